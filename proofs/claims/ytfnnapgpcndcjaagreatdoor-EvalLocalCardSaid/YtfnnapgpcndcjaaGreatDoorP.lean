/-
  A part of the proof of a law: see the text that states it.
-/
import Derived.Test.YtfnnapgpcndcjaaGreatDoorHead
import Derived.Test.YtfnnapgpcndcjaaGreatDoorAm4
import Derived.Test.YtfnnapgpcndcjaaGreatDoorChecked
import Derived.Lib.Walk
set_option linter.all false
namespace Go.Proofs
open Go.Am (run_eql_nilS cloneCode cloneAct)
set_option maxHeartbeats 1000000 in
set_option maxRecDepth 100000 in
theorem Tryz.amCloneNil (w:World):Calls Tryz.prog 69 #[.slice none 0 0] w fun e w'=>e=.returned (.slice none 0 0)∧w'=w:=by
 have hu:Tryz.prog.underlying 33=some (.slice 3):=by kernel_rfl
 go_enter Tryz.func69,Tryz.ntmps69
 go_wp2
 rw [run_eql_nilS hu]
 simp only [Result.andThen]
 rw [Oper.upon_value]
 go_wp2
 go_ret
 exact ⟨rfl,rfl⟩
set_option maxRecDepth 100000 in
theorem Tryz.amCloneSome (a:Addr) (n c:Nat) (w:World) (Q:Ending→World→Prop) (h:(cloneCode 33 "slices.go:362").wp Tryz.prog (bodyPost Tryz.prog Tryz.f69 Q) (cloneAct (.slice (some a) n c)) w):Calls Tryz.prog 69 #[.slice (some a) n c] w Q:=by
 have hu:Tryz.prog.underlying 33=some (.slice 3):=by kernel_rfl
 go_enter Tryz.func69,Tryz.ntmps69
 go_wp2
 rw [run_eql_nilS hu]
 simp only [Result.andThen]
 rw [Oper.upon_value]
 rename_i K2 h2 K1 h1 K0 h0
 refine h0 _ _ ?_
 refine h1 _ _ ?_
 refine wp_cond (show _=Value.bool false from rfl) ?_
 simp only [Bool.false_eq_true,if_false]
 refine wp_skip ?_
 refine h2 _ _ ?_
 exact h
end Go.Proofs
namespace Go.Am.Z
open Go Go.Am.Pr Go.Proofs
set_option maxRecDepth 100000
theorem prim69 (hO:OrcOK PP orc) (args:List AV) (r:AV) (hg:clonePrim (.int .i64) args=some r):hasBody PP 69∧∀ (FB:Nat→Nat→Prop) (w:World) (h:Heap) (ι:Key→Nat) (vs:Array Value),args.length=vs.size→Rel orc FB w ⟨args,h⟩ (tmArgs vs) ι →
  Calls PP 69 vs w fun e w'=>∃ v ι',e=.returned v∧Goes orc FB w ⟨args,h⟩ (tmArgs vs) ι w' ⟨[r],h⟩ (fun _=>v) ι':=by
 have hb:hasBody PP 69:=⟨Tryz.f69,Tryz.func69,by kernel_rfl,by kernel_rfl⟩
 obtain ⟨own,l,rfl,hl,rfl⟩:=clonePrim_some hg
 refine ⟨hb,fun FB w h ι vs hvs H=>?_⟩
 exact clone_ok (fn:=Tryz.f69) (T:=33) (p := "slices.go:362") hO (by kernel_rfl) ⟨⟨by kernel_rfl,by kernel_rfl,by kernel_rfl⟩,fun i=>rfl⟩ rfl rfl hb Tryz.amCloneNil Tryz.amCloneSome hl FB w h ι vs hvs H
end Go.Am.Z
