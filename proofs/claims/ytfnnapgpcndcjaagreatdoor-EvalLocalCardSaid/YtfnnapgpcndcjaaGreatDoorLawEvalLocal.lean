/-
  tronagelaw22.EvalLocal answers true whatever its arguments are, and leaves them as they were; the tables code.takes, utf8.first and utf8.acceptRanges are as the text of the program lays them.
-/
import Derived.Test.YtfnnapgpcndcjaaGreatDoorX3
import Derived.Test.YtfnnapgpcndcjaaGreatDoorBase
set_option linter.all false
namespace Go.Am.Z
open Go Go.Proofs Go.Proofs.YtfnnapgpcndcjaaGreatDoor
open Go.ChangeShapes Go.WideShapes Go.ChangeAt Go.RowKit
set_option maxRecDepth 100000
theorem readable3:∀ t∈Tryz.f3.params.toList,Tryz.prog.readableRec t=true∧t<Tryz.prog.types.size:=by
 rw [Tryz.params3]
 intro t ht
 simp only [List.mem_cons,List.not_mem_nil,or_false] at ht
 rcases ht with rfl | rfl | rfl | rfl | rfl | rfl | rfl <;> exact ⟨by kernel_rfl,of_decide_eq_true (by kernel_rfl)⟩
theorem typed3:∀ T∈Tryz.f3.params.toList,∃ t,orc.ty T=some t∧t.opn=true:=by
 rw [Tryz.params3]
 intro t ht
 simp only [List.mem_cons,List.not_mem_nil,or_false] at ht
 rcases ht with rfl | rfl | rfl | rfl | rfl | rfl | rfl <;> exact ⟨_,rfl,rfl⟩
theorem all3 (W:World) (vs:List Value) (l:List AV) (h:ArgsAre PP orc W Tryz.f3.params.toList vs l):∃ k own h',callF PP orc k 3 l []=some (.tv own .bool true,h'):=by
 rw [Tryz.params3] at h
 obtain ⟨t0,x0,l0,vs0,ht0,rfl,hi0,h0⟩:=h.cons
 obtain ⟨t1,x1,l1,vs1,ht1,rfl,hi1,h1⟩:=h0.cons
 obtain ⟨t2,x2,l2,vs2,ht2,rfl,hi2,h2⟩:=h1.cons
 obtain ⟨t3,x3,l3,vs3,ht3,rfl,hi3,h3⟩:=h2.cons
 obtain ⟨t4,x4,l4,vs4,ht4,rfl,hi4,h4⟩:=h3.cons
 obtain ⟨t5,x5,l5,vs5,ht5,rfl,hi5,h5⟩:=h4.cons
 obtain ⟨t6,x6,l6,vs6,ht6,rfl,hi6,h6⟩:=h5.cons
 obtain rfl:=h6.nil
 cases ht0
 cases ht1
 cases ht2
 cases ht3
 cases ht4
 cases ht5
 cases ht6
 exact of_E (Go.Am.Z.W.local_law x0 x1 x2 x3 x4 x5 x6 hi0 hi1 hi2 hi4 hi5 hi6)
theorem lifted3 (os:Os) (started:os.Started) (H:Type) (enc:TypeId×Value→H) :
  ReturnsInHanded {} Tryz.checked os 3 .any (fun w args=>(Rows.evalLocalSpec.pre enc Tryz.prog Tryz.f3 [] false w args∧laidMetH Tryz.prog [("unicode/utf8.acceptRanges",Rows.laid_unicode_utf8_acceptRanges),("tronage/code.takes",Rows.laid_tronage_code_takes),("unicode/utf8.first",Rows.laid_unicode_utf8_first)] w)∧sizedMet enc Tryz.prog Tryz.f3 (OpenSpec.ofChange Rows.evalLocalSpec) false w args)
   (Rows.evalLocalSpec.post enc Tryz.prog Tryz.f3 false true false false):=by
 refine returnsInHanded_of_change_and (C:=Tryz.checked) (X:=fun w _=>laidMetH Tryz.prog [("unicode/utf8.acceptRanges",Rows.laid_unicode_utf8_acceptRanges),("tronage/code.takes",Rows.laid_tronage_code_takes),("unicode/utf8.first",Rows.laid_unicode_utf8_first)] w) (fun _ _ _ hh h=>h.of_heap hh) own started (by kernel_rfl) Tryz.func3
  (ChangeSpec.witness_at (enc:=enc) (C:=Tryz.checked) (os:=os) (X:=fun w _=>laidMetH Tryz.prog [("unicode/utf8.acceptRanges",Rows.laid_unicode_utf8_acceptRanges),("tronage/code.takes",Rows.laid_tronage_code_takes),("unicode/utf8.first",Rows.laid_unicode_utf8_first)] w) false (laidWorld os) #[.agg #[.int .u8 0,.int .u8 0,.slice none 0 0,.slice none 0 0,.slice none 0 0,.slice none 0 0,.slice none 0 0],.slice none 0 0,.slice none 0 0,.slice none 0 0,.slice none 0 0,.string ⟨#[]⟩,.int .u8 0] 8 rfl (by kernel_rfl) (by kernel_rfl) (by kernel_rfl) (by kernel_rfl) (by kernel_rfl) (laidWorld_met os _)) ?_
 intro W base args ds gs before hval hW _ _ hL _
 refine row_contract progOK laidOut typ4 rfl rfl readable3 typed3 (fun ds h=>?_) all3 W base args ds gs before (globAt hL) hval hW
 rw [show Tryz.f3.params.size=7 by kernel_rfl] at h
 match ds,h with
 | [d0,d1,d2,d3,d4,d5,d6],_=>rfl
end Go.Am.Z
namespace Go.Proofs.YtfnnapgpcndcjaaGreatDoor
open Go
set_option maxRecDepth 100000
theorem EvalLocal_holds:Rows.EvalLocalSaid :=
 OpenClaim.holds_of_wide 3 Tryz.f3 rfl rfl rfl rfl rfl rfl rfl ⟨rfl,rfl,rfl,rfl,rfl⟩ rfl rfl rfl rfl rfl (by kernel_rfl) Tryz.func3 (by kernel_rfl)
  (of_decide_eq_true (by kernel_rfl)) (by unfold Func.isWrapper;first | (rw [if_pos (by decide +kernel)];kernel_rfl) | (rw [if_neg (by decide +kernel)];exact ⟨rfl,rfl⟩))
  (fun os started H enc _=>Go.Am.Z.lifted3 os started H enc)
theorem EvalLocal_card:Rows.EvalLocalCardSaid :=
 Claim7.holds_tied_plain_at .later [] [.data,.data,.pinned] true (true, "f9c92ded952ccc3378f51cd42b9e8300cc8ebed7b6d313f98e91861e02a96b06") false
  EvalLocal_holds (fun _ h=>by cases h) (by kernel_rfl) (fun _ h=>by cases h) evalLocal_row_tie rfl ⟨rfl,rfl⟩ (by kernel_rfl) rfl
  (fun f fn hf hfn=>by
   obtain rfl:f=3:=Option.some.inj ((show Tryz.prog.funcNamed "tronage/tronagelaw22.EvalLocal"=some 3 by kernel_rfl).symm.trans hf) |>.symm
   obtain rfl:fn=Tryz.f3:=(Option.some.inj (Tryz.func3.symm.trans hfn)).symm
   exact ⟨by kernel_rfl,fun j t ht=>by
    rw [Tryz.params3] at ht
    have hm:=Array.mem_of_getElem? ht
    simp only [List.mem_toArray,List.mem_cons,List.not_mem_nil,or_false] at hm
    rcases hm with rfl | rfl | rfl | rfl | rfl | rfl | rfl
    ·exact (show Tryz.prog.wantsStandIn 25=false by kernel_rfl)
    ·exact (show Tryz.prog.wantsStandIn 22=false by kernel_rfl)
    ·exact (show Tryz.prog.wantsStandIn 22=false by kernel_rfl)
    ·exact (show Tryz.prog.wantsStandIn 26=false by kernel_rfl)
    ·exact (show Tryz.prog.wantsStandIn 27=false by kernel_rfl)
    ·exact (show Tryz.prog.wantsStandIn 9=false by kernel_rfl)
    ·exact (show Tryz.prog.wantsStandIn 5=false by kernel_rfl)⟩)
  (by kernel_rfl)
#print axioms EvalLocal_card
end Go.Proofs.YtfnnapgpcndcjaaGreatDoor
