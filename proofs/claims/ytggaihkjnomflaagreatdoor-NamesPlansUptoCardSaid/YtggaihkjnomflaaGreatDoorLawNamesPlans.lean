/-
  tronagelaw08.NamesPlans answers true whatever its arguments are, of bulk at most 1048576, and leaves them as they were; the tables lexer.words and lexer.escapes are as the text of the program lays them.
-/
import Derived.Test.YtggaihkjnomflaaGreatDoorPL
import Derived.Test.YtggaihkjnomflaaGreatDoorBase
import Derived.Test.YtggaihkjnomflaaGreatDoorBulk
import Derived.Deep.DeepHandedRow
import Derived.Lib.LaidTab
set_option linter.all false
namespace Go.Am.N
open Go Go.Proofs Go.Proofs.YtggaihkjnomflaaGreatDoor
open Go.ChangeShapes Go.WideShapes Go.ChangeAt Go.RowKit
set_option maxRecDepth 100000
theorem readable3:∀ t∈Tryz.f3.params.toList,Tryz.prog.readableRec t=true∧t<Tryz.prog.types.size:=by
 rw [Tryz.params3]
 intro t ht
 simp only [List.mem_cons,List.not_mem_nil,or_false] at ht
 subst ht <;> exact ⟨by kernel_rfl,of_decide_eq_true (by kernel_rfl)⟩
theorem typed3:∀ T∈Tryz.f3.params.toList,∃ t,orc.ty T=some t∧t.opn=true:=by
 rw [Tryz.params3]
 intro t ht
 simp only [List.mem_cons,List.not_mem_nil,or_false] at ht
 subst ht <;> exact ⟨_,rfl,rfl⟩
theorem all3 (W:World) (vs:List Value) (l:List AV) (h:ArgsAre PP orc W Tryz.f3.params.toList vs l) (hw:wA l≤1048576):∃ k own h',callF PP orc k 3 l []=some (.tv own .bool true,h'):=by
 rw [Tryz.params3] at h
 obtain ⟨t0,x0,l0,vs0,ht0,rfl,hi0,h0⟩:=h.cons
 obtain rfl:=h0.nil
 cases ht0
 simp only [wA,Nat.add_zero] at hw
 exact of_E (plans x0 hi0 hw)
theorem reads3 (os:Os) {H:Type} (enc:TypeId×Value→H):∃ places,DataW.whole enc Tryz.prog ((laidWorld os).forCall (fun _ _=>0) ⟨#[],#[.agg #[.slice none 0 0,.slice none 0 0,.slice none 0 0,.string ⟨#[]⟩,.slice none 0 0]],[]⟩).memory Tryz.f3.params.toList Rows.namesPlansSpec.vars false (#[.agg #[.slice none 0 0,.slice none 0 0,.slice none 0 0,.string ⟨#[]⟩,.slice none 0 0]]:Array Value).toList 8=some ([.agg [.nil,.nil,.nil,.lit (.string []),.nil]],[],places) :=
 ⟨[],by kernel_rfl⟩
theorem lifted3 (os:Os) (started:os.Started) (H:Type) (enc:TypeId×Value→H) (F:Stop.Interp) :
  ReturnsInHanded {} Tryz.checked os 3 .any ((Rows.OpenSpec.upto Rows.namesPlansSpec).preRow enc Tryz.prog Tryz.f3 Rows.namesPlansUptoRow.domain false Rows.namesPlansUptoRow.laid) (((Rows.OpenSpec.upto Rows.namesPlansSpec).at F).post enc Tryz.prog Tryz.f3 false true false false):=by
 obtain ⟨places,hx⟩:=reads3 os enc
 refine returnsInHanded_of_row (C:=Tryz.checked) (s:=Rows.OpenSpec.upto Rows.namesPlansSpec) own started (by kernel_rfl) Tryz.func3
  (witness_row_at (enc:=enc) (C:=Tryz.checked) false (laidWorld os) #[.agg #[.slice none 0 0,.slice none 0 0,.slice none 0 0,.string ⟨#[]⟩,.slice none 0 0]] rfl (by kernel_rfl) (by kernel_rfl) (by kernel_rfl)
   (OpenSpec.preRow_of_cond 8 hx (by kernel_rfl) (fun k hk=>by cases hk;kernel_rfl) (by kernel_rfl) (laidWorld_met os _))) ?_
 intro W base args ds gs before hval hW _ hcond _ hL _ _
 refine row_bulk bulkOK 1048576 progOK laidOut typ4 rfl rfl readable3 typed3 (fun ds h=>?_) all3 W base args ds gs before (globAt hL) hval hW ?_
 ·rw [show Tryz.f3.params.size=1 by kernel_rfl] at h
  match ds,h with
  | [d0],_=>rfl
 ·have hb:=bound (hcond _ rfl)
  refine Nat.le_trans ?_ hb
  exact bulk_left ds gs
end Go.Am.N
namespace Go.Proofs.YtggaihkjnomflaaGreatDoor
open Go
set_option maxRecDepth 100000
theorem NamesPlans_holds:Rows.NamesPlansUptoSaid :=
 OpenClaim.holds_of_cond 3 Tryz.f3 rfl rfl rfl rfl rfl rfl rfl ⟨rfl,rfl,rfl,rfl,rfl⟩ rfl rfl rfl rfl rfl (by kernel_rfl) Tryz.func3 (by kernel_rfl)
  (of_decide_eq_true (by kernel_rfl)) (by unfold Func.isWrapper;first | (rw [if_pos (by decide +kernel)];kernel_rfl) | (rw [if_neg (by decide +kernel)];exact ⟨rfl,rfl⟩))
  (fun os started H enc _ F=>by rw [OpenClaim.pre_eq_preRow];exact Go.Am.N.lifted3 os started H enc F)
theorem NamesPlans_card:Rows.NamesPlansUptoCardSaid :=
 Claim7.holds_tied_plain_at .later [] [.widerDeep,.data] true (true, "d1afbb2a000c68ea04ea409f775ca9ccb99d227b5aacfd81729ae76b7ba152fc") false
  NamesPlans_holds (fun _ h=>by cases h) (by kernel_rfl) (fun _ h=>by cases h) namesPlansUpto_row_tie rfl ⟨rfl,rfl⟩ (by kernel_rfl) rfl
  (fun f fn hf hfn=>by
   obtain rfl:f=3:=Option.some.inj ((show Tryz.prog.funcNamed "tronage/tronagelaw08.NamesPlans"=some 3 by kernel_rfl).symm.trans hf) |>.symm
   obtain rfl:fn=Tryz.f3:=(Option.some.inj (Tryz.func3.symm.trans hfn)).symm
   exact ⟨by kernel_rfl,fun j t ht=>by
    rw [Tryz.params3] at ht
    have hm:=Array.mem_of_getElem? ht
    simp only [List.mem_toArray,List.mem_cons,List.not_mem_nil,or_false] at hm
    subst hm
    exact (show Tryz.prog.wantsStandIn 27=false by kernel_rfl)⟩)
  (by kernel_rfl)
#print axioms NamesPlans_card
end Go.Proofs.YtggaihkjnomflaaGreatDoor
