/-
  tronagelaw08.NamesRules answers true whatever its arguments are, of bulk at most 1048576, and leaves them as they were; the tables lexer.words and lexer.escapes are as the text of the program lays them.
-/
import Derived.Test.YtggaihkjnomflaaDoorPI
import Derived.Test.YtggaihkjnomflaaDoorBase
import Derived.Test.YtggaihkjnomflaaDoorBulk
import Derived.Deep.DeepHandedRow
import Derived.Lib.LaidTab
set_option linter.all false
namespace Go.Am.D
open Go Go.Proofs Go.Proofs.YtggaihkjnomflaaDoor
open Go.ChangeShapes Go.WideShapes Go.ChangeAt Go.RowKit
set_option maxRecDepth 100000
theorem readable4:∀ t∈Tryd.f4.params.toList,Tryd.prog.readableRec t=true∧t<Tryd.prog.types.size:=by
 rw [Tryd.params4]
 intro t ht
 simp only [List.mem_cons,List.not_mem_nil,or_false] at ht
 subst ht <;> exact ⟨by kernel_rfl,of_decide_eq_true (by kernel_rfl)⟩
theorem typed4:∀ T∈Tryd.f4.params.toList,∃ t,orc.ty T=some t∧t.opn=true:=by
 rw [Tryd.params4]
 intro t ht
 simp only [List.mem_cons,List.not_mem_nil,or_false] at ht
 subst ht <;> exact ⟨_,rfl,rfl⟩
theorem all4 (W:World) (vs:List Value) (l:List AV) (h:ArgsAre PP orc W Tryd.f4.params.toList vs l) (hw:wA l≤1048576):∃ k own h',callF PP orc k 4 l []=some (.tv own .bool true,h'):=by
 rw [Tryd.params4] at h
 obtain ⟨t0,x0,l0,vs0,ht0,rfl,hi0,h0⟩:=h.cons
 obtain rfl:=h0.nil
 cases ht0
 simp only [wA,Nat.add_zero] at hw
 exact of_E (rules x0 hi0 hw)
theorem reads4 (os:Os) {H:Type} (enc:TypeId×Value→H):∃ places,DataW.whole enc Tryd.prog ((laidWorld os).forCall (fun _ _=>0) ⟨#[],#[.agg #[.slice none 0 0,.slice none 0 0,.slice none 0 0,.string ⟨#[]⟩,.slice none 0 0]],[]⟩).memory Tryd.f4.params.toList Rows.namesRulesSpec.vars false (#[.agg #[.slice none 0 0,.slice none 0 0,.slice none 0 0,.string ⟨#[]⟩,.slice none 0 0]]:Array Value).toList 8=some ([.agg [.nil,.nil,.nil,.lit (.string []),.nil]],[],places) :=
 ⟨[],by kernel_rfl⟩
theorem lifted4 (os:Os) (started:os.Started) (H:Type) (enc:TypeId×Value→H) (F:Stop.Interp) :
  ReturnsInHanded {} Tryd.checked os 4 .any ((Rows.OpenSpec.upto Rows.namesRulesSpec).preRow enc Tryd.prog Tryd.f4 Rows.namesRulesUptoRow.domain false Rows.namesRulesUptoRow.laid) (((Rows.OpenSpec.upto Rows.namesRulesSpec).at F).post enc Tryd.prog Tryd.f4 false true false false):=by
 obtain ⟨places,hx⟩:=reads4 os enc
 refine returnsInHanded_of_row (C:=Tryd.checked) (s:=Rows.OpenSpec.upto Rows.namesRulesSpec) own started (by kernel_rfl) Tryd.func4
  (witness_row_at (enc:=enc) (C:=Tryd.checked) false (laidWorld os) #[.agg #[.slice none 0 0,.slice none 0 0,.slice none 0 0,.string ⟨#[]⟩,.slice none 0 0]] rfl (by kernel_rfl) (by kernel_rfl) (by kernel_rfl)
   (OpenSpec.preRow_of_cond 8 hx (by kernel_rfl) (fun k hk=>by cases hk;kernel_rfl) (by kernel_rfl) (laidWorld_met os _))) ?_
 intro W base args ds gs before hval hW _ hcond _ hL _ _
 refine row_bulk bulkOK 1048576 progOK laidOut typ4 rfl rfl readable4 typed4 (fun ds h=>?_) all4 W base args ds gs before (globAt hL) hval hW ?_
 ·rw [show Tryd.f4.params.size=1 by kernel_rfl] at h
  match ds,h with
  | [d0],_=>rfl
 ·have hb:=bound (hcond _ rfl)
  refine Nat.le_trans ?_ hb
  exact bulk_left ds gs
end Go.Am.D
namespace Go.Proofs.YtggaihkjnomflaaDoor
open Go
set_option maxRecDepth 100000
theorem NamesRules_holds:Rows.NamesRulesUptoSaid :=
 OpenClaim.holds_of_cond 4 Tryd.f4 rfl rfl rfl rfl rfl rfl rfl ⟨rfl,rfl,rfl,rfl,rfl⟩ rfl rfl rfl rfl rfl (by kernel_rfl) Tryd.func4 (by kernel_rfl)
  (of_decide_eq_true (by kernel_rfl)) (by unfold Func.isWrapper;first | (rw [if_pos (by decide +kernel)];kernel_rfl) | (rw [if_neg (by decide +kernel)];exact ⟨rfl,rfl⟩))
  (fun os started H enc _ F=>by rw [OpenClaim.pre_eq_preRow];exact Go.Am.D.lifted4 os started H enc F)
theorem NamesRules_card:Rows.NamesRulesUptoCardSaid :=
 Claim7.holds_tied_plain_at .later [] [.widerDeep,.data] true (true, "c911ca29711ce8947f3c98f71e456557eb33500f2eefffa754ffdd048eb152de") false
  NamesRules_holds (fun _ h=>by cases h) (by kernel_rfl) (fun _ h=>by cases h) namesRulesUpto_row_tie rfl ⟨rfl,rfl⟩ (by kernel_rfl) rfl
  (fun f fn hf hfn=>by
   obtain rfl:f=4:=Option.some.inj ((show Tryd.prog.funcNamed "tronage/tronagelaw08.NamesRules"=some 4 by kernel_rfl).symm.trans hf) |>.symm
   obtain rfl:fn=Tryd.f4:=(Option.some.inj (Tryd.func4.symm.trans hfn)).symm
   exact ⟨by kernel_rfl,fun j t ht=>by
    rw [Tryd.params4] at ht
    have hm:=Array.mem_of_getElem? ht
    simp only [List.mem_toArray,List.mem_cons,List.not_mem_nil,or_false] at hm
    subst hm
    exact (show Tryd.prog.wantsStandIn 27=false by kernel_rfl)⟩)
  (by kernel_rfl)
#print axioms NamesRules_card
end Go.Proofs.YtggaihkjnomflaaDoor
