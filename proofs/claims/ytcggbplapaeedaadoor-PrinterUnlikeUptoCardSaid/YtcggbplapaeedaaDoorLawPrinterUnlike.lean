/-
  tronagelaw07.PrinterUnlike answers true whatever its arguments are, of bulk at most 1048576, and leaves them as they were; the tables lexer.words and lexer.escapes are as the text of the program lays them.
-/
import Derived.Test.YtcggbplapaeedaaDoorZO
import Derived.Test.YtcggbplapaeedaaDoorBase
import Derived.Test.YtcggbplapaeedaaDoorBulk
import Derived.Deep.DeepHandedRow
import Derived.Lib.LaidTab
set_option linter.all false
namespace Go.Am.R
open Go Go.Proofs Go.Proofs.YtcggbplapaeedaaDoor
open Go.ChangeShapes Go.WideShapes Go.ChangeAt Go.RowKit
set_option maxRecDepth 100000
theorem readable8:∀ t∈Tryd.f8.params.toList,Tryd.prog.readableRec t=true∧t<Tryd.prog.types.size:=by
 rw [Tryd.params8]
 intro t ht
 simp only [List.mem_cons,List.not_mem_nil,or_false] at ht
 rcases ht with rfl | rfl <;> exact ⟨by kernel_rfl,of_decide_eq_true (by kernel_rfl)⟩
theorem typed8:∀ T∈Tryd.f8.params.toList,∃ t,orc.ty T=some t∧t.opn=true:=by
 rw [Tryd.params8]
 intro t ht
 simp only [List.mem_cons,List.not_mem_nil,or_false] at ht
 rcases ht with rfl | rfl <;> exact ⟨_,rfl,rfl⟩
theorem all8 (W:World) (vs:List Value) (l:List AV) (h:ArgsAre PP orc W Tryd.f8.params.toList vs l) (hw:wA l≤1048576):∃ k own h',callF PP orc k 8 l []=some (.tv own .bool true,h'):=by
 rw [Tryd.params8] at h
 obtain ⟨t0,x0,l0,vs0,ht0,rfl,hi0,h0⟩:=h.cons
 obtain ⟨t1,x1,l1,vs1,ht1,rfl,hi1,h1⟩:=h0.cons
 obtain rfl:=h1.nil
 cases ht0
 cases ht1
 simp only [wA,Nat.add_zero] at hw
 exact of_E (unlike x0 x1 hi0 hi1 hw)
theorem reads8 (os:Os) {H:Type} (enc:TypeId×Value→H):∃ places,DataW.whole enc Tryd.prog ((laidWorld os).forCall (fun _ _=>0) ⟨#[],#[.agg #[.slice none 0 0,.slice none 0 0,.slice none 0 0,.string ⟨#[]⟩,.slice none 0 0],.agg #[.slice none 0 0,.slice none 0 0,.slice none 0 0,.string ⟨#[]⟩,.slice none 0 0]],[]⟩).memory Tryd.f8.params.toList Rows.printerUnlikeSpec.vars false (#[.agg #[.slice none 0 0,.slice none 0 0,.slice none 0 0,.string ⟨#[]⟩,.slice none 0 0],.agg #[.slice none 0 0,.slice none 0 0,.slice none 0 0,.string ⟨#[]⟩,.slice none 0 0]]:Array Value).toList 8=some ([.agg [.nil,.nil,.nil,.lit (.string []),.nil],.agg [.nil,.nil,.nil,.lit (.string []),.nil]],[],places) :=
 ⟨[],by kernel_rfl⟩
theorem lifted8 (os:Os) (started:os.Started) (H:Type) (enc:TypeId×Value→H) (F:Stop.Interp) :
  ReturnsInHanded {} Tryd.checked os 8 .any ((Rows.OpenSpec.upto Rows.printerUnlikeSpec).preRow enc Tryd.prog Tryd.f8 Rows.printerUnlikeUptoRow.domain false Rows.printerUnlikeUptoRow.laid) (((Rows.OpenSpec.upto Rows.printerUnlikeSpec).at F).post enc Tryd.prog Tryd.f8 false true false false):=by
 obtain ⟨places,hx⟩:=reads8 os enc
 refine returnsInHanded_of_row (C:=Tryd.checked) (s:=Rows.OpenSpec.upto Rows.printerUnlikeSpec) own started (by kernel_rfl) Tryd.func8
  (witness_row_at (enc:=enc) (C:=Tryd.checked) false (laidWorld os) #[.agg #[.slice none 0 0,.slice none 0 0,.slice none 0 0,.string ⟨#[]⟩,.slice none 0 0],.agg #[.slice none 0 0,.slice none 0 0,.slice none 0 0,.string ⟨#[]⟩,.slice none 0 0]] rfl (by kernel_rfl) (by kernel_rfl) (by kernel_rfl)
   (OpenSpec.preRow_of_cond 8 hx (by kernel_rfl) (fun k hk=>by cases hk;kernel_rfl) (by kernel_rfl) (laidWorld_met os _))) ?_
 intro W base args ds gs before hval hW _ hcond _ hL _ _
 refine row_bulk bulkOK 1048576 progOK laidOut typ4 rfl rfl readable8 typed8 (fun ds h=>?_) all8 W base args ds gs before (globAt hL) hval hW ?_
 ·rw [show Tryd.f8.params.size=2 by kernel_rfl] at h
  match ds,h with
  | [d0,d1],_=>rfl
 ·have hb:=bound (hcond _ rfl)
  refine Nat.le_trans ?_ hb
  exact bulk_left ds gs
end Go.Am.R
namespace Go.Proofs.YtcggbplapaeedaaDoor
open Go
set_option maxRecDepth 100000
theorem PrinterUnlike_holds:Rows.PrinterUnlikeUptoSaid :=
 OpenClaim.holds_of_cond 8 Tryd.f8 rfl rfl rfl rfl rfl rfl rfl ⟨rfl,rfl,rfl,rfl,rfl⟩ rfl rfl rfl rfl rfl (by kernel_rfl) Tryd.func8 (by kernel_rfl)
  (of_decide_eq_true (by kernel_rfl)) (by unfold Func.isWrapper;first | (rw [if_pos (by decide +kernel)];kernel_rfl) | (rw [if_neg (by decide +kernel)];exact ⟨rfl,rfl⟩))
  (fun os started H enc _ F=>by rw [OpenClaim.pre_eq_preRow];exact Go.Am.R.lifted8 os started H enc F)
theorem PrinterUnlike_card:Rows.PrinterUnlikeUptoCardSaid :=
 Claim7.holds_tied_plain_at .later [] [.widerDeep,.data] true (true, "25aee13cbf4d26b0dec865d28682c7bc1273e106ef19f4f61418e6b24d4d11cb") false
  PrinterUnlike_holds (fun _ h=>by cases h) (by kernel_rfl) (fun _ h=>by cases h) printerUnlikeUpto_row_tie rfl ⟨rfl,rfl⟩ (by kernel_rfl) rfl
  (fun f fn hf hfn=>by
   obtain rfl:f=8:=Option.some.inj ((show Tryd.prog.funcNamed "tronage/tronagelaw07.PrinterUnlike"=some 8 by kernel_rfl).symm.trans hf) |>.symm
   obtain rfl:fn=Tryd.f8:=(Option.some.inj (Tryd.func8.symm.trans hfn)).symm
   exact ⟨by kernel_rfl,fun j t ht=>by
    rw [Tryd.params8] at ht
    have hm:=Array.mem_of_getElem? ht
    simp only [List.mem_toArray,List.mem_cons,List.not_mem_nil,or_false] at hm
    rcases hm with rfl | rfl
    ·exact (show Tryd.prog.wantsStandIn 28=false by kernel_rfl)
    ·exact (show Tryd.prog.wantsStandIn 28=false by kernel_rfl)⟩)
  (by kernel_rfl)
#print axioms PrinterUnlike_card
end Go.Proofs.YtcggbplapaeedaaDoor
