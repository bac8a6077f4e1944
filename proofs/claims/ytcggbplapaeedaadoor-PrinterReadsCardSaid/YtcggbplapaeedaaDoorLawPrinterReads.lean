/-
  tronagelaw07.PrinterReads answers true whatever its argument is, and leaves it as it was; the tables lexer.words and lexer.escapes are as the text of the program lays them.
-/
import Derived.Test.YtcggbplapaeedaaDoorZT
import Derived.Test.YtcggbplapaeedaaDoorBase
set_option linter.all false
namespace Go.Am.R
open Go Go.Proofs Go.Proofs.YtcggbplapaeedaaDoor
open Go.ChangeShapes Go.WideShapes Go.ChangeAt Go.RowKit
set_option maxRecDepth 100000
theorem readable11:∀ t∈Tryd.f11.params.toList,Tryd.prog.readableRec t=true∧t<Tryd.prog.types.size:=by
 rw [Tryd.params11]
 intro t ht
 simp only [List.mem_cons,List.not_mem_nil,or_false] at ht
 subst ht <;> exact ⟨by kernel_rfl,of_decide_eq_true (by kernel_rfl)⟩
theorem typed11:∀ T∈Tryd.f11.params.toList,∃ t,orc.ty T=some t∧t.opn=true:=by
 rw [Tryd.params11]
 intro t ht
 simp only [List.mem_cons,List.not_mem_nil,or_false] at ht
 subst ht <;> exact ⟨_,rfl,rfl⟩
theorem all11 (W:World) (vs:List Value) (l:List AV) (h:ArgsAre PP orc W Tryd.f11.params.toList vs l):∃ k own h',callF PP orc k 11 l []=some (.tv own .bool true,h'):=by
 rw [Tryd.params11] at h
 obtain ⟨t0,x0,l0,vs0,ht0,rfl,hi0,h0⟩:=h.cons
 obtain rfl:=h0.nil
 cases ht0
 exact of_E (reads x0 hi0.2)
theorem lifted11 (os:Os) (started:os.Started) (H:Type) (enc:TypeId×Value→H) :
  ReturnsInHanded {} Tryd.checked os 11 .any (fun w args=>(Rows.printerReadsSpec.pre enc Tryd.prog Tryd.f11 [] false w args∧laidMetH Tryd.prog [("tronage/lexer.words",Rows.laid_tronage_lexer_words),("tronage/lexer.escapes",Rows.laid_tronage_lexer_escapes)] w)∧sizedMet enc Tryd.prog Tryd.f11 (OpenSpec.ofChange Rows.printerReadsSpec) false w args)
   (Rows.printerReadsSpec.post enc Tryd.prog Tryd.f11 false true false false):=by
 refine returnsInHanded_of_change_and (C:=Tryd.checked) (X:=fun w _=>laidMetH Tryd.prog [("tronage/lexer.words",Rows.laid_tronage_lexer_words),("tronage/lexer.escapes",Rows.laid_tronage_lexer_escapes)] w) (fun _ _ _ hh h=>h.of_heap hh) own started (by kernel_rfl) Tryd.func11
  (ChangeSpec.witness_at (enc:=enc) (C:=Tryd.checked) (os:=os) (X:=fun w _=>laidMetH Tryd.prog [("tronage/lexer.words",Rows.laid_tronage_lexer_words),("tronage/lexer.escapes",Rows.laid_tronage_lexer_escapes)] w) false (laidWorld os) #[.string ⟨#[]⟩] 8 rfl (by kernel_rfl) (by kernel_rfl) (by kernel_rfl) (by kernel_rfl) (by kernel_rfl) (laidWorld_met os _)) ?_
 intro W base args ds gs before hval hW _ _ hL _
 refine row_contract progOK laidOut typ4 rfl rfl readable11 typed11 (fun ds h=>?_) all11 W base args ds gs before (globAt hL) hval hW
 rw [show Tryd.f11.params.size=1 by kernel_rfl] at h
 match ds,h with
 | [d0],_=>rfl
end Go.Am.R
namespace Go.Proofs.YtcggbplapaeedaaDoor
open Go
set_option maxRecDepth 100000
theorem PrinterReads_holds:Rows.PrinterReadsSaid :=
 OpenClaim.holds_of_wide 11 Tryd.f11 rfl rfl rfl rfl rfl rfl rfl ⟨rfl,rfl,rfl,rfl,rfl⟩ rfl rfl rfl rfl rfl (by kernel_rfl) Tryd.func11 (by kernel_rfl)
  (of_decide_eq_true (by kernel_rfl)) (by unfold Func.isWrapper;first | (rw [if_pos (by decide +kernel)];kernel_rfl) | (rw [if_neg (by decide +kernel)];exact ⟨rfl,rfl⟩))
  (fun os started H enc _=>Go.Am.R.lifted11 os started H enc)
theorem PrinterReads_card:Rows.PrinterReadsCardSaid :=
 Claim7.holds_tied_plain_at .later [] [.widerDeep,.data] true (true, "25aee13cbf4d26b0dec865d28682c7bc1273e106ef19f4f61418e6b24d4d11cb") false
  PrinterReads_holds (fun _ h=>by cases h) (by kernel_rfl) (fun _ h=>by cases h) printerReads_row_tie rfl ⟨rfl,rfl⟩ (by kernel_rfl) rfl
  (fun f fn hf hfn=>by
   obtain rfl:f=11:=Option.some.inj ((show Tryd.prog.funcNamed "tronage/tronagelaw07.PrinterReads"=some 11 by kernel_rfl).symm.trans hf) |>.symm
   obtain rfl:fn=Tryd.f11:=(Option.some.inj (Tryd.func11.symm.trans hfn)).symm
   exact ⟨by kernel_rfl,fun j t ht=>by
    rw [Tryd.params11] at ht
    have hm:=Array.mem_of_getElem? ht
    simp only [List.mem_toArray,List.mem_cons,List.not_mem_nil,or_false] at hm
    subst hm
    exact (show Tryd.prog.wantsStandIn 9=false by kernel_rfl)⟩)
  (by kernel_rfl)
#print axioms PrinterReads_card
end Go.Proofs.YtcggbplapaeedaaDoor
