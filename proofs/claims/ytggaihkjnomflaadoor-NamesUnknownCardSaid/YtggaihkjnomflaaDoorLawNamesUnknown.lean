/-
  tronagelaw08.NamesUnknown answers true whatever its arguments are, and leaves them as they were; the tables lexer.words and lexer.escapes are as the text of the program lays them.
-/
import Derived.Test.YtggaihkjnomflaaDoorPV
import Derived.Test.YtggaihkjnomflaaDoorBase
set_option linter.all false
namespace Go.Am.D
open Go Go.Proofs Go.Proofs.YtggaihkjnomflaaDoor
open Go.ChangeShapes Go.WideShapes Go.ChangeAt Go.RowKit
set_option maxRecDepth 100000
theorem readable6:∀ t∈Tryd.f6.params.toList,Tryd.prog.readableRec t=true∧t<Tryd.prog.types.size:=by
 rw [Tryd.params6]
 intro t ht
 simp only [List.mem_cons,List.not_mem_nil,or_false] at ht
 rcases ht with rfl | rfl | rfl <;> exact ⟨by kernel_rfl,of_decide_eq_true (by kernel_rfl)⟩
theorem typed6:∀ T∈Tryd.f6.params.toList,∃ t,orc.ty T=some t∧t.opn=true:=by
 rw [Tryd.params6]
 intro t ht
 simp only [List.mem_cons,List.not_mem_nil,or_false] at ht
 rcases ht with rfl | rfl | rfl <;> exact ⟨_,rfl,rfl⟩
theorem all6 (W:World) (vs:List Value) (l:List AV) (h:ArgsAre PP orc W Tryd.f6.params.toList vs l):∃ k own h',callF PP orc k 6 l []=some (.tv own .bool true,h'):=by
 rw [Tryd.params6] at h
 obtain ⟨t0,x0,l0,vs0,ht0,rfl,hi0,h0⟩:=h.cons
 obtain ⟨t1,x1,l1,vs1,ht1,rfl,hi1,h1⟩:=h0.cons
 obtain ⟨t2,x2,l2,vs2,ht2,rfl,hi2,h2⟩:=h1.cons
 obtain rfl:=h2.nil
 cases ht0
 cases ht1
 cases ht2
 exact of_E (unknown x0 x1 x2 hi0 (u8_wf hi1))
theorem lifted6 (os:Os) (started:os.Started) (H:Type) (enc:TypeId×Value→H) :
  ReturnsInHanded {} Tryd.checked os 6 .any (fun w args=>(Rows.namesUnknownSpec.pre enc Tryd.prog Tryd.f6 [] false w args∧laidMetH Tryd.prog [("tronage/lexer.words",Rows.laid_tronage_lexer_words),("tronage/lexer.escapes",Rows.laid_tronage_lexer_escapes)] w)∧sizedMet enc Tryd.prog Tryd.f6 (OpenSpec.ofChange Rows.namesUnknownSpec) false w args)
   (Rows.namesUnknownSpec.post enc Tryd.prog Tryd.f6 false true false false):=by
 refine returnsInHanded_of_change_and (C:=Tryd.checked) (X:=fun w _=>laidMetH Tryd.prog [("tronage/lexer.words",Rows.laid_tronage_lexer_words),("tronage/lexer.escapes",Rows.laid_tronage_lexer_escapes)] w) (fun _ _ _ hh h=>h.of_heap hh) own started (by kernel_rfl) Tryd.func6
  (ChangeSpec.witness_at (enc:=enc) (C:=Tryd.checked) (os:=os) (X:=fun w _=>laidMetH Tryd.prog [("tronage/lexer.words",Rows.laid_tronage_lexer_words),("tronage/lexer.escapes",Rows.laid_tronage_lexer_escapes)] w) false (laidWorld os) #[.agg #[.int .u8 0,.int .u8 0,.slice none 0 0,.slice none 0 0,.slice none 0 0,.slice none 0 0,.slice none 0 0],.int .u8 0,.bool false] 8 rfl (by kernel_rfl) (by kernel_rfl) (by kernel_rfl) (by kernel_rfl) (by kernel_rfl) (laidWorld_met os _)) ?_
 intro W base args ds gs before hval hW _ _ hL _
 refine row_contract progOK laidOut typ4 rfl rfl readable6 typed6 (fun ds h=>?_) all6 W base args ds gs before (globAt hL) hval hW
 rw [show Tryd.f6.params.size=3 by kernel_rfl] at h
 match ds,h with
 | [d0,d1,d2],_=>rfl
end Go.Am.D
namespace Go.Proofs.YtggaihkjnomflaaDoor
open Go
set_option maxRecDepth 100000
theorem NamesUnknown_holds:Rows.NamesUnknownSaid :=
 OpenClaim.holds_of_wide 6 Tryd.f6 rfl rfl rfl rfl rfl rfl rfl ⟨rfl,rfl,rfl,rfl,rfl⟩ rfl rfl rfl rfl rfl (by kernel_rfl) Tryd.func6 (by kernel_rfl)
  (of_decide_eq_true (by kernel_rfl)) (by unfold Func.isWrapper;first | (rw [if_pos (by decide +kernel)];kernel_rfl) | (rw [if_neg (by decide +kernel)];exact ⟨rfl,rfl⟩))
  (fun os started H enc _=>Go.Am.D.lifted6 os started H enc)
theorem NamesUnknown_card:Rows.NamesUnknownCardSaid :=
 Claim7.holds_tied_plain_at .later [] [.widerDeep,.data] true (true, "c911ca29711ce8947f3c98f71e456557eb33500f2eefffa754ffdd048eb152de") false
  NamesUnknown_holds (fun _ h=>by cases h) (by kernel_rfl) (fun _ h=>by cases h) namesUnknown_row_tie rfl ⟨rfl,rfl⟩ (by kernel_rfl) rfl
  (fun f fn hf hfn=>by
   obtain rfl:f=6:=Option.some.inj ((show Tryd.prog.funcNamed "tronage/tronagelaw08.NamesUnknown"=some 6 by kernel_rfl).symm.trans hf) |>.symm
   obtain rfl:fn=Tryd.f6:=(Option.some.inj (Tryd.func6.symm.trans hfn)).symm
   exact ⟨by kernel_rfl,fun j t ht=>by
    rw [Tryd.params6] at ht
    have hm:=Array.mem_of_getElem? ht
    simp only [List.mem_toArray,List.mem_cons,List.not_mem_nil,or_false] at hm
    rcases hm with rfl | rfl | rfl
    ·exact (show Tryd.prog.wantsStandIn 53=false by kernel_rfl)
    ·exact (show Tryd.prog.wantsStandIn 5=false by kernel_rfl)
    ·exact (show Tryd.prog.wantsStandIn 4=false by kernel_rfl)⟩)
  (by kernel_rfl)
#print axioms NamesUnknown_card
end Go.Proofs.YtggaihkjnomflaaDoor
