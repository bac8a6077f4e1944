/-
  tronagelaw08.NamesLevels answers true whatever its argument is, and leaves it as it was; the tables lexer.words and lexer.escapes are as the text of the program lays them.
-/
import Derived.Test.YtggaihkjnomflaaDoorPM
import Derived.Test.YtggaihkjnomflaaDoorBase
set_option linter.all false
namespace Go.Am.D
open Go Go.Proofs Go.Proofs.YtggaihkjnomflaaDoor
open Go.ChangeShapes Go.WideShapes Go.ChangeAt Go.RowKit
set_option maxRecDepth 100000
theorem readable5:∀ t∈Tryd.f5.params.toList,Tryd.prog.readableRec t=true∧t<Tryd.prog.types.size:=by
 rw [Tryd.params5]
 intro t ht
 simp only [List.mem_cons,List.not_mem_nil,or_false] at ht
 subst ht <;> exact ⟨by kernel_rfl,of_decide_eq_true (by kernel_rfl)⟩
theorem typed5:∀ T∈Tryd.f5.params.toList,∃ t,orc.ty T=some t∧t.opn=true:=by
 rw [Tryd.params5]
 intro t ht
 simp only [List.mem_cons,List.not_mem_nil,or_false] at ht
 subst ht <;> exact ⟨_,rfl,rfl⟩
theorem all5 (W:World) (vs:List Value) (l:List AV) (h:ArgsAre PP orc W Tryd.f5.params.toList vs l):∃ k own h',callF PP orc k 5 l []=some (.tv own .bool true,h'):=by
 rw [Tryd.params5] at h
 obtain ⟨t0,x0,l0,vs0,ht0,rfl,hi0,h0⟩:=h.cons
 obtain rfl:=h0.nil
 cases ht0
 exact of_E (levels x0 hi0)
theorem lifted5 (os:Os) (started:os.Started) (H:Type) (enc:TypeId×Value→H) :
  ReturnsInHanded {} Tryd.checked os 5 .any (fun w args=>(Rows.namesLevelsSpec.pre enc Tryd.prog Tryd.f5 [] false w args∧laidMetH Tryd.prog [("tronage/lexer.words",Rows.laid_tronage_lexer_words),("tronage/lexer.escapes",Rows.laid_tronage_lexer_escapes)] w)∧sizedMet enc Tryd.prog Tryd.f5 (OpenSpec.ofChange Rows.namesLevelsSpec) false w args)
   (Rows.namesLevelsSpec.post enc Tryd.prog Tryd.f5 false true false false):=by
 refine returnsInHanded_of_change_and (C:=Tryd.checked) (X:=fun w _=>laidMetH Tryd.prog [("tronage/lexer.words",Rows.laid_tronage_lexer_words),("tronage/lexer.escapes",Rows.laid_tronage_lexer_escapes)] w) (fun _ _ _ hh h=>h.of_heap hh) own started (by kernel_rfl) Tryd.func5
  (ChangeSpec.witness_at (enc:=enc) (C:=Tryd.checked) (os:=os) (X:=fun w _=>laidMetH Tryd.prog [("tronage/lexer.words",Rows.laid_tronage_lexer_words),("tronage/lexer.escapes",Rows.laid_tronage_lexer_escapes)] w) false (laidWorld os) #[.agg #[.int .u8 0,.int .u8 0,.slice none 0 0,.slice none 0 0,.slice none 0 0,.slice none 0 0,.slice none 0 0]] 8 rfl (by kernel_rfl) (by kernel_rfl) (by kernel_rfl) (by kernel_rfl) (by kernel_rfl) (laidWorld_met os _)) ?_
 intro W base args ds gs before hval hW _ _ hL _
 refine row_contract progOK laidOut typ4 rfl rfl readable5 typed5 (fun ds h=>?_) all5 W base args ds gs before (globAt hL) hval hW
 rw [show Tryd.f5.params.size=1 by kernel_rfl] at h
 match ds,h with
 | [d0],_=>rfl
end Go.Am.D
namespace Go.Proofs.YtggaihkjnomflaaDoor
open Go
set_option maxRecDepth 100000
theorem NamesLevels_holds:Rows.NamesLevelsSaid :=
 OpenClaim.holds_of_wide 5 Tryd.f5 rfl rfl rfl rfl rfl rfl rfl ⟨rfl,rfl,rfl,rfl,rfl⟩ rfl rfl rfl rfl rfl (by kernel_rfl) Tryd.func5 (by kernel_rfl)
  (of_decide_eq_true (by kernel_rfl)) (by unfold Func.isWrapper;first | (rw [if_pos (by decide +kernel)];kernel_rfl) | (rw [if_neg (by decide +kernel)];exact ⟨rfl,rfl⟩))
  (fun os started H enc _=>Go.Am.D.lifted5 os started H enc)
theorem NamesLevels_card:Rows.NamesLevelsCardSaid :=
 Claim7.holds_tied_plain_at .later [] [.widerDeep,.data] true (true, "c911ca29711ce8947f3c98f71e456557eb33500f2eefffa754ffdd048eb152de") false
  NamesLevels_holds (fun _ h=>by cases h) (by kernel_rfl) (fun _ h=>by cases h) namesLevels_row_tie rfl ⟨rfl,rfl⟩ (by kernel_rfl) rfl
  (fun f fn hf hfn=>by
   obtain rfl:f=5:=Option.some.inj ((show Tryd.prog.funcNamed "tronage/tronagelaw08.NamesLevels"=some 5 by kernel_rfl).symm.trans hf) |>.symm
   obtain rfl:fn=Tryd.f5:=(Option.some.inj (Tryd.func5.symm.trans hfn)).symm
   exact ⟨by kernel_rfl,fun j t ht=>by
    rw [Tryd.params5] at ht
    have hm:=Array.mem_of_getElem? ht
    simp only [List.mem_toArray,List.mem_cons,List.not_mem_nil,or_false] at hm
    subst hm
    exact (show Tryd.prog.wantsStandIn 53=false by kernel_rfl)⟩)
  (by kernel_rfl)
#print axioms NamesLevels_card
end Go.Proofs.YtggaihkjnomflaaDoor
