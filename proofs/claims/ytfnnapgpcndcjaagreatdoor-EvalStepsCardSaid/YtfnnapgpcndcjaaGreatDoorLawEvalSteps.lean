/-
  tronagelaw22.EvalSteps answers true whatever its arguments are, and leaves them as they were; the tables code.takes, utf8.first and utf8.acceptRanges are as the text of the program lays them.
-/
import Derived.Test.YtfnnapgpcndcjaaGreatDoorX2
import Derived.Test.YtfnnapgpcndcjaaGreatDoorBase
set_option linter.all false
namespace Go.Am.Z
open Go Go.Proofs Go.Proofs.YtfnnapgpcndcjaaGreatDoor
open Go.ChangeShapes Go.WideShapes Go.ChangeAt Go.RowKit
set_option maxRecDepth 100000
theorem readable5:∀ t∈Tryz.f5.params.toList,Tryz.prog.readableRec t=true∧t<Tryz.prog.types.size:=by
 rw [Tryz.params5]
 intro t ht
 simp only [List.mem_cons,List.not_mem_nil,or_false] at ht
 rcases ht with rfl | rfl | rfl | rfl | rfl | rfl <;> exact ⟨by kernel_rfl,of_decide_eq_true (by kernel_rfl)⟩
theorem typed5:∀ T∈Tryz.f5.params.toList,∃ t,orc.ty T=some t∧t.opn=true:=by
 rw [Tryz.params5]
 intro t ht
 simp only [List.mem_cons,List.not_mem_nil,or_false] at ht
 rcases ht with rfl | rfl | rfl | rfl | rfl | rfl <;> exact ⟨_,rfl,rfl⟩
theorem all5 (W:World) (vs:List Value) (l:List AV) (h:ArgsAre PP orc W Tryz.f5.params.toList vs l):∃ k own h',callF PP orc k 5 l []=some (.tv own .bool true,h'):=by
 rw [Tryz.params5] at h
 obtain ⟨t0,x0,l0,vs0,ht0,rfl,hi0,h0⟩:=h.cons
 obtain ⟨t1,x1,l1,vs1,ht1,rfl,hi1,h1⟩:=h0.cons
 obtain ⟨t2,x2,l2,vs2,ht2,rfl,hi2,h2⟩:=h1.cons
 obtain ⟨t3,x3,l3,vs3,ht3,rfl,hi3,h3⟩:=h2.cons
 obtain ⟨t4,x4,l4,vs4,ht4,rfl,hi4,h4⟩:=h3.cons
 obtain ⟨t5,x5,l5,vs5,ht5,rfl,hi5,h5⟩:=h4.cons
 obtain rfl:=h5.nil
 cases ht0
 cases ht1
 cases ht2
 cases ht3
 cases ht4
 cases ht5
 exact of_E (Go.Am.Z.W.steps_law x0 x1 x2 x3 x4 x5 hi0 hi1 hi3 hi4)
theorem lifted5 (os:Os) (started:os.Started) (H:Type) (enc:TypeId×Value→H) :
  ReturnsInHanded {} Tryz.checked os 5 .any (fun w args=>(Rows.evalStepsSpec.pre enc Tryz.prog Tryz.f5 [] false w args∧laidMetH Tryz.prog [("unicode/utf8.acceptRanges",Rows.laid_unicode_utf8_acceptRanges),("tronage/code.takes",Rows.laid_tronage_code_takes),("unicode/utf8.first",Rows.laid_unicode_utf8_first)] w)∧sizedMet enc Tryz.prog Tryz.f5 (OpenSpec.ofChange Rows.evalStepsSpec) false w args)
   (Rows.evalStepsSpec.post enc Tryz.prog Tryz.f5 false true false false):=by
 refine returnsInHanded_of_change_and (C:=Tryz.checked) (X:=fun w _=>laidMetH Tryz.prog [("unicode/utf8.acceptRanges",Rows.laid_unicode_utf8_acceptRanges),("tronage/code.takes",Rows.laid_tronage_code_takes),("unicode/utf8.first",Rows.laid_unicode_utf8_first)] w) (fun _ _ _ hh h=>h.of_heap hh) own started (by kernel_rfl) Tryz.func5
  (ChangeSpec.witness_at (enc:=enc) (C:=Tryz.checked) (os:=os) (X:=fun w _=>laidMetH Tryz.prog [("unicode/utf8.acceptRanges",Rows.laid_unicode_utf8_acceptRanges),("tronage/code.takes",Rows.laid_tronage_code_takes),("unicode/utf8.first",Rows.laid_unicode_utf8_first)] w) false (laidWorld os) #[.agg #[.int .u8 0,.int .u8 0,.slice none 0 0,.slice none 0 0,.slice none 0 0,.slice none 0 0,.slice none 0 0],.slice none 0 0,.slice none 0 0,.slice none 0 0,.string ⟨#[]⟩,.int .i64 0] 8 rfl (by kernel_rfl) (by kernel_rfl) (by kernel_rfl) (by kernel_rfl) (by kernel_rfl) (laidWorld_met os _)) ?_
 intro W base args ds gs before hval hW _ _ hL _
 refine row_contract progOK laidOut typ4 rfl rfl readable5 typed5 (fun ds h=>?_) all5 W base args ds gs before (globAt hL) hval hW
 rw [show Tryz.f5.params.size=6 by kernel_rfl] at h
 match ds,h with
 | [d0,d1,d2,d3,d4,d5],_=>rfl
end Go.Am.Z
namespace Go.Proofs.YtfnnapgpcndcjaaGreatDoor
open Go
set_option maxRecDepth 100000
theorem EvalSteps_holds:Rows.EvalStepsSaid :=
 OpenClaim.holds_of_wide 5 Tryz.f5 rfl rfl rfl rfl rfl rfl rfl ⟨rfl,rfl,rfl,rfl,rfl⟩ rfl rfl rfl rfl rfl (by kernel_rfl) Tryz.func5 (by kernel_rfl)
  (of_decide_eq_true (by kernel_rfl)) (by unfold Func.isWrapper;first | (rw [if_pos (by decide +kernel)];kernel_rfl) | (rw [if_neg (by decide +kernel)];exact ⟨rfl,rfl⟩))
  (fun os started H enc _=>Go.Am.Z.lifted5 os started H enc)
theorem EvalSteps_card:Rows.EvalStepsCardSaid :=
 Claim7.holds_tied_plain_at .later [] [.data,.data,.pinned] true (true, "f9c92ded952ccc3378f51cd42b9e8300cc8ebed7b6d313f98e91861e02a96b06") false
  EvalSteps_holds (fun _ h=>by cases h) (by kernel_rfl) (fun _ h=>by cases h) evalSteps_row_tie rfl ⟨rfl,rfl⟩ (by kernel_rfl) rfl
  (fun f fn hf hfn=>by
   obtain rfl:f=5:=Option.some.inj ((show Tryz.prog.funcNamed "tronage/tronagelaw22.EvalSteps"=some 5 by kernel_rfl).symm.trans hf) |>.symm
   obtain rfl:fn=Tryz.f5:=(Option.some.inj (Tryz.func5.symm.trans hfn)).symm
   exact ⟨by kernel_rfl,fun j t ht=>by
    rw [Tryz.params5] at ht
    have hm:=Array.mem_of_getElem? ht
    simp only [List.mem_toArray,List.mem_cons,List.not_mem_nil,or_false] at hm
    rcases hm with rfl | rfl | rfl | rfl | rfl | rfl
    ·exact (show Tryz.prog.wantsStandIn 25=false by kernel_rfl)
    ·exact (show Tryz.prog.wantsStandIn 22=false by kernel_rfl)
    ·exact (show Tryz.prog.wantsStandIn 26=false by kernel_rfl)
    ·exact (show Tryz.prog.wantsStandIn 27=false by kernel_rfl)
    ·exact (show Tryz.prog.wantsStandIn 9=false by kernel_rfl)
    ·exact (show Tryz.prog.wantsStandIn 3=false by kernel_rfl)⟩)
  (by kernel_rfl)
#print axioms EvalSteps_card
end Go.Proofs.YtfnnapgpcndcjaaGreatDoor
