/-
  tronagelaw08.NamesTell answers true whatever its arguments are, and leaves them as they were; the tables lexer.words and lexer.escapes are as the text of the program lays them.
-/
import Derived.Test.YtggaihkjnomflaaGreatDoorPN
import Derived.Test.YtggaihkjnomflaaGreatDoorBase
set_option linter.all false
namespace Go.Am.N
open Go Go.Proofs Go.Proofs.YtggaihkjnomflaaGreatDoor
open Go.ChangeShapes Go.WideShapes Go.ChangeAt Go.RowKit
set_option maxRecDepth 100000
theorem readable4:∀ t∈Tryz.f4.params.toList,Tryz.prog.readableRec t=true∧t<Tryz.prog.types.size:=by
 rw [Tryz.params4]
 intro t ht
 simp only [List.mem_cons,List.not_mem_nil,or_false] at ht
 rcases ht with rfl | rfl | rfl | rfl <;> exact ⟨by kernel_rfl,of_decide_eq_true (by kernel_rfl)⟩
theorem typed4:∀ T∈Tryz.f4.params.toList,∃ t,orc.ty T=some t∧t.opn=true:=by
 rw [Tryz.params4]
 intro t ht
 simp only [List.mem_cons,List.not_mem_nil,or_false] at ht
 rcases ht with rfl | rfl | rfl | rfl <;> exact ⟨_,rfl,rfl⟩
theorem all4 (W:World) (vs:List Value) (l:List AV) (h:ArgsAre PP orc W Tryz.f4.params.toList vs l):∃ k own h',callF PP orc k 4 l []=some (.tv own .bool true,h'):=by
 rw [Tryz.params4] at h
 obtain ⟨t0,x0,l0,vs0,ht0,rfl,hi0,h0⟩:=h.cons
 obtain ⟨t1,x1,l1,vs1,ht1,rfl,hi1,h1⟩:=h0.cons
 obtain ⟨t2,x2,l2,vs2,ht2,rfl,hi2,h2⟩:=h1.cons
 obtain ⟨t3,x3,l3,vs3,ht3,rfl,hi3,h3⟩:=h2.cons
 obtain rfl:=h3.nil
 cases ht0
 cases ht1
 cases ht2
 cases ht3
 exact of_E (tells x0 x1 x2 x3 hi0 hi1.2)
theorem lifted4 (os:Os) (started:os.Started) (H:Type) (enc:TypeId×Value→H) :
  ReturnsInHanded {} Tryz.checked os 4 .any (fun w args=>(Rows.namesTellSpec.pre enc Tryz.prog Tryz.f4 [] false w args∧laidMetH Tryz.prog [("tronage/lexer.words",Rows.laid_tronage_lexer_words),("tronage/lexer.escapes",Rows.laid_tronage_lexer_escapes)] w)∧sizedMet enc Tryz.prog Tryz.f4 (OpenSpec.ofChange Rows.namesTellSpec) false w args)
   (Rows.namesTellSpec.post enc Tryz.prog Tryz.f4 false true false false):=by
 refine returnsInHanded_of_change_and (C:=Tryz.checked) (X:=fun w _=>laidMetH Tryz.prog [("tronage/lexer.words",Rows.laid_tronage_lexer_words),("tronage/lexer.escapes",Rows.laid_tronage_lexer_escapes)] w) (fun _ _ _ hh h=>h.of_heap hh) own started (by kernel_rfl) Tryz.func4
  (ChangeSpec.witness_at (enc:=enc) (C:=Tryz.checked) (os:=os) (X:=fun w _=>laidMetH Tryz.prog [("tronage/lexer.words",Rows.laid_tronage_lexer_words),("tronage/lexer.escapes",Rows.laid_tronage_lexer_escapes)] w) false (laidWorld os) #[.agg #[.int .u8 0,.int .u8 0,.slice none 0 0,.slice none 0 0,.slice none 0 0,.slice none 0 0,.slice none 0 0],.string ⟨#[]⟩,.int .i64 0,.string ⟨#[]⟩] 8 rfl (by kernel_rfl) (by kernel_rfl) (by kernel_rfl) (by kernel_rfl) (by kernel_rfl) (laidWorld_met os _)) ?_
 intro W base args ds gs before hval hW _ _ hL _
 refine row_contract progOK laidOut typ4 rfl rfl readable4 typed4 (fun ds h=>?_) all4 W base args ds gs before (globAt hL) hval hW
 rw [show Tryz.f4.params.size=4 by kernel_rfl] at h
 match ds,h with
 | [d0,d1,d2,d3],_=>rfl
end Go.Am.N
namespace Go.Proofs.YtggaihkjnomflaaGreatDoor
open Go
set_option maxRecDepth 100000
theorem NamesTell_holds:Rows.NamesTellSaid :=
 OpenClaim.holds_of_wide 4 Tryz.f4 rfl rfl rfl rfl rfl rfl rfl ⟨rfl,rfl,rfl,rfl,rfl⟩ rfl rfl rfl rfl rfl (by kernel_rfl) Tryz.func4 (by kernel_rfl)
  (of_decide_eq_true (by kernel_rfl)) (by unfold Func.isWrapper;first | (rw [if_pos (by decide +kernel)];kernel_rfl) | (rw [if_neg (by decide +kernel)];exact ⟨rfl,rfl⟩))
  (fun os started H enc _=>Go.Am.N.lifted4 os started H enc)
theorem NamesTell_card:Rows.NamesTellCardSaid :=
 Claim7.holds_tied_plain_at .later [] [.widerDeep,.data] true (true, "d1afbb2a000c68ea04ea409f775ca9ccb99d227b5aacfd81729ae76b7ba152fc") false
  NamesTell_holds (fun _ h=>by cases h) (by kernel_rfl) (fun _ h=>by cases h) namesTell_row_tie rfl ⟨rfl,rfl⟩ (by kernel_rfl) rfl
  (fun f fn hf hfn=>by
   obtain rfl:f=4:=Option.some.inj ((show Tryz.prog.funcNamed "tronage/tronagelaw08.NamesTell"=some 4 by kernel_rfl).symm.trans hf) |>.symm
   obtain rfl:fn=Tryz.f4:=(Option.some.inj (Tryz.func4.symm.trans hfn)).symm
   exact ⟨by kernel_rfl,fun j t ht=>by
    rw [Tryz.params4] at ht
    have hm:=Array.mem_of_getElem? ht
    simp only [List.mem_toArray,List.mem_cons,List.not_mem_nil,or_false] at hm
    rcases hm with rfl | rfl | rfl | rfl
    ·exact (show Tryz.prog.wantsStandIn 42=false by kernel_rfl)
    ·exact (show Tryz.prog.wantsStandIn 9=false by kernel_rfl)
    ·exact (show Tryz.prog.wantsStandIn 3=false by kernel_rfl)
    ·exact (show Tryz.prog.wantsStandIn 9=false by kernel_rfl)⟩)
  (by kernel_rfl)
#print axioms NamesTell_card
end Go.Proofs.YtggaihkjnomflaaGreatDoor
