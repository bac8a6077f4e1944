/-
  A part of the proof of a law: see the text that states it.
-/
import Derived.Test.YtfnnapgpcndcjaaGreatDoorW7
import Derived.Test.YtfnnapgpcndcjaaGreatDoorVcX
import Derived.Test.YtfnnapgpcndcjaaGreatDoorAm4
set_option linter.all false
namespace Go.Am.Z.W
open Go Go.Am.Z.T Go.Am.Z.V
set_option maxRecDepth 100000
theorem bytes_of {l:List Int} (h:InR qt17 l):∀ x∈l,isBy x:=fun x hx=>by
 obtain ⟨i,hi,rfl⟩:=List.mem_iff_getElem.1 hx
 have:=h.2 i hi
 rw [List.getD_eq_getElem?_getD,List.getElem?_eq_getElem hi] at this
 exact u8_wf this
theorem smOK {s:Sml} (hi:InR tSm s) (h:s.2.2.1.length≤20∧s.2.2.2.2.2.1.length≤5∧∀ x∈s.2.2.2.1,x.length≤8):SmOK s:=by
 obtain ⟨x0,x1,a2,a3,a4,a5,a6,_⟩:=s
 simp only [InR] at hi
 obtain ⟨i0,i1,⟨_,i2⟩,⟨_,i3⟩,⟨_,i4⟩,⟨_,i5⟩,⟨_,i6⟩,_⟩:=hi
 have mem:∀ l:List Int,(∀ i,i<l.length→(Lit.int .u8 (l.getD i 0)).wf=true)→∀ x∈l,isBy x:=fun l h x hx=>by
  obtain ⟨i,hi,rfl⟩:=List.mem_iff_getElem.1 hx
  have:=h i hi
  rw [List.getD_eq_getElem?_getD,List.getElem?_eq_getElem hi] at this
  exact u8_wf this
 refine ⟨u8_wf i0,u8_wf i1,mem _ i2,fun l hl=>?_,mem _ i4,mem _ i5,mem _ i6,h.1,h.2.1,h.2.2⟩
 obtain ⟨i,hi,rfl⟩:=List.mem_iff_getElem.1 hl
 have:=(i3 i hi).2
 rw [List.getD_eq_getElem?_getD,List.getElem?_eq_getElem hi] at this
 exact mem _ this
theorem sm_len {s:Sml} (hi:InR tSm s):s.2.2.2.1.length≤maxLen:=by
 obtain ⟨x0,x1,a2,a3,a4,a5,a6,_⟩:=s
 simp only [InR] at hi
 exact hi.2.2.2.1.1
theorem btrue {c:Bool} (h:c=true):AV.tv [] .bool c=bv true:=by rw [h]
theorem below_ne {l:List Th} (h:Tr l) {root:Int} (hr:inR l root=true):T.below l root≠[]:=by
 rw [(tr_below h root hr).1];simp
end Go.Am.Z.W
