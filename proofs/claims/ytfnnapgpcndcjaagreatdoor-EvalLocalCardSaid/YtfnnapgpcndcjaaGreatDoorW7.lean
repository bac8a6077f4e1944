/-
  A part of the proof of a law: see the text that states it.
-/
import Derived.Test.YtfnnapgpcndcjaaGreatDoorW6
set_option linter.all false
namespace Go.Am.Z.W
open Go Go.Am.Z.T Go.Am.Z.V
set_option maxRecDepth 100000
theorem few8_ev (xs:List XT) (hl:xs.length≤maxLen):∃ b:Bool,(b=true→xs.length≤30∧∀ x∈xs,sizeN x≤30)∧E 8 [.tv [] (.slice .expr) xs] [] (bv b) []:=by
 unfold maxLen at hl
 have key:EvF PP orc 8 [.tv [] (.slice .expr) xs] [] fun v h=>∃ b:Bool,(b=true→xs.length≤30∧∀ x∈xs,sizeN x≤30)∧v=bv b∧h=[]:=by
  refine vc8 xs _ ?_
  refine ⟨fun i=>∃ k:Nat,i=k∧k≤xs.length∧∀ x∈xs.take k,sizeN x≤30,fun i=>((xs.length:Int)-i).toNat,⟨0,rfl,by omega,by simp⟩,?_⟩
  rintro _ ⟨k,rfl,hk,hx⟩
  refine ⟨fun h=>?_,fun h=>?_⟩
  ·(simp only [dq1,dq2,dq3,dq4] at h)
   have hk':k<xs.length:=by omega
   refine And.intro (Need.mk (by omega)) ?_
   rw [Int.toNat_natCast]
   ((repeat apply Exists.intro);refine And.intro (Need.mk (V.few_ev (xs.getD k (XT.mk 0 0 [])) 30 12 (by decide) (by decide) (by decide) (by decide))) ?_)
   refine ⟨fun h2=>⟨false,nofun,rfl,rfl⟩,fun h2=>?_⟩
   (simp only [dq1,dq2,dq3,dq4] at h2)
   have:=few_size (xs.getD k (XT.mk 0 0 [])) 30 12 (by omega)
   refine And.intro (Need.mk (by omega)) (And.intro ⟨k+1,by omega,by omega,?_⟩ (Need.mk (by ((try dsimp only);omega))))
   rw [take_snoc (XT.mk 0 0 []) hk']
   intro x hx2
   rcases List.mem_append.1 hx2 with hx2 | hx2
   ·exact hx x hx2
   ·rw [List.mem_singleton.1 hx2];omega
  ·(simp only [dq1,dq2,dq3,dq4] at h)
   have:k=xs.length:=by omega
   subst this
   rw [List.take_length] at hx
   exact ⟨_,fun h2=>⟨by (simp only [dq1,dq2,dq3,dq4] at h2);omega,hx⟩,rfl,rfl⟩
 obtain ⟨v,h',e,b,hb,rfl,rfl⟩:=key
 exact ⟨b,hb,e⟩
def okL (xs:List XT):List XT:=xs.map fun x=>if V.right x=true then x else X0
theorem okL_ok {xs:List XT} (h:∀ x∈xs,sizeN x≤30):∀ x∈okL xs,OkX x:=fun x hx=>by
 obtain ⟨y,hy,rfl⟩:=List.mem_map.1 hx
 have:=h y hy
 split
 ·rename_i hr;exact ⟨hr,by omega⟩
 ·exact .zero
theorem okL_sz {xs:List XT} (h:∀ x∈xs,sizeN x≤30):∀ x∈okL xs,sizeN x≤30:=fun x hx=>by
 obtain ⟨y,hy,rfl⟩:=List.mem_map.1 hx
 have:=h y hy
 split
 ·exact this
 ·simp [sizeN,sizeNL]
theorem right13_ev (xs:List XT) (hl:xs.length≤30) (h:∀ x∈xs,sizeN x≤30):E 13 [.tv [] (.slice .expr) xs] [] (.tv [[]] (.slice .expr) (okL xs)) []:=by
 refine ev_of (vc13 xs _ ?_)
 refine ⟨fun o i=>∃ k:Nat,i=k∧k≤xs.length∧o=okL (xs.take k),fun _ i=>((xs.length:Int)-i).toNat,⟨0,rfl,by omega,rfl⟩,?_⟩
 rintro _ _ ⟨k,rfl,hk,rfl⟩
 have hol:(okL (xs.take k)).length≤30:=by unfold okL;rw [List.length_map,List.length_take];omega
 refine ⟨fun h1=>?_,fun h1=>?_⟩
 ·(simp only [dq1,dq2,dq3,dq4] at h1)
  have hk':k<xs.length:=by omega
  have hs:=h _ (getD_mem' (XT.mk 0 0 []) hk')
  have hsn:okL (xs.take (k+1))=okL (xs.take k)++[if V.right (xs.getD k (XT.mk 0 0 []))=true then xs.getD k (XT.mk 0 0 []) else X0]:=by
   unfold okL;rw [take_snoc (XT.mk 0 0 []) hk',List.map_append];rfl
  refine And.intro (Need.mk (by omega)) ?_
  rw [Int.toNat_natCast]
  ((repeat apply Exists.intro);refine And.intro (Need.mk (rright_ev (xs.getD k (XT.mk 0 0 [])) (size_small (by omega)))) ?_)
  refine ⟨fun h2=>?_,fun h2=>?_⟩
  ·have h2':V.right (xs.getD k (XT.mk 0 0 []))=false:=(Bool.not_eq_true' _).mp h2
   refine And.intro (Need.mk (by simp only [List.length_cons,List.length_nil,bigN];omega)) (And.intro (Need.mk (by omega)) (And.intro ⟨k+1,by omega,by omega,?_⟩ (Need.mk (by ((try dsimp only);omega)))))
   rw [hsn,h2'];rfl
  ·have h2':V.right (xs.getD k (XT.mk 0 0 []))=true:=(Bool.not_eq_false' _).mp h2
   refine And.intro (Need.mk (by simp only [List.length_cons,List.length_nil,bigN];omega)) (And.intro (Need.mk (by omega)) (And.intro ⟨k+1,by omega,by omega,?_⟩ (Need.mk (by ((try dsimp only);omega)))))
   rw [hsn,if_pos h2']
 ·(simp only [dq1,dq2,dq3,dq4] at h1)
  have:k=xs.length:=by omega
  subst this
  rw [List.take_length];exact ⟨rfl,rfl⟩
theorem ops12_ev (xs:List XT) (hl:xs.length≤30) (h:∀ x∈xs,OkX x):E 12 [.tv [] (.slice .expr) xs] [] (.tv [[]] (.slice (.slice tV)) (xs.map comp)) []:=by
 refine ev_of (vc12 xs _ ?_)
 refine ⟨fun o i=>∃ k:Nat,i=k∧k≤xs.length∧o=(xs.take k).map comp,fun _ i=>((xs.length:Int)-i).toNat,⟨0,rfl,by omega,rfl⟩,?_⟩
 rintro _ _ ⟨k,rfl,hk,rfl⟩
 refine ⟨fun h1=>?_,fun h1=>?_⟩
 ·(simp only [dq1,dq2,dq3,dq4] at h1)
  have hk':k<xs.length:=by omega
  refine And.intro (Need.mk (by omega)) ?_
  rw [Int.toNat_natCast]
  ((repeat apply Exists.intro);refine And.intro (Need.mk (rcomp_ev (xs.getD k (XT.mk 0 0 [])) (h _ (getD_mem' (XT.mk 0 0 []) hk')).sz)) ?_)
  refine And.intro (Need.mk (by simp only [List.length_map,List.length_take,List.length_cons,List.length_nil,bigN];omega)) (And.intro (Need.mk (by omega)) (And.intro ⟨k+1,by omega,by omega,?_⟩ (Need.mk (by ((try dsimp only);omega)))))
  rw [take_snoc (XT.mk 0 0 []) hk',List.map_append];rfl
 ·(simp only [dq1,dq2,dq3,dq4] at h1)
  have:k=xs.length:=by omega
  subst this
  rw [List.take_length];exact ⟨rfl,rfl⟩
end Go.Am.Z.W
