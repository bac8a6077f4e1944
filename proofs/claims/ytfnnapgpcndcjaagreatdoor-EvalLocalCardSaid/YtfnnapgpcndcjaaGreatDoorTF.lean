/-
  A part of the proof of a law: see the text that states it.
-/
import Derived.Test.YtfnnapgpcndcjaaGreatDoorTD
import Derived.Test.YtfnnapgpcndcjaaGreatDoorVc7
import Derived.Test.YtfnnapgpcndcjaaGreatDoorVc1
set_option linter.all false
namespace Go.Am.Z.T
open Go
set_option maxRecDepth 100000
theorem tm {x n:Int} (hx:0≤x) (hn:0<n):0≤Int.tmod x n∧Int.tmod x n<n:=by
 rw [Int.tmod_eq_emod_of_nonneg hx];exact ⟨Int.emod_nonneg _ (by omega),Int.emod_lt_of_pos _ hn⟩
def isBy (z:Int):Prop:=0≤z∧z<256
abbrev tSm:Ty:=.pair (.int .u8) (.pair (.int .u8) (.pair qt17 (.pair (.slice qt17) (.pair qt17 (.pair qt17 (.pair qt17 .unit))))))
abbrev Sml:=Int×Int×List Int×List qT3×List Int×List Int×List Int×Unit
structure SmOK (s:Sml):Prop where
 b0:isBy s.1
 b1:isBy s.2.1
 b2:∀ x∈s.2.2.1,isBy x
 b3:∀ l∈s.2.2.2.1,∀ x∈l,isBy x
 b4:∀ x∈s.2.2.2.2.1,isBy x
 b5:∀ x∈s.2.2.2.2.2.1,isBy x
 b6:∀ x∈s.2.2.2.2.2.2.1,isBy x
 n2:s.2.2.1.length≤20
 n5:s.2.2.2.2.2.1.length≤5
 n3:∀ l∈s.2.2.2.1,l.length≤8
abbrev grO (t:List Tk) (g n:Nat) (st:List Int) (r:List Rl):AV:=.tv [] tGr (t,([],(some ((1,0),g,0,n),(st,(r,())))))
abbrev hLv1 (g:Nat) (l:List Lv):Heap:=[((1,0),⟨⟨.arr (Nat.succ g) l.length tLv,l⟩,[]⟩)]
theorem gram_ev (s:Sml) (h:SmOK s):∃ t l r g,GoodG t l [83] r∧E 32 [.tv [] tSm s] [] (grO t g l.length [83] r) (hLv1 g l):=by
  obtain ⟨x0,x1,a2,a3,a4,a5,a6,_⟩:=s
  obtain ⟨b0,b1,b2,b3,b4,b5,b6,n2,n5,n3⟩:=h
  simp only at b0 b1 b2 b3 b4 b5 b6 n2 n5 n3
  unfold isBy at b0 b1
  have m0:=tm (n:=5) b0.1 (by omega)
  have m1:=tm (n:=4) b1.1 (by omega)
  have key:EvF PP orc 32 [.tv [] tSm (x0,x1,a2,a3,a4,a5,a6,())] [] fun a h'=>∃ t l r g,GoodG t l [83] r∧a=grO t g l.length [83] r∧h'=hLv1 g l:=by
    refine vc32 x0 x1 a2 a3 a4 a5 a6 _ ?_
    (repeat (refine And.intro (Need.mk nd0) ?_))
    refine ⟨fun i t sk γl n st r _ _ γ l _ _=>∃ Γ:Nat,i=(l.length:Int)∧l.length≤a5.length∧t=[]∧sk=[]∧γl=(Γ:Int)∧n=(l.length:Int)∧st=[83]∧r=[]∧γ=(Γ:Int)∧l.map (fun x:Lv=>x.2.1)=((List.range l.length).map fun j:Nat=>[nmL (j:Int)])∧∀ x∈l,1≤x.1∧x.1≤3,
      fun i _ _ _ _ _ _ _ _ _ _ _ _=>((a5.length:Int)-i).toNat,⟨tr0⟩,⟨0,rfl,by simp,rfl,rfl,rfl,rfl,rfl,rfl,rfl,rfl,by simp⟩,?_⟩
    rintro _ _ _ _ _ _ _ u1 u2 _ l u3 u4 ⟨Γ,rfl,hk,rfl,rfl,rfl,rfl,rfl,rfl,rfl,hm,hl⟩
    refine ⟨fun h1=>?_,fun h1=>?_⟩
    · (simp only [dq1,dq2,dq3,dq4] at h1)
      have hk':l.length<a5.length:=by omega
      have hb:isBy (List.getD a5 (Int.toNat (l.length:Int)) (0:Int)):=b5 _ (getD_mem' _ (by simpa using hk'))
      unfold isBy at hb
      have m3:=tm (n:=3) hb.1 (by omega)
      have ht:List.take (Int.toNat (l.length:Int)) l=l:=by simp
      rw [ht]
      (repeat (refine And.intro (Need.mk nd0) ?_))
      refine And.intro ⟨Nat.succ Γ,by simp,by simp only [List.length_append,List.length_cons,List.length_nil];omega,rfl,rfl,rfl,by simp,rfl,rfl,rfl,?_,?_⟩ (Need.mk (by ((try dsimp only);omega)))
      · rw [List.map_append,hm,List.length_append,List.length_singleton,List.range_succ,List.map_append];rfl
      · intro x hx
        rcases List.mem_append.1 hx with hx | hx
        · exact hl x hx
        · simp only [List.mem_singleton] at hx;rw [hx];simp only;omega
    (simp only [dq1,dq2,dq3,dq4] at h1)
    have hN:l.length≤5:=by omega
    have L1:=lv1 hN hm hl
    generalize l.length=N at *
    clear hm hl
    refine ⟨fun i t sk γl n st r _ _ γ l _ _=>∃ Γ:Nat,0≤i∧i≤Int.tmod x0 5+1∧TkOK i t∧sk=[]∧γl=(Γ:Int)∧n=(N:Int)∧st=[83]∧r=[]∧γ=(Γ:Int)∧LvOK N i l,
      fun i _ _ _ _ _ _ _ _ _ _ _ _=>(Int.tmod x0 5+1-i).toNat,⟨tr0⟩,⟨Γ,by omega,by omega,TkOK.nil,tr0,tr0,tr0,tr0,tr0,tr0,L1⟩,?_⟩
    clear L1
    rintro i t _ _ _ _ _ u1 u2 _ l u3 u4 ⟨Γ,hi0,hi1,ht,rfl,rfl,rfl,rfl,rfl,rfl,L⟩
    have hlen:=L.len
    refine ⟨fun h1=>?_,fun h1=>?_⟩
    · (simp only [dq1,dq2,dq3,dq4] at h1)
      have htl:=ht.len
      (repeat (refine And.intro (Need.mk nd0) ?_))
      have TP:=ht.push hi0 (by omega)
      refine ⟨fun h2=>?_,fun h2=>?_⟩
      · (simp only [dq1,dq2,dq3,dq4] at h2)
        have hb:isBy (List.getD a6 (Int.toNat i) (0:Int)):=b6 _ (getD_mem' _ (by omega))
        unfold isBy at hb
        have m6:=tm (n:=(((Int.toNat (N:Int)):Nat):Int)+1) hb.1 (by omega)
        (repeat (refine And.intro (Need.mk nd0) ?_))
        refine ⟨fun h3=>?_,fun h3=>?_⟩
        · (simp only [dq1,dq2,dq3,dq4] at h3)
          have hq:(List.getD l (0+(Int.toNat ((Int.tmod (List.getD a6 (Int.toNat i) (0:Int)) (((Int.toNat (N:Int)):Int)+(1:Int)))-(1:Int)))) ((0:Int),([],()))).2.1.length≤20:=by
            have h1:=len_le_flat (fun x:Lv=>x.2.1) (getD_mem' (l:=l) ((0:Int),(([]:List qT3),())) (n:=(0+(Int.toNat ((Int.tmod (List.getD a6 (Int.toNat i) (0:Int)) (((Int.toNat (N:Int)):Int)+(1:Int)))-(1:Int))))) (by omega))
            have h2:=L.ln
            simp only [fl] at h2
            omega
          (repeat (refine And.intro (Need.mk nd0) ?_))
          exact And.intro ⟨Γ,by omega,by omega,TP,tr0,tr0,tr0,tr0,tr0,tr0,L.set (j:=(0+(Int.toNat ((Int.tmod (List.getD a6 (Int.toNat i) (0:Int)) (((Int.toNat (N:Int)):Int)+(1:Int)))-(1:Int))))) (by omega) hi0 (by omega) _ rfl rfl⟩ (Need.mk (by ((try dsimp only);omega)))
        · (repeat (refine And.intro (Need.mk nd0) ?_))
          exact And.intro ⟨Γ,by omega,by omega,TP,tr0,tr0,tr0,tr0,tr0,tr0,L.same⟩ (Need.mk (by ((try dsimp only);omega)))
      · (repeat (refine And.intro (Need.mk nd0) ?_))
        exact And.intro ⟨Γ,by omega,by omega,TP,tr0,tr0,tr0,tr0,tr0,tr0,L.same⟩ (Need.mk (by ((try dsimp only);omega)))
    (simp only [dq1,dq2,dq3,dq4] at h1)
    obtain rfl:i=Int.tmod x0 5+1:=by omega
    clear hi0 hi1 h1
    have hT:Int.tmod x0 5+1≤5:=by omega
    have hT0:0<Int.tmod x0 5+1:=by omega
    have hV:Int.tmod x1 4+1≤4:=by omega
    have hV0:0<Int.tmod x1 4+1:=by omega
    refine ⟨fun i t' sk γl n st r _ _ γ l' _ _=>∃ Γ:Nat,i=(r.length:Int)∧r.length≤a2.length∧t'=t∧sk=[]∧γl=(Γ:Int)∧n=(N:Int)∧st=[83]∧γ=(Γ:Int)∧l'=l∧RlOK (Int.tmod x0 5+1) (Int.tmod x1 4+1) N r,
      fun i _ _ _ _ _ _ _ _ _ _ _ _=>((a2.length:Int)-i).toNat,⟨tr0⟩,⟨Γ,tr0,by simp,tr0,tr0,tr0,tr0,tr0,tr0,tr0,RlOK.nil _ _ _⟩,?_⟩
    rintro _ t _ _ _ _ r u1 u2 _ l u3 u4 ⟨Γ,rfl,hk,rfl,rfl,rfl,rfl,rfl,rfl,rfl,R⟩
    refine ⟨fun h1=>?_,fun h1=>?_⟩
    · (simp only [dq1,dq2,dq3,dq4] at h1)
      have hb:isBy (List.getD a2 (Int.toNat (r.length:Int)) (0:Int)):=b2 _ (getD_mem' _ (by omega))
      unfold isBy at hb
      have mL:=tm (n:=Int.tmod x1 4+1) hb.1 hV0
      (repeat (refine And.intro (Need.mk nd0) ?_))
      have fin : ∀ (rt : List qT3) (pc : List Int), rt.length ≤ 8 → (∀ s ∈ rt, (∃ a : Int, 0 ≤ a ∧ a < Int.tmod x0 5 + 1 ∧ s = nmA a) ∨ ∃ v : Int, 0 ≤ v ∧ v < Int.tmod x1 4 + 1 ∧ s = nmV v) → (pc = [] ∨ ∃ j : Int, 0 ≤ j ∧ j < N ∧ pc = nmL j) →
          RlOK (Int.tmod x0 5+1) (Int.tmod x1 4+1) N (r++[(nmV (Int.tmod (List.getD a2 (Int.toNat (r.length:Int)) (0:Int)) (Int.tmod x1 4+1)),(rt,(pc,([],()))))]):=fun rt pc q1 q2 q3 =>
        R.push _ ⟨_,mL.1,mL.2,rfl⟩ q1 q2 q3 rfl
      refine ⟨fun h2=>?_,fun h2=>?_⟩
      · (simp only [dq1,dq2,dq3,dq4] at h2)
        have h3l:(List.getD a3 (Int.toNat (r.length:Int)) []).length≤8:=n3 _ (getD_mem' _ (by omega))
        refine ⟨fun j lf rt pc ac t' sk γl n st r' _ _ γ l' _ _ => j = (rt.length : Int) ∧ rt.length ≤ (List.getD a3 (Int.toNat (r.length : Int)) []).length ∧ lf = nmV (Int.tmod (List.getD a2 (Int.toNat (r.length : Int)) (0 : Int)) (Int.tmod x1 4 + 1)) ∧ pc = [] ∧ ac = [] ∧ t' = t ∧ sk = [] ∧ γl = (Γ : Int) ∧ n = (N : Int) ∧ st = [83] ∧ r' = r ∧ γ = (Γ : Int) ∧ l' = l ∧
            ∀ s∈rt,(∃ a:Int,0≤a∧a<Int.tmod x0 5+1∧s=nmA a)∨∃ v:Int,0≤v∧v<Int.tmod x1 4+1∧s=nmV v,
          fun j _ _ _ _ _ _ _ _ _ _ _ _ _ _ _ _=>(((List.getD a3 (Int.toNat (r.length:Int)) []).length:Int)-j).toNat,⟨tr0⟩,⟨tr0,by simp,tr0,tr0,tr0,tr0,tr0,tr0,tr0,tr0,tr0,tr0,tr0,by simp⟩,?_⟩
        rintro _ _ rt _ _ t _ _ _ _ r w1 w2 _ l w3 w4 ⟨rfl,hj,rfl,rfl,rfl,rfl,rfl,rfl,rfl,rfl,rfl,rfl,rfl,hrt⟩
        (repeat (refine And.intro (Need.mk nd0) ?_))
        refine ⟨fun h3=>?_,fun h3=>?_⟩
        · (simp only [dq1,dq2,dq3,dq4] at h3)
          have hb3:isBy (List.getD (List.getD a3 (Int.toNat (r.length:Int)) []) (Int.toNat (rt.length:Int)) (0:Int)):=b3 _ (getD_mem' _ (by omega)) _ (getD_mem' _ (by omega))
          unfold isBy at hb3
          have mR:=tm (n:=Int.tmod x0 5+1+(Int.tmod x1 4+1)) hb3.1 (by omega)
          have mR5:=tm (n:=5) mR.1 (by omega)
          (repeat (refine And.intro (Need.mk nd0) ?_))
          have ext:∀ s,((∃ a:Int,0≤a∧a<Int.tmod x0 5+1∧s=nmA a)∨∃ v:Int,0≤v∧v<Int.tmod x1 4+1∧s=nmV v)→∀ u∈rt++[s],((∃ a:Int,0≤a∧a<Int.tmod x0 5+1∧u=nmA a)∨∃ v:Int,0≤v∧v<Int.tmod x1 4+1∧u=nmV v):=fun s hs u hu=>by
            rcases List.mem_append.1 hu with hu | hu
            · exact hrt u hu
            · simp only [List.mem_singleton] at hu;rw [hu];exact hs
          refine ⟨fun h4=>?_,fun h4=>?_⟩
          · (simp only [dq1,dq2,dq3,dq4] at h4)
            (repeat (refine And.intro (Need.mk nd0) ?_))
            exact And.intro ⟨by simp,by simp only [List.length_append,List.length_cons,List.length_nil];omega,tr0,tr0,tr0,tr0,tr0,tr0,tr0,tr0,tr0,tr0,tr0,ext _ (.inr ⟨_,by omega,by omega,rfl⟩)⟩ (Need.mk (by ((try dsimp only);omega)))
          · (simp only [dq1,dq2,dq3,dq4] at h4)
            (repeat (refine And.intro (Need.mk nd0) ?_))
            refine And.intro ⟨by simp,by simp only [List.length_append,List.length_cons,List.length_nil];omega,tr0,tr0,tr0,tr0,tr0,tr0,tr0,tr0,tr0,tr0,tr0,ext _ (.inl ⟨_,mR5.1,?_,rfl⟩)⟩ (Need.mk (by ((try dsimp only);omega)))
            rw [Int.tmod_eq_of_lt (b:=5) mR.1 (by omega)];omega
        · (simp only [dq1,dq2,dq3,dq4] at h3)
          refine ⟨fun h5=>?_,fun h5=>?_⟩
          · (simp only [dq1,dq2,dq3,dq4] at h5)
            have hb4:isBy (List.getD a4 (Int.toNat (r.length:Int)) (0:Int)):=b4 _ (getD_mem' _ (by omega))
            unfold isBy at hb4
            have m4:=tm (n:=(((Int.toNat (N:Int)):Nat):Int)+1) hb4.1 (by omega)
            (repeat (refine And.intro (Need.mk nd0) ?_))
            refine ⟨fun h6=>?_,fun h6=>?_⟩
            · (simp only [dq1,dq2,dq3,dq4] at h6)
              (repeat (refine And.intro (Need.mk nd0) ?_))
              exact And.intro ⟨Γ,by simp,by simp only [List.length_append,List.length_cons,List.length_nil];omega,tr0,tr0,tr0,tr0,tr0,tr0,tr0,fin rt _ (by omega) hrt (.inr ⟨(Int.tmod (List.getD a4 (Int.toNat (r.length:Int)) (0:Int)) (((Int.toNat (N:Int)):Int)+(1:Int)))-1,by omega,by omega,by show cut _ _ _=cut _ _ _;rw [Int.sub_add_cancel]⟩)⟩ (Need.mk (by ((try dsimp only);omega)))
            · (repeat (refine And.intro (Need.mk nd0) ?_))
              exact And.intro ⟨Γ,by simp,by simp only [List.length_append,List.length_cons,List.length_nil];omega,tr0,tr0,tr0,tr0,tr0,tr0,tr0,fin rt _ (by omega) hrt (.inl rfl)⟩ (Need.mk (by ((try dsimp only);omega)))
          · (repeat (refine And.intro (Need.mk nd0) ?_))
            exact And.intro ⟨Γ,by simp,by simp only [List.length_append,List.length_cons,List.length_nil];omega,tr0,tr0,tr0,tr0,tr0,tr0,tr0,fin rt _ (by omega) hrt (.inl rfl)⟩ (Need.mk (by ((try dsimp only);omega)))
      · refine ⟨fun h5=>?_,fun h5=>?_⟩
        · (simp only [dq1,dq2,dq3,dq4] at h5)
          have hb4:isBy (List.getD a4 (Int.toNat (r.length:Int)) (0:Int)):=b4 _ (getD_mem' _ (by omega))
          unfold isBy at hb4
          have m4:=tm (n:=(((Int.toNat (N:Int)):Nat):Int)+1) hb4.1 (by omega)
          (repeat (refine And.intro (Need.mk nd0) ?_))
          refine ⟨fun h6=>?_,fun h6=>?_⟩
          · (simp only [dq1,dq2,dq3,dq4] at h6)
            (repeat (refine And.intro (Need.mk nd0) ?_))
            exact And.intro ⟨Γ,by simp,by simp only [List.length_append,List.length_cons,List.length_nil];omega,tr0,tr0,tr0,tr0,tr0,tr0,tr0,fin [] _ (by simp) (by simp) (.inr ⟨(Int.tmod (List.getD a4 (Int.toNat (r.length:Int)) (0:Int)) (((Int.toNat (N:Int)):Int)+(1:Int)))-1,by omega,by omega,by show cut _ _ _=cut _ _ _;rw [Int.sub_add_cancel]⟩)⟩ (Need.mk (by ((try dsimp only);omega)))
          · (repeat (refine And.intro (Need.mk nd0) ?_))
            exact And.intro ⟨Γ,by simp,by simp only [List.length_append,List.length_cons,List.length_nil];omega,tr0,tr0,tr0,tr0,tr0,tr0,tr0,fin [] _ (by simp) (by simp) (.inl rfl)⟩ (Need.mk (by ((try dsimp only);omega)))
        · (repeat (refine And.intro (Need.mk nd0) ?_))
          exact And.intro ⟨Γ,by simp,by simp only [List.length_append,List.length_cons,List.length_nil];omega,tr0,tr0,tr0,tr0,tr0,tr0,tr0,fin [] _ (by simp) (by simp) (.inl rfl)⟩ (Need.mk (by ((try dsimp only);omega)))
    (simp only [dq1,dq2,dq3,dq4] at h1)
    refine ⟨fun i t' sk γl n st r' _ _ γ l' _ _=>0≤i∧i≤Int.tmod x1 4+1∧(r'.length:Int)≤20+i∧t'=t∧sk=[]∧γl=(Γ:Int)∧n=(N:Int)∧st=[83]∧γ=(Γ:Int)∧l'=l∧RlOK (Int.tmod x0 5+1) (Int.tmod x1 4+1) N r'∧∀ v:Int,0≤v→v<i→nmV v∈r'.map (·.1),
      fun i _ _ _ _ _ _ _ _ _ _ _ _=>(Int.tmod x1 4+1-i).toNat,⟨tr0⟩,⟨by omega,by omega,by omega,tr0,tr0,tr0,tr0,tr0,tr0,tr0,R,fun v q1 q2=>by omega⟩,?_⟩
    clear R hk h1
    rintro i t _ _ _ _ r u1 u2 _ l u3 u4 ⟨hi0,hi1,hrl,rfl,rfl,rfl,rfl,rfl,rfl,rfl,R,hall⟩
    refine ⟨fun h1=>?_,fun h1=>?_⟩
    · (simp only [dq1,dq2,dq3,dq4] at h1)
      (repeat (refine And.intro (Need.mk nd0) ?_))
      refine ⟨fun fd j t' sk γl n st r' _ _ γ l' _ _=>0≤j∧j≤(r.length:Int)∧t'=t∧sk=[]∧γl=(Γ:Int)∧n=(N:Int)∧st=[83]∧r'=r∧γ=(Γ:Int)∧l'=l∧(fd=true→nmV i∈r.map (·.1)),
        fun _ j _ _ _ _ _ _ _ _ _ _ _ _=>((r.length:Int)-j).toNat,⟨tr0⟩,⟨by omega,by omega,tr0,tr0,tr0,tr0,tr0,tr0,tr0,tr0,nofun⟩,?_⟩
      rintro fd j t _ _ _ _ r w1 w2 _ l w3 w4 ⟨hj0,hj1,rfl,rfl,rfl,rfl,rfl,rfl,rfl,rfl,hfd⟩
      refine ⟨fun h2=>⟨fun h3=>?_,fun h3=>?_⟩,fun h2=>⟨fun h3=>?_,fun h3=>?_⟩⟩
      · (simp only [dq1,dq2,dq3,dq4] at h2)
        (repeat (refine And.intro (Need.mk nd0) ?_))
        exact And.intro ⟨by omega,by omega,tr0,tr0,tr0,tr0,tr0,tr0,tr0,tr0,fun _=>hfd h3⟩ (Need.mk (by ((try dsimp only);omega)))
      · (simp only [dq1,dq2,dq3,dq4] at h2)
        (repeat (refine And.intro (Need.mk nd0) ?_))
        refine And.intro ⟨by omega,by omega,tr0,tr0,tr0,tr0,tr0,tr0,tr0,tr0,fun h4=>?_⟩ (Need.mk (by ((try dsimp only);omega)))
        simp only [decide_eq_true_eq] at h4
        exact List.mem_map.2 ⟨_,getD_mem' _ (by omega),h4⟩
      · (repeat (refine And.intro (Need.mk nd0) ?_))
        refine And.intro ⟨by omega,by omega,by simp only [List.length_append,List.length_cons,List.length_nil];omega,tr0,tr0,tr0,tr0,tr0,tr0,tr0,R.push _ ⟨i,hi0,h1,rfl⟩ (by simp) (by simp) (.inl rfl) rfl,fun v q1 q2=>?_⟩ (Need.mk (by ((try dsimp only);omega)))
        rw [List.map_append]
        by_cases e:v=i
        · subst e;simp
        · exact List.mem_append_left _ (hall v q1 (by omega))
      · have hf:fd=true:=by simpa using h3
        (repeat (refine And.intro (Need.mk nd0) ?_))
        refine And.intro ⟨by omega,by omega,by omega,tr0,tr0,tr0,tr0,tr0,tr0,tr0,R,fun v q1 q2=>?_⟩ (Need.mk (by ((try dsimp only);omega)))
        by_cases e:v=i
        · subst e;exact hfd hf
        · exact hall v q1 (by omega)
    (simp only [dq1,dq2,dq3,dq4] at h1)
    obtain rfl:i=Int.tmod x1 4+1:=by omega
    exact ⟨t,l,r,Γ,good hT hV hV0 hN ht L R hall (by omega),by rw [hlen];rfl,rfl⟩
  obtain ⟨a,h',e,t,l,r,g,hg,rfl,rfl⟩:=key
  exact ⟨t,l,r,g,hg,e⟩
end Go.Am.Z.T
namespace Go.Am.Z.T
open Go
set_option maxRecDepth 100000
theorem plan_ev (s:Sml) (h:SmOK s):∃ p:Pl,GoodP p∧E 9 [.tv [] tSm s] [] (.tv [] tPl p) []:=by
 obtain ⟨t,l,r,g,hg,e1⟩:=gram_ev s h
 obtain ⟨p,hp,e2⟩:=of_ev hg g
 refine ⟨p,hp,?_⟩
 obtain ⟨x0,x1,a2,a3,a4,a5,a6,_⟩:=s
 exact ev_of (vc9 x0 x1 a2 a3 a4 a5 a6 _ ⟨_,_,_,_,_,_,_,_,⟨e1⟩,_,_,_,_,_,_,_,_,_,_,⟨e2⟩,rfl,rfl⟩)
end Go.Am.Z.T
