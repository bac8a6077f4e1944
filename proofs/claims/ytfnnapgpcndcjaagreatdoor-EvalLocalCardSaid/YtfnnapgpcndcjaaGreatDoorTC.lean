/-
  A part of the proof of a law: see the text that states it.
-/
import Derived.Test.YtfnnapgpcndcjaaGreatDoorTB
import Derived.Test.YtfnnapgpcndcjaaGreatDoorVc6
set_option linter.all false
namespace Go.Am.Z.T
open Go
set_option maxRecDepth 100000
structure GoodP (p:Pl):Prop where
 terms:p.1.length≤6
 vars:p.2.1.length≤24
 rules:2≤p.2.2.1.length∧p.2.2.1.length≤25
 right:∀ x∈p.2.2.1,x.2.1.length≤8
 tlen:∀ s∈p.1,s.length≤4
 vlen:∀ s∈p.2.1,s.length≤4
theorem tok_len:∀ s∈toks,s.length≤4:=by decide +kernel
theorem vr_len:∀ s∈vrs,s.length≤4:=by decide +kernel
theorem tok_vr:∀ s∈toks,s ∉ vrs:=by decide +kernel
theorem of_ev {t:List Tk} {l:List Lv} {st:List Int} {r:List Rl} (h:GoodG t l st r) (g:Nat):∃ p:Pl,GoodP p∧E 31 [gr t [] g l.length st r] (hLv g l) (.tup [.tv [] tPl p,.tv [] (.int .i64) (0:Int),.tv [] .str ([]:List Int)]) (hLv g l):=by
  have htn:=h.tn
  have hln:=h.ln
  have hrn:=h.rn
  have key:EvF PP orc 31 [gr t [] g l.length st r] (hLv g l) fun a h'=>∃ p:Pl,GoodP p∧a=.tup [.tv [] tPl p,.tv [] (.int .i64) (0:Int),.tv [] .str ([]:List Int)]∧h'=hLv g l:=by
    refine vc31 t [] g l st r _ ?_
    refine ⟨_,_,_,⟨right_ev h g⟩,fun h1=>by simp at h1,fun _=>?_⟩
    refine ⟨fun i a b c d e f _ _ _ _ _ _ γ z=>∃ k:Nat,i=k∧k≤r.length∧a.length=1∧(∀ s∈a,s.length≤4)∧b.length≤k∧(∀ s∈b,s∈vrs)∧(∀ s∈(r.take k).map (·.1),s∈b)∧c=[]∧d.length=1∧e.length=1∧f.length=k+1∧γ=(g:Int)∧z=l,
      fun i _ _ _ _ _ _ _ _ _ _ _ _ _ _=>((r.length:Int)-i).toNat,⟨tr0⟩,⟨0,tr0,by omega,by simp,by simp,by simp,by simp,by simp,tr0,by simp,by simp,by simp,tr0,tr0⟩,?_⟩
    rintro _ a b _ d e f u1 u2 u3 u4 u5 u6 _ z ⟨k,rfl,hk,ha,hal,hb,hbv,hbr,rfl,hd,he,hf,rfl,rfl⟩
    refine ⟨fun h1=>?_,fun h1=>?_⟩
    · (simp only [dq1,dq2,dq3,dq4] at h1)
      have hk':k<r.length:=by omega
      have hts:r.take (k+1)=r.take k++[List.getD r k (([]:List Int),(([]:List qT3),(([]:List Int),(([]:List Int),()))))]:=take_snoc _ hk'
      have hm:List.getD r k (([]:List Int),(([]:List qT3),(([]:List Int),(([]:List Int),()))))∈r:=getD_mem' _ hk'
      have hv:=h.left _ hm
      simp only [Int.toNat_natCast]
      refine ⟨⟨by omega⟩,_,⟨place_ev b _ (by omega)⟩,fun h2=>?_,fun h2=>?_⟩
      · (simp only [dq1,dq2,dq3,dq4] at h2)
        refine ⟨⟨by omega⟩,⟨by simp only [List.length_cons,List.length_nil,bigN];omega⟩,⟨by omega⟩,⟨by simp only [List.length_cons,List.length_nil,bigN];omega⟩,⟨by omega⟩,⟨tr0⟩,⟨k+1,by omega,by omega,ha,hal,by simp;omega,?_,?_,tr0,hd,he,by simp;omega,tr0,tr0⟩,⟨by ((try dsimp only);omega)⟩⟩
        · intro s hs
          rcases List.mem_append.1 hs with hs | hs
          · exact hbv s hs
          · simp only [List.mem_singleton] at hs;rw [hs];exact hv
        · intro s hs
          rw [hts,List.map_append] at hs
          rcases List.mem_append.1 hs with hs | hs
          · exact List.mem_append_left _ (hbr s hs)
          · simp only [List.map_cons,List.map_nil,List.mem_singleton] at hs;rw [hs];simp
      · (simp only [dq1,dq2,dq3,dq4] at h2)
        have hin:=placeK_nn.1 (Int.not_lt.1 h2)
        refine ⟨⟨by omega⟩,⟨by simp only [List.length_cons,List.length_nil,bigN];omega⟩,⟨by omega⟩,⟨tr0⟩,⟨k+1,by omega,by omega,ha,hal,by omega,hbv,?_,tr0,hd,he,by simp;omega,tr0,tr0⟩,⟨by ((try dsimp only);omega)⟩⟩
        intro s hs
        rw [hts,List.map_append] at hs
        rcases List.mem_append.1 hs with hs | hs
        · exact hbr s hs
        · simp only [List.map_cons,List.map_nil,List.mem_singleton] at hs;rw [hs];exact hin
    (simp only [dq1,dq2,dq3,dq4] at h1)
    have:k=r.length:=by omega
    subst this
    rw [List.take_length] at hbr
    refine ⟨fun i a b' c d e' f' _ _ _ _ _ _ γ y=>∃ k:Nat,i=k∧k≤t.length∧a.length=1+k∧(∀ s∈a,s.length≤4)∧b'=b∧(∀ s∈(t.take k).map (·.1),s∈a)∧c=[]∧d.length=1+k∧e'=e∧f'=f∧γ=(g:Int)∧y=z,
      fun i _ _ _ _ _ _ _ _ _ _ _ _ _ _=>((t.length:Int)-i).toNat,⟨tr0⟩,⟨0,tr0,by omega,by omega,hal,tr0,by simp,tr0,by omega,tr0,tr0,by simp,tr0⟩,?_⟩
    rintro _ a2 b _ d2 e f w1 w2 w3 w4 w5 w6 _ z2 ⟨k,rfl,hk,ha2,hal2,rfl,hat,rfl,hd2,rfl,rfl,rfl,rfl⟩
    refine ⟨fun h1=>?_,fun h1=>?_⟩
    · (simp only [dq1,dq2,dq3,dq4] at h1)
      have hk':k<t.length:=by omega
      have hts:t.take (k+1)=t.take k++[List.getD t k (([]:List Int),(([],([],(false,()))),()))]:=take_snoc _ hk'
      have hm:List.getD t k (([]:List Int),(([],([],(false,()))),()))∈t:=getD_mem' _ hk'
      have hv:=(h.tok _ hm).1
      simp only [Int.toNat_natCast]
      refine ⟨⟨by omega⟩,_,⟨place_ev _ _ (by omega)⟩,fun h2=>?_,fun h2=>?_⟩
      · (simp only [dq1,dq2,dq3,dq4] at h2)
        exact absurd (hbv _ (placeK_nn.1 h2)) (tok_vr _ hv)
      · refine ⟨⟨by omega⟩,⟨by simp only [List.length_cons,List.length_nil,bigN];omega⟩,⟨by omega⟩,_,_,_,⟨level_ev t [] g z2 st r _ (by omega) (fun x hx=>h.names hx)⟩,⟨by simp only [List.length_cons,List.length_nil,bigN];omega⟩,⟨by omega⟩,⟨tr0⟩,⟨k+1,by omega,by omega,by simp;omega,?_,tr0,?_,tr0,by simp;omega,tr0,tr0,tr0,tr0⟩,⟨by ((try dsimp only);omega)⟩⟩
        · intro s hs
          rcases List.mem_append.1 hs with hs | hs
          · exact hal2 s hs
          · simp only [List.mem_singleton] at hs;rw [hs];exact tok_len _ hv
        · intro s hs
          rw [hts,List.map_append] at hs
          rcases List.mem_append.1 hs with hs | hs
          · exact List.mem_append_left _ (hat s hs)
          · simp only [List.map_cons,List.map_nil,List.mem_singleton] at hs;rw [hs];simp
    (simp only [dq1,dq2,dq3,dq4] at h1)
    have:k=t.length:=by omega
    subst this
    rw [List.take_length] at hat
    refine ⟨fun i a b' c d e' f' _ _ _ _ _ _ γ y=>∃ k:Nat,i=k∧k≤z2.length∧a=a2∧b'=b∧c=[]∧d=d2∧e'.length=1+k∧f'=f∧γ=(g:Int)∧y=z2,
      fun i _ _ _ _ _ _ _ _ _ _ _ _ _ _=>((z2.length:Int)-i).toNat,⟨tr0⟩,⟨0,tr0,by omega,tr0,tr0,tr0,tr0,by omega,tr0,by simp,tr0⟩,?_⟩
    rintro _ aa bb _ dd e3 ff v1 v2 v3 v4 v5 v6 _ z3 ⟨k,rfl,hk,rfl,rfl,rfl,rfl,he3,rfl,rfl,rfl⟩
    refine ⟨fun h1=>?_,fun h1=>?_⟩
    · (simp only [dq1,dq2,dq3,dq4] at h1)
      have hk':k<List.length z3:=by omega
      simp only [Int.toNat_natCast,Nat.zero_add]
      exact ⟨⟨by omega⟩,⟨tr0⟩,⟨hk'⟩,⟨tr0⟩,⟨hk'⟩,⟨by simp only [List.length_cons,List.length_nil,bigN];omega⟩,⟨by omega⟩,⟨tr0⟩,⟨k+1,by omega,by omega,tr0,tr0,tr0,tr0,by simp;omega,tr0,tr0,tr0⟩,⟨by ((try dsimp only);omega)⟩⟩
    (simp only [dq1,dq2,dq3,dq4] at h1)
    refine ⟨⟨by omega⟩,_,⟨sym_ev (aa,(bb,([],(dd,(e3,(ff,())))))) st (by simp only;omega) (by simp only;omega)⟩,?_⟩
    refine ⟨fun i a b' c d e' f' _ _ _ _ _ _ γ y=>∃ k:Nat,i=k∧k≤r.length∧a=aa∧b'=bb∧c.length=1+k∧(∀ x∈c,x.2.1.length≤8)∧d=dd∧e'=e3∧f'=ff∧γ=(g:Int)∧y=z3,
      fun i _ _ _ _ _ _ _ _ _ _ _ _ _ _=>((r.length:Int)-i).toNat,⟨tr0⟩,⟨0,tr0,by omega,tr0,tr0,by simp,by simp,tr0,tr0,tr0,by simp,tr0⟩,?_⟩
    rintro _ aa bb c4 dd ee ff v1 v2 v3 v4 v5 v6 _ z4 ⟨k,rfl,hk,rfl,rfl,hc4,hr4,rfl,rfl,rfl,rfl,rfl⟩
    refine ⟨fun h1=>?_,fun h1=>?_⟩
    · (simp only [dq1,dq2,dq3,dq4] at h1)
      have hk':k<r.length:=by omega
      have hm:List.getD r k (([]:List Int),(([]:List qT3),(([]:List Int),(([]:List Int),()))))∈r:=getD_mem' _ hk'
      have a2:=h.rlen _ hm
      have a3:=h.rnm _ hm
      have a4:=h.prec _ hm
      simp only [Int.toNat_natCast]
      refine ⟨⟨by omega⟩,_,⟨sym_ev (aa,(bb,(c4,(dd,(ee,(ff,())))))) _ (by simp only;omega) (by simp only;omega)⟩,?_⟩
      refine ⟨fun j lf rt _ p1 p2 p3 p4 a b' c d e' f' _ _ _ _ _ _ γ y=>∃ q:Nat,j=q∧q≤(List.getD r k (([]:List Int),(([]:List qT3),(([]:List Int),(([]:List Int),()))))).2.1.length∧rt.length=q∧p2=(List.getD r k (([]:List Int),(([]:List qT3),(([]:List Int),(([]:List Int),()))))).2.1∧p3=(List.getD r k (([]:List Int),(([]:List qT3),(([]:List Int),(([]:List Int),()))))).2.2.1∧a=aa∧b'=bb∧c=c4∧d=dd∧e'=ee∧f'=ff∧γ=(g:Int)∧y=z4,
        fun j _ _ _ _ _ _ _ _ _ _ _ _ _ _ _ _ _ _ _ _ _=>(((List.getD r k (([]:List Int),(([]:List qT3),(([]:List Int),(([]:List Int),()))))).2.1.length:Int)-j).toNat,⟨tr0⟩,⟨0,tr0,by omega,tr0,tr0,tr0,tr0,tr0,tr0,tr0,tr0,tr0,by simp,tr0⟩,?_⟩
      rintro _ lf rt lv p1 _ _ p4 aa bb cc dd ee ff s1 s2 s3 s4 s5 s6 _ z5 ⟨q,rfl,hq,hrt,rfl,rfl,rfl,rfl,rfl,rfl,rfl,rfl,rfl,rfl⟩
      refine ⟨fun h2=>?_,fun h2=>?_⟩
      · (simp only [dq1,dq2,dq3,dq4] at h2)
        have hq':q<(List.getD r k (([]:List Int),(([]:List qT3),(([]:List Int),(([]:List Int),()))))).2.1.length:=by omega
        have hin:=a3 _ (getD_mem' ([]:List Int) hq')
        have hsy:0≤symK (aa,(bb,(cc,(dd,(ee,(ff,())))))) (List.getD (List.getD r k (([]:List Int),(([]:List qT3),(([]:List Int),(([]:List Int),()))))).2.1 q []):=symK_nn (by
          rcases hin with q1 | q1
          · exact .inl (hat _ q1)
          · exact .inr (hbr _ q1))
        simp only [Int.toNat_natCast]
        refine ⟨⟨by omega⟩,_,⟨sym_ev (aa,(bb,(cc,(dd,(ee,(ff,())))))) _ (by simp only;omega) (by simp only;omega)⟩,fun h3=>?_,fun _=>⟨⟨by simp only [List.length_cons,List.length_nil,bigN];omega⟩,fun h3=>?_,fun _=>?_⟩⟩
        · (simp only [dq1,dq2,dq3,dq4] at h3);omega
        · (simp only [dq1,dq2,dq3,dq4] at h3)
          exact ⟨⟨by omega⟩,⟨by omega⟩,⟨tr0⟩,⟨q+1,by omega,by omega,by simp;omega,tr0,tr0,tr0,tr0,tr0,tr0,tr0,tr0,tr0,tr0⟩,⟨by ((try dsimp only);omega)⟩⟩
        · exact ⟨⟨by omega⟩,⟨tr0⟩,⟨q+1,by omega,by omega,by simp;omega,tr0,tr0,tr0,tr0,tr0,tr0,tr0,tr0,tr0,tr0⟩,⟨by ((try dsimp only);omega)⟩⟩
      · (simp only [dq1,dq2,dq3,dq4] at h2)
        have fin:∀ x:Prd,x.2.1.length≤8→∀ y∈cc++[x],y.2.1.length≤8:=fun x hx y hy=>by
          rcases List.mem_append.1 hy with hy | hy
          · exact hr4 y hy
          · simp only [List.mem_singleton] at hy;rw [hy];exact hx
        refine ⟨fun h3=>?_,fun h3=>?_⟩
        · have hne:(List.getD r k (([]:List Int),(([]:List qT3),(([]:List Int),(([]:List Int),()))))).2.2.1≠[]:=by simpa using h3
          have hpos:=levK_pos (i:=0) (a4.resolve_left hne).2
          refine ⟨_,_,_,⟨level_ev t [] g z5 st r _ (by omega) (fun x hx=>h.names hx)⟩,fun h4=>by (simp only [dq1,dq2,dq3,dq4] at h4);omega,fun _=>?_⟩
          exact ⟨⟨by simp only [List.length_cons,List.length_nil,bigN];omega⟩,⟨by omega⟩,⟨tr0⟩,⟨k+1,by omega,by omega,tr0,tr0,by simp;omega,fin _ (by simp only;omega),tr0,tr0,tr0,tr0,tr0⟩,⟨by ((try dsimp only);omega)⟩⟩
        · exact ⟨⟨by simp only [List.length_cons,List.length_nil,bigN];omega⟩,⟨by omega⟩,⟨tr0⟩,⟨k+1,by omega,by omega,tr0,tr0,by simp;omega,fin _ (by simp only;omega),tr0,tr0,tr0,tr0,tr0⟩,⟨by ((try dsimp only);omega)⟩⟩
    · (simp only [dq1,dq2,dq3,dq4] at h1)
      refine ⟨_,⟨place_ev bb st (by omega)⟩,fun h2=>?_,fun _=>?_⟩
      · (simp only [dq1,dq2,dq3,dq4] at h2)
        have:=placeK_nn.2 (hbr st h.stt.2)
        omega
      · exact ⟨(aa,(bb,(c4,(dd,(ee,(ff,())))))),⟨by simp only;omega,by simp only;omega,by simp only;omega,hr4,hal2,fun s hs=>vr_len s (hbv s hs)⟩,tr0,tr0⟩
  obtain ⟨a,h',e,p,hp,rfl,rfl⟩:=key
  exact ⟨p,hp,e⟩
end Go.Am.Z.T
