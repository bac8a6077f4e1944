/-
  A part of the proof of a law: see the text that states it.
-/
import Derived.Test.YtcggbplapaeedaaDoorZN
import Derived.Test.YtcggbplapaeedaaDoorVcP
set_option linter.all false
namespace Go.Am.R
open Go Go.Am.Pr Go.Am.R.L
set_option maxRecDepth 100000
theorem take_eq_snoc {α:Type} {d:α} {l m:List α} {k:Nat} (h:l.take k=m.take k) (hk:k<l.length) (hk':k<m.length) (e:l.getD k d=m.getD k d):l.take (k+1)=m.take (k+1):=by
 rw [take_snoc d hk,take_snoc d hk',h,e]
theorem take_eq_all {α:Type} {l m:List α} {k:Nat} (h:l.take k=m.take k) (hk:l.length≤k) (hm:l.length=m.length):l=m:=by
 rw [List.take_of_length_le hk,List.take_of_length_le (by omega)] at h;exact h
theorem texts2_ev (l m:List qT0) (hl:l.length≤1000000):∃ R,E 31 [.tv [] qt10 l,.tv [] qt10 m] [] (bv R) []∧(R=true↔l=m):=by
 have ev:EvF PP orc 31 [.tv [] qt10 l,.tv [] qt10 m] [] fun a h=>∃ R,a=bv R∧h=[]∧(R=true↔l=m):=by
  refine vc31 l m _ ⟨fun h=>?_,fun h=>?_⟩
  ·(simp only [decide_eq_true_eq,decide_eq_false_iff_not,Bool.not_eq_true',Bool.not_eq_false'] at h)
   exact ⟨false,rfl,rfl,fun q=>(by cases q),fun q=>absurd (by rw [q]) h⟩
  simp only [decide_eq_false_iff_not,ne_eq,Decidable.not_not] at h
  refine ⟨fun z=>∃ k:Nat,z=k∧k≤l.length∧l.take k=m.take k,fun z=>((l.length:Int)-z).toNat,⟨0,rfl,by omega,rfl⟩,?_⟩
  rintro z ⟨k,rfl,hk,hv⟩
  refine ⟨fun g=>?_,fun g=>?_⟩
  ·(simp only [decide_eq_true_eq,decide_eq_false_iff_not,Bool.not_eq_true',Bool.not_eq_false'] at g)
   have hk':k<l.length:=by omega
   rw [Int.toNat_natCast]
   refine ⟨⟨by omega⟩,⟨by omega⟩,fun q=>⟨false,rfl,rfl,fun q=>(by cases q),fun e=>?_⟩,fun q=>⟨⟨by omega⟩,⟨k+1,by omega,by omega,?_⟩,⟨by ((try dsimp only);omega)⟩⟩⟩
   ·rw [e] at q;simp at q
   ·simp only [Bool.not_eq_false',decide_eq_true_eq] at q
    exact take_eq_snoc hv hk' (by omega) q
  ·(simp only [decide_eq_true_eq,decide_eq_false_iff_not,Bool.not_eq_true',Bool.not_eq_false'] at g)
   exact ⟨true,rfl,rfl,fun _=>take_eq_all hv (by omega) (by omega),fun _=>rfl⟩
 obtain ⟨a,h,e,R,rfl,rfl,hR⟩:=ev
 exact ⟨R,e,hR⟩
theorem same2_ev (a b:Gr) (f:Fit a):∃ R,E 17 [.tv [] tGr a,.tv [] tGr b] [] (bv R) []∧(R=true↔a=b):=by
 obtain ⟨h1,h2,h3,h4,h5,h6⟩:=f
 have ev:EvF PP orc 17 [.tv [] tGr a,.tv [] tGr b] [] fun o h=>∃ R,o=bv R∧h=[]∧(R=true↔a=b):=by
  obtain ⟨tk,sk,lv,st,rl,⟨⟩⟩:=a
  obtain ⟨tk',sk',lv',st',rl',⟨⟩⟩:=b
  dsimp only at h1 h2 h3 h4 h5 h6
  have no:¬ (tk=tk'∧sk=sk'∧lv=lv'∧st=st'∧rl=rl')→(false=true↔(tk,(sk,(lv,(st,(rl,PUnit.unit)))))=(tk',(sk',(lv',(st',(rl',PUnit.unit)))))):=fun h=>⟨fun q=>(by cases q),fun q=>absurd (by simpa using q) h⟩
  refine vc17 tk sk lv st rl tk' sk' lv' st' rl' _ ⟨fun g=>⟨false,rfl,rfl,no ?_⟩,fun g1=>⟨fun g=>⟨false,rfl,rfl,no ?_⟩,fun g2=>⟨fun g=>⟨false,rfl,rfl,no ?_⟩,fun g3=>⟨fun g=>⟨false,rfl,rfl,no ?_⟩,fun g4=>⟨fun g=>⟨false,rfl,rfl,no ?_⟩,fun g5=>?_⟩⟩⟩⟩⟩
  ·(simp only [decide_eq_true_eq,decide_eq_false_iff_not,Bool.not_eq_true',Bool.not_eq_false'] at g);exact fun q=>g (by rw [q.1])
  ·(simp only [decide_eq_true_eq,decide_eq_false_iff_not,Bool.not_eq_true',Bool.not_eq_false'] at g);exact fun q=>g (by rw [q.2.1])
  ·(simp only [decide_eq_true_eq,decide_eq_false_iff_not,Bool.not_eq_true',Bool.not_eq_false'] at g);exact fun q=>g (by rw [q.2.2.1])
  ·exact fun q=>by rw [q.2.2.2.1] at g;simp at g
  ·(simp only [decide_eq_true_eq,decide_eq_false_iff_not,Bool.not_eq_true',Bool.not_eq_false'] at g);exact fun q=>g (by rw [q.2.2.2.2])
  simp only [decide_eq_false_iff_not,ne_eq,Decidable.not_not,Bool.not_eq_false',decide_eq_true_eq] at g1 g2 g3 g4 g5
  refine ⟨fun z=>∃ k:Nat,z=k∧k≤tk.length∧tk.take k=tk'.take k,fun z=>((tk.length:Int)-z).toNat,⟨0,rfl,by omega,rfl⟩,?_⟩
  rintro z ⟨k,rfl,hk,hv⟩
  refine ⟨fun g=>?_,fun g=>?_⟩
  ·(simp only [decide_eq_true_eq,decide_eq_false_iff_not,Bool.not_eq_true',Bool.not_eq_false'] at g)
   have hk':k<tk.length:=by omega
   rw [Int.toNat_natCast]
   refine ⟨⟨by omega⟩,⟨by omega⟩,fun q=>⟨false,rfl,rfl,no fun e=>?_⟩,fun q=>⟨⟨by omega⟩,⟨k+1,by omega,by omega,take_eq_snoc (d:=(([]:List Int),(([],([],(false,()))),()))) hv hk' (by omega) ?_⟩,⟨by ((try dsimp only);omega)⟩⟩⟩
   ·rw [e.1] at q;simp at q
   ·rcases hA:tk.getD k (([]:List Int),(([],([],(false,()))),())) with ⟨n,⟨t,s,m,⟨⟩⟩,⟨⟩⟩
    rcases hB:tk'.getD k (([]:List Int),(([],([],(false,()))),())) with ⟨n',⟨t',s',m',⟨⟩⟩,⟨⟩⟩
    rw [hA,hB] at q
    simp at q
    obtain ⟨rfl,rfl,rfl,rfl⟩:=q
    rfl
  (simp only [decide_eq_true_eq,decide_eq_false_iff_not,Bool.not_eq_true',Bool.not_eq_false'] at g)
  have t1:=take_eq_all hv (by omega) (by omega)
  clear hv g hk k
  refine ⟨fun z=>∃ k:Nat,z=k∧k≤sk.length∧sk.take k=sk'.take k,fun z=>((sk.length:Int)-z).toNat,⟨0,rfl,by omega,rfl⟩,?_⟩
  rintro z ⟨k,rfl,hk,hv⟩
  refine ⟨fun g=>?_,fun g=>?_⟩
  ·(simp only [decide_eq_true_eq,decide_eq_false_iff_not,Bool.not_eq_true',Bool.not_eq_false'] at g)
   have hk':k<sk.length:=by omega
   rw [Int.toNat_natCast]
   refine ⟨⟨by omega⟩,⟨by omega⟩,fun q=>⟨false,rfl,rfl,no fun e=>?_⟩,fun q=>⟨⟨by omega⟩,⟨k+1,by omega,by omega,take_eq_snoc (d:=(([]:List Int),(([]:List Int),(false,())))) hv hk' (by omega) ?_⟩,⟨by ((try dsimp only);omega)⟩⟩⟩
   ·rw [e.2.1] at q;simp at q
   ·rcases hA:sk.getD k (([]:List Int),(([]:List Int),(false,()))) with ⟨t,s,m,⟨⟩⟩
    rcases hB:sk'.getD k (([]:List Int),(([]:List Int),(false,()))) with ⟨t',s',m',⟨⟩⟩
    rw [hA,hB] at q
    simp at q
    obtain ⟨rfl,rfl,rfl⟩:=q
    rfl
  (simp only [decide_eq_true_eq,decide_eq_false_iff_not,Bool.not_eq_true',Bool.not_eq_false'] at g)
  have t2:=take_eq_all hv (by omega) (by omega)
  clear hv g hk k
  refine ⟨fun z=>∃ k:Nat,z=k∧k≤lv.length∧lv.take k=lv'.take k,fun z=>((lv.length:Int)-z).toNat,⟨0,rfl,by omega,rfl⟩,?_⟩
  rintro z ⟨k,rfl,hk,hv⟩
  refine ⟨fun g=>?_,fun g=>?_⟩
  ·(simp only [decide_eq_true_eq,decide_eq_false_iff_not,Bool.not_eq_true',Bool.not_eq_false'] at g)
   have hk':k<lv.length:=by omega
   rw [Int.toNat_natCast]
   obtain ⟨R,ev,hR⟩:=texts2_ev (lv.getD k ((0:Int),(([]:List qT0),()))).2.1 (lv'.getD k ((0:Int),(([]:List qT0),()))).2.1 (h5 _ (getD_mem' _ _ _ hk'))
   refine ⟨⟨by omega⟩,⟨by omega⟩,fun q=>⟨false,rfl,rfl,no fun e=>?_⟩,fun q=>⟨⟨by omega⟩,⟨by omega⟩,R,⟨ev⟩,fun q2=>⟨false,rfl,rfl,no fun e=>?_⟩,fun q2=>⟨⟨by omega⟩,⟨k+1,by omega,by omega,take_eq_snoc (d:=((0:Int),(([]:List qT0),()))) hv hk' (by omega) ?_⟩,⟨by ((try dsimp only);omega)⟩⟩⟩⟩
   ·rw [e.2.2.1] at q;simp at q
   ·rw [hR.2 (by rw [e.2.2.1])] at q2;cases q2
   ·simp only [Bool.not_eq_false'] at q2
    have hR:=hR.1 q2
    rcases hA:lv.getD k ((0:Int),(([]:List qT0),())) with ⟨n,s,⟨⟩⟩
    rcases hB:lv'.getD k ((0:Int),(([]:List qT0),())) with ⟨n',s',⟨⟩⟩
    rw [hA,hB] at q hR
    simp at q hR
    rw [q,hR]
  (simp only [decide_eq_true_eq,decide_eq_false_iff_not,Bool.not_eq_true',Bool.not_eq_false'] at g)
  have t3:=take_eq_all hv (by omega) (by omega)
  clear hv g hk k
  refine ⟨fun z=>∃ k:Nat,z=k∧k≤rl.length∧rl.take k=rl'.take k,fun z=>((rl.length:Int)-z).toNat,⟨0,rfl,by omega,rfl⟩,?_⟩
  rintro z ⟨k,rfl,hk,hv⟩
  refine ⟨fun g=>?_,fun g=>?_⟩
  ·(simp only [decide_eq_true_eq,decide_eq_false_iff_not,Bool.not_eq_true',Bool.not_eq_false'] at g)
   have hk':k<rl.length:=by omega
   rw [Int.toNat_natCast]
   obtain ⟨R,ev,hR⟩:=texts2_ev (rl.getD k (([]:List Int),(([]:List qT0),(([]:List Int),(([]:List Int),()))))).2.1 (rl'.getD k (([]:List Int),(([]:List qT0),(([]:List Int),(([]:List Int),()))))).2.1 (h6 _ (getD_mem' _ _ _ hk'))
   refine ⟨⟨by omega⟩,⟨by omega⟩,fun q=>⟨false,rfl,rfl,no fun e=>?_⟩,fun q=>⟨fun q1=>⟨false,rfl,rfl,no fun e=>?_⟩,fun q1=>⟨fun q3=>⟨false,rfl,rfl,no fun e=>?_⟩,fun q3=>⟨R,⟨ev⟩,fun q2=>⟨false,rfl,rfl,no fun e=>?_⟩,fun q2=>⟨⟨by omega⟩,⟨k+1,by omega,by omega,take_eq_snoc (d:=(([]:List Int),(([]:List qT0),(([]:List Int),(([]:List Int),()))))) hv hk' (by omega) ?_⟩,⟨by ((try dsimp only);omega)⟩⟩⟩⟩⟩⟩
   ·rw [e.2.2.2.2] at q;simp at q
   ·rw [e.2.2.2.2] at q1;simp at q1
   ·rw [e.2.2.2.2] at q3;simp at q3
   ·rw [hR.2 (by rw [e.2.2.2.2])] at q2;cases q2
   ·simp only [Bool.not_eq_false'] at q2
    have hR:=hR.1 q2
    rcases hA:rl.getD k (([]:List Int),(([]:List qT0),(([]:List Int),(([]:List Int),())))) with ⟨n,s,p,c,⟨⟩⟩
    rcases hB:rl'.getD k (([]:List Int),(([]:List qT0),(([]:List Int),(([]:List Int),())))) with ⟨n',s',p',c',⟨⟩⟩
    rw [hA,hB] at q q1 q3 hR
    simp at q q1 q3 hR
    rw [q,q1,q3,hR]
  ·(simp only [decide_eq_true_eq,decide_eq_false_iff_not,Bool.not_eq_true',Bool.not_eq_false'] at g)
   have t4:=take_eq_all hv (by omega) (by omega)
   exact ⟨true,rfl,rfl,fun _=>by rw [t1,t2,t3,g4,t4],fun _=>rfl⟩
 obtain ⟨o,h,e,R,rfl,rfl,hR⟩:=ev
 exact ⟨R,e,hR⟩
theorem unlike (g k:Gr) (hi:InR tGr g) (hj:InR tGr k) (hw:wT tGr g+wT tGr k≤1048576):E 8 [.tv [] tGr g,.tv [] tGr k] [] (bv true) []:=by
 have hb:=ByG.of hi
 have hp:=ByP.of hi
 have hf:=few_ev g (by omega)
 have hfew:=fun h=>few_of (g:=g) h fun r hr=>(hb.rl r hr).2.2.2
 have hb':=ByG.of hj
 have hp':=ByP.of hj
 have hf':=few_ev k (by omega)
 have hfew':=fun h=>few_of (g:=k) h fun r hr=>(hb'.rl r hr).2.2.2
 have p1:=fun h=>print_ev g (hfew h)
 have p2:=fun h=>print_ev k (hfew' h)
 have same:=fun h=>same2_ev g k (hfew h).fit
 have key:(printO g).2=0→(printO k).2=0→((printO g).1=(printO k).1↔g=k):=by
  intro e1 e2
  refine ⟨fun e=>?_,fun e=>by rw [e]⟩
  unfold printO at e e1 e2
  cases h1:rightO g with
  | false=>rw [if_pos h1] at e1;exact absurd e1 (by decide)
  | true =>
   cases h2:rightO k with
   | false=>rw [if_pos h2] at e2;exact absurd e2 (by decide)
   | true =>
    rw [if_neg (by rw [h1];decide)] at e1
    rw [if_neg (by rw [h2];decide)] at e2
    rw [if_neg (show ¬ rightO g=false by rw [h1];decide),if_neg (show ¬ rightO k=false by rw [h2];decide)] at e
    by_cases l1:4000<(grT g).length
    ·rw [if_pos l1] at e1;exact absurd e1 (by decide)
    by_cases l2:4000<(grT k).length
    ·rw [if_pos l2] at e2;exact absurd e2 (by decide)
    rw [if_neg l1,if_neg l2] at e
    have e:grT g=grT k:=e
    have r1:=read_back h1 hp
    have r2:=read_back h2 hp'
    rw [e,r2] at r1
    exact (congrArg Prod.fst r1).symm
 obtain ⟨tk,sk,lv,st,rl,⟨⟩⟩:=g
 obtain ⟨tk',sk',lv',st',rl',⟨⟩⟩:=k
 refine ev_of (vc8 tk sk lv st rl tk' sk' lv' st' rl' _ ⟨_,⟨awake7_ev⟩,_,⟨hf⟩,_,⟨hf'⟩,fun _=>⟨rfl,rfl⟩,fun h=>⟨fun _=>⟨rfl,rfl⟩,fun h'=>?_⟩⟩)
 simp only [Bool.not_eq_false'] at h h'
 obtain ⟨R,ev,hR⟩:=same h
 refine ⟨_,_,⟨p1 h⟩,_,_,⟨p2 h'⟩,fun _=>⟨rfl,rfl⟩,fun q1=>⟨fun _=>⟨rfl,rfl⟩,fun q2=>⟨fun _=>⟨R,⟨ev⟩,tvB ?_,rfl⟩,fun q=>absurd q (by decide)⟩⟩⟩
 simp only [ne_eq,decide_eq_false_iff_not,Decidable.not_not] at q1 q2
 have:=key q1 q2
 cases R with
 | true=>rw [decide_eq_true (this.2 (hR.1 rfl))];rfl
 | false=>rw [decide_eq_false fun q=>by have:=hR.2 (this.1 q);cases this];rfl
end Go.Am.R
