/-
  A part of the proof of a law: see the text that states it.
-/
import Derived.Test.YtfnnapgpcndcjaaGreatDoorVB
import Derived.Test.YtfnnapgpcndcjaaGreatDoorVc9
import Derived.Test.YtfnnapgpcndcjaaGreatDoorVcC
import Derived.Test.YtfnnapgpcndcjaaGreatDoorVcD
set_option linter.all false
namespace Go.Am.Z.V
open Go
set_option maxRecDepth 100000
theorem u64_eq (n:Int):IntKind.wrap .u64 n=n % 18446744073709551616:=rfl
theorem i64_eq (n:Int):IntKind.wrap .i64 n=if n % 18446744073709551616 ≥ 9223372036854775808 then n % 18446744073709551616-18446744073709551616 else n % 18446744073709551616:=by
 show (if (true&&decide (n % 18446744073709551616 ≥ 9223372036854775808))=true then n % 18446744073709551616-18446744073709551616 else n % 18446744073709551616)=_
 simp
theorem w64_of {a b:Int} (h:a % 18446744073709551616=b % 18446744073709551616):w64 a=w64 b:=by
 unfold w64;rw [i64_eq,i64_eq,h]
theorem w64_u (a:Int):w64 (IntKind.wrap .u64 a)=w64 a:=w64_of (by rw [u64_eq];omega)
def In64 (n:Int):Prop:=-9223372036854775808≤n∧n≤9223372036854775807
theorem w64_id {n:Int} (h:In64 n):w64 n=n:=by
 unfold w64;rw [i64_eq];unfold In64 at h;split <;> omega
theorem w64_in (n:Int):In64 (w64 n):=by
 unfold w64;rw [i64_eq];unfold In64;split <;> omega
theorem up_neg {a:Int} (h:In64 a) (g:a<0):IntKind.wrap .u64 ((0:Int)-IntKind.wrap .u64 a)=-a:=by
 rw [u64_eq,u64_eq];unfold In64 at h;omega
theorem up_pos {a:Int} (h:In64 a) (g:¬ a<0):IntKind.wrap .u64 a=a:=by
 rw [u64_eq];unfold In64 at h;omega
theorem tmod_in {a b:Int} (hb:b≠0) (h:In64 b):In64 (Int.tmod a b):=by
 have h1:=Int.natAbs_tmod a b
 have h2:=Nat.mod_lt (Int.natAbs a) (show 0<Int.natAbs b by omega)
 unfold In64 at *
 omega
theorem rbad_ev (n:Int):E 74 [.tv [] (.int .i64) n] [] (.tv [] tV (3,n,())) []:=ev_of (vc74 n _ ⟨rfl,rfl⟩)
theorem rnum_ev (n:Int):E 102 [.tv [] (.int .u64) n] [] (.tv [] tV (1,w64 n,())) []:=ev_of (vc102 n _ ⟨rfl,rfl⟩)
def twoK (k:Int) (a b:Val):Val:=if a.1=3 then a else if b.1=3 then b else if a.1≠1 then (3,33,()) else if b.1≠1 then (3,33,()) else signK k a.2.1 b.2.1
theorem tvV {a b:Val} (h:a=b):AV.tv [] tV a=AV.tv [] tV b:=by rw [h]
theorem n1 {a b:Int} (h:a=b):((1:Int),a,())=(1,b,()):=by rw [h]
theorem two_ev (k a1 a2 b1 b2:Int) (hk:5≤k∧k≤9) (ha:In64 a2) (hb:In64 b2):E 103 [.tv [] (.int .i64) k,.tv [] tV (a1,a2,()),.tv [] tV (b1,b2,())] [] (.tv [] tV (twoK k (a1,a2,()) (b1,b2,()))) []:=by
 unfold twoK
 simp only
 refine ev_of (vc103 k a1 a2 b1 b2 _ ⟨fun h1=>?_,fun h1=>⟨fun h2=>?_,fun h2=>⟨fun h3=>⟨_,_,⟨rbad_ev _⟩,?_⟩,fun h3=>⟨fun h4=>⟨_,_,⟨rbad_ev _⟩,?_⟩,fun h4=>?_⟩⟩⟩⟩)
 ·(simp only [dq1,dq2,dq3,dq4] at h1);rw [if_pos h1];exact ⟨rfl,rfl⟩
 ·(simp only [dq1,dq2,dq3,dq4] at h1);(simp only [dq1,dq2,dq3,dq4] at h2);rw [if_neg h1,if_pos h2];exact ⟨rfl,rfl⟩
 ·(simp only [dq1,dq2,dq3,dq4] at h1);(simp only [dq1,dq2,dq3,dq4] at h2);(simp only [dq1,dq2,dq3,dq4] at h3);rw [if_neg h1,if_neg h2,if_pos h3];exact ⟨rfl,rfl⟩
 ·(simp only [dq1,dq2,dq3,dq4] at h1);(simp only [dq1,dq2,dq3,dq4] at h2);(simp only [dq1,dq2,dq3,dq4] at h3);(simp only [dq1,dq2,dq3,dq4] at h4);rw [if_neg h1,if_neg h2,if_neg h3,if_pos h4];exact ⟨rfl,rfl⟩
 (simp only [dq1,dq2,dq3,dq4] at h1);(simp only [dq1,dq2,dq3,dq4] at h2);(simp only [dq1,dq2,dq3,dq4] at h3);(simp only [dq1,dq2,dq3,dq4] at h4)
 rw [if_neg h1,if_neg h2,if_neg h3,if_neg h4]
 refine ⟨fun h5=>⟨_,_,⟨rnum_ev _⟩,?_⟩,fun h5=>⟨fun h6=>⟨_,_,⟨rnum_ev _⟩,?_⟩,fun h6=>⟨fun h7=>⟨_,_,⟨rnum_ev _⟩,?_⟩,fun h7=>⟨fun h8=>⟨_,_,⟨rbad_ev _⟩,?_⟩,fun h8=>?_⟩⟩⟩⟩
 ·(simp only [dq1,dq2,dq3,dq4] at h5);rw [h5];exact ⟨tvV (n1 (by rw [w64_u];exact w64_of (by rw [u64_eq,u64_eq];omega))),rfl⟩
 ·(simp only [dq1,dq2,dq3,dq4] at h5);(simp only [dq1,dq2,dq3,dq4] at h6);rw [h6];exact ⟨tvV (n1 (by rw [w64_u];exact w64_of (by rw [u64_eq,u64_eq];omega))),rfl⟩
 ·(simp only [dq1,dq2,dq3,dq4] at h5);(simp only [dq1,dq2,dq3,dq4] at h6);(simp only [dq1,dq2,dq3,dq4] at h7);rw [h7];exact ⟨tvV (n1 (by rw [w64_u];exact w64_of (by rw [u64_eq,u64_eq,← Int.mul_emod]))),rfl⟩
 ·(simp only [dq1,dq2,dq3,dq4] at h5);(simp only [dq1,dq2,dq3,dq4] at h6);(simp only [dq1,dq2,dq3,dq4] at h7);(simp only [dq1,dq2,dq3,dq4] at h8)
  unfold signK
  rw [if_neg h5,if_neg h6,if_neg h7]
  unfold divK modK
  rw [if_pos h8,if_pos h8]
  split <;> exact ⟨rfl,rfl⟩
 (simp only [dq1,dq2,dq3,dq4] at h5);(simp only [dq1,dq2,dq3,dq4] at h6);(simp only [dq1,dq2,dq3,dq4] at h7);(simp only [dq1,dq2,dq3,dq4] at h8)
 have hs:signK k a2 b2=if k=9 then (1,Int.tmod a2 b2,()) else (1,w64 (Int.tdiv a2 b2),()):=by
  unfold signK
  rw [if_neg h5,if_neg h6,if_neg h7]
  unfold divK modK
  rw [if_neg h8,if_neg h8]
  split
  ·rw [if_neg (by omega)]
  ·rw [if_pos (by omega)]
 rw [hs]
 clear hs
 have hm:=tmod_in (a:=a2) h8 hb
 refine ⟨fun h9=>⟨fun h10=>?_,fun h10=>?_⟩,fun h9=>⟨fun h10=>?_,fun h10=>?_⟩⟩
 ·(simp only [dq1,dq2,dq3,dq4] at h9);(simp only [dq1,dq2,dq3,dq4] at h10)
  rw [up_neg ha h9,up_neg hb h10]
  refine ⟨⟨by omega⟩,⟨by omega⟩,⟨by rintro ⟨h,_⟩;cases h⟩,fun k9=>⟨fun g=>⟨_,_,⟨rnum_ev _⟩,?_⟩,fun g=>?_⟩,fun k9=>⟨fun g=>?_,fun g=>⟨_,_,⟨rnum_ev _⟩,?_⟩⟩⟩
  ·(simp only [dq1,dq2,dq3,dq4] at k9);rw [if_pos k9];exact ⟨tvV (n1 (by rw [w64_u,Int.neg_tmod,Int.tmod_neg,Int.zero_sub,Int.neg_neg,w64_id hm])),rfl⟩
  ·exfalso;(simp only [dq1,dq2,dq3,dq4] at g);omega
  ·exfalso;rw [decide_eq_true h9,decide_eq_true h10] at g;simp at g
  ·(simp only [dq1,dq2,dq3,dq4] at k9);rw [if_neg k9];exact ⟨tvV (n1 (by rw [w64_u,Int.neg_tdiv,Int.tdiv_neg,Int.neg_neg])),rfl⟩
 ·(simp only [dq1,dq2,dq3,dq4] at h9);(simp only [dq1,dq2,dq3,dq4] at h10)
  rw [up_neg ha h9,up_pos hb h10]
  refine ⟨⟨by omega⟩,⟨by omega⟩,⟨by rintro ⟨h,_⟩;cases h⟩,fun k9=>⟨fun g=>⟨_,_,⟨rnum_ev _⟩,?_⟩,fun g=>?_⟩,fun k9=>⟨fun g=>⟨_,_,⟨rnum_ev _⟩,?_⟩,fun g=>?_⟩⟩
  ·(simp only [dq1,dq2,dq3,dq4] at k9);rw [if_pos k9];exact ⟨tvV (n1 (by rw [w64_u,Int.neg_tmod,Int.zero_sub,Int.neg_neg,w64_id hm])),rfl⟩
  ·exfalso;(simp only [dq1,dq2,dq3,dq4] at g);omega
  ·(simp only [dq1,dq2,dq3,dq4] at k9);rw [if_neg k9];exact ⟨tvV (n1 (by rw [w64_u,Int.neg_tdiv];exact w64_of (by rw [u64_eq];omega))),rfl⟩
  ·exfalso;rw [decide_eq_true h9,decide_eq_false h10] at g;simp at g
 ·(simp only [dq1,dq2,dq3,dq4] at h9);(simp only [dq1,dq2,dq3,dq4] at h10)
  rw [up_pos ha h9,up_neg hb h10]
  refine ⟨⟨by omega⟩,⟨by omega⟩,⟨by rintro ⟨h,_⟩;cases h⟩,fun k9=>⟨fun g=>?_,fun g=>⟨_,_,⟨rnum_ev _⟩,?_⟩⟩,fun k9=>⟨fun g=>⟨_,_,⟨rnum_ev _⟩,?_⟩,fun g=>?_⟩⟩
  ·exfalso;(simp only [dq1,dq2,dq3,dq4] at g);omega
  ·(simp only [dq1,dq2,dq3,dq4] at k9);rw [if_pos k9];exact ⟨tvV (n1 (by rw [Int.tmod_neg,w64_id hm])),rfl⟩
  ·(simp only [dq1,dq2,dq3,dq4] at k9);rw [if_neg k9];exact ⟨tvV (n1 (by rw [w64_u,Int.tdiv_neg];exact w64_of (by rw [u64_eq];omega))),rfl⟩
  ·exfalso;rw [decide_eq_false h9,decide_eq_true h10] at g;simp at g
 ·(simp only [dq1,dq2,dq3,dq4] at h9);(simp only [dq1,dq2,dq3,dq4] at h10)
  rw [up_pos ha h9,up_pos hb h10]
  refine ⟨⟨by omega⟩,⟨by omega⟩,⟨by rintro ⟨h,_⟩;cases h⟩,fun k9=>⟨fun g=>?_,fun g=>⟨_,_,⟨rnum_ev _⟩,?_⟩⟩,fun k9=>⟨fun g=>?_,fun g=>⟨_,_,⟨rnum_ev _⟩,?_⟩⟩⟩
  ·exfalso;(simp only [dq1,dq2,dq3,dq4] at g);omega
  ·(simp only [dq1,dq2,dq3,dq4] at k9);rw [if_pos k9];exact ⟨tvV (n1 (by rw [w64_id hm])),rfl⟩
  ·exfalso;rw [decide_eq_false h9,decide_eq_false h10] at g;simp at g
  ·(simp only [dq1,dq2,dq3,dq4] at k9);rw [if_neg k9];exact ⟨tvV (n1 (by rw [w64_u])),rfl⟩
def neg1 (a:Val):Val:=if a.1=3 then a else if a.1≠1 then (3,33,()) else (1,w64 (0-a.2.1),())
def partK (vals:List Val) (nodes:List Int) (k n:Int) (m:List Val):Val :=
 if k=1 then (1,n,()) else if k=2 then vals.getD (n-1).toNat V0 else if k=3 then (2,nodes.getD (n-1).toNat 0,())
 else if k=4 then neg1 (m.getD 0 V0) else twoK k (m.getD 0 V0) (m.getD 1 V0)
mutual
def meanK (vals:List Val) (nodes:List Int):XT→Val
  | .mk k n l=>partK vals nodes k n (meanL vals nodes l)
def meanL (vals:List Val) (nodes:List Int):List XT→List Val
  | []=>[]
  | x::l=>meanK vals nodes x::meanL vals nodes l
end
theorem meanL_map (vals:List Val) (nodes:List Int):∀ l:List XT,meanL vals nodes l=l.map (meanK vals nodes)
 | []=>rfl
 | x::l=>by rw [meanL,meanL_map vals nodes l];rfl
theorem meanK_eq (vals:List Val) (nodes:List Int) (x:XT):meanK vals nodes x=partK vals nodes x.kind x.num (x.kids.map (meanK vals nodes)):=by
 cases x;rw [meanK,meanL_map];rfl
inductive FitX (a:Int):XT→Prop
 | mk (x:XT) (h:fitsK x.kind x.num a=true) (t:(x.kids.length:Int)=manyK x.kind) (k:∀ y∈x.kids,FitX a y):FitX a x
theorem FitX.fit {a:Int} {x:XT} (h:FitX a x):fitsK x.kind x.num a=true:=by cases h;assumption
theorem FitX.many {a:Int} {x:XT} (h:FitX a x):(x.kids.length:Int)=manyK x.kind:=by cases h;assumption
theorem FitX.kid {a:Int} {x:XT} (h:FitX a x):∀ y∈x.kids,FitX a y:=by cases h;assumption
def RngV (vals:List Val):Prop:=∀ v∈vals,In64 v.2.1
theorem getD_rng {vals:List Val} (h:RngV vals) (i:Nat):In64 (vals.getD i V0).2.1:=by
 rw [List.getD_eq_getElem?_getD]
 cases hg:vals[i]? with
 | none=>unfold In64;simp [V0]
 | some v=>exact h v (List.mem_of_getElem? hg)
theorem signK_in {k a b:Int} (hb:In64 b):In64 (signK k a b).2.1:=by
 unfold signK
 (repeat' split) <;> first | exact w64_in _ | skip
 ·unfold divK;split
  ·unfold In64;simp
  ·exact w64_in _
 ·unfold modK;split
  ·unfold In64;simp
  ·exact tmod_in (by assumption) hb
theorem twoK_in {k:Int} {a b:Val} (ha:In64 a.2.1) (hb:In64 b.2.1):In64 (twoK k a b).2.1:=by
 unfold twoK
 (repeat' split) <;> first | exact ha | exact hb | exact signK_in hb | (unfold In64;simp)
theorem neg1_in {a:Val} (ha:In64 a.2.1):In64 (neg1 a).2.1:=by
 unfold neg1
 (repeat' split) <;> first | exact ha | exact w64_in _ | (unfold In64;simp)
theorem map_rng {vals:List Val} {nodes:List Int} {l:List XT} (h:∀ y∈l,In64 (meanK vals nodes y).2.1):RngV (l.map (meanK vals nodes)):=by
 intro v hv
 obtain ⟨y,hy,rfl⟩:=List.mem_map.1 hv
 exact h y hy
theorem mean_in {vals:List Val} {nodes:List Int} (hv:RngV vals) (hn:∀ n∈nodes,In64 n) (a:Int):∀ x:XT,FitX a x→In64 (meanK vals nodes x).2.1:=by
 refine XT.ind' fun x ih hf=>?_
 have hk:=map_rng (vals:=vals) (nodes:=nodes) fun y hy=>ih y hy (hf.kid y hy)
 have hi:=(fits_iff _ _ _).1 hf.fit
 rw [meanK_eq];unfold partK
 (repeat' split)
 ·unfold In64;simp only;omega
 ·exact getD_rng hv _
 ·rw [List.getD_eq_getElem?_getD]
  cases hg:nodes[(x.num-1).toNat]? with
  | none=>unfold In64;simp
  | some v=>exact hn v (List.mem_of_getElem? hg)
 ·exact neg1_in (getD_rng hk 0)
 ·exact twoK_in (getD_rng hk 0) (getD_rng hk 1)
theorem map_getD {α β:Type} (f:α→β) (l:List α) (i:Nat) (d:α) (e:β) (h:i<l.length):(l.map f).getD i e=f (l.getD i d):=by
 simp [List.getD_eq_getElem?_getD,List.getElem?_eq_getElem h]
theorem mean_ev (vals:List Val) (nodes:List Int) (hv:RngV vals) (hn:∀ n∈nodes,In64 n) (hl:vals.length=nodes.length):∀ x:XT,FitX vals.length x→E 75 [.tv [] .expr x,.tv [] (.slice tV) vals,.tv [] qt7 nodes] [] (.tv [] tV (meanK vals nodes x)) []:=by
 refine XT.ind' fun x ih hf=>?_
 have hi:=(fits_iff _ _ _).1 hf.fit
 have hm:=hf.many
 have hme:=meanK_eq vals nodes x
 unfold partK at hme
 have e0:=fun (h:0<x.kids.length)=>map_getD (meanK vals nodes) x.kids 0 (XT.mk 0 0 []) V0 h
 have e1:=fun (h:1<x.kids.length)=>map_getD (meanK vals nodes) x.kids 1 (XT.mk 0 0 []) V0 h
 refine ev_of (vc75 x vals nodes _ ⟨fun h1=>?_,fun h1=>⟨fun h2=>?_,fun h2=>⟨fun h3=>?_,fun h3=>⟨fun h4=>?_,fun h4=>?_⟩⟩⟩⟩)
 ·(simp only [dq1,dq2,dq3,dq4] at h1);rw [if_pos h1] at hme;exact ⟨tvV hme.symm,rfl⟩
 ·(simp only [dq1,dq2,dq3,dq4] at h1);(simp only [dq1,dq2,dq3,dq4] at h2)
  have:=hi.2.2.2.2 (.inl h2)
  rw [if_neg h1,if_pos h2] at hme;exact ⟨⟨by omega⟩,⟨by omega⟩,tvV hme.symm,rfl⟩
 ·(simp only [dq1,dq2,dq3,dq4] at h1);(simp only [dq1,dq2,dq3,dq4] at h2);(simp only [dq1,dq2,dq3,dq4] at h3)
  have:=hi.2.2.2.2 (.inr h3)
  rw [if_neg h1,if_neg h2,if_pos h3] at hme;exact ⟨⟨by omega⟩,⟨by omega⟩,tvV hme.symm,rfl⟩
 ·(simp only [dq1,dq2,dq3,dq4] at h1);(simp only [dq1,dq2,dq3,dq4] at h2);(simp only [dq1,dq2,dq3,dq4] at h3);(simp only [dq1,dq2,dq3,dq4] at h4)
  rw [if_neg h1,if_neg h2,if_neg h3,if_pos h4] at hme
  rw [h4] at hm
  have hlen:x.kids.length=1:=by unfold manyK at hm;simp at hm;omega
  rw [e0 (by omega)] at hme
  have hmem:=getD_mem' (XT.mk 0 0 []) (show 0<x.kids.length by omega)
  have hc:=ih _ hmem (hf.kid _ hmem)
  generalize meanK vals nodes (x.kids.getD 0 (XT.mk 0 0 []))=y at hc hme
  obtain ⟨y1,y2,⟨⟩⟩:=y
  unfold neg1 at hme
  simp only at hme
  refine ⟨⟨by omega⟩,_,_,⟨hc⟩,fun g1=>?_,fun g1=>⟨fun g2=>⟨_,_,⟨rbad_ev _⟩,?_⟩,fun g2=>⟨_,_,⟨rnum_ev _⟩,?_⟩⟩⟩
  ·(simp only [dq1,dq2,dq3,dq4] at g1);rw [if_pos g1] at hme;exact ⟨tvV hme.symm,rfl⟩
  ·(simp only [dq1,dq2,dq3,dq4] at g1);(simp only [dq1,dq2,dq3,dq4] at g2);rw [if_neg g1,if_pos g2] at hme;exact ⟨tvV hme.symm,rfl⟩
  ·(simp only [dq1,dq2,dq3,dq4] at g1);(simp only [dq1,dq2,dq3,dq4] at g2);rw [if_neg g1,if_neg g2] at hme;rw [hme];exact ⟨tvV (n1 (by rw [w64_u];exact w64_of (by rw [u64_eq];omega))),rfl⟩
 ·(simp only [dq1,dq2,dq3,dq4] at h1);(simp only [dq1,dq2,dq3,dq4] at h2);(simp only [dq1,dq2,dq3,dq4] at h3);(simp only [dq1,dq2,dq3,dq4] at h4)
  rw [if_neg h1,if_neg h2,if_neg h3,if_neg h4] at hme
  have hlen:x.kids.length=2:=by unfold manyK at hm;rw [if_neg (by omega),if_neg h4] at hm;omega
  rw [e0 (by omega),e1 (by omega)] at hme
  have hmem:=getD_mem' (XT.mk 0 0 []) (show 0<x.kids.length by omega)
  have hc:=ih _ hmem (hf.kid _ hmem)
  have hr:=mean_in hv hn _ _ (hf.kid _ hmem)
  have hmem2:=getD_mem' (XT.mk 0 0 []) (show 1<x.kids.length by omega)
  have hc2:=ih _ hmem2 (hf.kid _ hmem2)
  have hr2:=mean_in hv hn _ _ (hf.kid _ hmem2)
  generalize meanK vals nodes (x.kids.getD 0 (XT.mk 0 0 []))=y at hc hme hr
  generalize meanK vals nodes (x.kids.getD 1 (XT.mk 0 0 []))=z at hc2 hme hr2
  obtain ⟨y1,y2,⟨⟩⟩:=y
  obtain ⟨z1,z2,⟨⟩⟩:=z
  have ht:=two_ev x.kind y1 y2 z1 z2 (by omega) hr hr2
  rw [← hme] at ht
  generalize meanK vals nodes x=w at ht
  obtain ⟨w1,w2,⟨⟩⟩:=w
  exact ⟨⟨by omega⟩,_,_,⟨hc⟩,⟨by omega⟩,_,_,⟨hc2⟩,_,_,⟨ht⟩,rfl,rfl⟩
theorem wrong1 (m:Val):wrongP [m]=if m.1=3 then (m,true) else if m.1≠1 then ((3,33,()),true) else (V0,false):=by
 unfold wrongP;simp only [wrongL,badL];(repeat' split) <;> simp_all
theorem wrong2 (m n:Val):wrongP [m,n]=if m.1=3 then (m,true) else if n.1=3 then (n,true) else if m.1≠1 then ((3,33,()),true) else if n.1≠1 then ((3,33,()),true) else (V0,false):=by
 unfold wrongP;simp only [wrongL,badL];(repeat' split) <;> simp_all
theorem op_two (vals:List Val) (nodes:List Int) (st:List Val) (m n:Val) (k v:Int) (hk:5≤k):opK vals nodes (st++[m,n]) (k,v,())=st++[twoK k m n]:=by
 unfold opK
 rw [if_neg (by simp only;omega),if_neg (by simp only;omega),if_neg (by simp only;omega),if_neg (by simp only;omega)]
 have h2:(st++[m,n]).length-2=st.length:=by simp
 have h1:(st++[m,n]).length-1=st.length+1:=by simp
 have g0:(st++[m,n]).getD st.length V0=m:=by simp [List.getD_eq_getElem?_getD]
 have g1:(st++[m,n]).getD (st.length+1) V0=n:=by simp [List.getD_eq_getElem?_getD]
 simp only
 rw [h2,h1,List.drop_left,List.take_left,g0,g1,wrong2]
 unfold twoK
 (repeat' split) <;> simp_all
theorem op_neg (vals:List Val) (nodes:List Int) (st:List Val) (m:Val) (v:Int):opK vals nodes (st++[m]) (4,v,())=st++[neg1 m]:=by
 unfold opK
 rw [if_neg (by simp),if_neg (by simp),if_neg (by simp),if_pos rfl]
 have h1:(st++[m]).length-1=st.length:=by simp
 have g0:(st++[m]).getD st.length V0=m:=by simp [List.getD_eq_getElem?_getD]
 simp only
 rw [h1,List.drop_left,g0,wrong1,List.set_append_right _ _ (by omega)]
 unfold neg1
 (repeat' split) <;> simp_all
theorem fold_mean (vals:List Val) (nodes:List Int) (a:Int):∀ x:XT,sure x=true→FitX a x→∀ st:List Val,(comp x).foldl (opK vals nodes) st=st++[meanK vals nodes x]:=by
 refine XT.ind' fun x ih hs hf st=>?_
 have hs':=hs
 rw [sure_eq] at hs
 simp only [Bool.and_eq_true,decide_eq_true_eq,List.all_eq_true] at hs
 have hc:comp x=compL x.kids++[(x.kind,x.num,())]:=by rw [comp_eq,if_neg];unfold right;rw [hs'];simp;omega
 have hL:∀ l:List XT,(∀ y∈l,y∈x.kids)→∀ st:List Val,(compL l).foldl (opK vals nodes) st=st++l.map (meanK vals nodes):=by
  intro l
  induction l with
  | nil=>intro _ st;simp [compL]
  | cons y l ihl =>
   intro h st
   have hy:=h y (List.mem_cons_self ..)
   rw [compL,List.foldl_append,ih y hy (hs.2 y hy) (hf.kid y hy),ihl (fun z hz=>h z (List.mem_cons_of_mem _ hz))]
   simp
 rw [hc,List.foldl_append,hL _ (fun _ h=>h),meanK_eq]
 have hi:=(fits_iff _ _ _).1 hf.fit
 have hm:=hf.many
 unfold manyK at hm
 simp only [List.foldl_cons,List.foldl_nil]
 by_cases h4:x.kind<4
 ·rw [if_pos h4] at hm
  have:x.kids=[]:=List.eq_nil_of_length_eq_zero (by omega)
  rw [this]
  unfold opK partK
  simp only [List.map_nil,List.append_nil]
  have:x.kind=1∨x.kind=2∨x.kind=3:=by omega
  rcases this with h | h | h <;> simp [h]
 ·rw [if_neg h4] at hm
  by_cases h:x.kind=4
  ·rw [if_pos h] at hm
   obtain ⟨c,hc⟩:∃ c,x.kids=[c]:=by
    match hk:x.kids with
    | []=>rw [hk] at hm;simp at hm
    | [c]=>exact ⟨c,rfl⟩
    | _::_::_=>rw [hk] at hm;simp only [List.length_cons] at hm;omega
   rw [hc,h]
   simp only [List.map_cons,List.map_nil]
   rw [op_neg];rfl
  ·rw [if_neg h] at hm
   obtain ⟨c,d,hc⟩:∃ c d,x.kids=[c,d]:=by
    match hk:x.kids with
    | []=>rw [hk] at hm;simp at hm
    | [c]=>rw [hk] at hm;simp at hm
    | [c,d]=>exact ⟨c,d,rfl⟩
    | _::_::_::_=>rw [hk] at hm;simp only [List.length_cons] at hm;omega
   rw [hc]
   simp only [List.map_cons,List.map_nil]
   rw [op_two _ _ _ _ _ _ _ (by omega)]
   unfold partK
   rw [if_neg (by omega),if_neg (by omega),if_neg (by omega),if_neg h]
   rfl
theorem check_fit (a:Int):∀ (l:List Op2) (n:Int) (i:Nat),checkGo a l n i=(0,0)→∀ o∈l,fitsK o.1 o.2.1 a=true
 | [],_,_,_=>by simp
 | x::l,n,i,h=>by
  rw [checkGo] at h
  by_cases hx:fitsK x.1 x.2.1 a=false∨n<takesK x.1
  ·rw [if_pos hx] at h;simp at h
  ·rw [if_neg hx] at h
   have:=check_fit a l _ _ h
   intro o ho
   rcases List.mem_cons.1 ho with rfl | ho
   ·cases hf:fitsK o.1 o.2.1 a
    ·exact absurd (.inl hf) hx
    ·rfl
   ·exact this o ho
theorem fitX_of (a:Int):∀ x:XT,sure x=true→(∀ o∈comp x,fitsK o.1 o.2.1 a=true)→FitX a x:=by
 refine XT.ind' fun x ih hs ho=>?_
 have hs':=hs
 rw [sure_eq] at hs
 simp only [Bool.and_eq_true,decide_eq_true_eq,List.all_eq_true] at hs
 have hc:comp x=compL x.kids++[(x.kind,x.num,())]:=by rw [comp_eq,if_neg];unfold right;rw [hs'];simp;omega
 have hL:∀ l:List XT,∀ y∈l,∀ o∈comp y,o∈compL l:=by
  intro l
  induction l with
  | nil=>simp
  | cons z l ihl =>
   intro y hy o ho
   rw [compL]
   rcases List.mem_cons.1 hy with rfl | hy
   ·exact List.mem_append_left _ ho
   ·exact List.mem_append_right _ (ihl y hy o ho)
 rw [hc] at ho
 refine ⟨x,ho (x.kind,x.num,()) (by simp),hs.1.1.1.1.2,fun y hy=>ih y hy (hs.2 y hy) fun o h=>ho o (List.mem_append_left _ (hL _ y hy o h))⟩
def badTop (l:List Op2) (vals:List Val) (nodes:List Int):Prop:=(check l vals.length).2≠0∨l.length=0∨vals.length≠nodes.length
theorem top_sure {x:XT} {vals:List Val} {nodes:List Int} (h:¬ badTop (comp x) vals nodes):sure x=true∧FitX vals.length x∧vals.length=nodes.length∧runK (comp x) vals nodes=meanK vals nodes x:=by
 have h':¬ ((check (comp x) vals.length).2≠0∨(comp x).length=0∨vals.length≠nodes.length):=h
 have h1:(check (comp x) vals.length).2=0:=by omega
 have h2:(comp x).length≠0:=by omega
 have hck:check (comp x) vals.length=(0,0):=by
  rcases checkGo_bd vals.length (comp x) 0 0 with hbd | ⟨j,_,_,hbd⟩
  ·exact hbd
  ·unfold check at h1;rw [hbd] at h1;simp at h1
 have hc:¬ (x.kind=0∨right x=false):=by
  intro hc;rw [comp_eq,if_pos hc] at h2;exact h2 rfl
 have hs:sure x=true:=by
  have h3:right x=true:=by cases h:right x <;> simp_all
  unfold right at h3
  have h4:x.kind≠0:=fun h=>hc (.inl h)
  simpa [h4] using h3
 have hf:=fitX_of vals.length x hs (check_fit _ _ _ _ hck)
 refine ⟨hs,hf,by omega,?_⟩
 unfold runK
 rw [if_neg h',fold_mean vals nodes _ x hs hf]
 rfl
theorem rmean_ev (x:XT) (vals:List Val) (nodes:List Int) (hx:sizeN x≤1000) (hv:RngV vals) (hn:∀ n∈nodes,In64 n):E 46 [.tv [] .expr x,.tv [] (.slice tV) vals,.tv [] qt7 nodes] [] (.tv [] tV (runK (comp x) vals nodes)) []:=by
 have hcl:=comp_len x
 refine ev_of (vc46 x vals nodes _ ⟨_,⟨rcomp_ev x hx⟩,_,_,⟨rcheck_ev (comp x) vals.length (by omega)⟩,fun h1=>⟨_,_,⟨rbad_ev _⟩,?_⟩,fun h1=>⟨fun h2=>⟨_,_,⟨rbad_ev _⟩,?_⟩,fun h2=>⟨fun h3=>⟨_,_,⟨rbad_ev _⟩,?_⟩,fun h3=>?_⟩⟩⟩)
 ·(simp only [dq1,dq2,dq3,dq4] at h1);unfold runK;rw [if_pos (.inr (.inl (by omega)))];exact ⟨rfl,rfl⟩
 ·(simp only [dq1,dq2,dq3,dq4] at h2);unfold runK;rw [if_pos (.inl h2)];exact ⟨rfl,rfl⟩
 ·(simp only [dq1,dq2,dq3,dq4] at h3);unfold runK;rw [if_pos (.inr (.inr (by omega)))];exact ⟨rfl,rfl⟩
 ·(simp only [dq1,dq2,dq3,dq4] at h1);(simp only [dq1,dq2,dq3,dq4] at h2);(simp only [dq1,dq2,dq3,dq4] at h3)
  obtain ⟨hs,hf,hl,hr⟩:=top_sure (x:=x) (vals:=vals) (nodes:=nodes) (by rintro (h | h | h) <;> omega)
  have hm:=mean_ev vals nodes hv hn hl x hf
  rw [← hr] at hm
  generalize runK (comp x) vals nodes=w at hm
  obtain ⟨w1,w2,⟨⟩⟩:=w
  exact ⟨_,_,⟨hm⟩,rfl,rfl⟩
end Go.Am.Z.V
