/-
  A part of the proof of a law: see the text that states it.
-/
import Derived.Test.YtggaihkjnomflaaDoorZC
import Derived.Test.YtggaihkjnomflaaDoorVcX
set_option linter.all false
namespace Go.Am.D
open Go Go.Am.Pr Go.Am.D.L
set_option maxRecDepth 100000
abbrev tPd:Ty:=.pair (.int .i64) (.pair (.slice (.int .i64)) (.pair (.int .i64) .unit))
abbrev tPl:Ty:=.pair qt9 (.pair qt9 (.pair (.slice tPd) (.pair (.slice (.int .i64)) (.pair (.slice (.int .i64)) (.pair qt9 .unit)))))
abbrev Pd:=Int×List Int×Int×Unit
abbrev Pl:=List qT0×List qT0×List Pd×List Int×List Int×List qT0×Unit
abbrev pl0:Pl:=([],([],([],([],([],([],()))))))
abbrev pd0:Pd:=((0:Int),(([]:List Int),((0:Int),())))
abbrev lv0:Lv:=((0:Int),(([]:List qT0),()))
def findI {α:Type} (p:α→Bool):List α→Int
 | []=>-1
 | a::l=>if p a=true then 0 else if findI p l<0 then -1 else findI p l+1
theorem findI_no {α:Type} {p:α→Bool}:∀ {l:List α},l.any p=false→findI p l=-1
 | [],_=>rfl
 | a::l,h=>by
  simp only [List.any_cons,Bool.or_eq_false_iff] at h
  rw [findI,if_neg (by rw [h.1];decide),findI_no h.2];rfl
theorem findI_hit {α:Type} {p:α→Bool} {d:α}:∀ {l:List α} {k:Nat},k<l.length→(l.take k).any p=false→p (l.getD k d)=true→findI p l=k
 | [],k,h,_,_=>by simp at h
 | a::l,0,_,_,h=>by rw [findI,if_pos (by simpa using h)];rfl
 | a::l,k+1,hk,ha,h=>by
  simp only [List.take_succ_cons,List.any_cons,Bool.or_eq_false_iff] at ha
  have ih:=findI_hit (d:=d) (l:=l) (k:=k) (by simpa using hk) ha.2 (by simpa using h)
  rw [findI,if_neg (by rw [ha.1];decide),ih,if_neg (by omega)];omega
theorem findI_cases {α:Type} (p:α→Bool):∀ l:List α,(findI p l=-1∧l.any p=false)∨∃ k:Nat,k<l.length∧findI p l=k∧(l.take k).any p=false∧∀ d,p (l.getD k d)=true
 | []=>.inl ⟨rfl,rfl⟩
 | a::l=>by
  rw [findI]
  cases h:p a with
  | true=>exact .inr ⟨0,Nat.succ_pos _,rfl,rfl,fun d=>by simpa using h⟩
  | false =>
   rw [if_neg (by decide)]
   rcases findI_cases p l with ⟨h1,h2⟩ | ⟨k,h1,h2,h3,h4⟩
   ·rw [h1,if_pos (by decide)];exact .inl ⟨rfl,by simp [h,h2]⟩
   ·rw [h2,if_neg (by omega)];exact .inr ⟨k+1,by simpa using h1,by omega,by simp [h,h3],fun d=>by simpa using h4 d⟩
theorem any_snoc {α:Type} (p:α→Bool) (l:List α) (x:α):(l++[x]).any p=(l.any p||p x):=by simp
theorem findI_bd {α:Type} (p:α→Bool) (l:List α):-1≤findI p l∧findI p l<l.length:=by
 rcases findI_cases p l with ⟨h1,_⟩ | ⟨k,h1,h2,_⟩ <;> omega
abbrev placeK (l:List qT0) (s:List Int):Int:=findI (fun x=>decide (x=s)) l
theorem place_ev (l:List qT0) (s:List Int) (hl:l.length≤1000000):E 26 [.tv [] qt9 l,.tv [] .str s] [] (iv (placeK l s)) []:=by
 refine ev_of (vc26 l s _ ?_)
 refine ⟨fun i=>∃ n:Nat,i=n∧n≤l.length∧(l.take n).any (fun x=>decide (x=s))=false,fun i=>(l.length-i).toNat,⟨0,rfl,by omega,rfl⟩,?_⟩
 rintro i ⟨n,rfl,hn,ha⟩
 refine ⟨fun h=>?_,fun h=>?_⟩
 ·(simp only [decide_eq_true_eq,decide_eq_false_iff_not,Bool.not_eq_true',Bool.not_eq_false'] at h)
  have hn':n<l.length:=by omega
  rw [Int.toNat_natCast]
  refine ⟨⟨by omega⟩,fun hb=>⟨tvI ?_,rfl⟩,fun hb=>⟨⟨by omega⟩,⟨n+1,rfl,by omega,?_⟩,⟨by ((try dsimp only);omega)⟩⟩⟩
  ·(simp only [decide_eq_true_eq,decide_eq_false_iff_not,Bool.not_eq_true',Bool.not_eq_false'] at hb)
   exact (findI_hit (d:=[]) hn' ha (decide_eq_true hb.symm)).symm
  ·(simp only [decide_eq_true_eq,decide_eq_false_iff_not,Bool.not_eq_true',Bool.not_eq_false'] at hb)
   rw [take_snoc ([]:List Int) hn',any_snoc,ha,decide_eq_false fun e=>hb e.symm];rfl
 ·(simp only [decide_eq_true_eq,decide_eq_false_iff_not,Bool.not_eq_true',Bool.not_eq_false'] at h)
  rw [List.take_of_length_le (by omega)] at ha
  exact ⟨tvI (findI_no ha).symm,rfl⟩
def accO (p:Pl):Int:=(p.1.length:Int)+(p.2.1.length:Int)
def termO (p:Pl) (x:Int):Bool:=decide (0≤x)&&decide (x<p.1.length)
def symO (p:Pl) (n:List Int):Int:=if 0≤placeK p.1 n then placeK p.1 n else if 0≤placeK p.2.1 n then (p.1.length:Int)+placeK p.2.1 n else -1
def acceptT:List Int:=[36,97,99,99,101,112,116]
def endT:List Int:=[36,101,110,100]
def nameP (p:Pl) (x:Int):List Int:=if x<0 then [] else if accO p<x then [] else if x=accO p then acceptT else if termO p x=true then p.1.getD x.toNat [] else p.2.1.getD (x-p.1.length).toNat []
structure PlB (p:Pl):Prop where
 t:p.1.length≤100000
 v:p.2.1.length≤100000
section
variable {p:Pl} (h:PlB p)
include h
theorem acc_ev:E 10 [.tv [] tPl p] [] (iv (accO p)) []:=by
 have h1:=h.t
 have h2:=h.v
 obtain ⟨a,b,c,d,e,f,⟨⟩⟩:=p
 exact ev_of (vc10 a b c d e f _ ⟨⟨by dsimp only at h1 h2;omega⟩,rfl,rfl⟩)
theorem term_ev (x:Int):E 14 [.tv [] tPl p,iv x] [] (bv (termO p x)) []:=by
 obtain ⟨a,b,c,d,e,f,⟨⟩⟩:=p
 refine ev_of (vc14 a b c d e f x _ ⟨fun q=>⟨tvB ?_,rfl⟩,fun q=>⟨tvB ?_,rfl⟩⟩)
 ·unfold termO;rw [q];rfl
 ·unfold termO;rw [q];rfl
theorem sym_ev (n:List Int):E 12 [.tv [] tPl p,sv n] [] (iv (symO p n)) []:=by
 have h1:=h.t
 have h2:=h.v
 obtain ⟨a,b,c,d,e,f,⟨⟩⟩:=p
 dsimp only at h1 h2
 have e1:=place_ev a n (by omega)
 have e2:=place_ev b n (by omega)
 have b1:-1≤placeK b n∧placeK b n<b.length:=findI_bd _ b
 refine ev_of (vc12 a b c d e f n _ ⟨_,⟨e1⟩,fun q=>⟨tvI ?_,rfl⟩,fun q=>⟨_,⟨e2⟩,fun q2=>⟨⟨by omega⟩,tvI ?_,rfl⟩,fun q2=>⟨tvI ?_,rfl⟩⟩⟩)
 ·(simp only [decide_eq_true_eq,decide_eq_false_iff_not,Bool.not_eq_true',Bool.not_eq_false'] at q);unfold symO;dsimp only;rw [if_pos q]
 ·(simp only [decide_eq_true_eq,decide_eq_false_iff_not,Bool.not_eq_true',Bool.not_eq_false'] at q q2);unfold symO;dsimp only;rw [if_neg q,if_pos q2]
 ·(simp only [decide_eq_true_eq,decide_eq_false_iff_not,Bool.not_eq_true',Bool.not_eq_false'] at q q2);unfold symO;dsimp only;rw [if_neg q,if_neg q2]
theorem name_ev (x:Int):E 11 [.tv [] tPl p,iv x] [] (sv (nameP p x)) []:=by
 have a1:=acc_ev h
 have a2:=term_ev h x
 have h1:=h.t
 have h2:=h.v
 have hn:nameP p x=nameP p x:=rfl
 conv at hn=>rhs;unfold nameP
 have ha:accO p=(p.1.length:Int)+(p.2.1.length:Int):=rfl
 have ht:termO p x=(decide (0≤x)&&decide (x<p.1.length)):=rfl
 obtain ⟨a,b,c,d,e,f,⟨⟩⟩:=p
 dsimp only at h1 h2 ha hn ht
 rw [hn]
 clear hn
 refine ev_of (vc11 a b c d e f x _ ⟨fun q=>?_,fun q=>⟨_,⟨a1⟩,fun q2=>?_,fun q2=>⟨_,⟨a1⟩,fun q3=>?_,fun q3=>⟨_,⟨a2⟩,fun q4=>⟨⟨?_⟩,?_⟩,fun q4=>⟨⟨?_⟩,⟨?_⟩,?_⟩⟩⟩⟩⟩)
 ·(simp only [decide_eq_true_eq,decide_eq_false_iff_not,Bool.not_eq_true',Bool.not_eq_false'] at q);rw [if_pos q];exact ⟨rfl,rfl⟩
 ·(simp only [decide_eq_true_eq,decide_eq_false_iff_not,Bool.not_eq_true',Bool.not_eq_false'] at q q2);rw [if_neg q,if_pos q2];exact ⟨rfl,rfl⟩
 ·(simp only [decide_eq_true_eq,decide_eq_false_iff_not,Bool.not_eq_true',Bool.not_eq_false'] at q q2 q3);rw [if_neg q,if_neg q2,if_pos q3];exact ⟨rfl,rfl⟩
 ·rw [ht,Bool.and_eq_true] at q4
  (simp only [decide_eq_true_eq,decide_eq_false_iff_not,Bool.not_eq_true',Bool.not_eq_false'] at q4);exact ⟨by omega,by omega⟩
 ·(simp only [decide_eq_true_eq,decide_eq_false_iff_not,Bool.not_eq_true',Bool.not_eq_false'] at q q2 q3);rw [if_neg q,if_neg q2,if_neg q3,if_pos q4];exact ⟨rfl,rfl⟩
 ·(simp only [decide_eq_true_eq,decide_eq_false_iff_not,Bool.not_eq_true',Bool.not_eq_false'] at q q2 q3);omega
 ·(simp only [decide_eq_true_eq,decide_eq_false_iff_not,Bool.not_eq_true',Bool.not_eq_false'] at q q2 q3)
  rw [ht,Bool.and_eq_false_iff] at q4
  (simp only [decide_eq_true_eq,decide_eq_false_iff_not,Bool.not_eq_true',Bool.not_eq_false'] at q4)
  omega
 ·(simp only [decide_eq_true_eq,decide_eq_false_iff_not,Bool.not_eq_true',Bool.not_eq_false'] at q q2 q3);rw [if_neg q,if_neg q2,if_neg q3,if_neg (by rw [q4];decide)];exact ⟨rfl,rfl⟩
end
end Go.Am.D
namespace Go.Am.D
open Go Go.Am.Pr Go.Am.D.L
set_option maxRecDepth 100000
theorem joinL_one (sep x:List Int):joinL sep [x]=x:=by simp [joinL,List.intercalate]
theorem joinL_cons (sep x y:List Int) (l:List qT0):joinL sep (x::y::l)=x++sep++joinL sep (y::l):=by
 simp [joinL,List.intercalate]
theorem joinL_le (B:Nat):∀ l:List qT0,(∀ x∈l,x.length≤B)→(joinL [32] l).length≤l.length * (B+1)
 | [],_=>Nat.zero_le _
 | [x],h=>by
  have:=h x (List.mem_cons_self ..)
  rw [joinL_one,List.length_singleton];omega
 | x::y::l,h=>by
  have h1:=h x (List.mem_cons_self ..)
  have ih:=joinL_le B (y::l) fun z hz=>h z (List.mem_cons_of_mem _ hz)
  rw [joinL_cons,List.length_append,List.length_append,List.length_singleton,List.length_cons,Nat.add_mul]
  omega
def spW (l:List qT0):List Int:=l.flatMap fun y=>[32]++y
theorem spW_cons (a:List Int) (l:List qT0):spW (a::l)=[32]++a++spW l:=rfl
theorem join_sp:∀ (l:List qT0) (a:List Int),joinL [32] (a::l)=a++spW l
 | [],a=>by rw [joinL_one];simp [spW]
 | b::l,a=>by rw [joinL_cons,join_sp l b,spW_cons];simp
def showO (p:Pl) (i:Int):List Int:=if i<0 then [] else if (p.2.2.1.length:Int)≤i then [] else
 nameP p (p.2.2.1.getD i.toNat pd0).1++[32,58]++spW ((p.2.2.1.getD i.toNat pd0).2.1.map (nameP p))
structure PlS (p:Pl):Prop extends PlB p where
 tl:∀ x∈p.1,x.length≤100000
 vl:∀ x∈p.2.1,x.length≤100000
 rl:∀ x∈p.2.2.1,x.2.1.length≤100000
 rn:p.2.2.1.length≤100000
theorem getD_len (l:List qT0) (k:Nat) (h:∀ x∈l,x.length≤100000):(l.getD k []).length≤100000:=by
 by_cases hk:k<l.length
 ·exact h _ (getD_mem' _ l _ hk)
 ·rw [List.getD_eq_getElem?_getD,List.getElem?_eq_none (by omega)];exact Nat.zero_le _
theorem nameP_len {p:Pl} (h:PlS p) (x:Int):(nameP p x).length≤100000:=by
 unfold nameP
 split
 ·exact Nat.zero_le _
 ·split
  ·exact Nat.zero_le _
  ·split
   ·unfold acceptT;decide
   ·split
    ·exact getD_len _ _ h.tl
    ·exact getD_len _ _ h.vl
theorem show_ev {p:Pl} (h:PlS p) (i:Int):E 13 [.tv [] tPl p,iv i] [] (sv (showO p i)) []:=by
 have hb:=h.toPlB
 have a1:=fun x=>name_ev hb x
 have h3:=h.rl
 have h4:=h.rn
 have hn:=nameP_len h
 have hs:showO p i=showO p i:=rfl
 conv at hs=>rhs;unfold showO
 clear h hb
 generalize hN:nameP p=N at a1 hn hs
 obtain ⟨a,b,c,d,e,f,⟨⟩⟩:=p
 dsimp only at h3 h4 hs
 rw [hs]
 clear hs hN
 refine ev_of (vc13 a b c d e f i _ ⟨fun q=>?_,fun q=>⟨fun q2=>?_,fun q2=>?_⟩⟩)
 ·(simp only [decide_eq_true_eq,decide_eq_false_iff_not,Bool.not_eq_true',Bool.not_eq_false'] at q);rw [if_pos q];exact ⟨rfl,rfl⟩
 ·(simp only [decide_eq_true_eq,decide_eq_false_iff_not,Bool.not_eq_true',Bool.not_eq_false'] at q q2);rw [if_neg q,if_pos q2];exact ⟨rfl,rfl⟩
 ·(simp only [decide_eq_true_eq,decide_eq_false_iff_not,Bool.not_eq_true',Bool.not_eq_false'] at q q2)
  rw [if_neg q,if_neg q2]
  have hm:=h3 _ (getD_mem' pd0 c i.toNat (by omega))
  generalize hx:c.getD i.toNat pd0=x at hm ⊢
  obtain ⟨L,rs,v,⟨⟩⟩:=x
  dsimp only at hm ⊢
  refine ⟨⟨by omega⟩,_,⟨a1 L⟩,⟨by omega⟩,fun l z=>∃ k:Nat,z=k∧k≤rs.length∧l=N L::[58]::(rs.take k).map N,fun _ z=>((rs.length:Int)-z).toNat,⟨0,rfl,by omega,rfl⟩,?_⟩
  rintro l z ⟨k,rfl,hk,rfl⟩
  have hlen:(N L::[58]::(rs.take k).map N).length=k+2:=by simp;omega
  refine ⟨fun q3=>?_,fun q3=>?_⟩
  ·(simp only [decide_eq_true_eq,decide_eq_false_iff_not,Bool.not_eq_true',Bool.not_eq_false'] at q3)
   have hk':k<rs.length:=by omega
   rw [Int.toNat_natCast]
   refine ⟨⟨by omega⟩,_,⟨a1 _⟩,⟨by rw [hlen,List.length_singleton];unfold bigN;omega⟩,⟨by omega⟩,⟨k+1,by omega,by omega,?_⟩,⟨by ((try dsimp only);omega)⟩⟩
   rw [take_snoc (0:Int) hk',List.map_append];rfl
  ·(simp only [decide_eq_true_eq,decide_eq_false_iff_not,Bool.not_eq_true',Bool.not_eq_false'] at q3)
   have e:rs.take k=rs:=List.take_of_length_le (by omega)
   rw [e] at hlen ⊢
   have hle:=joinL_le 100000 (N L::[58]::rs.map N) (by
    intro y hy
    rcases List.mem_cons.1 hy with rfl | hy
    ·exact hn _
    ·rcases List.mem_cons.1 hy with rfl | hy
     ·decide
     ·obtain ⟨w,_,rfl⟩:=List.mem_map.1 hy
      exact hn _)
   have hmul:(N L::[58]::rs.map N).length * (100000+1)≤100002 * 100001:=Nat.mul_le_mul (by rw [hlen];omega) (Nat.le_refl _)
   refine ⟨_,⟨join_ev _ [32] (by rw [hlen];unfold bigN;omega) (by omega)⟩,tvS ?_,rfl⟩
   rw [join_sp,spW_cons];simp
end Go.Am.D
namespace Go.Am.D
open Go Go.Am.Pr Go.Am.D.L
set_option maxRecDepth 100000
def levK (l:List Lv) (n:List Int):Int:=1+findI (fun x:Lv=>decide (n∈x.2.1)) l
theorem level_ev (g:Gr) (n:List Int) (hl:g.2.2.1.length≤1000000) (hn:∀ x∈g.2.2.1,x.2.1.length≤1000000):E 39 [.tv [] tGr g,sv n] [] (iv (levK g.2.2.1 n)) []:=by
 obtain ⟨tk,sk,lv,st,rl,⟨⟩⟩:=g
 dsimp only at hl hn ⊢
 have e1:E 75 [.tv [] (.slice tLv) lv,.fn 57 [] [.sp .str n]] [] (iv (findI (fun x:Lv=>decide (n∈x.2.1)) lv)) []:=by
  refine ev_of (vc75 lv n _ ?_)
  refine ⟨fun z=>∃ k:Nat,z=k∧k≤lv.length∧(lv.take k).any (fun x:Lv=>decide (n∈x.2.1))=false,fun z=>((lv.length:Int)-z).toNat,⟨0,rfl,by omega,rfl⟩,?_⟩
  rintro z ⟨k,rfl,hk,hv⟩
  refine ⟨fun h=>?_,fun h=>?_⟩
  ·(simp only [decide_eq_true_eq,decide_eq_false_iff_not,Bool.not_eq_true',Bool.not_eq_false'] at h)
   have hk':k<lv.length:=by omega
   rw [Int.toNat_natCast]
   refine ⟨⟨by omega⟩,_,⟨ev_of (vc57 (lv.getD k lv0).1 (lv.getD k lv0).2.1 n _ ⟨_,⟨contains_ev _ n (hn _ (getD_mem' _ lv _ hk'))⟩,rfl,rfl⟩)⟩,fun h2=>⟨tvI ?_,rfl⟩,fun h2=>⟨⟨by omega⟩,⟨k+1,by omega,by omega,?_⟩,⟨by ((try dsimp only);omega)⟩⟩⟩
   ·exact (findI_hit (d:=lv0) hk' hv h2).symm
   ·rw [take_snoc lv0 hk',any_snoc,hv];exact h2
  ·(simp only [decide_eq_true_eq,decide_eq_false_iff_not,Bool.not_eq_true',Bool.not_eq_false'] at h)
   rw [List.take_of_length_le (by omega)] at hv
   exact ⟨tvI (findI_no hv).symm,rfl⟩
 have e2:E 56 [.tv [] (.slice tLv) lv,.fn 57 [] [.sp .str n]] [] (iv (findI (fun x:Lv=>decide (n∈x.2.1)) lv)) []:=ev_of (vc56 lv n _ ⟨_,⟨e1⟩,rfl,rfl⟩)
 have hb:=findI_bd (fun x:Lv=>decide (n∈x.2.1)) lv
 exact ev_of (vc39 tk sk lv st rl n _ ⟨_,⟨e2⟩,⟨by omega⟩,rfl,rfl⟩)
def varsO (l:List Rl):List qT0:=l.foldl (fun vs r=>if r.1∈vs then vs else vs++[r.1]) []
theorem varsO_snoc (l:List Rl) (r:Rl):varsO (l++[r])=if r.1∈varsO l then varsO l else varsO l++[r.1]:=by
 unfold varsO;rw [List.foldl_append];rfl
theorem varsO_len (l:List Rl):∀ k,k≤l.length→(varsO (l.take k)).length≤k
 | 0,_=>Nat.zero_le _
 | k+1,h=>by
  have ih:=varsO_len l k (by omega)
  rw [take_snoc rl0 (by omega),varsO_snoc]
  split
  ·omega
  ·rw [List.length_append,List.length_singleton];omega
def declO (g:Gr):Pl:=(endT::g.1.map (·.1),(varsO g.2.2.2.2.1,([],((0:Int)::g.1.map (fun t=>levK g.2.2.1 t.1),((0:Int)::g.2.2.1.map (·.1),([]::g.2.2.2.2.1.map (·.2.2.2.1),()))))))
theorem Few.lvs {g:Gr} (h:Few g):∀ x∈g.2.2.1,x.2.1.length≤1000000:=by
  intro x hx
  have q:x.2.1.length≤(g.2.2.1.flatMap (·.2.1)).length:=by
    obtain ⟨a,b,e⟩:=List.append_of_mem hx
    rw [e]
    simp only [List.flatMap_append,List.flatMap_cons,List.length_append];omega
  have:=h.lvn
  omega
theorem decl_ev (g:Gr) (hg:Few g):E 20 [.tv [] tGr g] [] (.tv [] tPl (declO g)) []:=by
  have lev:=fun n=>level_ev g n (by have:=hg.lv;omega) hg.lvs
  have f1:=hg.tk
  have f5:=hg.lv
  have f7:=hg.rl
  obtain ⟨tk,sk,lv,st,rl,⟨⟩⟩:=g
  dsimp only at f1 f5 f7
  have hbn:1000000≤bigN:=by decide
  unfold declO
  dsimp only
  refine ev_of (vc20 tk sk lv st rl _ ?_)
  refine ⟨fun z a b c d e f=>∃ k:Nat,z=k∧k≤tk.length∧a=endT::(tk.take k).map (·.1)∧b=[]∧c=[]∧d=(0:Int)::(tk.take k).map (fun t=>levK lv t.1)∧e=[0]∧f=[[]],fun z _ _ _ _ _ _=>((tk.length:Int)-z).toNat,⟨0,rfl,by omega,rfl,rfl,rfl,rfl,rfl,rfl⟩,?_⟩
  rintro z a b c d e f ⟨k,rfl,hk,rfl,rfl,rfl,rfl,rfl,rfl⟩
  refine ⟨fun h=>?_,fun h=>?_⟩
  · (simp only [decide_eq_true_eq,decide_eq_false_iff_not,Bool.not_eq_true',Bool.not_eq_false'] at h)
    have hk':k<tk.length:=by omega
    rw [Int.toNat_natCast]
    refine ⟨⟨by omega⟩,⟨?_⟩,_,⟨lev _⟩,⟨?_⟩,⟨by omega⟩,⟨rfl⟩,⟨k+1,by omega,by omega,?_,rfl,rfl,?_,rfl,rfl⟩,⟨by ((try dsimp only);omega)⟩⟩
    · simp only [List.length_cons,List.length_map,List.length_take,List.length_nil];omega
    · simp only [List.length_cons,List.length_map,List.length_take,List.length_nil];omega
    · rw [take_snoc tk0 hk',List.map_append];rfl
    · rw [take_snoc tk0 hk',List.map_append];rfl
  · (simp only [decide_eq_true_eq,decide_eq_false_iff_not,Bool.not_eq_true',Bool.not_eq_false'] at h)
    have e0:tk.take k=tk:=List.take_of_length_le (by omega)
    rw [e0]
    clear h hk e0 k
    refine ⟨fun z a b c d e f=>∃ k:Nat,z=k∧k≤lv.length∧a=endT::tk.map (·.1)∧b=[]∧c=[]∧d=(0:Int)::tk.map (fun t=>levK lv t.1)∧e=(0:Int)::(lv.take k).map (·.1)∧f=[[]],fun z _ _ _ _ _ _=>((lv.length:Int)-z).toNat,⟨0,rfl,by omega,rfl,rfl,rfl,rfl,rfl,rfl⟩,?_⟩
    rintro z a b c d e f ⟨k,rfl,hk,rfl,rfl,rfl,rfl,rfl,rfl⟩
    refine ⟨fun h=>?_,fun h=>?_⟩
    · (simp only [decide_eq_true_eq,decide_eq_false_iff_not,Bool.not_eq_true',Bool.not_eq_false'] at h)
      have hk':k<lv.length:=by omega
      rw [Int.toNat_natCast]
      refine ⟨⟨by omega⟩,⟨?_⟩,⟨by omega⟩,⟨rfl⟩,⟨k+1,by omega,by omega,rfl,rfl,rfl,rfl,?_,rfl⟩,⟨by ((try dsimp only);omega)⟩⟩
      · simp only [List.length_cons,List.length_map,List.length_take,List.length_nil];omega
      · rw [take_snoc lv0 hk',List.map_append];rfl
    · (simp only [decide_eq_true_eq,decide_eq_false_iff_not,Bool.not_eq_true',Bool.not_eq_false'] at h)
      have e0:lv.take k=lv:=List.take_of_length_le (by omega)
      rw [e0]
      clear h hk e0 k
      refine ⟨fun z a b c d e f=>∃ k:Nat,z=k∧k≤rl.length∧a=endT::tk.map (·.1)∧b=varsO (rl.take k)∧c=[]∧d=(0:Int)::tk.map (fun t=>levK lv t.1)∧e=(0:Int)::lv.map (·.1)∧f=[]::(rl.take k).map (·.2.2.2.1),fun z _ _ _ _ _ _=>((rl.length:Int)-z).toNat,⟨0,rfl,by omega,rfl,rfl,rfl,rfl,rfl,rfl⟩,?_⟩
      rintro z a b c d e f ⟨k,rfl,hk,rfl,rfl,rfl,rfl,rfl,rfl⟩
      have hvl:=varsO_len rl k hk
      refine ⟨fun h=>?_,fun h=>?_⟩
      · (simp only [decide_eq_true_eq,decide_eq_false_iff_not,Bool.not_eq_true',Bool.not_eq_false'] at h)
        have hk':k<rl.length:=by omega
        rw [Int.toNat_natCast]
        refine ⟨⟨by omega⟩,_,⟨contains_ev _ _ (by omega)⟩,fun h2=>⟨⟨?_⟩,⟨?_⟩,⟨by omega⟩,⟨rfl⟩,⟨k+1,by omega,by omega,rfl,?_,rfl,rfl,rfl,?_⟩,⟨by ((try dsimp only);omega)⟩⟩,fun h2=>⟨⟨?_⟩,⟨by omega⟩,⟨rfl⟩,⟨k+1,by omega,by omega,rfl,?_,rfl,rfl,rfl,?_⟩,⟨by ((try dsimp only);omega)⟩⟩⟩
        · simp only [List.length_cons,List.length_nil];omega
        · simp only [List.length_cons,List.length_map,List.length_take,List.length_nil];omega
        · (simp only [decide_eq_true_eq,decide_eq_false_iff_not,Bool.not_eq_true',Bool.not_eq_false'] at h2)
          rw [take_snoc rl0 hk',varsO_snoc,if_neg h2]
        · rw [take_snoc rl0 hk',List.map_append];rfl
        · simp only [List.length_cons,List.length_map,List.length_take,List.length_nil];omega
        · (simp only [decide_eq_true_eq,decide_eq_false_iff_not,Bool.not_eq_true',Bool.not_eq_false'] at h2)
          rw [take_snoc rl0 hk',varsO_snoc,if_pos h2]
        · rw [take_snoc rl0 hk',List.map_append];rfl
      · (simp only [decide_eq_true_eq,decide_eq_false_iff_not,Bool.not_eq_true',Bool.not_eq_false'] at h)
        have e0:rl.take k=rl:=List.take_of_length_le (by omega)
        rw [e0]
        exact ⟨rfl,rfl⟩
end Go.Am.D
