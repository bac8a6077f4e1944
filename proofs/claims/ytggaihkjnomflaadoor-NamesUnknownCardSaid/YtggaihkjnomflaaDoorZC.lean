/-
  A part of the proof of a law: see the text that states it.
-/
import Derived.Test.YtggaihkjnomflaaDoorZB
import Derived.Test.YtggaihkjnomflaaDoorVcI
set_option linter.all false
namespace Go.Am.D
open Go Go.Am.Pr Go.Am.D.L
set_option maxRecDepth 100000
def onceO (l:List qT0):Bool:=l.all nameO&&decide l.Nodup
theorem cut_zero {α:Type} (l:List α) (k:Nat):cut l 0 k=l.take k:=by unfold cut;rw [List.drop_zero]
theorem nodup_snoc {l:List qT0} {x:List Int}:(l++[x]).Nodup↔l.Nodup∧x ∉ l:=by
 rw [List.nodup_append]
 constructor
 ·rintro ⟨h1,_,h3⟩;exact ⟨h1,fun hx=>h3 x hx x (by simp) rfl⟩
 ·rintro ⟨h1,h2⟩
  refine ⟨h1,by simp,fun a ha b hb=>?_⟩
  rw [List.mem_singleton] at hb
  subst hb
  rintro rfl;exact h2 ha
theorem all_take_false {α:Type} {p:α→Bool} {l:List α} {k:Nat} {d:α} (hk:k<l.length) (h:p (l.getD k d)=false):l.all p=false:=by
 cases ha:l.all p with
 | false=>rfl
 | true =>
  rw [List.all_eq_true] at ha
  have:=ha _ (getD_mem' d l _ hk)
  rw [h] at this;cases this
theorem all_snoc {α:Type} (p:α→Bool) (l:List α) (x:α):(l++[x]).all p=(l.all p&&p x):=by rw [List.all_append];simp
theorem once_ev (l:List qT0) (hl:l.length≤1000000):E 52 [.tv [] qt9 l] [] (bv (onceO l)) []:=by
 refine ev_of (vc52 l _ ?_)
 refine ⟨fun z=>∃ k:Nat,z=k∧k≤l.length∧onceO (l.take k)=true,fun z=>((l.length:Int)-z).toNat,⟨0,rfl,by omega,rfl⟩,?_⟩
 rintro z ⟨k,rfl,hk,hv⟩
 unfold onceO at hv
 simp only [Bool.and_eq_true,decide_eq_true_eq] at hv
 refine ⟨fun h=>?_,fun h=>?_⟩
 ·(simp only [decide_eq_true_eq,decide_eq_false_iff_not,Bool.not_eq_true',Bool.not_eq_false'] at h)
  have hk':k<l.length:=by omega
  rw [Int.toNat_natCast]
  refine ⟨⟨by omega⟩,_,⟨nameO_ev _⟩,fun h2=>⟨tvB ?_,rfl⟩,fun h2=>⟨⟨by omega⟩,decide (l.getD k []∈l.take k),⟨?_⟩,fun h3=>⟨tvB ?_,rfl⟩,fun h3=>⟨⟨by omega⟩,⟨k+1,by omega,by omega,?_⟩,⟨by ((try dsimp only);omega)⟩⟩⟩⟩
  ·(simp only [decide_eq_true_eq,decide_eq_false_iff_not,Bool.not_eq_true',Bool.not_eq_false'] at h2)
   rw [onceO,all_take_false hk' h2];rfl
  ·rw [cut_zero]
   exact contains_ev (l.take k) _ (by rw [List.length_take];omega)
  ·(simp only [decide_eq_true_eq,decide_eq_false_iff_not,Bool.not_eq_true',Bool.not_eq_false'] at h3)
   rw [onceO,decide_eq_false (fun q=>?_),Bool.and_false]
   have q2:(l.take (k+1)).Nodup:=List.Nodup.sublist (List.take_sublist _ _) q
   rw [take_snoc ([]:List Int) hk',nodup_snoc] at q2
   exact q2.2 h3
  ·(simp only [decide_eq_true_eq,decide_eq_false_iff_not,Bool.not_eq_true',Bool.not_eq_false'] at h2 h3)
   rw [onceO,take_snoc ([]:List Int) hk',all_snoc,hv.1,h2,decide_eq_true (nodup_snoc.2 ⟨hv.2,h3⟩)];rfl
 ·(simp only [decide_eq_true_eq,decide_eq_false_iff_not,Bool.not_eq_true',Bool.not_eq_false'] at h)
  rw [List.take_of_length_le (by omega)] at hv
  refine ⟨tvB ?_,rfl⟩
  rw [onceO,hv.1,decide_eq_true hv.2];rfl
def tokO (l:List Tk):Bool:=l.all (fun t=>patO t.2.1)&&(decide (l.length≤20)&&onceO (l.map (·.1)))
abbrev tk0:Tk:=(([]:List Int),(([],([],(false,()))),()))
theorem tokO_ev (l:List Tk) (hl:l.length≤1000000) (hp:∀ t∈l,t.2.1.2.1.length≤1000000):E 34 [.tv [] (.slice tTk) l] [] (bv (tokO l)) []:=by
  refine ev_of (vc34 l _ ?_)
  refine ⟨fun ns z=>∃ k:Nat,z=k∧k≤l.length∧ns=(l.take k).map (·.1)∧(l.take k).all (fun t=>patO t.2.1)=true,fun _ z=>((l.length:Int)-z).toNat,⟨0,rfl,by omega,rfl,rfl⟩,?_⟩
  rintro ns z ⟨k,rfl,hk,rfl,hv⟩
  have hlen:((l.take k).map (·.1)).length=k:=by rw [List.length_map,List.length_take];omega
  refine ⟨fun h=>?_,fun h=>?_⟩
  · (simp only [decide_eq_true_eq,decide_eq_false_iff_not,Bool.not_eq_true',Bool.not_eq_false'] at h)
    have hk':k<l.length:=by omega
    rw [Int.toNat_natCast]
    refine ⟨⟨by omega⟩,_,⟨patO_ev _ (hp _ (getD_mem' _ l _ hk'))⟩,fun h2=>⟨tvB ?_,rfl⟩,fun h2=>⟨⟨by rw [hlen,List.length_singleton];unfold bigN;omega⟩,⟨by omega⟩,⟨k+1,by omega,by omega,?_,?_⟩,⟨by ((try dsimp only);omega)⟩⟩⟩
    · (simp only [decide_eq_true_eq,decide_eq_false_iff_not,Bool.not_eq_true',Bool.not_eq_false'] at h2)
      rw [tokO,all_take_false (d:=tk0) hk' h2];rfl
    · rw [take_snoc tk0 hk',List.map_append];rfl
    · (simp only [decide_eq_true_eq,decide_eq_false_iff_not,Bool.not_eq_true',Bool.not_eq_false'] at h2)
      rw [take_snoc tk0 hk',all_snoc,hv,h2];rfl
  · (simp only [decide_eq_true_eq,decide_eq_false_iff_not,Bool.not_eq_true',Bool.not_eq_false'] at h)
    have e:l.take k=l:=List.take_of_length_le (by omega)
    rw [e] at hv hlen ⊢
    refine ⟨fun h2=>⟨_,⟨once_ev _ (by rw [hlen];omega)⟩,tvB ?_,rfl⟩,fun h2=>⟨tvB ?_,rfl⟩⟩
    · (simp only [decide_eq_true_eq,decide_eq_false_iff_not,Bool.not_eq_true',Bool.not_eq_false'] at h2)
      rw [tokO,hv,decide_eq_true (show l.length≤20 by omega)];rfl
    · (simp only [decide_eq_true_eq,decide_eq_false_iff_not,Bool.not_eq_true',Bool.not_eq_false'] at h2)
      rw [tokO,hv,decide_eq_false (show ¬ l.length≤20 by omega)];rfl
def lvO1 (x:Lv):Bool:=decide (1≤x.1)&&decide (x.1≤3)&&!decide (x.2.1=[])
def lvO (l:List Lv):Bool:=l.all lvO1&&(decide (l.length≤10)&&onceO (l.flatMap (·.2.1)))
theorem lvO_ev (l:List Lv) (hl:l.length≤1000000) (hn:(l.flatMap (·.2.1)).length≤1000000):E 35 [.tv [] (.slice tLv) l] [] (bv (lvO l)) []:=by
  refine ev_of (vc35 l _ ?_)
  refine ⟨fun ns z=>∃ k:Nat,z=k∧k≤l.length∧ns=(l.take k).flatMap (·.2.1)∧(l.take k).all lvO1=true,fun _ z=>((l.length:Int)-z).toNat,⟨0,rfl,by omega,rfl,rfl⟩,?_⟩
  rintro ns z ⟨k,rfl,hk,rfl,hv⟩
  have hlen:∀ j,((l.take j).flatMap (·.2.1)).length≤1000000:=by
    intro j
    have:(l.flatMap (·.2.1)).length=((l.take j).flatMap (·.2.1)).length+((l.drop j).flatMap (·.2.1)).length:=by
      rw [← List.length_append,← List.flatMap_append,List.take_append_drop]
    omega
  refine ⟨fun h=>?_,fun h=>?_⟩
  · (simp only [decide_eq_true_eq,decide_eq_false_iff_not,Bool.not_eq_true',Bool.not_eq_false'] at h)
    have hk':k<l.length:=by omega
    rw [Int.toNat_natCast]
    have hs:=hlen (k+1)
    rw [take_snoc ((0:Int),(([]:List qT0),())) hk',List.flatMap_append,List.length_append] at hs
    have hs2:([l.getD k ((0:Int),(([]:List qT0),()))].flatMap (·.2.1)).length=(l.getD k ((0:Int),(([]:List qT0),()))).2.1.length:=by simp
    rw [hs2] at hs
    refine ⟨⟨by omega⟩,fun h2=>⟨tvB ?_,rfl⟩,fun h2=>⟨fun h3=>⟨tvB ?_,rfl⟩,fun h3=>⟨fun h4=>⟨tvB ?_,rfl⟩,fun h4=>⟨⟨by unfold bigN;omega⟩,⟨by omega⟩,⟨k+1,by omega,by omega,?_,?_⟩,⟨by ((try dsimp only);omega)⟩⟩⟩⟩⟩
    · (simp only [decide_eq_true_eq,decide_eq_false_iff_not,Bool.not_eq_true',Bool.not_eq_false'] at h2)
      rw [lvO,all_take_false (d:=((0:Int),(([]:List qT0),()))) (p:=lvO1) hk' (by rw [lvO1,decide_eq_false (by omega)];rfl)];rfl
    · (simp only [decide_eq_true_eq,decide_eq_false_iff_not,Bool.not_eq_true',Bool.not_eq_false'] at h3)
      rw [lvO,all_take_false (d:=((0:Int),(([]:List qT0),()))) (p:=lvO1) hk' (by rw [lvO1,decide_eq_false (p:=_≤3) (by omega),Bool.and_false];rfl)];rfl
    · (simp only [decide_eq_true_eq,decide_eq_false_iff_not,Bool.not_eq_true',Bool.not_eq_false'] at h4)
      have h5:(l.getD k ((0:Int),(([]:List qT0),()))).2.1=[]:=List.length_eq_zero_iff.1 (by omega)
      rw [lvO,all_take_false (d:=((0:Int),(([]:List qT0),()))) (p:=lvO1) hk' (by rw [lvO1,h5];simp)];rfl
    · rw [take_snoc ((0:Int),(([]:List qT0),())) hk',List.flatMap_append]
      congr 1
      simp
    · (simp only [decide_eq_true_eq,decide_eq_false_iff_not,Bool.not_eq_true',Bool.not_eq_false'] at h2 h3 h4)
      have h5:(l.getD k ((0:Int),(([]:List qT0),()))).2.1≠[]:=fun q=>h4 (by rw [q];rfl)
      rw [take_snoc ((0:Int),(([]:List qT0),())) hk',all_snoc,hv,lvO1,decide_eq_true (by omega),decide_eq_true (p:=_≤3) (by omega),decide_eq_false h5];rfl
  · (simp only [decide_eq_true_eq,decide_eq_false_iff_not,Bool.not_eq_true',Bool.not_eq_false'] at h)
    have e:l.take k=l:=List.take_of_length_le (by omega)
    rw [e] at hv ⊢
    refine ⟨fun h2=>⟨_,⟨once_ev _ hn⟩,tvB ?_,rfl⟩,fun h2=>⟨tvB ?_,rfl⟩⟩
    · (simp only [decide_eq_true_eq,decide_eq_false_iff_not,Bool.not_eq_true',Bool.not_eq_false'] at h2)
      rw [lvO,hv,decide_eq_true (show l.length≤10 by omega)];rfl
    · (simp only [decide_eq_true_eq,decide_eq_false_iff_not,Bool.not_eq_true',Bool.not_eq_false'] at h2)
      rw [lvO,hv,decide_eq_false (show ¬ l.length≤10 by omega)];rfl
theorem anyName_ev (l:List qT0) (hl:l.length≤1000000):E 50 [.tv [] qt9 l,.fn 49 [] []] [] (bv (!l.all nameO)) []:=by
 have ev:EvF PP orc 58 [.tv [] qt9 l,.fn 49 [] []] [] fun a h=>∃ i:Int,a=iv i∧h=[]∧decide (0≤i)=!l.all nameO:=by
  refine vc58 l _ ?_
  refine ⟨fun z=>∃ k:Nat,z=k∧k≤l.length∧(l.take k).all nameO=true,fun z=>((l.length:Int)-z).toNat,⟨0,rfl,by omega,rfl⟩,?_⟩
  rintro z ⟨k,rfl,hk,hv⟩
  refine ⟨fun h=>?_,fun h=>?_⟩
  ·(simp only [decide_eq_true_eq,decide_eq_false_iff_not,Bool.not_eq_true',Bool.not_eq_false'] at h)
   have hk':k<l.length:=by omega
   rw [Int.toNat_natCast]
   refine ⟨⟨by omega⟩,_,⟨ev_of (vc49 _ _ ⟨_,⟨nameO_ev _⟩,rfl,rfl⟩)⟩,fun h2=>⟨_,rfl,rfl,?_⟩,fun h2=>⟨⟨by omega⟩,⟨k+1,by omega,by omega,?_⟩,⟨by ((try dsimp only);omega)⟩⟩⟩
   ·(simp only [decide_eq_true_eq,decide_eq_false_iff_not,Bool.not_eq_true',Bool.not_eq_false'] at h2)
    rw [all_take_false hk' h2,decide_eq_true (by omega)];rfl
   ·(simp only [decide_eq_true_eq,decide_eq_false_iff_not,Bool.not_eq_true',Bool.not_eq_false'] at h2)
    rw [take_snoc ([]:List Int) hk',all_snoc,hv,h2];rfl
  ·(simp only [decide_eq_true_eq,decide_eq_false_iff_not,Bool.not_eq_true',Bool.not_eq_false'] at h)
   rw [List.take_of_length_le (by omega)] at hv
   exact ⟨_,rfl,rfl,by rw [hv];rfl⟩
 obtain ⟨a,h,e,i,rfl,rfl,hi⟩:=ev
 exact ev_of (vc50 l _ ⟨i,⟨e⟩,tvB hi,rfl⟩)
abbrev pt0:Pat:=([],([],(false,())))
theorem anyPat_ev (l:List Pat) (hl:l.length≤1000000) (hp:∀ p∈l,p.2.1.length≤1000000):E 36 [.tv [] (.slice tPat) l,.fn 32 [] []] [] (bv (!l.all patO)) []:=by
 have ev:EvF PP orc 53 [.tv [] (.slice tPat) l,.fn 32 [] []] [] fun a h=>∃ i:Int,a=iv i∧h=[]∧decide (0≤i)=!l.all patO:=by
  refine vc53 l _ ?_
  refine ⟨fun z=>∃ k:Nat,z=k∧k≤l.length∧(l.take k).all patO=true,fun z=>((l.length:Int)-z).toNat,⟨0,rfl,by omega,rfl⟩,?_⟩
  rintro z ⟨k,rfl,hk,hv⟩
  refine ⟨fun h=>?_,fun h=>?_⟩
  ·(simp only [decide_eq_true_eq,decide_eq_false_iff_not,Bool.not_eq_true',Bool.not_eq_false'] at h)
   have hk':k<l.length:=by omega
   rw [Int.toNat_natCast]
   refine ⟨⟨by omega⟩,_,⟨ev_of (vc32 _ _ _ _ ⟨_,⟨patO_ev (l.getD k pt0) (hp _ (getD_mem' _ l _ hk'))⟩,rfl,rfl⟩)⟩,fun h2=>⟨_,rfl,rfl,?_⟩,fun h2=>⟨⟨by omega⟩,⟨k+1,by omega,by omega,?_⟩,⟨by ((try dsimp only);omega)⟩⟩⟩
   ·(simp only [decide_eq_true_eq,decide_eq_false_iff_not,Bool.not_eq_true',Bool.not_eq_false'] at h2)
    rw [all_take_false (d:=pt0) hk' h2,decide_eq_true (by omega)];rfl
   ·(simp only [decide_eq_true_eq,decide_eq_false_iff_not,Bool.not_eq_true',Bool.not_eq_false'] at h2)
    rw [take_snoc pt0 hk',all_snoc,hv,h2];rfl
  ·(simp only [decide_eq_true_eq,decide_eq_false_iff_not,Bool.not_eq_true',Bool.not_eq_false'] at h)
   rw [List.take_of_length_le (by omega)] at hv
   exact ⟨_,rfl,rfl,by rw [hv];rfl⟩
 obtain ⟨a,h,e,i,rfl,rfl,hi⟩:=ev
 exact ev_of (vc36 l _ ⟨i,⟨e⟩,tvB hi,rfl⟩)
def rulO (r:Rl):Bool:=nameO r.1&&(decide (r.2.1.length≤8)&&(r.2.1.all nameO&&((decide (r.2.2.1=[])||nameO r.2.2.1)&&actO r.2.2.2.1)))
abbrev ActB (r:Rl):Prop:=∀ c∈r.2.2.2.1,0≤c∧c<256
theorem rulO_ev (r:Rl) (ha:ActB r):E 31 [.tv [] tRl r] [] (bv (rulO r)) []:=by
 obtain ⟨n,ns,p,a,⟨⟩⟩:=r
 refine ev_of (vc31 n ns p a _ ⟨_,⟨nameO_ev n⟩,fun h=>⟨fun h2=>?_,fun h2=>⟨tvB ?_,rfl⟩⟩,fun h=>⟨tvB ?_,rfl⟩⟩)
 ·(simp only [decide_eq_true_eq,decide_eq_false_iff_not,Bool.not_eq_true',Bool.not_eq_false'] at h2)
  have h2':ns.length≤8:=by omega
  refine ⟨_,⟨anyName_ev ns (by omega)⟩,fun h3=>⟨fun h4=>⟨_,⟨action_evR a ha⟩,tvB ?_,rfl⟩,fun h4=>⟨_,⟨nameO_ev p⟩,fun h5=>⟨_,⟨action_evR a ha⟩,tvB ?_,rfl⟩,fun h5=>⟨tvB ?_,rfl⟩⟩⟩,fun h3=>⟨tvB ?_,rfl⟩⟩
  all_goals (simp only [Bool.not_not] at h3;unfold rulO;dsimp only;rw [h,h3,decide_eq_true h2'])
  ·rw [h4];simp
  ·rw [h4,h5];simp
  ·rw [h4,h5];simp
  ·rfl
 ·(simp only [decide_eq_true_eq,decide_eq_false_iff_not,Bool.not_eq_true',Bool.not_eq_false'] at h2)
  unfold rulO;dsimp only;rw [h,decide_eq_false (p:=ns.length≤8) (by omega)];rfl
 ·unfold rulO;dsimp only;rw [h];rfl
abbrev rl0:Rl:=([],([],([],([],()))))
theorem anyRule_ev (l:List Rl) (hl:l.length≤1000000) (ha:∀ r∈l,ActB r):E 38 [.tv [] (.slice tRl) l,.fn 30 [] []] [] (bv (!l.all rulO)) []:=by
 have ev:EvF PP orc 55 [.tv [] (.slice tRl) l,.fn 30 [] []] [] fun a h=>∃ i:Int,a=iv i∧h=[]∧decide (0≤i)=!l.all rulO:=by
  refine vc55 l _ ?_
  refine ⟨fun z=>∃ k:Nat,z=k∧k≤l.length∧(l.take k).all rulO=true,fun z=>((l.length:Int)-z).toNat,⟨0,rfl,by omega,rfl⟩,?_⟩
  rintro z ⟨k,rfl,hk,hv⟩
  refine ⟨fun h=>?_,fun h=>?_⟩
  ·(simp only [decide_eq_true_eq,decide_eq_false_iff_not,Bool.not_eq_true',Bool.not_eq_false'] at h)
   have hk':k<l.length:=by omega
   rw [Int.toNat_natCast]
   refine ⟨⟨by omega⟩,_,⟨ev_of (vc30 _ _ _ _ _ ⟨_,⟨rulO_ev (l.getD k rl0) (ha _ (getD_mem' _ l _ hk'))⟩,rfl,rfl⟩)⟩,fun h2=>⟨_,rfl,rfl,?_⟩,fun h2=>⟨⟨by omega⟩,⟨k+1,by omega,by omega,?_⟩,⟨by ((try dsimp only);omega)⟩⟩⟩
   ·(simp only [decide_eq_true_eq,decide_eq_false_iff_not,Bool.not_eq_true',Bool.not_eq_false'] at h2)
    rw [all_take_false (d:=rl0) hk' h2,decide_eq_true (by omega)];rfl
   ·(simp only [decide_eq_true_eq,decide_eq_false_iff_not,Bool.not_eq_true',Bool.not_eq_false'] at h2)
    rw [take_snoc rl0 hk',all_snoc,hv,h2];rfl
  ·(simp only [decide_eq_true_eq,decide_eq_false_iff_not,Bool.not_eq_true',Bool.not_eq_false'] at h)
   rw [List.take_of_length_le (by omega)] at hv
   exact ⟨_,rfl,rfl,by rw [hv];rfl⟩
 obtain ⟨a,h,e,i,rfl,rfl,hi⟩:=ev
 exact ev_of (vc38 l _ ⟨i,⟨e⟩,tvB hi,rfl⟩)
def rightO (g:Gr):Bool:=tokO g.1&&(lvO g.2.2.1&&(decide (g.2.1.length≤4)&&(g.2.1.all patO&&(nameO g.2.2.2.1&&(decide (0<g.2.2.2.2.1.length)&&(decide (g.2.2.2.2.1.length≤40)&&g.2.2.2.2.1.all rulO))))))
structure Few (g:Gr):Prop where
  tk:g.1.length≤10000
  tks:∀ t∈g.1,t.1.length≤10000∧t.2.1.1.length≤10000∧t.2.1.2.1.length≤10000
  sk:g.2.1.length≤10000
  sks:∀ p∈g.2.1,p.1.length≤10000∧p.2.1.length≤10000
  lv:g.2.2.1.length≤10000
  lvn:(g.2.2.1.flatMap (·.2.1)).length≤10000
  rl:g.2.2.2.2.1.length≤10000
  rls:∀ r∈g.2.2.2.2.1,r.1.length≤10000∧r.2.1.length≤10000∧(∀ x∈r.2.1,x.length≤10000)∧r.2.2.1.length≤10000∧r.2.2.2.1.length≤10000
  act:∀ r∈g.2.2.2.2.1,ActB r
theorem right_ev (g:Gr) (hg:Few g):E 19 [.tv [] tGr g] [] (bv (rightO g)) []:=by
 obtain ⟨tk,sk,lv,st,rl,⟨⟩⟩:=g
 have f1:=hg.tk
 have f2:=hg.tks
 have f3:=hg.sk
 have f4:=hg.sks
 have f5:=hg.lv
 have f6:=hg.lvn
 have f7:=hg.rl
 have f8:=hg.act
 dsimp only at f1 f2 f3 f4 f5 f6 f7 f8
 have e1:=tokO_ev tk (by omega) (fun t ht=>by have:=f2 t ht;omega)
 have e2:=lvO_ev lv (by omega) (by omega)
 have e3:=anyPat_ev sk (by omega) (fun t ht=>by have:=f4 t ht;omega)
 have e4:=nameO_ev st
 have e5:=anyRule_ev rl (by omega) f8
 refine ev_of (vc19 tk sk lv st rl _ ⟨_,⟨e1⟩,fun h1=>⟨tvB ?_,rfl⟩,fun h1=>⟨_,⟨e2⟩,fun h2=>⟨tvB ?_,rfl⟩,fun h2=>⟨fun h3=>⟨tvB ?_,rfl⟩,fun h3=>⟨_,⟨e3⟩,fun h4=>⟨tvB ?_,rfl⟩,fun h4=>⟨_,⟨e4⟩,fun h5=>⟨fun h6=>⟨fun h7=>⟨_,⟨e5⟩,tvB ?_,rfl⟩,fun h7=>⟨tvB ?_,rfl⟩⟩,fun h6=>⟨tvB ?_,rfl⟩⟩,fun h5=>⟨tvB ?_,rfl⟩⟩⟩⟩⟩⟩)
 all_goals (unfold rightO;dsimp only;simp only [Bool.not_eq_true',Bool.not_eq_false',decide_eq_true_eq,decide_eq_false_iff_not] at *)
 ·rw [h1];rfl
 ·rw [h1,h2];rfl
 ·rw [h1,h2,decide_eq_false (p:=sk.length≤4) (by omega)];rfl
 ·rw [h1,h2,h4,Bool.false_and,Bool.and_false];rfl
 ·rw [h1,h2,decide_eq_true (p:=sk.length≤4) (by omega),h4,h5,decide_eq_true (p:=0<rl.length) (by omega),decide_eq_true (p:=rl.length≤40) (by omega),Bool.not_not];rfl
 ·rw [decide_eq_false (p:=rl.length≤40) (by omega)];simp
 ·rw [decide_eq_false (p:=0<rl.length) (by omega)];simp
 ·rw [h5];simp
end Go.Am.D
