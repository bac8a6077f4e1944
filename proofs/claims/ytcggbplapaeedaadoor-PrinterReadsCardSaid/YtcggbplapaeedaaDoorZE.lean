/-
  A part of the proof of a law: see the text that states it.
-/
import Derived.Test.YtcggbplapaeedaaDoorZD
import Derived.Test.YtcggbplapaeedaaDoorVcO
import Derived.Test.YtcggbplapaeedaaDoorVcQ
set_option linter.all false
namespace Go.Am.R
open Go Go.Am.Pr Go.Am.R.L
set_option maxRecDepth 100000
theorem awake7_ev:E 18 [] [] (bv true) []:=by
 have pr:=print_ev ([],([],([],([69],([([69],([[69],[78]],([],([49],()))))],()))))) ⟨Nat.zero_le _,nofun,Nat.zero_le _,nofun,Nat.zero_le _,Nat.zero_le _,by decide,by
  intro r hr
  rw [List.mem_singleton] at hr
  subst hr
  refine ⟨by decide,by decide,?_,by decide,by decide⟩
  intro x hx
  simp only [List.mem_cons,List.not_mem_nil,or_false] at hx
  rcases hx with rfl | rfl <;> decide,by
  intro r hr
  rw [List.mem_singleton] at hr
  subst hr
  intro c hc
  rw [List.mem_singleton] at hc
  subst hc;decide⟩
 have pt:=Pattern_ev ([],([45,48],(true,()))) (by decide) (by decide)
 have e1:printO ([],([],([],([69],([([69],([[69],[78]],([],([49],()))))],())))))=([37,115,116,97,114,116,32,69,10,37,37,10,69,32,58,32,69,32,78,32,123,49,125,32,59,10],0):=by decide +kernel
 have e2:patT ([],([45,48],(true,())))=[91,92,45,48,93,43]:=by decide +kernel
 rw [e1] at pr
 rw [e2] at pt
 exact ev_of (vc18 _ ⟨_,_,⟨pr⟩,_,⟨pt⟩,fun _=>⟨fun _=>⟨rfl,rfl⟩,fun q=>absurd q (by decide)⟩,fun q=>absurd q (by decide)⟩)
theorem rise_pw:∀ {s:List Int},rise s=true→s.Pairwise (·<·)
 | [],_=>List.Pairwise.nil
 | [a],_=>List.pairwise_singleton _ _
 | a::b::r,h=>by
  rw [rise] at h
  split at h
  ·cases h
  ·rename_i hab
   have ih:=rise_pw h
   refine List.Pairwise.cons (fun c hc=>?_) ih
   rcases List.mem_cons.1 hc with rfl | hc
   ·omega
   ·have:=List.rel_of_pairwise_cons ih hc;omega
def bitsP (p:Nat→Bool):Nat→Nat→List Bool
 | _,0=>[]
 | i,n+1=>p i::bitsP p (i+1) n
theorem bitsP_congr {p q:Nat→Bool}:∀ (n i:Nat),(∀ j,i≤j→p j=q j)→bitsP p i n=bitsP q i n
 | 0,_,_=>rfl
 | n+1,i,h=>by rw [bitsP,bitsP,h i (Nat.le_refl _),bitsP_congr n (i+1) fun j hj=>h j (by omega)]
theorem bitsP_set (p:Nat→Bool):∀ (n i k:Nat),(bitsP p i n).set k true=bitsP (fun j=>p j||decide (j=i+k)) i n
 | 0,_,_=>rfl
 | n+1,i,0=>by
  rw [bitsP,bitsP,List.set_cons_zero]
  refine List.cons_eq_cons.2 ⟨by simp,bitsP_congr n (i+1) fun j hj=>?_⟩
  rw [decide_eq_false (by omega),Bool.or_false]
 | n+1,i,k+1=>by
  rw [bitsP,bitsP,List.set_cons_succ,bitsP_set p n (i+1) k]
  refine List.cons_eq_cons.2 ⟨?_,bitsP_congr n (i+1) fun j hj=>?_⟩
  ·rw [decide_eq_false (by omega),Bool.or_false]
  ·rw [show i+1+k=i+(k+1) by omega]
theorem bits_false:∀ (n i:Nat),bitsP (fun _=>false) i n=List.replicate n false
 | 0,_=>rfl
 | n+1,i=>by rw [bitsP,bits_false n (i+1),List.replicate_succ]
def setAll (h:List Bool) (cs:List Int):List Bool:=cs.foldl (fun h c=>h.set c.toNat true) h
theorem setAll_bits:∀ (cs:List Int) (p:Nat→Bool),setAll (bitsP p 0 256) cs=bitsP (fun j=>p j||cs.any (fun c=>decide (j=c.toNat))) 0 256
 | [],p=>by simp [setAll]
 | c::cs,p=>by
  show setAll ((bitsP p 0 256).set c.toNat true) cs=_
  rw [bitsP_set,setAll_bits cs]
  refine bitsP_congr _ _ fun j _=>?_
  simp [Bool.or_assoc]
theorem memF_bits (p:Nat→Bool):∀ (n i:Nat) (s:List Int),s.Pairwise (·<·)→(∀ c∈s,(i:Int)≤c∧c<i+n)→(∀ j,i≤j→p j=decide ((j:Int)∈s))→memF i (bitsP p i n)=s
 | 0,i,s,_,hb,_=>by
  cases s with
  | nil=>rfl
  | cons c s=>have:=hb c (List.mem_cons_self ..);omega
 | n+1,i,s,hs,hb,hp=>by
  rw [bitsP,memF]
  cases s with
  | nil =>
   rw [hp i (Nat.le_refl _),if_neg (by simp)]
   exact memF_bits p n (i+1) [] hs nofun fun j hj=>hp j (by omega)
  | cons c s =>
   have hc:=hb c (List.mem_cons_self ..)
   rw [List.pairwise_cons] at hs
   by_cases e:c=i
   ·subst e
    rw [hp i (Nat.le_refl _),if_pos (by simp),memF_bits p n (i+1) s hs.2 (fun d hd=>by have:=hb d (List.mem_cons_of_mem _ hd);have:=hs.1 d hd;omega) fun j hj=>?_]
    rw [hp j (by omega)]
    refine decide_eq_decide.2 ⟨fun q=>?_,fun q=>List.mem_cons_of_mem _ q⟩
    rcases List.mem_cons.1 q with q | q
    ·omega
    ·exact q
   ·have hn:¬ (i:Int)∈c::s:=fun q=>by
     rcases List.mem_cons.1 q with q | q
     ·exact e q.symm
     ·have:=hs.1 _ q;omega
    rw [hp i (Nat.le_refl _),if_neg (by simpa using hn)]
    exact memF_bits p n (i+1) (c::s) (List.pairwise_cons.2 hs) (fun d hd=>by
     have:=hb d hd
     rcases List.mem_cons.1 hd with rfl | q
     ·omega
     ·have:=hs.1 _ q;omega) fun j hj=>hp j (by omega)
theorem memF_rise {s:List Int} (h:rise s=true) (hb:∀ c∈s,0≤c∧c<256):memF 0 (setAll (List.replicate 256 false) s)=s:=by
 rw [← bits_false 256 0,setAll_bits]
 refine memF_bits _ 256 0 s (rise_pw h) (fun c hc=>by have:=hb c hc;omega) fun j _=>?_
 rw [Bool.false_or]
 rw [Bool.eq_iff_iff,List.any_eq_true,decide_eq_true_eq]
 constructor
 ·rintro ⟨c,hc,e⟩
  rw [decide_eq_true_eq] at e
  have:=hb c hc
  rw [show (j:Int)=c by omega];exact hc
 ·exact fun q=>⟨_,q,by simp⟩
theorem idxB_cT (c:Int):0≤idxB cT c↔c=92∨c=93∨c=45:=by
 rw [idxB_mem];simp [cT]
theorem cls_esc (f:Nat) (sm:Bool) (last:Int) (has:List Bool) (k:Nat) (c:Int) (x:List Int) (hc:0≤c∧c<256):clsL (f+1) sm last has k (escB cT c++x)=clsL f true c (has.set c.toNat true) (k+(escB cT c).length) x:=by
 have two:∀ d:Int,escK mayC d=some c→clsL (f+1) sm last has k (92::d::x)=clsL f true c (has.set c.toNat true) (k+2) x:=by
  intro d hd
  have o:oneS (92::d::x)=some (c,2):=by rw [oneS,if_pos rfl,escS,hd];rfl
  rw [clsL_cons,if_neg (by decide),if_neg (by decide),if_neg (by decide),o];rfl
 unfold escB
 by_cases h10:c=10
 ·subst h10;rw [if_pos rfl];exact two 110 (by decide)
 rw [if_neg h10]
 by_cases h9:c=9
 ·subst h9;rw [if_pos rfl];exact two 116 (by decide)
 rw [if_neg h9]
 by_cases h:0≤idxB cT c
 ·rw [if_pos h]
  exact two c (by rcases (idxB_cT c).1 h with rfl | rfl | rfl <;> decide)
 ·rw [if_neg h]
  have hn:¬ (c=92∨c=93∨c=45):=fun q=>h ((idxB_cT c).2 q)
  show clsL (f+1) sm last has k (c::x)=_
  have o:oneS (c::x)=some (c,1):=by rw [oneS,if_neg (by omega)]
  rw [clsL_cons,if_neg (by omega),if_neg (by omega),if_neg (by omega),o];rfl
theorem cls_all:∀ (s:List Int) (f:Nat) (sm:Bool) (last:Int) (has:List Bool) (k:Nat) (x:List Int),(∀ c∈s,0≤c∧c<256)→s.length<f→(s≠[]∨sm=true)→clsL f sm last has k (escT cT s++93::x)=.ok (memF 0 (setAll has s),k+(escT cT s).length+1)
 | s,0,_,_,_,_,_,_,h,_=>by omega
 | [],f+1,sm,last,has,k,x,_,_,h=>by
  have:sm=true:=h.resolve_left (fun q=>q rfl)
  subst this
  show clsL (f+1) true last has k (93::x)=_
  rw [clsL_cons,if_neg (by decide),if_pos rfl,if_neg (by decide)];rfl
 | c::s,f+1,sm,last,has,k,x,hb,hf,_=>by
  simp only [List.length_cons] at hf
  rw [escT_cons,List.append_assoc,cls_esc _ _ _ _ _ _ _ (hb c (List.mem_cons_self ..)),cls_all s f true c _ _ x (fun b q=>hb b (List.mem_cons_of_mem _ q)) (by omega) (.inr rfl),List.length_append]
  show _=Except.ok (memF 0 (setAll (has.set c.toNat true) s),_)
  congr 2;omega
theorem escT_long (which:List Int):∀ s:List Int,s.length≤(escT which s).length
 | []=>Nat.zero_le _
 | c::s=>by
  have:=escT_long which s
  have:=escB_len which c
  rw [escT_cons,List.length_append,List.length_cons];omega
theorem tk_class {s:List Int} (hr:rise s=true) (h0:s≠[]) (hb:∀ c∈s,0≤c∧c<256):Tok ([91]++escT cT s++[93]) 4 s true Any:=by
 refine ⟨by simp,fun x _=>?_⟩
 have e:[91]++escT cT s++[93]++x=91::(escT cT s++93::x):=by simp
 have hl:=escT_long cT s
 rw [e,tok91,clsK,List.tail_cons,cls_all s _ _ _ _ _ _ hb (by simp;omega) (.inl h0),memF_rise hr hb]
 simp [tokOf];omega
theorem escB_byte (which:List Int) {c:Int} (h:0≤c∧c<256):∀ d∈escB which c,0≤d∧d<256:=by
 intro d hd
 unfold escB at hd
 split at hd
 ·simp only [List.mem_cons,List.not_mem_nil,or_false] at hd;omega
 ·split at hd
  ·simp only [List.mem_cons,List.not_mem_nil,or_false] at hd;omega
  ·split at hd
   ·simp only [List.mem_cons,List.not_mem_nil,or_false] at hd;omega
   ·simp only [List.mem_cons,List.not_mem_nil,or_false] at hd;omega
theorem escT_byte (which:List Int) {s:List Int} (h:∀ c∈s,0≤c∧c<256):∀ d∈escT which s,0≤d∧d<256:=by
 intro d hd
 obtain ⟨c,hc,hd⟩:=List.mem_flatMap.1 hd
 exact escB_byte which (h c hc) d hd
theorem patT_byte {p:Pat} (h1:∀ c∈p.1,0≤c∧c<256) (h2:∀ c∈p.2.1,0≤c∧c<256):∀ d∈patT p,0≤d∧d<256:=by
 intro d hd
 have e1:=escT_byte qT h1 d
 have e2:=escT_byte cT h2 d
 unfold patT at hd
 split at hd
 ·simp only [List.mem_append,List.mem_singleton] at hd
  rcases hd with (rfl | q) | rfl
  ·decide
  ·exact e1 q
  ·decide
 ·split at hd
  ·simp only [List.mem_append,List.mem_singleton] at hd
   rcases hd with ((rfl | q) | rfl) | rfl
   ·decide
   ·exact e2 q
   ·decide
   ·decide
  ·simp only [List.mem_append,List.mem_singleton] at hd
   rcases hd with (rfl | q) | rfl
   ·decide
   ·exact e2 q
   ·decide
end Go.Am.R
