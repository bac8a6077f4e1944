/-
  A part of the proof of a law: see the text that states it.
-/
import Derived.Test.YtggaihkjnomflaaGreatDoorLC
import Derived.Test.YtggaihkjnomflaaGreatDoorVc3
set_option linter.all false
namespace Go.Am.N.L
open Go Go.Am.Pr
set_option maxRecDepth 100000
def d1Z (w:List Int) (deep:Int) (k:Nat):List Int→Res
 | []=>.error (11,0)
 | c::r=>if c=123 then (if 4<deep+1 then .error (13,k) else d1Z w (deep+1) (k+1) r)
  else if c=125 then (if 0<deep-1 then d1Z w (deep-1) (k+1) r else if 200<(k:Int)-1 then .error (12,0) else .ok ((w.take k).drop 1,k+1))
  else d1Z w deep (k+1) r
def actK (r:List Int):Res:=d1Z r 0 0 r
theorem nSZ (s:List Int) (i:Int) (n:Nat) (e:i=n) (hn:n<s.length) (hl:s.length≤1000000) (hc:s.getD n 0=123) :
  E 79 [.tv [] .str s,.tv [] (.int .i64) i] [] (fEZ n (actK (s.drop n))).1 (fEZ n (actK (s.drop n))).2:=by
 subst e
 refine gAZ (vEZ s n _ ?_)
 refine ⟨fun d z=>∃ k:Nat,z=((n+k:Nat):Int)∧n+k≤s.length∧(0<k→0<d)∧d≤k∧(k=0→d=0)∧d1Z (s.drop n) d k (s.drop (n+k))=actK (s.drop n),fun _ z=>(s.length-z).toNat,⟨0,by omega,by omega,by omega,by omega,by omega,by simp [actK]⟩,?_⟩
 rintro d z ⟨k,rfl,hk,hd1,hd2,hd3,hv⟩
 have hcc:k=0→s.getD (n+k) 0=123:=by rintro rfl;exact hc
 refine ⟨fun h=>?_,fun h=>?_⟩
 ·(simp only [dq1,dq2,dq3,dq4] at h)
  have hn':n+k<s.length:=by omega
  rw [aHZ (0:Int) hn',d1Z] at hv
  rw [Int.toNat_natCast]
  refine ⟨⟨by omega⟩,fun h1=>⟨⟨by omega⟩,fun h2=>?_,fun h2=>⟨⟨by omega⟩,⟨k+1,by omega,by omega,by omega,by omega,by omega,?_⟩,⟨by ((try dsimp only);omega)⟩⟩⟩,fun h1=>⟨fun h2=>⟨⟨by omega⟩,fun h3=>⟨⟨by omega⟩,⟨k+1,by omega,by omega,fun _=>?_,by omega,by omega,?_⟩,⟨by ((try dsimp only);omega)⟩⟩,fun h3=>⟨⟨by omega⟩,⟨by omega⟩,fun h4=>?_,fun h4=>⟨⟨by omega⟩,⟨?_⟩,⟨by omega⟩,?_⟩⟩⟩,fun h2=>⟨⟨by omega⟩,⟨k+1,by omega,by omega,fun _=>?_,by omega,by omega,?_⟩,⟨by ((try dsimp only);omega)⟩⟩⟩⟩
  all_goals simp only [decide_eq_true_eq,decide_eq_false_iff_not,ne_eq,Decidable.not_not] at *
  ·rw [if_pos h1,if_pos h2] at hv
   rw [← hv];simp [fEZ]
  ·rw [if_pos h1,if_neg h2] at hv
   rw [← hv,Nat.add_assoc]
  ·exact h3
  ·rw [if_neg h1,if_pos h2,if_pos h3] at hv
   rw [← hv,Nat.add_assoc]
  ·rw [if_neg h1,if_pos h2,if_neg h3,if_pos (by omega)] at hv
   rw [← hv];simp [fEZ]
  ·refine ⟨by omega,?_,by omega⟩
   have:k≠0:=fun h0=>h1 (hcc h0)
   omega
  ·rw [if_neg h1,if_pos h2,if_neg h3,if_neg (by omega)] at hv
   have e1:((n+k:Nat):Int)+1=(n:Int)+((k+1:Nat):Int):=by omega
   have e2:cut s (Int.toNat ((n:Int)+1)) (n+k)=((s.drop n).take k).drop 1:=by
    have:Int.toNat ((n:Int)+1)=n+1:=by omega
    rw [this]
    unfold cut
    rw [List.drop_take,List.drop_take,List.drop_drop]
    congr 1;omega
   rw [← hv,e1,e2];rfl
  ·have:k≠0:=fun h0=>h1 (hcc h0)
   exact hd1 (by omega)
  ·rw [if_neg h1,if_neg h2] at hv
   rw [← hv,Nat.add_assoc]
 ·(simp only [dq1,dq2,dq3,dq4] at h)
  have:s.drop (n+k)=[]:=List.drop_eq_nil_of_le (by omega)
  rw [this] at hv
  simp only [d1Z] at hv
  rw [← hv];simp [fEZ]
end Go.Am.N.L
namespace Go.Am.N.L
open Go Go.Am.Pr
set_option maxRecDepth 100000
theorem l0Z {t:List Int} {i j:Int} {k:Nat} (h:j=i+k):((.tup [.tv [] .str t,.tv [] (.int .i64) j,.tv [] .ref none],[]):AV×adZ)=fEZ i (.ok (t,k)):=by subst h;rfl
theorem qJZ (l:List qT0) (x:List Int) (hl:l.length≤1000000):∃ i:Int,E 37 [.tv [] bPZ l,.tv [] .str x] [] (.tv [] (.int .i64) i) []∧(0≤i↔x∈l):=by
 have key:EvF PP orc 37 [.tv [] bPZ l,.tv [] .str x] [] fun a h=>∃ i:Int,a=.tv [] (.int .i64) i∧h=[]∧(0≤i↔x∈l):=by
  refine uBZ l x _ ?_
  refine ⟨fun i=>∃ n:Nat,i=n∧n≤l.length∧x ∉ l.take n,fun i=>(l.length-i).toNat,⟨0,rfl,by omega,by simp⟩,?_⟩
  rintro i ⟨n,rfl,hn,ha⟩
  refine ⟨fun h=>?_,fun h=>?_⟩
  ·(simp only [dq1,dq2,dq3,dq4] at h)
   have hn':n<l.length:=by omega
   rw [Int.toNat_natCast]
   refine ⟨⟨by omega⟩,fun hb=>⟨n,rfl,rfl,⟨fun _=>?_,fun _=>by omega⟩⟩,fun hb=>⟨⟨by omega⟩,⟨n+1,rfl,by omega,?_⟩,⟨by ((try dsimp only);omega)⟩⟩⟩
   ·(simp only [dq1,dq2,dq3,dq4] at hb)
    rw [hb];exact ahZ _ hn'
   ·(simp only [dq1,dq2,dq3,dq4] at hb)
    rw [aaZ ([]:List Int) hn']
    simp only [List.mem_append,List.mem_singleton,not_or]
    exact ⟨ha,hb⟩
  ·(simp only [dq1,dq2,dq3,dq4] at h)
   rw [List.take_of_length_le (by omega)] at ha
   exact ⟨_,rfl,rfl,⟨fun h=>absurd h (by decide),fun h=>absurd h ha⟩⟩
 obtain ⟨a,h,e,i,rfl,rfl,h2⟩:=key
 exact ⟨i,e,h2⟩
theorem bpZ (l:List qT0) (x:List Int) (hl:l.length≤1000000):E 25 [.tv [] bPZ l,.tv [] .str x] [] (.tv [] .bool (decide (x∈l))) []:=by
 obtain ⟨i,e,h⟩:=qJZ l x hl
 refine arZ (wgZ l x _ ⟨i,⟨e⟩,?_,rfl⟩)
 exact tvB (decide_eq_decide.2 h)
def fDZ (r:List Int):Res :=
 let n:=if r.tail.head?=some 37 then 1 else bYZ bcZ r.tail
 if r.tail.take n∈wordsL then .ok (r.tail.take n,1+n) else .error (10,0)
theorem lUZ (s:List Int) (n k:Nat):cut s n (n+k)=(s.drop n).take k:=by
 unfold cut
 rw [List.drop_take];congr 1;omega
theorem sRZ (s:List Int) (i:Int) (n:Nat) (e:i=n) (hn:n<s.length) (hl:s.length≤1000000) :
  E 76 [.tv [] .str s,.tv [] (.int .i64) i] [] (fEZ n (fDZ (s.drop n))).1 (fEZ n (fDZ (s.drop n))).2:=by
 subst e
 have hc:((n:Int)+1)=((n+1:Nat):Int):=by omega
 have hw:wordsL.length≤1000000:=by decide
 refine gAZ (vJZ s n _ ?_)
 have hrl:=dLZ bcZ (s.drop (n+1))
 simp only [List.length_drop] at hrl
 have fin:∀ (m:Nat),(if (s.drop n).tail.head?=some 37 then 1 else bYZ bcZ (s.drop n).tail)=m→fDZ (s.drop n)=if cut s (n+1) (n+1+m)∈wordsL then .ok (cut s (n+1) (n+1+m),1+m) else .error (10,0):=by
  rintro m rfl
  unfold fDZ
  simp only [List.tail_drop,lUZ]
 refine ⟨⟨by omega⟩,_,⟨rRZ s _ (n+1) hc (by omega) hl⟩,⟨by omega⟩,fun h=>?_,fun h=>?_⟩
 ·(simp only [dq1,dq2,dq3,dq4] at h)
  have hn':n+1<s.length:=by omega
  have hh:(s.drop n).tail.head?=some (s.getD (n+1) 0):=by
   rw [List.tail_drop,aHZ (0:Int) hn'];rfl
  have e1:Int.toNat ((n:Int)+1)=n+1:=by omega
  have e2:Int.toNat ((n:Int)+1+1)=n+1+1:=by omega
  rw [e1,e2]
  refine ⟨⟨by omega⟩,⟨by omega⟩,fun h2=>?_,fun h2=>?_⟩
  ·(simp only [dq1,dq2,dq3,dq4] at h2)
   have f:=fin 1 (by rw [hh,h2,if_pos rfl])
   refine ⟨⟨by omega⟩,⟨by omega⟩,⟨by omega⟩,⟨by omega⟩,_,⟨bpZ _ _ hw⟩,fun h3=>?_,fun h3=>⟨⟨by omega⟩,⟨by omega⟩,?_⟩⟩
   ·(simp only [dq1,dq2,dq3,dq4] at h3)
    rw [if_neg h3] at f
    rw [f];simp [fEZ]
   ·(simp only [dq1,dq2,dq3,dq4] at h3)
    rw [if_pos h3] at f
    rw [f];exact l0Z (by omega)
  ·(simp only [dq1,dq2,dq3,dq4] at h2)
   have f:=fin (bYZ bcZ (s.drop (n+1))) (by rw [hh,if_neg (by simpa using h2),List.tail_drop])
   have e3:Int.toNat ((n:Int)+1+(bYZ bcZ (s.drop (n+1)):Nat))=n+1+bYZ bcZ (s.drop (n+1)):=by omega
   rw [e3]
   refine ⟨⟨by omega⟩,⟨by omega⟩,⟨by omega⟩,⟨by omega⟩,_,⟨bpZ _ _ hw⟩,fun h3=>?_,fun h3=>⟨⟨by omega⟩,⟨by omega⟩,?_⟩⟩
   ·(simp only [dq1,dq2,dq3,dq4] at h3)
    rw [if_neg h3] at f
    rw [f];simp [fEZ]
   ·(simp only [dq1,dq2,dq3,dq4] at h3)
    rw [if_pos h3] at f
    rw [f];exact l0Z (by omega)
 ·(simp only [dq1,dq2,dq3,dq4] at h)
  have hz:s.drop (n+1)=[]:=List.drop_eq_nil_of_le (by omega)
  have f:=fin (bYZ bcZ (s.drop (n+1))) (by rw [List.tail_drop,hz];rfl)
  have e1:Int.toNat ((n:Int)+1)=n+1:=by omega
  have e3:Int.toNat ((n:Int)+1+(bYZ bcZ (s.drop (n+1)):Nat))=n+1+bYZ bcZ (s.drop (n+1)):=by omega
  rw [e1,e3]
  refine ⟨⟨by omega⟩,⟨by omega⟩,⟨by omega⟩,⟨by omega⟩,_,⟨bpZ _ _ hw⟩,fun h3=>?_,fun h3=>⟨⟨by omega⟩,⟨by omega⟩,?_⟩⟩
  ·(simp only [dq1,dq2,dq3,dq4] at h3)
   rw [if_neg h3] at f
   rw [f];simp [fEZ]
  ·(simp only [dq1,dq2,dq3,dq4] at h3)
   rw [if_pos h3] at f
   rw [f];exact l0Z (by omega)
end Go.Am.N.L
namespace Go.Am.N.L
open Go Go.Am.Pr
set_option maxRecDepth 100000
def jZZ:Nat→List Bool→List Int
 | _,[]=>[]
 | i,b::l=>if b then (i:Int)::jZZ (i+1) l else jZZ (i+1) l
theorem mIZ (has:List Bool) (hl:has.length=256):E 94 [.tv [] (.arr 0 256 .bool) has] [] (.tv [] .str (jZZ 0 has)) []:=by
 refine arZ (vOZ has _ ?_)
 have hb:(1000000:Nat)≤awZ:=by decide
 generalize awZ=big at hb ⊢
 refine ⟨fun out z=>∃ k:Nat,z=k∧out.length≤k∧k≤256∧out++jZZ k (has.drop k)=jZZ 0 has,fun _ z=>(256-z).toNat,⟨0,rfl,by simp,by omega,by simp⟩,?_⟩
 rintro out z ⟨k,rfl,ho,hk,hv⟩
 refine ⟨fun h=>?_,fun h=>?_⟩
 ·(simp only [dq1,dq2,dq3,dq4] at h)
  have hk':k<has.length:=by omega
  rw [aHZ false hk',jZZ] at hv
  rw [Int.toNat_natCast]
  refine ⟨⟨by omega⟩,fun hb=>⟨⟨by omega⟩,⟨by simp only [List.length_cons,List.length_nil];omega⟩,⟨by omega⟩,⟨rfl⟩,⟨k+1,by omega,by simp;omega,by omega,?_⟩,⟨by ((try dsimp only);omega)⟩⟩,fun hb=>⟨⟨by omega⟩,⟨rfl⟩,⟨k+1,by omega,by omega,by omega,?_⟩,⟨by ((try dsimp only);omega)⟩⟩⟩
  ·rw [hb,if_pos rfl] at hv
   rw [← hv];simp
  ·rw [hb,if_neg (by decide)] at hv
   exact hv
 ·(simp only [dq1,dq2,dq3,dq4] at h)
  rw [List.drop_eq_nil_of_le (by omega)] at hv
  refine ⟨tvS ?_,rfl⟩
  rw [← hv];simp [jZZ]
def g1Z:List Int→Option (Int×Nat)
  | []=>none
  | c::r=>if c=92 then (pTZ t2Z r).map (·,2) else some (c,1)
def sUZ (i:Int):Option (Int×Nat)→AV×adZ
 | none=>(.tup [.tv [] (.int .u8) 0,.tv [] (.int .i64) (i+2),.op (1,0) []],[((1,0),⟨⟨W3,(10,(i,()))⟩,[]⟩)])
 | some (c,k)=>(.tup [.tv [] (.int .u8) c,.tv [] (.int .i64) (i+k),.tv [] .ref none],[])
theorem rvZ (s:List Int) (i:Int) (n:Nat) (e:i=n) (hn:n<s.length) (hl:s.length≤1000000) :
  E 95 [.tv [] .str s,.tv [] (.int .i64) i] [] (sUZ n (g1Z (s.drop n))).1 (sUZ n (g1Z (s.drop n))).2:=by
 subst e
 refine gAZ (v3Z s n _ ?_)
 rw [aHZ (0:Int) hn,g1Z]
 simp only [Int.toNat_natCast]
 refine ⟨⟨by omega⟩,fun h=>⟨⟨by omega⟩,⟨by omega⟩,?_⟩,fun h=>?_⟩
 ·simp only [ne_eq,decide_eq_true_eq] at h
  rw [if_neg h];rfl
 ·simp only [ne_eq,decide_eq_false_iff_not,Decidable.not_not] at h
  rw [if_pos h]
  have he:=j6Z s n n rfl t2Z hn hl
  cases hx:pTZ t2Z (s.drop (n+1)) with
  | none =>
   rw [hx] at he
   exact .inl ⟨_,_,_,⟨he⟩,⟨by omega⟩,rfl⟩
  | some y =>
   rw [hx] at he
   exact .inr ⟨_,⟨he⟩,⟨by omega⟩,rfl⟩
theorem jEZ:∀ {l:List qT0} {d y:Int},(∀ e∈l,0≤e.getD 1 0∧e.getD 1 0<256)→sNZ l d=some y→0≤y∧y<256
 | e::r,d,y,h,hx=>by
  simp only [sNZ] at hx
  split at hx
  ·cases hx;exact h e (List.mem_cons_self ..)
  ·exact jEZ (l:=r) (fun b hb=>h b (List.mem_cons_of_mem _ hb)) hx
theorem jNZ {may r:List Int} {y:Int} (h:pTZ may r=some y):(0≤y∧y<256)∧r≠[]:=by
 cases r with
 | nil=>cases h
 | cons d r =>
  simp only [pTZ,qxZ] at h
  split at h
  ·exact ⟨jEZ (by decide) h,by simp⟩
  ·cases h
theorem cLZ {r:List Int} {y:Int} {m:Nat} (hr:∀ c∈r,0≤c∧c<256) (h:g1Z r=some (y,m)):(0≤y∧y<256)∧1≤m∧m≤2∧m≤r.length:=by
 cases r with
 | nil=>cases h
 | cons c r =>
  simp only [g1Z] at h
  split at h
  ·rw [Option.map_eq_some_iff] at h
   obtain ⟨z,hz,e⟩:=h
   cases e
   obtain ⟨h1,h2⟩:=jNZ hz
   have:0<r.length:=List.length_pos_iff.2 h2
   exact ⟨h1,by omega,by omega,by simp;omega⟩
  ·cases h;exact ⟨hr _ (List.mem_cons_self ..),by omega,by omega,by simp⟩
def bTZ (h:List Bool) (a:Nat):Nat→List Bool
 | 0=>h
 | m+1=>bTZ (h.set a true) (a+1) m
theorem dFZ:∀ (m:Nat) (h:List Bool) (a:Nat),(bTZ h a m).length=h.length
 | 0,_,_=>rfl
 | m+1,h,a=>by rw [bTZ,dFZ m];simp
def clsL:Nat→Bool→Int→List Bool→Nat→List Int→Res
 | 0,_,_,_,_,_=>.error (11,0)
 | f+1,sm,last,has,k,r=>match r with
  | []=>.error (11,0)
  | c::r'=>if c=10 then .error (11,0) else if c=93 then (if sm=false then .error (10,0) else .ok (jZZ 0 has,k+1))
   else if c=45 then (if last<0 then .error (10,k) else match r' with
    | []=>.error (11,0)
    | d::_=>if d=10 then .error (11,0) else if d=93 then .error (10,k) else match g1Z r' with
     | none=>.error (10,k+1)
     | some (y,m)=>if y<last then .error (10,k) else clsL f sm (-1) (bTZ has last.toNat (y+1-last).toNat) (k+1+m) (r'.drop m))
   else match g1Z (c::r') with
    | none=>.error (10,k)
    | some (y,m)=>clsL f true y (has.set y.toNat true) (k+m) ((c::r').drop m)
def sFZ (r:List Int):Res:=clsL r.length false (-1) (List.replicate 256 false) 1 r.tail
end Go.Am.N.L
