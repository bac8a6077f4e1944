/-
  A part of the proof of a law: see the text that states it.
-/
import Derived.Test.YtggaihkjnomflaaDoorLC
import Derived.Test.YtggaihkjnomflaaDoorVc3
set_option linter.all false
namespace Go.Am.D.L
open Go Go.Am.Pr
set_option maxRecDepth 100000
def actL (w:List Int) (deep:Int) (k:Nat):List Int→Res
 | []=>.error (11,0)
 | c::r=>if c=123 then (if 4<deep+1 then .error (13,k) else actL w (deep+1) (k+1) r)
  else if c=125 then (if 0<deep-1 then actL w (deep-1) (k+1) r else if 200<(k:Int)-1 then .error (12,0) else .ok ((w.take k).drop 1,k+1))
  else actL w deep (k+1) r
def actK (r:List Int):Res:=actL r 0 0 r
theorem action_ev (s:List Int) (i:Int) (n:Nat) (e:i=n) (hn:n<s.length) (hl:s.length≤1000000) (hc:s.getD n 0=123) :
  E 68 [.tv [] .str s,.tv [] (.int .i64) i] [] (outT n (actK (s.drop n))).1 (outT n (actK (s.drop n))).2:=by
 subst e
 refine ev_out (vc68 s n _ ?_)
 refine ⟨fun d z=>∃ k:Nat,z=((n+k:Nat):Int)∧n+k≤s.length∧(0<k→0<d)∧d≤k∧(k=0→d=0)∧actL (s.drop n) d k (s.drop (n+k))=actK (s.drop n),fun _ z=>(s.length-z).toNat,⟨0,by omega,by omega,by omega,by omega,by omega,by simp [actK]⟩,?_⟩
 rintro d z ⟨k,rfl,hk,hd1,hd2,hd3,hv⟩
 have hcc:k=0→s.getD (n+k) 0=123:=by rintro rfl;exact hc
 refine ⟨fun h=>?_,fun h=>?_⟩
 ·(simp only [decide_eq_true_eq,decide_eq_false_iff_not,Bool.not_eq_true',Bool.not_eq_false'] at h)
  have hn':n+k<s.length:=by omega
  rw [drop_cons (0:Int) hn',actL] at hv
  rw [Int.toNat_natCast]
  refine ⟨⟨by omega⟩,fun h1=>⟨⟨by omega⟩,fun h2=>?_,fun h2=>⟨⟨by omega⟩,⟨k+1,by omega,by omega,by omega,by omega,by omega,?_⟩,⟨by ((try dsimp only);omega)⟩⟩⟩,fun h1=>⟨fun h2=>⟨⟨by omega⟩,fun h3=>⟨⟨by omega⟩,⟨k+1,by omega,by omega,fun _=>?_,by omega,by omega,?_⟩,⟨by ((try dsimp only);omega)⟩⟩,fun h3=>⟨⟨by omega⟩,⟨by omega⟩,fun h4=>?_,fun h4=>⟨⟨by omega⟩,⟨?_⟩,⟨by omega⟩,?_⟩⟩⟩,fun h2=>⟨⟨by omega⟩,⟨k+1,by omega,by omega,fun _=>?_,by omega,by omega,?_⟩,⟨by ((try dsimp only);omega)⟩⟩⟩⟩
  all_goals simp only [decide_eq_true_eq,decide_eq_false_iff_not,ne_eq,Decidable.not_not] at *
  ·rw [if_pos h1,if_pos h2] at hv
   rw [← hv];simp [outT]
  ·rw [if_pos h1,if_neg h2] at hv
   rw [← hv,Nat.add_assoc]
  ·exact h3
  ·rw [if_neg h1,if_pos h2,if_pos h3] at hv
   rw [← hv,Nat.add_assoc]
  ·rw [if_neg h1,if_pos h2,if_neg h3,if_pos (by omega)] at hv
   rw [← hv];simp [outT]
  ·refine ⟨by omega,?_,by omega⟩
   have:k≠0:=fun h0=>h1 (hcc h0)
   omega
  ·rw [if_neg h1,if_pos h2,if_neg h3,if_neg (by omega)] at hv
   have e1:((n+k:Nat):Int)+1=(n:Int)+((k+1:Nat):Int):=by omega
   have e2:cut s (Int.toNat ((n:Int)+1)) (n+k)=((s.drop n).take k).drop 1:=by
    have:Int.toNat ((n:Int)+1)=n+1:=by omega
    rw [this]
    unfold cut
    rw [List.drop_take,List.drop_take,List.drop_drop]
    congr 1;omega
   rw [← hv,e1,e2];rfl
  ·have:k≠0:=fun h0=>h1 (hcc h0)
   exact hd1 (by omega)
  ·rw [if_neg h1,if_neg h2] at hv
   rw [← hv,Nat.add_assoc]
 ·(simp only [decide_eq_true_eq,decide_eq_false_iff_not,Bool.not_eq_true',Bool.not_eq_false'] at h)
  have:s.drop (n+k)=[]:=List.drop_eq_nil_of_le (by omega)
  rw [this] at hv
  simp only [actL] at hv
  rw [← hv];simp [outT]
end Go.Am.D.L
namespace Go.Am.D.L
open Go Go.Am.Pr
set_option maxRecDepth 100000
theorem out_ok {t:List Int} {i j:Int} {k:Nat} (h:j=i+k):((.tup [.tv [] .str t,.tv [] (.int .i64) j,.tv [] .ref none],[]):AV×Heap)=outT i (.ok (t,k)):=by subst h;rfl
theorem index_ev (l:List qT0) (x:List Int) (hl:l.length≤1000000):∃ i:Int,E 26 [.tv [] qt9 l,.tv [] .str x] [] (.tv [] (.int .i64) i) []∧(0≤i↔x∈l):=by
 have key:EvF PP orc 26 [.tv [] qt9 l,.tv [] .str x] [] fun a h=>∃ i:Int,a=.tv [] (.int .i64) i∧h=[]∧(0≤i↔x∈l):=by
  refine vc26 l x _ ?_
  refine ⟨fun i=>∃ n:Nat,i=n∧n≤l.length∧x ∉ l.take n,fun i=>(l.length-i).toNat,⟨0,rfl,by omega,by simp⟩,?_⟩
  rintro i ⟨n,rfl,hn,ha⟩
  refine ⟨fun h=>?_,fun h=>?_⟩
  ·(simp only [decide_eq_true_eq,decide_eq_false_iff_not,Bool.not_eq_true',Bool.not_eq_false'] at h)
   have hn':n<l.length:=by omega
   rw [Int.toNat_natCast]
   refine ⟨⟨by omega⟩,fun hb=>⟨n,rfl,rfl,⟨fun _=>?_,fun _=>by omega⟩⟩,fun hb=>⟨⟨by omega⟩,⟨n+1,rfl,by omega,?_⟩,⟨by ((try dsimp only);omega)⟩⟩⟩
   ·(simp only [decide_eq_true_eq,decide_eq_false_iff_not,Bool.not_eq_true',Bool.not_eq_false'] at hb)
    rw [hb];exact getD_mem' _ hn'
   ·(simp only [decide_eq_true_eq,decide_eq_false_iff_not,Bool.not_eq_true',Bool.not_eq_false'] at hb)
    rw [take_snoc ([]:List Int) hn']
    simp only [List.mem_append,List.mem_singleton,not_or]
    exact ⟨ha,hb⟩
  ·(simp only [decide_eq_true_eq,decide_eq_false_iff_not,Bool.not_eq_true',Bool.not_eq_false'] at h)
   rw [List.take_of_length_le (by omega)] at ha
   exact ⟨_,rfl,rfl,⟨fun h=>absurd h (by decide),fun h=>absurd h ha⟩⟩
 obtain ⟨a,h,e,i,rfl,rfl,h2⟩:=key
 exact ⟨i,e,h2⟩
theorem contains_ev (l:List qT0) (x:List Int) (hl:l.length≤1000000):E 23 [.tv [] qt9 l,.tv [] .str x] [] (.tv [] .bool (decide (x∈l))) []:=by
 obtain ⟨i,e,h⟩:=index_ev l x hl
 refine ev_of (vc23 l x _ ⟨i,⟨e⟩,?_,rfl⟩)
 exact tvB (decide_eq_decide.2 h)
def wordK (r:List Int):Res :=
 let n:=if r.tail.head?=some 37 then 1 else runK lowerK r.tail
 if r.tail.take n∈wordsL then .ok (r.tail.take n,1+n) else .error (10,0)
theorem cut_take (s:List Int) (n k:Nat):cut s n (n+k)=(s.drop n).take k:=by
 unfold cut
 rw [List.drop_take];congr 1;omega
theorem word_ev (s:List Int) (i:Int) (n:Nat) (e:i=n) (hn:n<s.length) (hl:s.length≤1000000) :
  E 65 [.tv [] .str s,.tv [] (.int .i64) i] [] (outT n (wordK (s.drop n))).1 (outT n (wordK (s.drop n))).2:=by
 subst e
 have hc:((n:Int)+1)=((n+1:Nat):Int):=by omega
 have hw:wordsL.length≤1000000:=by decide
 refine ev_out (vc65 s n _ ?_)
 have hrl:=runK_le lowerK (s.drop (n+1))
 simp only [List.length_drop] at hrl
 have fin:∀ (m:Nat),(if (s.drop n).tail.head?=some 37 then 1 else runK lowerK (s.drop n).tail)=m→wordK (s.drop n)=if cut s (n+1) (n+1+m)∈wordsL then .ok (cut s (n+1) (n+1+m),1+m) else .error (10,0):=by
  rintro m rfl
  unfold wordK
  simp only [List.tail_drop,cut_take]
 refine ⟨⟨by omega⟩,_,⟨run2_ev s _ (n+1) hc (by omega) hl⟩,⟨by omega⟩,fun h=>?_,fun h=>?_⟩
 ·(simp only [decide_eq_true_eq,decide_eq_false_iff_not,Bool.not_eq_true',Bool.not_eq_false'] at h)
  have hn':n+1<s.length:=by omega
  have hh:(s.drop n).tail.head?=some (s.getD (n+1) 0):=by
   rw [List.tail_drop,drop_cons (0:Int) hn'];rfl
  have e1:Int.toNat ((n:Int)+1)=n+1:=by omega
  have e2:Int.toNat ((n:Int)+1+1)=n+1+1:=by omega
  rw [e1,e2]
  refine ⟨⟨by omega⟩,⟨by omega⟩,fun h2=>?_,fun h2=>?_⟩
  ·(simp only [decide_eq_true_eq,decide_eq_false_iff_not,Bool.not_eq_true',Bool.not_eq_false'] at h2)
   have f:=fin 1 (by rw [hh,h2,if_pos rfl])
   refine ⟨⟨by omega⟩,⟨by omega⟩,⟨by omega⟩,⟨by omega⟩,_,⟨contains_ev _ _ hw⟩,fun h3=>?_,fun h3=>⟨⟨by omega⟩,⟨by omega⟩,?_⟩⟩
   ·(simp only [decide_eq_true_eq,decide_eq_false_iff_not,Bool.not_eq_true',Bool.not_eq_false'] at h3)
    rw [if_neg h3] at f
    rw [f];simp [outT]
   ·(simp only [decide_eq_true_eq,decide_eq_false_iff_not,Bool.not_eq_true',Bool.not_eq_false'] at h3)
    rw [if_pos h3] at f
    rw [f];exact out_ok (by omega)
  ·(simp only [decide_eq_true_eq,decide_eq_false_iff_not,Bool.not_eq_true',Bool.not_eq_false'] at h2)
   have f:=fin (runK lowerK (s.drop (n+1))) (by rw [hh,if_neg (by simpa using h2),List.tail_drop])
   have e3:Int.toNat ((n:Int)+1+(runK lowerK (s.drop (n+1)):Nat))=n+1+runK lowerK (s.drop (n+1)):=by omega
   rw [e3]
   refine ⟨⟨by omega⟩,⟨by omega⟩,⟨by omega⟩,⟨by omega⟩,_,⟨contains_ev _ _ hw⟩,fun h3=>?_,fun h3=>⟨⟨by omega⟩,⟨by omega⟩,?_⟩⟩
   ·(simp only [decide_eq_true_eq,decide_eq_false_iff_not,Bool.not_eq_true',Bool.not_eq_false'] at h3)
    rw [if_neg h3] at f
    rw [f];simp [outT]
   ·(simp only [decide_eq_true_eq,decide_eq_false_iff_not,Bool.not_eq_true',Bool.not_eq_false'] at h3)
    rw [if_pos h3] at f
    rw [f];exact out_ok (by omega)
 ·(simp only [decide_eq_true_eq,decide_eq_false_iff_not,Bool.not_eq_true',Bool.not_eq_false'] at h)
  have hz:s.drop (n+1)=[]:=List.drop_eq_nil_of_le (by omega)
  have f:=fin (runK lowerK (s.drop (n+1))) (by rw [List.tail_drop,hz];rfl)
  have e1:Int.toNat ((n:Int)+1)=n+1:=by omega
  have e3:Int.toNat ((n:Int)+1+(runK lowerK (s.drop (n+1)):Nat))=n+1+runK lowerK (s.drop (n+1)):=by omega
  rw [e1,e3]
  refine ⟨⟨by omega⟩,⟨by omega⟩,⟨by omega⟩,⟨by omega⟩,_,⟨contains_ev _ _ hw⟩,fun h3=>?_,fun h3=>⟨⟨by omega⟩,⟨by omega⟩,?_⟩⟩
  ·(simp only [decide_eq_true_eq,decide_eq_false_iff_not,Bool.not_eq_true',Bool.not_eq_false'] at h3)
   rw [if_neg h3] at f
   rw [f];simp [outT]
  ·(simp only [decide_eq_true_eq,decide_eq_false_iff_not,Bool.not_eq_true',Bool.not_eq_false'] at h3)
   rw [if_pos h3] at f
   rw [f];exact out_ok (by omega)
end Go.Am.D.L
namespace Go.Am.D.L
open Go Go.Am.Pr
set_option maxRecDepth 100000
def memF:Nat→List Bool→List Int
 | _,[]=>[]
 | i,b::l=>if b then (i:Int)::memF (i+1) l else memF (i+1) l
theorem members_ev (has:List Bool) (hl:has.length=256):E 81 [.tv [] (.arr 0 256 .bool) has] [] (.tv [] .str (memF 0 has)) []:=by
 refine ev_of (vc81 has _ ?_)
 have hb:(1000000:Nat)≤bigN:=by decide
 generalize bigN=big at hb ⊢
 refine ⟨fun out z=>∃ k:Nat,z=k∧out.length≤k∧k≤256∧out++memF k (has.drop k)=memF 0 has,fun _ z=>(256-z).toNat,⟨0,rfl,by simp,by omega,by simp⟩,?_⟩
 rintro out z ⟨k,rfl,ho,hk,hv⟩
 refine ⟨fun h=>?_,fun h=>?_⟩
 ·(simp only [decide_eq_true_eq,decide_eq_false_iff_not,Bool.not_eq_true',Bool.not_eq_false'] at h)
  have hk':k<has.length:=by omega
  rw [drop_cons false hk',memF] at hv
  rw [Int.toNat_natCast]
  refine ⟨⟨by omega⟩,fun hb=>⟨⟨by omega⟩,⟨by simp only [List.length_cons,List.length_nil];omega⟩,⟨by omega⟩,⟨rfl⟩,⟨k+1,by omega,by simp;omega,by omega,?_⟩,⟨by ((try dsimp only);omega)⟩⟩,fun hb=>⟨⟨by omega⟩,⟨rfl⟩,⟨k+1,by omega,by omega,by omega,?_⟩,⟨by ((try dsimp only);omega)⟩⟩⟩
  ·rw [hb,if_pos rfl] at hv
   rw [← hv];simp
  ·rw [hb,if_neg (by decide)] at hv
   exact hv
 ·(simp only [decide_eq_true_eq,decide_eq_false_iff_not,Bool.not_eq_true',Bool.not_eq_false'] at h)
  rw [List.drop_eq_nil_of_le (by omega)] at hv
  refine ⟨tvS ?_,rfl⟩
  rw [← hv];simp [memF]
def oneS:List Int→Option (Int×Nat)
  | []=>none
  | c::r=>if c=92 then (escS mayC r).map (·,2) else some (c,1)
def outO (i:Int):Option (Int×Nat)→AV×Heap
 | none=>(.tup [.tv [] (.int .u8) 0,.tv [] (.int .i64) (i+2),.op (1,0) []],[((1,0),⟨⟨W3,(10,(i,()))⟩,[]⟩)])
 | some (c,k)=>(.tup [.tv [] (.int .u8) c,.tv [] (.int .i64) (i+k),.tv [] .ref none],[])
theorem one_ev (s:List Int) (i:Int) (n:Nat) (e:i=n) (hn:n<s.length) (hl:s.length≤1000000) :
  E 82 [.tv [] .str s,.tv [] (.int .i64) i] [] (outO n (oneS (s.drop n))).1 (outO n (oneS (s.drop n))).2:=by
 subst e
 refine ev_out (vc82 s n _ ?_)
 rw [drop_cons (0:Int) hn,oneS]
 simp only [Int.toNat_natCast]
 refine ⟨⟨by omega⟩,fun h=>⟨⟨by omega⟩,⟨by omega⟩,?_⟩,fun h=>?_⟩
 ·simp only [ne_eq,decide_eq_true_eq] at h
  rw [if_neg h];rfl
 ·simp only [ne_eq,decide_eq_false_iff_not,Decidable.not_not] at h
  rw [if_pos h]
  have he:=escape_ev s n n rfl mayC hn hl
  cases hx:escS mayC (s.drop (n+1)) with
  | none =>
   rw [hx] at he
   exact .inl ⟨_,_,_,⟨he⟩,⟨by omega⟩,rfl⟩
  | some y =>
   rw [hx] at he
   exact .inr ⟨_,⟨he⟩,⟨by omega⟩,rfl⟩
theorem escF_byte:∀ {l:List qT0} {d y:Int},(∀ e∈l,0≤e.getD 1 0∧e.getD 1 0<256)→escF l d=some y→0≤y∧y<256
 | e::r,d,y,h,hx=>by
  simp only [escF] at hx
  split at hx
  ·cases hx;exact h e (List.mem_cons_self ..)
  ·exact escF_byte (l:=r) (fun b hb=>h b (List.mem_cons_of_mem _ hb)) hx
theorem escS_byte {may r:List Int} {y:Int} (h:escS may r=some y):(0≤y∧y<256)∧r≠[]:=by
 cases r with
 | nil=>cases h
 | cons d r =>
  simp only [escS,escK] at h
  split at h
  ·exact ⟨escF_byte (by decide) h,by simp⟩
  ·cases h
theorem oneS_byte {r:List Int} {y:Int} {m:Nat} (hr:∀ c∈r,0≤c∧c<256) (h:oneS r=some (y,m)):(0≤y∧y<256)∧1≤m∧m≤2∧m≤r.length:=by
 cases r with
 | nil=>cases h
 | cons c r =>
  simp only [oneS] at h
  split at h
  ·rw [Option.map_eq_some_iff] at h
   obtain ⟨z,hz,e⟩:=h
   cases e
   obtain ⟨h1,h2⟩:=escS_byte hz
   have:0<r.length:=List.length_pos_iff.2 h2
   exact ⟨h1,by omega,by omega,by simp;omega⟩
  ·cases h;exact ⟨hr _ (List.mem_cons_self ..),by omega,by omega,by simp⟩
def rangeSet (h:List Bool) (a:Nat):Nat→List Bool
 | 0=>h
 | m+1=>rangeSet (h.set a true) (a+1) m
def clsL:Nat→Bool→Int→List Bool→Nat→List Int→Res
 | 0,_,_,_,_,_=>.error (11,0)
 | f+1,sm,last,has,k,r=>match r with
  | []=>.error (11,0)
  | c::r'=>if c=10 then .error (11,0) else if c=93 then (if sm=false then .error (10,0) else .ok (memF 0 has,k+1))
   else if c=45 then (if last<0 then .error (10,k) else match r' with
    | []=>.error (11,0)
    | d::_=>if d=10 then .error (11,0) else if d=93 then .error (10,k) else match oneS r' with
     | none=>.error (10,k+1)
     | some (y,m)=>if y<last then .error (10,k) else clsL f sm (-1) (rangeSet has last.toNat (y+1-last).toNat) (k+1+m) (r'.drop m))
   else match oneS (c::r') with
    | none=>.error (10,k)
    | some (y,m)=>clsL f true y (has.set y.toNat true) (k+m) ((c::r').drop m)
def clsK (r:List Int):Res:=clsL r.length false (-1) (List.replicate 256 false) 1 r.tail
end Go.Am.D.L
