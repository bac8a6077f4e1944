/-
  A part of the proof of a law: see the text that states it.
-/
import Derived.Test.YtcggbplapaeedaaDoorZD
import Derived.Test.YtcggbplapaeedaaDoorY
import Derived.Test.YtcggbplapaeedaaDoorZE
import Derived.Test.YtcggbplapaeedaaDoorZJ
set_option linter.all false
namespace Go.Am.R
open Go Go.Am.Pr Go.Am.R.L
set_option maxRecDepth 100000
def patM (p:Pat):List Kt:=if p.1≠[] then [(3,p.1)] else (4,p.2.1)::(if p.2.2.1=true then [(5,[])] else [])
def tkM (t:Tk):List Kt:=(2,tokenT)::(1,t.1)::patM t.2.1
def skM (p:Pat):List Kt:=(2,skipT)::patM p
def lvT (a:Int):List Int:=if a=1 then leftT else if a=2 then rightT else nonT
def lvM (x:Lv):List Kt:=(2,lvT x.1)::x.2.1.map fun n=>((1:Int),n)
def rlM (r:Rl):List Kt:=(1,r.1)::(6,[])::(altM r.2.1 r.2.2.1 r.2.2.2.1++[(8,[])])
def grM (g:Gr):List Kt:=g.1.flatMap tkM++(g.2.1.flatMap skM++(g.2.2.1.flatMap lvM++((2,startT)::(1,g.2.2.2.1)::(2,[37])::g.2.2.2.2.1.flatMap rlM)))
theorem patK_fwd {r:List L.Mark} {p:Pat} {tl:List Kt} (h:kts r=patM p++tl) (hp:patO p=true) (ht:(hdk tl).1≠5):∃ r',patK r=.ok (p,r')∧kts r'=tl:=by
 obtain ⟨t,s,m,⟨⟩⟩:=p
 unfold patM at h
 unfold patO at hp
 by_cases h0:t≠[]
 ·rw [if_pos h0] at h hp
  simp only [Bool.and_eq_true,decide_eq_true_eq,Bool.not_eq_true'] at hp
  obtain ⟨⟨_,rfl⟩,rfl⟩:=hp
  refine ⟨r.tail,?_,by rw [kts_tail,h];rfl⟩
  rw [patK,if_pos (by rw [hd1,h];rfl),hd2,h];rfl
 ·rw [if_neg h0] at h hp
  have h0:t=[]:=Decidable.not_not.1 h0
  subst h0
  have e1:(hd r).1=4:=by rw [hd1,h];rfl
  have e2:(hd r).2.1=s:=by rw [hd2,h];rfl
  have e3:kts r.tail=(if m=true then [(5,[])] else [])++tl:=by rw [kts_tail,h];rfl
  rw [patK,if_neg (by rw [e1];decide),if_pos e1,e2]
  cases m with
  | true =>
   rw [if_pos rfl] at e3
   rw [if_pos (by rw [hd1,e3];rfl)]
   exact ⟨_,rfl,by rw [kts_tail,e3];rfl⟩
  | false =>
   rw [if_neg (by decide),List.nil_append] at e3
   rw [if_neg (by rw [hd1,e3];exact ht)]
   exact ⟨_,rfl,e3⟩
theorem declsK_step {r r':List L.Mark} {s s':G} {f:Nat} {w:List Int} {tl:List Kt} (h:kts r=(2,w)::tl) (hw:w≠[37]) (g:declK (hd r) r.tail s=some (none,r',s')):declsK (f+1) r s=declsK f r' s':=by
 have h1:(hd r).1=2:=by rw [hd1,h];rfl
 have h2:(hd r).2.1=w:=by rw [hd2,h];rfl
 rw [declsK,if_neg (fun q=>q h1),if_neg (by rw [h2];exact hw),g]
theorem toks_fwd (tl : List Kt) (ht : (hdk tl).1 ≠ 5) : ∀ (ts : List Tk) (r : List L.Mark) (f : Nat) (s : G), kts r = ts.flatMap tkM ++ tl → ts.length < f → (∀ n, Pr.mget s.tm n false = true ↔ n ∈ s.tk.map (·.1)) → (s.tk.map (·.1) ++ ts.map (·.1)).Nodup → s.tk.length + ts.length ≤ 20 → (∀ t ∈ ts, patO t.2.1 = true) →
    ∃ r' tm,declsK f r s=declsK (f-ts.length) r' { s with tk:=s.tk++ts,tm:=tm }∧kts r'=tl
  | [],r,f,s,h,_,_,_,_,_=>⟨r,s.tm,by simp,h⟩
  | t::ts,r,f,s,h,hf,hm,hn,hl,hp=>by
    simp only [List.length_cons] at hf hl
    obtain ⟨f,rfl⟩:∃ g,f=g+1:=⟨f-1,by omega⟩
    obtain ⟨n,p,⟨⟩⟩:=t
    have h:kts r=(2,tokenT)::(1,n)::(patM p++(ts.flatMap tkM++tl)):=by rw [h];simp [tkM]
    have h1:kts r.tail=(1,n)::(patM p++(ts.flatMap tkM++tl)):=by rw [kts_tail,h];rfl
    have h2:kts r.tail.tail=patM p++(ts.flatMap tkM++tl):=by rw [kts_tail,h1];rfl
    have h5:(hdk (ts.flatMap tkM++tl)).1≠5:=by
      cases ts with
      | nil=>exact ht
      | cons t ts=>exact (by decide:(2:Int)≠5)
    obtain ⟨r1,g1,g2⟩:=patK_fwd h2 (hp _ (List.mem_cons_self ..)) h5
    have e1:(hd r.tail).1=1:=by rw [hd1,h1];rfl
    have e2:(hd r.tail).2.1=n:=by rw [hd2,h1];rfl
    have hni:n ∉ s.tk.map (·.1):=fun q=>by
      rw [List.nodup_append] at hn
      exact hn.2.2 n q n (by simp) rfl
    have st:declK (hd r) r.tail s=some (none,r1,{ s with tm:=Pr.mset s.tm n true,tk:=s.tk++[(n,(p,()))] }):=by
      rw [declK,if_pos (by rw [hd2,h];rfl),tokenK,if_neg (not_not_intro e1),e2,if_neg (fun q=>hni ((hm n).1 q)),if_neg (by omega),g1]
    rw [declsK_step h (by decide) st]
    obtain ⟨r',tm,i1,i2⟩:=toks_fwd tl ht ts r1 f { s with tm:=Pr.mset s.tm n true,tk:=s.tk++[(n,(p,()))] } g2 (by omega) (fun k=>by
      rw [mget_mset,List.map_append,List.mem_append]
      by_cases hk:k=n
      · rw [if_pos hk];exact ⟨fun _=>.inr (by simp [hk]),fun _=>rfl⟩
      · rw [if_neg hk,hm k]
        exact ⟨.inl,fun q=>q.elim id fun q=>absurd (by simpa using q) hk⟩) (by simpa using hn) (by simp only [List.length_append,List.length_singleton];omega) (fun t q=>hp t (List.mem_cons_of_mem _ q))
    refine ⟨r',tm,?_,i2⟩
    rw [i1]
    simp only [List.length_cons,List.append_assoc,List.singleton_append]
    congr 1;omega
theorem skips_fwd (tl:List Kt) (ht:(hdk tl).1≠5):∀ (ps:List Pat) (r:List L.Mark) (f:Nat) (s:G),kts r=ps.flatMap skM++tl→ps.length<f→s.sk.length+ps.length≤4→(∀ p∈ps,patO p=true) →
  ∃ r',declsK f r s=declsK (f-ps.length) r' { s with sk:=s.sk++ps }∧kts r'=tl
 | [],r,f,s,h,_,_,_=>⟨r,by simp,h⟩
 | p::ps,r,f,s,h,hf,hl,hp=>by
  simp only [List.length_cons] at hf hl
  obtain ⟨f,rfl⟩:∃ g,f=g+1:=⟨f-1,by omega⟩
  have h:kts r=(2,skipT)::(patM p++(ps.flatMap skM++tl)):=by rw [h];simp [skM]
  have h1:kts r.tail=patM p++(ps.flatMap skM++tl):=by rw [kts_tail,h];rfl
  have h5:(hdk (ps.flatMap skM++tl)).1≠5:=by
   cases ps with
   | nil=>exact ht
   | cons t ts=>exact (by decide:(2:Int)≠5)
  obtain ⟨r1,g1,g2⟩:=patK_fwd h1 (hp _ (List.mem_cons_self ..)) h5
  have e2:(hd r).2.1=skipT:=by rw [hd2,h];rfl
  have st:declK (hd r) r.tail s=some (none,r1,{ s with sk:=s.sk++[p] }):=by
   rw [declK,if_neg (by rw [e2];decide),if_pos e2,skipK,if_neg (by omega),g1]
  rw [declsK_step h (by decide) st]
  obtain ⟨r',i1,i2⟩:=skips_fwd tl ht ps r1 f { s with sk:=s.sk++[p] } g2 (by omega) (by simp only [List.length_append,List.length_singleton];omega) (fun t q=>hp t (List.mem_cons_of_mem _ q))
  refine ⟨r',?_,i2⟩
  rw [i1]
  simp only [List.length_cons,List.append_assoc,List.singleton_append]
  congr 1;omega
theorem names_fwd (tl:List Kt) (ht:(hdk tl).1≠1):∀ (ns:Ns) (r:List L.Mark) (acc:Ns) (lm:Mp),kts r=ns.map (fun n=>((1:Int),n))++tl→acc++ns≠[]→(∀ n∈ns,¬ Pr.mget lm n false=true)→ns.Nodup →
  ∃ r' lm',namesK r acc lm=(none,r',lm',acc++ns)∧kts r'=tl∧∀ n,Pr.mget lm' n false=true↔Pr.mget lm n false=true∨n∈ns
 | [],r,acc,lm,h,h0,_,_=>by
  have h:kts r=tl:=h
  refine ⟨r,lm,?_,h,fun n=>by simp⟩
  rw [List.append_nil] at h0 ⊢
  cases r with
  | nil=>rw [namesK,if_neg h0]
  | cons m r =>
   have:m.1≠1:=by
    have:=hd1 (m::r)
    rw [hd_cons,h] at this
    rw [this];exact ht
   rw [namesK,if_pos this,if_neg h0]
 | n::ns,r,acc,lm,h,h0,hm,hn=>by
  cases r with
  | nil=>cases h
  | cons m r =>
   have e1:m.1=1:=by have:=hd1 (m::r);rw [hd_cons,h] at this;exact this
   have e2:m.2.1=n:=by have:=hd2 (m::r);rw [hd_cons,h] at this;exact this
   rw [List.nodup_cons] at hn
   obtain ⟨r',lm',i1,i2,i3⟩:=names_fwd tl ht ns r (acc++[n]) (Pr.mset lm n true) (by have:=kts_tail (m::r);rw [h] at this;exact this) (by simp) (fun k hk=>by
    rw [mget_mset,if_neg (fun q=>hn.1 (by rw [← q];exact hk))]
    exact hm k (List.mem_cons_of_mem _ hk)) hn.2
   refine ⟨r',lm',?_,i2,fun k=>?_⟩
   ·rw [namesK,if_neg (not_not_intro e1),e2,if_neg (hm n (List.mem_cons_self ..)),i1,List.append_assoc];rfl
   ·rw [i3 k,mget_mset,List.mem_cons]
    by_cases hk:k=n
    ·rw [if_pos hk];exact ⟨fun _=>.inr (.inl hk),fun _=>.inl rfl⟩
    ·rw [if_neg hk]
     exact ⟨fun q=>q.elim .inl fun q=>.inr (.inr q),fun q=>q.elim .inl fun q=>q.elim (fun q=>absurd q hk) .inr⟩
theorem lvT_assoc {a:Int} (h1:1≤a) (h3:a≤3):assocK (lvT a)=a:=by
 have:a=1∨a=2∨a=3:=by omega
 rcases this with rfl | rfl | rfl <;> decide
theorem levels_fwd (tl:List Kt) (ht:(hdk tl).1≠1):∀ (xs:List Lv) (r:List L.Mark) (f:Nat) (s:G),kts r=xs.flatMap lvM++tl→xs.length<f→s.lv.length+xs.length≤10→(∀ x∈xs,lvO1 x=true)→(∀ n∈xs.flatMap (·.2.1),¬ Pr.mget s.lm n false=true)→(xs.flatMap (·.2.1)).Nodup →
  ∃ r' lm,declsK f r s=declsK (f-xs.length) r' { s with lv:=s.lv++xs,lm:=lm }∧kts r'=tl
 | [],r,f,s,h,_,_,_,_,_=>⟨r,s.lm,by simp,h⟩
 | x::xs,r,f,s,h,hf,hl,hp,hm,hn=>by
  simp only [List.length_cons] at hf hl
  obtain ⟨f,rfl⟩:∃ g,f=g+1:=⟨f-1,by omega⟩
  have hx:=hp x (List.mem_cons_self ..)
  simp only [lvO1,Bool.and_eq_true,decide_eq_true_eq,Bool.not_eq_true',decide_eq_false_iff_not] at hx
  obtain ⟨⟨hx1,hx2⟩,hx3⟩:=hx
  have h:kts r=(2,lvT x.1)::(x.2.1.map (fun n=>((1:Int),n))++(xs.flatMap lvM++tl)):=by rw [h];simp [lvM]
  have h1:kts r.tail=x.2.1.map (fun n=>((1:Int),n))++(xs.flatMap lvM++tl):=by rw [kts_tail,h];rfl
  have h5:(hdk (xs.flatMap lvM++tl)).1≠1:=by
   cases xs with
   | nil=>exact ht
   | cons t ts=>exact (by decide:(2:Int)≠1)
  rw [List.flatMap_cons,List.nodup_append] at hn
  obtain ⟨r1,lm',g1,g2,g3⟩:=names_fwd _ h5 x.2.1 r.tail [] s.lm h1 (by simpa using hx3) (fun n q=>hm n (by rw [List.flatMap_cons];exact List.mem_append_left _ q)) hn.1
  have e2:(hd r).2.1=lvT x.1:=by rw [hd2,h];rfl
  have lk:levelK (hd r) r.tail s=(none,r1,{ s with lm:=lm',lv:=s.lv++[x] }):=by
   rw [levelK,if_neg (by omega),g1]
   simp only [List.nil_append]
   rw [e2,lvT_assoc hx1 hx2]
  have st:declK (hd r) r.tail s=some (none,r1,{ s with lm:=lm',lv:=s.lv++[x] }):=by
   have:x.1=1∨x.1=2∨x.1=3:=by omega
   rw [declK,e2,lk]
   rcases this with q | q | q <;> rw [q] <;> rfl
  have h37:lvT x.1≠[37]:=by
   have:x.1=1∨x.1=2∨x.1=3:=by omega
   rcases this with q | q | q <;> rw [q] <;> decide
  rw [declsK_step h h37 st]
  obtain ⟨r',lm2,i1,i2⟩:=levels_fwd tl ht xs r1 f { s with lm:=lm',lv:=s.lv++[x] } g2 (by omega) (by simp only [List.length_append,List.length_singleton];omega) (fun t q=>hp t (List.mem_cons_of_mem _ q)) (fun n q q2=>by
   rcases (g3 n).1 q2 with q3 | q3
   ·exact hm n (by rw [List.flatMap_cons];exact List.mem_append_right _ q) q3
   ·exact hn.2.2 n q3 n q rfl) hn.2.1
  refine ⟨r',lm2,?_,i2⟩
  rw [i1]
  simp only [List.length_cons,List.append_assoc,List.singleton_append]
  congr 1;omega
theorem rules_fwd:∀ (rs:List Rl) (r:List L.Mark) (f:Nat) (s:G),kts r=rs.flatMap rlM++[(0,[])]→rs.length≤f→s.rl.length+rs.length≤40→(s.rl++rs≠[])→(∀ x∈rs,x.2.1.length≤8) →
  ∃ r',rulesK f r s=(none,r',{ s with rl:=s.rl++rs })
 | [],r,f,s,h,_,_,h0,_=>⟨r,by rw [rulesK_stop (by rw [h];rfl) (by simpa using h0)];simp⟩
 | x::rs,r,f,s,h,hf,hl,_,hp=>by
  simp only [List.length_cons] at hf hl
  obtain ⟨f,rfl⟩:∃ g,f=g+1:=⟨f-1,by omega⟩
  have h:kts r=(1,x.1)::(6,[])::(altM x.2.1 x.2.2.1 x.2.2.2.1++(8,[])::(rs.flatMap rlM++[(0,[])])):=by rw [h];simp [rlM]
  obtain ⟨r1,g1,g2⟩:=ruleK_fwd s h
  obtain ⟨r2,g3,g4⟩:=altsK_end r.length x.1 s g2 (hp x (List.mem_cons_self ..)) (by omega)
  obtain ⟨r',i⟩:=rules_fwd rs r2 f { s with rl:=s.rl++[(x.1,(x.2.1,(x.2.2.1,(x.2.2.2.1,()))))] } g4 (by omega) (by simp only [List.length_append,List.length_singleton];omega) (by simp) (fun t q=>hp t (List.mem_cons_of_mem _ q))
  refine ⟨r',?_⟩
  rw [rulesK_go (by rw [h];exact (by decide:(1:Int)≠0)) (g1.trans g3),i]
  simp
theorem grM_read {g:Gr} (hg:rightO g=true) {l:List L.Mark} (h:kts l=grM g++[(0,[])]):marksK l=(g,dg0):=by
 simp only [rightO,tokO,lvO,Bool.and_eq_true,decide_eq_true_eq,List.all_eq_true] at hg
 obtain ⟨⟨ht1,ht2,ht3⟩,⟨hl1,hl2,hl3⟩,hs1,hs2,hst,hr1,hr2,hr3⟩:=hg
 obtain ⟨tk,sk,lv,st,rl,⟨⟩⟩:=g
 dsimp only at ht1 ht2 ht3 hl1 hl2 hl3 hs1 hs2 hst hr1 hr2 hr3
 simp only [onceO,Bool.and_eq_true,decide_eq_true_eq] at ht3 hl3
 have hlen:tk.length+sk.length+lv.length+3≤l.length:=by
  have k1:∀ {α:Type} (f:α→List Kt) (l:List α),(∀ x,1≤(f x).length)→l.length≤(l.flatMap f).length:=by
   intro α f l hf
   induction l with
   | nil=>exact Nat.zero_le _
   | cons x l ih=>have:=hf x;rw [List.flatMap_cons,List.length_append,List.length_cons];omega
  have a1:=k1 tkM tk fun t=>by simp [tkM]
  have a2:=k1 skM sk fun t=>by simp [skM]
  have a3:=k1 lvM lv fun t=>by simp [lvM]
  rw [kts_len l,h]
  simp only [grM,List.length_append,List.length_cons,List.length_nil]
  omega
 have hrl:rl.length≤(rl.flatMap rlM).length:=by
  clear hr1 hr2 hr3 h
  induction rl with
  | nil=>exact Nat.zero_le _
  | cons x l ih=>rw [List.flatMap_cons,List.length_append,List.length_cons];simp only [rlM,List.length_cons];omega
 have h1:kts l=tk.flatMap tkM++(sk.flatMap skM++(lv.flatMap lvM++((2,startT)::(1,st)::(2,[37])::(rl.flatMap rlM++[(0,[])])))):=by rw [h,grM];simp
 have n5:(hdk (sk.flatMap skM++(lv.flatMap lvM++((2,startT)::(1,st)::(2,[37])::(rl.flatMap rlM++[(0,[])]))))).1=2:=by
  cases sk with
  | nil=>cases lv <;> rfl
  | cons p ps=>rfl
 have n5':(hdk (lv.flatMap lvM++((2,startT)::(1,st)::(2,[37])::(rl.flatMap rlM++[(0,[])])))).1=2:=by
  cases lv <;> rfl
 obtain ⟨r1,tm,a1,a2⟩:=toks_fwd _ (by rw [n5];decide) tk l (l.length+1) G0 h1 (by omega) (fun n=>by simp [G0,Pr.mget]) (by simpa [G0] using ht3.2) (by simpa [G0] using ht2) ht1
 obtain ⟨r2,b1,b2⟩:=skips_fwd _ (by rw [n5'];decide) sk r1 (l.length+1-tk.length) { G0 with tk:=G0.tk++tk,tm:=tm } a2 (by omega) (by simpa [G0] using hs1) hs2
 obtain ⟨r3,lm,c1,c2⟩:=levels_fwd _ (by exact (by decide:(2:Int)≠1)) lv r2 (l.length+1-tk.length-sk.length) { G0 with tk:=G0.tk++tk,tm:=tm,sk:=G0.sk++sk } b2 (by omega) (by simpa [G0] using hl2) hl1 (fun n _=>by simp [G0,Pr.mget]) hl3.2
 have d1:kts r3.tail=(1,st)::(2,[37])::(rl.flatMap rlM++[(0,[])]):=by rw [kts_tail,c2];rfl
 have d2:kts r3.tail.tail=(2,[37])::(rl.flatMap rlM++[(0,[])]):=by rw [kts_tail,d1];rfl
 have d3:kts r3.tail.tail.tail=rl.flatMap rlM++[(0,[])]:=by rw [kts_tail,d2];rfl
 obtain ⟨f,hf⟩:∃ f,l.length+1-tk.length-sk.length-lv.length=f+2:=⟨l.length+1-tk.length-sk.length-lv.length-2,by omega⟩
 have e2:(hd r3).2.1=startT:=by rw [hd2,c2];rfl
 have sk0:declK (hd r3) r3.tail { G0 with tk:=G0.tk++tk,tm:=tm,sk:=G0.sk++sk,lv:=G0.lv++lv,lm:=lm }=some (none,r3.tail.tail,{ G0 with tk:=G0.tk++tk,tm:=tm,sk:=G0.sk++sk,lv:=G0.lv++lv,lm:=lm,on:=true,st:=st }):=by
  rw [declK,e2,if_neg (by decide),if_neg (by decide),if_neg (by decide),if_neg (by decide),if_neg (by decide),if_pos rfl,startK,if_neg (by simp [G0]),if_pos (by rw [hd1,d1];rfl),hd2,d1]
  rfl
 obtain ⟨r',k1⟩:=rules_fwd rl r3.tail.tail.tail (r3.tail.tail.tail.length+1) { G0 with tk:=G0.tk++tk,tm:=tm,sk:=G0.sk++sk,lv:=G0.lv++lv,lm:=lm,on:=true,st:=st } d3 (by rw [kts_len,d3,List.length_append];omega) (by simpa [G0] using hr2) (by intro q;simp at q;rw [q] at hr1;exact absurd hr1 (by decide)) (fun x hx=>(rulO_split (hr3 x hx)).2.1)
 have key:allK l G0=(none,r',{ G0 with tk:=G0.tk++tk,tm:=tm,sk:=G0.sk++sk,lv:=G0.lv++lv,lm:=lm,on:=true,st:=st,rl:=G0.rl++rl }):=by
  rw [allK,a1,b1,c1,hf,declsK_step c2 (by decide) sk0,declsK_end d2]
  exact k1
 rw [marksK_ok key]
 simp [G0,grOf]
end Go.Am.R
namespace Go.Am.R
open Go Go.Am.Pr Go.Am.R.L
set_option maxRecDepth 100000
theorem sep_nl (x:List Int):Sep (10::x):=fun c r e=>by cases e;decide
theorem sep_sp (x:List Int):Sep (32::x):=fun c r e=>by cases e;decide
abbrev By (s:List Int):Prop:=∀ c∈s,0≤c∧c<256
structure ByP (g:Gr):Prop where
 tk:∀ t∈g.1,By t.2.1.1∧By t.2.1.2.1
 sk:∀ p∈g.2.1,By p.1∧By p.2.1
theorem nameO_tok {s:List Int} (h:nameO s=true):Lx s [(1,s)] Sep:=by
 simp only [nameO,Bool.and_eq_true,decide_eq_true_eq] at h
 exact (tk_name h.2 h.1).lx
theorem lx_pat {p:Pat} (hp:patO p=true) (h1:By p.1) (h2:By p.2.1):Lx (patT p) (patM p) Any:=by
 obtain ⟨t,s,m,⟨⟩⟩:=p
 dsimp only at h1 h2
 unfold patO at hp
 unfold patT patM
 by_cases h0:t≠[]
 ·rw [if_pos h0] at hp ⊢
  rw [if_pos h0]
  simp only [Bool.and_eq_true,decide_eq_true_eq] at hp
  exact (tk_text h1 h0 hp.1.1).lx
 ·rw [if_neg h0] at hp ⊢
  rw [if_neg h0]
  simp only [Bool.and_eq_true,Bool.not_eq_true',decide_eq_false_iff_not] at hp
  have a:=(tk_class hp.1 hp.2 h2).lx
  cases m with
  | true=>exact a.app (tk_sign (c:=43) (.inl rfl)).lx fun _ _=>trivial
  | false=>exact a
abbrev lxs:Lx [32] [] Any:=(tk_space (c:=32) (.inl rfl)).lx
abbrev lxn:Lx [10] [] Any:=(tk_space (c:=10) (.inr (.inr (.inl rfl)))).lx
theorem lx_word {w:List Int} (hw:w∈wordsL) (hl:∀ c∈w,lowerK c=true) (h37:w.head?≠some 37) (h0:w≠[]):Lx (37::w) [(2,w)] Sep:=(tk_word hw hl h37 h0).lx
theorem lx_tk {t:Tk} (hn:nameO t.1=true) (hp:patO t.2.1=true) (h1:By t.2.1.1) (h2:By t.2.1.2.1):Lx (tkLine t) (tkM t) Any:=by
 have a:=(lx_word (w:=tokenT) (by decide) (by decide) (by decide) (by decide)).app (lxs.app ((nameO_tok hn).app (lxs.app ((lx_pat hp h1 h2).app lxn fun _ _=>trivial) fun _ _=>trivial) fun x _=>sep_sp _) fun _ _=>trivial) fun x _=>sep_sp _
 have e:37::tokenT++([32]++(t.1++([32]++(patT t.2.1++[10]))))=tkLine t:=by rw [tkLine_eq];simp
 rw [e] at a
 simpa [tkM] using a
theorem lx_sk {p:Pat} (hp:patO p=true) (h1:By p.1) (h2:By p.2.1):Lx (skLine p) (skM p) Any:=by
 have a:=(lx_word (w:=skipT) (by decide) (by decide) (by decide) (by decide)).app (lxs.app ((lx_pat hp h1 h2).app lxn fun _ _=>trivial) fun _ _=>trivial) fun x _=>sep_sp _
 have e:37::skipT++([32]++(patT p++[10]))=skLine p:=by rw [skLine_eq];simp
 rw [e] at a
 simpa [skM] using a
theorem sepSp (ns:List qT0) (x:List Int) (h:Sep x):Sep (spW ns++x):=by
 cases ns with
 | nil=>exact h
 | cons n ns=>exact sep_sp _
theorem lx_sp:∀ ns:List qT0,(∀ n∈ns,nameO n=true)→Lx (spW ns) (ns.map fun n=>((1:Int),n)) Sep
 | [],_=>Lx.nil.mono fun _ _=>trivial
 | n::ns,h=>by
  have a:=lxs.app ((nameO_tok (h n (List.mem_cons_self ..))).app (lx_sp ns fun k hk=>h k (List.mem_cons_of_mem _ hk)) fun x hx=>sepSp ns x hx) fun _ _=>trivial
  have e:[32]++(n++spW ns)=spW (n::ns):=by rw [spW_cons,List.append_assoc]
  rw [e] at a
  exact a
theorem lvW_lvT {a:Int} (h1:1≤a) (h3:a≤3):lvW a=37::lvT a:=by
 have:a=1∨a=2∨a=3:=by omega
 rcases this with rfl | rfl | rfl <;> rfl
theorem lx_lvT {a:Int} (h1:1≤a) (h3:a≤3):Lx (37::lvT a) [(2,lvT a)] Sep:=by
 have:a=1∨a=2∨a=3:=by omega
 rcases this with rfl | rfl | rfl
 ·exact lx_word (w:=leftT) (by decide) (by decide) (by decide) (by decide)
 ·exact lx_word (w:=rightT) (by decide) (by decide) (by decide) (by decide)
 ·exact lx_word (w:=nonT) (by decide) (by decide) (by decide) (by decide)
theorem lx_lv {x:Lv} (hx:lvO1 x=true) (hn:∀ n∈x.2.1,nameO n=true):Lx (lvLine x) (lvM x) Any:=by
 simp only [lvO1,Bool.and_eq_true,decide_eq_true_eq] at hx
 have a:=(lx_lvT hx.1.1 hx.1.2).app ((lx_sp x.2.1 hn).app lxn fun y _=>sep_nl _) fun y _=>by rw [List.append_assoc];exact sepSp _ _ (sep_nl _)
 have e:37::lvT x.1++(spW x.2.1++[10])=lvLine x:=by rw [lvLine_eq,lvW_lvT hx.1.1 hx.1.2];simp
 rw [e] at a
 simpa [lvM] using a
theorem lx_start {s:List Int} (h:nameO s=true):Lx (stLine s++twoLine) [(2,startT),(1,s),(2,[37])] Any:=by
 have a:=(lx_word (w:=startT) (by decide) (by decide) (by decide) (by decide)).app (lxs.app ((nameO_tok h).app (lxn.app (tk_two.lx.app lxn fun _ _=>trivial) fun _ _=>trivial) fun x _=>sep_nl _) fun _ _=>trivial) fun x _=>sep_sp _
 have e:37::startT++([32]++(s++([10]++([37,37]++[10]))))=stLine s++twoLine:=by rw [stLine_eq];simp
 rw [e] at a
 exact a
theorem lx_prec {p:List Int} (h:p=[]∨nameO p=true):Lx (if p=[] then [] else [32,37,112,114,101,99,32]++p) (precM p) Sep:=by
 unfold precM
 by_cases h0:p=[]
 ·rw [if_pos h0,if_pos h0];exact Lx.nil.mono fun _ _=>trivial
 ·rw [if_neg h0,if_neg h0]
  exact lxs.app ((lx_word (w:=precT) (by decide) (by decide) (by decide) (by decide)).app (lxs.app (nameO_tok (h.resolve_left h0)) fun _ _=>trivial) fun x _=>sep_sp _) fun _ _=>trivial
theorem lx_act {a:List Int} (h:actO a=true):Lx (if a=[] then [] else [32,123]++a++[125]) (actM a) Any:=by
 unfold actM
 by_cases h0:a=[]
 ·rw [if_pos h0,if_pos h0];exact Lx.nil
 ·rw [if_neg h0,if_neg h0]
  have b:=lxs.app (tk_action h).lx fun _ _=>trivial
  have e:[32]++([123]++a++[125])=[32,123]++a++[125]:=by simp
  rw [e] at b;exact b
theorem lx_rl {r:Rl} (h:rulO r=true):Lx (rlLine r) (rlM r) Any:=by
 obtain ⟨h1,h2,h3,h4,h5⟩:=rulO_split h
 have sA:∀ x,Sep ((if r.2.2.2.1=[] then [] else [32,123]++r.2.2.2.1++[125])++([32]++([59]++[10]))++x):=by
  intro x
  split
  ·exact sep_sp _
  ·rw [List.append_assoc,List.append_assoc,List.append_assoc];exact sep_sp _
 have tail:=(lx_act h5).app (lxs.app ((tk_sign (c:=59) (by decide)).lx.app lxn fun _ _=>trivial) fun _ _=>trivial) fun _ _=>trivial
 have mid:=(lx_prec h4).app tail fun x _=>sA x
 have sP:∀ x,Sep ((if r.2.2.1=[] then [] else [32,37,112,114,101,99,32]++r.2.2.1)++((if r.2.2.2.1=[] then [] else [32,123]++r.2.2.2.1++[125])++([32]++([59]++[10])))++x):=by
  intro x
  by_cases h0:r.2.2.1=[]
  ·rw [if_pos h0,List.nil_append];exact sA x
  ·rw [if_neg h0,List.append_assoc,List.append_assoc];exact sep_sp _
 have a:=(nameO_tok h1).app (lxs.app ((tk_sign (c:=58) (by decide)).lx.app ((lx_sp r.2.1 (List.all_eq_true.1 h3)).app mid fun x _=>sP x) fun _ _=>trivial) fun _ _=>trivial) fun x _=>sep_sp _
 have e:r.1++([32]++([58]++(spW r.2.1++((if r.2.2.1=[] then [] else [32,37,112,114,101,99,32]++r.2.2.1)++((if r.2.2.2.1=[] then [] else [32,123]++r.2.2.2.1++[125])++([32]++([59]++[10])))))))=rlLine r:=by
  rw [rlLine_eq,ruleT_eq];simp only [List.append_assoc,List.cons_append,List.nil_append]
 rw [e] at a
 have em:[((1:Int),r.1)]++([]++((if true=true then [(signK 58,[])] else [])++(r.2.1.map (fun n=>((1:Int),n))++(precM r.2.2.1++(actM r.2.2.2.1++([]++((if true=true then [(signK 59,([]:List Int))] else [])++[])))))))=rlM r:=by
  have s1:signK 58=6:=rfl
  have s2:signK 59=8:=rfl
  rw [s1,s2];simp [rlM]
 have a':Lx (rlLine r) ([((1:Int),r.1)]++([]++((if true=true then [(signK 58,[])] else [])++(r.2.1.map (fun n=>((1:Int),n))++(precM r.2.2.1++(actM r.2.2.2.1++([]++((if true=true then [(signK 59,([]:List Int))] else [])++[])))))))) Any:=a
 rw [em] at a'
 exact a'
theorem lx_flat {α:Type} (f:α→List Int) (m:α→List Kt):∀ l:List α,(∀ x∈l,Lx (f x) (m x) Any)→Lx (l.flatMap f) (l.flatMap m) Any
 | [],_=>Lx.nil
 | x::l,h=>(h x (List.mem_cons_self ..)).app (lx_flat f m l fun y hy=>h y (List.mem_cons_of_mem _ hy)) fun _ _=>trivial
theorem lx_gr {g:Gr} (hg:rightO g=true) (hb:ByP g):Lx (grT g) (grM g) Any:=by
 obtain ⟨⟨ht1,ht2,ht3⟩,⟨hl1,hl2,hl3⟩,hs1,hs2,hst,hr1,hr2,hr3⟩:=(rightO_iff g).1 hg
 simp only [onceO,Bool.and_eq_true,decide_eq_true_eq,List.all_eq_true] at ht3 hl3
 have a1:=lx_flat tkLine tkM g.1 fun t ht=>lx_tk (ht3.1 _ (List.mem_map.2 ⟨t,ht,rfl⟩)) (ht1 t ht) (hb.tk t ht).1 (hb.tk t ht).2
 have a2:=lx_flat skLine skM g.2.1 fun p hp=>lx_sk (hs2 p hp) (hb.sk p hp).1 (hb.sk p hp).2
 have a3:=lx_flat lvLine lvM g.2.2.1 fun x hx=>lx_lv (hl1 x hx) fun n hn=>hl3.1 n (List.mem_flatMap.2 ⟨x,hx,hn⟩)
 have a4:=lx_start hst
 have a5:=lx_flat rlLine rlM g.2.2.2.2.1 fun r hr=>lx_rl (hr3 r hr)
 have a:=a1.app (a2.app (a3.app (a4.app a5 fun _ _=>trivial) fun _ _=>trivial) fun _ _=>trivial) fun _ _=>trivial
 have e:g.1.flatMap tkLine++(g.2.1.flatMap skLine++(g.2.2.1.flatMap lvLine++((stLine g.2.2.2.1++twoLine)++g.2.2.2.2.1.flatMap rlLine)))=grT g:=by
  unfold grT;simp only [List.append_assoc]
 rw [e] at a
 exact a
theorem read_back {g:Gr} (hg:rightO g=true) (hb:ByP g):readK (grT g)=(g,dg0):=by
 obtain ⟨r,h1,h2⟩:=readK_of ((lx_gr hg hb).told trivial)
 rw [h2]
 exact grM_read hg h1
end Go.Am.R
