/-
  The machine aOZ typed data, part 4: what calls come to, read as typed data, holds of the model.
-/
import Derived.Test.YtggaihkjnomflaaGreatDoorAm3
import Derived.RowKit
import Derived.OpenShut
import Derived.ShutString
import Derived.Deep.Slices
import Derived.DataReads
import Derived.WalkKit
import Derived.ProofKit
import Derived.ChangeSame
import Derived.JoinedOf
import Derived.LaidLaws
import GoSem.ClaimJoined
import Derived.Lib.Bytealg
import Derived.Lib.Join
import Derived.Below
set_option linter.all false
namespace Go.Am
variable {P:Program} {O:Orc} {sg:Sig} {f:FuncId} {kn:Kn} {s:St}
def biZ:(t:Ty)→den t→List Dat
 | .pair a b,x=>biZ a x.1++biZ b x.2
 | .unit,_=>[]
 | .ref,_=>[]
 | .wref,_=>[]
 | .mref _ _,_=>[]
 | .fnc,_=>[]
 | .sref _,x=>match (x:Option (Key×Nat×Nat×Nat)) with
  | none=>[]
  | some (_,N,_,len)=>[⟨.int .i64,(N:Int)⟩,⟨.int .i64,(len:Int)⟩]
 | t,x=>[⟨t,x⟩]
def ipZ:(t:Ty)→den t→List Dat
 | .arr (γ+1) _ u,x=>[⟨.int .i64,((γ:Nat):Int)⟩,⟨.slice u,x⟩]
 | t,x=>biZ t x
def urZ:(t:Ty)→den t→List Prop
 | .arr (_+1) n _,x=>[n=List.length x]
 | _,_=>[]
def sZZ:adZ→List Prop
 | []=>[]
 | (_,o)::r=>urZ o.d.t o.d.x++sZZ r
def kvZ:AV→List Dat
 | .tv _ t x=>biZ t x
 | _=>[]
def e7Z (W:List Nat):Nat→List AV→List Dat
 | _,[]=>[]
 | i,a::r=>bif W.contains i then kvZ a++e7Z W (i+1) r else e7Z W (i+1) r
def erZ (Z:List Key):adZ→List Dat
 | []=>[]
 | (k,o)::r=>bif Z.contains k then erZ Z r else ipZ o.d.t o.d.x++erZ Z r
def bSZ (Z:List Key) (W:List Nat) (s:St):List Dat:=e7Z W 0 s.env++erZ Z s.heap
def dtZ:(t:Ty)→den t→List Dat→Option (den t×List Dat)
 | .pair a b,x,l=>(dtZ a x.1 l).bind fun p=>(dtZ b x.2 p.2).map fun q=>((p.1,q.1),q.2)
 | .unit,_,l=>some ((),l)
 | .ref,x,l=>some (x,l)
 | .wref,x,l=>some (x,l)
 | .mref _ _,x,l=>some (x,l)
 | .fnc,x,l=>some (x,l)
 | .sref _,x,l=>match (x:Option (Key×Nat×Nat×Nat)) with
  | none=>some ((none:Option (Key×Nat×Nat×Nat)),l)
  | some (k,_,lo,_)=>match l with
   | ⟨.int .i64,a⟩::⟨.int .i64,b⟩::l=>some ((some (k,Int.toNat a,lo,Int.toNat b):Option (Key×Nat×Nat×Nat)),l)
   | _=>none
 | t,_,l=>match l with
  | []=>none
  | d::l=>if h:d.t=t then some (h ▸ d.x,l) else none
def pVZ:(t:Ty)→den t→List Dat→Option (Dat×List Dat)
 | .arr (_+1) _ u,_,l=>match l with
  | ⟨.int .i64,a⟩::d::l=>if h:d.t=.slice u then some (⟨.arr (Nat.succ (Int.toNat a)) (List.length (h ▸ d.x:den (.slice u))) u,(h ▸ d.x:den (.slice u))⟩,l) else none
  | _=>none
 | t,x,l=>(dtZ t x l).map fun p=>(⟨t,p.1⟩,p.2)
def r5Z:AV→List Dat→Option (AV×List Dat)
 | .tv own t x,l=>(dtZ t x l).map fun p=>(.tv own t p.1,p.2)
 | a,l=>some (a,l)
def iFZ (W:List Nat):Nat→List AV→List Dat→Option (List AV×List Dat)
 | _,[],l=>some ([],l)
 | i,a::r,l=>bif W.contains i then (r5Z a l).bind fun p=>(iFZ W (i+1) r p.2).map fun q=>(p.1::q.1,q.2) else (iFZ W (i+1) r l).map fun q=>(a::q.1,q.2)
def nuZ (Z:List Key):adZ→List Dat→Option (adZ×List Dat)
 | [],l=>some ([],l)
 | (k,o)::r,l=>bif Z.contains k then (nuZ Z r l).map fun q=>((k,o)::q.1,q.2) else (pVZ o.d.t o.d.x l).bind fun p=>(nuZ Z r p.2).map fun q=>((k,⟨p.1,o.own⟩)::q.1,q.2)
def kKZ (Z:List Key) (W:List Nat) (s:St) (l:List Dat):Option St:=(iFZ W 0 s.env l).bind fun p=>(nuZ Z s.heap p.2).bind fun q=>match q.2 with
 | []=>some ⟨p.1,q.1⟩
 | _=>none
@[reducible] def sGZ:List Ty→Type→Type
 | [],R=>R
 | t::ts,R=>den t→sGZ ts R
def apL {R:Type}:(ts:List Ty)→sGZ ts R→List Dat→Option R
 | [],r,[]=>some r
 | t::ts,f,d::ds=>if h:d.t=t then apL ts (f (h ▸ d.x)) ds else none
 | _,_,_=>none
def t4Z:(ts:List Ty)→(List Dat→Prop)→Prop
 | [],k=>k []
 | t::ts,k=>∀ x:den t,t4Z ts fun l=>k (⟨t,x⟩::l)
theorem nZZ:∀ {ts:List Ty} {k:List Dat→Prop} (ds:List Dat),t4Z ts k→ds.map Dat.t=ts→k ds
 | [],k,[],h,_=>h
 | t::ts,k,d::ds,h,e=>by
  simp only [List.map_cons,List.cons.injEq] at e
  obtain ⟨e1,e2⟩:=e
  obtain ⟨dt,dx⟩:=d
  simp only at e1
  subst e1
  exact nZZ (k:=fun l=>k (⟨dt,dx⟩::l)) ds (h dx) e2
 | [],k,_::_,_,e=>by simp at e
 | _::_,k,[],_,e=>by simp at e
def yes (p:Option Prop) (k:Prop→Prop):Prop:=match p with
 | some p=>k p
 | none=>False
def uwZ (a b:Option Nat):Prop:=match a,b with
 | some a,some b=>Need (a<b)
 | _,_=>False
def eUZ:(t:Ty)→den t→den t→Bool
 | .pair a b,x,y=>eUZ a x.1 y.1&&eUZ b x.2 y.2
 | .ref,x,y=>decide ((x:Option Key)=y)
 | .wref,x,y=>decide ((x:Option Key)=y)
 | .mref _ _,x,y=>decide ((x:Option Key)=y)
 | .fnc,x,y=>decide ((x:Option Nat)=y)
 | .sref _,x,y=>match (x:Option (Key×Nat×Nat×Nat)),(y:Option (Key×Nat×Nat×Nat)) with
  | none,none=>true
  | some (k,_,lo,_),some (k',_,lo',_)=>decide (k=k')&&decide (lo=lo')
  | _,_=>false
 | _,_,_=>true
def nhZ:(t:Ty)→den t→(t':Ty)→den t'→Bool
 | .arr (_+1) _ u,_,.arr (_+1) _ u',_=>decide (u'=u)
 | t,x,t',y=>match decEq t' t with | .isTrue h=>eUZ t x (h ▸ y) | .isFalse _=>false
def qoZ (a0 a:AV):Bool:=match a with
 | .any=>match a0 with | .any=>true | _=>false
 | .tv own _ _=>match a0 with | .tv own' _ _=>decide (own=own') | _=>false
 | _=>true
def szZ (a0 a:AV):Bool:=match a0,a with
 | .tv own t x,.tv own' t' y=>decide (own'=own)&&(match decEq t' t with | .isTrue h=>eUZ t x (h ▸ y) | .isFalse _=>false)
 | .any,.any=>true
 | .no,.no=>true
 | .op q p,.op q' p'=>decide (q=q')&&decide (p=p')
 | _,_=>false
def mYZ (W:List Nat):Nat→List AV→List AV→Bool
 | _,[],[]=>true
 | i,a0::r0,a::r=>(bif W.contains i then szZ a0 a else qoZ a0 a)&&mYZ W (i+1) r0 r
 | _,_,_=>false
def nmZ (Z:List Key):adZ→adZ→Bool
 | [],[]=>true
 | (k,o)::r,(k',o')::r'=>decide (k'=k)&&decide (o'.own=o.own)&&(bif Z.contains k then (match decEq o'.d.t o.d.t with | .isTrue _=>true | .isFalse _=>false) else nhZ o.d.t o.d.x o'.d.t o'.d.x)&&nmZ Z r r'
 | _,_=>false
def mCZ (Z:List Key) (W:List Nat) (s0 s:St):Bool:=mYZ W 0 s0.env s.env&&nmZ Z s0.heap s.heap
def qTZ (Z:List Key):adZ→adZ→List Prop
 | (k,o)::r,(_,o')::r'=>bif Z.contains k then (match decEq o'.d.t o.d.t with | .isTrue h=>o.d.x=h ▸ o'.d.x | .isFalse _=>False)::qTZ Z r r' else qTZ Z r r'
 | _,_=>[]
def t1Z:List Prop→Prop
 | []=>True
 | p::l=>match l with
  | []=>p
  | _::_=>p∧t1Z l
theorem n9Z:∀ {l:List Prop},t1Z l→Holds l
 | [],_=>trivial
 | [p],h=>⟨h,trivial⟩
 | p::q::l,h=>⟨h.1,n9Z (l:=q::l) h.2⟩
def rTZ (l:List Prop) (k:Prop):Prop:=match l with
 | []=>k
 | p::l=>Need (t1Z (p::l))∧k
theorem lGZ {l:List Prop} {k:Prop} (h:rTZ l k):Holds l∧k:=by
 cases l with
 | nil=>exact ⟨trivial,h⟩
 | cons p l=>exact ⟨n9Z h.1.out,h.2⟩
theorem cRZ:∀ (t:Ty) (x y:den t) (r:List Dat),eUZ t x y=true→dtZ t x (biZ t y++r)=some (y,r)
 | .pair a b,x,y,r,h=>by
  simp only [eUZ,Bool.and_eq_true] at h
  simp only [biZ,dtZ,List.append_assoc,cRZ a _ _ _ h.1,Option.bind_some,cRZ b _ _ _ h.2,Option.map_some]
 | .unit,x,y,r,h=>rfl
 | .ref,x,y,r,h=>by
  simp only [eUZ,decide_eq_true_eq] at h
  simp only [biZ,dtZ,List.nil_append,h]
 | .wref,x,y,r,h=>by
  simp only [eUZ,decide_eq_true_eq] at h
  simp only [biZ,dtZ,List.nil_append,h]
 | .mref _ _,x,y,r,h=>by
  simp only [eUZ,decide_eq_true_eq] at h
  simp only [biZ,dtZ,List.nil_append,h]
 | .fnc,x,y,r,h=>by
  simp only [eUZ,decide_eq_true_eq] at h
  simp only [biZ,dtZ,List.nil_append,h]
 | .sref _,none,none,r,h=>rfl
 | .sref _,some (k,N,lo,len),some (k',N',lo',len'),r,h=>by
  simp only [eUZ,Bool.and_eq_true,decide_eq_true_eq] at h
  obtain ⟨rfl,rfl⟩:=h
  rfl
 | .sref _,none,some _,r,h=>by simp [eUZ] at h
 | .sref _,some _,none,r,h=>by simp [eUZ] at h
 | .mp _ _,x,y,r,h=>by simp [biZ,dtZ]
 | .int _,x,y,r,h=>by simp [biZ,dtZ]
 | .bool,x,y,r,h=>by simp [biZ,dtZ]
 | .str,x,y,r,h=>by simp [biZ,dtZ]
 | .expr,x,y,r,h=>by simp [biZ,dtZ]
 | .slice _,x,y,r,h=>by simp [biZ,dtZ]
 | .arr _ _ _,x,y,r,h=>by simp [biZ,dtZ]
theorem nsZ {t:Ty} (x:den t) (hg:t.grow=false):ipZ t x=biZ t x:=by
 cases t with
 | arr g n u=>cases g with
  | succ _=>cases hg
  | zero=>rfl
 | _=>rfl
theorem pUZ {t:Ty} (x:den t) (l:List Dat) (hg:t.grow=false):pVZ t x l=(dtZ t x l).map fun p=>(⟨t,p.1⟩,p.2):=by
 cases t with
 | arr g n u=>cases g with
  | succ _=>cases hg
  | zero=>rfl
 | _=>rfl
theorem pOZ {t t':Ty} (x:den t) (y:den t') (hg:t.grow=false):nhZ t x t' y=match decEq t' t with | .isTrue h=>eUZ t x (h ▸ y) | .isFalse _=>false:=by
 cases t with
 | arr g n u=>cases g with
  | succ _=>cases hg
  | zero=>rfl
 | _=>rfl
theorem jCZ {t t':Ty} {x:den t} {y:den t'} (r:List Dat) (h:nhZ t x t' y=true) (hv:Holds (urZ t' y)):pVZ t x (ipZ t' y++r)=some (⟨t',y⟩,r):=by
 cases hg:t.grow with
 | false =>
  rw [pOZ x y hg] at h
  split at h
  ·rename_i ht _
   subst ht
   rw [nsZ _ hg,pUZ _ _ hg,cRZ _ _ _ _ h];rfl
  ·cases h
 | true =>
  cases t with
  | arr g n u =>
   cases g with
   | zero=>cases hg
   | succ g =>
    cases t' with
    | arr g' n' u' =>
     cases g' with
     | succ g' =>
      simp only [nhZ,decide_eq_true_eq] at h
      subst h
      simp only [urZ,Holds] at hv
      simp only [pVZ,ipZ,List.cons_append,List.nil_append,dite_true,Int.toNat_natCast]
      rw [hv.1]
     | zero =>
      simp only [nhZ] at h
      split at h
      ·rename_i ht _;cases ht
      ·cases h
    | _ =>
     simp only [nhZ] at h
     split at h
     ·rename_i ht _;cases ht
     ·cases h
  | _=>cases hg
theorem mTZ {a0 a:AV} (r:List Dat) (h:szZ a0 a=true):r5Z a0 (kvZ a++r)=some (a,r):=by
 unfold szZ at h
 split at h
 ·simp only [Bool.and_eq_true,decide_eq_true_eq] at h
  obtain ⟨h1,h2⟩:=h
  split at h2
  ·rename_i ht _
   subst ht;subst h1
   simp only [r5Z,kvZ,cRZ _ _ _ _ h2,Option.map_some]
  ·cases h2
 ·rfl
 ·rfl
 ·simp only [Bool.and_eq_true,decide_eq_true_eq] at h
  obtain ⟨rfl,rfl⟩:=h
  rfl
 ·cases h
theorem neZ {a0 a:AV} (hk:a=a0∨a=a0.drop∨a=.any) (h:qoZ a0 a=true):a=a0:=by
 rcases hk with hk | hk | hk
 ·exact hk
 ·cases a0 with
  | tv own t x =>
   subst hk
   simp only [qoZ,AV.drop,decide_eq_true_eq] at h
   rw [← h];rfl
  | _=>exact hk
 ·subst hk
  simp only [qoZ] at h
  split at h
  ·rfl
  ·cases h
theorem hWZ {W:List Nat}:∀ (i:Nat) (e0 e:List AV) (r:List Dat),(∀ j,(i+j) ∉ W→e.getD j .any=e0.getD j .any∨e.getD j .any=(e0.getD j .any).drop∨e.getD j .any=.any)→mYZ W i e0 e=true→iFZ W i e0 (e7Z W i e++r)=some (e,r)
 | i,[],[],r,_,_=>rfl
 | i,a0::r0,a::r',r,hk,h=>by
  simp only [mYZ,Bool.and_eq_true] at h
  obtain ⟨h1,h2⟩:=h
  have ih:=hWZ (i+1) r0 r' r (fun j hj=>by have:=hk (j+1) (by rwa [show i+(j+1)=i+1+j by omega]);simpa only [List.getD_cons_succ] using this) h2
  cases hc:W.contains i with
  | true =>
   rw [hc] at h1
   simp only [e7Z,iFZ,hc,cond_true,List.append_assoc] at h1 ⊢
   simp only [mTZ _ h1,Option.bind_some,ih,Option.map_some]
  | false =>
   rw [hc] at h1
   simp only [e7Z,iFZ,hc,cond_false] at h1 ⊢
   have:=hk 0 (by simpa using hc)
   simp only [List.getD_cons_zero] at this
   simp only [ih,Option.map_some,neZ this h1]
 | i,[],_::_,r,_,h=>by simp [mYZ] at h
 | i,_::_,[],r,_,h=>by simp [mYZ] at h
theorem e5Z {Z:List Key}:∀ (h0 h:adZ) (r:List Dat),nmZ Z h0 h=true→Holds (qTZ Z h0 h)→Holds (sZZ h)→nuZ Z h0 (erZ Z h++r)=some (h,r)
 | [],[],r,_,_,_=>rfl
 | (k,o)::r0,(k',o')::r',r,h,hz,hv=>by
  simp only [nmZ,Bool.and_eq_true,decide_eq_true_eq] at h
  obtain ⟨⟨⟨rfl,h2⟩,h3⟩,h4⟩:=h
  obtain ⟨⟨t,x⟩,own⟩:=o
  obtain ⟨⟨t',x'⟩,own'⟩:=o'
  simp only at h2 h3
  subst h2
  simp only [sZZ,Holds.append] at hv
  cases hc:Z.contains k' with
  | true =>
   rw [hc] at h3
   simp only [cond_true] at h3
   have ht':t'=t:=by
    split at h3
    ·rename_i ht _;exact ht
    ·cases h3
   subst ht'
   simp only [qTZ,hc,cond_true,Holds] at hz
   have hx:x=x':=by
    have:=hz.1
    split at this
    ·exact this
    ·exact this.elim
   simp only [erZ,nuZ,hc,cond_true,e5Z r0 r' r h4 hz.2 hv.2,Option.map_some,hx]
  | false =>
   simp only [qTZ,hc,cond_false] at hz
   rw [hc] at h3
   simp only [cond_false] at h3
   simp only [erZ,nuZ,hc,cond_false,List.append_assoc,jCZ _ h3 hv.1,Option.bind_some,e5Z r0 r' r h4 hz hv.2,Option.map_some]
 | [],_::_,r,h,_,_=>by simp [nmZ] at h
 | _::_,[],r,h,_,_=>by simp [nmZ] at h
theorem hIZ {Z:List Key} {W:List Nat} {s0 s:St} (hk:∀ i,i ∉ W→Kp i s0 s) (h:mCZ Z W s0 s=true) (hz:Holds (qTZ Z s0.heap s.heap)) (hv:Holds (sZZ s.heap)):kKZ Z W s0 (bSZ Z W s)=some s:=by
 simp only [mCZ,Bool.and_eq_true] at h
 have h1:=hWZ 0 s0.env s.env (erZ Z s.heap) (fun j hj=>hk j (by simpa using hj)) h.1
 have h2:=e5Z s0.heap s.heap [] h.2 hz hv
 simp only [List.append_nil] at h2
 simp only [kKZ,bSZ,h1,Option.bind_some,h2]
theorem e4Z {W:List Nat}:∀ (i:Nat) (e0:List AV) (l:List Dat) (q:List AV×List Dat),iFZ W i e0 l=some q→∀ j,(i+j) ∉ W→q.1.getD j .any=e0.getD j .any
 | i,[],l,q,h,j,hj=>by simp only [iFZ,Option.some.injEq] at h;rw [← h]
 | i,a0::r0,l,q,h,j,hj=>by
  simp only [iFZ] at h
  cases hc:W.contains i with
  | true =>
   rw [hc] at h
   simp only [cond_true,Option.bind_eq_some_iff,Option.map_eq_some_iff] at h
   obtain ⟨p,h1,q',h2,rfl⟩:=h
   cases j with
   | zero=>exact absurd (by simpa using hc) hj
   | succ j =>
    simp only [List.getD_cons_succ]
    exact e4Z (i+1) r0 _ _ h2 j (by rwa [show i+1+j=i+(j+1) by omega])
  | false =>
   rw [hc] at h
   simp only [cond_false,Option.map_eq_some_iff] at h
   obtain ⟨q',h2,rfl⟩:=h
   cases j with
   | zero=>rfl
   | succ j =>
    simp only [List.getD_cons_succ]
    exact e4Z (i+1) r0 _ _ h2 j (by rwa [show i+1+j=i+(j+1) by omega])
theorem noZ {Z:List Key} {W:List Nat} {s0 s:St} {l:List Dat} (h:kKZ Z W s0 l=some s) (i:Nat) (hi:i ∉ W):s.get i=s0.get i:=by
 simp only [kKZ,Option.bind_eq_some_iff] at h
 obtain ⟨p,h1,q,h2,h3⟩:=h
 split at h3
 ·cases h3
  exact e4Z 0 s0.env l p h1 i (by simpa using hi)
 ·cases h3
def sHZ:List Ty→List Dat→Bool
 | [],[]=>true
 | t::ts,d::ds=>decide (d.t=t)&&sHZ ts ds
 | _,_=>false
theorem oeZ:∀ {ts:List Ty} {ds:List Dat},sHZ ts ds=true→ds.map Dat.t=ts
 | [],[],_=>rfl
 | t::ts,d::ds,h=>by
  simp only [sHZ,Bool.and_eq_true,decide_eq_true_eq] at h
  rw [List.map_cons,h.1,oeZ h.2]
 | [],_::_,h=>by simp [sHZ] at h
 | _::_,[],h=>by simp [sHZ] at h
abbrev KC:=Ex→Kn→St→Prop
def r3Z (Z:List Key) (W:List Nat) (s0:St) (ds:List Dat) (k:St→Prop):Prop:=match kKZ Z W s0 ds with
 | some s=>dzZ s k
 | none=>False
theorem qtZ {Z:List Key} {W:List Nat} {s0:St} {ds:List Dat} {k:St→Prop} (h:r3Z Z W s0 ds k):∃ s,kKZ Z W s0 ds=some s∧k s:=by
 unfold r3Z at h
 split at h
 ·rename_i s hs;rw [cDZ] at h;exact ⟨s,hs,h⟩
 ·exact h.elim
def tyZ (last:St→Prop) (cut:St→Option St) (Z:List Key) (W:List Nat) (s0:St) (ts:List Ty) (I:sGZ ts Prop) (m:sGZ ts Nat) (ds:List Dat) (s2:St):Prop:=match cut s2 with
 | some s3=>dzZ s3 fun s3=>bif sHZ ts (bSZ Z W s3)&&mCZ Z W s0 s3 then rTZ (qTZ Z s0.heap s3.heap++sZZ s3.heap) (yes (apL ts I (bSZ Z W s3)) (fun p=>p∧uwZ (apL ts m (bSZ Z W s3)) (apL ts m ds))) else last s3
 | none=>False
def rXZ (body:Kn→St→KC→Prop) (cut:St→Option St) (Z:List Key) (W:List Nat) (s:St) (K:KC):Prop:=match cut s with
 | none=>False
 | some s0=>dzZ s0 fun s0=>∃ I:sGZ ((bSZ Z W s0).map Dat.t) Prop,∃ m:sGZ ((bSZ Z W s0).map Dat.t) Nat,bif mCZ Z W s0 s0 then rTZ (sZZ s0.heap) <| yes (apL _ I (bSZ Z W s0)) fun p=>p ∧
  t4Z ((bSZ Z W s0).map Dat.t) fun ds=>yes (apL _ I ds) fun p=>p→r3Z Z W s0 ds fun s1=>body [] s1 fun e kn s2=>match e with
   | .normal=>tyZ (fun s3=>body [] s3 fun e kn s=>match e with
    | .normal=>False
    | .exit id=>K (.exit id) kn s
    | .ret=>K .ret kn s) cut Z W s0 ((bSZ Z W s0).map Dat.t) I m ds s2
   | e=>K e kn s2 else False
def eeZ (P:Program) (O:Orc) (sg:Sig) (f:FuncId):Code→Kn→St→KC→Prop
 | .skip,kn,s,K=>K .normal kn s
 | .region id ops draw,kn,s,K=>if draw&&O.ban f id then gnZ P O sg f id ops (d7Z ops.toList []) (List.range ops.size) [] kn s (K .normal) else jYZ P O sg f id ops draw (List.range ops.size) kn s (K .normal)
 | .seq a b,kn,s,K=>eeZ P O sg f a kn s fun e kn s=>match e with
  | .normal=>eeZ P O sg f b kn s K
  | .exit id=>K (.exit id) kn s
  | .ret=>K .ret kn s
 | .cond c a b,kn,s,K=>brS kn s c fun kn s y=>bif y then eeZ P O sg f a kn s K else eeZ P O sg f b kn s K
 | .block id a,kn,s,K=>eeZ P O sg f a kn s fun e kn s=>match e with
  | .exit id'=>if id'=id then K .normal kn s else K (.exit id') kn s
  | .normal=>K .normal kn s
  | .ret=>K .ret kn s
 | .loop a,_,s,K=>rXZ (eeZ P O sg f a) (bGZ (O.live f (dcZ a))) (sg.fz f) (dkZ a []) s K
 | .exit id,kn,s,K=>K (.exit id) kn s
 | .ret,kn,s,K=>K .ret kn s
 | _,_,_,_=>False
def Big (P:Program) (O:Orc) (f:FuncId) (c:Code) (s:St) (q:Ex×St):Prop:=∃ N,∀ k n,N≤k→N≤n→aIZ O (callF P O k) n f c s=some q
def uNZ (P:Program) (O:Orc) (f:FuncId) (c:Code) (cut:St→Option St) (s:St) (q:Ex×St):Prop:=∃ N,∀ k n j,N≤k→N≤n→N≤j→dvZ (aIZ O (callF P O k) n f c) cut j s=some q
theorem iXZ (Z:List Key):∀ h:adZ,Holds (qTZ Z h h)
 | []=>trivial
 | (k,o)::r=>by
  unfold qTZ
  cases Z.contains k with
  | true =>
   simp only [cond_true,Holds]
   refine ⟨?_,iXZ Z r⟩
   split
   ·first | trivial | rfl
   ·rename_i h _;exact absurd rfl h
  | false=>exact iXZ Z r
theorem ngZ {c:Code} (ih:∀ (kn:Kn) (s:St) (K:KC),eeZ P O sg f c kn s K→∃ e s' kn',Big P O f c s (e,s')∧K e kn' s') {cut:St→Option St} {Z:List Key} {W:List Nat} {K:KC} (hcut:∀ s s0,cut s=some s0→∀ i,Kp i s s0)
  (hW:∀ i,i ∉ W→∀ s q,Big P O f c s q→Kp i s q.2)
  (h:rXZ (eeZ P O sg f c) cut Z W s K):∃ e s' kn',uNZ P O f c cut s (e,s')∧K e kn' s':=by
 unfold rXZ at h
 split at h
 ·exact h.elim
 ·rename_i s0 hs0
  simp only [cDZ] at h
  obtain ⟨I,m,h⟩:=h
  generalize hts:(bSZ Z W s0).map Dat.t=ts at *
  cases hlk:mCZ Z W s0 s0 with
  | false=>rw [hlk] at h;exact h.elim
  | true =>
  rw [hlk] at h
  simp only [cond_true] at h
  obtain ⟨hv0,h⟩:=lGZ h
  have hf:=hIZ (fun i _=>Kp.refl i s0) hlk (iXZ Z s0.heap) hv0
  unfold yes at h
  split at h
  ·rename_i p hp
   obtain ⟨hp1,hall⟩:=h
   have main:∀ (n:Nat) (ds:List Dat) (q:Prop) (b:Nat) (s2 sx:St),apL ts I ds=some q→q→apL ts m ds=some b→b=n→kKZ Z W s0 ds=some s2→ds.map Dat.t=ts→cut sx=some s2→∃ e s' kn',uNZ P O f c cut sx (e,s')∧K e kn' s':=by
    intro n
    induction n using Nat.strongRecOn with
    | _ n IH =>
     intro ds q b s2 sx hI hq hm hb hfs hty hcx
     have h1:=nZZ ds hall hty
     rw [hI] at h1
     simp only at h1
     obtain ⟨s3,hf3,h2⟩:=qtZ (h1 hq)
     rw [hfs] at hf3
     cases hf3
     obtain ⟨e,s',kn',hBig,h3⟩:=ih _ _ _ h2
     have hkp:∀ i,i ∉ W→Kp i s0 s':=fun i hi=>by
      have:=hW i hi _ _ hBig
      have e1:=noZ hfs i hi
      unfold Kp at this ⊢
      rw [← e1];exact this
     obtain ⟨N,hN⟩:=hBig
     cases e with
     | normal =>
      simp only at h3
      unfold tyZ at h3
      split at h3
      ·rename_i s4 hs4
       rw [cDZ] at h3
       cases htb:sHZ ts (bSZ Z W s4)&&mCZ Z W s0 s4 with
       | false =>
        rw [htb] at h3
        simp only [cond_false] at h3
        obtain ⟨e2,s5,kn5,⟨N2,hN2⟩,h5⟩:=ih _ _ _ h3
        cases e2 with
        | normal=>exact h5.elim
        | exit id =>
         refine ⟨.exit id,s5,kn5,⟨max N N2+2,fun k n j hk hn hj=>?_⟩,h5⟩
         obtain ⟨j,rfl⟩:∃ u,j=u+2:=⟨j-2,by omega⟩
         simp only [dvZ,hcx,Option.bind_some,hN k n (by omega) (by omega),hs4,hN2 k n (by omega) (by omega)]
        | ret =>
         refine ⟨.ret,s5,kn5,⟨max N N2+2,fun k n j hk hn hj=>?_⟩,h5⟩
         obtain ⟨j,rfl⟩:∃ u,j=u+2:=⟨j-2,by omega⟩
         simp only [dvZ,hcx,Option.bind_some,hN k n (by omega) (by omega),hs4,hN2 k n (by omega) (by omega)]
       | true =>
        rw [htb] at h3
        simp only [cond_true] at h3
        simp only [Bool.and_eq_true] at htb
        obtain ⟨hz,h3⟩:=lGZ h3
        rw [Holds.append] at hz
        have hf5:=hIZ (fun i hi=>(hkp i hi).trans (hcut _ _ hs4 i)) htb.2 hz.1 hz.2
        unfold yes at h3
        split at h3
        ·rename_i p' hp'
         obtain ⟨hp'',hl⟩:=h3
         unfold uwZ at hl
         split at hl
         ·rename_i a b' ha hb'
          rw [hm] at hb'
          cases hb'
          obtain ⟨e,s'',kn'',⟨N',hN'⟩,h5⟩:=IH a (by have:=hl.out;omega) _ _ _ _ s' hp' hp'' ha rfl hf5 (oeZ htb.1) hs4
          refine ⟨e,s'',kn'',⟨max N N'+1,fun k n j hk hn hj=>?_⟩,h5⟩
          cases j with
          | zero=>omega
          | succ j =>
           simp only [dvZ,hcx,Option.bind_some,hN k n (by omega) (by omega)]
           exact hN' k n j (by omega) (by omega) (by omega)
         ·exact hl.elim
        ·exact h3.elim
      ·exact h3.elim
     | exit id =>
      refine ⟨.exit id,s',kn',⟨N+1,fun k n j hk hn hj=>?_⟩,h3⟩
      cases j with
      | zero=>omega
      | succ j=>simp only [dvZ,hcx,Option.bind_some,hN k n (by omega) (by omega)]
     | ret =>
      refine ⟨.ret,s',kn',⟨N+1,fun k n j hk hn hj=>?_⟩,h3⟩
      cases j with
      | zero=>omega
      | succ j=>simp only [dvZ,hcx,Option.bind_some,hN k n (by omega) (by omega)]
   cases hm:apL ts m (bSZ Z W s0) with
   | none =>
    exfalso
    exact absurd hm (apL_some ts m _ hts)
   | some b=>exact main b (bSZ Z W s0) p b s0 s hp hp1 hm rfl hf hts hs0
  ·exact h.elim
 where
 apL_some {R:Type}:∀ (ts:List Ty) (m:sGZ ts R) (ds:List Dat),ds.map Dat.t=ts→apL ts m ds≠none
  | [],m,[],_=>by simp [apL]
  | t::ts,m,d::ds,e=>by
   simp only [List.map_cons,List.cons.injEq] at e
   obtain ⟨e1,e2⟩:=e
   simp only [apL]
   rw [dif_pos e1]
   exact apL_some ts _ ds e2
  | [],m,_::_,e=>by simp at e
  | _::_,m,[],e=>by simp at e
theorem ddZ:∀ (c:Code) (kn:Kn) (s:St) (K:KC),eeZ P O sg f c kn s K→∃ e s' kn',Big P O f c s (e,s')∧K e kn' s'
 | .skip,kn,s,K,h=>⟨.normal,s,kn,⟨0,fun _ _ _ _=>rfl⟩,h⟩
 | .region id ops draw,kn,s,K,h=>by
  simp only [eeZ] at h
  split at h
  ·rename_i hc
   obtain ⟨s',kn',⟨N,hN⟩,h1⟩:=hZZ _ _ _ _ _ h
   exact ⟨.normal,s',kn',⟨N,fun k n hk hn=>by simp only [aIZ,if_pos hc,hN k hk,Option.bind_some,dPZ]⟩,h1⟩
  ·rename_i hc
   obtain ⟨s',kn',⟨N,hN⟩,h1⟩:=jGZ _ _ _ _ h
   exact ⟨.normal,s',kn',⟨N,fun k n hk hn=>by simp only [aIZ,if_neg hc,hN k hk,Option.bind_some,dPZ]⟩,h1⟩
 | .seq a b,kn,s,K,h=>by
  simp only [eeZ] at h
  obtain ⟨e,s1,kn1,⟨N,hN⟩,h1⟩:=ddZ a _ _ _ h
  cases e with
  | normal =>
   obtain ⟨e,s2,kn2,⟨N',hN'⟩,h2⟩:=ddZ b _ _ _ h1
   exact ⟨e,s2,kn2,⟨max N N',fun k n hk hn=>by simp only [aIZ,hN k n (by omega) (by omega),Option.bind_some,hN' k n (by omega) (by omega)]⟩,h2⟩
  | exit id=>exact ⟨.exit id,s1,kn1,⟨N,fun k n hk hn=>by simp only [aIZ,hN k n hk hn,Option.bind_some]⟩,h1⟩
  | ret=>exact ⟨.ret,s1,kn1,⟨N,fun k n hk hn=>by simp only [aIZ,hN k n hk hn,Option.bind_some]⟩,h1⟩
 | .cond c a b,kn,s,K,h=>by
  simp only [eeZ] at h
  obtain ⟨kn1,y,hy,h1⟩:=ppZ h
  cases y with
  | true =>
   obtain ⟨e,s2,kn2,⟨N',hN'⟩,h2⟩:=ddZ a _ _ _ h1
   exact ⟨e,s2,kn2,⟨N',fun k n hk hn=>by simp only [aIZ,hy,cond_true];exact hN' k n hk hn⟩,h2⟩
  | false =>
   obtain ⟨e,s2,kn2,⟨N',hN'⟩,h2⟩:=ddZ b _ _ _ h1
   exact ⟨e,s2,kn2,⟨N',fun k n hk hn=>by simp only [aIZ,hy,cond_false];exact hN' k n hk hn⟩,h2⟩
 | .block id a,kn,s,K,h=>by
  simp only [eeZ] at h
  obtain ⟨e,s1,kn1,⟨N,hN⟩,h1⟩:=ddZ a _ _ _ h
  cases e with
  | normal=>exact ⟨.normal,s1,kn1,⟨N,fun k n hk hn=>by simp only [aIZ,hN k n hk hn,Option.map_some]⟩,h1⟩
  | exit id' =>
   simp only at h1
   by_cases hid:id'=id
   ·rw [if_pos hid] at h1;exact ⟨.normal,s1,kn1,⟨N,fun k n hk hn=>by simp only [aIZ,hN k n hk hn,Option.map_some,if_pos hid]⟩,h1⟩
   ·rw [if_neg hid] at h1;exact ⟨.exit id',s1,kn1,⟨N,fun k n hk hn=>by simp only [aIZ,hN k n hk hn,Option.map_some,if_neg hid]⟩,h1⟩
  | ret=>exact ⟨.ret,s1,kn1,⟨N,fun k n hk hn=>by simp only [aIZ,hN k n hk hn,Option.map_some]⟩,h1⟩
 | .loop a,kn,s,K,h=>by
  simp only [eeZ] at h
  obtain ⟨e,s1,kn1,⟨N,hN⟩,h1⟩:=ngZ (fun kn s K h=>ddZ a kn s K h) (fun _ _ h _=>eAZ h) (fun i hi s q ⟨N,hN⟩=>b1Z a [] hi s q (hN N N (Nat.le_refl _) (Nat.le_refl _))) h
  exact ⟨e,s1,kn1,⟨N,fun k n hk hn=>by simp only [aIZ];exact hN k n n hk hn hn⟩,h1⟩
 | .exit id,kn,s,K,h=>⟨.exit id,s,kn,⟨0,fun _ _ _ _=>rfl⟩,h⟩
 | .ret,kn,s,K,h=>⟨.ret,s,kn,⟨0,fun _ _ _ _=>rfl⟩,h⟩
 | .label _,kn,s,K,h=>h.elim
 | .goto _,kn,s,K,h=>h.elim
 | .rangeFunc ..,kn,s,K,h=>h.elim
 | .scope _,kn,s,K,h=>h.elim
 | .refuse _,kn,s,K,h=>h.elim
def tXZ (O:Orc) (rs:List ResultVar) (Q:AV→adZ→Prop) (s:St):Prop:=match spZ O s rs with
 | some l=>match o8Z (q4Z l) s.heap with
  | some q=>kjZ q.1 fun a=>aMZ ibZ q.2 fun h=>Q a h
  | none=>False
 | none=>False
def vcF (P:Program) (O:Orc) (sg:Sig) (f:FuncId) (args:List AV) (h:adZ) (Q:AV→adZ→Prop):Prop:=match O.prim f with
 | some g=>match g args with
  | some r=>Q r h
  | none=>False
 | none=>match O.hprim f with
 | some g=>match g args h with
  | some r=>Need (r.1≤awZ)∧Q r.2.1 r.2.2
  | none=>False
 | none=>bif O.fns f then (match P.funcs[f]? with
  | some fn=>match fn.body with
   | some c=>dzZ ⟨args++List.replicate (fn.ntmps-args.length) .no,h⟩ fun s=>eeZ P O sg f c [] s fun e _ s=>match e with
    | .exit _=>False
    | .normal=>tXZ O fn.results.toList Q s
    | .ret=>tXZ O fn.results.toList Q s
   | none=>False
  | none=>False) else False
theorem ruZ {args:List AV} {h:adZ} {Q:AV→adZ→Prop} (hv:vcF P O sg f args h Q):EvF P O f args h Q:=by
 unfold vcF at hv
 split at hv
 ·rename_i g hg
  split at hv
  ·rename_i r hr
   exact ⟨r,h,⟨1,fun k hk=>by cases k with
    | zero=>omega
    | succ k=>simp only [callF,hg,hr,Option.map_some]⟩,hv⟩
  ·exact hv.elim
 ·rename_i hg
  split at hv
  ·rename_i g hg2
   split at hv
   ·rename_i r hr
    obtain ⟨⟨hn⟩,hv⟩:=hv
    exact ⟨r.2.1,r.2.2,⟨1,fun k hk=>by cases k with
     | zero=>omega
     | succ k=>simp only [callF,hg,hg2,hr,Option.bind_some];rw [if_pos hn]⟩,hv⟩
   ·exact hv.elim
  rename_i hg2
  cases hfn:O.fns f with
  | false=>rw [hfn] at hv;exact hv.elim
  | true =>
   rw [hfn] at hv
   simp only [cond_true] at hv
   split at hv
   ·rename_i fn hf
    split at hv
    ·rename_i c hc
     rw [cDZ] at hv
     obtain ⟨e,s1,kn1,⟨N,hN⟩,h1⟩:=ddZ c _ _ _ hv
     have key:(e=.normal∨e=.ret)→tXZ O fn.results.toList Q s1→EvF P O f args h Q:=by
      intro he h1
      unfold tXZ at h1
      split at h1
      ·rename_i l hl
       split at h1
       ·rename_i q hq
        rw [gFZ,a1Z (fun a k=>g7Z a k)] at h1
        refine ⟨_,_,⟨N+1,fun k hk=>?_⟩,h1⟩
        cases k with
        | zero=>omega
        | succ k =>
         simp only [callF,hg,hg2,hfn,Bool.not_true,Bool.false_eq_true,if_false,hf,hc,Option.bind_some,hN k k (by omega) (by omega)]
         rcases he with rfl | rfl <;> simp only [hl,Option.bind_some,hq]
       ·exact h1.elim
      ·exact h1.elim
     cases e with
     | normal=>exact key (.inl rfl) h1
     | ret=>exact key (.inr rfl) h1
     | exit id=>exact h1.elim
    ·exact hv.elim
   ·exact hv.elim
end Go.Am
namespace Go.Am
variable {P:Program} {O:Orc} {c1 c2:aTZ} {draw:Bool} {f:FuncId} {rid i:Nat} {o:Oper} {ops:Array Oper}
end Go.Am
namespace Go.Am
theorem tvE {own:List (List Nat)} {t:Ty} {x y:den t} (h:x=y):AV.tv own t x=AV.tv own t y:=by rw [h]
theorem aaZ {α:Type} {l:List α} {n:Nat} (d:α) (h:n<l.length):l.take (n+1)=l.take n++[l.getD n d]:=by
 rw [List.take_succ_eq_append_getElem h];simp [List.getD,h]
theorem ahZ {α:Type} {l:List α} {n:Nat} (d:α) (h:n<l.length):l.getD n d∈l:=by
 simp [List.getD,h]
theorem aHZ {α:Type} {l:List α} {n:Nat} (d:α) (h:n<l.length):l.drop n=l.getD n d::l.drop (n+1):=by
 rw [List.drop_eq_getElem_cons h];simp [List.getD,h]
end Go.Am
namespace Go.Am
theorem tvI {own:List (List Nat)} {k:IntKind} {x y:Int} (h:x=y):AV.tv own (.int k) x=AV.tv own (.int k) y:=by rw [h]
theorem tvB {own:List (List Nat)} {x y:Bool} (h:x=y):AV.tv own .bool x=AV.tv own .bool y:=by rw [h]
theorem tvS {own:List (List Nat)} {x y:List Int} (h:x=y):AV.tv own .str x=AV.tv own .str y:=by rw [h]
theorem tvX {own:List (List Nat)} {x y:XT} (h:x=y):AV.tv own .expr x=AV.tv own .expr y:=by rw [h]
end Go.Am
namespace Go.Am
end Go.Am
namespace Go.Am
end Go.Am
namespace Go.Am
variable {P:Program} {O:Orc} {w:World} {H:Type} {enc:TypeId×Value→H} {held:Bool}
inductive InX:XT→Prop
 | mk (x:XT) (h1:-9223372036854775808≤x.kind∧x.kind≤9223372036854775807) (h2:-9223372036854775808≤x.num∧x.num≤9223372036854775807) (h3:x.kids.length≤maxLen) (h4:∀ y∈x.kids,InX y):InX x
def InR:(t:Ty)→den t→Prop
 | .int k,x=>(Lit.int k x).wf=true
 | .str,x=>List.length x≤maxLen∧∀ z∈(x:List Int),0≤z∧z<256
 | .slice t,x=>List.length x≤maxLen∧∀ i,i<List.length x→InR t (List.getD x i (zero t))
 | .arr gw n t,x=>∀ i,i<n→InR t (List.getD x i (zero t))
 | .pair a b,x=>InR a x.1∧InR b x.2
 | .expr,x=>InX x
 | _,_=>True
def RdW:(t:Ty)→den t→DataW H→Prop
 | .int k,x,d=>d=.lit (.int k x)
 | .bool,x,d=>d=.lit (.bool x)
 | .str,x,d=>∃ s:List UInt8,d=.lit (.string s)∧x=s.map fun c=>(c.toNat:Int)
 | .arr gw n t,x,d=>∃ ds:List (DataW H),d=.agg ds∧ds.length=n∧∀ i,i<n→∀ e,ds[i]?=some e→RdW t (List.getD x i (zero t)) e
 | _,_,_=>True
def Ty.opn:Ty→Bool
 | .ref | .wref | .mref _ _ | .sref _ | .fnc | .mp _ _=>false
 | .pair a b=>a.opn&&b.opn
 | .arr _ _ t=>t.opn
 | .slice t=>t.opn
 | _=>true
theorem eQZ:∀ (t:Ty),t.opn=true→t.noRef=true
 | .int _,_ | .bool,_ | .str,_ | .unit,_ | .expr,_ | .slice _,_=>rfl
 | .ref,h | .wref,h | .mref _ _,h | .sref _,h | .fnc,h | .mp _ _,h=>by simp [Ty.opn] at h
 | .pair a b,h=>by
  simp [Ty.opn] at h
  simp [Ty.noRef,eQZ a h.1,eQZ b h.2]
 | .arr _ _ t,h=>by simp only [Ty.opn] at h;simp only [Ty.noRef,eQZ t h]
theorem q0Z {n:Int} (h:(Lit.int .i64 n).wf=true):-9223372036854775808≤n∧n≤9223372036854775807:=by
 simpa [Lit.wf,IntKind.min,IntKind.max,IntKind.signed,IntKind.bits] using h
theorem p7Z {n:Int} (h:(Lit.int .u8 n).wf=true):avZ n:=by
 have:0≤n∧n≤255:=by simpa [Lit.wf,IntKind.min,IntKind.max,IntKind.signed,IntKind.bits] using h
 unfold avZ;omega
theorem h3Z (s:ByteArray):agZ (feZ s)=s:=by
 unfold agZ feZ
 obtain ⟨⟨l⟩⟩:=s
 congr 2
 simp only [List.map_map]
 conv=>rhs;rw [← List.map_id l]
 apply List.map_congr_left
 intro c _
 simp
theorem fzZ (s:ByteArray):∀ z∈feZ s,0≤z∧z<256:=by
 intro z hz
 obtain ⟨c,_,rfl⟩:=List.mem_map.1 hz
 exact ⟨by omega,by have:=c.toNat_lt;omega⟩
theorem k0Z (s:ByteArray):(feZ s).length=s.size:=by
 unfold feZ;rw [List.length_map];rfl
theorem hfZ {R:Rl}:∀ (t:Ty) (c:Nat→Value),t.chain=true→(∀ i u,bEZ t i=some u→∃ y:den u,RV R u y (fun j=>c (cJZ t i+j))∧InR u y)→∃ x:den t,RV R t x c∧InR t x
 | .unit,c,_,_=>⟨(),trivial,trivial⟩
 | .pair a b,c,hc,h=>by
  obtain ⟨p,p1,p2⟩:=h 0 a rfl
  obtain ⟨q,q1,q2⟩:=hfZ b (fun j=>c (a.size+j)) (by simpa [Ty.chain] using hc) fun i u hu=>by
   obtain ⟨y,y1,y2⟩:=h (i+1) u hu
   refine ⟨y,?_,y2⟩
   simp only [cJZ] at y1
   simpa [Nat.add_assoc] using y1
  refine ⟨(p,q),⟨?_,q1⟩,p2,q2⟩
  simpa [cJZ] using p1
 | .expr,c,_,h=>by
  obtain ⟨k,k1,k2⟩:=h 0 (.int .i64) rfl
  obtain ⟨n,n1,n2⟩:=h 1 (.int .i64) rfl
  obtain ⟨l,l1,l2⟩:=h 2 (.slice .expr) rfl
  obtain ⟨a,cap,b,off,us,g0,g1,g2,g3,g4,g5⟩:=l1
  have hk:∀ i (h:i<List.length l),List.getD l i (zero .expr)=(l:List XT)[i]:=fun i h=>by simp [List.getD,h]
  refine ⟨XT.mk k n l,.mk k n l c a cap b off us (by simpa [cJZ] using k1.1) (by simpa [cJZ] using n1.1) (by simpa [cJZ] using g0) g1 g2 g3 (fun i hi=>by simpa [Ty.size] using g4 i hi) (fun i hi=>by have:=g5 i hi;rw [hk i hi] at this;exact this),?_⟩
  refine .mk _ (q0Z k2) (q0Z n2) l2.1 fun y hy=>?_
  obtain ⟨i,hi,rfl⟩:=List.mem_iff_getElem.1 hy
  have:=l2.2 i hi
  rw [hk i hi] at this
  exact this
 | .int _,_,h,_=>by simp [Ty.chain] at h
 | .bool,_,h,_=>by simp [Ty.chain] at h
 | .str,_,h,_=>by simp [Ty.chain] at h
 | .ref,_,h,_=>by simp [Ty.chain] at h
 | .wref,_,h,_=>by simp [Ty.chain] at h
 | .slice _,_,h,_=>by simp [Ty.chain] at h
 | .mref _ _,_,h,_=>by simp [Ty.chain] at h
 | .fnc,_,h,_=>by simp [Ty.chain] at h
 | .sref _,_,h,_=>by simp [Ty.chain] at h
 | .mp _ _,_,h,_=>by simp [Ty.chain] at h
 | .arr gw _ _,_,h,_=>by simp [Ty.chain] at h
theorem TyOK.cellsOf {T:TypeId} {t:Ty} (h:TyOK P O T t):P.cellsOf T=t.size:=by
 obtain ⟨i,h1,h2,_⟩:=h.info
 simp [Program.cellsOf,h1,h2]
theorem e6Z {α:Type} (z:α) {p:Nat→α→Prop}:∀ n,(∀ i,i<n→∃ y,p i y)→∃ l:List α,l.length=n∧∀ i,i<n→p i (l.getD i z)
 | 0,_=>⟨[],rfl,fun i h=>by omega⟩
 | n+1,h=>by
  obtain ⟨l,h1,h2⟩:=e6Z z n fun i hi=>h i (by omega)
  obtain ⟨y,hy⟩:=h n (by omega)
  refine ⟨l++[y],by simp [h1],fun i hi=>?_⟩
  rcases Nat.lt_or_ge i n with hl | hl
  ·have:(l++[y]).getD i z=l.getD i z:=by simp [List.getD_eq_getElem?_getD,List.getElem?_append_left (h1 ▸ hl)]
   rw [this];exact h2 i hl
  ·have e:i=n:=by omega
   subst e
   have:(l++[y]).getD i z=y:=by simp [List.getD_eq_getElem?_getD,h1]
   rw [this];exact hy
theorem daZ (hO : OrcOK P O) : ∀ (n : Nat) (T : TypeId) (t : Ty) (cs : List Value) (d : DataW H) (ps : List MemPlace), O.ty T = some t → t.opn = true → DataW.trod enc P w 0 (fun _ => true) held n T cs = some (d, ps) →
    ∃ x:den t,RV (R0 w) t x (fun j=>cs.getD j undef)∧InR t x∧RdW t x d∧cs.length=t.size
  | 0,_,_,_,_,_,_,_,h=>by simp [DataW.trod] at h
  | n+1,T,t,cs,d,ps,hT,hn,h=>by
    have hTy:=hO.ty T t hT
    obtain ⟨D,hD,hU⟩:=hTy.und
    have hsz:=hTy.cellsOf
    have hfine:=hTy.fine
    cases t with
    | int k =>
      simp only [cAZ] at hU
      subst hU
      simp only [DataW.trod,hD] at h
      split at h <;> simp only [Option.some.injEq,TypeDesc.int.injEq,reduceCtorEq] at *
      rename_i k0 k' x e1
      subst e1
      split at h
      · rename_i hc
        obtain ⟨rfl,hw⟩:=hc
        simp only [Option.some.injEq,Prod.mk.injEq] at h
        exact ⟨x,⟨rfl,fun e=>by subst e;exact p7Z hw⟩,hw,h.1.symm,rfl⟩
      · cases h
    | bool =>
      simp only [cAZ] at hU
      subst hU
      simp only [DataW.trod,hD] at h
      split at h <;> simp only [Option.some.injEq,Prod.mk.injEq,reduceCtorEq] at *
      rename_i b _
      exact ⟨b,rfl,trivial,h.1.symm,rfl⟩
    | str =>
      simp only [cAZ] at hU
      subst hU
      simp only [DataW.trod,hD] at h
      split at h <;> simp only [Option.some.injEq,reduceCtorEq] at *
      rename_i s _
      split at h
      · rename_i hs
        simp only [Option.some.injEq,Prod.mk.injEq] at h
        refine ⟨feZ s,⟨by rw [h3Z];rfl,fzZ s⟩,⟨by rw [k0Z];exact hs,fzZ s⟩,⟨s.data.toList,h.1.symm,rfl⟩,rfl⟩
      · cases h
    | ref=>simp [Ty.opn] at hn
    | wref=>simp [Ty.opn] at hn
    | sref _=>simp [Ty.opn] at hn
    | mref _ _=>simp [Ty.opn] at hn
    | fnc=>simp [Ty.opn] at hn
    | mp _ _=>simp [Ty.opn] at hn
    | slice u =>
      obtain ⟨e,rfl,he,hz⟩:=hU
      have hce:=(hO.ty e u he).cellsOf
      simp [Ty.fine] at hfine
      simp [Ty.opn] at hn
      simp only [DataW.trod,hD] at h
      split at h <;> simp only [Option.some.injEq,TypeDesc.slice.injEq,reduceCtorEq] at *
      · simp only [Option.some.injEq,Prod.mk.injEq] at h
        refine ⟨[],⟨none,0,0,0,fun _ _=>undef,rfl,Nat.le_refl _,fun _=>⟨rfl,rfl⟩,fun h=>absurd h (Nat.lt_irrefl 0),fun i h=>absurd h (Nat.not_lt_zero i),fun i h=>absurd h (Nat.not_lt_zero i)⟩,⟨by simp,fun i hi=>absurd hi (Nat.not_lt_zero i)⟩,trivial,rfl⟩
      · rename_i e0 a len cap e1
        subst e1
        split at h
        · rename_i hb
          obtain ⟨_,hlc,hcm⟩:=hb
          simp only [Option.bind_eq_some_iff,Option.map_eq_some_iff] at h
          obtain ⟨elems,hel,rest,_,hd⟩:=h
          have hsp:0<len→a=⟨a.block,a.off,none⟩:=by
            intro h0
            obtain ⟨z,hz1⟩:=mapM_some_get hel 0 h0
            simp only [Option.bind_eq_some_iff] at hz1
            obtain ⟨cs',hc1,hc2⟩:=hz1
            rw [hce] at hc1
            obtain ⟨_,hlen,hcell⟩:=World.cells?_some hc1
            have h1:=hcell 0 (by omega)
            rw [List.getElem?_eq_getElem (by omega)] at h1
            have hs:a.spot=none:=by simpa [Addr.add] using World.cell?_spot h1
            obtain ⟨ab,ao,asp⟩:=a
            simp only at hs
            subst hs;rfl
          have hx:∀ i,i<len→∃ y:den u,(∃ us:Nat→Value,(∀ j,j<u.size→w.cell? ⟨a.block,a.off+i * u.size+j,none⟩=some (us j))∧RV (R0 w) u y us)∧InR u y:=by
            intro i hi
            obtain ⟨z,hz1⟩:=mapM_some_get hel i hi
            simp only [Option.bind_eq_some_iff] at hz1
            obtain ⟨cs',hc1,hc2⟩:=hz1
            obtain ⟨y,y1,y2,_,y4⟩:=daZ hO n e u cs' z.1 z.2 he hn hc2
            rw [hce] at hc1
            obtain ⟨_,hlen,hcell⟩:=World.cells?_some hc1
            refine ⟨y,⟨fun j=>cs'.getD j undef,fun j hj=>?_,y1⟩,y2⟩
            have h1:=hcell j hj
            rw [List.getElem?_eq_getElem (by omega)] at h1
            have h1':w.cell? (((⟨a.block,a.off,none⟩:Addr).add (i * u.size)).add j)=some cs'[j]:=by rw [← hsp (by omega)];exact h1
            simp only [Go.WideShapes.add_plain] at h1'
            rw [h1']
            simp [List.getD,show j<cs'.length by omega]
          obtain ⟨l,hl1,hl2⟩:=e6Z (zero u) len hx
          subst hl1
          obtain ⟨us,hus⟩:∃ us:Nat→Nat→Value,∀ i,i<l.length→(∀ j,j<u.size→w.cell? ⟨a.block,a.off+i * u.size+j,none⟩=some (us i j))∧RV (R0 w) u (l.getD i (zero u)) (us i):=by
            have:∀ i,∃ us:Nat→Value,i<l.length→(∀ j,j<u.size→w.cell? ⟨a.block,a.off+i * u.size+j,none⟩=some (us j))∧RV (R0 w) u (l.getD i (zero u)) us:=by
              intro i
              by_cases hi:i<l.length
              · obtain ⟨⟨us,h1,h2⟩,_⟩:=hl2 i hi;exact ⟨us,fun _=>⟨h1,h2⟩⟩
              · exact ⟨fun _=>undef,fun h=>absurd h hi⟩
            exact ⟨fun i=>Classical.choose (this i),fun i=>Classical.choose_spec (this i)⟩
          refine ⟨l,⟨some a,cap,a.block,a.off,us,rfl,hlc,nofun,fun h0=>by rw [← hsp h0],fun i hi j hj=>⟨(hus i hi).1 j hj,?_⟩,fun i hi=>(hus i hi).2⟩,⟨by omega,fun i hi=>(hl2 i hi).2⟩,trivial,rfl⟩
          have:=(hus i hi).1 j hj
          show a.block<w.heap.size
          unfold World.cell? at this
          rcases Nat.lt_or_ge a.block w.heap.size with h | h
          · exact h
          · simp [Array.getElem?_eq_none h] at this
        · cases h
    | arr gw k u =>
      obtain ⟨e,rfl,he,hz,_⟩:=hU
      have hce:=(hO.ty e u he).cellsOf
      simp [Ty.fine] at hfine
      simp [Ty.opn] at hn
      simp only [DataW.trod,hD] at h
      split at h
      · rename_i hl
        rw [hsz] at hl
        simp only [Option.map_eq_some_iff] at h
        obtain ⟨xs,hxs,hd⟩:=h
        have hlen:=mapM_some_length hxs
        simp only [List.length_range] at hlen
        simp only [Ty.size] at hl
        have hx:∀ i,i<k→∃ y:den u,RV (R0 w) u y (fun j=>cs.getD (i * u.size+j) undef)∧InR u y∧∀ z,xs[i]?=some z→RdW u y z.1:=by
          intro i hi
          obtain ⟨z,hz1⟩:=mapM_some_get hxs i hi
          have hz2:=hz1
          rw [hce] at hz1
          obtain ⟨y,y1,y2,y3,_⟩:=daZ hO n e u _ z.1 z.2 he hn hz1
          refine ⟨y,RV.congr u _ _ _ (fun j hj=>?_) y1,y2,fun z' hz'=>?_⟩
          · simp only [List.getD_eq_getElem?_getD,List.getElem?_take,List.getElem?_drop,if_pos hj]
          · have:=mapM_some_at hxs i hi z' hz'
            rw [this] at hz2
            cases hz2
            exact y3
        obtain ⟨l,hl1,hl2⟩:=e6Z (zero u) k hx
        simp only [Option.some.injEq,Prod.mk.injEq] at hd
        refine ⟨l,⟨hl1,fun i hi=>(hl2 i hi).1⟩,fun i hi=>(hl2 i hi).2.1,⟨xs.map (·.1),hd.1.symm,by simp [hlen],fun i hi e' he'=>?_⟩,by simp only [Ty.size];exact hl⟩
        simp only [List.getElem?_map,Option.map_eq_some_iff] at he'
        obtain ⟨z,hz1,rfl⟩:=he'
        exact (hl2 i hi).2.2 z hz1
      · cases h
    | unit =>
      obtain ⟨fs,rfl,hf,_⟩:=hU
      simp only [DataW.trod,hD] at h
      split at h
      · rename_i hl
        rw [hsz] at hl
        exact ⟨(),trivial,trivial,trivial,hl⟩
      · cases h
    | pair a b =>
      obtain ⟨fs,rfl,hf,hch,_⟩:=hU
      exact struct_case hO hf hch (fun i u hu=>noRef_fld (.pair a b) i u hn hu) hD hsz h (fun T' t' cs' d' ps'=>daZ hO n T' t' cs' d' ps')
    | expr =>
      obtain ⟨fs,rfl,hf,hch,_⟩:=hU
      exact struct_case hO hf hch (fun i u hu=>noRef_fld .expr i u hn hu) hD hsz h (fun T' t' cs' d' ps'=>daZ hO n T' t' cs' d' ps')
  where
  mapM_some_length {α β:Type} {f:α→Option β}:∀ {l:List α} {r:List β},l.mapM f=some r→r.length=l.length
    | [],r,h=>by simp at h;subst h;rfl
    | a::l,r,h=>by
      simp only [List.mapM_cons,Option.pure_def,Option.bind_eq_bind,Option.bind_eq_some_iff] at h
      obtain ⟨b,_,m,hm,e⟩:=h
      cases e
      simp [mapM_some_length hm]
  mapM_get {α β:Type} {f:α→Option β}:∀ {l:List α} {r:List β} (i:Nat) (a:α),l.mapM f=some r→l[i]?=some a→∃ b,f a=some b∧r[i]?=some b
    | [],r,i,a,h,g=>by simp at g
    | x::l,r,0,a,h,g=>by
      simp only [List.mapM_cons,Option.pure_def,Option.bind_eq_bind,Option.bind_eq_some_iff] at h
      obtain ⟨b,hb,m,hm,e⟩:=h
      cases e
      simp at g
      subst g
      exact ⟨b,hb,rfl⟩
    | x::l,r,i+1,a,h,g=>by
      simp only [List.mapM_cons,Option.pure_def,Option.bind_eq_bind,Option.bind_eq_some_iff] at h
      obtain ⟨b,hb,m,hm,e⟩:=h
      cases e
      exact mapM_get i a hm (by simpa using g)
  mapM_some_get {β:Type} {f:Nat→Option β} {n:Nat} {r:List β} (h:(List.range n).mapM f=some r) (i:Nat) (hi:i<n):∃ b,f i=some b:=by
    obtain ⟨b,hb,_⟩:=mapM_get i i h (by simp [hi])
    exact ⟨b,hb⟩
  mapM_some_at {β:Type} {f:Nat→Option β} {n:Nat} {r:List β} (h:(List.range n).mapM f=some r) (i:Nat) (hi:i<n) (b:β) (hb:r[i]?=some b):f i=some b:=by
    obtain ⟨b',h1,h2⟩:=mapM_get i i h (by simp [hi])
    rw [hb] at h2;cases h2;exact h1
  noRef_fld:∀ (t:Ty) (i:Nat) (u:Ty),t.opn=true→bEZ t i=some u→u.opn=true
    | .pair a b,0,u,h,e=>by simp [Ty.opn] at h;simp only [bEZ,Option.some.injEq] at e;subst e;exact h.1
    | .pair a b,i+1,u,h,e=>by simp [Ty.opn] at h;simp only [bEZ] at e;exact noRef_fld b i u h.2 e
    | .expr,0,u,h,e=>by simp [bEZ] at e;subst e;rfl
    | .expr,1,u,h,e=>by simp [bEZ] at e;subst e;rfl
    | .expr,2,u,h,e=>by simp [bEZ] at e;subst e;rfl
    | .expr,i+3,u,h,e=>by simp [bEZ] at e
    | .int _,_,u,h,e=>by simp [bEZ] at e
    | .bool,_,u,h,e=>by simp [bEZ] at e
    | .str,_,u,h,e=>by simp [bEZ] at e
    | .unit,_,u,h,e=>by simp [bEZ] at e
    | .ref,_,u,h,e=>by simp [bEZ] at e
    | .wref,_,u,h,e=>by simp [bEZ] at e
    | .slice _,_,u,h,e=>by simp [bEZ] at e
    | .arr gw _ _,_,u,h,e=>by simp [bEZ] at e
  struct_case (hO : OrcOK P O) {n : Nat} {T : TypeId} {t : Ty} {fs : Array Field} {cs : List Value} {d : DataW H} {ps : List MemPlace} (hf : diZ O t fs) (hch : t.chain = true) (hnr : ∀ i u, bEZ t i = some u → u.opn = true) (hD : P.underlying T = some (.struct fs)) (hsz : P.cellsOf T = t.size)
      (h:DataW.trod enc P w 0 (fun _=>true) held (n+1) T cs=some (d,ps)) (ih:∀ (T':TypeId) (t':Ty) (cs':List Value) (d':DataW H) (ps':List MemPlace),O.ty T'=some t'→t'.opn=true→DataW.trod enc P w 0 (fun _=>true) held n T' cs'=some (d',ps')→∃ x:den t',RV (R0 w) t' x (fun j=>cs'.getD j undef)∧InR t' x∧RdW t' x d'∧cs'.length=t'.size) :
      ∃ x:den t,RV (R0 w) t x (fun j=>cs.getD j undef)∧InR t x∧RdW t x d∧cs.length=t.size:=by
    simp only [DataW.trod,hD] at h
    split at h
    · rename_i hl
      rw [hsz] at hl
      simp only [Option.map_eq_some_iff] at h
      obtain ⟨xs,hxs,hd⟩:=h
      obtain ⟨x,x1,x2⟩:=hfZ (R:=R0 w) t (fun j=>cs.getD j undef) hch fun i u hu=>by
        cases hfi:fs[i]? with
        | none=>rw [hf.2 i hfi] at hu;cases hu
        | some f =>
          obtain ⟨u',g1,g2,g3,_⟩:=hf.1 i f hfi
          rw [hu] at g1
          cases g1
          obtain ⟨z,hz,_⟩:=mapM_get i f hxs (by simpa using hfi)
          have hce:=(hO.ty _ _ g2).cellsOf
          rw [hce,g3] at hz
          obtain ⟨y,y1,y2,_⟩:=ih f.type u _ z.1 z.2 g2 (hnr i u hu) hz
          refine ⟨y,RV.congr u _ _ _ (fun j hj=>?_) y1,y2⟩
          simp only [List.getD_eq_getElem?_getD,List.getElem?_take,List.getElem?_drop,if_pos hj]
      refine ⟨x,x1,x2,?_,hl⟩
      cases t <;> first | trivial | (simp [Ty.chain] at hch)
    · cases h
end Go.Am
namespace Go.Am
variable {P:Program} {O:Orc} {w:World} {H:Type} {enc:TypeId×Value→H} {held:Bool}
theorem npZ {T:TypeId} {t:Ty} (hTy:TyOK P O T t) (ha:t.agg=false) {r:Reach} {base:Nat} {v:Value} (hn:t.opn=true) (h:Value.okWide P w r base T v):v.cells=#[v]:=by
 obtain ⟨D,hD,hU⟩:=hTy.und
 cases t with
 | int k =>
  simp only [cAZ] at hU;subst hU
  simp only [Value.okWide,hD,Cell.okWide,Cell.ok] at h
  cases v <;> first | rfl | (simp at h)
 | bool =>
  simp only [cAZ] at hU;subst hU
  simp only [Value.okWide,hD,Cell.okWide,Cell.ok] at h
  cases v <;> first | rfl | (simp at h)
 | str =>
  simp only [cAZ] at hU;subst hU
  simp only [Value.okWide,hD,Cell.okWide,Cell.ok] at h
  cases v <;> first | rfl | (simp at h)
 | slice u =>
  obtain ⟨e,rfl,_⟩:=hU
  simp only [Value.okWide,hD,Cell.okWide,Cell.ok] at h
  cases v <;> first | rfl | (simp at h)
 | ref=>simp [Ty.opn] at hn
 | wref=>simp [Ty.opn] at hn
 | sref _=>simp [Ty.opn] at hn
 | mref _ _=>simp [Ty.opn] at hn
 | fnc=>simp [Ty.opn] at hn
 | mp _ _=>simp [Ty.opn] at hn
 | _=>simp [Ty.agg] at ha
theorem mOZ {T:TypeId} {t:Ty} (hTy:TyOK P O T t) (ha:t.agg=true) {r:Reach} {base:Nat} {v:Value} (h:Value.okWide P w r base T v):∃ cs,v=.agg cs:=by
 obtain ⟨D,hD,hU⟩:=hTy.und
 cases t with
 | unit=>obtain ⟨fs,rfl,_⟩:=hU;simp only [Value.okWide,hD] at h;obtain ⟨cs,h,_⟩:=h;exact ⟨cs,h⟩
 | pair a b=>obtain ⟨fs,rfl,_⟩:=hU;simp only [Value.okWide,hD] at h;obtain ⟨cs,h,_⟩:=h;exact ⟨cs,h⟩
 | expr=>obtain ⟨fs,rfl,_⟩:=hU;simp only [Value.okWide,hD] at h;obtain ⟨cs,h,_⟩:=h;exact ⟨cs,h⟩
 | arr n u=>obtain ⟨e,rfl,_⟩:=hU;simp only [Value.okWide,hD] at h;obtain ⟨cs,h,_⟩:=h;exact ⟨cs,h⟩
 | _=>simp [Ty.agg] at ha
theorem p0Z (hO:OrcOK P O) {T:TypeId} {t:Ty} {r:Reach} {base:Nat} {v:Value} {d:DataW H} {ps:List MemPlace} (hT:O.ty T=some t) (hn:t.opn=true) (hval:Value.okWide P w r base T v) (h:DataW.Trod enc P w 0 (fun _=>true) true T v d ps) :
  ∃ x:den t,VR (R0 w) O (.tv [] t x) v∧InR t x:=by
 obtain ⟨n,h⟩:=h
 obtain ⟨x,h1,h2,_,h4⟩:=daZ hO n T t _ d ps hT hn h
 have hTy:=hO.ty T t hT
 refine ⟨x,?_,h2⟩
 simp only [VR]
 refine ⟨hTy.fine,fun ha=>mOZ hTy ha hval,fun ha=>npZ hTy ha hn hval,by simpa using h4,?_⟩
 refine RV.congr t _ _ _ (fun j _=>?_) h1
 simp [abZ,List.getD_eq_getElem?_getD,Array.getD_eq_getD_getElem?]
def ofW:(t:Ty)→DataW H→Option (den t)
 | .int k,.lit (.int k' x)=>if k'=k then some x else none
 | .bool,.lit (.bool x)=>some x
 | .str,.lit (.string s)=>some (s.map fun c=>(c.toNat:Int))
 | .arr gw n t,.agg ds=>if ds.length=n then ds.mapM (ofW t) else none
 | _,_=>none
theorem jyZ {α β:Type} {f:α→Option β}:∀ {l:List α} {r:List β},l.mapM f=some r→r.length=l.length∧∀ (i:Nat) (a:α),l[i]?=some a→∃ b,f a=some b∧r[i]?=some b
 | [],r,h=>by simp at h;subst h;exact ⟨rfl,fun i a g=>by simp at g⟩
 | x::l,r,h=>by
  simp only [List.mapM_cons,Option.pure_def,Option.bind_eq_bind,Option.bind_eq_some_iff] at h
  obtain ⟨b,hb,m,hm,e⟩:=h
  cases e
  obtain ⟨h1,h2⟩:=jyZ hm
  refine ⟨by simp [h1],fun i a g=>?_⟩
  cases i with
  | zero=>simp at g;subst g;exact ⟨b,hb,rfl⟩
  | succ i=>exact h2 i a (by simpa using g)
theorem raZ {R:Rl}:∀ (t:Ty) (x y:den t) (d:DataW H) (c:Nat→Value),RdW t x d→RV R t x c→ofW t d=some y→x=y
 | .int k,x,y,d,c,h,_,e=>by
  simp only [RdW] at h
  subst h
  simp only [ofW,if_true,Option.some.injEq] at e
  exact e
 | .bool,x,y,d,c,h,_,e=>by
  simp only [RdW] at h
  subst h
  simp only [ofW,Option.some.injEq] at e
  exact e
 | .str,x,y,d,c,h,_,e=>by
  obtain ⟨s,rfl,rfl⟩:=h
  simp only [ofW,Option.some.injEq] at e
  exact e
 | .arr gw n t,x,y,d,c,h,hv,e=>by
  obtain ⟨ds,rfl,h1,h2⟩:=h
  simp only [ofW,h1,if_true] at e
  obtain ⟨g1,g2⟩:=jyZ e
  obtain ⟨v1,v2⟩:=hv
  refine List.ext_getElem (by rw [v1,g1,h1]) fun i hx hy=>?_
  have hi:i<n:=by rw [← v1];exact hx
  have hd:ds[i]?=some (ds[i]'(by omega)):=List.getElem?_eq_getElem _
  obtain ⟨b,b1,b2⟩:=g2 i _ hd
  have e1:List.getD x i (zero t)=(x:List (den t))[i]:=by simp [List.getD,hx]
  have:=raZ t _ b _ _ (h2 i hi _ hd) (v2 i hi) b1
  rw [e1] at this
  rw [this]
  rw [List.getElem?_eq_getElem hy] at b2
  exact (Option.some.inj b2).symm
 | .unit,_,_,d,_,_,_,e=>by simp [ofW] at e
 | .ref,_,_,d,_,_,_,e=>by simp [ofW] at e
 | .wref,_,_,d,_,_,_,e=>by simp [ofW] at e
 | .expr,_,_,d,_,_,_,e=>by simp [ofW] at e
 | .slice _,_,_,d,_,_,_,e=>by simp [ofW] at e
 | .mref _ _,_,_,d,_,_,_,e=>by simp [ofW] at e
 | .fnc,_,_,d,_,_,_,e=>by simp [ofW] at e
 | .sref _,_,_,d,_,_,_,e=>by simp [ofW] at e
 | .mp _ _,_,_,d,_,_,_,e=>by simp [ofW] at e
 | .pair _ _,_,_,d,_,_,_,e=>by simp [ofW] at e
theorem khZ (hO:OrcOK P O) {T:TypeId} {t:Ty} {g n:Nat} {cs:Array Value} {d:DataW H} {ps:List MemPlace} {x:den t} (hT:O.ty T=some t) (hn:t.opn=true) (hc:∀ j,w.cell? ⟨g,j,none⟩=cs[j]?)
  (h:DataW.trod enc P w 0 (fun _=>true) held n T cs.toList=some (d,ps)) (hx:ofW t d=some x):t.noRef=true∧t.fine=true∧∃ us,At (R0 w) g 0 t.size us∧RV (R0 w) t x us:=by
 obtain ⟨y,h1,h2,h3,h4⟩:=daZ hO n T t _ d ps hT hn h
 have:=raZ t y x d _ h3 h1 hx
 subst this
 refine ⟨eQZ _ hn,(hO.ty T t hT).fine,_,fun j hj=>?_,h1⟩
 have hj':j<cs.size:=by rw [← h4] at hj;simpa using hj
 have e:w.cell? ⟨g,j,none⟩=some cs[j]:=by rw [hc,Array.getElem?_eq_getElem hj']
 refine ⟨by simp [R0,hc,List.getD_eq_getElem?_getD,hj'],?_⟩
 rw [Nat.zero_add]
 exact World.block_lt_of_cell? w ⟨g,j,none⟩ e
end Go.Am
namespace Go.Am
open Go.ChangeShapes Go.WideShapes Go.ChangeAt Go.RowKit
theorem eDZ {H:Type} {enc:TypeId×Value→H} {P:Program} (hl:laidOutB P=true) {W W':World} (hb:Below W.heap.size W W') :
  ∀ (ts:List TypeId) (vs:List Value) (ds:List (DataW H)) (ps:List MemPlace),(∀ t∈ts,P.readableRec t=true∧t<P.types.size) →
   DataW.TrodAll enc P W 0 (fun _=>true) true ts vs ds ps→(∀ x∈ps,x.block<W.heap.size) →
   DataW.TrodAll enc P W' 0 (fun b=>decide (b<W.heap.size)) true ts vs ds ps
 | [],[],[],_,_,h,_=>h
 | t::ts,v::vs,d::ds,ps,hr,h,hlt=>by
  obtain ⟨p,q,h1,h2,rfl⟩:=h
  have hlt1:∀ x∈p,x.block<W.heap.size:=fun x hx=>hlt x (List.mem_append.2 (.inl hx))
  have hlt2:∀ x∈q,x.block<W.heap.size:=fun x hx=>hlt x (List.mem_append.2 (.inr hx))
  exact ⟨p,q,Below.trod hl (hr t (List.mem_cons_self ..)).1 (hr t (List.mem_cons_self ..)).2 h1 hb hlt1,
   eDZ hl hb ts vs ds q (fun t ht=>hr t (List.mem_cons_of_mem _ ht)) h2 hlt2,rfl⟩
 | [],_::_,_,_,_,h,_=>by cases h
 | [],[],_::_,_,_,h,_=>by cases h
 | _::_,[],_,_,_,h,_=>by cases h
 | _::_,_::_,[],_,_,h,_=>by cases h
theorem pMZ {H:Type} {enc:TypeId×Value→H} {P:Program} (hl:laidOutB P=true) {f:Func} {s:ChangeSpec} {tb:TypeId} (htb:P.underlying tb=some .bool) (hres:f.resultTypes=#[tb])
  (hv:s.vars=[]) (hr:∀ t∈f.params.toList,P.readableRec t=true∧t<P.types.size) {W W':World} {args:Array Value} {ds gs:List (DataW H)} {before:List MemPlace}
  (hW:DataW.Whole enc P f.params.toList s.vars false W args.toList ds gs before)
  (hs:s.fn H (ds++gs)={ results:=[.lit (.bool true)],args:=ds }) (hb:Below W.heap.size W W') :
  s.post enc P f false true false false W args (.bool true) W':=by
 have hW0:=hW
 obtain ⟨p,q,hA,hV,rfl,_,_⟩:=hW
 have hlt:∀ x∈p,x.block<W.heap.size:=fun x hx=>hW0.lt x (List.mem_append.2 (.inl hx))
 refine ⟨ds,gs,p++q,[],p,[],hW0,?_,?_,?_,hb.frame _,fun h=>by cases h⟩
 ·rw [hs,hres]
  exact ⟨[],[],shut_bool htb true,rfl,rfl⟩
 ·rw [hs]
  exact eDZ hl hb _ _ _ _ hr hA hlt
 ·rw [hs,hv]
  exact rfl
def ArgsAre (P:Program) (O:Orc) (W:World):List TypeId→List Value→List AV→Prop
 | [],[],[]=>True
 | T::ts,v::vs,a::l=>(∃ t x,O.ty T=some t∧a=.tv [] t x∧InR t x∧VR (R0 W) O a v)∧ArgsAre P O W ts vs l
 | _,_,_=>False
theorem kgZ {H:Type} {enc:TypeId×Value→H} {P:Program} {O:Orc} {W:World} (hO:OrcOK P O):∀ (ts:List TypeId) (vs:List Value) (ds:List (DataW H)) (ps:List MemPlace),(∀ T∈ts,∃ t,O.ty T=some t∧t.opn=true) →
  (∀ (j:Nat) t v,ts[j]?=some t→vs[j]?=some v→∃ base r,Value.okWide P W r base t v)→DataW.TrodAll enc P W 0 (fun _=>true) true ts vs ds ps→∃ l,ArgsAre P O W ts vs l∧ds.length=ts.length
 | [],[],[],_,_,_,_=>⟨[],trivial,rfl⟩
 | T::ts,v::vs,d::ds,ps,hn,hv,h=>by
  obtain ⟨p,q,h1,h2,rfl⟩:=h
  obtain ⟨t,ht,hnr⟩:=hn T (List.mem_cons_self ..)
  obtain ⟨base,r,hok⟩:=hv 0 T v rfl rfl
  obtain ⟨x,hx,hi⟩:=p0Z hO ht hnr hok h1
  obtain ⟨l,hl,hd⟩:=kgZ hO ts vs ds q (fun T hT=>hn T (List.mem_cons_of_mem _ hT)) (fun j t v h1 h2=>hv (j+1) t v (by simpa using h1) (by simpa using h2)) h2
  exact ⟨_::l,⟨⟨t,x,ht,rfl,hi,hx⟩,hl⟩,by simp [hd]⟩
 | [],_::_,_,_,_,_,h=>by cases h
 | [],[],_::_,_,_,_,h=>by cases h
 | _::_,[],_,_,_,_,h=>by cases h
 | _::_,_::_,[],_,_,_,h=>by cases h
theorem ArgsAre.vrl {P:Program} {O:Orc} {W:World}:∀ {ts:List TypeId} {vs:List Value} {l:List AV},ArgsAre P O W ts vs l→VRL (R0 W) O l vs∧(∀ a∈l,a.own=[])∧l.length=vs.length
 | [],[],[],_=>⟨rfl,nofun,rfl⟩
 | _::ts,v::vs,a::l,h=>by
  obtain ⟨⟨t,x,_,ha,_,hv⟩,h2⟩:=h
  obtain ⟨g1,g2,g3⟩:=h2.vrl
  refine ⟨by simp only [VRL];exact ⟨v,vs,rfl,hv,g1⟩,fun b hb=>?_,by simp [g3]⟩
  rcases List.mem_cons.1 hb with rfl | hb
  ·rw [ha];rfl
  ·exact g2 b hb
 | [],[],_::_,h=>by cases h
 | [],_::_,_,h=>by cases h
 | _::_,[],_,h=>by cases h
 | _::_,_::_,[],h=>by cases h
theorem ArgsAre.cons {P:Program} {O:Orc} {W:World} {T:TypeId} {ts:List TypeId} {vs:List Value} {l:List AV} (h:ArgsAre P O W (T::ts) vs l):∃ t x l' vs',O.ty T=some t∧l=.tv [] t x::l'∧InR t x∧ArgsAre P O W ts vs' l':=by
 match vs,l,h with
 | v::vs,a::l,⟨⟨t,x,ht,ha,hi,_⟩,h2⟩=>exact ⟨t,x,l,vs,ht,by rw [ha],hi,h2⟩
theorem ArgsAre.nil {P:Program} {O:Orc} {W:World} {vs:List Value} {l:List AV} (h:ArgsAre P O W [] vs l):l=[]:=by
 match vs,l,h with
 | [],[],_=>rfl
theorem row_contract {H:Type} {enc:TypeId×Value→H} {P:Program} {O:Orc} (hP:ProgOK P O) (hl:laidOutB P=true) {f:FuncId} {fn:Func} {s:ChangeSpec} {tb:TypeId} (htb:P.underlying tb=some .bool) (hres:fn.resultTypes=#[tb])
  (hv:s.vars=[]) (hr:∀ t∈fn.params.toList,P.readableRec t=true∧t<P.types.size) (hts:∀ T∈fn.params.toList,∃ t,O.ty T=some t∧t.opn=true)
  (hfn:∀ ds:List (DataW H),ds.length=fn.params.size→s.fn H ds={ results:=[.lit (.bool true)],args:=ds })
  (hall:∀ (W:World) (vs:List Value) (l:List AV),ArgsAre P O W fn.params.toList vs l→∃ k own h',callF P O k f l []=some (.tv own .bool true,h'))
  (W:World) (base:Nat) (args:Array Value) (ds gs:List (DataW H)) (before:List MemPlace) (hg:pAZ O W)
  (hval:∀ (j:Nat) t v,fn.params[j]?=some t→args[j]?=some v→Value.okWide P W .any base t v)
  (hW:DataW.Whole enc P fn.params.toList s.vars false W args.toList ds gs before) :
  Calls P f args W fun e W'=>∃ v,e=.returned v∧s.post enc P fn false true false false W args v W':=by
 have hW':=hW
 obtain ⟨p,q,hA,hV,rfl,hfz,hnd⟩:=hW
 rw [hv] at hV
 obtain ⟨l,hl1,hd⟩:=kgZ hP.orc _ _ _ _ hts (fun j t v h1 h2=>⟨base,.any,hval j t v (by simpa using h1) (by simpa using h2)⟩) hA
 obtain ⟨g1,g2,g3⟩:=hl1.vrl
 obtain ⟨k,own,h',he⟩:=hall W _ l hl1
 have hgs:gs=[]:=by
  cases gs with
  | nil=>rfl
  | cons g r=>exact absurd hV (by intro h;cases h)
 subst hgs
 refine (nKZ hP (by rw [g3];simp) g1 g2 hg he).mono fun e W' h=>?_
 obtain ⟨he',hb⟩:=h
 exact ⟨_,he',pMZ hl htb hres hv hr hW' (by rw [List.append_nil];exact hfn ds (by simpa using hd)) hb⟩
end Go.Am
namespace Go.Am.Pr
def idxB:List Int→Int→Int
 | [],_=>-1
 | a::l,c=>if a=c then 0 else if idxB l c<0 then -1 else idxB l c+1
def cntB:List Int→Int→Int
 | [],_=>0
 | a::l,c=>if a=c then cntB l c+1 else cntB l c
end Go.Am.Pr
namespace Go.Am
open Go.Am.Pr
def iAZ:List AV→Option AV
 | [.tv _ .str l,.tv _ (.int .u8) c]=>some (.tv [] (.int .i64) (idxB l c))
 | _=>none
def dZZ:List AV→Option AV
 | [.tv _ (.slice .str) l,.tv _ .str sep]=>if List.length (l:List (List Int))≤awZ∧List.length (List.intercalate (sep:List Int) (l:List (List Int)))≤140737488355328 then some (.tv [] .str (List.intercalate (sep:List Int) (l:List (List Int)))) else none
 | _=>none
theorem toZ {t:Ty} {a:AV} {x:den t} (h:asT t a=some x):∃ own,a=.tv own t x:=by
 unfold asT at h
 split at h
 ·split at h
  ·rename_i e
   subst e
   cases h
   exact ⟨_,rfl⟩
  ·cases h
 ·cases h
theorem poZ {P:Program} {O:Orc} {f:FuncId} {g:List AV→Option AV} {args:List AV} {r:AV} (h:adZ) (hp:O.prim f=some g) (hr:g args=some r):Ev P O f args h r h :=
 ⟨1,fun k hk=>by
  cases k with
  | zero=>omega
  | succ k=>simp only [callF,hp,hr,Option.map_some]⟩
def iTZ:List AV→Option AV
 | [.tv _ .str l,.tv _ .str m]=>match m with
  | [c]=>some (.tv [] (.int .i64) (cntB l c))
  | _=>none
 | _=>none
end Go.Am
namespace Go.Am
variable {P:Program} {O:Orc} {FB:Nat→Nat→Prop} {w:World} {ι:Key→Nat}
theorem jPZ {f:FuncId} {vs:Array Value} {h:adZ} {args:List AV} {r:AV} {v:Value} (H:Rel O FB w ⟨args,h⟩ (aCZ vs) ι) (c:Calls P f vs w fun e w'=>e=.returned v∧w'=w) (hr:VR (alZ w FB ⟨args,h⟩ (aCZ vs) ι) O r v) (ho:r.own=[]) :
  Calls P f vs w fun e w'=>∃ v ι',e=.returned v∧Goes O FB w ⟨args,h⟩ (aCZ vs) ι w' ⟨[r],h⟩ (fun _=>v) ι' :=
 c.mono fun e w' hq=>by
  obtain ⟨rfl,rfl⟩:=hq
  exact ⟨v,ι,rfl,H.ends hr (.inr ho)⟩
open Go.Am.Pr
theorem l7Z:∀ (x:List Int) (c:Int),(∀ z∈x,avZ z)→avZ c→idxB x c=Lib.indexByte (x.map fun z=>z.toNat.toUInt8) c.toNat.toUInt8
 | [],_,_,_=>rfl
 | a::l,c,h,hc=>by
  have ha:=h a (List.mem_cons_self ..)
  have ih:=l7Z l c (fun z hz=>h z (List.mem_cons_of_mem _ hz)) hc
  have e:(a.toNat.toUInt8 == c.toNat.toUInt8)=decide (a=c):=by
   unfold avZ at ha hc
   rw [Bool.eq_iff_iff]
   simp only [beq_iff_eq,decide_eq_true_eq]
   constructor
   ·intro h
    have:=congrArg UInt8.toNat h
    simp only [Nat.toUInt8,UInt8.toNat_ofNat'] at this
    omega
   ·rintro rfl;rfl
  have hge:=Lib.indexByte_ge (l.map fun z=>z.toNat.toUInt8) c.toNat.toUInt8
  simp only [idxB,List.map_cons,Lib.indexByte,e,ih]
  by_cases h1:a=c
  ·simp [h1]
  ·simp only [h1,decide_false,if_false,Bool.false_eq_true]
   by_cases h2:Lib.indexByte (l.map fun z=>z.toNat.toUInt8) c.toNat.toUInt8=-1
   ·rw [h2];rfl
   ·rw [if_neg (by omega),if_neg (by simpa using h2)]
theorem siZ {a c:Int} (ha:avZ a) (hc:avZ c):(a.toNat.toUInt8 == c.toNat.toUInt8)=decide (a=c):=by
 unfold avZ at ha hc
 rw [Bool.eq_iff_iff]
 simp only [beq_iff_eq,decide_eq_true_eq]
 constructor
 ·intro h
  have:=congrArg UInt8.toNat h
  simp only [Nat.toUInt8,UInt8.toNat_ofNat'] at this
  omega
 ·rintro rfl;rfl
theorem mlZ:∀ (x:List Int) (c:Int),(∀ z∈x,avZ z)→avZ c→cntB x c=(Lib.countByte (x.map fun z=>z.toNat.toUInt8) c.toNat.toUInt8:Nat)
 | [],_,_,_=>rfl
 | a::l,c,h,hc=>by
  have ih:=mlZ l c (fun z hz=>h z (List.mem_cons_of_mem _ hz)) hc
  have e:=siZ (h a (List.mem_cons_self ..)) hc
  unfold Lib.countByte at ih ⊢
  simp only [cntB,List.map_cons,List.count_cons,e,ih]
  by_cases h1:a=c
  ·simp [h1]
  ·simp [h1]
end Go.Am
namespace Go.Am
open Go.RowKit (Below)
variable {P:Program} {O:Orc} {FB:Nat→Nat→Prop} {w w':World} {s:St} {tm:Nat→Value} {ι:Key→Nat}
theorem Rel.below (h:Rel O FB w s tm ι) (hb:Below w.heap.size w w'):Stp O FB w s tm ι w' s tm ι:=by
 have hsz:=hb.size
 have hheap:∀ b,b<w.heap.size→w'.heap[b]?=w.heap[b]?:=hb.block
 have hcell:∀ b i,b<w.heap.size→w'.cell? ⟨b,i,none⟩=w.cell? ⟨b,i,none⟩:=fun b i hlt=>hb.cell (p:=⟨b,i,none⟩) hlt
 have hfrz:∀ b i,b<w.heap.size→w'.frozen? ⟨b,i,none⟩=w.frozen? ⟨b,i,none⟩:=fun b i hlt=>hb.frozen (p:=⟨b,i,none⟩) hlt
 have hown:∀ l,ajZ w' s tm ι l=ajZ w s tm ι l:=by
  intro l
  cases l with
  | sl i p=>rfl
  | fd k p =>
   simp only [ajZ]
   cases hk:aeZ s.heap k with
   | none=>rfl
   | some ob=>simp only [(h.ob k ob hk).2.sameF hheap]
  | ob k=>rfl
 have hc:bfZ (alZ w FB s tm ι) (alZ w' FB s tm ι) :=
  iJZ (by omega) (fun l b lo hl _=>⟨l,lo,by rw [← hown l];exact hl,Nat.le_refl _⟩) fun b i hp=>hcell b i hp.1
 have hrm:∀ b i,b<w.heap.size→(w'.cell? ⟨b,i,none⟩).isSome=(w.cell? ⟨b,i,none⟩).isSome∧w'.frozen? ⟨b,i,none⟩=w.frozen? ⟨b,i,none⟩∧w'.shape? b=w.shape? b :=
  fun b i hb=>⟨by rw [hcell b i hb],hfrz b i hb,by unfold World.shape?;rw [hheap b hb]⟩
 have hle:(alZ w FB s tm ι).le (alZ w' FB s tm ι):=⟨hc,fun k x hk=>.of hk fun _=>Ext.keep hrm⟩
 refine ⟨⟨fun i=>(h.vr i).le hle,fun k ob hk=>?_,fun l l' b lo lo' h1 h2=>?_,fun i own t x e p hp=>aFZ hrm (by omega) (h.rs i own t x e p hp),fun k ob hk p hp=>?_,fun l b lo lo' hl=>?_,fun b lo hb=>by have:=h.fs b lo hb;omega,h.gl_le hc⟩,fun l b lo hl=>.inl ⟨l,lo,by rw [← hown l];exact hl,Nat.le_refl _⟩,by omega⟩
 ·obtain ⟨h1,h2⟩:=h.ob k ob hk
  exact ⟨h1,h2.keep hle h1 fun hg=>hheap _ (h2.lt hg)⟩
 ·rw [hown] at h1 h2;exact h.dj l l' b lo lo' h1 h2
 ·exact (h.ob k ob hk).2.sameR hheap (aFZ hrm (by omega) (h.rf k ob hk p hp))
 ·rw [hown] at hl;exact h.fb l b lo lo' hl
theorem Rel.goesBelow (h:Rel O FB w s tm ι) (hb:Below w.heap.size w w'):Goes O FB w s tm ι w' s tm ι where
 stp:=h.below hb
 hist:=⟨hb.os,hb.tape,hb.output,hb.size,fun b hlt _=>hb.block b hlt,fun b lo hlt _ o _=>hb.cell (p:=⟨b,o,none⟩) hlt,fun b hlt o=>⟨by rw [hb.cell (p:=⟨b,o,none⟩) hlt],.inl (hb.frozen (p:=⟨b,o,none⟩) hlt)⟩⟩
 keys:=fun _ _=>KGo.of ⟨rfl,rfl⟩
theorem hQZ {f:FuncId} {vs:Array Value} {h:adZ} {args:List AV} {r:AV} {v:Value} (H:Rel O FB w ⟨args,h⟩ (aCZ vs) ι) (c:Calls P f vs w fun e w'=>e=.returned v∧Below w.heap.size w w') (hr:∀ R,VR R O r v) (ho:r.own=[]) :
  Calls P f vs w fun e w'=>∃ v ι',e=.returned v∧Goes O FB w ⟨args,h⟩ (aCZ vs) ι w' ⟨[r],h⟩ (fun _=>v) ι' :=
 c.mono fun e w' hq=>by
  obtain ⟨rfl,hb⟩:=hq
  have g:=H.goesBelow hb
  exact ⟨v,ι,rfl,Goes.trans H g (g.stp.rel.ends (hr _) (.inr ho))⟩
theorem mEZ (sep:List Int) (l:List (List Int)):Lib.join ((l.map agZ).map (·.data.toList)) (agZ sep).data.toList=(List.intercalate sep l).map fun z=>UInt8.ofNat z.toNat:=by
  have e:((l.map agZ).map (·.data.toList))=l.map fun x=>x.map fun z=>UInt8.ofNat z.toNat:=by
    rw [List.map_map]
    refine List.map_congr_left fun x _=>?_
    simp [agZ]
  have e2:(agZ sep).data.toList=sep.map fun z=>UInt8.ofNat z.toNat:=by simp [agZ]
  rw [e,e2]
  unfold Lib.join List.intercalate
  rw [List.map_flatten]
  congr 1
  clear e e2
  induction l with
  | nil=>rfl
  | cons a l ih =>
    cases l with
    | nil=>rfl
    | cons b l=>simpa using ih
theorem jrZ {sep:List Int} {z:Int}:∀ {l:List (List Int)},z∈List.intercalate sep l→z∈sep∨∃ x∈l,z∈x
 | [],h=>by simp [List.intercalate] at h
 | [a],h=>by simp [List.intercalate] at h;exact .inr ⟨a,by simp,h⟩
 | a::b::l,h=>by
  have e:List.intercalate sep (a::b::l)=a++(sep++List.intercalate sep (b::l)):=by simp [List.intercalate]
  rw [e] at h
  rcases List.mem_append.1 h with h | h
  ·exact .inr ⟨a,by simp,h⟩
  ·rcases List.mem_append.1 h with h | h
   ·exact .inl h
   ·rcases jrZ h with h | ⟨x,hx,h⟩
    ·exact .inl h
    ·exact .inr ⟨x,List.mem_cons_of_mem _ hx,h⟩
theorem rAZ {f : FuncId} (hb : cqZ P f)
    (hn:∀ (a:Option Addr) (c:Nat) (sep:ByteArray) (w:World),Calls P f #[.slice a 0 c,.string sep] w fun e w'=>e=.returned (.string ⟨#[]⟩)∧w'=w)
    (hj:∀ (bk o c:Nat) (xs:List ByteArray) (sep:ByteArray) (w:World),(∀ (j:Nat) x,xs[j]?=some x→w.cell? ⟨bk,o+j,none⟩=some (.string x))→bk<w.heap.size→xs.length≤140737488355328→xs.length≤c →
      (Lib.join (xs.map (·.data.toList)) sep.data.toList).length≤140737488355328 →
      Calls P f #[.slice (some ⟨bk,o,none⟩) xs.length c,.string sep] w fun e w'=>e=.returned (.string ⟨(Lib.join (xs.map (·.data.toList)) sep.data.toList).toArray⟩)∧Below w.heap.size w w')
    (args:List AV) (r:AV) (hg:dZZ args=some r):cqZ P f∧∀ (FB:Nat→Nat→Prop) (w:World) (h:adZ) (ι:Key→Nat) (vs:Array Value),args.length=vs.size→Rel O FB w ⟨args,h⟩ (aCZ vs) ι →
    Calls P f vs w fun e w'=>∃ v ι',e=.returned v∧Goes O FB w ⟨args,h⟩ (aCZ vs) ι w' ⟨[r],h⟩ (fun _=>v) ι':=by
  unfold dZZ at hg
  split at hg
  · rename_i o1 l o2 sep
    split at hg
    · rename_i hlen
      obtain ⟨hl1,hl2⟩:=hlen
      cases hg
      refine ⟨hb,fun FB w h ι vs hl H=>?_⟩
      obtain ⟨vs⟩:=vs
      match vs,hl with
      | [v1,v2],_=>?_
      have h0:=H.vr 0
      have h1:=H.vr 1
      have g0:(⟨[AV.tv o1 (.slice .str) l,AV.tv o2 .str sep],h⟩:St).get 0=AV.tv o1 (.slice .str) l:=rfl
      have g1:(⟨[AV.tv o1 (.slice .str) l,AV.tv o2 .str sep],h⟩:St).get 1=AV.tv o2 .str sep:=rfl
      rw [g0] at h0
      rw [g1] at h1
      simp only [VR] at h0 h1
      have h0':VT (alZ w FB ⟨[AV.tv o1 (.slice .str) l,AV.tv o2 .str sep],h⟩ (aCZ ⟨[v1,v2]⟩) ι) (.slice .str) l v1:=h0
      have h1':VT (alZ w FB ⟨[AV.tv o1 (.slice .str) l,AV.tv o2 .str sep],h⟩ (aCZ ⟨[v1,v2]⟩) ι) .str sep v2:=h1
      obtain ⟨rfl,hsep⟩:=h1'.str
      obtain ⟨a,cap,b,off,us,rfl,k2,k3,k4,k5,k6⟩:=h0'.slice
      have hel:∀ i (hi:i<List.length (l:List (List Int))),us i 0=.string (agZ ((l:List (List Int))[i]'hi))∧∀ z∈(l:List (List Int))[i]'hi,avZ z:=fun i hi=>by
        have:=k6 i hi
        have e:(List.getD l i (Am.zero .str):List Int)=(l:List (List Int))[i]'hi:=by
          rw [List.getD_eq_getElem?_getD,List.getElem?_eq_getElem hi];rfl
        simp only [RV] at this
        rw [e] at this
        exact this
      have hout:∀ z∈List.intercalate (sep:List Int) (l:List (List Int)),avZ z:=fun z hz=>by
        rcases jrZ hz with h | ⟨x,hx,h⟩
        · exact hsep z h
        · obtain ⟨i,hi,rfl⟩:=List.mem_iff_getElem.1 hx
          exact (hel i hi).2 z h
      have hVR:∀ R,VR R O (.tv [] .str (List.intercalate (sep:List Int) (l:List (List Int)))) (.string (agZ (List.intercalate (sep:List Int) (l:List (List Int))))):=fun R=>by
        simp only [VR]
        exact ⟨rfl,nofun,fun _=>rfl,rfl,by simp only [RV,abZ,Value.cells];exact ⟨rfl,hout⟩⟩
      by_cases hnil:List.length (l:List (List Int))=0
      · have hl0:(l:List (List Int))=[]:=List.length_eq_zero_iff.1 hnil
        refine hQZ H ?_ hVR rfl
        have e:agZ (List.intercalate (sep:List Int) (l:List (List Int)))=⟨#[]⟩:=by rw [hl0];rfl
        rw [e,hnil]
        exact (hn a cap _ w).mono fun e w' hq=>⟨hq.1,by rw [hq.2];exact Below.refl _ _⟩
      · obtain rfl:=k4 (by omega)
        refine hQZ H ?_ hVR rfl
        have hcl:∀ (j:Nat) x,(List.map agZ (l:List (List Int)))[j]?=some x→w.cell? ⟨b,off+j,none⟩=some (.string x):=fun j x hx=>by
          rw [List.getElem?_map] at hx
          obtain ⟨y,hy,rfl⟩:=Option.map_eq_some_iff.1 hx
          obtain ⟨hj,rfl⟩:=List.getElem?_eq_some_iff.1 hy
          have:=(k5 j hj 0 (by simp [Ty.size])).1
          rw [(hel j hj).1] at this
          simp only [Ty.size,Nat.mul_one,Nat.add_zero] at this
          exact this
        have hbk:b<w.heap.size:=by
          have:=hcl 0 (agZ ((l:List (List Int))[0]'(by omega))) (by rw [List.getElem?_map,List.getElem?_eq_getElem (by omega)];rfl)
          exact World.block_lt_of_cell? w ⟨b,off+0,none⟩ this
        have hbj:=mEZ (sep:List Int) (l:List (List Int))
        have:=hj b off cap (List.map agZ (l:List (List Int))) (agZ sep) w hcl hbk (by rw [List.length_map];exact Nat.le_trans hl1 (by unfold awZ;omega)) (by rw [List.length_map];exact k2) (by rw [hbj,List.length_map];exact hl2)
        rw [List.length_map] at this
        refine this.mono fun e w' hq=>⟨?_,hq.2⟩
        rw [hq.1,hbj]
        rfl
    · cases hg
  · cases hg
end Go.Am
namespace Go.Am
open Go.RowKit (Below)
variable {P:Program} {O O2:Orc} {FB:Nat→Nat→Prop} {w w':World} {s:St} {tm:Nat→Value} {ι:Key→Nat}
inductive Thaw (h:adZ):(t:Ty)→den t→(t':Ty)→den t'→Prop where
 | same (t:Ty) (x:den t) (hn:t.noRef=true) (hf:t.fine=true):Thaw h t x t x
 | pair {a b a' b':Ty} {x:den a} {y:den b} {x':den a'} {y':den b'}:Thaw h a x a' x'→Thaw h b y b' y'→Thaw h (.pair a b) (x,y) (.pair a' b') (x',y')
 | sref {u:Ty} {k:Key} {g:Nat} {l:List (den u)} {own:List (List Nat)} (hn:u.noRef=true) (hf:(Ty.slice u).fine=true) (hk:aeZ h k=some ⟨⟨.arr (g+1) l.length u,l⟩,own⟩):Thaw h (.sref u) (some (k,g,0,l.length)) (.slice u) l
 | nil {u:Ty} (hn:u.noRef=true) (hf:(Ty.slice u).fine=true):Thaw h (.sref u) none (.slice u) []
theorem Thaw.shape {h:adZ} {t t':Ty} {x:den t} {x':den t'} (d:Thaw h t x t' x'):t'.fine=true∧t'.size=t.size∧t'.agg=t.agg:=by
 induction d with
 | same t x hn hf=>exact ⟨hf,rfl,rfl⟩
 | pair d1 d2 h1 h2=>exact ⟨by simp [Ty.fine,h1.1,h2.1],by simp [Ty.size,h1.2.1,h2.2.1],rfl⟩
 | sref hn hf hk=>exact ⟨hf,rfl,rfl⟩
 | nil hn hf=>exact ⟨hf,rfl,rfl⟩
theorem Thaw.rv {R2 R:Rl} {h:adZ} {ι2:Key→Nat} (hc:bfZ R2 R) (hkt:R2.kt=cnZ h ι2) (hob:∀ k o,aeZ h k=some o→ObAt R2 R.w (ι2 k) o.d.t o.d.x) (hpr:∀ k o,aeZ h k=some o→o.d.t.ghost=false→∀ j,R.prot (ι2 k) j)
  {t t':Ty} {x:den t} {x':den t'} (d:Thaw h t x t' x'):∀ c,RV R2 t x c→RV R t' x' c:=by
 induction d with
 | same t x hn hf=>exact fun c hv=>RV.le0 hc t x c hn hf hv
 | pair d1 d2 h1 h2 =>
  intro c hv
  exact ⟨h1 _ hv.1,by rw [d1.shape.2.1];exact h2 _ hv.2⟩
 | @sref u k g l own hn hf hk =>
  intro c hv
  have hfu:u.fine=true:=by simp [Ty.fine] at hf;exact hf.2
  obtain ⟨a,cap,c0,_,han,b,γ,n,hkt2,hge,hlast⟩:=hv
  rw [hkt] at hkt2
  unfold cnZ at hkt2
  rw [hk] at hkt2
  simp only [Option.map_some,Option.some.injEq,Prod.mk.injEq,Ty.arr.injEq] at hkt2
  obtain ⟨hb,h1,h2,_⟩:=hkt2
  obtain rfl:g=γ:=by omega
  subst h2
  obtain ⟨l1,_,l3⟩:=hlast rfl
  have hcap:List.length l≤cap:=by omega
  have key:0<List.length l→∃ arr T,R.w.heap[ι2 k]?=some (.cells arr T (0,0))∧List.length l * u.size≤arr.size∧∀ i,i<List.length l→RV R2 u (List.getD l i (zero u)) (fun j=>arr.getD (i * u.size+j) undef):=by
   intro hpos
   have hg:(Ty.arr (g+1) (List.length l) u).ghost=false:=by
    obtain ⟨m,hm⟩:∃ m,List.length l=m+1:=⟨List.length l-1,by omega⟩
    rw [hm];rfl
   obtain ⟨arr,T,q1,_,q3,q4⟩:=(hob k _ hk).cells (fun a c e=>by cases e) hg
   exact ⟨arr,T,q1,q3,q4.2⟩
  have hprt:0<List.length l→∀ j,R.prot (ι2 k) j:=by
   intro hpos
   refine hpr k _ hk ?_
   obtain ⟨m,hm⟩:∃ m,List.length l=m+1:=⟨List.length l-1,by omega⟩
   show (Ty.arr (g+1) (List.length l) u).ghost=false
   rw [hm];rfl
  by_cases hpos:0<List.length l
  ·obtain ⟨arr,T,q1,q3,q4⟩:=key hpos
   obtain ⟨a1,_⟩:=l3 (by omega)
   refine ⟨a,cap,ι2 k,0,fun i j=>arr.getD (i * u.size+j) undef,c0,hcap,fun e=>(by rw [e] at a1;cases a1),fun _=>(by rw [a1,Nat.zero_mul,hb]),fun i hi j hj=>?_,fun i hi=>RV.le0 hc u _ _ hn hfu (q4 i hi)⟩
   have hlt:i * u.size+j<arr.size:=by
    have:(i+1) * u.size≤List.length l * u.size:=Nat.mul_le_mul_right _ (by omega)
    rw [Nat.add_mul] at this
    omega
   refine ⟨?_,hprt hpos _⟩
   simp only [World.cell?,q1]
   rw [Nat.zero_add,Array.getElem?_eq_getElem hlt];simp [Array.getD_eq_getD_getElem?,hlt]
  ·have hl0:List.length l=0:=by omega
   refine ⟨a,cap,0,0,fun _ _=>undef,c0,hcap,fun e=>⟨hl0,han e⟩,fun q=>absurd q hpos,fun i hi=>absurd hi (by omega),fun i hi=>absurd hi (by omega)⟩
 | @nil u hn hf =>
  intro c hv
  exact ⟨none,0,0,0,fun _ _=>undef,hv,Nat.le_refl _,fun _=>⟨rfl,rfl⟩,fun q=>absurd q (Nat.lt_irrefl _),fun i hi=>absurd hi (Nat.not_lt_zero _),fun i hi=>absurd hi (Nat.not_lt_zero _)⟩
theorem Thaw.vt {R2 R:Rl} {h:adZ} {ι2:Key→Nat} (hc:bfZ R2 R) (hkt:R2.kt=cnZ h ι2) (hob:∀ k o,aeZ h k=some o→ObAt R2 R.w (ι2 k) o.d.t o.d.x) (hpr:∀ k o,aeZ h k=some o→o.d.t.ghost=false→∀ j,R.prot (ι2 k) j)
  {t t':Ty} {x:den t} {x':den t'} (d:Thaw h t x t' x') {v:Value} (hv:VT R2 t x v):VT R t' x' v:=by
 obtain ⟨s1,s2,s3⟩:=d.shape
 exact ⟨s1,fun e=>hv.agg (by rw [← s3];exact e),fun e=>hv.one (by rw [← s3];exact e),by rw [s2];exact hv.size,d.rv hc hkt hob hpr _ hv.rv⟩
def sAZ (w:World) (FB:Nat→Nat→Prop) (s:St) (tm:Nat→Value) (ι:Key→Nat) (b lo:Nat):Prop:=FB b lo∨fnZ w s tm ι b lo
theorem Rel.view (H:Rel O FB w s tm ι) (hG:∀ g d,O2.glob g=some d→O.glob g=some d) {args:List AV} (ha:∀ i,∃ t x,t.noRef=true∧args.getD i .any=.tv [] t x∧VT (alZ w FB s tm ι) t x (tm i)∨args.getD i .any=.any) :
  Rel O2 (sAZ w FB s tm ι) w ⟨args,[]⟩ tm ι:=by
 have hn:∀ l,ajZ w ⟨args,[]⟩ tm ι l=none:=by
  intro l
  cases l with
  | sl i p =>
   simp only [ajZ,St.get]
   obtain ⟨t,x,⟨_,e,_⟩ | e⟩:=ha i <;> rw [e]
   simp
  | fd k p=>rfl
  | ob k=>rfl
 have hc:bfZ (alZ w FB s tm ι) (alZ w (sAZ w FB s tm ι) ⟨args,[]⟩ tm ι):=by
  intro b o hp v hv
  refine ⟨hv,hp.1,fun l lo e=>(by rw [hn] at e;cases e),fun lo e=>?_⟩
  rcases e with e | ⟨l,e⟩
  ·exact hp.2.2 lo e
  ·exact hp.2.1 l lo e
 refine ⟨fun i=>?_,nofun,fun l l' b lo lo' e=>(by rw [hn] at e;cases e),fun i own t x e p hp=>?_,nofun,fun l b lo lo' e=>(by rw [hn] at e;cases e),fun b lo e=>?_,fun g d e=>?_⟩
 ·show VR _ O2 (args.getD i .any) (tm i)
  obtain ⟨t,x,⟨hr,e,hv⟩ | e⟩:=ha i
  ·rw [e];simp only [VR]
   exact ⟨hv.fine,hv.agg,hv.one,hv.size,RV.le0 hc t x _ hr hv.fine hv.rv⟩
  ·rw [e];simp only [VR]
 ·have e:args.getD i .any=.tv own t x:=e
  obtain ⟨t',x',⟨_,e',_⟩ | e'⟩:=ha i
  ·rw [e'] at e;cases e;cases hp
  ·rw [e'] at e;cases e
 ·rcases e with e | ⟨l,e⟩
  ·exact H.fs b lo e
  ·exact H.own_lt e
 ·obtain ⟨h1,h2,us,h3,h4⟩:=H.gl g d (hG g d e)
  exact ⟨h1,h2,us,h3.le hc,RV.le0 hc d.t d.x us h1 h2 h4⟩
theorem qeZ (hP:ProgOK P O2) (hG:∀ g d,O2.glob g=some d→O.glob g=some d) {f:FuncId} {args:List AV} {k:Nat} {own:List (List Nat)} {t t':Ty} {x:den t} {x':den t'} {h2:adZ}
  (hr:callF P O2 k f args []=some (.tv own t x,h2)) (d:Thaw h2 t x t' x') {FB:Nat→Nat→Prop} {w:World} {h:adZ} {args0:List AV} {ι:Key→Nat} {vs:Array Value} (hl:args.length=vs.size) (H:Rel O FB w ⟨args0,h⟩ (aCZ vs) ι)
  (ha:∀ i,∃ t x,t.noRef=true∧args.getD i .any=.tv [] t x∧VT (alZ w FB ⟨args0,h⟩ (aCZ vs) ι) t x (aCZ vs i)∨args.getD i .any=.any) :
  Calls P f vs w fun e w'=>∃ v ι',e=.returned v∧Goes O FB w ⟨args0,h⟩ (aCZ vs) ι w' ⟨[.tv [] t' x'],h⟩ (fun _=>v) ι':=by
 obtain ⟨_,hcall⟩:=ivZ hP k f args [] _ hr
 have V:=H.view (O2:=O2) hG ha
 have hn:∀ l,ajZ w ⟨args,[]⟩ (aCZ vs) ι l=none:=by
  intro l
  cases l with
  | sl i p =>
   simp only [ajZ,St.get]
   obtain ⟨t,x,⟨_,e,_⟩ | e⟩:=ha i <;> rw [e]
   simp
  | fd k p=>rfl
  | ob k=>rfl
 refine (hcall _ w ι vs hl V).mono fun e w' hq=>?_
 obtain ⟨v,ι',rfl,G⟩:=hq
 have hb:Below w.heap.size w w':=⟨G.hist.os,G.hist.tape,G.hist.output,G.hist.size,fun b hb=>G.hist.block b hb fun lo ⟨l,e⟩=>by rw [hn] at e;cases e⟩
 have g:=H.goesBelow hb
 refine ⟨v,ι,rfl,Goes.trans H g (g.stp.rel.ends ?_ (.inr rfl))⟩
 have R':=G.stp.rel
 have hown:∀ l b lo,ajZ w' ⟨args0,h⟩ (aCZ vs) ι l=some (b,lo)→∃ l0 lo0,ajZ w ⟨args0,h⟩ (aCZ vs) ι l0=some (b,lo0)∧lo0≤lo∨w.heap.size≤b:=fun l b lo e=>by
  rcases g.stp.src l b lo e with ⟨l0,lo0,e0,h0⟩ | e0
  ·exact ⟨l0,lo0,.inl ⟨e0,h0⟩⟩
  ·exact ⟨l,lo,.inr e0⟩
 have hlt:∀ l b lo,ajZ w' ⟨args0,h⟩ (aCZ vs) ι l=some (b,lo)→b<w.heap.size:=fun l b lo e=>by
  cases l with
  | sl i p =>
   have e':ajZ w ⟨args0,h⟩ (aCZ vs) ι (.sl i p)=some (b,lo):=e
   exact H.own_lt e'
  | fd k p =>
   simp only [ajZ] at e
   cases hk:aeZ h k with
   | none=>rw [hk] at e;cases e
   | some ob =>
    rw [hk] at e
    simp only [(H.ob k ob hk).2.sameF hb.block] at e
    exact H.own_lt (l:=.fd k p) (lo:=lo) (by simp only [ajZ,hk];exact e)
  | ob k =>
   have e':ajZ w ⟨args0,h⟩ (aCZ vs) ι (.ob k)=some (b,lo):=e
   exact H.own_lt e'
 have hvr:VR (alZ w' (sAZ w FB ⟨args0,h⟩ (aCZ vs) ι) ⟨[.tv own t x],h2⟩ (fun _=>v) ι') O2 (.tv own t x) v:=R'.vr 0
 simp only [VR] at hvr ⊢
 refine d.vt (ι2:=ι') ?_ rfl (fun k o hk=>(R'.ob k o hk).2) (fun k o hk hg j=>?_) hvr
 ·intro b o hp v hv
  refine ⟨hv,hp.1,fun l lo e=>?_,fun lo e=>hp.2.2 lo (.inl e)⟩
  obtain ⟨l0,lo0,⟨e0,h0⟩ | e0⟩:=hown l b lo e
  ·have:=hp.2.2 lo0 (.inr ⟨l0,e0⟩);omega
  ·have:=hlt l b lo e;omega
 ·have hob:=R'.ob k o hk
  have ho:ajZ w' ⟨[.tv own t x],h2⟩ (fun _=>v) ι' (.ob k)=some (ι' k,0):=by simp only [ajZ,hk,hg];rfl
  have hge:w.heap.size≤ι' k:=by
   rcases G.stp.src _ _ _ ho with ⟨l0,lo0,e0,_⟩ | e0
   ·rw [hn] at e0;cases e0
   ·exact e0
  refine ⟨hob.2.lt hg,fun l lo e=>?_,fun lo e=>?_⟩
  ·have:=hlt l _ lo e;omega
  ·have:=H.fs _ lo e;omega
end Go.Am
set_option linter.all false
namespace Go.Am
variable {P:Program} {O:Orc} {w:World} {H:Type} {enc:TypeId×Value→H} {held:Bool}
def wT:(t:Ty)→den t→Nat
 | .str,x=>List.length x+1
 | .slice t,x=>(List.map (fun y=>wT t y) x).sum+1
 | .pair a b,x=>wT a x.1+wT b x.2
 | _,_=>0
structure BulkOK (B:DataW H→Nat) (BA:List (DataW H)→Nat):Prop where
 one:∀ d,1≤B d
 str:∀ s,B (.lit (.string s))=s.length+1
 slice:∀ e r,BA e+1≤B (.slice e r)
 agg:∀ l,BA l≤B (.agg l)
 nil:BA []=0
 cons:∀ d l,BA (d::l)=B d+BA l
end Go.Am
