/-
  The machine over typed data, part 4: what calls come to, read as typed data, holds of the model.
-/
import Derived.Test.YtfnnapgpcndcjaaGreatDoorAm3
import Derived.RowKit
import Derived.OpenShut
import Derived.ShutString
import Derived.Deep.Slices
import Derived.DataReads
import Derived.WalkKit
import Derived.ProofKit
import Derived.ChangeSame
import Derived.JoinedOf
import Derived.LaidLaws
import GoSem.ClaimJoined
import Derived.Lib.Bytealg
import Derived.Tactics
set_option linter.all false
namespace Go.Am
variable {P:Program} {O:Orc} {c1 c2:CallF} {draw:Bool} {f:FuncId} {rid i:Nat} {o:Oper} {ops:Array Oper}
def LeC (c1 c2:CallF):Prop:=∀ g args h q,c1 g args h=some q→c2 g args h=some q
theorem callA_mono (hc:LeC c1 c2) {dst:Option Nat} {q:FuncId} {args:List AV} {h:Heap} {r:Res} (e:callA O c1 draw dst q args h=some r):callA O c2 draw dst q args h=some r:=by
 unfold callA at e ⊢
 simp only [forceKs_eq] at e ⊢
 split at e
 ·cases e
 ·rename_i hn
  rw [if_neg hn]
  simp only [Option.bind_eq_some_iff] at e ⊢
  obtain ⟨h0,h1,e⟩:=e
  refine ⟨h0,h1,?_⟩
  split at e
  ·cases e
  ·rename_i hn2
   rw [if_neg hn2]
   simp only [Option.bind_eq_some_iff] at e ⊢
   obtain ⟨p,h2,e⟩:=e
   exact ⟨p,hc _ _ _ _ h2,e⟩
theorem callT_mono (hc:LeC c1 c2) {tk:Bool} {X:List Key} {dst:Option Nat} {q:FuncId} {args:List AV} {h:Heap} {r:Res} (e:callT O c1 draw tk X dst q args h=some r):callT O c2 draw tk X dst q args h=some r:=by
 unfold callT at e ⊢
 split at e
 ·cases e
 ·rename_i hn
  rw [if_neg hn]
  simp only [Option.bind_eq_some_iff] at e ⊢
  obtain ⟨r',h1,h2⟩:=e
  exact ⟨r',callA_mono hc h1,h2⟩
theorem exec_mono (hc:LeC c1 c2) {g:Nat→AV} {h:Heap} {r:Res} (e:exec O c1 draw f rid i o g h=some r):exec O c2 draw f rid i o g h=some r:=by
 by_cases hx:∃ x as tys,o.op=.call ⟨.value x,as,tys⟩
 ·obtain ⟨x,as,tys,hop⟩:=hx
  unfold exec at e ⊢
  by_cases hm:O.mrk f rid i=true
  ·rw [if_pos hm] at e ⊢;exact e
  rw [if_neg hm] at e ⊢
  simp only [exec0,hop,callO] at e ⊢
  split at e
  ·exact callT_mono hc e
  ·cases e
 ·rw [exec_indep (c2:=c1) fun x as tys e=>hx ⟨x,as,tys,e⟩];exact e
theorem stepG_mono (hc:LeC c1 c2) {g:Nat→AV} {h:Heap} {r:Res} (e:stepG O c1 draw f rid ops i o g h=some r):stepG O c2 draw f rid ops i o g h=some r:=by
 unfold stepG at e ⊢
 cases hg:o.guard with
 | none=>rw [hg] at e;exact exec_mono hc e
 | some jb =>
  obtain ⟨j,b⟩:=jb
  rw [hg] at e
  simp only at e ⊢
  split at e
  ·rename_i x hy
   cases hx:x == b with
   | true=>rw [hx] at e;simp only [cond_true] at e ⊢;exact exec_mono hc e
   | false=>rw [hx] at e;simp only [cond_false] at e ⊢;exact e
  ·exact e
  ·cases e
theorem steps_mono (hc:LeC c1 c2):∀ (l:List Nat) (s s':St),steps O c1 draw f rid ops l s=some s'→steps O c2 draw f rid ops l s=some s'
 | [],_,_,e=>e
 | j::l,s,s',e=>by
  simp only [steps,step,Option.bind_eq_some_iff] at e ⊢
  obtain ⟨s1,h1,h2⟩:=e
  refine ⟨s1,?_,steps_mono hc l _ _ h2⟩
  split at h1
  ·cases h1
  ·simp only [Option.map_eq_some_iff] at h1 ⊢
   obtain ⟨r,h3,h4⟩:=h1
   exact ⟨r,stepG_mono hc h3,h4⟩
theorem stepsD_mono (hc:LeC c1 c2) {ah:List Nat}:∀ (l:List Nat) (acc:List (Nat×Foot)) (s s':St),stepsD O c1 f rid ops ah l acc s=some s'→stepsD O c2 f rid ops ah l acc s=some s'
 | [],_,_,_,e=>e
 | j::l,acc,s,s',e=>by
  simp only [stepsD] at e ⊢
  split at e
  ·cases e
  ·rename_i o ho
   split at e
   ·rename_i hcnd
    rw [if_pos hcnd]
    simp only [step,Option.bind_eq_some_iff] at e ⊢
    obtain ⟨s1,h1,h2⟩:=e
    refine ⟨s1,?_,stepsD_mono hc l _ _ _ h2⟩
    rw [ho] at h1 ⊢
    simp only [Option.map_eq_some_iff] at h1 ⊢
    obtain ⟨r,h3,h4⟩:=h1
    exact ⟨r,stepG_mono hc h3,h4⟩
   ·cases e
theorem loopN_mono {b1 b2:St→Option (Ex×St)} {cut:St→Option St} (hb:∀ s q,b1 s=some q→b2 s=some q):∀ (n m:Nat) (s:St) (q:Ex×St),n≤m→loopN b1 cut n s=some q→loopN b2 cut m s=some q
 | 0,_,s,q,_,e=>by simp [loopN] at e
 | n+1,0,_,_,h,_=>by omega
 | n+1,m+1,s,q,h,e=>by
  simp only [loopN,Option.bind_eq_some_iff] at e ⊢
  obtain ⟨s1,h1,⟨x,s2⟩,h2,e⟩:=e
  refine ⟨s1,h1,(x,s2),hb _ _ h2,?_⟩
  cases x with
  | normal=>exact loopN_mono hb n m _ _ (by omega) e
  | exit id=>exact e
  | ret=>exact e
theorem evalC_mono (hc:LeC c1 c2) {n m:Nat} (hn:n≤m):∀ (c:Code) (s:St) (q:Ex×St),evalC O c1 n f c s=some q→evalC O c2 m f c s=some q
 | .skip,s,q,e=>by simpa only [evalC] using e
 | .region id ops draw,s,q,e=>by
  simp only [evalC,Option.bind_eq_some_iff,forceS_eq] at e ⊢
  obtain ⟨s',h1,e⟩:=e
  refine ⟨s',?_,e⟩
  split at h1
  ·rename_i hcnd;rw [if_pos hcnd];exact stepsD_mono hc _ _ _ _ h1
  ·rename_i hcnd;rw [if_neg hcnd];exact steps_mono hc _ _ _ h1
 | .seq a b,s,q,e=>by
  simp only [evalC,Option.bind_eq_some_iff] at e ⊢
  obtain ⟨⟨x,s1⟩,h1,e⟩:=e
  refine ⟨(x,s1),evalC_mono hc hn a _ _ h1,?_⟩
  cases x with
  | normal=>exact evalC_mono hc hn b _ _ e
  | exit id=>exact e
  | ret=>exact e
 | .cond c a b,s,q,e=>by
  simp only [evalC] at e ⊢
  split at e
  ·rename_i own x hv
   cases x with
   | true=>exact evalC_mono hc hn a _ _ e
   | false=>exact evalC_mono hc hn b _ _ e
  ·cases e
 | .block id a,s,q,e=>by
  simp only [evalC,Option.map_eq_some_iff] at e ⊢
  obtain ⟨p,h1,e⟩:=e
  exact ⟨p,evalC_mono hc hn a _ _ h1,e⟩
 | .loop a,s,q,e=>by
  simp only [evalC] at e ⊢
  exact loopN_mono (fun s q h=>evalC_mono hc hn a s q h) n m s q hn e
 | .exit id,s,q,e=>by simpa only [evalC] using e
 | .ret,s,q,e=>by simpa only [evalC] using e
 | .label _,s,q,e=>by simp [evalC] at e
 | .goto _,s,q,e=>by simp [evalC] at e
 | .rangeFunc ..,s,q,e=>by simp [evalC] at e
 | .scope _,s,q,e=>by simp [evalC] at e
 | .refuse _,s,q,e=>by simp [evalC] at e
theorem callF_mono:∀ (k m:Nat),k≤m→LeC (callF P O k) (callF P O m)
 | 0,_,_,_,_,_,_,e=>by simp [callF] at e
 | k+1,0,h,_,_,_,_,_=>by omega
 | k+1,m+1,h,f,args,hp,q,e=>by
  simp only [callF] at e ⊢
  split at e
  ·exact e
  ·split at e
   ·cases e
   ·rename_i hf
    rw [if_neg hf]
    simp only [Option.bind_eq_some_iff] at e ⊢
    obtain ⟨fn,h1,c,h2,p,h3,e⟩:=e
    exact ⟨fn,h1,c,h2,p,evalC_mono (callF_mono k m (by omega)) (by omega) c _ _ h3,e⟩
end Go.Am
namespace Go.Am
theorem tvE {own:List (List Nat)} {t:Ty} {x y:den t} (h:x=y):AV.tv own t x=AV.tv own t y:=by rw [h]
theorem XT.ind {p:XT→Prop} (h:∀ k n l,(∀ y∈l,p y)→p (.mk k n l)):∀ x,p x :=
 XT.rec (motive_1:=p) (motive_2:=fun l=>∀ y∈l,p y) (fun k n l ih=>h k n l ih) nofun (fun x l h1 h2 y hy=>by
  rcases List.mem_cons.1 hy with e | e
  ·rw [e];exact h1
  ·exact h2 y e)
theorem take_snoc {α:Type} {l:List α} {n:Nat} (d:α) (h:n<l.length):l.take (n+1)=l.take n++[l.getD n d]:=by
 rw [List.take_succ_eq_append_getElem h];simp [List.getD,h]
theorem getD_mem' {α:Type} {l:List α} {n:Nat} (d:α) (h:n<l.length):l.getD n d∈l:=by
 simp [List.getD,h]
theorem drop_cons {α:Type} {l:List α} {n:Nat} (d:α) (h:n<l.length):l.drop n=l.getD n d::l.drop (n+1):=by
 rw [List.drop_eq_getElem_cons h];simp [List.getD,h]
end Go.Am
namespace Go.Am
theorem tvI {own:List (List Nat)} {k:IntKind} {x y:Int} (h:x=y):AV.tv own (.int k) x=AV.tv own (.int k) y:=by rw [h]
theorem tvB {own:List (List Nat)} {x y:Bool} (h:x=y):AV.tv own .bool x=AV.tv own .bool y:=by rw [h]
theorem tvS {own:List (List Nat)} {x y:List Int} (h:x=y):AV.tv own .str x=AV.tv own .str y:=by rw [h]
theorem tvX {own:List (List Nat)} {x y:XT} (h:x=y):AV.tv own .expr x=AV.tv own .expr y:=by rw [h]
end Go.Am
namespace Go.Am
theorem XT.ind' {p:XT→Prop} (h:∀ x:XT,(∀ y∈x.kids,p y)→p x):∀ x,p x:=XT.ind fun k n l ih=>h (.mk k n l) ih
end Go.Am
namespace Go.Am
theorem drop_consI {α:Type} {l:List α} {n:Nat} (d:α) (h:n<l.length):l.drop n=l.getD (Int.toNat (n:Int)) d::l.drop (n+1):=drop_cons d h
end Go.Am
namespace Go.Am
variable {P:Program} {O:Orc} {w:World} {H:Type} {enc:TypeId×Value→H} {held:Bool}
inductive InX:XT→Prop
 | mk (x:XT) (h1:-9223372036854775808≤x.kind∧x.kind≤9223372036854775807) (h2:-9223372036854775808≤x.num∧x.num≤9223372036854775807) (h3:x.kids.length≤maxLen) (h4:∀ y∈x.kids,InX y):InX x
def InR:(t:Ty)→den t→Prop
 | .int k,x=>(Lit.int k x).wf=true
 | .str,x=>List.length x≤maxLen∧∀ z∈(x:List Int),0≤z∧z<256
 | .slice t,x=>List.length x≤maxLen∧∀ i,i<List.length x→InR t (List.getD x i (zero t))
 | .arr gw n t,x=>∀ i,i<n→InR t (List.getD x i (zero t))
 | .pair a b,x=>InR a x.1∧InR b x.2
 | .expr,x=>InX x
 | _,_=>True
def RdW:(t:Ty)→den t→DataW H→Prop
 | .int k,x,d=>d=.lit (.int k x)
 | .bool,x,d=>d=.lit (.bool x)
 | .str,x,d=>∃ s:List UInt8,d=.lit (.string s)∧x=s.map fun c=>(c.toNat:Int)
 | .arr gw n t,x,d=>∃ ds:List (DataW H),d=.agg ds∧ds.length=n∧∀ i,i<n→∀ e,ds[i]?=some e→RdW t (List.getD x i (zero t)) e
 | _,_,_=>True
def Ty.opn:Ty→Bool
 | .ref | .mref _ _ | .sref _ | .fnc | .mp _ _=>false
 | .pair a b=>a.opn&&b.opn
 | .arr _ _ t=>t.opn
 | .slice t=>t.opn
 | _=>true
theorem opn_noRef:∀ (t:Ty),t.opn=true→t.noRef=true
 | .int _,_ | .bool,_ | .str,_ | .unit,_ | .expr,_ | .slice _,_=>rfl
 | .ref,h | .mref _ _,h | .sref _,h | .fnc,h | .mp _ _,h=>by simp [Ty.opn] at h
 | .pair a b,h=>by
  simp [Ty.opn] at h
  simp [Ty.noRef,opn_noRef a h.1,opn_noRef b h.2]
 | .arr _ _ t,h=>by simp only [Ty.opn] at h;simp only [Ty.noRef,opn_noRef t h]
theorem i64_wf {n:Int} (h:(Lit.int .i64 n).wf=true):-9223372036854775808≤n∧n≤9223372036854775807:=by
 simpa [Lit.wf,IntKind.min,IntKind.max,IntKind.signed,IntKind.bits] using h
theorem u8_wf {n:Int} (h:(Lit.int .u8 n).wf=true):isByte n:=by
 have:0≤n∧n≤255:=by simpa [Lit.wf,IntKind.min,IntKind.max,IntKind.signed,IntKind.bits] using h
 unfold isByte;omega
theorem bytesOf_bytes (s:ByteArray):bytesOf (ofBytes s)=s:=by
 unfold bytesOf ofBytes
 obtain ⟨⟨l⟩⟩:=s
 congr 2
 simp only [List.map_map]
 conv=>rhs;rw [← List.map_id l]
 apply List.map_congr_left
 intro c _
 simp
theorem ofBytes_byte (s:ByteArray):∀ z∈ofBytes s,0≤z∧z<256:=by
 intro z hz
 obtain ⟨c,_,rfl⟩:=List.mem_map.1 hz
 exact ⟨by omega,by have:=c.toNat_lt;omega⟩
theorem ofBytes_len (s:ByteArray):(ofBytes s).length=s.size:=by
 unfold ofBytes;rw [List.length_map];rfl
theorem pair_build {R:Rl}:∀ (t:Ty) (c:Nat→Value),t.chain=true→(∀ i u,fldT t i=some u→∃ y:den u,RV R u y (fun j=>c (fldOff t i+j))∧InR u y)→∃ x:den t,RV R t x c∧InR t x
 | .unit,c,_,_=>⟨(),trivial,trivial⟩
 | .pair a b,c,hc,h=>by
  obtain ⟨p,p1,p2⟩:=h 0 a rfl
  obtain ⟨q,q1,q2⟩:=pair_build b (fun j=>c (a.size+j)) (by simpa [Ty.chain] using hc) fun i u hu=>by
   obtain ⟨y,y1,y2⟩:=h (i+1) u hu
   refine ⟨y,?_,y2⟩
   simp only [fldOff] at y1
   simpa [Nat.add_assoc] using y1
  refine ⟨(p,q),⟨?_,q1⟩,p2,q2⟩
  simpa [fldOff] using p1
 | .expr,c,_,h=>by
  obtain ⟨k,k1,k2⟩:=h 0 (.int .i64) rfl
  obtain ⟨n,n1,n2⟩:=h 1 (.int .i64) rfl
  obtain ⟨l,l1,l2⟩:=h 2 (.slice .expr) rfl
  obtain ⟨a,cap,b,off,us,g0,g1,g2,g3,g4,g5⟩:=l1
  have hk:∀ i (h:i<List.length l),List.getD l i (zero .expr)=(l:List XT)[i]:=fun i h=>by simp [List.getD,h]
  refine ⟨XT.mk k n l,.mk k n l c a cap b off us (by simpa [fldOff] using k1.1) (by simpa [fldOff] using n1.1) (by simpa [fldOff] using g0) g1 g2 g3 (fun i hi=>by simpa [Ty.size] using g4 i hi) (fun i hi=>by have:=g5 i hi;rw [hk i hi] at this;exact this),?_⟩
  refine .mk _ (i64_wf k2) (i64_wf n2) l2.1 fun y hy=>?_
  obtain ⟨i,hi,rfl⟩:=List.mem_iff_getElem.1 hy
  have:=l2.2 i hi
  rw [hk i hi] at this
  exact this
 | .int _,_,h,_=>by simp [Ty.chain] at h
 | .bool,_,h,_=>by simp [Ty.chain] at h
 | .str,_,h,_=>by simp [Ty.chain] at h
 | .ref,_,h,_=>by simp [Ty.chain] at h
 | .slice _,_,h,_=>by simp [Ty.chain] at h
 | .mref _ _,_,h,_=>by simp [Ty.chain] at h
 | .fnc,_,h,_=>by simp [Ty.chain] at h
 | .sref _,_,h,_=>by simp [Ty.chain] at h
 | .mp _ _,_,h,_=>by simp [Ty.chain] at h
 | .arr gw _ _,_,h,_=>by simp [Ty.chain] at h
theorem TyOK.cellsOf {T:TypeId} {t:Ty} (h:TyOK P O T t):P.cellsOf T=t.size:=by
 obtain ⟨i,h1,h2,_⟩:=h.info
 simp [Program.cellsOf,h1,h2]
theorem list_build {α:Type} (z:α) {p:Nat→α→Prop}:∀ n,(∀ i,i<n→∃ y,p i y)→∃ l:List α,l.length=n∧∀ i,i<n→p i (l.getD i z)
 | 0,_=>⟨[],rfl,fun i h=>by omega⟩
 | n+1,h=>by
  obtain ⟨l,h1,h2⟩:=list_build z n fun i hi=>h i (by omega)
  obtain ⟨y,hy⟩:=h n (by omega)
  refine ⟨l++[y],by simp [h1],fun i hi=>?_⟩
  rcases Nat.lt_or_ge i n with hl | hl
  ·have:(l++[y]).getD i z=l.getD i z:=by simp [List.getD_eq_getElem?_getD,List.getElem?_append_left (h1 ▸ hl)]
   rw [this];exact h2 i hl
  ·have e:i=n:=by omega
   subst e
   have:(l++[y]).getD i z=y:=by simp [List.getD_eq_getElem?_getD,h1]
   rw [this];exact hy
theorem trod_open (hO : OrcOK P O) : ∀ (n : Nat) (T : TypeId) (t : Ty) (cs : List Value) (d : DataW H) (ps : List MemPlace), O.ty T = some t → t.opn = true → DataW.trod enc P w 0 (fun _ => true) held n T cs = some (d, ps) →
    ∃ x:den t,RV (R0 w) t x (fun j=>cs.getD j undef)∧InR t x∧RdW t x d∧cs.length=t.size
  | 0,_,_,_,_,_,_,_,h=>by simp [DataW.trod] at h
  | n+1,T,t,cs,d,ps,hT,hn,h=>by
    have hTy:=hO.ty T t hT
    obtain ⟨D,hD,hU⟩:=hTy.und
    have hsz:=hTy.cellsOf
    have hfine:=hTy.fine
    cases t with
    | int k =>
      simp only [UndOK] at hU
      subst hU
      simp only [DataW.trod,hD] at h
      split at h <;> simp only [Option.some.injEq,TypeDesc.int.injEq,reduceCtorEq] at *
      rename_i k0 k' x e1
      subst e1
      split at h
      · rename_i hc
        obtain ⟨rfl,hw⟩:=hc
        simp only [Option.some.injEq,Prod.mk.injEq] at h
        exact ⟨x,⟨rfl,fun e=>by subst e;exact u8_wf hw⟩,hw,h.1.symm,rfl⟩
      · cases h
    | bool =>
      simp only [UndOK] at hU
      subst hU
      simp only [DataW.trod,hD] at h
      split at h <;> simp only [Option.some.injEq,Prod.mk.injEq,reduceCtorEq] at *
      rename_i b _
      exact ⟨b,rfl,trivial,h.1.symm,rfl⟩
    | str =>
      simp only [UndOK] at hU
      subst hU
      simp only [DataW.trod,hD] at h
      split at h <;> simp only [Option.some.injEq,reduceCtorEq] at *
      rename_i s _
      split at h
      · rename_i hs
        simp only [Option.some.injEq,Prod.mk.injEq] at h
        refine ⟨ofBytes s,⟨by rw [bytesOf_bytes];rfl,ofBytes_byte s⟩,⟨by rw [ofBytes_len];exact hs,ofBytes_byte s⟩,⟨s.data.toList,h.1.symm,rfl⟩,rfl⟩
      · cases h
    | ref=>simp [Ty.opn] at hn
    | sref _=>simp [Ty.opn] at hn
    | mref _ _=>simp [Ty.opn] at hn
    | fnc=>simp [Ty.opn] at hn
    | mp _ _=>simp [Ty.opn] at hn
    | slice u =>
      obtain ⟨e,rfl,he,hz⟩:=hU
      have hce:=(hO.ty e u he).cellsOf
      simp [Ty.fine] at hfine
      simp [Ty.opn] at hn
      simp only [DataW.trod,hD] at h
      split at h <;> simp only [Option.some.injEq,TypeDesc.slice.injEq,reduceCtorEq] at *
      · simp only [Option.some.injEq,Prod.mk.injEq] at h
        refine ⟨[],⟨none,0,0,0,fun _ _=>undef,rfl,Nat.le_refl _,fun _=>⟨rfl,rfl⟩,fun h=>absurd h (Nat.lt_irrefl 0),fun i h=>absurd h (Nat.not_lt_zero i),fun i h=>absurd h (Nat.not_lt_zero i)⟩,⟨by simp,fun i hi=>absurd hi (Nat.not_lt_zero i)⟩,trivial,rfl⟩
      · rename_i e0 a len cap e1
        subst e1
        split at h
        · rename_i hb
          obtain ⟨_,hlc,hcm⟩:=hb
          simp only [Option.bind_eq_some_iff,Option.map_eq_some_iff] at h
          obtain ⟨elems,hel,rest,_,hd⟩:=h
          have hsp:0<len→a=⟨a.block,a.off,none⟩:=by
            intro h0
            obtain ⟨z,hz1⟩:=mapM_some_get hel 0 h0
            simp only [Option.bind_eq_some_iff] at hz1
            obtain ⟨cs',hc1,hc2⟩:=hz1
            rw [hce] at hc1
            obtain ⟨_,hlen,hcell⟩:=World.cells?_some hc1
            have h1:=hcell 0 (by omega)
            rw [List.getElem?_eq_getElem (by omega)] at h1
            have hs:a.spot=none:=by simpa [Addr.add] using World.cell?_spot h1
            obtain ⟨ab,ao,asp⟩:=a
            simp only at hs
            subst hs;rfl
          have hx:∀ i,i<len→∃ y:den u,(∃ us:Nat→Value,(∀ j,j<u.size→w.cell? ⟨a.block,a.off+i * u.size+j,none⟩=some (us j))∧RV (R0 w) u y us)∧InR u y:=by
            intro i hi
            obtain ⟨z,hz1⟩:=mapM_some_get hel i hi
            simp only [Option.bind_eq_some_iff] at hz1
            obtain ⟨cs',hc1,hc2⟩:=hz1
            obtain ⟨y,y1,y2,_,y4⟩:=trod_open hO n e u cs' z.1 z.2 he hn hc2
            rw [hce] at hc1
            obtain ⟨_,hlen,hcell⟩:=World.cells?_some hc1
            refine ⟨y,⟨fun j=>cs'.getD j undef,fun j hj=>?_,y1⟩,y2⟩
            have h1:=hcell j hj
            rw [List.getElem?_eq_getElem (by omega)] at h1
            have h1':w.cell? (((⟨a.block,a.off,none⟩:Addr).add (i * u.size)).add j)=some cs'[j]:=by rw [← hsp (by omega)];exact h1
            simp only [Go.WideShapes.add_plain] at h1'
            rw [h1']
            simp [List.getD,show j<cs'.length by omega]
          obtain ⟨l,hl1,hl2⟩:=list_build (zero u) len hx
          subst hl1
          obtain ⟨us,hus⟩:∃ us:Nat→Nat→Value,∀ i,i<l.length→(∀ j,j<u.size→w.cell? ⟨a.block,a.off+i * u.size+j,none⟩=some (us i j))∧RV (R0 w) u (l.getD i (zero u)) (us i):=by
            have:∀ i,∃ us:Nat→Value,i<l.length→(∀ j,j<u.size→w.cell? ⟨a.block,a.off+i * u.size+j,none⟩=some (us j))∧RV (R0 w) u (l.getD i (zero u)) us:=by
              intro i
              by_cases hi:i<l.length
              · obtain ⟨⟨us,h1,h2⟩,_⟩:=hl2 i hi;exact ⟨us,fun _=>⟨h1,h2⟩⟩
              · exact ⟨fun _=>undef,fun h=>absurd h hi⟩
            exact ⟨fun i=>Classical.choose (this i),fun i=>Classical.choose_spec (this i)⟩
          refine ⟨l,⟨some a,cap,a.block,a.off,us,rfl,hlc,nofun,fun h0=>by rw [← hsp h0],fun i hi j hj=>⟨(hus i hi).1 j hj,?_⟩,fun i hi=>(hus i hi).2⟩,⟨by omega,fun i hi=>(hl2 i hi).2⟩,trivial,rfl⟩
          have:=(hus i hi).1 j hj
          show a.block<w.heap.size
          unfold World.cell? at this
          rcases Nat.lt_or_ge a.block w.heap.size with h | h
          · exact h
          · simp [Array.getElem?_eq_none h] at this
        · cases h
    | arr gw k u =>
      obtain ⟨e,rfl,he,hz,_⟩:=hU
      have hce:=(hO.ty e u he).cellsOf
      simp [Ty.fine] at hfine
      simp [Ty.opn] at hn
      simp only [DataW.trod,hD] at h
      split at h
      · rename_i hl
        rw [hsz] at hl
        simp only [Option.map_eq_some_iff] at h
        obtain ⟨xs,hxs,hd⟩:=h
        have hlen:=mapM_some_length hxs
        simp only [List.length_range] at hlen
        simp only [Ty.size] at hl
        have hx:∀ i,i<k→∃ y:den u,RV (R0 w) u y (fun j=>cs.getD (i * u.size+j) undef)∧InR u y∧∀ z,xs[i]?=some z→RdW u y z.1:=by
          intro i hi
          obtain ⟨z,hz1⟩:=mapM_some_get hxs i hi
          have hz2:=hz1
          rw [hce] at hz1
          obtain ⟨y,y1,y2,y3,_⟩:=trod_open hO n e u _ z.1 z.2 he hn hz1
          refine ⟨y,RV.congr u _ _ _ (fun j hj=>?_) y1,y2,fun z' hz'=>?_⟩
          · simp only [List.getD_eq_getElem?_getD,List.getElem?_take,List.getElem?_drop,if_pos hj]
          · have:=mapM_some_at hxs i hi z' hz'
            rw [this] at hz2
            cases hz2
            exact y3
        obtain ⟨l,hl1,hl2⟩:=list_build (zero u) k hx
        simp only [Option.some.injEq,Prod.mk.injEq] at hd
        refine ⟨l,⟨hl1,fun i hi=>(hl2 i hi).1⟩,fun i hi=>(hl2 i hi).2.1,⟨xs.map (·.1),hd.1.symm,by simp [hlen],fun i hi e' he'=>?_⟩,by simp only [Ty.size];exact hl⟩
        simp only [List.getElem?_map,Option.map_eq_some_iff] at he'
        obtain ⟨z,hz1,rfl⟩:=he'
        exact (hl2 i hi).2.2 z hz1
      · cases h
    | unit =>
      obtain ⟨fs,rfl,hf,_⟩:=hU
      simp only [DataW.trod,hD] at h
      split at h
      · rename_i hl
        rw [hsz] at hl
        exact ⟨(),trivial,trivial,trivial,hl⟩
      · cases h
    | pair a b =>
      obtain ⟨fs,rfl,hf,hch,_⟩:=hU
      exact struct_case hO hf hch (fun i u hu=>noRef_fld (.pair a b) i u hn hu) hD hsz h (fun T' t' cs' d' ps'=>trod_open hO n T' t' cs' d' ps')
    | expr =>
      obtain ⟨fs,rfl,hf,hch,_⟩:=hU
      exact struct_case hO hf hch (fun i u hu=>noRef_fld .expr i u hn hu) hD hsz h (fun T' t' cs' d' ps'=>trod_open hO n T' t' cs' d' ps')
  where
  mapM_some_length {α β:Type} {f:α→Option β}:∀ {l:List α} {r:List β},l.mapM f=some r→r.length=l.length
    | [],r,h=>by simp at h;subst h;rfl
    | a::l,r,h=>by
      simp only [List.mapM_cons,Option.pure_def,Option.bind_eq_bind,Option.bind_eq_some_iff] at h
      obtain ⟨b,_,m,hm,e⟩:=h
      cases e
      simp [mapM_some_length hm]
  mapM_get {α β:Type} {f:α→Option β}:∀ {l:List α} {r:List β} (i:Nat) (a:α),l.mapM f=some r→l[i]?=some a→∃ b,f a=some b∧r[i]?=some b
    | [],r,i,a,h,g=>by simp at g
    | x::l,r,0,a,h,g=>by
      simp only [List.mapM_cons,Option.pure_def,Option.bind_eq_bind,Option.bind_eq_some_iff] at h
      obtain ⟨b,hb,m,hm,e⟩:=h
      cases e
      simp at g
      subst g
      exact ⟨b,hb,rfl⟩
    | x::l,r,i+1,a,h,g=>by
      simp only [List.mapM_cons,Option.pure_def,Option.bind_eq_bind,Option.bind_eq_some_iff] at h
      obtain ⟨b,hb,m,hm,e⟩:=h
      cases e
      exact mapM_get i a hm (by simpa using g)
  mapM_some_get {β:Type} {f:Nat→Option β} {n:Nat} {r:List β} (h:(List.range n).mapM f=some r) (i:Nat) (hi:i<n):∃ b,f i=some b:=by
    obtain ⟨b,hb,_⟩:=mapM_get i i h (by simp [hi])
    exact ⟨b,hb⟩
  mapM_some_at {β:Type} {f:Nat→Option β} {n:Nat} {r:List β} (h:(List.range n).mapM f=some r) (i:Nat) (hi:i<n) (b:β) (hb:r[i]?=some b):f i=some b:=by
    obtain ⟨b',h1,h2⟩:=mapM_get i i h (by simp [hi])
    rw [hb] at h2;cases h2;exact h1
  noRef_fld:∀ (t:Ty) (i:Nat) (u:Ty),t.opn=true→fldT t i=some u→u.opn=true
    | .pair a b,0,u,h,e=>by simp [Ty.opn] at h;simp only [fldT,Option.some.injEq] at e;subst e;exact h.1
    | .pair a b,i+1,u,h,e=>by simp [Ty.opn] at h;simp only [fldT] at e;exact noRef_fld b i u h.2 e
    | .expr,0,u,h,e=>by simp [fldT] at e;subst e;rfl
    | .expr,1,u,h,e=>by simp [fldT] at e;subst e;rfl
    | .expr,2,u,h,e=>by simp [fldT] at e;subst e;rfl
    | .expr,i+3,u,h,e=>by simp [fldT] at e
    | .int _,_,u,h,e=>by simp [fldT] at e
    | .bool,_,u,h,e=>by simp [fldT] at e
    | .str,_,u,h,e=>by simp [fldT] at e
    | .unit,_,u,h,e=>by simp [fldT] at e
    | .ref,_,u,h,e=>by simp [fldT] at e
    | .slice _,_,u,h,e=>by simp [fldT] at e
    | .arr gw _ _,_,u,h,e=>by simp [fldT] at e
  struct_case (hO : OrcOK P O) {n : Nat} {T : TypeId} {t : Ty} {fs : Array Field} {cs : List Value} {d : DataW H} {ps : List MemPlace} (hf : FieldsOK O t fs) (hch : t.chain = true) (hnr : ∀ i u, fldT t i = some u → u.opn = true) (hD : P.underlying T = some (.struct fs)) (hsz : P.cellsOf T = t.size)
      (h:DataW.trod enc P w 0 (fun _=>true) held (n+1) T cs=some (d,ps)) (ih:∀ (T':TypeId) (t':Ty) (cs':List Value) (d':DataW H) (ps':List MemPlace),O.ty T'=some t'→t'.opn=true→DataW.trod enc P w 0 (fun _=>true) held n T' cs'=some (d',ps')→∃ x:den t',RV (R0 w) t' x (fun j=>cs'.getD j undef)∧InR t' x∧RdW t' x d'∧cs'.length=t'.size) :
      ∃ x:den t,RV (R0 w) t x (fun j=>cs.getD j undef)∧InR t x∧RdW t x d∧cs.length=t.size:=by
    simp only [DataW.trod,hD] at h
    split at h
    · rename_i hl
      rw [hsz] at hl
      simp only [Option.map_eq_some_iff] at h
      obtain ⟨xs,hxs,hd⟩:=h
      obtain ⟨x,x1,x2⟩:=pair_build (R:=R0 w) t (fun j=>cs.getD j undef) hch fun i u hu=>by
        cases hfi:fs[i]? with
        | none=>rw [hf.2 i hfi] at hu;cases hu
        | some f =>
          obtain ⟨u',g1,g2,g3,_⟩:=hf.1 i f hfi
          rw [hu] at g1
          cases g1
          obtain ⟨z,hz,_⟩:=mapM_get i f hxs (by simpa using hfi)
          have hce:=(hO.ty _ _ g2).cellsOf
          rw [hce,g3] at hz
          obtain ⟨y,y1,y2,_⟩:=ih f.type u _ z.1 z.2 g2 (hnr i u hu) hz
          refine ⟨y,RV.congr u _ _ _ (fun j hj=>?_) y1,y2⟩
          simp only [List.getD_eq_getElem?_getD,List.getElem?_take,List.getElem?_drop,if_pos hj]
      refine ⟨x,x1,x2,?_,hl⟩
      cases t <;> first | trivial | (simp [Ty.chain] at hch)
    · cases h
end Go.Am
namespace Go.Am
variable {P:Program} {O:Orc} {w:World} {H:Type} {enc:TypeId×Value→H} {held:Bool}
theorem okWide_one {T:TypeId} {t:Ty} (hTy:TyOK P O T t) (ha:t.agg=false) {r:Reach} {base:Nat} {v:Value} (hn:t.opn=true) (h:Value.okWide P w r base T v):v.cells=#[v]:=by
 obtain ⟨D,hD,hU⟩:=hTy.und
 cases t with
 | int k =>
  simp only [UndOK] at hU;subst hU
  simp only [Value.okWide,hD,Cell.okWide,Cell.ok] at h
  cases v <;> first | rfl | (simp at h)
 | bool =>
  simp only [UndOK] at hU;subst hU
  simp only [Value.okWide,hD,Cell.okWide,Cell.ok] at h
  cases v <;> first | rfl | (simp at h)
 | str =>
  simp only [UndOK] at hU;subst hU
  simp only [Value.okWide,hD,Cell.okWide,Cell.ok] at h
  cases v <;> first | rfl | (simp at h)
 | slice u =>
  obtain ⟨e,rfl,_⟩:=hU
  simp only [Value.okWide,hD,Cell.okWide,Cell.ok] at h
  cases v <;> first | rfl | (simp at h)
 | ref=>simp [Ty.opn] at hn
 | sref _=>simp [Ty.opn] at hn
 | mref _ _=>simp [Ty.opn] at hn
 | fnc=>simp [Ty.opn] at hn
 | mp _ _=>simp [Ty.opn] at hn
 | _=>simp [Ty.agg] at ha
theorem okWide_agg {T:TypeId} {t:Ty} (hTy:TyOK P O T t) (ha:t.agg=true) {r:Reach} {base:Nat} {v:Value} (h:Value.okWide P w r base T v):∃ cs,v=.agg cs:=by
 obtain ⟨D,hD,hU⟩:=hTy.und
 cases t with
 | unit=>obtain ⟨fs,rfl,_⟩:=hU;simp only [Value.okWide,hD] at h;obtain ⟨cs,h,_⟩:=h;exact ⟨cs,h⟩
 | pair a b=>obtain ⟨fs,rfl,_⟩:=hU;simp only [Value.okWide,hD] at h;obtain ⟨cs,h,_⟩:=h;exact ⟨cs,h⟩
 | expr=>obtain ⟨fs,rfl,_⟩:=hU;simp only [Value.okWide,hD] at h;obtain ⟨cs,h,_⟩:=h;exact ⟨cs,h⟩
 | arr n u=>obtain ⟨e,rfl,_⟩:=hU;simp only [Value.okWide,hD] at h;obtain ⟨cs,h,_⟩:=h;exact ⟨cs,h⟩
 | _=>simp [Ty.agg] at ha
theorem open_arg (hO:OrcOK P O) {T:TypeId} {t:Ty} {r:Reach} {base:Nat} {v:Value} {d:DataW H} {ps:List MemPlace} (hT:O.ty T=some t) (hn:t.opn=true) (hval:Value.okWide P w r base T v) (h:DataW.Trod enc P w 0 (fun _=>true) true T v d ps) :
  ∃ x:den t,VR (R0 w) O (.tv [] t x) v∧InR t x:=by
 obtain ⟨n,h⟩:=h
 obtain ⟨x,h1,h2,_,h4⟩:=trod_open hO n T t _ d ps hT hn h
 have hTy:=hO.ty T t hT
 refine ⟨x,?_,h2⟩
 simp only [VR]
 refine ⟨hTy.fine,fun ha=>okWide_agg hTy ha hval,fun ha=>okWide_one hTy ha hn hval,by simpa using h4,?_⟩
 refine RV.congr t _ _ _ (fun j _=>?_) h1
 simp [cellsF,List.getD_eq_getElem?_getD,Array.getD_eq_getD_getElem?]
def ofW:(t:Ty)→DataW H→Option (den t)
 | .int k,.lit (.int k' x)=>if k'=k then some x else none
 | .bool,.lit (.bool x)=>some x
 | .str,.lit (.string s)=>some (s.map fun c=>(c.toNat:Int))
 | .arr gw n t,.agg ds=>if ds.length=n then ds.mapM (ofW t) else none
 | _,_=>none
theorem mapM_get' {α β:Type} {f:α→Option β}:∀ {l:List α} {r:List β},l.mapM f=some r→r.length=l.length∧∀ (i:Nat) (a:α),l[i]?=some a→∃ b,f a=some b∧r[i]?=some b
 | [],r,h=>by simp at h;subst h;exact ⟨rfl,fun i a g=>by simp at g⟩
 | x::l,r,h=>by
  simp only [List.mapM_cons,Option.pure_def,Option.bind_eq_bind,Option.bind_eq_some_iff] at h
  obtain ⟨b,hb,m,hm,e⟩:=h
  cases e
  obtain ⟨h1,h2⟩:=mapM_get' hm
  refine ⟨by simp [h1],fun i a g=>?_⟩
  cases i with
  | zero=>simp at g;subst g;exact ⟨b,hb,rfl⟩
  | succ i=>exact h2 i a (by simpa using g)
theorem ofW_eq {R:Rl}:∀ (t:Ty) (x y:den t) (d:DataW H) (c:Nat→Value),RdW t x d→RV R t x c→ofW t d=some y→x=y
 | .int k,x,y,d,c,h,_,e=>by
  simp only [RdW] at h
  subst h
  simp only [ofW,if_true,Option.some.injEq] at e
  exact e
 | .bool,x,y,d,c,h,_,e=>by
  simp only [RdW] at h
  subst h
  simp only [ofW,Option.some.injEq] at e
  exact e
 | .str,x,y,d,c,h,_,e=>by
  obtain ⟨s,rfl,rfl⟩:=h
  simp only [ofW,Option.some.injEq] at e
  exact e
 | .arr gw n t,x,y,d,c,h,hv,e=>by
  obtain ⟨ds,rfl,h1,h2⟩:=h
  simp only [ofW,h1,if_true] at e
  obtain ⟨g1,g2⟩:=mapM_get' e
  obtain ⟨v1,v2⟩:=hv
  refine List.ext_getElem (by rw [v1,g1,h1]) fun i hx hy=>?_
  have hi:i<n:=by rw [← v1];exact hx
  have hd:ds[i]?=some (ds[i]'(by omega)):=List.getElem?_eq_getElem _
  obtain ⟨b,b1,b2⟩:=g2 i _ hd
  have e1:List.getD x i (zero t)=(x:List (den t))[i]:=by simp [List.getD,hx]
  have:=ofW_eq t _ b _ _ (h2 i hi _ hd) (v2 i hi) b1
  rw [e1] at this
  rw [this]
  rw [List.getElem?_eq_getElem hy] at b2
  exact (Option.some.inj b2).symm
 | .unit,_,_,d,_,_,_,e=>by simp [ofW] at e
 | .ref,_,_,d,_,_,_,e=>by simp [ofW] at e
 | .expr,_,_,d,_,_,_,e=>by simp [ofW] at e
 | .slice _,_,_,d,_,_,_,e=>by simp [ofW] at e
 | .mref _ _,_,_,d,_,_,_,e=>by simp [ofW] at e
 | .fnc,_,_,d,_,_,_,e=>by simp [ofW] at e
 | .sref _,_,_,d,_,_,_,e=>by simp [ofW] at e
 | .mp _ _,_,_,d,_,_,_,e=>by simp [ofW] at e
 | .pair _ _,_,_,d,_,_,_,e=>by simp [ofW] at e
theorem glob_open (hO:OrcOK P O) {T:TypeId} {t:Ty} {g n:Nat} {cs:Array Value} {d:DataW H} {ps:List MemPlace} {x:den t} (hT:O.ty T=some t) (hn:t.opn=true) (hc:∀ j,w.cell? ⟨g,j,none⟩=cs[j]?)
  (h:DataW.trod enc P w 0 (fun _=>true) held n T cs.toList=some (d,ps)) (hx:ofW t d=some x):t.noRef=true∧t.fine=true∧∃ us,At (R0 w) g 0 t.size us∧RV (R0 w) t x us:=by
 obtain ⟨y,h1,h2,h3,h4⟩:=trod_open hO n T t _ d ps hT hn h
 have:=ofW_eq t y x d _ h3 h1 hx
 subst this
 refine ⟨opn_noRef _ hn,(hO.ty T t hT).fine,_,fun j hj=>?_,h1⟩
 have hj':j<cs.size:=by rw [← h4] at hj;simpa using hj
 have e:w.cell? ⟨g,j,none⟩=some cs[j]:=by rw [hc,Array.getElem?_eq_getElem hj']
 refine ⟨by simp [R0,hc,List.getD_eq_getElem?_getD,hj'],?_⟩
 rw [Nat.zero_add]
 exact World.block_lt_of_cell? w ⟨g,j,none⟩ e
end Go.Am
namespace Go.Am
open Go.ChangeShapes Go.WideShapes Go.ChangeAt Go.RowKit
theorem trodAll_below {H:Type} {enc:TypeId×Value→H} {P:Program} (hl:laidOutB P=true) {W W':World} (hb:Below W.heap.size W W') :
  ∀ (ts:List TypeId) (vs:List Value) (ds:List (DataW H)) (ps:List MemPlace),(∀ t∈ts,P.readableRec t=true∧t<P.types.size) →
   DataW.TrodAll enc P W 0 (fun _=>true) true ts vs ds ps→(∀ x∈ps,x.block<W.heap.size) →
   DataW.TrodAll enc P W' 0 (fun b=>decide (b<W.heap.size)) true ts vs ds ps
 | [],[],[],_,_,h,_=>h
 | t::ts,v::vs,d::ds,ps,hr,h,hlt=>by
  obtain ⟨p,q,h1,h2,rfl⟩:=h
  have hlt1:∀ x∈p,x.block<W.heap.size:=fun x hx=>hlt x (List.mem_append.2 (.inl hx))
  have hlt2:∀ x∈q,x.block<W.heap.size:=fun x hx=>hlt x (List.mem_append.2 (.inr hx))
  exact ⟨p,q,Below.trod hl (hr t (List.mem_cons_self ..)).1 (hr t (List.mem_cons_self ..)).2 h1 hb hlt1,
   trodAll_below hl hb ts vs ds q (fun t ht=>hr t (List.mem_cons_of_mem _ ht)) h2 hlt2,rfl⟩
 | [],_::_,_,_,_,h,_=>by cases h
 | [],[],_::_,_,_,h,_=>by cases h
 | _::_,[],_,_,_,h,_=>by cases h
 | _::_,_::_,[],_,_,h,_=>by cases h
theorem law_post {H:Type} {enc:TypeId×Value→H} {P:Program} (hl:laidOutB P=true) {f:Func} {s:ChangeSpec} {tb:TypeId} (htb:P.underlying tb=some .bool) (hres:f.resultTypes=#[tb])
  (hv:s.vars=[]) (hr:∀ t∈f.params.toList,P.readableRec t=true∧t<P.types.size) {W W':World} {args:Array Value} {ds gs:List (DataW H)} {before:List MemPlace}
  (hW:DataW.Whole enc P f.params.toList s.vars false W args.toList ds gs before)
  (hs:s.fn H (ds++gs)={ results:=[.lit (.bool true)],args:=ds }) (hb:Below W.heap.size W W') :
  s.post enc P f false true false false W args (.bool true) W':=by
 have hW0:=hW
 obtain ⟨p,q,hA,hV,rfl,_,_⟩:=hW
 have hlt:∀ x∈p,x.block<W.heap.size:=fun x hx=>hW0.lt x (List.mem_append.2 (.inl hx))
 refine ⟨ds,gs,p++q,[],p,[],hW0,?_,?_,?_,hb.frame _,fun h=>by cases h⟩
 ·rw [hs,hres]
  exact ⟨[],[],shut_bool htb true,rfl,rfl⟩
 ·rw [hs]
  exact trodAll_below hl hb _ _ _ _ hr hA hlt
 ·rw [hs,hv]
  exact rfl
def ArgsAre (P:Program) (O:Orc) (W:World):List TypeId→List Value→List AV→Prop
 | [],[],[]=>True
 | T::ts,v::vs,a::l=>(∃ t x,O.ty T=some t∧a=.tv [] t x∧InR t x∧VR (R0 W) O a v)∧ArgsAre P O W ts vs l
 | _,_,_=>False
theorem args_open {H:Type} {enc:TypeId×Value→H} {P:Program} {O:Orc} {W:World} (hO:OrcOK P O):∀ (ts:List TypeId) (vs:List Value) (ds:List (DataW H)) (ps:List MemPlace),(∀ T∈ts,∃ t,O.ty T=some t∧t.opn=true) →
  (∀ (j:Nat) t v,ts[j]?=some t→vs[j]?=some v→∃ base r,Value.okWide P W r base t v)→DataW.TrodAll enc P W 0 (fun _=>true) true ts vs ds ps→∃ l,ArgsAre P O W ts vs l∧ds.length=ts.length
 | [],[],[],_,_,_,_=>⟨[],trivial,rfl⟩
 | T::ts,v::vs,d::ds,ps,hn,hv,h=>by
  obtain ⟨p,q,h1,h2,rfl⟩:=h
  obtain ⟨t,ht,hnr⟩:=hn T (List.mem_cons_self ..)
  obtain ⟨base,r,hok⟩:=hv 0 T v rfl rfl
  obtain ⟨x,hx,hi⟩:=open_arg hO ht hnr hok h1
  obtain ⟨l,hl,hd⟩:=args_open hO ts vs ds q (fun T hT=>hn T (List.mem_cons_of_mem _ hT)) (fun j t v h1 h2=>hv (j+1) t v (by simpa using h1) (by simpa using h2)) h2
  exact ⟨_::l,⟨⟨t,x,ht,rfl,hi,hx⟩,hl⟩,by simp [hd]⟩
 | [],_::_,_,_,_,_,h=>by cases h
 | [],[],_::_,_,_,_,h=>by cases h
 | _::_,[],_,_,_,_,h=>by cases h
 | _::_,_::_,[],_,_,_,h=>by cases h
theorem ArgsAre.vrl {P:Program} {O:Orc} {W:World}:∀ {ts:List TypeId} {vs:List Value} {l:List AV},ArgsAre P O W ts vs l→VRL (R0 W) O l vs∧(∀ a∈l,a.own=[])∧l.length=vs.length
 | [],[],[],_=>⟨rfl,nofun,rfl⟩
 | _::ts,v::vs,a::l,h=>by
  obtain ⟨⟨t,x,_,ha,_,hv⟩,h2⟩:=h
  obtain ⟨g1,g2,g3⟩:=h2.vrl
  refine ⟨by simp only [VRL];exact ⟨v,vs,rfl,hv,g1⟩,fun b hb=>?_,by simp [g3]⟩
  rcases List.mem_cons.1 hb with rfl | hb
  ·rw [ha];rfl
  ·exact g2 b hb
 | [],[],_::_,h=>by cases h
 | [],_::_,_,h=>by cases h
 | _::_,[],_,h=>by cases h
 | _::_,_::_,[],h=>by cases h
theorem ArgsAre.cons {P:Program} {O:Orc} {W:World} {T:TypeId} {ts:List TypeId} {vs:List Value} {l:List AV} (h:ArgsAre P O W (T::ts) vs l):∃ t x l' vs',O.ty T=some t∧l=.tv [] t x::l'∧InR t x∧ArgsAre P O W ts vs' l':=by
 match vs,l,h with
 | v::vs,a::l,⟨⟨t,x,ht,ha,hi,_⟩,h2⟩=>exact ⟨t,x,l,vs,ht,by rw [ha],hi,h2⟩
theorem ArgsAre.nil {P:Program} {O:Orc} {W:World} {vs:List Value} {l:List AV} (h:ArgsAre P O W [] vs l):l=[]:=by
 match vs,l,h with
 | [],[],_=>rfl
theorem row_contract {H:Type} {enc:TypeId×Value→H} {P:Program} {O:Orc} (hP:ProgOK P O) (hl:laidOutB P=true) {f:FuncId} {fn:Func} {s:ChangeSpec} {tb:TypeId} (htb:P.underlying tb=some .bool) (hres:fn.resultTypes=#[tb])
  (hv:s.vars=[]) (hr:∀ t∈fn.params.toList,P.readableRec t=true∧t<P.types.size) (hts:∀ T∈fn.params.toList,∃ t,O.ty T=some t∧t.opn=true)
  (hfn:∀ ds:List (DataW H),ds.length=fn.params.size→s.fn H ds={ results:=[.lit (.bool true)],args:=ds })
  (hall:∀ (W:World) (vs:List Value) (l:List AV),ArgsAre P O W fn.params.toList vs l→∃ k own h',callF P O k f l []=some (.tv own .bool true,h'))
  (W:World) (base:Nat) (args:Array Value) (ds gs:List (DataW H)) (before:List MemPlace) (hg:GlobAt O W)
  (hval:∀ (j:Nat) t v,fn.params[j]?=some t→args[j]?=some v→Value.okWide P W .any base t v)
  (hW:DataW.Whole enc P fn.params.toList s.vars false W args.toList ds gs before) :
  Calls P f args W fun e W'=>∃ v,e=.returned v∧s.post enc P fn false true false false W args v W':=by
 have hW':=hW
 obtain ⟨p,q,hA,hV,rfl,hfz,hnd⟩:=hW
 rw [hv] at hV
 obtain ⟨l,hl1,hd⟩:=args_open hP.orc _ _ _ _ hts (fun j t v h1 h2=>⟨base,.any,hval j t v (by simpa using h1) (by simpa using h2)⟩) hA
 obtain ⟨g1,g2,g3⟩:=hl1.vrl
 obtain ⟨k,own,h',he⟩:=hall W _ l hl1
 have hgs:gs=[]:=by
  cases gs with
  | nil=>rfl
  | cons g r=>exact absurd hV (by intro h;cases h)
 subst hgs
 refine (law_calls hP (by rw [g3];simp) g1 g2 hg he).mono fun e W' h=>?_
 obtain ⟨he',hb⟩:=h
 exact ⟨_,he',law_post hl htb hres hv hr hW' (by rw [List.append_nil];exact hfn ds (by simpa using hd)) hb⟩
end Go.Am
namespace Go.Am.Pr
end Go.Am.Pr
namespace Go.Am
open Go.Am.Pr
def clonePrim (t:Ty):List AV→Option AV
 | [a]=>(asT (.slice t) a).bind fun l=>if List.length l≤bigN then some (.tv [[]] (.slice t) l) else none
 | _=>none
theorem asT_tv {t:Ty} {a:AV} {x:den t} (h:asT t a=some x):∃ own,a=.tv own t x:=by
 unfold asT at h
 split at h
 ·split at h
  ·rename_i e
   subst e
   cases h
   exact ⟨_,rfl⟩
  ·cases h
 ·cases h
theorem clonePrim_some {t:Ty} {args:List AV} {r:AV} (h:clonePrim t args=some r):∃ own l,args=[.tv own (.slice t) l]∧List.length l≤bigN∧r=.tv [[]] (.slice t) l:=by
 unfold clonePrim at h
 split at h
 ·simp only [Option.bind_eq_some_iff] at h
  obtain ⟨l,h1,h2⟩:=h
  obtain ⟨own,rfl⟩:=asT_tv h1
  split at h2
  ·rename_i hl;cases h2;exact ⟨own,l,rfl,hl,rfl⟩
  ·cases h2
 ·cases h
end Go.Am
namespace Go.Am
variable {P:Program} {O:Orc} {FB:Nat→Nat→Prop} {w:World} {ι:Key→Nat}
open Go.Am.Pr
end Go.Am
namespace Go.Am
variable {P:Program} {O:Orc}
theorem run_eql_nilS {T e:TypeId} {a:Option Addr} {n c:Nat} {w:World} (hu:P.underlying T=some (.slice e)):(binOp .eql T (.slice a n c) (.slice none 0 0)).run P w=.ok (.bool a.isNone) w:=by
 have he1:(Op.equal T (.slice a n c) (.slice none 0 0)).run P w=.ok a.isNone w:=by
  have key:∀ n':Nat,(Op.equalIn (n'+1) T (.slice a n c) (.slice none 0 0)).run P w=.ok a.isNone w:=by
   intro n'
   cases a <;> simp [Op.equalIn,run_und hu]
  exact key 9999
 simp [binOp,he1]
def cloneOps (T:TypeId) (p:String):Array Oper:=#[{ dst:=some 5,op:=Op.buildSlice T 0 #[],type:=T,pos:=p,after:=#[],guard:=none },
 { dst:=some 6,op:=Op.move (Operand.tmp 0),type:=T,pos:=p,after:=#[],guard:=none },
 { dst:=some 7,op:=Op.call { callee:=Callee.builtin Builtin.append,args:=#[Operand.tmp 5,Operand.tmp 6],argTypes:=#[T,T] },type:=T,pos:=p,after:=#[{ on:=0,ground:=Ground.data },{ on:=1,ground:=Ground.data }],guard:=none },
 { dst:=some 2,op:=Op.assign (Operand.tmp 7),type:=T,pos:=p,after:=#[{ on:=2,ground:=Ground.data },{ on:=2,ground:=Ground.chain },{ on:=0,ground:=Ground.phase },{ on:=1,ground:=Ground.phase },{ on:=2,ground:=Ground.phase }],guard:=none }]
def cloneCode (T:TypeId) (p:String):Code:=(Code.region 3 (cloneOps T p) false).seq Code.ret
def cloneAct (v:Value):Act:={ tmps:=#[v,undef,.slice none 0 0,v,.bool false,undef,undef,undef],defers:=[] }
structure CloneTab (O:Orc) (f:FuncId):Prop where
 tk:O.take f 3 1=false∧O.take f 3 2=true∧O.take f 3 3=true
 mks:∀ i,O.mrk f 3 i=false
def cloneSt (t:Ty) (l:List (den t)) (h:Heap):St:=⟨[.tv [] (.slice t) l,.no,.any,.tv [] (.slice t) l,.tv [] .bool false,.no,.no,.no],h⟩
theorem clone_steps {call:CallF} {f:FuncId} {T:TypeId} {p:String} {t:Ty} {l:List (den t)} {h:Heap} (hc:CloneTab O f) (hT:O.ty T=some (.slice t)) (hl:l.length≤bigN) :
  ∃ e,steps O call false f 3 (cloneOps T p) (List.range (cloneOps T p).size) (cloneSt t l h)=some ⟨e,h⟩∧e.getD 2 .any=.tv [[]] (.slice t) l:=by
 obtain ⟨k1,k2,k3⟩:=hc.tk
 refine ⟨[.tv [] (.slice t) l,.no,.tv [[]] (.slice t) l,.tv [] (.slice t) l,.tv [] .bool false,.tv [] (.slice t) [],.tv [] (.slice t) l,.tv [] (.slice t) l],?_,rfl⟩
 simp [slTy,cloneOps,cloneSt,List.range,List.range.loop,steps,step,stepG,exec,exec0,hc.mks,k1,k2,k3,hT,St.app,St.get,buildSl,takeV,callO,appV,hl,AV.drop,val]
theorem clone_ok (hO:OrcOK P O) (hm:P.follows .mixedOrders=true) {f:FuncId} {fn:Func} {T:TypeId} {t:Ty} {p:String} (hc:CloneTab O f) (hT:O.ty T=some (.slice t)) (hres:fn.results=#[.tmp 2])
  (hb:hasBody P f) (hnil:∀ w,Calls P f #[.slice none 0 0] w fun e w'=>e=.returned (.slice none 0 0)∧w'=w)
  (hsome:∀ a n c w Q,(cloneCode T p).wp P (bodyPost P fn Q) (cloneAct (.slice (some a) n c)) w→Calls P f #[.slice (some a) n c] w Q)
  {l:List (den t)} (hl:l.length≤bigN) (FB:Nat→Nat→Prop) (w:World) (h:Heap) (ι:Key→Nat) (vs:Array Value) {own:List (List Nat)} (hvs:1=vs.size) (H:Rel O FB w ⟨[.tv own (.slice t) l],h⟩ (tmArgs vs) ι) :
  Calls P f vs w fun e w'=>∃ v ι',e=.returned v∧Goes O FB w ⟨[.tv own (.slice t) l],h⟩ (tmArgs vs) ι w' ⟨[.tv [[]] (.slice t) l],h⟩ (fun _=>v) ι':=by
 obtain ⟨vs⟩:=vs
 match vs,hvs with
 | [v],_=>?_
 have h0:=H.vr 0
 have e0:(⟨[.tv own (.slice t) l],h⟩:St).get 0=.tv own (.slice t) l:=rfl
 rw [e0] at h0
 simp only [VR] at h0
 have h0':VT (rlOf w FB ⟨[.tv own (.slice t) l],h⟩ (tmArgs ⟨[v]⟩) ι) (.slice t) l v:=h0
 obtain ⟨a,cap,b,off,us,hv,g1,g2,g3,g4,g5⟩:=h0'.slice
 cases a with
 | none =>
  obtain ⟨z1,z2⟩:=g2 rfl
  rw [z1,z2] at hv
  subst hv
  have hl0:l=[]:=List.length_eq_zero_iff.1 z1
  subst hl0
  refine (hnil w).mono fun e w' hq=>?_
  obtain ⟨rfl,rfl⟩:=hq
  refine ⟨_,ι,rfl,?_⟩
  have s1:=H.set 0 (.tv [[]] (.slice t) []) (.slice none 0 0) (by simp only [VR];exact h0') (fun own' u x e q hq=>by
   injection e with e1 e2 _
   subst e1;subst e2
   simp only [List.mem_singleton] at hq
   subst hq
   simp [regAt,pTy,pOff,cellsF,Value.cells])
  have g:=s1.rel.ends (r:=.tv [[]] (.slice t) []) (v:=.slice none 0 0) (s1.rel.vr 0) (.inl ⟨0,rfl,rfl⟩)
  exact Goes.trans H ⟨s1,Hist.refl _ _,fun _ _=>KGo.of ⟨rfl,rfl⟩⟩ g
 | some ad =>
  subst hv
  refine hsome _ _ _ _ _ ?_
  have hget:∀ i,(cloneSt t l h).get i=if i=0∨i=3 then .tv [] (.slice t) l else if i=4 then .tv [] .bool false else if i=2∨8≤i then .any else .no:=by
   intro i
   match i with
   | 0 | 1 | 2 | 3 | 4 | 5 | 6 | 7=>rfl
   | n+8 =>
    rw [if_neg (by omega),if_neg (by omega),if_pos (by omega)]
    simp [cloneSt,St.get]
  have hown:∀ i own' t' x',(cloneSt t l h).get i=.tv own' t' x'→own'=[]:=by
   intro i own' t' x' e
   rw [hget] at e
   split at e
   ·cases e;rfl
   ·split at e
    ·cases e;rfl
    ·split at e <;> cases e
  have S1:=H.env (cloneSt t l h).env (tmOf (cloneAct (.slice (some ad) (List.length l) cap))) (fun i=>?_) (fun i p x e=>?_) (fun i p i' p' b lo lo' e _=>?_) (fun i own' u x e q hq=>?_)
  ·have H1:Rel O FB w (cloneSt t l h) (tmOf (cloneAct (.slice (some ad) (List.length l) cap))) ι:=S1.rel
   obtain ⟨e,he1,he2⟩:=clone_steps (call:=fun _ _ _=>none) (p:=p) (h:=h) hc hT hl
   refine wp_seq (region_ok (s:=cloneSt t l h) hO hm (call:=fun _ _ _=>none) (f:=f) (draw:=false) (fun g a h q e=>by cases e) (by intro e;cases e) H1 rfl he1 fun a' w' ι' d z g=>?_)
   refine wp_ret ?_
   refine bodyPost_ret (results_tmp hres _ _ _) d ?_
   refine ⟨_,ι',rfl,?_⟩
   have g2:=g.stp.rel.ends (r:=.tv [[]] (.slice t) l) (v:=a'.tmps.getD 2 undef) (by have:=g.stp.rel.vr 2;simp only [St.get,he2] at this;exact this) (.inl ⟨2,he2.symm,rfl⟩)
   exact Goes.trans H (Goes.trans H ⟨S1,Hist.refl _ _,fun _ _=>KGo.of ⟨rfl,rfl⟩⟩ g) g2
  ·show VR _ O ((cloneSt t l h).get i) _
   match i with
   | 0=>simp only [hget,true_or,if_true,VR];exact h0'
   | 1=>simp only [hget];rfl
   | 2=>simp only [hget];trivial
   | 3=>simp only [hget,or_true,if_true,VR];exact h0'
   | 4=>simp only [hget];exact VT.ofBool false
   | 5=>simp only [hget];rfl
   | 6=>simp only [hget];rfl
   | 7=>simp only [hget];rfl
   | n+8=>rw [hget,if_neg (by omega),if_neg (by omega),if_pos (by omega)];trivial
  ·exfalso
   simp only [owns] at e
   split at e
   ·rename_i own' t' x' he
    rw [hown _ _ _ _ he] at e;simp at e
   ·cases e
  ·exfalso
   simp only [owns] at e
   split at e
   ·rename_i own' t' x' he
    rw [hown _ _ _ _ he] at e;simp at e
   ·cases e
  ·rw [hown i own' u x e] at hq;cases hq
end Go.Am
