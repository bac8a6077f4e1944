/-
  The machine aOZ typed data, part 3: what calls come to, read as typed data, holds of the model.
-/
import Derived.Test.YtggaihkjnomflaaGreatDoorAm2
import Derived.Orders
import Derived.Control
import Derived.Below
set_option linter.all false
namespace Go.Am
variable {P:Program} {O:Orc} {FB:Nat→Nat→Prop} {w:World} {s s':St} {ι:Key→Nat} {call:aTZ} {draw:Bool} {f:FuncId} {rid i:Nat} {o:Oper} {a:Act} {r:Res} {ops:Array Oper}
variable {Q:Exit→Act→World→Prop} {next:Act→World→Prop}
theorem fSZ (s:St) (d:Option Nat) (r:Res):(s.app d r).env.length=s.env.length:=by
 rw [blZ];cases r.tk <;> simp [bAZ]
theorem eTZ (h:step O call draw f rid ops i s=some s'):s'.env.length=s.env.length:=by
 unfold step at h
 split at h
 ·cases h
 ·simp only [Option.map_eq_some_iff] at h
  obtain ⟨r,_,rfl⟩:=h
  exact fSZ _ _ _
theorem jvZ:∀ (l:List Nat) (s s':St),cVZ O call draw f rid ops l s=some s'→s'.env.length=s.env.length
 | [],s,s',h=>by simp only [cVZ,Option.some.injEq] at h;rw [h]
 | i::l,s,s',h=>by
  simp only [cVZ,Option.bind_eq_some_iff] at h
  obtain ⟨s1,h1,h2⟩:=h
  rw [jvZ l s1 s' h2,eTZ h1]
theorem s6Z {d:Nat} {b:Bool} (h:aKZ a d=.bool b):a.tmps[d]?=some (.bool b):=by
 unfold aKZ at h
 rw [Array.getD_eq_getD_getElem?] at h
 cases hd:a.tmps[d]? with
 | some v=>rw [hd] at h;simpa using h
 | none=>rw [hd] at h;simp [undef] at h
theorem mwZ (h:Rel O FB w s (aKZ a) ι) {j:Nat} {y:Option Bool} (e:ebZ ops s.get j=some y):yielded ops a.tmps j=y:=by
 unfold ebZ at e
 split at e
 ·rename_i d hd
  unfold yielded
  rw [hd]
  have hv:=h.vr d
  split at e
  ·rename_i own x hg
   cases e
   rw [hg] at hv
   simp only [VR] at hv
   have:=s6Z hv.bool
   simp [this]
  ·rename_i hg
   cases e
   rw [hg] at hv
   simp only [VR] at hv
   have hv':a.tmps.getD d undef=undef:=hv
   rw [Array.getD_eq_getD_getElem?] at hv'
   simp only [Option.bind_some]
   cases hx:a.tmps[d]? with
   | none=>simp
   | some v =>
    rw [hx] at hv'
    simp only [Option.getD_some] at hv'
    rw [hv']
    simp [undef]
  ·cases e
 ·cases e
theorem jaZ (h:Rel O FB w s (aKZ a) ι) (hl:s.env.length=a.tmps.size) (d:Option Nat) (hn:Leaves O FB w s ι a (s.app d ⟨.no,none,s.heap⟩) next):next (a.put d undef) w:=by
 refine hn _ _ ι (bJZ _ _ _) (djZ _ _ _) ⟨?_,Hist.refl _ _,fun _ _=>KGo.of ⟨by rw [blZ],rfl⟩⟩
 rw [blZ,fYZ,← hl]
 exact h.set _ .no undef rfl nofun
theorem kBZ (hO:OrcOK P O) (hC:dqZ P O call) (h:Rel O FB w s (aKZ a) ι) (hl:s.env.length=a.tmps.size) (he:step O call draw f rid ops i s=some s') (hn:Leaves O FB w s ι a s' next):wpOp P ops Q i next a w:=by
 unfold step at he
 unfold wpOp
 cases ho:ops[i]? with
 | none=>rw [ho] at he;cases he
 | some o =>
  rw [ho] at he
  simp only [Option.map_eq_some_iff] at he
  obtain ⟨r,he,rfl⟩:=he
  simp only
  unfold bvZ at he
  cases hg:o.guard with
  | none =>
   rw [hg] at he
   simp only at he
   have hw:Region.wanted o (yielded ops a.tmps)=true:=by simp [Region.wanted,hg]
   rw [if_pos hw]
   exact .inl (pmZ hO hC h hl he hn)
  | some jb =>
   obtain ⟨j,b⟩:=jb
   rw [hg] at he
   simp only at he
   split at he
   ·rename_i x hy
    have hw:Region.wanted o (yielded ops a.tmps)=(x == b):=by
     simp only [Region.wanted,hg,mwZ h hy]
     cases x <;> cases b <;> rfl
    cases hx:(x == b) with
    | true =>
     rw [hx] at he hw
     rw [if_pos hw]
     exact .inl (pmZ hO hC h hl he hn)
    | false =>
     rw [hx] at he hw
     simp only [cond_false,Option.some.injEq] at he
     subst he
     rw [if_neg (by rw [hw];decide)]
     exact jaZ h hl _ hn
   ·rename_i hy
    cases he
    have hw:Region.wanted o (yielded ops a.tmps)=false:=by
     simp only [Region.wanted,hg,mwZ h hy]
     rfl
    rw [if_neg (by rw [hw];decide)]
    exact jaZ h hl _ hn
   ·cases he
theorem Leaves.chain (h:Rel O FB w s (aKZ a) ι) {s1 s2:St} (hn:Leaves O FB w s ι a s2 next) {a1:Act} {w1:World} {ι1:Key→Nat} (hd:a1.defers=a.defers) (hs:a1.tmps.size=a.tmps.size) (hg:Goes O FB w s (aKZ a) ι w1 s1 (aKZ a1) ι1):Leaves O FB w1 s1 ι1 a1 s2 next :=
 fun a' w' ι' d' z' g'=>hn a' w' ι' (d'.trans hd) (z'.trans hs) (Goes.trans h hg g')
theorem lVZ (hO:OrcOK P O) (hC:dqZ P O call):∀ (l:List Nat) {w:World} {s s':St} {ι:Key→Nat} {a:Act},Rel O FB w s (aKZ a) ι→s.env.length=a.tmps.size→cVZ O call draw f rid ops l s=some s'→Leaves O FB w s ι a s' (Q .normal)→wpOps P ops Q l a w
 | [],w,s,s',ι,a,h,hl,he,hn=>by
  simp only [cVZ,Option.some.injEq] at he
  subst he
  exact hn _ _ ι rfl rfl (Goes.refl h)
 | i::l,w,s,s',ι,a,h,hl,he,hn=>by
  simp only [cVZ,Option.bind_eq_some_iff] at he
  obtain ⟨s1,h1,h2⟩:=he
  rw [wpOps_cons]
  refine kBZ hO hC h hl h1 fun a1 w1 ι1 hd hs hg=>?_
  exact lVZ hO hC l hg.stp.rel (by rw [eTZ h1,hl,hs]) h2 (hn.chain h hd hs hg)
end Go.Am
namespace Go.Am
variable {P:Program} {O:Orc} {call:aTZ} {draw:Bool} {f:FuncId} {rid i:Nat} {o:Oper} {r:Res} {ops:Array Oper} {g g':Nat→AV} {h h':adZ}
theorem eSZ {t:Option Ty} {x:Operand} (hx:∀ k,x=.tmp k→g k=g' k):val g t x=val g' t x:=by
 cases x with
 | tmp k=>simp only [val];rw [hx k rfl]
 | _=>rfl
theorem f8Z {tk:Bool} {t:Option Ty} {x:Operand} (hx:∀ k,x=.tmp k→g k=g' k):aQZ tk g t x=aQZ tk g' t x:=by
 cases tk with
 | false=>simp only [aQZ];rw [eSZ hx]
 | true=>cases x with
  | tmp k=>simp only [aQZ];rw [hx k rfl]
  | _=>simp only [aQZ];rfl
theorem k4Z (hg:∀ t,Operand.tmp t∈o.op.operands→g t=g' t):afZ O call draw f rid i o g h=afZ O call draw f rid i o g' h:=by
 have hx:∀ x,x∈o.op.operands→∀ t:Option Ty,val g t x=val g' t x:=fun x hm t=>eSZ fun k e=>hg k (e ▸ hm)
 have hk:∀ x,x∈o.op.operands→∀ (b:Bool) (t:Option Ty),aQZ b g t x=aQZ b g' t x:=fun x hm b t=>f8Z fun k e=>hg k (e ▸ hm)
 clear hg
 unfold afZ
 cases hop:o.op with
 | move x=>rw [hop] at hk;simp only [hk x (by simp [Op.operands])]
 | assign x=>rw [hop] at hk;simp only [hk x (by simp [Op.operands])]
 | pick c a b=>rw [hop] at hx;simp only [hx c (by simp [Op.operands]),hx a (by simp [Op.operands]),hx b (by simp [Op.operands])]
 | box T x=>rw [hop] at hx;simp only [hx x (by simp [Op.operands])]
 | build T ps =>
  rw [hop] at hx
  have:∀ t:Ty,(ps.toList.map fun (i,x)=>(i,val g (pTy t [i]) x))=ps.toList.map fun (i,x)=>(i,val g' (pTy t [i]) x):=fun t=>List.map_congr_left fun p hp=>by
   obtain ⟨i,x⟩:=p
   simp only [hx x (by simp [Op.operands];exact ⟨i,by simpa using hp⟩)]
  simp only [this]
 | buildSlice T n ps =>
  rw [hop] at hx
  have:∀ t:Ty,(ps.toList.map fun (i,x)=>(i,val g (some t) x))=ps.toList.map fun (i,x)=>(i,val g' (some t) x):=fun t=>List.map_congr_left fun p hp=>by
   obtain ⟨i,x⟩:=p
   simp only [hx x (by simp [Op.operands];exact ⟨i,by simpa using hp⟩)]
  simp only [this]
 | load T x=>rw [hop] at hx;simp only [hx x (by simp [Op.operands])]
 | store T x y=>rw [hop] at hx hk;simp only [hx x (by simp [Op.operands]),hk y (by simp [Op.operands])]
 | nilCheck x=>rw [hop] at hx;simp only [hx x (by simp [Op.operands])]
 | binOp op T x y U=>rw [hop] at hx;simp only [hx x (by simp [Op.operands]),hx y (by simp [Op.operands])]
 | unOp op T x=>rw [hop] at hx;simp only [hx x (by simp [Op.operands])]
 | convert T U x=>rw [hop] at hx;simp only [hx x (by simp [Op.operands])]
 | makeFunc q first caps =>
  rw [hop] at hx
  cases q with
  | func q =>
   have h1:first.toList.map (val g none)=first.toList.map (val g' none):=List.map_congr_left fun x hm=>hx x (by simp [Op.operands];exact .inl (by simpa using hm)) none
   have h2:caps.toList.map (val g none)=caps.toList.map (val g' none):=List.map_congr_left fun x hm=>hx x (by simp [Op.operands];exact .inr (by simpa using hm)) none
   simp only [h1,h2]
  | _=>rfl
 | slice T x lo hi mx =>
  rw [hop] at hx hk
  have h1:lo.map (val g none)=lo.map (val g' none):=by
   cases lo with
   | none=>rfl
   | some y=>simp only [Option.map_some,hx y (by simp [Op.operands])]
  have h2:hi.map (val g none)=hi.map (val g' none):=by
   cases hi with
   | none=>rfl
   | some y=>simp only [Option.map_some,hx y (by simp [Op.operands])]
  simp only [exZ,hx x (by simp [Op.operands]),hk x (by simp [Op.operands]),h1,h2]
  cases mx with
  | none=>rfl
  | some m =>
   cases hi with
   | none=>rfl
   | some y=>simp only [hx y (by simp [Op.operands]),hx m (by simp [Op.operands])]
 | fieldAddr T x k=>rw [hop] at hx;simp only [hx x (by simp [Op.operands])]
 | field T x k=>rw [hop] at hx;simp only [hx x (by simp [Op.operands])]
 | indexAddr T x k=>rw [hop] at hx;simp only [hx x (by simp [Op.operands]),hx k (by simp [Op.operands])]
 | index T x k=>rw [hop] at hx;simp only [hx x (by simp [Op.operands]),hx k (by simp [Op.operands])]
 | extract x k=>rw [hop] at hx;simp only [hx x (by simp [Op.operands])]
 | call c =>
  rw [hop] at hx hk
  have ha:∀ x∈c.args.toList,x∈(Op.call c).operands:=fun x hm=>by simp [Op.operands,Call.operands];exact .inr (by simpa using hm)
  simp only [coZ]
  cases hc:c.callee with
  | builtin b =>
   cases b with
   | len =>
    simp only
    split
    ·rename_i x e;rw [hx x (ha x (by simp [e]))]
    ·rfl
   | max =>
    simp only
    split
    ·rename_i x y e;rw [hx x (ha x (by simp [e])),hx y (ha y (by simp [e]))]
    ·rfl
   | min =>
    simp only
    split
    ·rename_i x y e;rw [hx x (ha x (by simp [e])),hx y (ha y (by simp [e]))]
    ·rfl
   | append =>
    simp only
    split
    ·rename_i x y e;rw [hk x (ha x (by simp [e])),hx y (ha y (by simp [e]))]
    ·rfl
   | _=>rfl
  | value x =>
   have h1:val g none x=val g' none x:=hx x (by simp [Op.operands,Call.operands,hc]) none
   have h2:(c.args.toList.zipIdx.map fun (x,j)=>val g ((c.argTypes[j]?).bind O.ty) x)=c.args.toList.zipIdx.map fun (x,j)=>val g' ((c.argTypes[j]?).bind O.ty) x:=List.map_congr_left fun p hp=>by
    obtain ⟨x,j⟩:=p
    simp only [hx x (ha x (List.fst_mem_of_mem_zipIdx hp))]
   simp only [h1,h2]
  | invoke x n=>rfl
 | _=>rfl
theorem ksZ {tk:Bool} (hg:∀ t,Operand.tmp t∈o.op.operands→g t=g' t):bxZ O tk o g h=bxZ O tk o g' h:=by
 have hx:∀ x,x∈o.op.operands→∀ t:Option Ty,val g t x=val g' t x:=fun x hm t=>eSZ fun k e=>hg k (e ▸ hm)
 have hk:∀ x,x∈o.op.operands→∀ (b:Bool) (t:Option Ty),aQZ b g t x=aQZ b g' t x:=fun x hm b t=>f8Z fun k e=>hg k (e ▸ hm)
 clear hg
 unfold bxZ
 cases hop:o.op with
 | makeSlice T l c=>rw [hop] at hx;simp only [hx l (by simp [Op.operands]),hx c (by simp [Op.operands])]
 | binOp op T x y U=>rw [hop] at hx;simp only [hx x (by simp [Op.operands])]
 | makeMap T r=>cases r <;> rfl
 | lookup T x k ok=>rw [hop] at hx;simp only [hx x (by simp [Op.operands]),hx k (by simp [Op.operands])]
 | mapUpdate T m k x=>rw [hop] at hx;simp only [hx m (by simp [Op.operands]),hx k (by simp [Op.operands]),hx x (by simp [Op.operands])]
 | insert T m k x=>rw [hop] at hx;simp only [hx m (by simp [Op.operands]),hx k (by simp [Op.operands]),hx x (by simp [Op.operands])]
 | store T x y=>rw [hop] at hx;simp only [hx x (by simp [Op.operands])]
 | box T x=>rw [hop] at hx hk;simp only [s0Z,hx x (by simp [Op.operands]),hk x (by simp [Op.operands])]
 | build T ps =>
  rw [hop] at hx
  have:∀ t:Ty,(ps.toList.map fun (i,x)=>(i,val g (pTy t [i]) x))=ps.toList.map fun (i,x)=>(i,val g' (pTy t [i]) x):=fun t=>List.map_congr_left fun p hp=>by
   obtain ⟨i,x⟩:=p
   simp only [hx x (by simp [Op.operands];exact ⟨i,by simpa using hp⟩)]
  simp only [this]
 | buildSlice T n ps =>
  rw [hop] at hx
  have:∀ t:Option Ty,(ps.toList.map fun (i,x)=>(i,val g t x))=ps.toList.map fun (i,x)=>(i,val g' t x):=fun t=>List.map_congr_left fun p hp=>by
   obtain ⟨i,x⟩:=p
   simp only [hx x (by simp [Op.operands];exact ⟨i,by simpa using hp⟩)]
  simp only [this]
 | call c =>
  rw [hop] at hx hk
  have ha:∀ x∈c.args.toList,x∈(Op.call c).operands:=fun x hm=>by simp [Op.operands,Call.operands];exact .inr (by simpa using hm)
  cases hc:c.callee with
  | builtin b =>
   cases b with
   | clear =>
    simp only [hc]
    split
    ·rename_i x e;simp only [hx x (ha x (by simp [e]))]
    ·rfl
   | append =>
    simp only [hc]
    split
    ·rename_i x y e;simp only [r6Z,hx x (ha x (by simp [e])),hx y (ha y (by simp [e])),hk x (ha x (by simp [e]))]
    ·rfl
   | _=>simp only [hc]
  | _=>simp only [hc]
 | _=>rfl
theorem hlZ (hg:∀ t,Operand.tmp t∈o.op.operands→g t=g' t):dfZ O call draw f rid i o g h=dfZ O call draw f rid i o g' h:=by
 unfold dfZ
 rw [ksZ hg,k4Z hg]
end Go.Am
namespace Go.Am
variable {P:Program} {O:Orc} {call:aTZ} {draw:Bool} {f:FuncId} {rid i j:Nat} {o:Oper} {r:Res} {ops:Array Oper} {g g':Nat→AV} {h h':adZ} {s s1 s2:St}
theorem dbZ {tk:Bool} {t:Option Ty} {x:Operand} {k:Nat} (e:(aQZ tk g t x).2=some k):tk=true∧x=.tmp k:=by
 rcases b2Z (g:=g) (tk:=tk) (h:=t) (x:=x) with ⟨k',h1,h2,h3⟩ | h3
 ·rw [h3] at e;simp only [Option.some.injEq] at e;rw [← e];exact ⟨h1,h2⟩
 ·rw [h3] at e;cases e
def unZ (O:Orc) (call:aTZ) (draw:Bool) (f:FuncId) (rid i:Nat) (o:Oper) (g:Nat→AV) (h:adZ) (r:Res):Prop :=
 (∀ k,r.tk=some k→O.take f rid i=true∧Operand.tmp k∈o.op.operands)∧r.h=h∧∀ h',afZ O call draw f rid i o g h'=some ⟨r.a,r.tk,h'⟩
theorem h9Z {tk:Bool} {X:List Key} {dst:Option Nat} {q:FuncId} {args:List AV} (he:cwZ O call draw tk X dst q args h=some r):bZZ O call draw dst q args h=some r:=by
 unfold cwZ at he
 split at he
 ·cases he
 ·simp only [Option.bind_eq_some_iff] at he
  obtain ⟨r',h1,h2⟩:=he
  rw [h1,(dYZ h2).1]
theorem heZ {dst:Option Nat} {q:FuncId} {args:List AV} (he:bZZ O call true dst q args h=some r):r.tk=none∧r.h=h∧∀ h',bZZ O call true dst q args h'=some ⟨r.a,none,h'⟩:=by
 unfold bZZ at he
 simp only [a0Z] at he
 split at he
 ·cases he
 ·rename_i hcond
  simp only [Bool.or_eq_true,not_or,Bool.true_and,Bool.not_eq_true'] at hcond
  obtain ⟨⟨⟨hdr,hkeys⟩,_⟩,hnd⟩:=hcond
  obtain ⟨hk0,ho0⟩:=(by simpa using hdr:bmZ h 50 (bjZ (List.map AV.drop args)) []=[]∧O.out q=[])
  rw [hk0] at he hkeys
  have hargs:bjZ (List.map AV.drop args)=[]:=by
   cases hq:bjZ (List.map AV.drop args) with
   | nil=>rfl
   | cons a l=>rw [hq] at hkeys;simp at hkeys
  simp only [fdZ,Option.bind_some,List.all_nil,Bool.not_true,Bool.false_eq_true,if_false,ho0,List.filter_nil,cvZ,cpZ,Option.bind_eq_some_iff] at he
  obtain ⟨p,hp,he⟩:=he
  split at he
  ·cases he
  ·rename_i hok
   simp only [Option.some.injEq] at he
   subst he
   refine ⟨rfl,rfl,fun h'=>?_⟩
   unfold bZZ
   simp only [a0Z,hargs,bmZ,ho0,List.isEmpty_nil,Bool.and_self,Bool.not_true,Bool.and_false,List.all_nil,c5Z,Bool.or_self,Bool.false_eq_true,if_false,fdZ,Option.bind_some,List.filter_nil,hp,cvZ,cpZ]
   rw [if_neg hok]
theorem e0Z (hc:bRZ (O.take f rid i) o.op=0) (hdr:draw=true) (he:afZ O call draw f rid i o g h=some r):unZ O call draw f rid i o g h r:=by
 subst hdr
 cases hop:o.op with
 | move x =>
  simp only [afZ,hop] at he
  cases he
  exact ⟨fun k hk=>by obtain ⟨a,b⟩:=dbZ hk;exact ⟨a,by simp [Op.operands,hop,b]⟩,rfl,fun h'=>by simp only [afZ,hop]⟩
 | assign x =>
  simp only [afZ,hop] at he
  cases he
  exact ⟨fun k hk=>by obtain ⟨a,b⟩:=dbZ hk;exact ⟨a,by simp [Op.operands,hop,b]⟩,rfl,fun h'=>by simp only [afZ,hop]⟩
 | pick c a b =>
  simp only [afZ,hop] at he
  split at he
  ·rename_i own x e
   cases he
   exact ⟨nofun,rfl,fun h'=>by simp only [afZ,hop,e]⟩
  ·cases he
 | build T ps =>
  simp only [afZ,hop,Option.bind_eq_some_iff] at he
  obtain ⟨t,hT,he⟩:=he
  split at he
  ·cases he
  ·rename_i hag
   simp only [Option.map_eq_some_iff] at he
   obtain ⟨b,hb,rfl⟩:=he
   exact ⟨nofun,rfl,fun h'=>by simp only [afZ,hop,hT,Option.bind_some,hb,Option.map_some,if_neg hag]⟩
 | buildSlice T n ps =>
  simp only [afZ,hop] at he
  split at he
  ·rename_i t hT
   split at he
   ·rename_i hn
    simp only [Option.map_eq_some_iff] at he
    obtain ⟨b,hb,rfl⟩:=he
    exact ⟨nofun,rfl,fun h'=>by simp only [afZ,hop,hT,if_pos hn,hb,Option.map_some]⟩
   ·cases he
  ·cases he
 | nilCheck x =>
  simp only [afZ,hop] at he
  split at he
  ·rename_i k p e;cases he;exact ⟨nofun,rfl,fun h'=>by simp only [afZ,hop,e]⟩
  ·rename_i k p e;cases he;exact ⟨nofun,rfl,fun h'=>by simp only [afZ,hop,e]⟩
  ·rename_i k p e;cases he;exact ⟨nofun,rfl,fun h'=>by simp only [afZ,hop,e]⟩
  ·cases he
 | binOp op T x y U =>
  simp only [afZ,hop,Option.map_eq_some_iff] at he
  obtain ⟨b,hb,rfl⟩:=he
  exact ⟨nofun,rfl,fun h'=>by simp only [afZ,hop,hb,Option.map_some]⟩
 | unOp op T x =>
  simp only [afZ,hop,Option.map_eq_some_iff] at he
  obtain ⟨b,hb,rfl⟩:=he
  exact ⟨nofun,rfl,fun h'=>by simp only [afZ,hop,hb,Option.map_some]⟩
 | convert T U x =>
  simp only [afZ,hop,Option.map_eq_some_iff] at he
  obtain ⟨b,hb,rfl⟩:=he
  exact ⟨nofun,rfl,fun h'=>by simp only [afZ,hop,hb,Option.map_some]⟩
 | makeFunc q first caps =>
  cases q with
  | func q =>
   simp only [afZ,hop] at he
   cases he
   exact ⟨nofun,rfl,fun h'=>by simp only [afZ,hop]⟩
  | _=>simp [afZ,hop] at he
 | slice T x lo hi mx =>
  simp only [afZ,hop,exZ] at he
  cases mx with
  | none =>
   simp only at he
   split at he
   ·rename_i n t hT
    split at he
    ·rename_i q p e
     split at he
     ·rename_i hcd
      simp only [Option.bind_eq_some_iff] at he
      obtain ⟨d,hd,he⟩:=he
      have hd':∀ h',dBZ O h' (.gp q p)=some d:=fun h'=>hd
      have hp':∀ h',(lo.isNone&&hi.isNone&&cbZ O h' T (.gp q p))=true:=fun h'=>hcd
      split at he
      ·rename_i n' t' l
       split at he
       ·rename_i ht
        subst ht
        split at he
        ·rename_i hn
         cases he
         exact ⟨nofun,rfl,fun h'=>by simp only [afZ,hop,exZ,hT,e,hp' h',if_true,hd' h',Option.bind_some,dif_pos trivial,if_pos hn]⟩
        ·cases he
       ·cases he
      ·cases he
     ·cases he
    ·cases he
   ·rename_i u hu
    simp only [Option.map_eq_some_iff] at he
    obtain ⟨b,hb,rfl⟩:=he
    refine ⟨fun k hk=>by obtain ⟨a,b⟩:=dbZ hk;exact ⟨a,by simp [Op.operands,hop,b]⟩,rfl,fun h'=>?_⟩
    simp only [afZ,hop,exZ]
    cases hT:O.ty T with
    | none=>rw [hT] at hb;simp only [hb,Option.map_some]
    | some t =>
     cases t with
     | arr gw n t=>exact absurd hT (hu gw n t)
     | _=>rw [hT] at hb;simp only [hb,Option.map_some]
  | some m =>
   cases hi with
   | none=>cases he
   | some y =>
    simp only at he
    split at he
    ·rename_i hcd
     split at he
     ·rename_i t hT
      split at he
      ·cases he
      ·rename_i hns
       simp only [Option.map_eq_some_iff] at he
       obtain ⟨b,hb,rfl⟩:=he
       exact ⟨nofun,rfl,fun h'=>by simp only [afZ,hop,exZ,hcd,hT,if_neg hns,hb,Option.map_some];simp⟩
     ·cases he
    ·cases he
 | field T x k =>
  simp only [afZ,hop] at he
  split at he
  ·rename_i own t y e
   split at he
   ·rename_i hT
    simp only [Option.map_eq_some_iff] at he
    obtain ⟨b,hb,rfl⟩:=he
    exact ⟨nofun,rfl,fun h'=>by simp only [afZ,hop,e,if_pos hT,hb,Option.map_some]⟩
   ·cases he
  ·cases he
 | index T x k =>
  simp only [afZ,hop] at he
  split at he
  ·rename_i own t y e
   split at he
   ·rename_i hT
    simp only [Option.map_eq_some_iff] at he
    obtain ⟨b,hb,rfl⟩:=he
    exact ⟨nofun,rfl,fun h'=>by simp only [afZ,hop,e,if_pos hT,hb,Option.map_some]⟩
   ·cases he
  ·cases he
 | extract x k =>
  simp only [afZ,hop] at he
  split at he
  ·rename_i l e
   simp only [Option.map_eq_some_iff] at he
   obtain ⟨b,hb,rfl⟩:=he
   exact ⟨nofun,rfl,fun h'=>by simp only [afZ,hop,e,hb,Option.map_some]⟩
  ·cases he
 | call c =>
  simp only [afZ,hop,coZ] at he
  cases hcl:c.callee with
  | builtin b =>
   rw [hcl] at he
   cases b with
   | len =>
    simp only at he
    split at he
    ·rename_i x e
     simp only [Option.map_eq_some_iff] at he
     obtain ⟨b,hb,rfl⟩:=he
     exact ⟨nofun,rfl,fun h'=>by simp only [afZ,hop,coZ,hcl,e,hb,Option.map_some]⟩
    ·cases he
   | max =>
    simp only at he
    split at he
    ·rename_i x y e
     simp only [Option.map_eq_some_iff] at he
     obtain ⟨b,hb,rfl⟩:=he
     exact ⟨nofun,rfl,fun h'=>by simp only [afZ,hop,coZ,hcl,e,hb,Option.map_some]⟩
    ·cases he
   | min =>
    simp only at he
    split at he
    ·rename_i x y e
     simp only [Option.map_eq_some_iff] at he
     obtain ⟨b,hb,rfl⟩:=he
     exact ⟨nofun,rfl,fun h'=>by simp only [afZ,hop,coZ,hcl,e,hb,Option.map_some]⟩
    ·cases he
   | append =>
    simp only at he
    split at he
    ·rename_i x y e
     simp only [Option.map_eq_some_iff] at he
     obtain ⟨b,hb,rfl⟩:=he
     refine ⟨fun k hk=>?_,rfl,fun h'=>by simp only [afZ,hop,coZ,hcl,e,hb,Option.map_some]⟩
     obtain ⟨a,b⟩:=dbZ hk
     refine ⟨a,?_⟩
     rw [hop]
     simp only [Op.operands,Call.operands,hcl,Array.mem_append]
     refine .inr ?_
     rw [← Array.mem_toList_iff,e,b]
     exact List.mem_cons_self
    ·cases he
   | _=>simp at he
  | value x =>
   rw [hcl] at he
   simp only at he
   split at he
   ·rename_i q first caps e
    obtain ⟨c1,c2,c3⟩:=heZ (h9Z he)
    have htk:O.take f rid i=false:=by
     cases htk:O.take f rid i with
     | false=>rfl
     | true=>rw [htk] at he;simp [cwZ] at he
    exact ⟨fun k hk=>(by rw [c1] at hk;cases hk),c2,fun h'=>by simp only [afZ,hop,coZ,hcl,e,cwZ,htk,Bool.false_and,Bool.true_or,Bool.not_true,Bool.or_self,Bool.false_eq_true,if_false,c3 h',c1,Option.bind_some,fhZ]⟩
   ·cases he
  | invoke x n=>rw [hcl] at he;simp at he
 | load T x=>rw [hop] at hc;simp only [bRZ] at hc;split at hc <;> simp at hc
 | fieldAddr T x k=>rw [hop] at hc;simp [bRZ] at hc
 | indexAddr T x k=>rw [hop] at hc;simp [bRZ] at hc
 | store T x y=>rw [hop] at hc;simp [bRZ] at hc
 | alloc T=>rw [hop] at hc;simp [bRZ] at hc
 | box T x=>rw [hop] at hc;simp [bRZ] at hc
 | _=>simp [afZ,hop] at he
def v2Z (O:Orc) (call:aTZ) (draw:Bool) (f:FuncId) (rid i:Nat) (o:Oper) (g:Nat→AV) (h:adZ) (r:Res):Prop :=
 (∀ k,r.tk=some k→O.take f rid i=true∧Operand.tmp k∈o.op.operands)∧r.h=h∧∀ h',dfZ O call draw f rid i o g h'=some ⟨r.a,r.tk,h'⟩
theorem phZ (hc:cls O f rid i o=0) (hdr:draw=true) (he:dfZ O call draw f rid i o g h=some r):v2Z O call draw f rid i o g h r:=by
 unfold cls at hc
 unfold dfZ at he
 split at hc
 ·cases hc
 ·rename_i hm
  rw [if_neg hm] at he
  obtain ⟨a,b,c⟩:=e0Z hc hdr he
  exact ⟨a,b,fun h'=>by unfold dfZ;rw [if_neg hm];exact c h'⟩
end Go.Am
namespace Go.Am
variable {P:Program} {O:Orc} {call:aTZ} {f:FuncId} {rid i j:Nat} {o:Oper} {r:Res} {ops:Array Oper} {g g':Nat→AV} {h h':adZ} {s s1 s2:St}
theorem f2Z (hc:bRZ (O.take f rid i) o.op=1) (he:afZ O call true f rid i o g h=some r):r.tk=none∧r.h=h:=by
 cases hop:o.op with
 | load T x =>
  have htk:O.take f rid i=false:=by
   rw [hop] at hc;simp only [bRZ] at hc
   cases ht:O.take f rid i with
   | false=>rfl
   | true=>rw [ht] at hc;simp at hc
  simp only [afZ,hop,gVZ,htk,Option.bind_eq_some_iff] at he
  obtain ⟨d,_,he⟩:=he
  split at he
  ·simp only [Bool.false_eq_true,if_false] at he;cases he;exact ⟨rfl,rfl⟩
  ·cases he
 | fieldAddr T x k =>
  simp only [afZ,hop] at he
  split at he
  ·simp only [Option.map_eq_some_iff] at he
   obtain ⟨b,_,rfl⟩:=he;exact ⟨rfl,rfl⟩
  ·cases he
 | indexAddr T x k =>
  simp only [afZ,hop] at he
  split at he
  ·split at he
   ·simp only [Option.map_eq_some_iff] at he
    obtain ⟨b,_,rfl⟩:=he;exact ⟨rfl,rfl⟩
   ·cases he
  ·simp only [Option.map_eq_some_iff] at he
   obtain ⟨b,_,rfl⟩:=he;exact ⟨rfl,rfl⟩
 | _=>rw [hop] at hc;simp [bRZ] at hc
theorem lrZ (he:afZ O call true f rid i o g h=some r) {k:Nat} (hk:r.tk=some k):O.take f rid i=true∧Operand.tmp k∈o.op.operands:=by
 rcases Nat.lt_trichotomy (bRZ (O.take f rid i) o.op) 1 with hc | hc | hc
 ·exact (e0Z (by omega) rfl he).1 k hk
 ·rw [(f2Z hc he).1] at hk;cases hk
 ·cases hop:o.op with
  | load T x =>
   simp only [afZ,hop,gVZ,Option.bind_eq_some_iff] at he
   obtain ⟨d,_,he⟩:=he
   split at he
   ·split at he
    ·split at he
     ·simp only [Option.bind_eq_some_iff,Option.some.injEq] at he
      obtain ⟨b,_,rfl⟩:=he;cases hk
     ·cases he
    ·cases he;cases hk
   ·cases he
  | store T x y =>
   simp only [afZ,hop,Option.bind_eq_some_iff] at he
   obtain ⟨d,_,he⟩:=he
   split at he
   ·simp only [Option.map_eq_some_iff] at he
    obtain ⟨h',_,rfl⟩:=he
    obtain ⟨a,b⟩:=dbZ hk
    exact ⟨a,by simp [Op.operands,b]⟩
   ·cases he
  | alloc T =>
   simp only [afZ,hop,Option.bind_eq_some_iff] at he
   obtain ⟨t,_,he⟩:=he
   obtain ⟨d,_,_,rfl⟩:=bIZ he
   cases hk
  | box T x =>
   simp only [afZ,hop,Option.bind_eq_some_iff] at he
   obtain ⟨t,_,he⟩:=he
   split at he
   ·obtain ⟨d,_,_,rfl⟩:=bIZ he
    cases hk
   ·cases he
  | _=>rw [hop] at hc;simp [bRZ] at hc
theorem lEZ {d:Option Nat} {t:Ty} {n:Nat} (he:kwZ h d t n=some r):r.tk=none:=by
 unfold kwZ at he
 split at he
 ·split at he
  ·cases he;rfl
  ·cases he
 ·cases he
theorem juZ {T:Option Ty} {d:Option Nat} {x:Operand} (he:hpZ T h d x=some r):r.tk=none:=by
 unfold hpZ at he
 split at he
 ·exact lEZ he
 ·cases he
theorem oNZ {t:Ty} {x:SR} {m:List (den t)} (he:hBZ h t x m=some r):r.tk=none:=by
 unfold hBZ at he
 split at he
 ·split at he
  ·split at he
   ·split at he
    ·cases he;rfl
    ·cases he
   ·cases he
  ·cases he
 ·cases he
theorem smZ {T U:Option Ty} {x y:AV} (he:sYZ T U h x y=some r):r.tk=none:=by
 unfold sYZ at he
 split at he
 ·split at he
  ·split at he
   ·split at he
    ·exact oNZ he
    ·cases he
   ·cases he
  ·cases he
 ·cases he
theorem pqZ {T:Option Ty} {op:BinOp} {x:AV} {y:Operand} (he:hYZ T op x y h=some r):r.tk=none:=by
 unfold hYZ at he
 split at he
 ·split at he
  ·split at he
   ·split at he
    ·split at he
     ·cases he;rfl
     ·cases he;rfl
     ·cases he
    ·cases he
   ·cases he
  ·cases he
 ·cases he
theorem qMZ {d:Option Nat} {T:Option Ty} (he:psZ h d T=some r):r.tk=none:=by
 unfold psZ at he
 split at he
 ·split at he
  ·cases he;rfl
  ·cases he
 ·cases he
theorem nEZ {d:Option Nat} {t:Ty} (he:g6Z h d t=some r):r.tk=none:=by
 unfold g6Z at he
 split at he
 ·split at he
  ·simp only [Option.map_eq_some_iff] at he
   obtain ⟨y,_,rfl⟩:=he
   rfl
  ·cases he
 ·cases he
theorem nFZ {d:Option Nat} {t:Ty} {b:AV} (he:hJZ h d t b=some r):r.tk=none:=by
 unfold hJZ at he
 split at he
 ·split at he
  ·split at he
   ·simp only [Option.bind_eq_some_iff] at he
    obtain ⟨_,_,_,_,he⟩:=he
    split at he
    ·simp only [Option.map_eq_some_iff] at he
     obtain ⟨y,_,rfl⟩:=he
     rfl
    ·cases he
   ·cases he
  ·cases he
 ·cases he
theorem kEZ {T:Option Ty} {b:AV} (he:eIZ T h b=some r):r.tk=none:=by
 unfold eIZ at he
 split at he
 ·simp only [Option.bind_eq_some_iff] at he
  obtain ⟨_,_,_,_,_,_,he⟩:=he
  split at he
  ·split at he
   ·split at he
    ·simp only [Option.map_eq_some_iff] at he
     obtain ⟨y,_,rfl⟩:=he
     rfl
    ·cases he
   ·cases he
  ·cases he
 ·cases he
theorem nAZ {T:Option Ty} {b:AV} (he:hFZ T h b=some r):r.tk=none:=by
 unfold hFZ at he
 split at he
 ·split at he
  ·split at he
   ·split at he
    ·split at he
     ·cases he;rfl
     ·cases he
    ·cases he
   ·cases he
  ·cases he
 ·cases he
theorem mfZ {tk:Bool} (he:bxZ O tk o g h=some r) {k:Nat} (hk:r.tk=some k):tk=true∧Operand.tmp k∈o.op.operands:=by
 have no:r.tk=none→tk=true∧Operand.tmp k∈o.op.operands:=fun e=>by rw [e] at hk;cases hk
 unfold bxZ at he
 split at he
 ·split at he
  ·split at he
   ·exact no (lEZ he)
   ·cases he
  ·cases he
 ·exact no (juZ he)
 ·exact no (juZ he)
 ·exact no (pqZ he)
 ·exact no (qMZ he)
 ·simp only [Option.map_eq_some_iff] at he
  obtain ⟨b,_,rfl⟩:=he
  exact no rfl
 ·simp only [Option.map_eq_some_iff] at he
  obtain ⟨b,_,rfl⟩:=he
  exact no rfl
 ·simp only [Option.map_eq_some_iff] at he
  obtain ⟨b,_,rfl⟩:=he
  exact no rfl
 ·simp only [Option.bind_eq_some_iff] at he
  obtain ⟨t,_,he⟩:=he
  exact no (nEZ he)
 ·simp only [Option.bind_eq_some_iff] at he
  obtain ⟨t,_,he⟩:=he
  split at he
  ·cases he
  ·simp only [Option.bind_eq_some_iff] at he
   obtain ⟨b,_,he⟩:=he
   exact no (nFZ he)
 ·rename_i hop
  split at he
  ·simp only [Option.bind_eq_some_iff] at he
   obtain ⟨b,_,he⟩:=he
   split at he
   ·cases he;exact no rfl
   ·cases he
  ·simp only [s0Z,Option.bind_eq_some_iff] at he
   obtain ⟨b,_,he⟩:=he
   split at he
   ·simp only [Option.map_eq_some_iff] at he
    obtain ⟨c,_,rfl⟩:=he
    obtain ⟨a,b⟩:=dbZ hk
    exact ⟨a,by simp [Op.operands,hop,b]⟩
   ·cases he
 ·split at he
  ·split at he
   ·simp only [Option.map_eq_some_iff] at he
    obtain ⟨b,_,rfl⟩:=he
    exact no rfl
   ·cases he
  ·cases he
 ·split at he
  ·exact no (kEZ he)
  ·cases he
 ·rename_i c hop
  split at he
  ·split at he
   ·exact no (nAZ he)
   ·cases he
  ·rename_i hc
   split at he
   ·rename_i x y hxy
    split at he
    ·exact no (smZ he)
    ·unfold r6Z at he
     split at he
     ·simp only [Option.map_eq_some_iff] at he
      obtain ⟨b,hb,rfl⟩:=he
      obtain ⟨a,b⟩:=dbZ hk
      refine ⟨a,?_⟩
      rw [hop]
      simp only [Op.operands,Call.operands,hc,Array.mem_append]
      refine .inr ?_
      rw [← Array.mem_toList_iff,hxy,b]
      exact List.mem_cons_self
     ·cases he
   ·cases he
  ·cases he
 ·cases he
theorem ncZ (hc:cls O f rid i o=1) (he:dfZ O call true f rid i o g h=some r):r.tk=none∧r.h=h:=by
 unfold cls at hc
 unfold dfZ at he
 split at hc
 ·cases hc
 ·rename_i hm
  rw [if_neg hm] at he
  exact f2Z hc he
theorem r4Z (he:dfZ O call true f rid i o g h=some r) {k:Nat} (hk:r.tk=some k):O.take f rid i=true∧Operand.tmp k∈o.op.operands:=by
 unfold dfZ at he
 split at he
 ·exact mfZ he hk
 ·exact lrZ he hk
theorem eYZ {o:Oper} {t:Nat} (h:Operand.tmp t∈o.op.operands):t∈a9Z ops o:=by
 unfold a9Z
 refine List.mem_append_left _ (List.mem_filterMap.2 ⟨.tmp t,by simpa using h,rfl⟩)
theorem dOZ {j:Nat} (hg:∀ t,(ops[j]?).bind (·.dst)=some t→g t=g' t):ebZ ops g j=ebZ ops g' j:=by
  unfold ebZ
  cases hd:(ops[j]?).bind (·.dst) with
  | none=>rfl
  | some d=>simp only [hg d hd]
theorem gPZ (hg:∀ t∈a9Z ops o,g t=g' t):bvZ O call true f rid ops i o g h=bvZ O call true f rid ops i o g' h:=by
 unfold bvZ
 have he:=hlZ (O:=O) (call:=call) (draw:=true) (f:=f) (rid:=rid) (i:=i) (o:=o) (h:=h) (g:=g) (g':=g') fun t ht=>hg t (eYZ ht)
 cases hgd:o.guard with
 | none=>simp only [he]
 | some jb =>
  obtain ⟨j,b⟩:=jb
  have hy:=dOZ (ops:=ops) (g:=g) (g':=g') (j:=j) fun t ht=>hg t (by
   unfold a9Z
   refine List.mem_append_right _ ?_
   simp [hgd,ht])
  simp only [he,hy]
theorem egZ (he:bvZ O call true f rid ops i o g h=some r):(dfZ O call true f rid i o g h=some r∧∀ h',bvZ O call true f rid ops i o g h'=dfZ O call true f rid i o g h')∨(r=⟨.no,none,h⟩∧∀ h',bvZ O call true f rid ops i o g h'=some ⟨.no,none,h'⟩):=by
 unfold bvZ at he
 cases hgd:o.guard with
 | none=>rw [hgd] at he;exact .inl ⟨he,fun h'=>by unfold bvZ;rw [hgd]⟩
 | some jb =>
  obtain ⟨j,b⟩:=jb
  rw [hgd] at he
  simp only at he
  cases hy:ebZ ops g j with
  | none=>rw [hy] at he;cases he
  | some y =>
   rw [hy] at he
   cases y with
   | none=>simp only [Option.some.injEq] at he;exact .inr ⟨he.symm,fun h'=>by unfold bvZ;rw [hgd];simp only [hy]⟩
   | some x =>
    simp only at he
    cases hx:(x == b) with
    | true=>rw [hx] at he;exact .inl ⟨he,fun h'=>by unfold bvZ;rw [hgd];simp only [hy,hx,cond_true]⟩
    | false =>
     rw [hx] at he
     simp only [cond_false,Option.some.injEq] at he
     exact .inr ⟨he.symm,fun h'=>by unfold bvZ;rw [hgd];simp only [hy,hx,cond_false]⟩
theorem g9Z (hc:cls O f rid i o=0) (he:bvZ O call true f rid ops i o g h=some r):r.h=h∧∀ h',bvZ O call true f rid ops i o g h'=some ⟨r.a,r.tk,h'⟩:=by
 rcases egZ he with ⟨h1,h2⟩ | ⟨rfl,h2⟩
 ·obtain ⟨_,c1,c2⟩:=phZ hc rfl h1
  exact ⟨c1,fun h'=>(h2 h').trans (c2 h')⟩
 ·exact ⟨rfl,h2⟩
theorem gNZ (hc:cls O f rid i o=1) (he:bvZ O call true f rid ops i o g h=some r):r.h=h:=by
 rcases egZ he with ⟨h1,h2⟩ | ⟨rfl,h2⟩
 ·exact (ncZ hc h1).2
 ·rfl
theorem fMZ (he:bvZ O call true f rid ops i o g h=some r) {k:Nat} (hk:r.tk=some k):k∈aJZ (O.take f rid i) o:=by
 rcases egZ he with ⟨h1,h2⟩ | ⟨rfl,h2⟩
 ·obtain ⟨a,b⟩:=r4Z h1 hk
  unfold aJZ
  rw [a]
  refine List.mem_append_right _ ?_
  simp only [if_true]
  exact List.mem_filterMap.2 ⟨.tmp k,by simpa using b,rfl⟩
 ·cases hk
theorem dTZ {o:Oper} {d:Nat} {b:Bool} (h:o.dst=some d):d∈aJZ b o:=by
 unfold aJZ;rw [h];exact List.mem_append_left _ (by simp)
theorem faZ (s:St) (d:Option Nat) (r:Res) (t:Nat):(s.app d r).get t=if d=some t∧t<s.env.length then r.a else if r.tk=some t then (s.get t).drop else s.get t:=by
 rw [blZ]
 show ((bAZ s.env r.tk).set (d.getD s.env.length) r.a).getD t .any=_
 rw [aLZ,ccZ]
 have hl:(bAZ s.env r.tk).length=s.env.length:=by cases r.tk <;> simp [bAZ]
 rw [hl]
 have e:(if some t=r.tk then (s.env.getD t .any).drop else s.env.getD t .any)=if r.tk=some t then (s.get t).drop else s.get t:=by
  by_cases hk:r.tk=some t
  ·rw [if_pos hk,if_pos hk.symm];rfl
  ·rw [if_neg hk,if_neg (fun h=>hk h.symm)];rfl
 rw [e]
 cases d with
 | none=>simp only [Option.getD_none];rw [if_neg (show ¬ (t=s.env.length∧s.env.length<s.env.length) by omega),if_neg (show ¬ ((none:Option Nat)=some t∧t<s.env.length) by simp)]
 | some d =>
  simp only [Option.getD_some,Option.some.injEq]
  by_cases h1:t=d
  ·subst h1
   by_cases h2:t<s.env.length
   ·simp [h2]
   ·simp [h2]
  ·rw [if_neg (show ¬ (t=d∧d<s.env.length) from fun h=>h1 h.1),if_neg (show ¬ (d=t∧t<s.env.length) from fun h=>h1 h.1.symm)]
theorem q6Z {s s':St} (h1:s.env.length=s'.env.length) (h2:∀ t,s.get t=s'.get t) (h3:s.heap=s'.heap):s=s':=by
 obtain ⟨e,h⟩:=s
 obtain ⟨e',h'⟩:=s'
 simp only at h1 h3
 subst h3
 congr 1
 refine List.ext_getElem h1 fun n hn hn'=>?_
 have:=h2 n
 simp only [St.get,List.getD_eq_getElem?_getD,List.getElem?_eq_getElem hn,List.getElem?_eq_getElem hn',Option.getD_some] at this
 exact this
theorem nGZ (ha:mPZ O f rid ops i j=true) (h1:step O call true f rid ops i s=some s1) (h2:step O call true f rid ops j s1=some s2) :
  ∃ s1',step O call true f rid ops j s=some s1'∧step O call true f rid ops i s1'=some s2:=by
 unfold mPZ etZ at ha
 unfold step at h1 h2
 cases hi:ops[i]? with
 | none=>rw [hi] at h1;cases h1
 | some a =>
  cases hj:ops[j]? with
  | none=>rw [hj] at h2;cases h2
  | some b =>
   rw [hi] at h1
   rw [hj] at h2
   rw [hi,hj] at ha
   simp only [Bool.and_eq_true,Bool.or_eq_true,beq_iff_eq,List.all_eq_true,Bool.not_eq_true'] at ha
   obtain ⟨hcl,hw1,hw2⟩:=ha
   simp only [Option.map_eq_some_iff] at h1 h2
   obtain ⟨r1,e1,rfl⟩:=h1
   obtain ⟨r2,e2,rfl⟩:=h2
   have w1:∀ d∈aJZ (O.take f rid i) a,d ∉ a9Z ops b∧d ∉ aJZ (O.take f rid j) b:=fun d hd=>by
    obtain ⟨x,y⟩:=hw1 d hd
    exact ⟨fun hm=>(by have:=List.contains_iff_mem.2 hm;rw [x] at this;cases this),fun hm=>(by have:=List.contains_iff_mem.2 hm;rw [y] at this;cases this)⟩
   have w2:∀ d∈aJZ (O.take f rid j) b,d ∉ a9Z ops a:=fun d hd hm=>by
    have x:=hw2 d hd
    have:=List.contains_iff_mem.2 hm
    rw [x] at this;cases this
   have k1:∀ t,a.dst=some t→t∈aJZ (O.take f rid i) a:=fun t ht=>dTZ ht
   have k2:∀ t,b.dst=some t→t∈aJZ (O.take f rid j) b:=fun t ht=>dTZ ht
   have g1:∀ t∈a9Z ops b,s.get t=(s.app a.dst r1).get t:=by
    intro t ht
    rw [faZ,if_neg,if_neg]
    ·intro hk;exact (w1 t (fMZ e1 hk)).1 ht
    ·rintro ⟨hd,_⟩;exact (w1 t (k1 t hd)).1 ht
   have hh:(s.app a.dst r1).heap=r1.h:=by rw [blZ]
   rw [hh] at e2
   have e2':bvZ O call true f rid ops j b s.get r1.h=some r2:=(gPZ g1).trans e2
   have fin:∀ r2':Res,bvZ O call true f rid ops j b s.get s.heap=some r2'→r2'.a=r2.a→r2'.tk=r2.tk→(∀ g',(∀ t∈a9Z ops a,s.get t=g' t)→∃ r1',bvZ O call true f rid ops i a g' r2'.h=some r1'∧r1'.a=r1.a∧r1'.tk=r1.tk∧r1'.h=r2.h) →
     ∃ s1',step O call true f rid ops j s=some s1'∧step O call true f rid ops i s1'=some ((s.app a.dst r1).app b.dst r2):=by
    intro r2' b1 b2 b3 b4
    refine ⟨s.app b.dst r2',?_,?_⟩
    ·unfold step;rw [hj];simp only [b1,Option.map_some]
    ·unfold step;rw [hi]
     have hh':(s.app b.dst r2').heap=r2'.h:=by rw [blZ]
     obtain ⟨r1',c1,c2,c3,c4⟩:=b4 (s.app b.dst r2').get (fun t ht=>by
      rw [faZ,if_neg,if_neg]
      ·intro hk;rw [b3] at hk;exact w2 t (fMZ e2' hk) ht
      ·rintro ⟨hd,_⟩;exact w2 t (k2 t hd) ht)
     simp only [hh',c1,Option.map_some,Option.some.injEq]
     refine q6Z (by simp only [fSZ]) (fun t=>?_) ?_
     ·simp only [faZ,fSZ,c2,c3,b2,b3]
      by_cases ta:t∈aJZ (O.take f rid i) a
      ·have tb:=(w1 t ta).2
       have n1:¬ (b.dst=some t∧t<s.env.length):=fun hd=>tb (k2 t hd.1)
       have n2:¬ r2.tk=some t:=fun hk=>tb (fMZ e2' hk)
       simp only [if_neg n1,if_neg n2]
      ·have n1:¬ (a.dst=some t∧t<s.env.length):=fun hd=>ta (k1 t hd.1)
       have n2:¬ r1.tk=some t:=fun hk=>ta (fMZ e1 hk)
       simp only [if_neg n1,if_neg n2]
     ·rw [blZ,blZ];exact c4
   have hcong:∀ (h':adZ) (g':Nat→AV),(∀ t∈a9Z ops a,s.get t=g' t)→bvZ O call true f rid ops i a g' h'=bvZ O call true f rid ops i a s.get h':=fun h' g' hg=>(gPZ hg).symm
   rcases hcl with (hca | hcb) | ⟨hca,hcb⟩
   ·obtain ⟨m1,m2⟩:=g9Z hca e1
    rw [m1] at e2'
    refine fin r2 e2' rfl rfl fun g' hg=>⟨⟨r1.a,r1.tk,r2.h⟩,?_,rfl,rfl,rfl⟩
    rw [hcong _ _ hg];exact m2 _
   ·obtain ⟨m1,m2⟩:=g9Z hcb e2'
    refine fin ⟨r2.a,r2.tk,s.heap⟩ (m2 _) rfl rfl fun g' hg=>⟨r1,?_,rfl,rfl,m1.symm⟩
    rw [hcong _ _ hg];exact e1
   ·have m1:=gNZ hca e1
    have m2:=gNZ hcb e2'
    rw [m1] at e2'
    refine fin r2 e2' rfl rfl fun g' hg=>⟨r1,?_,rfl,rfl,m2.symm⟩
    rw [hcong _ _ hg,m2,m1];exact e1
theorem fZZ:∀ (pre post:List Nat) (s s':St),(∀ x∈pre,mPZ O f rid ops x i=true)→cVZ O call true f rid ops (pre++i::post) s=some s' →
  ∃ s1,step O call true f rid ops i s=some s1∧cVZ O call true f rid ops (pre++post) s1=some s'
 | [],post,s,s',_,h=>by
  simp only [List.nil_append,cVZ,Option.bind_eq_some_iff] at h
  exact h
 | x::pre,post,s,s',ha,h=>by
  simp only [List.cons_append,cVZ,Option.bind_eq_some_iff] at h
  obtain ⟨sx,h1,h2⟩:=h
  obtain ⟨s2,h3,h4⟩:=fZZ pre post sx s' (fun y hy=>ha y (List.mem_cons_of_mem _ hy)) h2
  obtain ⟨s1,h5,h6⟩:=nGZ (ha x List.mem_cons_self) h1 h3
  refine ⟨s1,h5,?_⟩
  simp only [List.cons_append,cVZ,h6,Option.bind_some]
  exact h4
end Go.Am
namespace Go.Am
variable {P:Program} {O:Orc} {FB:Nat→Nat→Prop} {call:aTZ} {f:FuncId} {rid i j:Nat} {o:Oper} {r:Res} {ops:Array Oper} {Q:Exit→Act→World→Prop}
theorem gzZ {acc:List Nat} {x:Nat}:∀ (es:List Edge) (s:Nat),(cTZ acc es s).testBit x=true→s.testBit x=true∨∃ e∈es,Region.binds .any e=true∧(x=e.on∨(acc.getD e.on 0).testBit x=true)
 | [],s,h=>.inl h
 | e::es,s,h=>by
  simp only [cTZ] at h
  rcases gzZ es _ h with h | ⟨e',h1,h2⟩
  ·split at h
   ·rename_i hb
    simp only [Nat.testBit_or,Bool.or_eq_true,Nat.testBit_two_pow,decide_eq_true_eq] at h
    rcases h with (h | h) | h
    ·exact .inl h
    ·exact .inr ⟨e,List.mem_cons_self,hb,.inl h.symm⟩
    ·exact .inr ⟨e,List.mem_cons_self,hb,.inr h⟩
   ·exact .inl h
  ·exact .inr ⟨e',List.mem_cons_of_mem _ h1,h2⟩
theorem gGZ:∀ (l:List Oper) (acc:List Nat),∃ m,d7Z l acc=acc++m∧∀ k o,l[k]?=some o→(acc++m).getD (acc.length+k) 0=cTZ ((acc++m).take (acc.length+k)) o.after.toList 0
 | [],acc=>⟨[],by simp [d7Z],fun k o h=>by simp at h⟩
 | o::l,acc=>by
  obtain ⟨m,h1,h2⟩:=gGZ l (acc++[cTZ acc o.after.toList 0])
  refine ⟨cTZ acc o.after.toList 0::m,by simp only [d7Z,h1];simp,fun k o' hk=>?_⟩
  have e:acc++cTZ acc o.after.toList 0::m=acc++[cTZ acc o.after.toList 0]++m:=by simp
  cases k with
  | zero =>
   simp only [List.getElem?_cons_zero,Option.some.injEq] at hk
   subst hk
   simp
  | succ k =>
   rw [List.getElem?_cons_succ] at hk
   have:=h2 k o' hk
   rw [e,show acc.length+(k+1)=(acc++[cTZ acc o.after.toList 0]).length+k by simp;omega]
   exact this
def ah (ops:Array Oper) (i:Nat):Nat:=(d7Z ops.toList []).getD i 0
theorem nYZ {x:Nat} (ho:ops[i]?=some o) (h:(ah ops i).testBit x=true):∃ e∈o.after.toList,Region.binds .any e=true∧(x=e.on∨(ah ops e.on).testBit x=true):=by
 obtain ⟨m,h1,h2⟩:=gGZ ops.toList []
 simp only [List.nil_append,List.length_nil,Nat.zero_add] at h1 h2
 have:=h2 i o (by simpa using ho)
 unfold ah at h ⊢
 rw [h1] at h ⊢
 rw [this] at h
 rcases gzZ _ _ h with h | ⟨e,e1,e2,e3⟩
 ·simp at h
 ·refine ⟨e,e1,e2,?_⟩
  rcases e3 with e3 | e3
  ·exact .inl e3
  ·refine .inr ?_
   simp only [List.getD_eq_getElem?_getD,List.getElem?_take] at e3 ⊢
   split at e3
   ·exact e3
   ·simp at e3
def Cl (ops:Array Oper) (listed:Array Bool):Prop:=∀ i o,ops[i]?=some o→listed.getD i false=true→∀ e∈o.after.toList,Region.binds .any e=true→listed.getD e.on false=true
def gUZ (ops:Array Oper) (listed:Array Bool):List Nat:=(List.range ops.size).filter fun i=>!listed.getD i true
theorem kMZ {listed:Array Bool} {i:Nat} (h:i<listed.size) (b:Bool):listed.getD i b=listed.getD i false:=by
 simp [Array.getD_eq_getD_getElem?,h]
theorem lNZ (hf:ixZ ops=true) (ho:ops[i]?=some o) {e:Edge} (he:e∈o.after.toList) (hb:Region.binds .any e=true):e.on<i:=by
 unfold ixZ at hf
 have hi:i<ops.size:=by
  rcases Nat.lt_or_ge i ops.size with h | h
  ·exact h
  ·rw [Array.getElem?_eq_none h] at ho;cases ho
 have:=List.all_eq_true.1 hf i (List.mem_range.2 hi)
 rw [ho] at this
 have:=List.all_eq_true.1 this e he
 simpa [hb] using this
theorem Cl.ahead {listed:Array Bool} (hf:ixZ ops=true) (hs:listed.size=ops.size) (hc:Cl ops listed):∀ (n i:Nat),i<n→i<ops.size→listed.getD i false=true→∀ x,(ah ops i).testBit x=true→listed.getD x false=true
 | 0,_,h,_,_,_,_=>by omega
 | n+1,i,h,hi,hl,x,hx=>by
  obtain ⟨e,e1,e2,e3⟩:=nYZ (Array.getElem?_eq_getElem hi) hx
  have hle:=hc i _ (Array.getElem?_eq_getElem hi) hl e e1 e2
  rcases e3 with rfl | e3
  ·exact hle
  ·have:=lNZ hf (Array.getElem?_eq_getElem hi) e1 e2
   exact Cl.ahead hf hs hc n e.on (by omega) (by omega) hle x e3
theorem dKZ {listed:Array Bool} {i:Nat}:i∈Region.ready .any ops listed↔i<ops.size∧listed.getD i true=false∧∀ o,ops[i]?=some o→∀ e∈o.after.toList,Region.binds .any e=true→listed.getD e.on false=true:=by
 unfold Region.ready
 rw [List.mem_filter,List.mem_range]
 constructor
 ·rintro ⟨h1,h2⟩
  simp only [Bool.and_eq_true,Bool.not_eq_true'] at h2
  refine ⟨h1,h2.1,fun o ho e he hb=>?_⟩
  have h3:=h2.2
  rw [ho] at h3
  simp only [Option.map_some,Option.getD_some] at h3
  rw [← Array.all_toList,List.all_eq_true] at h3
  have:=h3 e he
  simpa [hb] using this
 ·rintro ⟨h1,h2,h3⟩
  refine ⟨h1,?_⟩
  simp only [Bool.and_eq_true,Bool.not_eq_true']
  refine ⟨h2,?_⟩
  rw [Array.getElem?_eq_getElem h1]
  simp only [Option.map_some,Option.getD_some]
  rw [← Array.all_toList,List.all_eq_true]
  intro e he
  cases hb:Region.binds .any e with
  | false=>simp
  | true=>simpa using h3 _ (Array.getElem?_eq_getElem h1) e he hb
theorem b8Z {listed:Array Bool} {i:Nat}:i∈gUZ ops listed↔i<ops.size∧listed.getD i true=false:=by
 unfold gUZ;rw [List.mem_filter,List.mem_range];simp
theorem dJZ (hf:ixZ ops=true) {listed:Array Bool} (hs:listed.size=ops.size):∀ (n k:Nat),k<n→k∈gUZ ops listed→∃ i,i∈Region.ready .any ops listed
 | 0,_,h,_=>by omega
 | n+1,k,h,hk=>by
  obtain ⟨h1,h2⟩:=b8Z.1 hk
  by_cases hr:∀ o,ops[k]?=some o→∀ e∈o.after.toList,Region.binds .any e=true→listed.getD e.on false=true
  ·exact ⟨k,dKZ.2 ⟨h1,h2,hr⟩⟩
  ·simp only [Classical.not_forall] at hr
   obtain ⟨o,ho,e,he,hb,hn⟩:=hr
   have hlt:=lNZ hf ho he hb
   refine dJZ hf hs n e.on (by omega) (b8Z.2 ⟨by omega,?_⟩)
   rw [kMZ (by omega)]
   simpa using hn
theorem fWZ {n i:Nat} (h:i<n):List.range n=List.range i++i::(List.range (n-i-1)).map (fun x=>i+1+x):=by
 have:n=i+(1+(n-i-1)):=by omega
 conv=>lhs;rw [this,List.range_add,List.range_add]
 simp [Nat.add_assoc]
theorem hEZ {listed:Array Bool} {i:Nat} (hs:listed.size=ops.size) (hi:i∈gUZ ops listed):∃ pre post,gUZ ops listed=pre++i::post∧gUZ ops (listed.setIfInBounds i true)=pre++post∧∀ x∈pre,x<i∧x∈gUZ ops listed:=by
 obtain ⟨h1,h2⟩:=b8Z.1 hi
 have hget:∀ x,x≠i→(listed.setIfInBounds i true).getD x true=listed.getD x true:=fun x hx=>by
  simp only [Array.getD_eq_getD_getElem?,Array.getElem?_setIfInBounds]
  rw [if_neg (fun e=>hx e.symm)]
 have hgi:(listed.setIfInBounds i true).getD i true=true:=by
  simp only [Array.getD_eq_getD_getElem?,Array.getElem?_setIfInBounds]
  simp [hs,h1]
 have e1:∀ l:List Nat,(∀ x∈l,x≠i)→l.filter (fun x=>!(listed.setIfInBounds i true).getD x true)=l.filter fun x=>!listed.getD x true:=fun l hl=>by
  apply List.filter_congr
  intro x hx
  rw [hget x (hl x hx)]
 refine ⟨(List.range i).filter (fun x=>!listed.getD x true),((List.range (ops.size-i-1)).map (fun x=>i+1+x)).filter (fun x=>!listed.getD x true),?_,?_,fun x hx=>?_⟩
 ·unfold gUZ
  rw [fWZ h1,List.filter_append,List.filter_cons]
  simp [h2]
 ·unfold gUZ
  rw [fWZ h1,List.filter_append,List.filter_cons,hgi,e1,e1]
  ·simp
  ·intro x hx
   obtain ⟨y,_,rfl⟩:=List.mem_map.1 hx
   omega
  ·intro x hx
   have:=List.mem_range.1 hx
   omega
 ·obtain ⟨hx1,hx2⟩:=List.mem_filter.1 hx
  have:=List.mem_range.1 hx1
  exact ⟨this,b8Z.2 ⟨by omega,by simpa using hx2⟩⟩
theorem p4Z (hO:OrcOK P O) (hC:dqZ P O call) (hd:jSZ O f rid ops=true):∀ (fuel:Nat) (listed:Array Bool) {w:World} {s s':St} {ι:Key→Nat} {a:Act},listed.size=ops.size→Cl ops listed→(gUZ ops listed).length=fuel→Rel O FB w s (aKZ a) ι→s.env.length=a.tmps.size →
  cVZ O call true f rid ops (gUZ ops listed) s=some s'→Leaves O FB w s ι a s' (Q .normal)→wpAny P .any ops Q fuel listed a w:=by
 have hf:ixZ ops=true:=by unfold jSZ at hd;simp only [Bool.and_eq_true] at hd;exact hd.1
 have hap:∀ j x,j<ops.size→x<j→(ah ops j).testBit x=true∨mPZ O f rid ops x j=true:=by
  intro j x hj hx
  unfold jSZ at hd
  simp only [Bool.and_eq_true,List.all_eq_true,List.mem_range,Bool.or_eq_true] at hd
  exact hd.2 j hj x hx
 intro fuel
 induction fuel with
 | zero =>
  intro listed w s s' ι a hs hc hn h hl he hq
  have hr:gUZ ops listed=[]:=List.length_eq_zero_iff.1 hn
  rw [hr] at he
  simp only [cVZ,Option.some.injEq] at he
  subst he
  refine ⟨?_,hq _ _ ι rfl rfl (Goes.refl h)⟩
  refine List.eq_nil_iff_forall_not_mem.2 fun x hx=>?_
  obtain ⟨x1,x2,_⟩:=dKZ.1 hx
  have:x∈gUZ ops listed:=b8Z.2 ⟨x1,x2⟩
  rw [hr] at this;cases this
 | succ fuel ih =>
  intro listed w s s' ι a hs hc hn h hl he hq
  refine ⟨fun hr=>?_,fun i hi=>?_⟩
  ·cases hR:gUZ ops listed with
   | nil=>rw [hR] at hn;simp at hn
   | cons k l =>
    obtain ⟨i,hi⟩:=dJZ hf hs (k+1) k (by omega) (by rw [hR];exact List.mem_cons_self)
    rw [hr] at hi;cases hi
  ·obtain ⟨i1,i2,i3⟩:=dKZ.1 hi
   obtain ⟨pre,post,p1,p2,p3⟩:=hEZ hs (b8Z.2 ⟨i1,i2⟩)
   rw [p1] at he hn
   have hfront:∀ x∈pre,mPZ O f rid ops x i=true:=by
    intro x hx
    obtain ⟨x1,x2⟩:=p3 x hx
    rcases hap i x i1 x1 with hb | hb
    ·exfalso
     obtain ⟨x3,x4⟩:=b8Z.1 x2
     rw [kMZ (by omega)] at x4
     obtain ⟨e,e1,e2,e3⟩:=nYZ (Array.getElem?_eq_getElem i1) hb
     have hle:=i3 _ (Array.getElem?_eq_getElem i1) e e1 e2
     rcases e3 with rfl | e3
     ·rw [x4] at hle;cases hle
     ·have hlt:=lNZ hf (Array.getElem?_eq_getElem i1) e1 e2
      have:=Cl.ahead hf hs hc (e.on+1) e.on (by omega) (by omega) hle x e3
      rw [x4] at this;cases this
    ·exact hb
   obtain ⟨s1,q1,q2⟩:=fZZ pre post s s' hfront he
   refine kBZ hO hC h hl q1 fun a1 w1 ι1 hd1 hs1 hg=>?_
   refine ih (listed.setIfInBounds i true) (by simpa using hs) ?_ (by rw [p2];simp only [List.length_append,List.length_cons] at hn ⊢;omega) hg.stp.rel (by rw [eTZ q1,hl,hs1]) (by rw [p2];exact q2) (hq.chain h hd1 hs1 hg)
   intro k o ho hk e he' hb
   have hmono:listed.getD e.on false=true→(listed.setIfInBounds i true).getD e.on false=true:=fun hx=>by
    simp only [Array.getD_eq_getD_getElem?,Array.getElem?_setIfInBounds] at hx ⊢
    split
    ·split <;> simp_all
    ·exact hx
   refine hmono ?_
   by_cases hki:k=i
   ·subst hki;exact i3 o ho e he' hb
   ·refine hc k o ho ?_ e he' hb
    simp only [Array.getD_eq_getD_getElem?,Array.getElem?_setIfInBounds] at hk ⊢
    rw [if_neg (fun e=>hki e.symm)] at hk
    exact hk
theorem osZ (hO:OrcOK P O) (hm:P.follows .mixedOrders=true) (hC:dqZ P O call) {draw:Bool} (hd:draw=true→jSZ O f rid ops=true) {w:World} {s s':St} {ι:Key→Nat} {a:Act} (h:Rel O FB w s (aKZ a) ι) (hl:s.env.length=a.tmps.size)
  (he:cVZ O call draw f rid ops (List.range ops.size) s=some s') (hq:Leaves O FB w s ι a s' (Q .normal)):(Code.region rid ops draw).wp P Q a w:=by
 cases draw with
 | false=>exact wp_region (lVZ hO hC _ h hl he hq)
 | true =>
  refine wp_region_any hm ?_
  have h1:Stp O FB w s (aKZ a) ι { w with drawn:=w.drawn+1 } s (aKZ a) ι:=h.heapEq rfl
  have hg:Goes O FB w s (aKZ a) ι { w with drawn:=w.drawn+1 } s (aKZ a) ι:=⟨h1,jmZ _ ⟨rfl,rfl,rfl,rfl⟩,fun _ _=>KGo.of ⟨rfl,rfl⟩⟩
  have hr:gUZ ops (Array.replicate ops.size false)=List.range ops.size:=by
   unfold gUZ
   rw [List.filter_eq_self]
   intro x hx
   have:=List.mem_range.1 hx
   simp [Array.getD_eq_getD_getElem?,this]
  refine p4Z hO hC (hd rfl) ops.size (Array.replicate ops.size false) (by simp) ?_ (by rw [hr];simp) h1.rel hl (by rw [hr];exact he) (hq.chain h rfl rfl hg)
  intro i o ho hi
  have:i<ops.size:=by
   rcases Nat.lt_or_ge i ops.size with h | h
   ·exact h
   ·rw [Array.getElem?_eq_none h] at ho;cases ho
  simp [Array.getD_eq_getD_getElem?,this] at hi
end Go.Am
namespace Go.Am
variable {P:Program} {O:Orc} {call:aTZ} {f:FuncId} {rid i j:Nat} {o:Oper} {r:Res} {ops:Array Oper} {g g':Nat→AV} {h h':adZ} {s s1 s2:St}
def Eff (F:Foot) (h:adZ) (r:Res) (e:adZ→Option Res):Prop:=match F with
  | .zero=>r.h=h∧∀ h',e h'=some ⟨r.a,r.tk,h'⟩
  | .ty k=>r.h=h∧∀ h',(aeZ h' k).map (·.d.t)=(aeZ h k).map (·.d.t)→e h'=some ⟨r.a,r.tk,h'⟩
  | .rd k=>r.h=h∧∀ h',(aeZ h' k).map (·.d)=(aeZ h k).map (·.d)→e h'=some ⟨r.a,r.tk,h'⟩
  | .tk k=>∃ ob ob':Ob,aeZ h k=some ob∧ob'.d=ob.d∧r.h=aOZ h k ob'∧∀ h',aeZ h' k=some ob→e h'=some ⟨r.a,r.tk,aOZ h' k ob'⟩
  | .wr k=>∃ ob ob':Ob,aeZ h k=some ob∧ob'.d.t=ob.d.t∧r.h=aOZ h k ob'∧∀ h',aeZ h' k=some ob→e h'=some ⟨r.a,r.tk,aOZ h' k ob'⟩
  | .nw k=>∃ ob:Ob,aeZ h k=none∧r.h=(k,ob)::h∧∀ h',aeZ h' k=none→e h'=some ⟨r.a,r.tk,(k,ob)::h'⟩
  | .ca k=>∃ ob ob':Ob,aeZ h k=some ob∧r.h=aOZ h k ob'∧∀ h',aeZ h' k=some ob→e h'=some ⟨r.a,r.tk,aOZ h' k ob'⟩
  | .cx X=>∀ k,X.contains k=true→aeZ r.h k=aeZ h k∧(∀ ob,aeZ h k=none→e ((k,ob)::h)=some ⟨r.a,r.tk,(k,ob)::r.h⟩)∧∀ ob ob',aeZ h k=some ob→e (aOZ h k ob')=some ⟨r.a,r.tk,aOZ r.h k ob'⟩
  | .ro=>r.h=h
  | .all=>True
theorem c6Z:∀ (h:adZ) (k q:Key) (a b:Ob),k≠q→aOZ (aOZ h k a) q b=aOZ (aOZ h q b) k a
 | [],_,_,_,_,_=>rfl
 | (p,u)::r,k,q,a,b,hn=>by
  simp only [aOZ]
  by_cases h1:p=k
  ·by_cases h2:p=q
   ·exact absurd (h1.symm.trans h2) hn
   ·simp only [if_pos h1,if_neg h2,aOZ]
  ·by_cases h2:p=q
   ·simp only [if_neg h1,if_pos h2,aOZ]
   ·simp only [if_neg h1,if_neg h2,aOZ];rw [c6Z r k q a b hn]
theorem auZ {h:adZ} {k q:Key} {o:Ob} (hn:q≠k):aeZ (aOZ h k o) q=aeZ h q:=by rw [aqZ,if_neg hn]
theorem fvZ {h:adZ} {k q:Key} {o u:Ob} (hk:aeZ h k=some u) (ht:o.d.t=u.d.t):(aeZ (aOZ h k o) q).map (·.d.t)=(aeZ h q).map (·.d.t):=by
 rw [aqZ]
 by_cases e:q=k
 ·rw [if_pos e,e,hk];simp [ht]
 ·rw [if_neg e]
theorem a7Z {h:adZ} {k q:Key} {o:Ob} (hn:q≠k):aeZ ((k,o)::h) q=aeZ h q:=by rw [aiZ,if_neg hn]
theorem dNZ {h:adZ} {k q:Key} {a b:Ob} (hn:k≠q):aOZ ((k,a)::h) q b=(k,a)::aOZ h q b:=by simp only [aOZ,if_neg hn]
theorem e3Z:∀ (h:adZ) (k:Key) (a b:Ob),aOZ (aOZ h k a) k b=aOZ h k b
 | [],_,_,_=>rfl
 | (p,u)::r,k,a,b=>by
  simp only [aOZ]
  by_cases h1:p=k
  ·simp only [if_pos h1,aOZ]
  ·simp only [if_neg h1,aOZ,e3Z r k a b]
theorem gcZ:∀ {h:adZ} {k:Key} {a:Ob},aeZ h k=some a→aOZ h k a=h
 | [],_,_,e=>by cases e
 | (p,u)::r,k,a,e=>by
  simp only [aOZ,aeZ] at e ⊢
  by_cases h1:p=k
  ·rw [if_pos h1] at e ⊢;cases e;rfl
  ·rw [if_neg h1] at e ⊢;rw [gcZ e]
theorem fsZ {h:adZ} {k:Key} {a b:Ob} (e:aeZ h k=some a):aeZ (aOZ h k b) k=some b:=by
 induction h with
 | nil=>cases e
 | cons q r ih =>
  obtain ⟨p,u⟩:=q
  simp only [aOZ,aeZ] at e ⊢
  by_cases h1:p=k
  ·simp only [if_pos h1,aeZ]
  ·rw [if_neg h1] at e;simp only [if_neg h1,aeZ];exact ih e
theorem Eff.comm0 {Fi Fj:Foot} {r1 r2:Res} {ei ej:adZ→Option Res} (ni:∀ k,Fi≠.tk k) (nj:∀ k,Fj≠.tk k) (hc:aGZ Fi Fj=true) (hi:Eff Fi h r1 ei) (hj:Eff Fj r1.h r2 ej) (e1:ei h=some r1) (e2:ej r1.h=some r2) :
  ∃ r2',ej h=some r2'∧r2'.a=r2.a∧r2'.tk=r2.tk∧∃ r1',ei r2'.h=some r1'∧r1'.a=r1.a∧r1'.tk=r1.tk∧r1'.h=r2.h:=by
 have keep:r1.h=h→(ei r2.h=some ⟨r1.a,r1.tk,r2.h⟩)→∃ r2',ej h=some r2'∧r2'.a=r2.a∧r2'.tk=r2.tk∧∃ r1',ei r2'.h=some r1'∧r1'.a=r1.a∧r1'.tk=r1.tk∧r1'.h=r2.h:=fun m1 m2 =>
  ⟨r2,m1 ▸ e2,rfl,rfl,_,m2,rfl,rfl,rfl⟩
 have keep2:r2.h=r1.h→ej h=some ⟨r2.a,r2.tk,h⟩→∃ r2',ej h=some r2'∧r2'.a=r2.a∧r2'.tk=r2.tk∧∃ r1',ei r2'.h=some r1'∧r1'.a=r1.a∧r1'.tk=r1.tk∧r1'.h=r2.h:=fun m1 m2 =>
  ⟨_,m2,rfl,rfl,r1,e1,rfl,rfl,m1.symm⟩
 cases Fi with
 | tk q=>exact absurd rfl (ni q)
 | all=>cases Fj <;> first | (simp [aGZ] at hc;done) | exact keep2 hj.1 (hj.2 h)
 | zero=>exact keep hi.1 (hi.2 _)
 | ty k =>
  obtain ⟨m1,m2⟩:=hi
  rw [m1] at hj
  cases Fj with
  | tk q=>exact absurd rfl (nj q)
  | zero=>exact keep2 (hj.1.trans m1.symm) (hj.2 h)
  | ty q=>exact keep m1 (m2 _ (by rw [hj.1]))
  | rd q=>exact keep m1 (m2 _ (by rw [hj.1]))
  | wr q =>
   obtain ⟨ob,ob',a1,a2,a3,a4⟩:=hj
   exact keep m1 (m2 _ (by rw [a3];exact fvZ a1 a2))
  | nw q =>
   obtain ⟨ob,a1,a2,a3⟩:=hj
   have hn:k≠q:=by simpa [aGZ] using hc
   exact keep m1 (m2 _ (by rw [a2,a7Z hn]))
  | ca q =>
   obtain ⟨ob,ob',a1,a3,a4⟩:=hj
   have hn:k≠q:=by simpa [aGZ] using hc
   exact keep m1 (m2 _ (by rw [a3,auZ hn]))
  | cx X=>exact keep m1 (m2 _ (by rw [(hj k hc).1]))
  | ro=>exact keep m1 (m2 _ (by rw [hj]))
  | all=>simp [aGZ] at hc
 | rd k =>
  obtain ⟨m1,m2⟩:=hi
  rw [m1] at hj
  cases Fj with
  | tk q=>exact absurd rfl (nj q)
  | zero=>exact keep2 (hj.1.trans m1.symm) (hj.2 h)
  | ty q=>exact keep m1 (m2 _ (by rw [hj.1]))
  | rd q=>exact keep m1 (m2 _ (by rw [hj.1]))
  | wr q =>
   obtain ⟨ob,ob',a1,a2,a3,a4⟩:=hj
   have hn:k≠q:=by simpa [aGZ] using hc
   exact keep m1 (m2 _ (by rw [a3,auZ hn]))
  | nw q =>
   obtain ⟨ob,a1,a2,a3⟩:=hj
   have hn:k≠q:=by simpa [aGZ] using hc
   exact keep m1 (m2 _ (by rw [a2,a7Z hn]))
  | ca q =>
   obtain ⟨ob,ob',a1,a3,a4⟩:=hj
   have hn:k≠q:=by simpa [aGZ] using hc
   exact keep m1 (m2 _ (by rw [a3,auZ hn]))
  | cx X=>exact keep m1 (m2 _ (by rw [(hj k hc).1]))
  | ro=>exact keep m1 (m2 _ (by rw [hj]))
  | all=>simp [aGZ] at hc
 | wr k =>
  obtain ⟨ob,ob',a1,a2,a3,a4⟩:=hi
  cases Fj with
  | tk q=>exact absurd rfl (nj q)
  | zero=>exact keep2 hj.1 (hj.2 h)
  | ty q=>exact keep2 hj.1 (hj.2 h (by rw [a3];exact (fvZ a1 a2).symm))
  | rd q =>
   have hn:k≠q:=by simpa [aGZ] using hc
   exact keep2 hj.1 (hj.2 h (by rw [a3,auZ (Ne.symm hn)]))
  | wr q =>
   have hn:k≠q:=by simpa [aGZ] using hc
   obtain ⟨u,u',b1,b2,b3,b4⟩:=hj
   rw [a3,auZ (Ne.symm hn)] at b1
   refine ⟨_,b4 h b1,rfl,rfl,_,a4 _ (by rw [auZ hn];exact a1),rfl,rfl,?_⟩
   rw [b3,a3];exact c6Z _ _ _ _ _ (Ne.symm hn)
  | nw q =>
   have hn:k≠q:=by simpa [aGZ] using hc
   obtain ⟨u,b1,b2,b3⟩:=hj
   rw [a3,auZ (Ne.symm hn)] at b1
   refine ⟨_,b3 h b1,rfl,rfl,_,a4 _ (by rw [a7Z hn];exact a1),rfl,rfl,?_⟩
   rw [b2,a3];exact dNZ (Ne.symm hn)
  | ca q =>
   have hn:k≠q:=by simpa [aGZ] using hc
   obtain ⟨u,u',b1,b3,b4⟩:=hj
   rw [a3,auZ (Ne.symm hn)] at b1
   refine ⟨_,b4 h b1,rfl,rfl,_,a4 _ (by rw [auZ hn];exact a1),rfl,rfl,?_⟩
   rw [b3,a3];exact c6Z _ _ _ _ _ (Ne.symm hn)
  | cx X =>
   obtain ⟨j1,_,j3⟩:=hj k hc
   have l1:aeZ r1.h k=some ob':=by rw [a3];exact fsZ a1
   have e0:aOZ r1.h k ob=h:=by rw [a3,e3Z];exact gcZ a1
   have l2:aeZ r2.h k=some ob':=j1.trans l1
   have e1:=j3 ob' ob l1
   rw [e0] at e1
   refine ⟨_,e1,rfl,rfl,_,a4 _ (fsZ l2),rfl,rfl,?_⟩
   simp only
   rw [e3Z];exact gcZ l2
  | ro=>simp [aGZ] at hc
  | all=>simp [aGZ] at hc
 | nw k =>
  obtain ⟨ob,a1,a2,a3⟩:=hi
  cases Fj with
  | tk q=>exact absurd rfl (nj q)
  | zero=>exact keep2 hj.1 (hj.2 h)
  | ty q =>
   have hn:k≠q:=by simpa [aGZ] using hc
   exact keep2 hj.1 (hj.2 h (by rw [a2,a7Z (Ne.symm hn)]))
  | rd q =>
   have hn:k≠q:=by simpa [aGZ] using hc
   exact keep2 hj.1 (hj.2 h (by rw [a2,a7Z (Ne.symm hn)]))
  | wr q =>
   have hn:k≠q:=by simpa [aGZ] using hc
   obtain ⟨u,u',b1,b2,b3,b4⟩:=hj
   rw [a2,a7Z (Ne.symm hn)] at b1
   refine ⟨_,b4 h b1,rfl,rfl,_,a3 _ (by rw [auZ hn];exact a1),rfl,rfl,?_⟩
   rw [b3,a2];exact (dNZ hn).symm
  | nw q=>simp [aGZ] at hc
  | ca q=>simp [aGZ] at hc
  | cx X=>simp [aGZ] at hc
  | ro=>simp [aGZ] at hc
  | all=>simp [aGZ] at hc
 | ca k =>
  obtain ⟨ob,ob',a1,a3,a4⟩:=hi
  cases Fj with
  | tk q=>exact absurd rfl (nj q)
  | zero=>exact keep2 hj.1 (hj.2 h)
  | ty q =>
   have hn:k≠q:=by simpa [aGZ] using hc
   exact keep2 hj.1 (hj.2 h (by rw [a3,auZ (Ne.symm hn)]))
  | rd q =>
   have hn:k≠q:=by simpa [aGZ] using hc
   exact keep2 hj.1 (hj.2 h (by rw [a3,auZ (Ne.symm hn)]))
  | wr q =>
   have hn:k≠q:=by simpa [aGZ] using hc
   obtain ⟨u,u',b1,b2,b3,b4⟩:=hj
   rw [a3,auZ (Ne.symm hn)] at b1
   refine ⟨_,b4 h b1,rfl,rfl,_,a4 _ (by rw [auZ hn];exact a1),rfl,rfl,?_⟩
   rw [b3,a3];exact c6Z _ _ _ _ _ (Ne.symm hn)
  | nw q=>simp [aGZ] at hc
  | ca q =>
   have hn:k≠q:=by simpa [aGZ] using hc
   obtain ⟨u,u',b1,b3,b4⟩:=hj
   rw [a3,auZ (Ne.symm hn)] at b1
   refine ⟨_,b4 h b1,rfl,rfl,_,a4 _ (by rw [auZ hn];exact a1),rfl,rfl,?_⟩
   rw [b3,a3];exact c6Z _ _ _ _ _ (Ne.symm hn)
  | cx X=>simp [aGZ] at hc
  | ro=>simp [aGZ] at hc
  | all=>simp [aGZ] at hc
 | ro =>
  have hi':r1.h=h:=hi
  cases Fj with
  | tk q=>exact absurd rfl (nj q)
  | zero=>exact keep2 hj.1 (hj.2 h)
  | ty q=>exact keep2 hj.1 (hj.2 h (by rw [hi']))
  | rd q=>exact keep2 hj.1 (hj.2 h (by rw [hi']))
  | _=>simp [aGZ] at hc
 | cx X =>
  cases Fj with
  | tk q=>exact absurd rfl (nj q)
  | zero=>exact keep2 hj.1 (hj.2 h)
  | ty q=>exact keep2 hj.1 (hj.2 h (by rw [(hi q hc).1]))
  | rd q=>exact keep2 hj.1 (hj.2 h (by rw [(hi q hc).1]))
  | nw q =>
   obtain ⟨i1,i2,_⟩:=hi q hc
   obtain ⟨u,b1,b2,b3⟩:=hj
   rw [i1] at b1
   exact ⟨_,b3 h b1,rfl,rfl,_,i2 u b1,rfl,rfl,b2.symm⟩
  | wr q =>
   obtain ⟨i1,_,i3⟩:=hi q hc
   obtain ⟨u,u',b1,b2,b3,b4⟩:=hj
   rw [i1] at b1
   exact ⟨_,b4 h b1,rfl,rfl,_,i3 u u' b1,rfl,rfl,b3.symm⟩
  | _=>simp [aGZ] at hc
theorem Eff.tk_wr {k:Key} {r:Res} {e:adZ→Option Res} (h1:Eff (.tk k) h r e):Eff (.wr k) h r e:=by
 obtain ⟨ob,ob',a1,a2,a3,a4⟩:=h1
 exact ⟨ob,ob',a1,by rw [a2],a3,a4⟩
theorem f9Z {h:adZ} {k q:Key} {o u:Ob} (hk:aeZ h k=some u) (ht:o.d=u.d):(aeZ (aOZ h k o) q).map (·.d)=(aeZ h q).map (·.d):=by
 rw [aqZ]
 by_cases e:q=k
 ·rw [if_pos e,e,hk];simp [ht]
 ·rw [if_neg e]
theorem Eff.comm {Fi Fj:Foot} {r1 r2:Res} {ei ej:adZ→Option Res} (hc:aGZ Fi Fj=true) (hi:Eff Fi h r1 ei) (hj:Eff Fj r1.h r2 ej) (e1:ei h=some r1) (e2:ej r1.h=some r2) :
  ∃ r2',ej h=some r2'∧r2'.a=r2.a∧r2'.tk=r2.tk∧∃ r1',ei r2'.h=some r1'∧r1'.a=r1.a∧r1'.tk=r1.tk∧r1'.h=r2.h:=by
 cases Fi with
 | tk k =>
  cases Fj with
  | rd q =>
   obtain ⟨ob,ob',a1,a2,a3,a4⟩:=hi
   exact ⟨_,hj.2 h (by rw [a3];exact (f9Z a1 a2).symm),rfl,rfl,r1,e1,rfl,rfl,hj.1.symm⟩
  | tk q=>exact Eff.comm0 (Fi:=.wr k) (Fj:=.wr q) (fun _ e=>by cases e) (fun _ e=>by cases e) hc hi.tk_wr hj.tk_wr e1 e2
  | zero=>exact Eff.comm0 (Fi:=.wr k) (Fj:=.zero) (fun _ e=>by cases e) (fun _ e=>by cases e) rfl hi.tk_wr hj e1 e2
  | ty q=>exact Eff.comm0 (Fi:=.wr k) (Fj:=.ty q) (fun _ e=>by cases e) (fun _ e=>by cases e) rfl hi.tk_wr hj e1 e2
  | wr q=>exact Eff.comm0 (Fi:=.wr k) (Fj:=.wr q) (fun _ e=>by cases e) (fun _ e=>by cases e) hc hi.tk_wr hj e1 e2
  | nw q=>exact Eff.comm0 (Fi:=.wr k) (Fj:=.nw q) (fun _ e=>by cases e) (fun _ e=>by cases e) hc hi.tk_wr hj e1 e2
  | ca q=>exact Eff.comm0 (Fi:=.wr k) (Fj:=.ca q) (fun _ e=>by cases e) (fun _ e=>by cases e) hc hi.tk_wr hj e1 e2
  | cx X=>exact Eff.comm0 (Fi:=.wr k) (Fj:=.cx X) (fun _ e=>by cases e) (fun _ e=>by cases e) hc hi.tk_wr hj e1 e2
  | ro=>simp [aGZ] at hc
  | all=>simp [aGZ] at hc
 | rd k =>
  cases Fj with
  | tk q =>
   obtain ⟨m1,m2⟩:=hi
   rw [m1] at hj
   obtain ⟨ob,ob',a1,a2,a3,a4⟩:=hj
   refine ⟨r2,m1 ▸ e2,rfl,rfl,_,m2 _ ?_,rfl,rfl,rfl⟩
   rw [a3];exact f9Z a1 a2
  | _=>exact Eff.comm0 (fun _ e=>by cases e) (fun _ e=>by cases e) hc hi hj e1 e2
 | _ =>
  cases Fj with
  | tk q=>first
   | exact Eff.comm0 (Fj:=.wr q) (fun _ e=>by cases e) (fun _ e=>by cases e) hc hi hj.tk_wr e1 e2
   | (exact Eff.comm0 (Fj:=.wr q) (fun _ e=>by cases e) (fun _ e=>by cases e) rfl hi hj.tk_wr e1 e2)
   | (simp [aGZ] at hc;done)
  | _=>exact Eff.comm0 (fun _ e=>by cases e) (fun _ e=>by cases e) hc hi hj e1 e2
end Go.Am
namespace Go.Am
variable {P:Program} {O:Orc} {call:aTZ} {f:FuncId} {rid i j:Nat} {o:Oper} {r:Res} {ops:Array Oper} {g g':Nat→AV} {h h':adZ} {s s1 s2:St}
theorem foZ (hn:∀ c x,o.op=.call c→c.callee≠.value x):afZ O call false f rid i o g h=afZ O call true f rid i o g h:=by
 unfold afZ
 cases hop:o.op with
 | call c =>
  simp only [coZ]
  cases hc:c.callee with
  | builtin b=>cases b <;> rfl
  | value x=>exact absurd hc (hn c x hop)
  | invoke x n=>rfl
 | makeFunc q first caps=>cases q <;> rfl
 | _=>rfl
theorem k1Z {dst:Option Nat} {q:FuncId} {args:List AV} (hk:bjZ (args.map AV.drop)=[]) (ho0:O.out q=[]) (he:bZZ O call false dst q args h=some r):r.h=h∧∀ h',bZZ O call false dst q args h'=some ⟨r.a,r.tk,h'⟩:=by
 have key:∀ h',bZZ O call false dst q args h'=bZZ O call true dst q args h':=by
  intro h'
  unfold bZZ
  simp only [a0Z,hk,bmZ,ho0,List.isEmpty_nil,Bool.and_self,Bool.not_true,Bool.and_false]
 rw [key] at he
 obtain ⟨c1,c2,c3⟩:=heZ he
 exact ⟨c2,fun h'=>by rw [key,c3,c1]⟩
theorem qDZ {draw:Bool} {dst:Option Nat} {q:FuncId} {args:List AV} (he:bZZ O call draw dst q args h=some r):r.tk=none:=by
 unfold bZZ at he
 simp only [a0Z] at he
 split at he
 ·cases he
 ·simp only [Option.bind_eq_some_iff] at he
  obtain ⟨_,_,he⟩:=he
  split at he
  ·cases he
  ·simp only [Option.bind_eq_some_iff] at he
   obtain ⟨_,_,he⟩:=he
   split at he
   ·cases he
   ·simp only [Option.bind_eq_some_iff,Option.some.injEq] at he
    obtain ⟨_,_,_,_,rfl⟩:=he
    rfl
theorem oYZ {X:List Key} {dst:Option Nat} {q:FuncId} {args:List AV} {k:Key} (hk:bjZ (args.map AV.drop)=[k]) (he:cwZ O call false true X dst q args h=some r) :
  ∃ ob ob':Ob,aeZ h k=some ob∧r.h=aOZ h k ob'∧∀ h',aeZ h' k=some ob→cwZ O call false true X dst q args h'=some ⟨r.a,r.tk,aOZ h' k ob'⟩:=by
 unfold cwZ at he
 split at he
 ·cases he
 ·rename_i hone
  simp only [Bool.false_or,Bool.true_and,Bool.or_eq_true,not_or,Bool.not_eq_true',Bool.not_eq_false] at hone
  obtain ⟨⟨hone,hro⟩,hfar⟩:=hone
  have hro:roK X=false:=by simpa using hro
  simp only [Option.bind_eq_some_iff] at he
  obtain ⟨r0,he,hkp⟩:=he
  obtain rfl:=(dYZ hkp).1
  have hone0:=hone
  unfold tYZ at hone
  rw [hk] at hone
  simp only [Bool.and_eq_true,List.isEmpty_iff] at hone
  obtain ⟨hout,hone⟩:=hone
  cases hl:aeZ h k with
  | none=>rw [hl] at hone;simp at hone
  | some ob =>
   rw [hl] at hone
   simp only [List.isEmpty_iff] at hone
   have hreach:∀ h',aeZ h' k=some ob→bmZ h' 50 [k] []=[k]:=fun h' hl'=>by
    simp [bmZ,hl',hone]
   have key:∀ h',aeZ h' k=some ob→bZZ O call false dst q args h'=(call q (epZ (aVZ [k]) (args.map AV.drop)) [((0,0),iMZ (aVZ [k]) ob)]).bind fun p =>
     if !((ekZ p.1).all (fun k=>(k.1 == 0&&decide (k.2<1)))&&shut (fun k=>(k.1 == 0&&decide (k.2<1))) (p.2.filter fun b=>(b.1.1 == 0&&decide (b.1.2<1)))) then none else
     if !(g3Z ob).all [k].contains then none else
     (aeZ p.2 (0,0)).bind fun o'=>some ⟨cmZ (dRZ [k] [] (dst.getD 0)) p.1,none,aOZ h' k (iMZ (dRZ [k] [] (dst.getD 0)) o')⟩:=fun h' hl'=>by
    unfold bZZ
    simp only [a0Z,hk,hreach h' hl',hout]
    have e1:(((false&&!([k].isEmpty&&([]:List Key).isEmpty))||!([k].all [k].contains))||!c5Z [k]||!c5Z ([]:List Key))=false:=by simp [c5Z]
    rw [e1]
    simp only [Bool.false_eq_true,if_false,fdZ,hl',Option.bind_some,Option.map_some,List.all_cons,List.all_nil,Bool.and_true,Option.getD_some,List.filter_nil,List.length_cons,List.length_nil,Nat.zero_add,cvZ,cpZ,List.contains_nil,Bool.or_false]
    cases hko:(g3Z ob).all [k].contains with
    | false=>simp [hko]
    | true=>simp [hko,Option.bind_assoc]
   rw [key h hl] at he
   simp only [Option.bind_eq_some_iff] at he
   obtain ⟨p,hp,he⟩:=he
   split at he
   ·cases he
   ·rename_i hn1
    split at he
    ·cases he
    ·rename_i hn2
     simp only [Option.bind_eq_some_iff,Option.some.injEq] at he
     obtain ⟨o',ho',rfl⟩:=he
     refine ⟨ob,_,rfl,rfl,fun h' hl'=>?_⟩
     unfold cwZ
     have h1':tYZ O h' q args=true:=by
      unfold tYZ
      rw [hk]
      simp [hl',hout,hone]
     have h2':lyZ O h' q args X=true:=by
      rw [← hfar]
      unfold lyZ
      rw [hk,hreach h' hl',hreach h hl]
     simp only [h1',h2',hro,Bool.not_true,Bool.or_false,Bool.or_true,Bool.and_false,Bool.false_eq_true,if_false]
     rw [key h' hl',hp]
     simp only [Option.bind_some]
     rw [if_neg hn1,if_neg hn2,ho']
     simp only [Option.bind_some,mpZ hro]
theorem ohZ {tk:Bool} {dst:Option Nat} {q:FuncId} {args:List AV} {X:List Key} (he:cwZ O call false tk X dst q args h=some r) (hX:X≠[]) (hro:roK X=false):O.out q=[]∧∀ k,X.contains k=true→k ∉ bmZ h 50 (bjZ (args.map AV.drop)) []:=by
 unfold cwZ at he
 split at he
 ·cases he
 ·rename_i hn
  have hf:lyZ O h q args X=true:=by
   cases hf:lyZ O h q args X with
   | true=>rfl
   | false=>exact absurd (by simp [hf]) hn
  unfold lyZ at hf
  split at hf
  ·exact absurd rfl hX
  ·simp only [hro,Bool.false_or,Bool.and_eq_true,List.isEmpty_iff,List.all_eq_true,Bool.not_eq_true'] at hf
   exact ⟨hf.1,fun k hk hm=>by rw [hf.2 k hm] at hk;cases hk⟩
theorem g4Z {dst:Option Nat} {q:FuncId} {args:List AV} {X:List Key} {tk:Bool} {h':adZ} {r':Res} (he:cwZ O call false tk X dst q args h=some r) (hr:bmZ h' 50 (bjZ (args.map AV.drop)) []=bmZ h 50 (bjZ (args.map AV.drop)) []) (hc:bZZ O call false dst q args h'=some r') (htk:tk=false:=by first | rfl | assumption) (hro:roK X=false:=by assumption):cwZ O call false tk X dst q args h'=some r':=by
 subst htk
 unfold cwZ at he ⊢
 split at he
 ·cases he
 ·rename_i hn
  have hf:lyZ O h' q args X=lyZ O h q args X:=by unfold lyZ;rw [hr]
  rw [hf,if_neg (by simpa using hn),hc,Option.bind_some,mpZ hro]
theorem enZ:∀ (t:Ty) (x:den t),t.noRef=true→bHZ t x=[]
 | .pair a b,x,h=>by
  simp only [Ty.noRef,Bool.and_eq_true] at h
  simp only [bHZ,enZ a x.1 h.1,enZ b x.2 h.2,List.append_nil]
 | .arr _ _ t,x,h=>by simp only [Ty.noRef] at h;simp only [bHZ,h,if_true]
 | .ref,_,h=>by simp [Ty.noRef] at h
 | .wref,_,h=>by simp [Ty.noRef] at h
 | .mref _ _,_,h=>by simp [Ty.noRef] at h
 | .sref _,_,h=>by simp [Ty.noRef] at h
 | .int _,_,_=>rfl
 | .bool,_,_=>rfl
 | .str,_,_=>rfl
 | .unit,_,_=>rfl
 | .fnc,_,_=>rfl
 | .mp _ _,_,_=>rfl
 | .expr,_,_=>rfl
 | .slice _,_,_=>rfl
theorem dIZ {h:adZ}:∀ (n:Nat) (todo acc:List Key) (q:Key),q∈acc→q∈bmZ h n todo acc
 | 0,_,_,_,hq=>hq
 | _+1,[],_,_,hq=>hq
 | n+1,k::todo,acc,q,hq=>by
  simp only [bmZ]
  split
  ·exact dIZ n _ _ q hq
  ·split
   ·exact dIZ n _ _ q hq
   ·exact dIZ n _ _ q (List.mem_append_left _ hq)
theorem d3Z {h:adZ} {k:Key} {ob:Ob}:∀ (n:Nat) (todo acc:List Key),(∀ q∈todo,q≠k)→(∀ q o,q∈bmZ h n todo acc→aeZ h q=some o→k ∉ bHZ o.d.t o.d.x)→bmZ ((k,ob)::h) n todo acc=bmZ h n todo acc
 | 0,_,_,_,_=>rfl
 | _+1,[],_,_,_=>rfl
 | n+1,p::todo,acc,ht,hc=>by
  have hp:p≠k:=ht p List.mem_cons_self
  simp only [bmZ] at hc ⊢
  rw [a7Z hp]
  split
  ·rename_i h1
   rw [if_pos h1] at hc
   exact d3Z n _ _ (fun q hq=>ht q (List.mem_cons_of_mem _ hq)) hc
  ·rename_i h1
   rw [if_neg h1] at hc
   cases hl:aeZ h p with
   | none=>rw [hl] at hc;exact d3Z n _ _ (fun q hq=>ht q (List.mem_cons_of_mem _ hq)) hc
   | some o =>
    rw [hl] at hc
    refine d3Z n _ _ (fun q hq=>?_) hc
    rcases List.mem_append.1 hq with hq | hq
    ·exact ht q (List.mem_cons_of_mem _ hq)
    ·intro e
     exact hc p o (dIZ n _ _ p (List.mem_append_right _ (List.mem_singleton.2 rfl))) hl (e ▸ hq)
theorem d0Z {h h':adZ} {k:Key} (hl:∀ q,q≠k→aeZ h' q=aeZ h q):∀ (n:Nat) (todo acc:List Key),(∀ q∈todo,q≠k)→(∀ q o,q∈bmZ h n todo acc→aeZ h q=some o→k ∉ bHZ o.d.t o.d.x)→bmZ h' n todo acc=bmZ h n todo acc
 | 0,_,_,_,_=>rfl
 | _+1,[],_,_,_=>rfl
 | n+1,p::todo,acc,ht,hc=>by
  have hp:p≠k:=ht p List.mem_cons_self
  simp only [bmZ] at hc ⊢
  rw [hl p hp]
  split
  ·rename_i h1
   rw [if_pos h1] at hc
   exact d0Z hl n _ _ (fun q hq=>ht q (List.mem_cons_of_mem _ hq)) hc
  ·rename_i h1
   rw [if_neg h1] at hc
   cases hlp:aeZ h p with
   | none=>rw [hlp] at hc;exact d0Z hl n _ _ (fun q hq=>ht q (List.mem_cons_of_mem _ hq)) hc
   | some o =>
    rw [hlp] at hc
    refine d0Z hl n _ _ (fun q hq=>?_) hc
    rcases List.mem_append.1 hq with hq | hq
    ·exact ht q (List.mem_cons_of_mem _ hq)
    ·intro e
     exact hc p o (dIZ n _ _ p (List.mem_append_right _ (List.mem_singleton.2 rfl))) hlp (e ▸ hq)
theorem grZ {σ:Key→Key} {h1:adZ} {k:Key} {ob:Ob}:∀ {ks:List Key} {i:Nat} {h h2:adZ},k ∉ ks→cvZ σ h1 ks i h=some h2→cvZ σ h1 ks i (aOZ h k ob)=some (aOZ h2 k ob)
 | [],i,h,h2,_,e=>by
  simp only [cvZ,Option.some.injEq] at e ⊢
  rw [e]
 | q::r,i,h,h2,hn,e=>by
  simp only [cvZ,Option.bind_eq_some_iff] at e ⊢
  obtain ⟨o,ho,e⟩:=e
  refine ⟨o,ho,?_⟩
  rw [c6Z _ _ _ _ _ (fun e:k=q=>hn (e ▸ List.mem_cons_self))]
  exact grZ (fun hm=>hn (List.mem_cons_of_mem _ hm)) e
theorem fkZ {h h':adZ} {ρ:Key→Key}:∀ {ks:List Key} {i:Nat},(∀ q,q∈ks→aeZ h' q=aeZ h q)→fdZ h' ρ ks i=fdZ h ρ ks i
 | [],_,_=>rfl
 | k::r,i,hl=>by
  simp only [fdZ]
  rw [hl k List.mem_cons_self,fkZ fun q hq=>hl q (List.mem_cons_of_mem _ hq)]
theorem List.all_eq_all_same {α:Type} {f g:α→Bool}:∀ {l:List α},(∀ q,q∈l→f q=g q)→l.all f=l.all g
 | [],_=>rfl
 | a::l,h=>by
  simp only [List.all_cons]
  rw [h a List.mem_cons_self,List.all_eq_all_same fun q hq=>h q (List.mem_cons_of_mem _ hq)]
theorem f7Z {σ:Key→Key} {h1:adZ} {k:Key} {ob:Ob}:∀ {ks:List Key} {i:Nat} {h h2:adZ},k ∉ ks→cvZ σ h1 ks i h=some h2→cvZ σ h1 ks i ((k,ob)::h)=some ((k,ob)::h2)
 | [],i,h,h2,_,e=>by
  simp only [cvZ,Option.some.injEq] at e ⊢
  rw [e]
 | q::r,i,h,h2,hn,e=>by
  simp only [cvZ,Option.bind_eq_some_iff] at e ⊢
  obtain ⟨o,ho,e⟩:=e
  refine ⟨o,ho,?_⟩
  rw [dNZ (fun e:k=q=>hn (e ▸ List.mem_cons_self))]
  exact f7Z (fun hm=>hn (List.mem_cons_of_mem _ hm)) e
theorem nCZ {dst:Option Nat} {q:FuncId} {args:List AV} {X:List Key} (he:bZZ O call false dst q args h=some r) (ho:O.out q=[]) (hX:∀ k,X.contains k=true→k ∉ bmZ h 50 (bjZ (args.map AV.drop)) []):∀ k,X.contains k=true→aeZ r.h k=aeZ h k∧(∀ ob,aeZ h k=none→bmZ ((k,ob)::h) 50 (bjZ (args.map AV.drop)) []=bmZ h 50 (bjZ (args.map AV.drop)) []∧bZZ O call false dst q args ((k,ob)::h)=some ⟨r.a,r.tk,(k,ob)::r.h⟩)∧∀ ob:Ob,bmZ (aOZ h k ob) 50 (bjZ (args.map AV.drop)) []=bmZ h 50 (bjZ (args.map AV.drop)) []∧bZZ O call false dst q args (aOZ h k ob)=some ⟨r.a,r.tk,aOZ r.h k ob⟩:=by
 intro k hk
 have hkr:=hX k hk
 unfold bZZ at he
 simp only [a0Z,ho] at he
 split at he
 ·cases he
 ·rename_i hcond
  simp only [Bool.or_eq_true,not_or,Bool.not_eq_true',Bool.not_eq_false] at hcond
  simp only [Option.bind_eq_some_iff] at he
  obtain ⟨h0,hin,he⟩:=he
  split at he
  ·cases he
  ·rename_i hclo
   simp only [Option.bind_eq_some_iff] at he
   obtain ⟨p,hp,he⟩:=he
   split at he
   ·cases he
   ·rename_i hn3
    simp only [Option.bind_eq_some_iff,Option.some.injEq,List.filter_nil,cpZ] at he
    obtain ⟨h2,e2,h3,e3,rfl⟩:=he
    have e3:h2=h3:=by simpa using e3
    subst e3
    have hks:∀ q∈bjZ (args.map AV.drop),q≠k:=fun q hq e=>by
     have:=List.all_eq_true.1 hcond.1.1.2 q hq
     exact hkr (e ▸ List.contains_iff_mem.1 this)
    have hcl:∀ q o,q∈bmZ h 50 (bjZ (args.map AV.drop)) []→aeZ h q=some o→k ∉ bHZ o.d.t o.d.x:=fun q o hq ho hm=>by
     simp only [Bool.not_eq_true',Bool.not_eq_false,List.all_eq_true] at hclo
     have h1:=hclo q hq
     rw [ho] at h1
     simp only [Option.map_some,Option.getD_some] at h1
     unfold g3Z at h1
     split at h1
     ·rename_i hnr;rw [enZ _ _ hnr] at hm;cases hm
     ·exact hkr (List.contains_iff_mem.1 (List.all_eq_true.1 h1 k hm))
    refine ⟨(ejZ hcond.1.2 e2).2 k hkr,fun ob hob=>?_,fun ob=>?_⟩
    rotate_left
    ·have hln:∀ q,q≠k→aeZ (aOZ h k ob) q=aeZ h q:=fun q hq=>auZ hq
     have hr:=d0Z hln 50 _ [] hks hcl
     refine ⟨hr,?_⟩
     have hlk:∀ q,q∈bmZ h 50 (bjZ (args.map AV.drop)) []→aeZ (aOZ h k ob) q=aeZ h q:=fun q hq=>hln q fun e=>hkr (e ▸ hq)
     unfold bZZ
     simp only [a0Z,ho,hr]
     rw [if_neg (by simpa only [Bool.or_eq_true,not_or,Bool.not_eq_true',Bool.not_eq_false] using hcond)]
     rw [fkZ (fun q hq=>hlk q hq),hin]
     simp only [Option.bind_some]
     rw [if_neg (by
      rw [List.all_eq_all_same (fun q hq=>by rw [hlk q hq])]
      exact hclo),hp]
     simp only [Option.bind_some]
     rw [if_neg hn3]
     simp only [List.filter_nil,cpZ]
     rw [grZ (fun e=>hkr e) e2]
     rfl
    have hr:=d3Z (ob:=ob) 50 _ [] hks hcl
    refine ⟨hr,?_⟩
    have hlk:∀ q,q∈bmZ h 50 (bjZ (args.map AV.drop)) []→aeZ ((k,ob)::h) q=aeZ h q:=fun q hq=>a7Z fun e=>hkr (e ▸ hq)
    unfold bZZ
    simp only [a0Z,ho,hr]
    rw [if_neg (by simpa only [Bool.or_eq_true,not_or,Bool.not_eq_true',Bool.not_eq_false] using hcond)]
    rw [fkZ (fun q hq=>hlk q hq),hin]
    simp only [Option.bind_some]
    rw [if_neg (by
     rw [List.all_eq_all_same (fun q hq=>by rw [hlk q hq])]
     exact hclo),hp]
    simp only [Option.bind_some]
    rw [if_neg hn3]
    simp only [List.filter_nil,cpZ]
    rw [f7Z (fun e=>hkr e) e2]
    rfl
theorem oSZ (he:afZ O call false f rid i o g h=some r) {k:Nat} (hk:r.tk=some k):O.take f rid i=true∧Operand.tmp k∈o.op.operands:=by
 by_cases hn:∀ c x,o.op=.call c→c.callee≠.value x
 ·rw [foZ hn] at he;exact lrZ he hk
 ·simp only [Classical.not_forall,Classical.not_not] at hn
  obtain ⟨c,x,hop,hc⟩:=hn
  simp only [afZ,hop,coZ,hc] at he
  split at he
  ·rw [qDZ (h9Z he)] at hk;cases hk
  ·cases he
theorem mhZ {T:TypeId} {k:Key} {p:List Nat} (hl:(aeZ h' k).map (·.d.t)=(aeZ h k).map (·.d.t)):cbZ O h' T (.op k p)=cbZ O h T (.op k p):=by
 unfold cbZ
 simp only
 cases h1:aeZ h k with
 | none=>rw [h1] at hl;cases h2:aeZ h' k with
  | none=>rfl
  | some u=>rw [h2] at hl;cases hl
 | some v=>rw [h1] at hl;cases h2:aeZ h' k with
  | none=>rw [h2] at hl;cases hl
  | some u =>
   rw [h2] at hl
   simp only [Option.map_some,Option.some.injEq] at hl
   simp only [hl]
theorem jHZ {T:TypeId} {k:Key} {N:Nat} {p:List Nat} (hl:(aeZ h' k).map (·.d.t)=(aeZ h k).map (·.d.t)):cbZ O h' T (.vp k N p)=cbZ O h T (.vp k N p):=by
 unfold cbZ
 simp only
 cases h1:aeZ h k with
 | none=>rw [h1] at hl;cases h2:aeZ h' k with
  | none=>rfl
  | some u=>rw [h2] at hl;cases hl
 | some v=>rw [h1] at hl;cases h2:aeZ h' k with
  | none=>rw [h2] at hl;cases hl
  | some u =>
   rw [h2] at hl
   simp only [Option.map_some,Option.some.injEq] at hl
   simp only [hl]
theorem ptZ {h h':adZ} {k:Key} (hl:(aeZ h' k).map (·.d)=(aeZ h k).map (·.d)) {β:Type} (F:Ob→Option β) (hF:∀ a b:Ob,a.d=b.d→F a=F b):(aeZ h' k).bind F=(aeZ h k).bind F:=by
 cases h1:aeZ h k with
 | none=>rw [h1] at hl;cases h2:aeZ h' k with
  | none=>rfl
  | some u=>rw [h2] at hl;cases hl
 | some v=>rw [h1] at hl;cases h2:aeZ h' k with
  | none=>rw [h2] at hl;cases hl
  | some u =>
   rw [h2] at hl
   simp only [Option.map_some,Option.some.injEq] at hl
   exact hF u v hl
theorem lhZ (he:afZ O call false f rid i o g h=some r):Eff (m8Z O f rid i o g) h r (fun h'=>afZ O call false f rid i o g h'):=by
 have calm:bRZ (O.take f rid i) o.op=0→(∀ c x,o.op=.call c→c.callee≠.value x)→Eff .zero h r (fun h'=>afZ O call false f rid i o g h'):=fun hc hn=>by
  rw [foZ hn] at he
  obtain ⟨_,c1,c2⟩:=e0Z hc rfl he
  exact ⟨c1,fun h'=>by show afZ O call false f rid i o g h'=_;rw [foZ hn];exact c2 h'⟩
 unfold m8Z
 cases hop:o.op with
 | load T x =>
  simp only
  cases htk:O.take f rid i with
  | true =>
   simp only [if_true]
   cases hv:val g none x with
   | op k p =>
    simp only [afZ,hop,gVZ,htk,if_true,hv,Option.bind_eq_some_iff] at he
    obtain ⟨d,hd,he⟩:=he
    split at he
    ·rename_i hT
     simp only [Option.bind_eq_some_iff,Option.some.injEq] at he
     obtain ⟨ob,hob,rfl⟩:=he
     refine ⟨ob,⟨ob.d,iWZ p ob.own⟩,hob,rfl,rfl,fun h' hl=>?_⟩
     have hd':dBZ O h' (.op k p)=some d:=by
      simp only [dBZ] at hd ⊢
      rw [hl,← hob]
      exact hd
     simp only [afZ,hop,gVZ,htk,if_true,hv,hd',Option.bind_some,if_pos hT,hl]
    ·cases he
   | _=>exact trivial
  | false =>
   simp only [Bool.false_eq_true,if_false]
   simp only [afZ,hop,gVZ,htk,Bool.false_eq_true,if_false,Option.bind_eq_some_iff] at he
   obtain ⟨d,hd,he⟩:=he
   split at he
   ·rename_i hT
    cases he
    have fin:∀ h',dBZ O h' (val g none x)=some d→afZ O call false f rid i o g h'=some ⟨d.av [],none,h'⟩:=fun h' hd'=>by
     simp only [afZ,hop,gVZ,htk,Bool.false_eq_true,if_false,hd',Option.bind_some,if_pos hT]
    cases hv:val g none x with
    | op k p =>
     rw [hv] at hd
     exact ⟨rfl,fun h' hl=>fin h' (by rw [hv];simp only [dBZ] at hd ⊢;rw [← hd];exact ptZ hl _ fun a b e=>by (cases a;cases b;dsimp only at e;subst e;rfl))⟩
    | vp k N p =>
     rw [hv] at hd
     exact ⟨rfl,fun h' hl=>fin h' (by rw [hv];simp only [dBZ] at hd ⊢;rw [← hd];exact ptZ hl _ fun a b e=>by (cases a;cases b;dsimp only at e;subst e;rfl))⟩
    | sp t y=>rw [hv] at hd;exact ⟨rfl,fun h'=>fin h' (by rw [hv];exact hd)⟩
    | gp q p=>rw [hv] at hd;exact ⟨rfl,fun h'=>fin h' (by rw [hv];exact hd)⟩
    | _=>exact trivial
   ·cases he
 | fieldAddr T x k =>
  simp only [afZ,hop] at he
  split at he
  ·rename_i hc
   simp only [Bool.and_eq_true] at hc
   simp only [Option.map_eq_some_iff] at he
   obtain ⟨b,hb,rfl⟩:=he
   have fin:∀ h',cbZ O h' T (val g none x)=true→afZ O call false f rid i o g h'=some ⟨b,none,h'⟩:=fun h' hp=>by
    simp only [afZ,hop,hp,hc.2,Bool.and_self,if_true,hb,Option.map_some]
   simp only
   cases hv:val g none x with
   | op q p=>rw [hv] at hc;exact ⟨rfl,fun h' hl=>fin h' (by rw [hv,mhZ hl];exact hc.1)⟩
   | vp q N p=>rw [hv] at hc;exact ⟨rfl,fun h' hl=>fin h' (by rw [hv,jHZ hl];exact hc.1)⟩
   | sp t y=>rw [hv] at hc;exact ⟨rfl,fun h'=>fin h' (by rw [hv];exact hc.1)⟩
   | gp q p=>rw [hv] at hc;exact ⟨rfl,fun h'=>fin h' (by rw [hv];exact hc.1)⟩
   | _=>exact trivial
  ·cases he
 | indexAddr T x k =>
  simp only [afZ,hop] at he
  simp only
  split at he
  ·rename_i n t hT
   split at he
   ·rename_i hc
    simp only [Option.map_eq_some_iff] at he
    obtain ⟨b,hb,rfl⟩:=he
    have fin:∀ h',cbZ O h' T (val g none x)=true→afZ O call false f rid i o g h'=some ⟨b,none,h'⟩:=fun h' hp=>by
     simp only [afZ,hop,hT,hp,if_true,hb,Option.map_some]
    cases hv:val g none x with
    | op q p=>rw [hv] at hc;exact ⟨rfl,fun h' hl=>fin h' (by rw [hv,mhZ hl];exact hc)⟩
    | vp q N p=>rw [hv] at hc;exact ⟨rfl,fun h' hl=>fin h' (by rw [hv,jHZ hl];exact hc)⟩
    | gp q p=>rw [hv] at hc;exact ⟨rfl,fun h'=>fin h' (by rw [hv];exact hc)⟩
    | tv own u y=>rw [hv] at hc;simp [cbZ] at hc
    | _=>exact trivial
   ·cases he
  ·rename_i u hu
   simp only [Option.map_eq_some_iff] at he
   obtain ⟨b,hb,rfl⟩:=he
   have fin:∀ h',afZ O call false f rid i o g h'=some ⟨b,none,h'⟩:=fun h'=>by
    simp only [afZ,hop]
    cases hT:O.ty T with
    | none=>rw [hT] at hb;simp only [hb,Option.map_some]
    | some t=>cases t with
     | arr gw n t=>exact absurd hT (hu gw n t)
     | _=>rw [hT] at hb;simp only [hb,Option.map_some]
   cases hv:val g none x with
   | op q p=>exact ⟨rfl,fun h' _=>fin h'⟩
   | vp q N p=>exact ⟨rfl,fun h' _=>fin h'⟩
   | gp q p=>exact ⟨rfl,fun h'=>fin h'⟩
   | tv own t y=>exact ⟨rfl,fun h'=>fin h'⟩
   | _=>exact trivial
 | store T x y =>
  simp only
  simp only [afZ,hop,Option.bind_eq_some_iff] at he
  obtain ⟨d,hd,he⟩:=he
  split at he
  ·rename_i hT
   simp only [Option.map_eq_some_iff] at he
   obtain ⟨h1,hs,rfl⟩:=he
   cases hv:val g none x with
   | op k p =>
    rw [hv] at hs
    simp only [ezZ,Option.bind_eq_some_iff,Option.map_eq_some_iff] at hs
    obtain ⟨b,hb,y',hu,rfl⟩:=hs
    refine ⟨b,⟨⟨b.d.t,y'⟩,_⟩,hb,rfl,rfl,fun h' hl=>?_⟩
    simp only [afZ,hop,hd,Option.bind_some,if_pos hT,hv,ezZ,hl,hu,Option.map_some]
   | vp k N p =>
    rw [hv] at hs
    simp only [ezZ,Option.bind_eq_some_iff] at hs
    obtain ⟨b,hb,hs⟩:=hs
    split at hs
    ·rename_i hlen
     simp only [Option.map_eq_some_iff] at hs
     obtain ⟨y',hu,rfl⟩:=hs
     refine ⟨b,⟨⟨b.d.t,y'⟩,_⟩,hb,rfl,rfl,fun h' hl=>?_⟩
     simp only [afZ,hop,hd,Option.bind_some,if_pos hT,hv,ezZ,hl,if_pos hlen,hu,Option.map_some]
    ·cases hs
   | _=>exact trivial
  ·cases he
 | alloc T =>
  simp only [afZ,hop,Option.bind_eq_some_iff] at he
  obtain ⟨t,hT,he⟩:=he
  have he0:=he
  obtain ⟨d,hd,hk,rfl⟩:=bIZ he
  simp only [hd]
  refine ⟨_,hk,rfl,fun h' hl=>?_⟩
  simp only [afZ,hop,hT,Option.bind_some,eWZ,hd,hl,Option.isNone_none,Bool.true_and]
  simp only [eWZ,hd,hk,Option.isNone_none,Bool.true_and] at he0
  split at he0
  ·rename_i hlt;rw [if_pos hlt]
  ·cases he0
 | box T x =>
  simp only [afZ,hop,Option.bind_eq_some_iff] at he
  obtain ⟨q,hq,he⟩:=he
  split at he
  ·rename_i hT
   have he0:=he
   obtain ⟨d,hd,hk,rfl⟩:=bIZ he
   simp only [hd]
   refine ⟨_,hk,rfl,fun h' hl=>?_⟩
   simp only [afZ,hop,hq,Option.bind_some,if_pos hT,eWZ,hd,hl,Option.isNone_none,Bool.true_and]
   simp only [eWZ,hd,hk,Option.isNone_none,Bool.true_and] at he0
   split at he0
   ·rename_i hlt;rw [if_pos hlt]
   ·cases he0
  ·cases he
 | call c =>
  simp only
  cases hc:c.callee with
  | builtin b=>exact calm (by rw [hop];rfl) (fun c' x e=>by rw [hop] at e;cases e;rw [hc];nofun)
  | invoke x n=>exact calm (by rw [hop];rfl) (fun c' x e=>by rw [hop] at e;cases e;rw [hc];nofun)
  | value x =>
   simp only
   cases hv:val g none x with
   | fn q first caps =>
    simp only
    cases htk:O.take f rid i with
    | true =>
     simp only [if_true]
     split
     ·rename_i k hks
      simp only [afZ,hop,coZ,hc,hv,htk] at he
      obtain ⟨ob,ob',c1,c2,c3⟩:=oYZ hks he
      exact ⟨ob,ob',c1,c2,fun h' hl=>by show afZ O call false f rid i o g h'=_;simp only [afZ,hop,coZ,hc,hv,htk];exact c3 h' hl⟩
     ·exact trivial
    | false =>
     simp only [Bool.false_eq_true,if_false]
     split
     ·rename_i hcd
      simp only [Bool.and_eq_true,List.isEmpty_iff] at hcd
      have hfar:∀ h' X,lyZ O h' q (first++o3Z O g c++caps) X=true:=fun h' X=>by
       unfold lyZ
       split
       ·rfl
       ·rw [hcd.1,hcd.2];simp [bmZ]
      simp only [afZ,hop,coZ,hc,hv] at he
      obtain ⟨c1,c2⟩:=k1Z hcd.1 hcd.2 (h9Z he)
      refine ⟨c1,fun h'=>?_⟩
      show afZ O call false f rid i o g h'=_
      simp only [afZ,hop,coZ,hc,hv,htk,cwZ,Bool.false_and,Bool.false_or]
      exact (if_neg (by rw [show lyZ O h' q (first++List.map (fun x=>val g ((c.argTypes[x.2]?).bind O.ty) x.1) c.args.toList.zipIdx++caps) (O.far f rid i)=true from hfar h' _];simp)).trans (by
       have:=c2 h'
       unfold o3Z at this
       rw [this,Option.bind_some];exact fhZ rfl)
     ·split
      ·exact trivial
      ·rename_i X hne
       simp only [afZ,hop,coZ,hc,hv] at he
       have hne':O.far f rid i≠[]:=hne
       split
       ·rename_i hro
        unfold cwZ at he
        split at he
        ·cases he
        ·simp only [Option.bind_eq_some_iff] at he
         obtain ⟨r',h1,h2⟩:=he
         obtain ⟨e1,e2⟩:=dYZ h2
         subst e1
         exact e2 hro
       rename_i hro
       have hro:roK (O.far f rid i)=false:=by simpa using hro
       intro k hk
       obtain ⟨f1,f2⟩:=ohZ he hne' hro
       obtain ⟨c1,c2,c3⟩:=nCZ (h9Z he) f1 f2 k hk
       refine ⟨c1,fun ob hob=>?_,fun ob ob' _=>?_⟩
       ·obtain ⟨d1,d2⟩:=c2 ob hob
        show afZ O call false f rid i o g _=_
        simp only [afZ,hop,coZ,hc,hv]
        exact g4Z he d1 d2
       ·obtain ⟨d1,d2⟩:=c3 ob'
        show afZ O call false f rid i o g _=_
        simp only [afZ,hop,coZ,hc,hv]
        exact g4Z he d1 d2
   | _=>exact trivial
 | _=>exact calm (by rw [hop];rfl) (fun c x e=>by rw [hop] at e;cases e)
theorem m2Z {tk:Bool} (he:bxZ O tk o g h=some r):Eff (m5Z O o g) h r (fun h'=>bxZ O tk o g h'):=by
 unfold m5Z
 split
 ·rename_i T x k ok hop
  simp only [bxZ,hop,Option.map_eq_some_iff] at he
  obtain ⟨b,hb,rfl⟩:=he
  have key:∀ h',(∀ a c r,asT (.mref a c) (val g (O.ty T) x)=some r→fCZ h' a c r=fCZ h a c r)→bxZ O tk o g h'=some ⟨b,none,h'⟩:=by
   intro h' hm
   simp only [bxZ,hop,Option.map_eq_some_iff]
   refine ⟨b,?_,rfl⟩
   unfold m4Z at hb ⊢
   split at hb
   ·rename_i a c hT
    simp only [Option.bind_eq_some_iff] at hb
    obtain ⟨r,h1,l,h2,h3⟩:=hb
    simp only [h1,Option.bind_some,hm a c r h1,h2]
    simpa only [Option.bind_eq_some_iff] using h3
   ·cases hb
  split
  ·rename_i own a' c' r hv
   cases r with
   | some q =>
    refine ⟨rfl,fun h' hl=>key h' fun a c r' hr=>?_⟩
    have hr0:=hr
    unfold asT at hr
    rw [hv] at hr
    simp only at hr
    split at hr
    ·rename_i e
     cases e
     cases hr
     simp only [fCZ]
     exact ptZ hl _ fun a b e=>by (cases a;cases b;dsimp only at e;subst e;rfl)
    ·cases hr
   | none =>
    refine ⟨rfl,fun h'=>key h' fun a c r' hr=>?_⟩
    unfold asT at hr
    rw [hv] at hr
    simp only at hr
    split at hr
    ·rename_i e
     cases e
     cases hr
     simp only [fCZ]
    ·cases hr
  ·exact trivial
 ·exact trivial
theorem hmZ (he:dfZ O call false f rid i o g h=some r):Eff (fUZ O f rid i o g) h r (fun h'=>dfZ O call false f rid i o g h'):=by
 unfold fUZ
 split
 ·rename_i hm
  unfold dfZ at he ⊢
  rw [if_pos hm] at he
  have:=m2Z he
  simp only [if_pos hm]
  exact this
 ·rename_i hm
  unfold dfZ at he ⊢
  rw [if_neg hm] at he
  have:=lhZ he
  simp only [if_neg hm]
  exact this
theorem qWZ (he:dfZ O call false f rid i o g h=some r) {k:Nat} (hk:r.tk=some k):O.take f rid i=true∧Operand.tmp k∈o.op.operands:=by
 unfold dfZ at he
 split at he
 ·exact mfZ he hk
 ·exact oSZ he hk
theorem hTZ (he:bvZ O call false f rid ops i o g h=some r):Eff (iwZ O f rid ops i o g) h r (fun h'=>bvZ O call false f rid ops i o g h'):=by
 unfold bvZ iwZ at *
 cases hg:o.guard with
 | none=>rw [hg] at he;exact hmZ he
 | some jb =>
  obtain ⟨j,b⟩:=jb
  rw [hg] at he
  simp only at he ⊢
  cases hy:ebZ ops g j with
  | none=>rw [hy] at he;cases he
  | some y =>
   rw [hy] at he
   cases y with
   | none=>simp only [Option.some.injEq] at he;subst he;exact ⟨rfl,fun h'=>rfl⟩
   | some x =>
    simp only at he ⊢
    cases hx:(x == b) with
    | true=>rw [hx] at he;exact hmZ he
    | false=>rw [hx] at he;simp only [cond_false,Option.some.injEq] at he;subst he;exact ⟨rfl,fun h'=>rfl⟩
end Go.Am
namespace Go.Am
variable {P:Program} {O:Orc} {FB:Nat→Nat→Prop} {call:aTZ} {f:FuncId} {rid i j:Nat} {o:Oper} {r:Res} {ops:Array Oper} {g g':Nat→AV} {h h':adZ} {s s1 s2:St} {Q:Exit→Act→World→Prop}
theorem frZ (hg:∀ t∈a9Z ops o,g t=g' t):bvZ O call false f rid ops i o g h=bvZ O call false f rid ops i o g' h:=by
 unfold bvZ
 have he:=hlZ (O:=O) (call:=call) (draw:=false) (f:=f) (rid:=rid) (i:=i) (o:=o) (h:=h) (g:=g) (g':=g') fun t ht=>hg t (eYZ ht)
 cases hgd:o.guard with
 | none=>simp only [he]
 | some jb =>
  obtain ⟨j,b⟩:=jb
  have hy:=dOZ (ops:=ops) (g:=g) (g':=g') (j:=j) fun t ht=>hg t (by
   unfold a9Z
   refine List.mem_append_right _ ?_
   simp [hgd,ht])
  simp only [he,hy]
theorem h2Z (hg:∀ t∈a9Z ops o,g t=g' t):iwZ O f rid ops i o g=iwZ O f rid ops i o g':=by
 have hx:∀ x,x∈o.op.operands→∀ t:Option Ty,val g t x=val g' t x:=fun x hm t=>eSZ fun k e=>hg k (eYZ (e ▸ hm))
 have hR:m8Z O f rid i o g=m8Z O f rid i o g':=by
  unfold m8Z
  cases hop:o.op with
  | load T x=>rw [hop] at hx;simp only [hx x (by simp [Op.operands])]
  | fieldAddr T x k=>rw [hop] at hx;simp only [hx x (by simp [Op.operands])]
  | indexAddr T x k=>rw [hop] at hx;simp only [hx x (by simp [Op.operands])]
  | store T x y=>rw [hop] at hx;simp only [hx x (by simp [Op.operands])]
  | call c =>
   rw [hop] at hx
   simp only
   cases hc:c.callee with
   | value x =>
    have h1:val g none x=val g' none x:=hx x (by simp [Op.operands,Call.operands,hc]) none
    have h2:o3Z O g c=o3Z O g' c:=List.map_congr_left fun p hp=>by
     obtain ⟨x,j⟩:=p
     simp only [hx x (by simp [Op.operands,Call.operands];exact .inr (by simpa using List.fst_mem_of_mem_zipIdx hp))]
    simp only [h1,h2]
   | _=>rfl
  | _=>rfl
 have hM:m5Z O o g=m5Z O o g':=by
  unfold m5Z
  cases hop:o.op with
  | lookup T x k ok=>rw [hop] at hx;simp only [hx x (by simp [Op.operands])]
  | _=>rfl
 have h0:fUZ O f rid i o g=fUZ O f rid i o g':=by
  unfold fUZ
  rw [hR,hM]
 unfold iwZ
 cases hgd:o.guard with
 | none=>exact h0
 | some jb =>
  obtain ⟨j,b⟩:=jb
  have hy:=dOZ (ops:=ops) (g:=g) (g':=g') (j:=j) fun t ht=>hg t (by
   unfold a9Z
   refine List.mem_append_right _ ?_
   simp [hgd,ht])
  simp only [h0,hy]
theorem eEZ (he:bvZ O call false f rid ops i o g h=some r) {k:Nat} (hk:r.tk=some k):k∈aJZ (O.take f rid i) o:=by
 have fin:dfZ O call false f rid i o g h=some r→k∈aJZ (O.take f rid i) o:=fun h1=>by
  obtain ⟨a,b⟩:=qWZ h1 hk
  unfold aJZ
  rw [a]
  refine List.mem_append_right _ ?_
  simp only [if_true]
  exact List.mem_filterMap.2 ⟨.tmp k,by simpa using b,rfl⟩
 unfold bvZ at he
 cases hgd:o.guard with
 | none=>rw [hgd] at he;exact fin he
 | some jb =>
  obtain ⟨j,b⟩:=jb
  rw [hgd] at he
  simp only at he
  split at he
  ·rename_i x _
   cases hx:(x == b) with
   | true=>rw [hx] at he;exact fin he
   | false=>rw [hx] at he;simp only [cond_false,Option.some.injEq] at he;subst he;cases hk
  ·cases he;cases hk
  ·cases he
theorem mSZ {a b:Oper} (hi:ops[i]?=some a) (hj:ops[j]?=some b) (ha:etZ O f rid ops i j=true) (hcm:aGZ (iwZ O f rid ops i a s.get) (iwZ O f rid ops j b s1.get)=true) (h1:step O call false f rid ops i s=some s1) (h2:step O call false f rid ops j s1=some s2) :
  ∃ s1',step O call false f rid ops j s=some s1'∧step O call false f rid ops i s1'=some s2∧iwZ O f rid ops j b s.get=iwZ O f rid ops j b s1.get∧iwZ O f rid ops i a s1'.get=iwZ O f rid ops i a s.get:=by
 unfold etZ at ha
 unfold step at h1 h2
 rw [hi] at h1
 rw [hj] at h2
 rw [hi,hj] at ha
 simp only [Bool.and_eq_true,List.all_eq_true,Bool.not_eq_true'] at ha
 obtain ⟨hw1,hw2⟩:=ha
 simp only [Option.map_eq_some_iff] at h1 h2
 obtain ⟨r1,e1,rfl⟩:=h1
 obtain ⟨r2,e2,rfl⟩:=h2
 have w1:∀ d∈aJZ (O.take f rid i) a,d ∉ a9Z ops b∧d ∉ aJZ (O.take f rid j) b:=fun d hd=>by
  obtain ⟨x,y⟩:=hw1 d hd
  exact ⟨fun hm=>(by have:=List.contains_iff_mem.2 hm;rw [x] at this;cases this),fun hm=>(by have:=List.contains_iff_mem.2 hm;rw [y] at this;cases this)⟩
 have w2:∀ d∈aJZ (O.take f rid j) b,d ∉ a9Z ops a:=fun d hd hm=>by
  have x:=hw2 d hd
  have:=List.contains_iff_mem.2 hm
  rw [x] at this;cases this
 have k1:∀ t,a.dst=some t→t∈aJZ (O.take f rid i) a:=fun t ht=>dTZ ht
 have k2:∀ t,b.dst=some t→t∈aJZ (O.take f rid j) b:=fun t ht=>dTZ ht
 have g1:∀ t∈a9Z ops b,s.get t=(s.app a.dst r1).get t:=by
  intro t ht
  rw [faZ,if_neg,if_neg]
  ·intro hk;exact (w1 t (eEZ e1 hk)).1 ht
  ·rintro ⟨hd,_⟩;exact (w1 t (k1 t hd)).1 ht
 have hh:(s.app a.dst r1).heap=r1.h:=by rw [blZ]
 rw [hh] at e2
 have e2':bvZ O call false f rid ops j b s.get r1.h=some r2:=(frZ g1).trans e2
 have hfj:iwZ O f rid ops j b s.get=iwZ O f rid ops j b (s.app a.dst r1).get:=h2Z g1
 rw [← hfj] at hcm
 obtain ⟨r2',b1,b2,b3,r1',c1,c2,c3,c4⟩:=Eff.comm hcm (hTZ e1) (hTZ e2') e1 e2'
 have g2:∀ t∈a9Z ops a,s.get t=(s.app b.dst r2').get t:=by
  intro t ht
  rw [faZ,if_neg,if_neg]
  ·intro hk;rw [b3] at hk;exact w2 t (eEZ e2' hk) ht
  ·rintro ⟨hd,_⟩;exact w2 t (k2 t hd) ht
 refine ⟨s.app b.dst r2',?_,?_,hfj,(h2Z g2).symm⟩
 ·unfold step;rw [hj];simp only [b1,Option.map_some]
 ·unfold step;rw [hi]
  have hh':(s.app b.dst r2').heap=r2'.h:=by rw [blZ]
  have c1':bvZ O call false f rid ops i a (s.app b.dst r2').get r2'.h=some r1':=(frZ g2).symm.trans c1
  simp only [hh',c1',Option.map_some,Option.some.injEq]
  refine q6Z (by simp only [fSZ]) (fun t=>?_) ?_
  ·simp only [faZ,fSZ,c2,c3,b2,b3]
   by_cases ta:t∈aJZ (O.take f rid i) a
   ·have tb:=(w1 t ta).2
    have n1:¬ (b.dst=some t∧t<s.env.length):=fun hd=>tb (k2 t hd.1)
    have n2:¬ r2.tk=some t:=fun hk=>tb (eEZ e2' hk)
    simp only [if_neg n1,if_neg n2]
   ·have n1:¬ (a.dst=some t∧t<s.env.length):=fun hd=>ta (k1 t hd.1)
    have n2:¬ r1.tk=some t:=fun hk=>ta (eEZ e1 hk)
    simp only [if_neg n1,if_neg n2]
  ·rw [blZ,blZ];exact c4
def rtZ (O:Orc) (call:aTZ) (f:FuncId) (rid:Nat) (ops:Array Oper):List (Nat×Foot)→St→St→Prop
 | [],s,s'=>s=s'
 | p::l,s,s'=>∃ o s1,ops[p.1]?=some o∧iwZ O f rid ops p.1 o s.get=p.2∧step O call false f rid ops p.1 s=some s1∧rtZ O call f rid ops l s1 s'
theorem hDZ:∀ (pre post:List (Nat×Foot)) (p:Nat×Foot) (s s':St),(∀ x∈pre,etZ O f rid ops x.1 p.1=true∧aGZ x.2 p.2=true)→rtZ O call f rid ops (pre++p::post) s s' →
  ∃ o s1,ops[p.1]?=some o∧iwZ O f rid ops p.1 o s.get=p.2∧step O call false f rid ops p.1 s=some s1∧rtZ O call f rid ops (pre++post) s1 s'
 | [],post,p,s,s',_,h=>h
 | x::pre,post,p,s,s',ha,h=>by
  simp only [List.cons_append,rtZ] at h
  obtain ⟨ox,sx,h1,h2,h3,h4⟩:=h
  obtain ⟨op,s2,q1,q2,q3,q4⟩:=hDZ pre post p sx s' (fun y hy=>ha y (List.mem_cons_of_mem _ hy)) h4
  obtain ⟨a1,a2⟩:=ha x List.mem_cons_self
  obtain ⟨s1,c1,c2,c3,c4⟩:=mSZ h1 q1 a1 (by rw [h2,q2];exact a2) h3 q3
  refine ⟨op,s1,q1,c3.trans q2,c1,?_⟩
  simp only [List.cons_append,rtZ]
  exact ⟨ox,s2,h1,c4.trans h2,c2,q4⟩
def chk (O:Orc) (f:FuncId) (rid:Nat) (ops:Array Oper) (p q:Nat×Foot):Prop:=(ah ops q.1).testBit p.1=true∨(etZ O f rid ops p.1 q.1=true∧aGZ p.2 q.2=true)
theorem huZ:∀ (l:List Nat) (acc:List (Nat×Foot)) (s s':St),cSZ O call f rid ops (d7Z ops.toList []) l acc s=some s' →
  ∃ M,M.map Prod.fst=l∧rtZ O call f rid ops M s s'∧M.Pairwise (chk O f rid ops)∧∀ p∈acc,∀ q∈M,chk O f rid ops p q
 | [],acc,s,s',h=>by
  simp only [cSZ,Option.some.injEq] at h
  exact ⟨[],rfl,h,List.Pairwise.nil,fun _ _ _ hq=>by cases hq⟩
 | j::l,acc,s,s',h=>by
  simp only [cSZ] at h
  split at h
  ·cases h
  ·rename_i o ho
   split at h
   ·rename_i hall
    simp only [Option.bind_eq_some_iff] at h
    obtain ⟨s1,h1,h2⟩:=h
    obtain ⟨M,m1,m2,m3,m4⟩:=huZ l _ s1 s' h2
    simp only [List.all_eq_true,Bool.or_eq_true,Bool.and_eq_true] at hall
    refine ⟨(j,iwZ O f rid ops j o s.get)::M,by simp [m1],⟨o,s1,ho,rfl,h1,m2⟩,?_,fun p hp q hq=>?_⟩
    ·rw [List.pairwise_cons]
     exact ⟨fun q hq=>m4 _ (List.mem_append_right _ (List.mem_singleton.2 rfl)) q hq,m3⟩
    ·rcases List.mem_cons.1 hq with rfl | hq
     ·exact hall p hp
     ·exact m4 p (List.mem_append_left _ hp) q hq
   ·cases h
theorem n4Z (hO:OrcOK P O) (hC:dqZ P O call) (hf:ixZ ops=true):∀ (fuel:Nat) (listed:Array Bool) (M:List (Nat×Foot)) {w:World} {s s':St} {ι:Key→Nat} {a:Act},listed.size=ops.size→Cl ops listed→M.map Prod.fst=gUZ ops listed→M.Pairwise (chk O f rid ops)→M.length=fuel→Rel O FB w s (aKZ a) ι→s.env.length=a.tmps.size →
  rtZ O call f rid ops M s s'→Leaves O FB w s ι a s' (Q .normal)→wpAny P .any ops Q fuel listed a w:=by
 intro fuel
 induction fuel with
 | zero =>
  intro listed M w s s' ι a hs hc hM hP hn h hl he hq
  have hm:M=[]:=List.length_eq_zero_iff.1 hn
  subst hm
  have hr:gUZ ops listed=[]:=by rw [← hM];rfl
  simp only [rtZ] at he
  subst he
  refine ⟨?_,hq _ _ ι rfl rfl (Goes.refl h)⟩
  refine List.eq_nil_iff_forall_not_mem.2 fun x hx=>?_
  obtain ⟨x1,x2,_⟩:=dKZ.1 hx
  have:x∈gUZ ops listed:=b8Z.2 ⟨x1,x2⟩
  rw [hr] at this;cases this
 | succ fuel ih =>
  intro listed M w s s' ι a hs hc hM hP hn h hl he hq
  refine ⟨fun hr=>?_,fun i hi=>?_⟩
  ·cases hR:gUZ ops listed with
   | nil=>rw [hR] at hM;have:=congrArg List.length hM;simp [hn] at this
   | cons k l =>
    obtain ⟨i,hi⟩:=dJZ hf hs (k+1) k (by omega) (by rw [hR];exact List.mem_cons_self)
    rw [hr] at hi;cases hi
  ·obtain ⟨i1,i2,i3⟩:=dKZ.1 hi
   obtain ⟨pre',post',p1,p2,p3⟩:=hEZ hs (b8Z.2 ⟨i1,i2⟩)
   rw [p1] at hM
   obtain ⟨pre,tl,rfl,m1,m2⟩:=List.map_eq_append_iff.1 hM
   obtain ⟨p,post,rfl,m3,m4⟩:=List.map_eq_cons_iff.1 m2
   have hfront:∀ x∈pre,etZ O f rid ops x.1 p.1=true∧aGZ x.2 p.2=true:=by
    intro x hx
    have hxm:x.1∈pre':=by rw [← m1];exact List.mem_map_of_mem hx
    obtain ⟨x1,x2⟩:=p3 x.1 hxm
    rcases (List.pairwise_append.1 hP).2.2 x hx p List.mem_cons_self with hb | hb
    ·exfalso
     rw [m3] at hb
     obtain ⟨x3,x4⟩:=b8Z.1 x2
     rw [kMZ (by omega)] at x4
     obtain ⟨e,e1,e2,e3⟩:=nYZ (Array.getElem?_eq_getElem i1) hb
     have hle:=i3 _ (Array.getElem?_eq_getElem i1) e e1 e2
     rcases e3 with e3 | e3
     ·rw [← e3,x4] at hle;cases hle
     ·have hlt:=lNZ hf (Array.getElem?_eq_getElem i1) e1 e2
      have:=Cl.ahead hf hs hc (e.on+1) e.on (by omega) (by omega) hle x.1 e3
      rw [x4] at this;cases this
    ·exact hb
   obtain ⟨o,s1,q0,_,q1,q2⟩:=hDZ pre post p s s' hfront he
   rw [m3] at q1
   refine kBZ hO hC h hl q1 fun a1 w1 ι1 hd1 hs1 hg=>?_
   refine ih (listed.setIfInBounds i true) (pre++post) (by simpa using hs) ?_ (by rw [List.map_append,m1,m4,p2]) (hP.sublist ((List.Sublist.refl pre).append (List.sublist_cons_self _ _))) (by simp only [List.length_append,List.length_cons] at hn ⊢;omega) hg.stp.rel (by rw [eTZ q1,hl,hs1]) q2 (hq.chain h hd1 hs1 hg)
   intro k o' ho hk e he' hb
   have hmono:listed.getD e.on false=true→(listed.setIfInBounds i true).getD e.on false=true:=fun hx=>by
    simp only [Array.getD_eq_getD_getElem?,Array.getElem?_setIfInBounds] at hx ⊢
    split
    ·split <;> simp_all
    ·exact hx
   refine hmono ?_
   by_cases hki:k=i
   ·subst hki;exact i3 o' ho e he' hb
   ·refine hc k o' ho ?_ e he' hb
    simp only [Array.getD_eq_getD_getElem?,Array.getElem?_setIfInBounds] at hk ⊢
    rw [if_neg (fun e=>hki e.symm)] at hk
    exact hk
theorem nvZ (hO:OrcOK P O) (hm:P.follows .mixedOrders=true) (hC:dqZ P O call) (hf:ixZ ops=true) {w:World} {s s':St} {ι:Key→Nat} {a:Act} (h:Rel O FB w s (aKZ a) ι) (hl:s.env.length=a.tmps.size)
  (he:cSZ O call f rid ops (d7Z ops.toList []) (List.range ops.size) [] s=some s') (hq:Leaves O FB w s ι a s' (Q .normal)):(Code.region rid ops true).wp P Q a w:=by
 obtain ⟨M,m1,m2,m3,_⟩:=huZ _ _ _ _ he
 refine wp_region_any hm ?_
 have h1:Stp O FB w s (aKZ a) ι { w with drawn:=w.drawn+1 } s (aKZ a) ι:=h.heapEq rfl
 have hg:Goes O FB w s (aKZ a) ι { w with drawn:=w.drawn+1 } s (aKZ a) ι:=⟨h1,jmZ _ ⟨rfl,rfl,rfl,rfl⟩,fun _ _=>KGo.of ⟨rfl,rfl⟩⟩
 have hr:gUZ ops (Array.replicate ops.size false)=List.range ops.size:=by
  unfold gUZ
  rw [List.filter_eq_self]
  intro x hx
  have:=List.mem_range.1 hx
  simp [Array.getD_eq_getD_getElem?,this]
 have hlen:M.length=ops.size:=by have:=congrArg List.length m1;simpa using this
 refine n4Z hO hC hf ops.size (Array.replicate ops.size false) M (by simp) ?_ (by rw [hr];exact m1) m3 hlen h1.rel hl m2 (hq.chain h rfl rfl hg)
 intro i o ho hi
 have:i<ops.size:=by
  rcases Nat.lt_or_ge i ops.size with h | h
  ·exact h
  ·rw [Array.getElem?_eq_none h] at ho;cases ho
 simp [Array.getD_eq_getD_getElem?,this] at hi
theorem mZZ {l:List Nat} {acc:List (Nat×Foot)} {s s':St} {ah:List Nat} (h:cSZ O call f rid ops ah l acc s=some s'):s'.env.length=s.env.length:=by
 induction l generalizing acc s with
 | nil=>simp only [cSZ,Option.some.injEq] at h;rw [h]
 | cons j l ih =>
  simp only [cSZ] at h
  split at h
  ·cases h
  ·split at h
   ·simp only [Option.bind_eq_some_iff] at h
    obtain ⟨s1,h1,h2⟩:=h
    rw [ih h2,eTZ h1]
   ·cases h
end Go.Am
namespace Go.Am
variable {P:Program} {O:Orc} {FB:Nat→Nat→Prop} {w:World} {s s':St} {tm:Nat→Value} {ι:Key→Nat}
section
variable {R:Type}
theorem bVZ (n:Nat) (k:Nat→R):bLZ n k=k n:=by cases n <;> rfl
theorem ggZ (x:Int) (k:Int→R):hRZ x k=k x:=by cases x <;> simp [hRZ,bVZ]
theorem beZ {α:Type} {g:α→(α→R)→R} (hg:∀ a k,g a k=k a):∀ (l:List α) (k:List α→R),aMZ g l k=k l
 | [],k=>rfl
 | a::l,k=>by simp only [aMZ,hg];rw [beZ hg l]
theorem o5Z (x:Bool) (k:Bool→R):q3Z x k=k x:=by cases x <;> rfl
theorem cKZ (x:Key) (k:Key→R):bkZ x k=k x:=by obtain ⟨a,b⟩:=x;simp [bkZ,bVZ]
mutual
theorem jfZ:∀ (x:XT) (k:XT→R),mmZ x k=k x
  | .mk a b l,k=>by simp only [mmZ,ggZ];rw [hCZ l]
theorem hCZ:∀ (l:List XT) (k:List XT→R),iQZ l k=k l
  | [],k=>rfl
  | x::l,k=>by simp only [iQZ];rw [jfZ x,hCZ l]
end
theorem bBZ:∀ (t:Ty) (x:den t) (k:den t→R),aXZ t x k=k x
 | .int _,x,k=>by simp only [aXZ];exact ggZ x k
 | .bool,x,k=>by simp only [aXZ];exact o5Z x k
 | .str,x,k=>by simp only [aXZ];exact beZ ggZ x k
 | .unit,x,k=>by simp only [aXZ]
 | .ref,x,k=>by
  simp only [aXZ]
  have:∀ y:Option Key,(match y with | none=>k (none:Option Key) | some q=>bkZ q fun q=>k (some q:Option Key))=k y:=fun y=>by
   cases y with
   | none=>rfl
   | some q=>exact cKZ q _
  exact this x
 | .wref,x,k=>by
  simp only [aXZ]
  have:∀ y:Option Key,(match y with | none=>k (none:Option Key) | some q=>bkZ q fun q=>k (some q:Option Key))=k y:=fun y=>by
   cases y with
   | none=>rfl
   | some q=>exact cKZ q _
  exact this x
 | .expr,x,k=>by simp only [aXZ];exact jfZ x k
 | .slice t,x,k=>by simp only [aXZ];exact beZ (bBZ t) x k
 | .pair a b,x,k=>by simp only [aXZ];rw [bBZ a,bBZ b]
 | .arr _ _ t,x,k=>by simp only [aXZ];exact beZ (bBZ t) x k
 | .mref _ _,none,k=>by simp only [aXZ]
 | .mref _ _,some q,k=>by simp only [aXZ];exact cKZ q _
 | .fnc,none,k=>by simp only [aXZ]
 | .fnc,some q,k=>by simp only [aXZ];exact bVZ q _
 | .sref _,none,k=>by simp only [aXZ]
 | .sref _,some (q,a,b,c),k=>by simp only [aXZ,cKZ,bVZ]
 | .mp a b,x,k=>by
  simp only [aXZ]
  exact beZ (fun y k=>by simp only [bBZ a,bBZ b]) x k
theorem gfZ (l:List (List Nat)) (k:List (List Nat)→R):aMZ (aMZ bLZ) l k=k l:=beZ (fun a k=>beZ bVZ a k) l k
mutual
theorem piZ:∀ (a:AV) (k:AV→R),d6Z a k=k a
  | .tv own t x,k=>by simp only [d6Z,gfZ,bBZ]
  | .sp t x,k=>by simp only [d6Z,bBZ]
  | .op q p,k=>by simp only [d6Z,cKZ,beZ bVZ]
  | .vp q N p,k=>by simp only [d6Z,cKZ,bVZ,beZ bVZ]
  | .fn f a b,k=>by simp only [d6Z];rw [c0Z a,c0Z b]
  | .tup l,k=>by simp only [d6Z];rw [c0Z l]
  | .gp g p,k=>by simp only [d6Z,beZ bVZ]
  | .xs t x,k=>by simp only [d6Z,beZ (bBZ t)]
  | .no,k=>rfl
  | .any,k=>rfl
theorem c0Z:∀ (l:List AV) (k:List AV→R),ecZ l k=k l
  | [],k=>rfl
  | a::l,k=>by simp only [ecZ];rw [piZ a,c0Z l]
end
theorem ofZ (o:Key×Ob) (k:Key×Ob→R):onZ o k=k o:=by
 obtain ⟨q,⟨⟨t,x⟩,own⟩⟩:=o
 simp only [onZ,cKZ,bBZ,gfZ]
theorem dPZ (s:St) (k:St→R):oKZ s k=k s:=by
 obtain ⟨e,h⟩:=s
 simp only [oKZ,c0Z,beZ ofZ]
end
theorem lMZ (l:List Nat):∀ (i:Nat) (e:List AV),(keep l i e).length=e.length
 | _,[]=>rfl
 | i,a::e=>by simp [keep,lMZ l (i+1) e]
theorem mcZ (l:List Nat):∀ (i:Nat) (e:List AV) (t:Nat),(keep l i e).getD t .any=e.getD t .any∨(keep l i e).getD t .any=.any
 | _,[],t=>.inl rfl
 | i,a::e,0=>by
  simp only [keep,List.getD_cons_zero]
  split
  ·exact .inl rfl
  ·exact .inr rfl
 | i,a::e,t+1=>by simp only [keep,List.getD_cons_succ];exact mcZ l (i+1) e t
theorem ckZ {p:Key→Bool}:∀ (h:adZ) (k:Key),aeZ (h.filter fun b=>p b.1) k=if p k then aeZ h k else none
 | [],k=>by simp [aeZ]
 | (q,o)::r,k=>by
  simp only [List.filter_cons]
  by_cases e:q=k
  ·subst e
   by_cases hp:p q=true
   ·simp [hp,aeZ]
   ·simp only [hp,Bool.false_eq_true,if_false]
    rw [ckZ r q]
    simp [hp]
  ·split
   ·simp only [aeZ,if_neg e];exact ckZ r k
   ·simp only [aeZ,if_neg e];exact ckZ r k
theorem Rel.cutDown0 (h:Rel O FB w s tm ι) {l:List Nat×List Key} (hr:c4Z l s=some s'):Goes O FB w s tm ι w s' tm ι:=by
 unfold c4Z at hr
 simp only at hr
 split at hr
 ·rename_i hc
  simp only [Option.some.injEq] at hr
  simp only [Bool.and_eq_true,List.all_eq_true,shut] at hc
  obtain ⟨hk,hsh⟩:=hc
  generalize hp:(fun k:Key=>k.1 == 0||l.2.contains k)=p at *
  have hfil:(s.heap.filter fun q=>q.1.1 == 0||l.2.contains q.1)=s.heap.filter fun b=>p b.1:=by rw [← hp]
  rw [hfil] at hr hk hsh
  subst hr
  have hget:∀ t,St.get ⟨keep l.1 0 s.env,s.heap.filter fun b=>p b.1⟩ t=s.get t∨St.get ⟨keep l.1 0 s.env,s.heap.filter fun b=>p b.1⟩ t=.any:=fun t=>mcZ l.1 0 s.env t
  have hlook:∀ k o,aeZ (s.heap.filter fun b=>p b.1) k=some o→aeZ s.heap k=some o:=fun k o e=>by
   rw [ckZ] at e
   split at e
   ·exact e
   ·cases e
  have hown:∀ a x,ajZ w ⟨keep l.1 0 s.env,s.heap.filter fun b=>p b.1⟩ tm ι a=some x→ajZ w s tm ι a=some x:=by
   intro a x e
   cases a with
   | sl i q =>
    simp only [ajZ] at e ⊢
    rcases hget i with hg | hg
    ·rw [hg] at e;exact e
    ·rw [hg] at e;cases e
   | fd k q =>
    simp only [ajZ] at e ⊢
    cases hl:aeZ (s.heap.filter fun b=>p b.1) k with
    | none=>rw [hl] at e;cases e
    | some o=>rw [hl] at e;rw [hlook k o hl];exact e
   | ob k =>
    simp only [ajZ] at e ⊢
    cases hl:aeZ (s.heap.filter fun b=>p b.1) k with
    | none=>rw [hl] at e;cases e
    | some o=>rw [hl] at e;rw [hlook k o hl];exact e
  have hc:bfZ (alZ w FB s tm ι) (alZ w FB ⟨keep l.1 0 s.env,s.heap.filter fun b=>p b.1⟩ tm ι) :=
   fun b o ⟨p1,p2,p3⟩ v hv=>⟨hv,p1,fun a lo e=>p2 a lo (hown a _ e),p3⟩
  have hkt:∀ k,(aeZ (s.heap.filter fun b=>p b.1) k).isSome=true→∀ y,(alZ w FB s tm ι).kt k=some y→(alZ w FB ⟨keep l.1 0 s.env,s.heap.filter fun b=>p b.1⟩ tm ι).kt k=some y:=by
   intro k hs y hy
   obtain ⟨o,ho⟩:=Option.isSome_iff_exists.1 hs
   have hy':(aeZ s.heap k).map (fun o=>(ι k,o.d.t))=some y:=hy
   show (aeZ (s.heap.filter fun b=>p b.1) k).map (fun o=>(ι k,o.d.t))=some y
   rw [hlook k o ho] at hy'
   rw [ho];exact hy'
  refine ⟨⟨⟨fun i=>?_,fun k o hl=>?_,fun a a' b lo lo' e1 e2=>h.dj a a' b lo lo' (hown _ _ e1) (hown _ _ e2),fun i own t x hg q hq=>?_,fun k o hl q hq=>h.rf k o (hlook k o hl) q hq,fun a b lo lo' e=>h.fb a b lo lo' (hown _ _ e),h.fs,h.gl_le hc⟩,fun a b lo e=>.inl ⟨a,lo,hown _ _ e,Nat.le_refl _⟩,Nat.le_refl _⟩,Hist.refl _ _,fun k hk0=>KGo.of ⟨?_,rfl⟩⟩
  ·rcases hget i with hg | hg
   ·rw [hg]
    refine VR.le' hc (fun k hk' y hy=>.of (hkt k (hk k ?_) y hy) fun _ h=>h) (h.vr i)
    rw [← hg] at hk'
    exact ffZ _ i k hk'
   ·rw [hg];simp only [VR]
  ·obtain ⟨q1,q2⟩:=h.ob k o (hlook k o hl)
   refine ⟨q1,?_⟩
   have:=q2.ren (ρ:=id) hc (fun q hq y hy=>.of (hkt q (hsh (k,o) (euZ hl) q (by unfold g3Z;rw [mvZ _ _ q1];exact hq)) y hy) fun _ h=>h) q1 fun _=>rfl
   rwa [dAZ] at this
  ·rcases hget i with hg' | hg'
   ·rw [hg'] at hg;exact h.rs i own t x hg q hq
   ·rw [hg'] at hg;cases hg
  ·show (aeZ (s.heap.filter fun b=>p b.1) k).map _=_
   rw [ckZ,← hp]
   simp [hk0]
 ·cases hr
theorem lpZ {p:List Nat}:∀ {l:List (List Nat)} {q:List Nat},q∈sVZ p l→q=p∨q∈l
 | [],q,h=>by simp only [sVZ,List.mem_singleton] at h;exact .inl h
 | a::l,q,h=>by
  simp only [sVZ] at h
  split at h
  ·rcases List.mem_cons.1 h with h | h
   ·exact .inl h
   ·exact .inr h
  ·rcases List.mem_cons.1 h with h | h
   ·exact .inr (h ▸ List.mem_cons_self ..)
   ·rcases lpZ h with h | h
    ·exact .inl h
    ·exact .inr (List.mem_cons_of_mem _ h)
theorem mjZ:∀ {l:List (List Nat)} {q:List Nat},q∈s9Z l→q∈l
 | [],q,h=>h
 | a::l,q,h=>by
  rcases lpZ (show q∈sVZ a (s9Z l) from h) with h | h
  ·exact h ▸ List.mem_cons_self ..
  ·exact List.mem_cons_of_mem _ (mjZ h)
theorem ewZ:∀ (h:adZ) (k:Key),aeZ (pLZ h) k=(aeZ h k).map fun o=>⟨o.d,s9Z o.own⟩
 | [],_=>rfl
 | (q,o)::r,k=>by
  show aeZ ((q,(⟨o.d,s9Z o.own⟩:Ob))::pLZ r) k=_
  simp only [aeZ]
  by_cases e:q=k
  ·simp only [if_pos e,Option.map_some]
  ·simp only [if_neg e];exact ewZ r k
theorem Rel.reord (h:Rel O FB w s tm ι):Goes O FB w s tm ι w (soZ s) tm ι:=by
 have hlook:∀ k o,aeZ (pLZ s.heap) k=some o→∃ o',aeZ s.heap k=some o'∧o.d=o'.d∧∀ p∈o.own,p∈o'.own:=fun k o e=>by
  rw [ewZ,Option.map_eq_some_iff] at e
  obtain ⟨o',e1,rfl⟩:=e
  exact ⟨o',e1,rfl,fun p hp=>mjZ hp⟩
 have hown:∀ a x,ajZ w (soZ s) tm ι a=some x→ajZ w s tm ι a=some x:=by
  intro a x e
  cases a with
  | sl i q=>exact e
  | fd k q =>
   simp only [ajZ,soZ] at e ⊢
   cases hl:aeZ (pLZ s.heap) k with
   | none=>rw [hl] at e;cases e
   | some o =>
    rw [hl] at e
    obtain ⟨o',e1,e2,e3⟩:=hlook k o hl
    simp only at e
    rw [e1]
    simp only
    split at e
    ·rename_i hq
     rw [if_pos (e3 q hq),← e2];exact e
    ·cases e
  | ob k =>
   simp only [ajZ,soZ] at e ⊢
   cases hl:aeZ (pLZ s.heap) k with
   | none=>rw [hl] at e;cases e
   | some o =>
    rw [hl] at e
    obtain ⟨o',e1,e2,e3⟩:=hlook k o hl
    rw [e1]
    simp only at e ⊢
    rw [← e2];exact e
 have hc:bfZ (alZ w FB s tm ι) (alZ w FB (soZ s) tm ι) :=
  fun b o ⟨p1,p2,p3⟩ v hv=>⟨hv,p1,fun a lo e=>p2 a lo (hown a _ e),p3⟩
 have hkt:∀ k y,(alZ w FB s tm ι).kt k=some y→(alZ w FB (soZ s) tm ι).kt k=some y:=by
  intro k y hy
  have hy':(aeZ s.heap k).map (fun o=>(ι k,o.d.t))=some y:=hy
  show (aeZ (pLZ s.heap) k).map (fun o=>(ι k,o.d.t))=some y
  rw [ewZ,Option.map_map];exact hy'
 refine ⟨⟨⟨fun i=>VR.le' hc (fun k _ y hy=>.of (hkt k y hy) fun _ h=>h) (h.vr i),fun k o hl=>?_,fun a a' b lo lo' e1 e2=>h.dj a a' b lo lo' (hown _ _ e1) (hown _ _ e2),h.rs,fun k o hl q hq=>?_,fun a b lo lo' e=>h.fb a b lo lo' (hown _ _ e),h.fs,h.gl_le hc⟩,fun a b lo e=>.inl ⟨a,lo,hown _ _ e,Nat.le_refl _⟩,Nat.le_refl _⟩,Hist.refl _ _,fun k hk0=>KGo.of ⟨?_,rfl⟩⟩
 ·obtain ⟨o',e1,e2,e3⟩:=hlook k o hl
  obtain ⟨q1,q2⟩:=h.ob k o' e1
  rw [e2]
  refine ⟨q1,?_⟩
  have:=q2.ren (ρ:=id) hc (fun q hq y hy=>.of (hkt q y hy) fun _ h=>h) q1 fun _=>rfl
  rwa [dAZ] at this
 ·obtain ⟨o',e1,e2,e3⟩:=hlook k o hl
  rw [e2];exact h.rf k o' e1 q (e3 q hq)
 ·show (aeZ (pLZ s.heap) k).map _=_
  rw [ewZ,Option.map_map];rfl
theorem Rel.cutDown (h:Rel O FB w s tm ι) {l:List Nat×List Key} (hr:bGZ l s=some s'):Goes O FB w s tm ι w s' tm ι:=by
 unfold bGZ at hr
 simp only [Option.map_eq_some_iff] at hr
 obtain ⟨s0,h0,rfl⟩:=hr
 have g1:=h.cutDown0 h0
 exact Goes.trans h g1 g1.stp.rel.reord
end Go.Am
namespace Go.Am
variable {P:Program} {O:Orc} {FB:Nat→Nat→Prop} {call:aTZ} {f:FuncId}
def uyZ:Ex→Exit
 | .normal=>.normal
 | .exit id=>.exit id
 | .ret=>.ret
structure ProgOK (P:Program) (O:Orc):Prop where
 orc:OrcOK P O
 mixed:P.follows .mixedOrders=true
 fns:∀ f,O.fns f=true→∀ fn c,P.funcs[f]?=some fn→fn.body=some c→bKZ O f c=true∧(fn.name == "runtime.NumGoroutine")=false
 prim:∀ f g,O.prim f=some g→∀ args r,g args=some r→cqZ P f∧∀ (FB:Nat→Nat→Prop) (w:World) (h:adZ) (ι:Key→Nat) (vs:Array Value),args.length=vs.size→Rel O FB w ⟨args,h⟩ (aCZ vs) ι →
  Calls P f vs w fun e w'=>∃ v ι',e=.returned v∧Goes O FB w ⟨args,h⟩ (aCZ vs) ι w' ⟨[r],h⟩ (fun _=>v) ι'
 hprim:∀ f g,O.hprim f=some g→∀ args h n r h',g args h=some (n,r,h')→n≤awZ→cqZ P f∧∀ (FB:Nat→Nat→Prop) (w:World) (ι:Key→Nat) (vs:Array Value),args.length=vs.size→Rel O FB w ⟨args,h⟩ (aCZ vs) ι →
  Calls P f vs w fun e w'=>∃ v ι',e=.returned v∧Goes O FB w ⟨args,h⟩ (aCZ vs) ι w' ⟨[r],h'⟩ (fun _=>v) ι'
theorem usZ {p:Nat→Prop}:∀ n,p n→∃ m,p m∧∀ k,p k→m≤k:=by
 intro n
 induction n using Nat.strongRecOn with
 | _ n ih =>
  intro hp
  by_cases h:∃ k,k<n∧p k
  ·obtain ⟨k,hk,hpk⟩:=h;exact ih k hk hpk
  ·exact ⟨n,hp,fun k hk=>by
    rcases Nat.lt_or_ge k n with hl | hl
    ·exact absurd ⟨k,hl,hk⟩ h
    ·exact hl⟩
theorem oRZ {c:Code} {Q:Exit→Act→World→Prop} (J:Nat→Act→World→Prop) {n:Nat} {a:Act} {w:World} (h0:J n a w) (round:∀ n a w,J n a w→c.wp P (Exit.then (fun a' w'=>∃ m,m<n∧J m a' w') Q) a w):(Code.loop c).wp P Q a w:=by
 classical
 have hex:∀ a w,(∃ n,J n a w)→∃ m,J m a w∧∀ k,J k a w→m≤k:=fun a w ⟨n,h⟩=>usZ n h
 let μ:Act→World→Nat:=fun a w=>if h:∃ n,J n a w then Classical.choose (hex a w h) else 0
 have hμ:∀ a w,(∃ n,J n a w)→J (μ a w) a w∧∀ k,J k a w→μ a w≤k:=by
  intro a w h
  show J (if h:∃ n,J n a w then Classical.choose (hex a w h) else 0) a w∧∀ k,J k a w→(if h:∃ n,J n a w then Classical.choose (hex a w h) else 0)≤k
  rw [dif_pos h]
  exact Classical.choose_spec (hex a w h)
 refine wp_loop (fun a w=>∃ n,J n a w) μ ⟨n,h0⟩ fun a w h=>?_
 obtain ⟨h1,_⟩:=hμ a w h
 refine wp_mono (round _ a w h1) fun e a' w' hq=>?_
 cases e with
 | normal =>
  obtain ⟨m,hm,hj⟩:=hq
  exact ⟨⟨m,hj⟩,Nat.lt_of_le_of_lt ((hμ a' w' ⟨m,hj⟩).2 m hj) hm⟩
 | _=>exact hq
def kGZ (O:Orc) (FB:Nat→Nat→Prop) (w:World) (s:St) (ι:Key→Nat) (a:Act) (q:Ex×St) (Q:Exit→Act→World→Prop):Prop:=Leaves O FB w s ι a q.2 (Q (uyZ q.1))
theorem fqZ {l:List Nat×List Key} {s s':St} (h:bGZ l s=some s'):s'.env.length=s.env.length:=by
 unfold bGZ c4Z at h
 simp only [Option.map_eq_some_iff] at h
 obtain ⟨s0,h,rfl⟩:=h
 split at h
 ·simp only [Option.some.injEq] at h;subst h;exact lMZ _ _ _
 ·cases h
theorem kbZ {body:St→Option (Ex×St)} {l:List Nat×List Key} (hb:∀ s q,body s=some q→q.2.env.length=s.env.length):∀ (n:Nat) (s:St) (q:Ex×St),dvZ body (bGZ l) n s=some q→q.2.env.length=s.env.length
 | 0,_,_,h=>by simp [dvZ] at h
 | n+1,s,q,h=>by
  simp only [dvZ,Option.bind_eq_some_iff] at h
  obtain ⟨s1,h1,⟨e,s2⟩,h2,h3⟩:=h
  have e1:=fqZ h1
  have e2:=hb _ _ h2
  simp only at e2
  cases e with
  | normal=>simp only at h3;rw [kbZ hb n s2 q h3,e2,e1]
  | exit id=>simp only [Option.some.injEq] at h3;subst h3;rw [e2,e1]
  | ret=>simp only [Option.some.injEq] at h3;subst h3;rw [e2,e1]
theorem cfZ (n:Nat):∀ (c:Code) {s:St} {q:Ex×St},aIZ O call n f c s=some q→q.2.env.length=s.env.length
 | .skip,s,q,he=>by simp only [aIZ,Option.some.injEq] at he;subst he;rfl
 | .region id ops draw,s,q,he=>by
  simp only [aIZ,Option.bind_eq_some_iff,dPZ,Option.some.injEq] at he
  obtain ⟨s',h1,rfl⟩:=he
  split at h1
  ·exact mZZ h1
  ·exact jvZ _ _ _ h1
 | .seq x y,s,q,he=>by
  simp only [aIZ,Option.bind_eq_some_iff] at he
  obtain ⟨⟨e,s1⟩,h1,h2⟩:=he
  have e1:=cfZ n x h1
  cases e with
  | normal=>simp only at h2;rw [cfZ n y h2,e1]
  | exit id=>simp only [Option.some.injEq] at h2;subst h2;exact e1
  | ret=>simp only [Option.some.injEq] at h2;subst h2;exact e1
 | .cond c x y,s,q,he=>by
  simp only [aIZ] at he
  split at he
  ·rename_i b _
   cases b with
   | true=>exact cfZ n x he
   | false=>exact cfZ n y he
  ·cases he
 | .block id x,s,q,he=>by
  simp only [aIZ,Option.map_eq_some_iff] at he
  obtain ⟨⟨e,s1⟩,h1,rfl⟩:=he
  have e1:=cfZ n x h1
  simp only
  cases e with
  | exit id'=>simp only;split <;> exact e1
  | normal=>exact e1
  | ret=>exact e1
 | .loop x,s,q,he=>by
  simp only [aIZ] at he
  exact kbZ (fun s q h=>cfZ n x h) n s q he
 | .exit id,s,q,he=>by simp only [aIZ,Option.some.injEq] at he;subst he;rfl
 | .ret,s,q,he=>by simp only [aIZ,Option.some.injEq] at he;subst he;rfl
 | .label _,s,q,he=>by simp [aIZ] at he
 | .goto _,s,q,he=>by simp [aIZ] at he
theorem cyZ (hP:ProgOK P O) (hC:dqZ P O call) (n:Nat):∀ (c:Code) {w:World} {s:St} {ι:Key→Nat} {a:Act} {q:Ex×St} {Q:Exit→Act→World→Prop},bKZ O f c=true→Rel O FB w s (aKZ a) ι→s.env.length=a.tmps.size→aIZ O call n f c s=some q →
  kGZ O FB w s ι a q Q→c.wp P Q a w
 | .skip,w,s,ι,a,q,Q,_,h,hl,he,hq=>by
  simp only [aIZ,Option.some.injEq] at he
  subst he
  exact wp_skip (hq _ _ ι rfl rfl (Goes.refl h))
 | .region id ops draw,w,s,ι,a,q,Q,hd,h,hl,he,hq=>by
  simp only [aIZ,Option.bind_eq_some_iff,dPZ,Option.some.injEq] at he
  obtain ⟨s',h1,rfl⟩:=he
  simp only [bKZ] at hd
  split at h1
  ·rename_i hban
   simp only [Bool.and_eq_true] at hban
   obtain ⟨rfl,hban⟩:=hban
   simp only [Bool.not_true,Bool.false_or,hban,if_true] at hd
   exact nvZ hP.orc hP.mixed hC hd h hl h1 hq
  ·rename_i hban
   refine osZ hP.orc hP.mixed hC (fun hdr=>?_) h hl h1 hq
   subst hdr
   have hb:O.ban f id=false:=by simpa using hban
   simp only [Bool.not_true,Bool.false_or,hb,Bool.false_eq_true,if_false] at hd
   exact hd
 | .seq x y,w,s,ι,a,q,Q,hd,h,hl,he,hq=>by
  simp only [bKZ,Bool.and_eq_true] at hd
  simp only [aIZ,Option.bind_eq_some_iff] at he
  obtain ⟨⟨e,s1⟩,h1,h2⟩:=he
  have hlen:s1.env.length=s.env.length:=cfZ n x h1
  cases e with
  | normal =>
   simp only at h2
   exact wp_seq (cyZ hP hC n x hd.1 h hl h1 fun a1 w1 ι1 d1 z1 g1 =>
    cyZ hP hC n y hd.2 g1.stp.rel (by rw [hlen,hl,z1]) h2 (Leaves.chain h hq d1 z1 g1))
  | exit id =>
   simp only [Option.some.injEq] at h2
   subst h2
   exact wp_seq (cyZ hP hC n x (Q:=Exit.then (y.wp P Q) Q) hd.1 h hl h1 fun a1 w1 ι1 d1 z1 g1=>hq a1 w1 ι1 d1 z1 g1)
  | ret =>
   simp only [Option.some.injEq] at h2
   subst h2
   exact wp_seq (cyZ hP hC n x (Q:=Exit.then (y.wp P Q) Q) hd.1 h hl h1 fun a1 w1 ι1 d1 z1 g1=>hq a1 w1 ι1 d1 z1 g1)
 | .cond c x y,w,s,ι,a,q,Q,hd,h,hl,he,hq=>by
  simp only [bKZ,Bool.and_eq_true] at hd
  simp only [aIZ] at he
  split at he
  ·rename_i own b hc
   have hv:=fbZ (acZ h) c
   rw [hc] at hv
   simp only [VR] at hv
   refine wp_cond hv.bool ?_
   cases b with
   | true=>exact cyZ hP hC n x hd.1 h hl he hq
   | false=>exact cyZ hP hC n y hd.2 h hl he hq
  ·cases he
 | .block id x,w,s,ι,a,q,Q,hd,h,hl,he,hq=>by
  simp only [bKZ] at hd
  simp only [aIZ,Option.map_eq_some_iff] at he
  obtain ⟨⟨e,s1⟩,h1,rfl⟩:=he
  refine wp_block (cyZ hP hC n x (Q:=Exit.inBlock id Q) hd h hl h1 fun a1 w1 ι1 d1 z1 g1=>?_)
  cases e with
  | normal=>exact hq a1 w1 ι1 d1 z1 g1
  | ret=>exact hq a1 w1 ι1 d1 z1 g1
  | exit id' =>
   simp only [uyZ,Exit.inBlock]
   by_cases hid:id'=id
   ·rw [if_pos hid]
    unfold kGZ at hq
    simp only [if_pos hid] at hq
    exact hq a1 w1 ι1 d1 z1 g1
   ·rw [if_neg hid]
    unfold kGZ at hq
    simp only [if_neg hid] at hq
    exact hq a1 w1 ι1 d1 z1 g1
 | .loop x,w,s,ι,a,q,Q,hd,h,hl,he,hq=>by
  simp only [bKZ] at hd
  simp only [aIZ] at he
  refine oRZ (fun m a1 w1=>∃ s1 ι1,a1.defers=a.defers∧a1.tmps.size=a.tmps.size∧s1.env.length=s.env.length∧Goes O FB w s (aKZ a) ι w1 s1 (aKZ a1) ι1∧dvZ (aIZ O call n f x) (bGZ (O.live f (dcZ x))) m s1=some q) (n:=n) ⟨s,ι,rfl,rfl,rfl,Goes.refl h,he⟩ ?_
  rintro m a1 w1 ⟨s1,ι1,d1,z1,l1,g1,e1⟩
  cases m with
  | zero=>simp [dvZ] at e1
  | succ m =>
   simp only [dvZ,Option.bind_eq_some_iff] at e1
   obtain ⟨s2,r1,⟨e,s3⟩,r2,r3⟩:=e1
   have g2:=g1.stp.rel.cutDown r1
   have g12:=Goes.trans h g1 g2
   have l2:=fqZ r1
   refine cyZ hP hC n x hd g2.stp.rel (by rw [l2,l1,hl,z1]) r2 fun a3 w3 ι3 d3 z3 g3=>?_
   have g13:=Goes.trans h g12 g3
   have l3:=cfZ n x r2
   simp only at l3
   cases e with
   | normal=>exact ⟨m,Nat.lt_succ_self m,s3,ι3,d3.trans d1,z3.trans z1,by rw [l3,l2,l1],g13,r3⟩
   | exit id =>
    simp only [Option.some.injEq] at r3
    subst r3
    exact hq a3 w3 ι3 (d3.trans d1) (z3.trans z1) g13
   | ret =>
    simp only [Option.some.injEq] at r3
    subst r3
    exact hq a3 w3 ι3 (d3.trans d1) (z3.trans z1) g13
 | .exit id,w,s,ι,a,q,Q,_,h,hl,he,hq=>by
  simp only [aIZ,Option.some.injEq] at he
  subst he
  exact wp_exit (hq _ _ ι rfl rfl (Goes.refl h))
 | .ret,w,s,ι,a,q,Q,_,h,hl,he,hq=>by
  simp only [aIZ,Option.some.injEq] at he
  subst he
  exact wp_ret (hq _ _ ι rfl rfl (Goes.refl h))
 | .label _,w,s,ι,a,q,Q,_,h,hl,he,hq=>by simp [aIZ] at he
 | .goto _,w,s,ι,a,q,Q,_,h,hl,he,hq=>by simp [aIZ] at he
end Go.Am
namespace Go.Am
variable {P:Program} {O:Orc} {FB:Nat→Nat→Prop} {w:World} {ι:Key→Nat}
theorem jMZ {ρ inv:Key→Key}:∀ {h:adZ} {q:Key} {o':Ob},(∀ b∈h,inv (ρ b.1)=b.1)→aeZ (kqZ ρ h) q=some o'→∃ k o,aeZ h k=some o∧ρ k=q∧o'=iMZ ρ o
 | (k,o)::r,q,o',hi,e=>by
  simp only [kqZ,List.map_cons,aeZ] at e
  split at e
  ·rename_i hq
   cases e
   exact ⟨k,o,by simp [aeZ],hq,rfl⟩
  ·rename_i hq
   obtain ⟨k2,o2,h1,h2,h3⟩:=jMZ (h:=r) (fun b hb=>hi b (List.mem_cons_of_mem _ hb)) e
   refine ⟨k2,o2,?_,h2,h3⟩
   simp only [aeZ]
   rw [if_neg ?_]
   ·exact h1
   ·intro e2;subst e2;exact hq h2
theorem glZ {ρ inv:Key→Key}:∀ {h:adZ} {k:Key} {o:Ob},(∀ b∈h,inv (ρ b.1)=b.1)→aeZ h k=some o→aeZ (kqZ ρ h) (ρ k)=some (iMZ ρ o)
 | (k',o')::r,k,o,hi,e=>by
  simp only [aeZ] at e
  simp only [kqZ,List.map_cons,aeZ]
  split at e
  ·rename_i hk;cases e;subst hk;simp
  ·rename_i hk
   rw [if_neg ?_]
   ·exact glZ (h:=r) (fun b hb=>hi b (List.mem_cons_of_mem _ hb)) e
   ·intro e2
    have h1:=hi (k',o') (List.mem_cons_self ..)
    have h2:=hi (k,o) (List.mem_cons_of_mem _ (euZ e))
    simp only at h1 h2
    rw [e2,h2] at h1
    exact hk h1.symm
theorem Rel.rename {a:AV} {h:adZ} {v:Value} (H:Rel O FB w ⟨[a],h⟩ (fun _=>v) ι) {ρ inv:Key→Key} (hi:∀ b∈h,inv (ρ b.1)=b.1) (hz:∀ k:Key,k.1=0→ρ k=k∧inv k=k) :
  Goes O FB w ⟨[a],h⟩ (fun _=>v) ι w ⟨[cmZ ρ a],kqZ ρ h⟩ (fun _=>v) (fun q=>ι (inv q)):=by
 have hget:∀ i,St.get ⟨[cmZ ρ a],kqZ ρ h⟩ i=if i=0 then cmZ ρ a else .any:=fun i=>by cases i <;> simp [St.get]
 have hget0:∀ i,St.get ⟨[a],h⟩ i=if i=0 then a else .any:=fun i=>by cases i <;> simp [St.get]
 have hinv:∀ k o,aeZ h k=some o→inv (ρ k)=k:=fun k o e=>hi (k,o) (euZ e)
 have hback:∀ q o',aeZ (kqZ ρ h) q=some o'→∃ o,aeZ h (inv q)=some o∧o'=iMZ ρ o∧ρ (inv q)=q:=by
  intro q o' e
  obtain ⟨k,o,h1,h2,h3⟩:=jMZ hi e
  have:=hinv k o h1
  rw [h2] at this
  rw [this]
  exact ⟨o,h1,h3,h2⟩
 have htv:∀ own t x,cmZ ρ a=.tv own t x→∃ y,a=.tv own t y:=by
  intro own t x e
  cases a <;> simp only [cmZ] at e <;> first | (cases e;exact ⟨_,rfl⟩) | (cases e)
 have hown:∀ l x,ajZ w ⟨[cmZ ρ a],kqZ ρ h⟩ (fun _=>v) (fun q=>ι (inv q)) l=some x →
   ajZ w ⟨[a],h⟩ (fun _=>v) ι (match l with | .sl i p=>.sl i p | .fd k p=>.fd (inv k) p | .ob k=>.ob (inv k))=some x∧(∀ k p,l=.fd k p→ρ (inv k)=k)∧∀ k,l=.ob k→ρ (inv k)=k:=by
  intro l x e
  cases l with
  | sl i p =>
   refine ⟨?_,by simp,by simp⟩
   simp only [ajZ,hget,hget0] at e ⊢
   by_cases h0:i=0
   ·rw [if_pos h0] at e ⊢
    cases ha:cmZ ρ a with
    | tv own t x'=>obtain ⟨y,hy⟩:=htv own t x' ha;rw [ha] at e;rw [hy];exact e
    | _=>rw [ha] at e;simp at e
   ·rw [if_neg h0] at e;simp at e
  | fd k p =>
   simp only [ajZ] at e ⊢
   cases hk:aeZ (kqZ ρ h) k with
   | none=>rw [hk] at e;cases e
   | some o' =>
    obtain ⟨o,h1,rfl,h2⟩:=hback k o' hk
    rw [hk] at e
    rw [h1]
    refine ⟨e,fun k' p' e'=>by cases e';exact h2,by simp⟩
  | ob k =>
   simp only [ajZ] at e ⊢
   cases hk:aeZ (kqZ ρ h) k with
   | none=>rw [hk] at e;cases e
   | some o' =>
    obtain ⟨o,h1,rfl,h2⟩:=hback k o' hk
    rw [hk] at e
    rw [h1]
    refine ⟨e,by simp,fun k' e'=>by cases e';exact h2⟩
 have hc:bfZ (alZ w FB ⟨[a],h⟩ (fun _=>v) ι) (alZ w FB ⟨[cmZ ρ a],kqZ ρ h⟩ (fun _=>v) (fun q=>ι (inv q))) :=
  iJZ (Nat.le_refl _) (fun l b lo hl _=>⟨_,lo,(hown l _ hl).1,Nat.le_refl _⟩) fun _ _ _=>rfl
 have hkt:∀ k y,(alZ w FB ⟨[a],h⟩ (fun _=>v) ι).kt k=some y→(alZ w FB ⟨[cmZ ρ a],kqZ ρ h⟩ (fun _=>v) (fun q=>ι (inv q))).kt (ρ k)=some y:=by
  intro k y e
  simp only [alZ,cnZ] at e ⊢
  cases hk:aeZ h k with
  | none=>rw [hk] at e;cases e
  | some o =>
   rw [hk] at e
   rw [glZ hi hk,hinv k o hk]
   exact e
 refine ⟨⟨⟨fun i=>?_,fun q o' hq=>?_,fun l l' b lo lo' e1 e2=>?_,fun i own t x e p hp=>?_,fun q o' hq p hp=>?_,fun l b lo lo' e=>H.fb _ b lo lo' (hown l _ e).1,H.fs,H.gl_le hc⟩,fun l b lo e=>.inl ⟨_,lo,(hown l _ e).1,Nat.le_refl _⟩,Nat.le_refl _⟩,Hist.refl _ _,fun k hk=>KGo.of ⟨?_,by show ι (inv k)=ι k;rw [(hz k hk).2]⟩⟩
 ·rw [hget]
  split
  ·have:=H.vr 0
   rw [hget0,if_pos rfl] at this
   exact VR.ren hc a v (fun k _ y hy=>.of (hkt k y hy) fun _ h=>h) this
  ·simp only [VR]
 ·obtain ⟨o,h1,rfl,_⟩:=hback q o' hq
  obtain ⟨g1,g2⟩:=H.ob _ o h1
  refine ⟨g1,?_⟩
  show ObAt _ _ _ o.d.t (if o.d.t.noRef then o.d.x else e9Z ρ o.d.t o.d.x)
  rw [sTZ]
  exact g2.ren hc (fun k _ y hy=>.of (hkt k y hy) fun _ h=>h) g1 fun _=>rfl
 ·obtain ⟨f1,f2,f3⟩:=hown l _ e1
  obtain ⟨g1,g2,g3⟩:=hown l' _ e2
  have:=H.dj _ _ b lo lo' f1 g1
  cases l <;> cases l' <;> simp only [Loc.sl.injEq,Loc.fd.injEq,Loc.ob.injEq,reduceCtorEq] at this ⊢
  ·exact this
  ·refine ⟨?_,this.2⟩
   rw [← f2 _ _ rfl,← g2 _ _ rfl,this.1]
  ·rw [← f3 _ rfl,← g3 _ rfl,this]
 ·rw [hget] at e
  by_cases h0:i=0
  ·rw [if_pos h0] at e
   obtain ⟨y,hy⟩:=htv own t x e
   exact H.rs 0 own t y (by rw [hget0,if_pos rfl,hy]) p hp
  ·rw [if_neg h0] at e;cases e
 ·obtain ⟨o,h1,rfl,_⟩:=hback q o' hq
  exact H.rf _ o h1 p hp
 ·have e1:=(hz k hk).1
  cases hl:aeZ h k with
  | some o =>
   have:=glZ hi hl
   rw [e1] at this
   show (aeZ (kqZ ρ h) k).map _=_
   rw [this];rfl
  | none =>
   show (aeZ (kqZ ρ h) k).map _=_
   cases hl':aeZ (kqZ ρ h) k with
   | none=>rfl
   | some o' =>
    obtain ⟨o,h1,_,h2⟩:=hback k o' hl'
    rw [(hz k hk).2,hl] at h1
    cases h1
theorem n5Z {ex:List Key} {k:Key} (h:k.1=0∨k∈ex):tOZ ex (sWZ ex k)=k:=by
 unfold sWZ
 by_cases h0:k.1=0
 ·rw [if_pos h0];unfold tOZ;rw [if_pos h0]
 ·rw [if_neg h0]
  rcases h with h | h
  ·exact absurd h h0
  ·obtain ⟨i,h1,_,h2⟩:=eNZ (ks:=ex) (k:=k) 0 h
   rw [h1,Nat.zero_add]
   unfold tOZ
   rw [if_neg (by simp)]
   exact h2
theorem pRZ {a:AV} {h:adZ} {v:Value} {q:AV×adZ} (H:Rel O FB w ⟨[a],h⟩ (fun _=>v) ι) (e:o8Z a h=some q):∃ ι',Goes O FB w ⟨[a],h⟩ (fun _=>v) ι w ⟨[q.1],q.2⟩ (fun _=>v) ι':=by
 unfold o8Z at e
 rw [a0Z] at e
 generalize exK a h=ex at e
 split at e
 ·simp only [Option.map_eq_some_iff] at e
  obtain ⟨s,hs,rfl⟩:=e
  have g1:=H.cutDown hs
  have henv:s=⟨[a],s.heap⟩∧∀ b∈s.heap,b.1.1=0∨b.1∈ex:=by
   unfold bGZ c4Z at hs
   simp only [Option.map_eq_some_iff] at hs
   obtain ⟨s0,hs,rfl⟩:=hs
   split at hs
   ·simp only [Option.some.injEq] at hs
    rw [← hs]
    refine ⟨rfl,fun b hb=>?_⟩
    obtain ⟨b0,hb0,rfl⟩:=List.mem_map.1 (show b∈pLZ _ from hb)
    have:=(List.mem_filter.1 hb0).2
    simpa using this
   ·cases hs
  have g2:=g1
  rw [henv.1] at g2
  have g3:=g2.stp.rel.rename (ρ:=sWZ ex) (inv:=tOZ ex) (fun b hb=>n5Z (henv.2 b hb)) (fun k hk=>⟨by unfold sWZ;rw [if_pos hk],by unfold tOZ;rw [if_pos hk]⟩)
  exact ⟨_,Goes.trans H g2 g3⟩
 ·cases e
end Go.Am
namespace Go.Am
variable {P:Program} {O:Orc} {FB:Nat→Nat→Prop} {w:World} {s:St} {ι:Key→Nat}
def gMZ (a:Act):ResultVar→Sem Value
 | .tmp t=>pure (a.tmps.getD t undef)
 | .cell c T=>do loadVar T (← asAddr (a.tmps.getD c undef))
theorem sdZ (hO:OrcOK P O) {a:Act} (h:Rel O FB w s (aKZ a) ι) {x:ResultVar} {b:AV} (he:tTZ O s x=some b) :
  ∃ v,(gMZ a x).run P w=.ok v w∧VR (alZ w FB s (aKZ a) ι) O b v∧((∃ t,b=s.get t∧v=aKZ a t)∨b.own=[]):=by
 cases x with
 | tmp t =>
  simp only [tTZ,Option.some.injEq] at he
  subst he
  exact ⟨_,(by simp only [gMZ,Sem.run_pure];rfl),h.vr t,.inl ⟨t,rfl,rfl⟩⟩
 | cell c T =>
  simp only [tTZ,Option.bind_eq_some_iff] at he
  obtain ⟨d,hd,he⟩:=he
  split at he
  ·rename_i hT
   simp only [Option.some.injEq] at he
   subst he
   obtain ⟨b,o,cs,hv,hc,hrv,hf⟩:=lTZ h (h.vr c) hd (hO.ty T _ hT).hasZ
   refine ⟨_,?_,Dat.av_ok (VT.of_cells hf hrv),.inr (Dat.av_own d)⟩
   have hv':a.tmps.getD c undef=.pointer (some ⟨b,o,none⟩):=hv
   simp only [gMZ,hv',asAddr,Sem.run_bind,Sem.run_pure,Result.andThen_ok]
   exact emZ (hO.ty T _ hT) hc gQZ
  ·cases he
theorem oFZ (hO:OrcOK P O) {a:Act} (h:Rel O FB w s (aKZ a) ι):∀ {rs:List ResultVar} {l:List AV},spZ O s rs=some l →
  ∃ vs:List Value,(rs.mapM (gMZ a)).run P w=.ok vs w∧VRL (alZ w FB s (aKZ a) ι) O l vs∧l.length=rs.length∧vs.length=rs.length∧∀ b v,l=[b]→vs=[v]→(∃ t,b=s.get t∧v=aKZ a t)∨b.own=[]
 | [],l,he=>by
  simp only [spZ,Option.some.injEq] at he
  subst he
  exact ⟨[],by simp,rfl,rfl,rfl,nofun⟩
 | x::rs,l,he=>by
  simp only [spZ,Option.bind_eq_some_iff,Option.map_eq_some_iff] at he
  obtain ⟨b,hb,m,hm,rfl⟩:=he
  obtain ⟨v,h1,h2,h3⟩:=sdZ hO h hb
  obtain ⟨vs,h4,h5,h6,h7,_⟩:=oFZ hO h hm
  refine ⟨v::vs,?_,?_,by simp [h6],by simp [h7],fun b' v' e1 e2=>?_⟩
  ·simp only [List.mapM_cons,Sem.run_bind,h1,h4,Result.andThen_ok,Sem.run_pure]
  ·simp only [VRL];exact ⟨v,vs,rfl,h2,h5⟩
  ·injection e1 with e1 _
   injection e2 with e2 _
   subst e1;subst e2
   exact h3
def tUZ:List Value→Value
 | [v]=>v
 | vs=>.tuple vs.toArray
theorem lcZ {fn:Func} {a:Act} {vs:List Value} (h:(fn.results.toList.mapM (gMZ a)).run P w=.ok vs w):(results fn a.tmps).run P w=.ok (tUZ vs) w:=by
 have he:results fn a.tmps=(do let vs ← fn.results.mapM (gMZ a);pure (if h:vs.size=1 then vs[0] else .tuple vs)):=by
  unfold results gMZ
  rfl
 rw [he,Array.mapM_eq_mapM_toList]
 simp only [Sem.run_bind,h,Result.andThen_ok,Sem.run_pure,map_eq_pure_bind,bind_assoc,pure_bind]
 congr 1
 match vs with
 | []=>rfl
 | [v]=>rfl
 | v::u::r=>rfl
theorem Rel.ends {tm:Nat→Value} (h:Rel O FB w s tm ι) {r:AV} {v:Value} (hv:VR (alZ w FB s tm ι) O r v) (ho:(∃ t,r=s.get t∧v=tm t)∨r.own=[]):Goes O FB w s tm ι w ⟨[r],s.heap⟩ (fun _=>v) ι:=by
 have hget:∀ i,([r]:List AV).getD i .any=if i=0 then r else .any:=fun i=>by cases i <;> simp
 have hown:∀ i p x,ajZ w ⟨[r],s.heap⟩ (fun _=>v) ι (.sl i p)=some x→i=0∧∃ t,ajZ w s tm ι (.sl t p)=some x∧r=s.get t∧v=tm t:=by
  intro i p x e
  simp only [ajZ,St.get,hget] at e
  by_cases hi:i=0
  ·refine ⟨hi,?_⟩
   rw [if_pos hi] at e
   rcases ho with ⟨t,h1,h2⟩ | h1
   ·refine ⟨t,?_,h1,h2⟩
    simp only [ajZ,← h1,← h2]
    exact e
   ·cases r with
    | tv own t y=>simp only [AV.own] at h1;subst h1;simp at e
    | _=>simp at e
  ·rw [if_neg hi] at e;cases e
 refine ⟨h.env [r] (fun _=>v) (fun i=>?_) (fun i p x e=>?_) (fun i p i' p' b lo lo' e1 e2=>?_) (fun i own t x e p hp=>?_),Hist.refl _ _,fun _ _=>KGo.of ⟨rfl,rfl⟩⟩
 ·rw [hget]
  split
  ·exact hv
  ·simp only [VR]
 ·obtain ⟨_,t,e1,_⟩:=hown i p x e;exact ⟨t,p,e1⟩
 ·obtain ⟨rfl,t,f1,g1,g2⟩:=hown i p _ e1
  obtain ⟨rfl,t',f2,g3,g4⟩:=hown i' p' _ e2
  have:ajZ w s tm ι (.sl t p')=some (b,lo'):=by
   simp only [ajZ] at f2 ⊢
   rw [← g1,← g2]
   rw [← g3,← g4] at f2
   exact f2
  have:=h.dj _ _ _ _ _ f1 this
  injection this with _ hp
  rw [hp]
 ·rw [hget] at e
  split at e
  ·rcases ho with ⟨k,h1,h2⟩ | h1
   ·rw [h2];exact h.rs k own t x (h1 ▸ e) p hp
   ·rw [e] at h1;simp only [AV.own] at h1;subst h1;cases hp
  ·cases e
theorem ivZ (hP:ProgOK P O):∀ k,dqZ P O (callF P O k)
 | 0=>fun g args h q e=>by simp [callF] at e
 | k+1=>fun g args h q e=>by
  have ih:=ivZ hP k
  simp only [callF] at e
  split at e
  ·rename_i p hp
   simp only [Option.map_eq_some_iff] at e
   obtain ⟨r,hr,rfl⟩:=e
   obtain ⟨h1,h2⟩:=hP.prim g p hp args r hr
   exact ⟨h1,fun FB w ι vs hlen hrel=>h2 FB w h ι vs hlen hrel⟩
  ·split at e
   ·rename_i p hp
    simp only [Option.bind_eq_some_iff] at e
    obtain ⟨⟨n,r,h'⟩,e,e2⟩:=e
    split at e2
    case isFalse=>cases e2
    rename_i hn
    cases e2
    obtain ⟨h1,h2⟩:=hP.hprim g p hp args h n r h' e hn
    exact ⟨h1,fun FB w ι vs hlen hrel=>h2 FB w ι vs hlen hrel⟩
   split at e
   ·cases e
   ·rename_i hfns
    have hfns':O.fns g=true:=by simpa using hfns
    simp only [Option.bind_eq_some_iff] at e
    obtain ⟨fn,hfn,c,hc,⟨x,s1⟩,he,e⟩:=e
    obtain ⟨hd,hname⟩:=hP.fns g hfns' fn c hfn hc
    refine ⟨⟨fn,hfn,by rw [hc];rfl,hname⟩,fun FB w ι vs hlen hrel=>?_⟩
    refine calls_of_wp hfn hc ?_
    have htm:aKZ { tmps:=vs++Array.replicate (fn.ntmps-vs.size) undef,defers:=[] }=aCZ vs:=by
     funext i
     simp only [aKZ,aCZ,Array.getD_eq_getD_getElem?,List.getD_eq_getElem?_getD,Array.getElem?_toList,Array.getElem?_append]
     split
     ·rfl
     ·rename_i hi
      rw [Array.getElem?_replicate,Array.getElem?_eq_none (by omega)]
      split <;> rfl
    have hg0:Goes O FB w ⟨args,h⟩ (aCZ vs) ι w ⟨args++List.replicate (fn.ntmps-args.length) .no,h⟩ (aCZ vs) ι:=by
     have hget:∀ i,(args++List.replicate (fn.ntmps-args.length) AV.no).getD i .any=args.getD i .any∨((args++List.replicate (fn.ntmps-args.length) AV.no).getD i .any=.no∧args.length≤i):=by
      intro i
      simp only [List.getD_eq_getElem?_getD,List.getElem?_append]
      split
      ·exact .inl rfl
      ·rename_i hi
       rw [List.getElem?_replicate]
       split
       ·exact .inr ⟨rfl,by omega⟩
       ·exact .inl (by rw [List.getElem?_eq_none (by omega)])
     have hown:∀ i p x,ajZ w ⟨args++List.replicate (fn.ntmps-args.length) .no,h⟩ (aCZ vs) ι (.sl i p)=some x→ajZ w ⟨args,h⟩ (aCZ vs) ι (.sl i p)=some x:=by
      intro i p x e
      simp only [ajZ,St.get] at e ⊢
      rcases hget i with hg | ⟨hg,_⟩
      ·rw [hg] at e;exact e
      ·rw [hg] at e;cases e
     refine ⟨hrel.env _ _ (fun i=>?_) (fun i p x e=>⟨i,p,hown i p x e⟩) (fun i p i' p' b lo lo' e1 e2=>hrel.dj _ _ b lo lo' (hown _ _ _ e1) (hown _ _ _ e2)) (fun i own t x e p hp=>?_),Hist.refl _ _,fun _ _=>KGo.of ⟨rfl,rfl⟩⟩
     ·rcases hget i with hg | ⟨hg,hi⟩
      ·rw [hg];exact hrel.vr i
      ·rw [hg]
       show aCZ vs i=undef
       simp [aCZ,List.getD_eq_getElem?_getD,List.getElem?_eq_none (show vs.toList.length≤i by simpa using (by omega:vs.size≤i))]
     ·rcases hget i with hg | ⟨hg,_⟩
      ·rw [hg] at e;exact hrel.rs i own t x e p hp
      ·rw [hg] at e;cases e
    have hrel0:=hg0.stp.rel
    have hrel1:=hrel0
    rw [← htm] at hrel1
    refine cyZ hP ih k c hd hrel1 (by simp [hlen]) he fun a' w' ι' hd' hz' hg=>?_
    rw [htm] at hg
    have hgg:=Goes.trans hrel hg0 hg
    have fin:∀ l,spZ O s1 fn.results.toList=some l→o8Z (q4Z l) s1.heap=some q→a'.defers=[]∧∃ v,(results fn a'.tmps).run P w'=.ok v w'∧∃ v' ι'',Ending.returned v=.returned v'∧Goes O FB w ⟨args,h⟩ (aCZ vs) ι w' ⟨[q.1],q.2⟩ (fun _=>v') ι'':=by
     intro l hl hq
     obtain ⟨us,r1,r2,r3,r4,r5⟩:=oFZ hP.orc hg.stp.rel hl
     have hends:VR (alZ w' FB s1 (aKZ a') ι') O (q4Z l) (tUZ us)→((∃ t,q4Z l=s1.get t∧(tUZ us)=aKZ a' t)∨(q4Z l).own=[]) →
       ∃ ι'',Goes O FB w ⟨args,h⟩ (aCZ vs) ι w' ⟨[q.1],q.2⟩ (fun _=>(tUZ us)) ι'':=fun k1 k2=>by
      have g1:=hg.stp.rel.ends k1 k2
      obtain ⟨ι'',g2⟩:=pRZ g1.stp.rel hq
      exact ⟨ι'',Goes.trans hrel (Goes.trans hrel hgg g1) g2⟩
     refine Exists.elim (hends ?_ ?_) fun ι'' hfin=>⟨hd',_,lcZ r1,_,ι'',rfl,hfin⟩
     ·match l,us,r2,r3,r4,r5 with
      | [],[],r2,_,_,_=>simp only [q4Z,VR];exact ⟨_,rfl,fFZ _ _ r2⟩
      | [b],[v],r2,_,_,_ =>
       simp only [VRL] at r2
       obtain ⟨v',r,e,h1,_⟩:=r2
       cases e
       exact h1
      | b::b2::m,v::v2::us,r2,_,_,_=>simp only [q4Z,VR];exact ⟨_,rfl,fFZ _ _ r2⟩
      | [],v::us,_,r3,r4,_=>simp only [List.length_nil,List.length_cons] at r3 r4;omega
      | b::m,[],_,r3,r4,_=>simp only [List.length_nil,List.length_cons] at r3 r4;omega
      | [b],v::v2::us,_,r3,r4,_=>simp only [List.length_nil,List.length_cons] at r3 r4;omega
      | b::b2::m,[v],_,r3,r4,_=>simp only [List.length_nil,List.length_cons] at r3 r4;omega
     ·match l,us,r3,r4,r5 with
      | [],[],_,_,_=>exact .inr rfl
      | [b],[v],_,_,r5=>exact r5 b v rfl rfl
      | b::b2::m,v::v2::us,_,_,_=>exact .inr rfl
      | [],v::us,r3,r4,_=>simp only [List.length_nil,List.length_cons] at r3 r4;omega
      | b::m,[],r3,r4,_=>simp only [List.length_nil,List.length_cons] at r3 r4;omega
      | [b],v::v2::us,r3,r4,_=>simp only [List.length_nil,List.length_cons] at r3 r4;omega
      | b::b2::m,[v],r3,r4,_=>simp only [List.length_nil,List.length_cons] at r3 r4;omega
    cases x with
    | normal =>
     simp only [Option.bind_eq_some_iff] at e
     obtain ⟨l,hl,hq⟩:=e
     exact fin l hl hq
    | ret =>
     simp only [Option.bind_eq_some_iff] at e
     obtain ⟨l,hl,hq⟩:=e
     exact fin l hl hq
    | exit id=>simp at e
end Go.Am
namespace Go.Am
variable {P:Program} {O:Orc}
def zB1:Value→Value→Bool
 | .int k n,.int k' m=>decide (k=k')&&decide (n=m)
 | .bool a,.bool b=>a == b
 | .string s,.string t=>s.size == 0&&t.size == 0
 | .pointer none,.pointer none=>true
 | .slice none a b,.slice none c d=>a == c&&b == d
 | .map none,.map none=>true
 | .nilFunc,.nilFunc=>true
 | _,_=>false
def zBL:List Value→List Value→Bool
 | [],[]=>true
 | a::l,b::m=>zB1 a b&&zBL l m
 | _,_=>false
def zB:Value→Value→Bool
 | .agg a,.agg b=>zBL a.toList b.toList
 | a,b=>zB1 a b
theorem rlZ:∀ {a b:Value},zB1 a b=true→a=b:=by
 intro a b h
 unfold zB1 at h
 split at h
 ·simp only [Bool.and_eq_true,decide_eq_true_eq] at h;rw [h.1,h.2]
 ·simp only [beq_iff_eq] at h;rw [h]
 ·rename_i s t
  simp only [Bool.and_eq_true,beq_iff_eq] at h
  have:s=t:=by
   obtain ⟨⟨s⟩⟩:=s
   obtain ⟨⟨t⟩⟩:=t
   have h1:s.length=0:=h.1
   have h2:t.length=0:=h.2
   rw [List.length_eq_zero_iff.1 h1,List.length_eq_zero_iff.1 h2]
  rw [this]
 ·rfl
 ·simp only [Bool.and_eq_true,beq_iff_eq] at h;rw [h.1,h.2]
 ·rfl
 ·rfl
 ·cases h
theorem rqZ:∀ {a b:List Value},zBL a b=true→a=b
 | [],[],_=>rfl
 | a::l,b::m,h=>by
  simp only [zBL,Bool.and_eq_true] at h
  rw [rlZ h.1,rqZ h.2]
 | [],_::_,h=>by simp [zBL] at h
 | _::_,[],h=>by simp [zBL] at h
theorem uaZ {a b:Value} (h:zB a b=true):a=b:=by
 unfold zB at h
 split at h
 ·rw [Array.toList_inj.1 (rqZ h)]
 ·exact rlZ h
def nfl:Ty→Nat
 | .pair _ b=>nfl b+1
 | .expr=>3
 | _=>0
theorem j9Z:∀ (t:Ty) (i:Nat),nfl t≤i→bEZ t i=none
 | .pair a b,0,h=>by simp [nfl] at h
 | .pair a b,i+1,h=>by simp only [bEZ];exact j9Z b i (by simp only [nfl] at h;omega)
 | .expr,i,h=>by
  simp only [nfl] at h
  obtain ⟨j,rfl⟩:∃ j,i=j+3:=⟨i-3,by omega⟩
  rfl
 | .int _,_,_=>rfl
 | .bool,_,_=>rfl
 | .str,_,_=>rfl
 | .unit,_,_=>rfl
 | .ref,_,_=>rfl
 | .wref,_,_=>rfl
 | .slice _,_,_=>rfl
 | .mref _ _,_,_=>rfl
 | .fnc,_,_=>rfl
 | .sref _,_,_=>rfl
 | .mp _ _,_,_=>rfl
 | .arr _ _ _,_,_=>rfl
def goZ (O:Orc) (t:Ty) (fs:Array Field):Bool :=
 decide (nfl t≤fs.size)&&(List.range fs.size).all fun i=>match fs[i]?,bEZ t i with
  | some f,some u=>decide (O.ty f.type=some u)&&decide (f.offset=cJZ t i)&&decide (u.size≠0)&&decide (f.name ≠ "_")
  | _,_=>false
theorem flZ {t:Ty} {fs:Array Field} (h:goZ O t fs=true):diZ O t fs:=by
 unfold goZ at h
 simp only [Bool.and_eq_true,decide_eq_true_eq,List.all_eq_true,List.mem_range] at h
 refine ⟨fun i f hf=>?_,fun i hi=>?_⟩
 ·have hlt:i<fs.size:=by
   rcases Nat.lt_or_ge i fs.size with h | h
   ·exact h
   ·rw [Array.getElem?_eq_none h] at hf;cases hf
  have:=h.2 i hlt
  rw [hf] at this
  split at this
  ·rename_i f' u e1 e2
   cases e1
   simp only [Bool.and_eq_true,decide_eq_true_eq] at this
   obtain ⟨⟨⟨a,b⟩,c⟩,d⟩:=this
   exact ⟨u,e2,a,b,c,d⟩
  ·cases this
 ·have hge:fs.size≤i:=by
   rcases Nat.lt_or_ge i fs.size with h | h
   ·rw [Array.getElem?_eq_getElem h] at hi;cases hi
   ·exact h
  exact j9Z t i (by omega)
def ufZ (P:Program) (O:Orc) (t:Ty) (d:TypeDesc):Bool:=match t,d with
 | .int k,.int k'=>decide (k'=k)
 | .bool,.bool=>true
 | .str,.string=>true
 | .ref,.pointer e=>P.cellsOf e != 0
 | .wref,.pointer e=>P.cellsOf e != 0
 | .slice u,.slice e=>decide (O.ty e=some u)&&u.size != 0
 | .arr gw n u,.array m e=>decide (m=n)&&decide (O.ty e=some u)&&u.size != 0&&decide (1<n)&&decide (gw=0)
 | .sref u,.slice e=>decide (O.ty e=some u)&&u.size != 0
 | .mref a c,.map k e=>decide (O.ty k=some a)&&decide (O.ty e=some c)
 | .fnc,.func _ _ _=>true
 | .unit,.struct fs=>goZ O .unit fs
 | .expr,.struct fs=>goZ O .expr fs
 | .pair a b,.struct fs=>goZ O (.pair a b) fs&&(Ty.pair a b).chain&&decide (dpt (.pair a b)≤1000)
 | _,_=>false
theorem rwZ {t:Ty} {d:TypeDesc} (h:ufZ P O t d=true):cAZ P O t d:=by
 unfold ufZ at h
 split at h
 ·simp only [decide_eq_true_eq] at h;rw [h];rfl
 ·rfl
 ·rfl
 ·rename_i e;exact ⟨e,rfl,by simpa using h⟩
 ·rename_i e;exact ⟨e,rfl,by simpa using h⟩
 ·rename_i u e
  simp only [Bool.and_eq_true,decide_eq_true_eq,bne_iff_ne] at h
  exact ⟨e,rfl,h.1,h.2⟩
 ·rename_i gw n u m e
  simp only [Bool.and_eq_true,decide_eq_true_eq,bne_iff_ne,Bool.not_eq_true'] at h
  obtain ⟨⟨⟨⟨rfl,b⟩,c⟩,d⟩,g⟩:=h
  exact ⟨e,rfl,b,c,d,g⟩
 ·rename_i u e
  simp only [Bool.and_eq_true,decide_eq_true_eq,bne_iff_ne] at h
  exact ⟨e,rfl,h.1,h.2⟩
 ·rename_i a c k e
  simp only [Bool.and_eq_true,decide_eq_true_eq] at h
  exact ⟨k,e,rfl,h.1,h.2⟩
 ·exact ⟨_,_,_,rfl⟩
 ·rename_i fs;exact ⟨fs,rfl,flZ h,rfl,by decide⟩
 ·rename_i fs;exact ⟨fs,rfl,flZ h,rfl,by decide⟩
 ·rename_i a b fs
  simp only [Bool.and_eq_true,decide_eq_true_eq] at h
  exact ⟨fs,rfl,flZ h.1.1,h.1.2,h.2⟩
 ·cases h
def tyB (P:Program) (O:Orc) (T:TypeId) (t:Ty):Bool :=
 (t.fine&&t.hasZ)&&(match P.info? T with
  | some i=>decide (i.size=t.size)&&(match i.zero with | some z=>zB z (axZ t) | none=>false)&&decide (i.bytes≤1024)
  | none=>false)&&(match P.underlying T with
  | some d=>ufZ P O t d
  | none=>false)&&(!t.agg||(!P.eqGuardType P.depth T&&!P.stoodInHeld T))&&(!t.wr||wrT.contains T)&&(!decide (t=.int .u8)||byT.contains T)
theorem thZ {T:TypeId} {t:Ty} (h:tyB P O T t=true):TyOK P O T t:=by
 unfold tyB at h
 simp only [Bool.and_eq_true,Bool.or_eq_true,Bool.not_eq_true'] at h
 obtain ⟨⟨⟨⟨⟨h1,h2⟩,h3⟩,h4⟩,h5⟩,h6⟩:=h
 refine ⟨h1.1,h1.2,?_,?_,fun ha=>?_,fun ha=>?_,fun ha=>?_⟩
 ·split at h2
  ·rename_i i hi
   simp only [Bool.and_eq_true,decide_eq_true_eq] at h2
   refine ⟨i,hi,h2.1.1,?_,h2.2⟩
   have:=h2.1.2
   split at this
   ·rename_i z hz;rw [hz,uaZ this]
   ·cases this
  ·cases h2
 ·split at h3
  ·rename_i d hd;exact ⟨d,hd,rwZ h3⟩
  ·cases h3
 ·rcases h4 with h4 | h4
  ·rw [ha] at h4;cases h4
  ·exact h4
 ·rcases h5 with h5 | h5
  ·rw [ha] at h5;cases h5
  ·simpa using h5
 ·rcases h6 with h6 | h6
  ·simp [ha] at h6
  ·simpa using h6
def ueZ (P:Program) (O:Orc) (n:Nat):Bool:=(List.range n).all fun T=>match O.ty T with
 | some t=>tyB P O T t
 | none=>true
theorem oHZ {n:Nat} (hn:∀ T,n≤T→O.ty T=none) (h:ueZ P O n=true):OrcOK P O:=⟨fun T t ht=>by
 rcases Nat.lt_or_ge T n with hl | hl
 ·have:=List.all_eq_true.1 h T (List.mem_range.2 hl)
  rw [ht] at this
  exact thZ this
 ·rw [hn T hl] at ht;cases ht⟩
def fnB (P:Program) (O:Orc) (f:FuncId):Bool:=!O.fns f||match P.funcs[f]? with
 | some fn=>fn.name != "runtime.NumGoroutine"&&match fn.body with | some c=>bKZ O f c | none=>true
 | none=>true
def uqZ (P:Program) (O:Orc) (n:Nat):Bool:=(List.range n).all (fnB P O)
theorem o9Z {n:Nat} (hn:∀ f,n≤f→O.fns f=false) (h:uqZ P O n=true):∀ f,O.fns f=true→∀ fn c,P.funcs[f]?=some fn→fn.body=some c→bKZ O f c=true∧(fn.name == "runtime.NumGoroutine")=false:=by
 intro f hf fn c h1 h2
 rcases Nat.lt_or_ge f n with hl | hl
 ·have:=List.all_eq_true.1 h f (List.mem_range.2 hl)
  unfold fnB at this
  rw [hf,h1] at this
  simp only [h2,Bool.not_true,Bool.false_or,Bool.and_eq_true] at this
  refine ⟨this.2,?_⟩
  have:=this.1
  simpa [bne] using this
 ·rw [hn f hl] at hf;cases hf
end Go.Am
namespace Go.Am
variable {P:Program} {O:Orc} {w:World}
def R0 (w:World):Rl:=⟨w,fun b _=>b<w.heap.size,fun _=>none⟩
def pAZ (O:Orc) (w:World):Prop:=∀ g d,O.glob g=some d→d.t.noRef=true∧d.t.fine=true∧∃ us,At (R0 w) g 0 d.t.size us∧RV (R0 w) d.t d.x us
theorem nKZ (hP:ProgOK P O) {k:Nat} {f:FuncId} {args:List AV} {vs:Array Value} {own:List (List Nat)} {h':adZ} (hlen:args.length=vs.size) (hv:VRL (R0 w) O args vs.toList) (ho:∀ a∈args,a.own=[]) (hg:pAZ O w)
  (he:callF P O k f args []=some (.tv own .bool true,h')):Calls P f vs w fun e w'=>e=.returned (.bool true)∧Go.RowKit.Below w.heap.size w w':=by
 have hown0:∀ i,(args.getD i .any).own=[]:=by
  intro i
  rw [List.getD_eq_getElem?_getD]
  cases hi:args[i]? with
  | none=>rfl
  | some a=>exact ho a (List.mem_of_getElem? hi)
 have hown:∀ l x,ajZ w ⟨args,[]⟩ (aCZ vs) (fun _=>0) l≠some x:=by
  intro l x e
  cases l with
  | sl i p =>
   have:=hown0 i
   simp only [ajZ,St.get] at e
   cases hi:args.getD i .any with
   | tv own t y=>rw [hi] at e this;simp only [AV.own] at this;subst this;simp at e
   | _=>rw [hi] at e;simp at e
  | fd k p=>simp [ajZ,aeZ] at e
  | ob k=>simp [ajZ,aeZ] at e
 have hc:bfZ (R0 w) (alZ w (fun _ _=>False) ⟨args,[]⟩ (aCZ vs) fun _=>0):=fun b o hp v hv=>⟨hv,hp,fun l lo e=>absurd e (hown l _),fun lo hf=>hf.elim⟩
 have hrel:Rel O (fun _ _=>False) w ⟨args,[]⟩ (aCZ vs) fun _=>0:=by
  refine ⟨fun i=>?_,fun k o e=>by simp [aeZ] at e,fun l l' b lo lo' e=>absurd e (hown l _),fun i own t x e p hp=>?_,fun k o e=>by simp [aeZ] at e,fun l b lo lo' e=>absurd e (hown l _),fun b lo hf=>hf.elim,fun g d hd=>?_⟩
  ·exact VR.le' hc (fun k _ y hy=>by cases hy) (izZ _ _ hv i)
  ·have:=hown0 i
   have e':args.getD i .any=.tv own t x:=e
   rw [e'] at this
   simp only [AV.own] at this
   subst this;cases hp
  ·obtain ⟨h1,h2,us,h3,h4⟩:=hg g d hd
   exact ⟨h1,h2,us,h3.le hc,RV.le0 hc d.t d.x us h1 h2 h4⟩
 refine ((ivZ hP k f args [] _ he).2 _ w _ vs hlen hrel).mono ?_
 rintro e w' ⟨v,ι',rfl,hg⟩
 have hv:=hg.stp.rel.vr 0
 simp only [St.get,List.getD_cons_zero,VR] at hv
 refine ⟨by rw [hv.bool],hg.hist.os,hg.hist.tape,hg.hist.output,hg.hist.size,fun b hb=>hg.hist.block b hb fun lo ⟨l,hl⟩=>hown l _ hl⟩
def feZ (s:ByteArray):List Int:=s.data.toList.map fun c=>(c.toNat:Int)
end Go.Am
namespace Go.Am
inductive It where
 | br (b:Bool) | res (a:AV) (h:adZ) | lp (e:Ex) (s:St)
structure W (α:Type) where
 a:α
 obs:List Prop
def Holds:List Prop→Prop
 | []=>True
 | p::l=>p∧Holds l
theorem Holds.append:∀ (l m:List Prop),Holds (l++m)↔Holds l∧Holds m
 | [],m=>by simp [Holds]
 | p::l,m=>by simp [Holds,Holds.append l m,and_assoc]
def FitP:IntKind→Int→Prop
 | .i64,n=>-9223372036854775808≤n∧n≤9223372036854775807
 | .u8,n=>0≤n∧n≤255
 | .u64,n=>0≤n∧n≤18446744073709551615
 | .u32,n=>0≤n∧n≤4294967295
 | .i32,n=>-2147483648≤n∧n≤2147483647
 | _,_=>False
theorem FitP.fits {k:IntKind} {n:Int} (h:FitP k n):fits k n=true:=by
 unfold FitP at h
 unfold Am.fits
 split at h <;> simp_all
def pBZ (w:Bool) (k:IntKind) (n:Int):W AV:=if w then ⟨.tv [] (.int k) (k.wrap n),[]⟩ else ⟨.tv [] (.int k) n,[FitP k n]⟩
theorem fcZ {w:Bool} {k:IntKind} {n:Int} (h:Holds (pBZ w k n).obs):num w k n=some (pBZ w k n).a:=by
 unfold pBZ num at *
 cases w with
 | true=>rfl
 | false=>simp only [Bool.false_eq_true,if_false,Holds] at h ⊢;rw [if_pos h.1.fits]
def oiZ (w:Bool) (op:BinOp) (k:IntKind) (a b:Int):Option (W AV):=match op with
 | .add=>some (pBZ w k (a+b)) | .sub=>some (pBZ w k (a-b)) | .mul=>some (pBZ w k (a * b))
 | .quo=>some ⟨(pBZ w k (a.tdiv b)).a,(b≠0)::(pBZ w k (a.tdiv b)).obs⟩
 | .rem=>some ⟨.tv [] (.int k) (a.tmod b),[b≠0,¬ (k=.u8∧¬ (0≤a∧a<256∧0<b))]⟩
 | op=>(jQZ w op k a b).map fun r=>⟨r,[]⟩
theorem olZ {w:Bool} {op:BinOp} {k:IntKind} {a b:Int} {r:W AV} (e:oiZ w op k a b=some r) (h:Holds r.obs):jQZ w op k a b=some r.a:=by
 unfold oiZ at e
 split at e
 ·cases e;exact fcZ h
 ·cases e;exact fcZ h
 ·cases e;exact fcZ h
 ·cases e
  simp only [Holds] at h
  simp only [jQZ]
  rw [if_neg h.1];exact fcZ h.2
 ·cases e
  simp only [Holds] at h
  simp only [jQZ]
  rw [if_neg h.1,if_neg h.2.1]
 ·simp only [Option.map_eq_some_iff] at e
  obtain ⟨x,hx,rfl⟩:=e
  exact hx
def sOZ (w:Bool) (T:Option Ty) (op:BinOp) (x y:AV):Option (W AV):=match op,x,y with
 | .shl,.tv _ (.int k) a,.tv _ (.int _) b=>some ⟨.tv [] (.int k) (k.wrap (a * 2 ^ (min b.toNat k.bits))),[¬ b<0]⟩
 | .shr,.tv _ (.int k) a,.tv _ (.int _) b=>some ⟨.tv [] (.int k) (a.fdiv (2 ^ (min b.toNat k.bits))),[¬ b<0,¬ (k=.u8∧¬ (0≤a∧a<256))]⟩
 | op,.tv _ (.int k) a,.tv _ (.int k') b=>if k=k' then oiZ w op k a b else none
 | .add,.tv _ .str a,.tv _ .str b=>some ⟨.tv [] .str (a++b),[a.length+b.length≤awZ]⟩
 | op,x,y=>(qnZ w T op x y).map fun r=>⟨r,[]⟩
theorem qlZ {w:Bool} {T:Option Ty} {op:BinOp} {x y:AV} {r:W AV} (e:sOZ w T op x y=some r) (h:Holds r.obs):qnZ w T op x y=some r.a:=by
 unfold sOZ at e
 split at e
 ·cases e;simp only [Holds] at h;simp only [qnZ];rw [if_neg h.1]
 ·cases e;simp only [Holds] at h;simp only [qnZ];rw [if_neg h.1,if_neg h.2.1]
 ·rename_i op _ k a _ k' b h1 h2
  split at e
  ·rename_i hk
   subst hk
   have:=olZ e h
   cases op <;> first | (exact absurd rfl (h1 _ _ _ _ _ _ rfl rfl)) | (exact absurd rfl (h2 _ _ _ _ _ _ rfl rfl)) | (simp only [qnZ,if_true];exact this) | (simp [jQZ] at this)
  ·cases e
 ·cases e;simp only [Holds] at h;simp only [qnZ];rw [if_pos h.1]
 ·simp only [Option.map_eq_some_iff] at e
  obtain ⟨b,hb,rfl⟩:=e
  exact hb
def uhZ (w:Bool) (op:UnOp) (x:AV):Option (W AV):=match op,x with
 | .neg,.tv _ (.int k) a=>some (pBZ w k (0-a))
 | op,x=>(unV w op x).map fun r=>⟨r,[]⟩
theorem sEZ {w:Bool} {op:UnOp} {x:AV} {r:W AV} (e:uhZ w op x=some r) (h:Holds r.obs):unV w op x=some r.a:=by
 unfold uhZ at e
 split at e
 ·cases e;exact fcZ h
 ·simp only [Option.map_eq_some_iff] at e
  obtain ⟨b,hb,rfl⟩:=e
  exact hb
def kPZ (x i:AV):Option (W AV):=match x,hhZ i with
 | .tv _ .str l,some n=>some ⟨.tv [] (.int .u8) (l.getD n.toNat 0),[0≤n∧n<(l.length:Int)]⟩
 | .tv _ (.arr gw k t) l,some n=>some ⟨.tv [] t (l.getD n.toNat (zero t)),[0≤n∧n<(k:Int)]⟩
 | _,_=>none
theorem niZ {x i:AV} {r:W AV} (e:kPZ x i=some r) (h:Holds r.obs):hqZ x i=some r.a:=by
 unfold kPZ at e
 split at e
 ·rename_i hn;cases e;simp only [Holds] at h;simp only [hqZ,hn];rw [if_pos h.1]
 ·rename_i hn;cases e;simp only [Holds] at h;simp only [hqZ,hn];rw [if_pos h.1]
 ·cases e
def ikZ (T:Option Ty) (x i:AV):Option (W AV):=match T,x,hhZ i with
 | some (.slice t'),.tv _ (.slice t) l,some n=>if t=t' then some ⟨.sp t (l.getD n.toNat (zero t)),[0≤n∧n<(l.length:Int)]⟩ else none
 | some (.arr gw k _),.op q p,some n=>some ⟨.op q (p++[n.toNat]),[0≤n∧n<(k:Int)]⟩
 | some (.arr gw k _),.gp g p,some n=>some ⟨.gp g (p++[n.toNat]),[0≤n∧n<(k:Int)]⟩
 | T,.tv _ (.sref t) x,some n=>match (x:SR) with
  | some (k,N,lo,len)=>if ftZ T=some t then some ⟨.vp k N [lo+n.toNat],[0≤n∧n<(len:Int)]⟩ else none
  | none=>none
 | _,_,_=>none
theorem g8Z {T:Option Ty} {x i:AV} {r:W AV} (e:ikZ T x i=some r) (h:Holds r.obs):d8Z T x i=some r.a:=by
 unfold ikZ at e
 split at e
 ·rename_i hn
  split at e
  ·rename_i ht;cases e;simp only [Holds] at h;simp only [d8Z,hn];rw [if_pos ⟨ht,h.1⟩]
  ·cases e
 ·rename_i hn;cases e;simp only [Holds] at h;simp only [d8Z,hn];rw [if_pos h.1]
 ·rename_i hn;cases e;simp only [Holds] at h;simp only [d8Z,hn];rw [if_pos h.1]
 ·rename_i T _ _ _ own t x n hn
  rcases x with _ | ⟨k,N,lo,len⟩
  ·cases e
  ·simp only at e
   split at e
   ·rename_i hT
    cases e
    simp only [Holds] at h
    cases T with
    | none=>cases hT
    | some T =>
     cases T with
     | slice _=>simp only [d8Z,hn,iNZ];rw [if_pos ⟨hT,h.1⟩]
     | sref _=>simp only [d8Z,hn,iNZ];rw [if_pos ⟨hT,h.1⟩]
     | _=>cases hT
   ·cases e
 ·cases e
def ifZ (T:Option Ty) (own:List (List Nat)) (x:AV) (lo hi:Option AV):Option (W AV):=match x with
 | .tv _ .str l=>(bnd lo 0).bind fun a=>(bnd hi l.length).bind fun c=>if T=some .str then some ⟨.tv [] .str (cut l a.toNat c.toNat),[0≤a∧a≤c∧c≤(l.length:Int)]⟩ else none
 | .tv _ (.slice t) l=>(bnd lo 0).bind fun a=>(bnd hi l.length).bind fun c=>if T=some (.slice t) then some ⟨.tv own (.slice t) (cut l a.toNat c.toNat),[0≤a∧a≤c∧c≤(l.length:Int)]⟩ else none
 | .tv _ (.sref t) x=>match (x:SR) with
  | some (k,N,b,len)=>(bnd lo 0).bind fun a=>(bnd hi len).bind fun c=>if ftZ T=some t then some ⟨.tv [] (.sref t) (some (k,N,b+a.toNat,c.toNat-a.toNat)),[0≤a∧a≤c∧c≤(len:Int)]⟩ else none
  | none=>none
 | _=>none
theorem hNZ {T:Option Ty} {own:List (List Nat)} {x:AV} {lo hi:Option AV} {r:W AV} (e:ifZ T own x lo hi=some r) (h:Holds r.obs):dDZ T own x lo hi=some r.a:=by
 unfold ifZ at e
 split at e
 ·simp only [Option.bind_eq_some_iff] at e
  obtain ⟨a,ha,c,hc,e⟩:=e
  split at e
  ·rename_i hT;cases e;simp only [Holds] at h;simp only [dDZ,ha,hc,Option.bind_some];rw [if_pos ⟨hT,h.1⟩]
  ·cases e
 ·simp only [Option.bind_eq_some_iff] at e
  obtain ⟨a,ha,c,hc,e⟩:=e
  split at e
  ·rename_i hT;cases e;simp only [Holds] at h;simp only [dDZ,ha,hc,Option.bind_some];rw [if_pos ⟨hT,h.1⟩]
  ·cases e
 ·rename_i own0 t x
  rcases x with _ | ⟨k,N,b,len⟩
  ·cases e
  ·simp only [Option.bind_eq_some_iff] at e
   obtain ⟨a,ha,c,hc,e⟩:=e
   split at e
   ·rename_i hT;cases e;simp only [Holds] at h;simp only [dDZ,gLZ,ha,hc,Option.bind_some];rw [if_pos ⟨hT,h.1⟩]
   ·cases e
 ·cases e
def nIZ (w:Bool) (src dst:Option Ty) (x:AV):Option (W AV):=match src,dst,x with
 | some (.int _),some (.int k),.tv _ (.int _) n=>some (pBZ w k n)
 | src,dst,x=>(qdZ w src dst x).map fun r=>⟨r,[]⟩
theorem omZ {w:Bool} {src dst:Option Ty} {x:AV} {r:W AV} (e:nIZ w src dst x=some r) (h:Holds r.obs):qdZ w src dst x=some r.a:=by
 unfold nIZ at e
 split at e
 ·cases e;exact fcZ h
 ·simp only [Option.map_eq_some_iff] at e
  obtain ⟨b,hb,rfl⟩:=e
  exact hb
def srZ (T:Option Ty) (x:AV):Option (W AV):=(s3Z T x).map fun r=>⟨r,[]⟩
theorem qNZ {T:Option Ty} {x:AV} {r:W AV} (e:srZ T x=some r) (_:Holds r.obs):s3Z T x=some r.a:=by
 simp only [srZ,Option.map_eq_some_iff] at e
 obtain ⟨b,hb,rfl⟩:=e
 exact hb
def qrZ (T U:Option Ty) (x y:AV):Option (W AV):=match x,y with
 | .tv o (.slice t) l,.tv _ (.slice t') m=>if h:t'=t then if T=some (.slice t)∧U=some (.slice t)∧o=[[]] then some ⟨.tv [[]] (.slice t) (l++(h ▸ m:List (den t))),[l.length+m.length≤awZ]⟩ else none else none
 | .tv o (.slice (.int .u8)) l,.tv _ .str m=>if T=some (.slice (.int .u8))∧U=some .str∧o=[[]] then some ⟨.tv [[]] (.slice (.int .u8)) (l++m),[l.length+m.length≤awZ]⟩ else none
 | _,_=>none
theorem l6Z {T U:Option Ty} {x y:AV} {r:W AV} (e:qrZ T U x y=some r) (h:Holds r.obs):sfZ T U x y=some r.a:=by
 unfold qrZ at e
 split at e
 ·split at e
  ·rename_i ht
   subst ht
   split at e
   ·rename_i hc;cases e;simp only [Holds] at h;simp only [sfZ,dif_pos trivial];rw [if_pos ⟨hc.1,hc.2.1,hc.2.2,h.1⟩]
   ·cases e
  ·cases e
 ·split at e
  ·rename_i hc;cases e;simp only [Holds] at h;simp only [sfZ];rw [if_pos ⟨hc.1,hc.2.1,hc.2.2,h.1⟩]
  ·cases e
 ·cases e
end Go.Am
namespace Go.Am
variable {P:Program} {O:Orc} {call:aTZ} {f:FuncId} {rid i j:Nat} {o:Oper} {r:Res} {ops:Array Oper} {g:Nat→AV} {h:adZ}
def q8Z:(t:Ty)→den t→List Nat→Option (W Dat)
 | .pair a b,x,p=>match p with
  | []=>some ⟨⟨.pair a b,x⟩,[]⟩
  | i::p=>match i with
   | 0=>q8Z a x.1 p
   | f+1=>q8Z b x.2 (f::p)
 | .arr gw n t,x,p=>match p with
  | []=>some ⟨⟨.arr gw n t,x⟩,[]⟩
  | i::p=>(q8Z t (List.getD x i (zero t)) p).map fun r=>⟨r.a,(i<n)::r.obs⟩
 | t,x,p=>(prj t x p).map fun d=>⟨d,[]⟩
theorem ktZ:∀ (t:Ty) (x:den t) (p:List Nat) (r:W Dat),q8Z t x p=some r→Holds r.obs→prj t x p=some r.a:=by
 intro t x p r e h
 fun_induction q8Z t x p generalizing r with
 | case1=>cases e;rfl
 | case2 a b x p ih=>simp only [prj];exact ih r e h
 | case3 a b x f p ih=>simp only [prj];exact ih r e h
 | case4=>cases e;rfl
 | case5 gw n t x i p ih =>
  simp only [Option.map_eq_some_iff] at e
  obtain ⟨q,hq,rfl⟩:=e
  simp only [Holds] at h
  simp only [prj]
  rw [if_pos h.1];exact ih q hq h.2
 | case6 =>
  simp only [Option.map_eq_some_iff] at e
  obtain ⟨q,hq,rfl⟩:=e
  exact hq
def r2Z:(t:Ty)→den t→List Nat→Dat→Option (W (den t))
 | .pair a b,x,p,d=>match p with
  | []=>(upd (.pair a b) x [] d).map fun y=>⟨y,[]⟩
  | i::p=>match i with
   | 0=>(r2Z a x.1 p d).map fun y=>⟨(y.a,x.2),y.obs⟩
   | f+1=>(r2Z b x.2 (f::p) d).map fun y=>⟨(x.1,y.a),y.obs⟩
 | .arr gw n t,x,p,d=>match p with
  | []=>(upd (.arr gw n t) x [] d).map fun y=>⟨y,[]⟩
  | i::p=>(r2Z t (List.getD x i (zero t)) p d).map fun y=>⟨List.set x i y.a,(i<n)::y.obs⟩
 | t,x,p,d=>(upd t x p d).map fun y=>⟨y,[]⟩
theorem o1Z:∀ (t:Ty) (x:den t) (p:List Nat) (d:Dat) (r:W (den t)),r2Z t x p d=some r→Holds r.obs→upd t x p d=some r.a:=by
 intro t x p d r e h
 fun_induction r2Z t x p d with
 | case1 =>
  simp only [Option.map_eq_some_iff] at e
  obtain ⟨y,hy,rfl⟩:=e
  exact hy
 | case2 a b x p d ih =>
  simp only [Option.map_eq_some_iff] at e
  obtain ⟨y,hy,rfl⟩:=e
  simp only [upd,ih y hy h,Option.map_some]
 | case3 a b x f p d ih =>
  simp only [Option.map_eq_some_iff] at e
  obtain ⟨y,hy,rfl⟩:=e
  simp only [upd,ih y hy h,Option.map_some]
 | case4 =>
  simp only [Option.map_eq_some_iff] at e
  obtain ⟨y,hy,rfl⟩:=e
  exact hy
 | case5 gw n t x i p d ih =>
  simp only [Option.map_eq_some_iff] at e
  obtain ⟨y,hy,rfl⟩:=e
  simp only [Holds] at h
  simp only [upd]
  rw [if_pos h.1];simp only [ih y hy h.2,Option.map_some]
 | case6 =>
  simp only [Option.map_eq_some_iff] at e
  obtain ⟨y,hy,rfl⟩:=e
  exact hy
def pcZ (o:Orc) (h:adZ) (a:AV):Option (W Dat):=match a with
 | .sp t x=>some ⟨⟨t,x⟩,[]⟩
 | .op k p=>(aeZ h k).bind fun b=>q8Z b.d.t b.d.x p
 | .gp g p=>(o.glob g).bind fun d=>q8Z d.t d.x p
 | .vp k N p=>(aeZ h k).bind fun b=>match b.d.t.len? with
  | some n=>(q8Z b.d.t b.d.x p).map fun r=>⟨r.a,(n=N)::r.obs⟩
  | none=>none
 | _=>none
theorem jtZ {a:AV} {r:W Dat} (e:pcZ O h a=some r) (hh:Holds r.obs):dBZ O h a=some r.a:=by
 unfold pcZ at e
 split at e
 ·cases e;rfl
 ·simp only [Option.bind_eq_some_iff] at e
  obtain ⟨b,hb,e⟩:=e
  simp only [dBZ,hb,Option.bind_some];exact ktZ _ _ _ _ e hh
 ·simp only [Option.bind_eq_some_iff] at e
  obtain ⟨b,hb,e⟩:=e
  simp only [dBZ,hb,Option.bind_some];exact ktZ _ _ _ _ e hh
 ·simp only [Option.bind_eq_some_iff] at e
  obtain ⟨b,hb,e⟩:=e
  split at e
  ·rename_i n hn
   simp only [Option.map_eq_some_iff] at e
   obtain ⟨q,hq,rfl⟩:=e
   simp only [Holds] at hh
   simp only [dBZ,hb,Option.bind_some]
   rw [if_pos (by rw [hn,hh.1])];exact ktZ _ _ _ _ hq hh.2
  ·cases e
 ·cases e
def kUZ (h:adZ) (a:AV) (own:List (List Nat)) (d:Dat):Option (W adZ):=match a with
 | .op k p=>(aeZ h k).bind fun b=>(r2Z b.d.t b.d.x p d).map fun y=>⟨aOZ h k ⟨⟨b.d.t,y.a⟩,own.map (p++·)++b.own.filter fun q=>!bOZ p q⟩,y.obs⟩
 | .vp k N p=>(aeZ h k).bind fun b=>match b.d.t.len? with
  | some n=>(r2Z b.d.t b.d.x p d).map fun y=>⟨aOZ h k ⟨⟨b.d.t,y.a⟩,own.map (p++·)++b.own.filter fun q=>!bOZ p q⟩,(n=N)::y.obs⟩
  | none=>none
 | _=>none
theorem mRZ {a:AV} {own:List (List Nat)} {d:Dat} {r:W adZ} (e:kUZ h a own d=some r) (hh:Holds r.obs):ezZ h a own d=some r.a:=by
 unfold kUZ at e
 split at e
 ·simp only [Option.bind_eq_some_iff,Option.map_eq_some_iff] at e
  obtain ⟨b,hb,y,hy,rfl⟩:=e
  simp only [ezZ,hb,Option.bind_some,o1Z _ _ _ _ _ hy hh,Option.map_some]
 ·simp only [Option.bind_eq_some_iff] at e
  obtain ⟨b,hb,e⟩:=e
  split at e
  ·rename_i n hn
   simp only [Option.map_eq_some_iff] at e
   obtain ⟨y,hy,rfl⟩:=e
   simp only [Holds] at hh
   simp only [ezZ,hb,Option.bind_some]
   rw [if_pos (by rw [hn,hh.1])]
   simp only [o1Z _ _ _ _ _ hy hh.2,Option.map_some]
  ·cases e
 ·cases e
end Go.Am
namespace Go.Am
variable {P:Program} {O:Orc} {call:aTZ} {draw:Bool} {f:FuncId} {rid i j:Nat} {o:Oper} {r:Res} {ops:Array Oper} {g:Nat→AV} {h:adZ}
abbrev Out:=Res×List Prop×List It
def nxZ (w:Option (W AV)) (tk:Option Nat) (h:adZ) (sc:List It):Option Out:=w.map fun w=>(⟨w.a,tk,h⟩,w.obs,sc)
theorem cUZ {w:Option (W AV)} {tk:Option Nat} {sc:List It} {q:Out} (e:nxZ w tk h sc=some q):∃ v,w=some v∧q=(⟨v.a,tk,h⟩,v.obs,sc):=by
 unfold nxZ at e
 simp only [Option.map_eq_some_iff] at e
 obtain ⟨v,h1,h2⟩:=e
 exact ⟨v,h1,h2.symm⟩
def i9Z (args0:List AV) (h:adZ):Option (List AV×adZ) :=
 let args:=args0.map AV.drop
 let ks:=bmZ h 50 (bjZ args) []
 (fdZ h (aVZ ks) ks 0).map fun h0=>(epZ (aVZ ks) args,h0)
theorem kJZ {dst:Option Nat} {q:FuncId} {args:List AV} {given:AV×adZ} {p:List AV×adZ} (h1:bZZ O (fun _ _ _=>some given) draw dst q args h=some r) (h2:i9Z args h=some p) (h3:call q p.1 p.2=some given):bZZ O call draw dst q args h=some r:=by
 unfold i9Z at h2
 simp only [Option.map_eq_some_iff] at h2
 obtain ⟨h0,h4,rfl⟩:=h2
 simp only at h3
 unfold bZZ at h1 ⊢
 simp only [a0Z] at h1 ⊢
 split at h1
 ·cases h1
 ·rename_i hc
  rw [if_neg hc]
  simp only [h4,Option.bind_some] at h1 ⊢
  split at h1
  ·cases h1
  ·rename_i hc2
   rw [if_neg hc2]
   simp only [h3,Option.bind_some] at h1 ⊢
   exact h1
theorem ghZ {tk:Bool} {X:List Key} {dst:Option Nat} {q:FuncId} {args:List AV} {given:AV×adZ} {p:List AV×adZ} (h1:cwZ O (fun _ _ _=>some given) draw tk X dst q args h=some r) (h2:i9Z args h=some p) (h3:call q p.1 p.2=some given):cwZ O call draw tk X dst q args h=some r:=by
 unfold cwZ at h1 ⊢
 split at h1
 ·cases h1
 ·rename_i hn
  rw [if_neg hn]
  simp only [Option.bind_eq_some_iff] at h1 ⊢
  obtain ⟨r',h4,h5⟩:=h1
  exact ⟨r',kJZ h4 h2 h3,h5⟩
def qhZ (x:Bool) (a b:AV):Option AV:=match a,b with
 | .tv o t p,.tv o' t' q=>if h:t'=t then if o=o' then some (.tv o t (bif x then p else h ▸ q)) else none else none
 | _,_=>none
theorem lBZ {x:Bool} {a b c:AV} (e:qhZ x a b=some c):(bif x then a else b)=c:=by
 unfold qhZ at e
 split at e
 ·split at e
  ·rename_i ht
   subst ht
   split at e
   ·rename_i ho
    subst ho
    cases e
    cases x <;> rfl
   ·cases e
  ·cases e
 ·cases e
def sqZ:Ty→List Nat→Option (W Ty)
 | .pair a b,p=>match p with
  | []=>some ⟨.pair a b,[]⟩
  | i::p=>match i with
   | 0=>sqZ a p
   | f+1=>sqZ b (f::p)
 | .arr gw n t,p=>match p with
  | []=>some ⟨.arr gw n t,[]⟩
  | i::p=>(sqZ t p).map fun r=>⟨r.a,(i<n)::r.obs⟩
 | t,p=>(pTy t p).map fun u=>⟨u,[]⟩
theorem pfZ:∀ (t:Ty) (p:List Nat) (r:W Ty),sqZ t p=some r→Holds r.obs→pTy t p=some r.a:=by
 intro t p r e hh
 fun_induction sqZ t p generalizing r with
 | case1=>cases e;rfl
 | case2 a b p ih=>simp only [pTy];exact ih r e hh
 | case3 a b f p ih=>simp only [pTy];exact ih r e hh
 | case4=>cases e;rfl
 | case5 gw n t i p ih =>
  simp only [Option.map_eq_some_iff] at e
  obtain ⟨q,hq,rfl⟩:=e
  simp only [Holds] at hh
  simp only [pTy]
  rw [if_pos hh.1];exact ih q hq hh.2
 | case6 =>
  simp only [Option.map_eq_some_iff] at e
  obtain ⟨q,hq,rfl⟩:=e
  exact hq
def lwZ (O:Orc) (h:adZ) (T:TypeId) (a:AV):Option (List Prop):=match a with
 | .op k p=>(aeZ h k).bind fun o=>(sqZ o.d.t p).bind fun r=>if O.ty T=some r.a then some r.obs else none
 | .vp k N p=>(aeZ h k).bind fun o=>match o.d.t.len? with
  | some n=>(sqZ o.d.t p).bind fun r=>if O.ty T=some r.a then some ((n=N)::r.obs) else none
  | none=>none
 | a=>if cbZ O h T a then some [] else none
theorem kcZ {T:TypeId} {a:AV} {l:List Prop} (e:lwZ O h T a=some l) (hh:Holds l):cbZ O h T a=true:=by
 unfold lwZ at e
 split at e
 ·simp only [Option.bind_eq_some_iff] at e
  obtain ⟨o,ho,r,hr,e⟩:=e
  split at e
  ·rename_i hT
   cases e
   simp only [cbZ,ho,pfZ _ _ _ hr hh,hT]
   simp
  ·cases e
 ·simp only [Option.bind_eq_some_iff] at e
  obtain ⟨o,ho,e⟩:=e
  split at e
  ·rename_i n hn
   simp only [Option.bind_eq_some_iff] at e
   obtain ⟨r,hr,e⟩:=e
   split at e
   ·rename_i hT
    cases e
    simp only [Holds] at hh
    simp only [cbZ,ho,pfZ _ _ _ hr hh.2,hT,hn,hh.1]
    simp
   ·cases e
  ·cases e
 ·split at e
  ·rename_i hc;exact hc
  ·cases e
def cuZ (O:Orc) (call:aTZ) (draw:Bool) (f:FuncId) (rid i:Nat) (o:Oper) (g:Nat→AV) (h:adZ) (sc:List It):Option Out :=
  let tk:=O.take f rid i
  let w:=O.wrap f rid i
  match o.op with
  | .pick c a b=>match val g none c with
    | .tv _ .bool x=>match qhZ x (val g (O.ty o.type) a) (val g (O.ty o.type) b) with
      | some v=>some (⟨v,none,h⟩,[],sc)
      | none=>match sc with
        | .br y::sc=>some (⟨bif y then val g (O.ty o.type) a else val g (O.ty o.type) b,none,h⟩,[x=y],sc)
        | _=>none
    | _=>none
  | .load T x => (pcZ O h (val g none x)).bind fun d => if O.ty T = some d.a.t then
      (if tk then match val g none x with
        | .op k p=>(aeZ h k).map fun b=>(⟨d.a.av (below p b.own),none,aOZ h k ⟨b.d,iWZ p b.own⟩⟩,d.obs,sc)
        | _=>none
      else some (⟨d.a.av [],none,h⟩,d.obs,sc)) else none
  | .store T a x=>let q:=aQZ tk g (O.ty T) x
    q.1.dat.bind fun d=>if O.ty T=some d.t then (kUZ h (val g none a) q.1.own d).map fun h'=>(⟨.no,q.2,h'.a⟩,h'.obs,sc) else none
  | .binOp op T x y U=>nxZ (sOZ w (O.ty T) op (val g (O.ty T) x) (val g (O.ty U) y)) none h sc
  | .unOp op T x=>nxZ (uhZ w op (val g (O.ty T) x)) none h sc
  | .convert T U x=>nxZ (nIZ w (O.ty T) (O.ty U) (val g (O.ty T) x)) none h sc
  | .slice T x lo hi none=>match O.ty T with
    | some (.arr gw _ _)=>(afZ O call draw f rid i o g h).map fun r=>(r,[],sc)
    | u=>let q:=aQZ tk g u x
      nxZ (ifZ u (if tk&&(hi.isNone&&uKZ u) then q.1.own else []) q.1 (lo.map (val g none)) (hi.map (val g none))) q.2 h sc
  | .slice T x lo (some hv) (some m) => if hhZ (val g none hv) = hhZ (val g none m) && (hhZ (val g none m)).isSome then (match O.ty T with
        | some (.slice t)=>if jqZ (val g (some (.slice t)) x) then none else nxZ (ifZ (some (.slice t)) (reZ t) (val g (some (.slice t)) x) (lo.map (val g none)) (some (val g none hv))) none h sc
        | _=>none) else none
  | .indexAddr T x k=>match O.ty T with
    | some (.arr gw n t)=>(lwZ O h T (val g none x)).bind fun l=>(nxZ (ikZ (some (.arr gw n t)) (val g none x) (val g none k)) none h sc).map fun q=>(q.1,l++q.2.1,q.2.2)
    | u=>nxZ (ikZ u (val g u x) (val g none k)) none h sc
  | .fieldAddr T x k=>if ((O.ty T).bind fun t=>bEZ t k).isSome then (lwZ O h T (val g none x)).bind fun l=>(l8Z (val g none x) k).map fun a=>(⟨a,none,h⟩,l,sc) else none
  | .index T x k=>match val g (O.ty T) x with
    | .tv _ t y=>if O.ty T=some t then nxZ (kPZ (.tv [] t y) (val g none k)) none h sc else none
    | _=>none
  | .call c=>match c.callee with
    | .builtin .len=>match c.args.toList with
      | [x]=>nxZ (srZ (c.argTypes[0]?.bind O.ty) (val g (c.argTypes[0]?.bind O.ty) x)) none h sc
      | _=>none
    | .builtin .append=>match c.args.toList with
      | [x,y]=>let q:=aQZ tk g (c.argTypes[0]?.bind O.ty) x
        nxZ (qrZ (c.argTypes[0]?.bind O.ty) (c.argTypes[1]?.bind O.ty) q.1 (val g (c.argTypes[1]?.bind O.ty) y)) q.2 h sc
      | _=>none
    | .value x=>match val g none x with
      | .fn q first caps=>match sc with
        | .res a h1::sc=>(cwZ O (fun _ _ _=>some (a,h1)) draw tk (O.far f rid i) o.dst q (first++o3Z O g c++caps) h).bind fun r=>(i9Z (first++o3Z O g c++caps) h).map fun p=>(r,[call q p.1 p.2=some (a,h1)],sc)
        | _=>none
      | _=>none
    | _=>(afZ O call draw f rid i o g h).map fun r=>(r,[],sc)
  | _=>(afZ O call draw f rid i o g h).map fun r=>(r,[],sc)
theorem ovZ {sc:List It} {q:Out} (e:cuZ O call draw f rid i o g h sc=some q) (hh:Holds q.2.1):afZ O call draw f rid i o g h=some q.1:=by
 have dflt:(afZ O call draw f rid i o g h).map (fun r=>(r,([]:List Prop),sc))=some q→afZ O call draw f rid i o g h=some q.1:=fun e=>by
  simp only [Option.map_eq_some_iff] at e
  obtain ⟨r,h1,rfl⟩:=e
  exact h1
 cases hop:o.op with
 | pick c a b =>
  simp only [cuZ,hop] at e
  split at e
  ·rename_i own x hv
   split at e
   ·rename_i v h1
    cases e
    simp only [afZ,hop,hv,lBZ h1]
   ·split at e
    ·cases e
     simp only [Holds] at hh
     simp only [afZ,hop,hv,hh.1]
    ·cases e
  ·cases e
 | load T x =>
  simp only [cuZ,hop,Option.bind_eq_some_iff] at e
  obtain ⟨d,hd,e⟩:=e
  split at e
  ·rename_i hT
   split at e
   ·rename_i htk
    split at e
    ·rename_i k p hv
     simp only [Option.map_eq_some_iff] at e
     obtain ⟨b,hb,rfl⟩:=e
     have hl:=jtZ hd hh
     rw [hv] at hl
     simp only [afZ,hop,gVZ,hv,hl,Option.bind_some,if_pos hT,htk,if_true,hb]
    ·cases e
   ·rename_i htk
    cases e
    simp only [afZ,hop,gVZ,jtZ hd hh,Option.bind_some,if_pos hT,if_neg htk]
  ·cases e
 | store T a x =>
  simp only [cuZ,hop,Option.bind_eq_some_iff] at e
  obtain ⟨d,hd,e⟩:=e
  split at e
  ·rename_i hT
   simp only [Option.map_eq_some_iff] at e
   obtain ⟨h',h1,rfl⟩:=e
   simp only [afZ,hop,hd,Option.bind_some,if_pos hT,mRZ h1 hh,Option.map_some]
  ·cases e
 | binOp op T x y U =>
  simp only [cuZ,hop] at e
  obtain ⟨v,h1,rfl⟩:=cUZ e
  simp only [afZ,hop,qlZ h1 hh,Option.map_some]
 | unOp op T x =>
  simp only [cuZ,hop] at e
  obtain ⟨v,h1,rfl⟩:=cUZ e
  simp only [afZ,hop,sEZ h1 hh,Option.map_some]
 | convert T U x =>
  simp only [cuZ,hop] at e
  obtain ⟨v,h1,rfl⟩:=cUZ e
  simp only [afZ,hop,omZ h1 hh,Option.map_some]
 | slice T x lo hi mx =>
  cases mx with
  | none =>
   simp only [cuZ,hop] at e
   split at e
   ·exact dflt e
   ·rename_i u hu
    obtain ⟨v,h1,rfl⟩:=cUZ e
    have h2:=hNZ h1 hh
    simp only [afZ,hop,exZ]
    cases hT:O.ty T with
    | none=>rw [hT] at h2;simp only [h2,Option.map_some]
    | some t=>cases t with
     | arr gw n t=>exact absurd hT (hu gw n t)
     | _=>rw [hT] at h2;simp only [h2,Option.map_some]
  | some m =>
   cases hi with
   | none=>simp only [cuZ,hop] at e;exact dflt e
   | some hv =>
    simp only [cuZ,hop] at e
    split at e
    ·rename_i hc
     split at e
     ·rename_i t hT
      split at e
      ·cases e
      ·rename_i hns
       obtain ⟨v,h1,rfl⟩:=cUZ e
       simp only [afZ,hop,exZ,if_pos hc,hT,if_neg hns,hNZ h1 hh,Option.map_some]
     ·cases e
    ·cases e
 | indexAddr T x k =>
  simp only [cuZ,hop] at e
  split at e
  ·rename_i n t hT
   simp only [Option.bind_eq_some_iff,Option.map_eq_some_iff] at e
   obtain ⟨l,hl,q',hq',rfl⟩:=e
   obtain ⟨v,h1,rfl⟩:=cUZ hq'
   obtain ⟨ha,hb⟩:=(Holds.append _ _).1 hh
   simp only [afZ,hop,hT,if_pos (kcZ hl ha),g8Z h1 hb,Option.map_some]
  ·rename_i u hu
   obtain ⟨v,h1,rfl⟩:=cUZ e
   simp only [afZ,hop]
   simp only [g8Z h1 hh,Option.map_some]
 | fieldAddr T x k =>
  simp only [cuZ,hop] at e
  split at e
  ·rename_i hf
   simp only [Option.bind_eq_some_iff,Option.map_eq_some_iff] at e
   obtain ⟨l,hl,b,hb,rfl⟩:=e
   simp only [afZ,hop,kcZ hl hh,hf,Bool.and_self,if_true,hb,Option.map_some]
  ·cases e
 | index T x k =>
  simp only [cuZ,hop] at e
  split at e
  ·rename_i own t y hv
   split at e
   ·rename_i hT
    obtain ⟨v,h1,rfl⟩:=cUZ e
    simp only [afZ,hop,hv,if_pos hT,niZ h1 hh,Option.map_some]
   ·cases e
  ·cases e
 | call c =>
  simp only [cuZ,hop] at e
  cases hc:c.callee with
  | builtin b =>
   rw [hc] at e
   cases b with
   | len =>
    simp only at e
    split at e
    ·rename_i x hx
     obtain ⟨v,h1,rfl⟩:=cUZ e
     simp only [afZ,hop,coZ,hc,hx,qNZ h1 hh,Option.map_some]
    ·cases e
   | append =>
    simp only at e
    split at e
    ·rename_i x y hx
     obtain ⟨v,h1,rfl⟩:=cUZ e
     simp only [afZ,hop,coZ,hc,hx,l6Z h1 hh,Option.map_some]
    ·cases e
   | _=>exact dflt e
  | value x =>
   rw [hc] at e
   simp only at e
   split at e
   ·rename_i p first caps hv
    split at e
    ·rename_i a h1 sc'
     simp only [Option.bind_eq_some_iff,Option.map_eq_some_iff] at e
     obtain ⟨r,hr,pp,hp,rfl⟩:=e
     simp only [Holds] at hh
     simp only [afZ,hop,coZ,hc,hv]
     exact ghZ hr hp hh.1
    ·cases e
   ·cases e
  | invoke x n=>rw [hc] at e;exact dflt e
 | _=>simp only [cuZ,hop] at e;exact dflt e
def pwZ (h:adZ) (t:Ty) (x:SR):Option (W (List (den t))):=match x with
 | none=>some ⟨[],[]⟩
 | some (k,N,lo,len)=>match aeZ h k with
  | some ⟨⟨.arr (γ+1) n u,l⟩,_⟩=>if e:u=t then some ⟨cut (e ▸ l:List (den t)) lo (lo+len),[N=γ∧lo+len≤n]⟩ else none
  | _=>none
theorem n3Z {t:Ty} {x:SR} {r:W (List (den t))} (e:pwZ h t x=some r) (hh:Holds r.obs):qpZ h t x=some r.a:=by
 unfold pwZ at e
 unfold qpZ
 split at e
 ·cases e;rfl
 ·rename_i k N lo len
  simp only
  split at e
  ·rename_i γ n u l own hl
   rw [hl]
   simp only
   split at e
   ·rename_i hu
    subst hu
    cases e
    simp only [Holds] at hh
    rw [dif_pos rfl,if_pos hh.1]
   ·cases e
  ·cases e
def tWZ (h:adZ) (a:AV):Option (W AV):=match a with
 | .tv _ (.sref t) x=>(pwZ h t x).map fun r=>⟨.tv [] (.slice t) r.a,r.obs⟩
 | a=>some ⟨a,[]⟩
theorem oIZ {a:AV} {r:W AV} (e:tWZ h a=some r) (hh:Holds r.obs):rdA h a=some r.a:=by
 unfold tWZ at e
 unfold rdA
 split at e
 ·simp only [Option.map_eq_some_iff] at e
  obtain ⟨v,h1,rfl⟩:=e
  simp only
  rw [n3Z h1 hh];rfl
 ·rename_i hn
  cases e
  split
  ·exact absurd rfl (hn _ _ _)
  ·rfl
def kXZ (h:adZ) (t:Ty) (x:SR) (m:List (den t)):Option (W Res):=match x with
 | some (k,N,lo,len)=>match aeZ h k with
  | some ⟨⟨.arr (γ+1) n u,l⟩,_⟩=>if e:u=t then (if lo=0 then
    some ⟨⟨.tv [] (.sref t) (some (k,Nat.succ γ,0,len+m.length)),none,aOZ h k ⟨⟨.arr (Nat.succ (Nat.succ γ)) (len+m.length) t,(e ▸ l:List (den t)).take len++m⟩,[]⟩⟩,[N=γ∧len≤n∧0<m.length∧n+m.length≤awZ]⟩ else none) else none
  | _=>none
 | none=>none
theorem m7Z {t:Ty} {x:SR} {m:List (den t)} {r:W Res} (e:kXZ h t x m=some r) (hh:Holds r.obs):hBZ h t x m=some r.a:=by
 unfold kXZ at e
 unfold hBZ
 split at e
 ·rename_i k N lo len
  simp only
  split at e
  ·rename_i γ n u l own hl
   rw [hl]
   simp only
   split at e
   ·rename_i hu
    subst hu
    split at e
    ·rename_i hlo
     cases e
     simp only [Holds] at hh
     obtain ⟨⟨c1,c2,c3,c4⟩,_⟩:=hh
     rw [dif_pos rfl,if_pos ⟨c1,hlo,c2,c3,c4⟩]
    ·cases e
   ·cases e
  ·cases e
 ·cases e
def sjZ (T U:Option Ty) (h:adZ) (x y:AV):Option (W Res):=match x with
 | .tv _ (.sref t) q=>match tWZ h y with
  | some ⟨.tv _ (.slice t') m,ob⟩=>if e:t'=t then (if ftZ T=some t∧ftZ U=some t then (kXZ h t q (e ▸ m:List (den t))).map fun r=>⟨r.a,ob++r.obs⟩ else none) else none
  | _=>none
 | _=>none
theorem qkZ {T U:Option Ty} {x y:AV} {r:W Res} (e:sjZ T U h x y=some r) (hh:Holds r.obs):sYZ T U h x y=some r.a:=by
 unfold sjZ at e
 unfold sYZ
 split at e
 ·rename_i own t q
  simp only
  split at e
  ·rename_i own' t' m ob hy
   split at e
   ·rename_i ht
    subst ht
    split at e
    ·rename_i hT
     simp only [Option.map_eq_some_iff] at e
     obtain ⟨v,h1,rfl⟩:=e
     obtain ⟨ha,hb⟩:=(Holds.append _ _).1 hh
     rw [oIZ hy ha]
     simp only
     rw [dif_pos trivial,if_pos hT]
     exact m7Z h1 hb
    ·cases e
   ·cases e
  ·cases e
 ·cases e
def snZ (T U:Option Ty) (tk:Bool) (g:Nat→AV) (h:adZ) (x:Operand) (ay:AV):Option (W Res):=match tWZ h ay with
 | some ⟨.tv own' (.slice t) m,ob⟩=>let q:=aQZ tk g T x;(qrZ T U q.1 (.tv own' (.slice t) m)).map fun b=>⟨⟨b.a,q.2,h⟩,ob++b.obs⟩
 | _=>none
theorem qwZ {T U:Option Ty} {tk:Bool} {x:Operand} {ay:AV} {r:W Res} (e:snZ T U tk g h x ay=some r) (hh:Holds r.obs):r6Z T U tk g h x ay=some r.a:=by
 unfold snZ at e
 unfold r6Z
 split at e
 ·rename_i own' t m ob hy
  simp only [Option.map_eq_some_iff] at e
  obtain ⟨b,h1,rfl⟩:=e
  obtain ⟨ha,hb⟩:=(Holds.append _ _).1 hh
  rw [oIZ hy ha]
  simp only [l6Z h1 hb,Option.map_some]
 ·cases e
def kTZ (T:Option Ty) (op:BinOp) (x:AV) (y:Operand) (h:adZ):Option (W Res):=match y with
 | .const (.slice none 0 0)=>match x with
  | .tv _ (.sref t) x=>match (x:SR) with
   | some (_,_,_,len)=>if ftZ T=some t then (match op with
    | .eql=>some ⟨⟨.tv [] .bool false,none,h⟩,[0<len]⟩
    | .neq=>some ⟨⟨.tv [] .bool true,none,h⟩,[0<len]⟩
    | _=>none) else none
   | none=>none
  | _=>none
 | _=>none
theorem nrZ {T:Option Ty} {op:BinOp} {x:AV} {y:Operand} {r:W Res} (e:kTZ T op x y h=some r) (hh:Holds r.obs):hYZ T op x y h=some r.a:=by
 unfold kTZ at e
 unfold hYZ
 split at e
 ·simp only
  split at e
  ·rename_i own t x
   simp only
   split at e
   ·rename_i k N lo len
    simp only
    split at e
    ·rename_i hT
     split at e
     ·cases e;simp only [Holds] at hh;rw [if_pos ⟨hT,hh.1⟩]
     ·cases e;simp only [Holds] at hh;rw [if_pos ⟨hT,hh.1⟩]
     ·cases e
    ·cases e
   ·cases e
  ·cases e
 ·cases e
def kSZ (T:Option Ty) (h:adZ) (x:AV):Option (W Res):=match x with
 | .tv _ (.sref t) q=>match (q:SR) with
  | some (k,N,lo,len)=>match aeZ h k with
   | some ⟨⟨.arr (γ+1) n u,l⟩,[]⟩=>if e:u=t then (if ftZ T=some t then some ⟨⟨.tup [],none,aOZ h k ⟨⟨.arr (Nat.succ γ) n t,lFZ (e ▸ l:List (den t)) lo len (zero t)⟩,[]⟩⟩,[N=γ∧lo+len≤n]⟩ else none) else none
   | _=>none
  | none=>none
 | _=>none
theorem mNZ {T:Option Ty} {x:AV} {r:W Res} (e:kSZ T h x=some r) (hh:Holds r.obs):hFZ T h x=some r.a:=by
 unfold kSZ at e
 unfold hFZ
 split at e
 ·simp only
  split at e
  ·simp only
   split at e
   ·rename_i γ n u l hl
    rw [hl]
    simp only
    split at e
    ·rename_i hu
     subst hu
     split at e
     ·rename_i hT
      cases e
      simp only [Holds] at hh
      rw [dif_pos rfl,if_pos ⟨hT,hh.1.1,hh.1.2⟩]
     ·cases e
    ·cases e
   ·cases e
  ·cases e
 ·cases e
def mqZ (O:Orc) (tk:Bool) (o:Oper) (g:Nat→AV) (h:adZ) (sc:List It):Option Out:=match o.op with
 | .makeSlice T l c=>match ftZ (O.ty T),hhZ (val g none l),hhZ (val g none c) with
  | some t,some n,some n'=>(kwZ h o.dst t n.toNat).map fun r=>(r,[n=n'∧0≤n∧n≤65536],sc)
  | _,_,_=>none
 | .move x | .assign x=>(hpZ (ftZ (O.ty o.type)) h o.dst x).map fun r=>(r,[],sc)
 | .binOp op T x y _=>(kTZ (O.ty T) op (val g (O.ty T) x) y h).map fun r=>(r.a,r.obs,sc)
 | .makeMap T none=>(psZ h o.dst (O.ty T)).map fun r=>(r,[],sc)
 | .lookup T x k ok=>(m4Z (O.ty T) h (val g (O.ty T) x) (val g ((O.ty T).bind eOZ) k) ok).map fun a=>(⟨a,none,h⟩,[],sc)
 | .mapUpdate T m k x | .insert T m k x=>(mkZ (O.ty T) h (val g (O.ty T) m) (val g ((O.ty T).bind eOZ) k) (val g ((O.ty T).bind lKZ) x)).map fun h'=>(⟨.no,none,h'⟩,[],sc)
 | .alloc T=>((O.ty T).bind fun t=>g6Z h o.dst t).map fun r=>(r,[],sc)
 | .build T ps=>((O.ty T).bind fun t=>if !t.agg then none else (build t (ps.toList.map fun (i,x)=>(i,val g (pTy t [i]) x)) (b4Z t) (zero t)).bind (hJZ h o.dst t)).map fun r=>(r,[],sc)
 | .box T x=>(if rgZ (O.ty T)=true then (val g (O.ty T) x).dat.bind fun q=>if O.ty T=some q.t∧q.t.noRef=true then some (⟨.sp q.t q.x,none,h⟩:Res) else none else s0Z (O.ty T) tk g h o.dst x).map fun r=>(r,[],sc)
 | .buildSlice T n ps=>(match ftZ (O.ty T) with
  | some t=>if n * t.size≤10000 then (dxZ t (ps.toList.map fun (i,x)=>(i,val g (some t) x)) (List.replicate n (zero t))).map fun l=>(⟨.xs t l,none,h⟩:Res) else none
  | _=>none).map fun r=>(r,[],sc)
 | .store T a x=>if oCZ x then (eIZ (O.ty T) h (val g none a)).map fun r=>(r,[],sc) else none
 | .call c=>match c.callee with
  | .builtin .clear=>match c.args.toList with
   | [x]=>(kSZ (c.argTypes[0]?.bind O.ty) h (val g none x)).map fun r=>(r.a,r.obs,sc)
   | _=>none
  | .builtin .append=>match c.args.toList with
   | [x,y]=>if jqZ (val g (c.argTypes[0]?.bind O.ty) x) then (sjZ (c.argTypes[0]?.bind O.ty) (c.argTypes[1]?.bind O.ty) h (val g (c.argTypes[0]?.bind O.ty) x) (val g (c.argTypes[1]?.bind O.ty) y)).map fun r=>(r.a,r.obs,sc)
    else (snZ (c.argTypes[0]?.bind O.ty) (c.argTypes[1]?.bind O.ty) tk g h x (val g (c.argTypes[1]?.bind O.ty) y)).map fun r=>(r.a,r.obs,sc)
   | _=>none
  | _=>none
 | _=>none
theorem jAZ {tk:Bool} {sc:List It} {q:Out} (e:mqZ O tk o g h sc=some q) (hh:Holds q.2.1):bxZ O tk o g h=some q.1:=by
 unfold mqZ at e
 unfold bxZ
 cases hop:o.op with
 | makeSlice T l c =>
  rw [hop] at e
  simp only at e ⊢
  split at e
  ·rename_i t n n' h1 h2 h3
   simp only [Option.map_eq_some_iff] at e
   obtain ⟨r,hr,rfl⟩:=e
   simp only [Holds] at hh
   simp only [h1,h2,h3]
   rw [if_pos hh.1];exact hr
  ·cases e
 | move x =>
  rw [hop] at e
  simp only [Option.map_eq_some_iff] at e
  obtain ⟨r,hr,rfl⟩:=e
  exact hr
 | build T ps =>
  rw [hop] at e
  simp only [Option.map_eq_some_iff] at e
  obtain ⟨r,hr,rfl⟩:=e
  exact hr
 | buildSlice T n ps =>
  rw [hop] at e
  simp only [Option.map_eq_some_iff] at e
  obtain ⟨r,hr,rfl⟩:=e
  exact hr
 | box T x =>
  rw [hop] at e
  simp only [Option.map_eq_some_iff] at e
  obtain ⟨r,hr,rfl⟩:=e
  exact hr
 | assign x =>
  rw [hop] at e
  simp only [Option.map_eq_some_iff] at e
  obtain ⟨r,hr,rfl⟩:=e
  exact hr
 | binOp op T x y U =>
  rw [hop] at e
  simp only [Option.map_eq_some_iff] at e
  obtain ⟨r,hr,rfl⟩:=e
  exact nrZ hr hh
 | makeMap T r=>cases r with
  | none =>
   rw [hop] at e
   simp only [Option.map_eq_some_iff] at e
   obtain ⟨r,hr,rfl⟩:=e
   exact hr
  | some _=>rw [hop] at e;cases e
 | lookup T x k ok =>
  rw [hop] at e
  simp only [Option.map_eq_some_iff] at e
  obtain ⟨r,hr,rfl⟩:=e
  simp only [hr,Option.map_some]
 | mapUpdate T m k x =>
  rw [hop] at e
  simp only [Option.map_eq_some_iff] at e
  obtain ⟨r,hr,rfl⟩:=e
  simp only [hr,Option.map_some]
 | insert T m k x =>
  rw [hop] at e
  simp only [Option.map_eq_some_iff] at e
  obtain ⟨r,hr,rfl⟩:=e
  simp only [hr,Option.map_some]
 | alloc T =>
  rw [hop] at e
  simp only [Option.map_eq_some_iff] at e
  obtain ⟨r,hr,rfl⟩:=e
  exact hr
 | store T x y =>
  rw [hop] at e
  simp only at e ⊢
  split at e
  ·rename_i hs
   simp only [Option.map_eq_some_iff] at e
   obtain ⟨r,hr,rfl⟩:=e
   rw [if_pos hs];exact hr
  ·cases e
 | call c =>
  rw [hop] at e
  simp only at e ⊢
  cases hc:c.callee with
  | builtin b =>
   rw [hc] at e
   cases b with
   | clear =>
    simp only at e ⊢
    split at e
    ·rename_i x hx
     simp only [hx]
     simp only [Option.map_eq_some_iff] at e
     obtain ⟨r,hr,rfl⟩:=e
     exact mNZ hr hh
    ·cases e
   | append =>
    simp only at e ⊢
    split at e
    ·rename_i x y hx
     simp only [hx]
     split at e
     ·rename_i hs
      simp only [Option.map_eq_some_iff] at e
      obtain ⟨r,hr,rfl⟩:=e
      rw [if_pos hs]
      exact qkZ hr hh
     ·rename_i hs
      simp only [Option.map_eq_some_iff] at e
      obtain ⟨r,hr,rfl⟩:=e
      rw [if_neg hs]
      exact qwZ hr hh
    ·cases e
   | _=>cases e
  | _=>rw [hc] at e;cases e
 | _=>rw [hop] at e;cases e
def quZ (O:Orc) (call:aTZ) (draw:Bool) (f:FuncId) (rid i:Nat) (o:Oper) (g:Nat→AV) (h:adZ) (sc:List It):Option Out :=
 if O.mrk f rid i then mqZ O (O.take f rid i) o g h sc else cuZ O call draw f rid i o g h sc
theorem pJZ {sc:List It} {q:Out} (e:quZ O call draw f rid i o g h sc=some q) (hh:Holds q.2.1):dfZ O call draw f rid i o g h=some q.1:=by
 unfold quZ at e
 unfold dfZ
 split at e
 ·rename_i hm;rw [if_pos hm];exact jAZ e hh
 ·rename_i hm;rw [if_neg hm];exact ovZ e hh
end Go.Am
namespace Go.Am
variable {P:Program} {O:Orc} {call:aTZ} {draw:Bool} {f:FuncId} {rid i j:Nat} {o:Oper} {r:Res} {ops:Array Oper} {g:Nat→AV} {h:adZ} {s:St}
end Go.Am
namespace Go.Am
variable {P:Program} {O:Orc}
structure Need (p:Prop):Prop where
 out:p
def oWZ:List Prop→Prop→Prop
 | [],k=>k
 | p::l,k=>Need p∧oWZ l k
theorem fGZ:∀ {l:List Prop} {k:Prop},oWZ l k→Holds l∧k
 | [],_,h=>⟨trivial,h⟩
 | _::_,_,h=>⟨⟨h.1.out,(fGZ h.2).1⟩,(fGZ h.2).2⟩
def Ev (P:Program) (O:Orc) (g:FuncId) (args:List AV) (h:adZ) (a:AV) (h':adZ):Prop:=∃ K,∀ k,K≤k→callF P O k g args h=some (a,h')
def EvF (P:Program) (O:Orc) (f:FuncId) (args:List AV) (h:adZ) (Q:AV→adZ→Prop):Prop:=∃ a h',Ev P O f args h a h'∧Q a h'
abbrev Kn:=List (Nat×Bool)
def rOZ:Kn→Nat→Option Bool
 | [],_=>none
 | (a,b)::l,t=>if a=t then some b else rOZ l t
def ttZ (kn:Kn):Operand→Option Bool
 | .const (.bool b)=>some b
 | .tmp t=>rOZ kn t
 | _=>none
def vaZ (kn:Kn):Op→Option Bool
 | .move x | .assign x=>ttZ kn x
 | .pick c a b=>(ttZ kn c).bind fun y=>ttZ kn (bif y then a else b)
 | .unOp .not _ x=>(ttZ kn x).map fun y=>bif y then false else true
 | _=>none
def pZZ:Kn→Nat→Kn
 | [],_=>[]
 | (a,b)::l,t=>if a=t then pZZ l t else (a,b)::pZZ l t
def rHZ (kn:Kn) (d:Option Nat) (v:Option Bool):Kn:=match d with
 | none=>kn
 | some d=>match v with
  | some b=>(d,b)::pZZ kn d
  | none=>pZZ kn d
section
variable {R:Type}
def kjZ (a:AV) (k:AV→R):R:=match a with
 | .tv own t x=>aMZ (aMZ bLZ) own fun own=>k (.tv own t x)
 | .sp t x=>k (.sp t x)
 | .op q p=>k (.op q p)
 | .vp q N p=>k (.vp q N p)
 | .fn f a b=>k (.fn f a b)
 | .tup l=>k (.tup l)
 | .gp g p=>k (.gp g p)
 | .xs t x=>k (.xs t x)
 | .no=>k .no
 | .any=>k .any
def h7Z:List AV→(List AV→R)→R
 | [],k=>k []
 | a::l,k=>kjZ a fun a=>h7Z l fun l=>k (a::l)
def ibZ (o:Key×Ob) (k:Key×Ob→R):R:=match o with
 | (q,⟨⟨t,x⟩,own⟩)=>bkZ q fun q=>aMZ (aMZ bLZ) own fun own=>k (q,⟨⟨t,x⟩,own⟩)
def dzZ (s:St) (k:St→R):R:=match s with
 | ⟨e,h⟩=>h7Z e fun e=>aMZ ibZ h fun h=>k ⟨e,h⟩
end
theorem gFZ {R:Type} (a:AV) (k:AV→R):kjZ a k=k a:=by
 cases a <;> simp only [kjZ]
 exact a1Z (fun a k=>a1Z dXZ a k) _ _
theorem hHZ {R:Type}:∀ (l:List AV) (k:List AV→R),h7Z l k=k l
 | [],_=>rfl
 | a::l,k=>by simp only [h7Z,gFZ,hHZ l]
theorem g7Z {R:Type} (o:Key×Ob) (k:Key×Ob→R):ibZ o k=k o:=by
 obtain ⟨q,⟨⟨t,x⟩,own⟩⟩:=o
 simp only [ibZ,b0Z]
 exact a1Z (fun a k=>a1Z dXZ a k) _ _
theorem cDZ {R:Type} (s:St) (k:St→R):dzZ s k=k s:=by
 obtain ⟨e,h⟩:=s
 simp only [dzZ,hHZ]
 exact a1Z (fun a k=>g7Z a k) _ _
def tVZ (s:St) (t:Nat) (own:List (List Nat)) (y:Bool):St:=⟨s.env.set t (.tv own .bool y),s.heap⟩
theorem jlZ {s:St} {t:Nat} {own:List (List Nat)} {y:Bool} (h:s.get t=.tv own .bool y):tVZ s t own y=s:=by
 obtain ⟨e,hp⟩:=s
 simp only [St.get,List.getD_eq_getElem?_getD] at h
 cases he:e[t]? with
 | none=>rw [he] at h;cases h
 | some a =>
  rw [he] at h
  simp only [Option.getD_some] at h
  subst h
  obtain ⟨hl,hg⟩:=List.getElem?_eq_some_iff.1 he
  simp only [tVZ,← hg,List.set_getElem_self]
def brS (kn:Kn) (s:St) (x:Operand) (K:Kn→St→Bool→Prop):Prop:=match x with
 | .tmp t=>match s.get t with
  | .tv own .bool b=>match rOZ kn t with
   | some _=>match b with
    | true=>K kn s true
    | false=>K kn s false
   | none=>(b=true→K ((t,true)::kn) (tVZ s t own true) true)∧(b=false→K ((t,false)::kn) (tVZ s t own false) false)
  | _=>False
 | .const (.bool b)=>K kn s b
 | _=>False
theorem ppZ {kn:Kn} {s:St} {x:Operand} {K:Kn→St→Bool→Prop} (h:brS kn s x K):∃ kn' b,val s.get none x=.tv [] .bool b∧K kn' s b:=by
 unfold brS at h
 split at h
 ·rename_i t
  split at h
  ·rename_i own b hg
   split at h
   ·cases b with
    | true=>exact ⟨kn,true,by simp only [val,hg,AV.drop],h⟩
    | false=>exact ⟨kn,false,by simp only [val,hg,AV.drop],h⟩
   ·cases b with
    | true=>exact ⟨_,true,by simp only [val,hg,AV.drop],by have:=h.1 rfl;rwa [jlZ hg] at this⟩
    | false=>exact ⟨_,false,by simp only [val,hg,AV.drop],by have:=h.2 rfl;rwa [jlZ hg] at this⟩
  ·exact h.elim
 ·exact ⟨kn,_,rfl,h⟩
 ·exact h.elim
def exD:(t:Ty)→den t→(den t→Prop)→Prop
 | .pair a b,x,k=>exD a x.1 fun p=>exD b x.2 fun q=>k (p,q)
 | .unit,_,k=>k ()
 | .ref,x,k=>k x
 | .wref,x,k=>k x
 | .int _,_,k=>∃ y:Int,k y
 | .bool,_,k=>∃ y:Bool,k y
 | .str,_,k=>∃ y:List Int,k y
 | .expr,_,k=>∃ y:XT,k y
 | .slice t,_,k=>∃ y:List (den t),k y
 | .arr _ _ t,_,k=>∃ y:List (den t),k y
 | .mref _ _,x,k=>k x
 | .fnc,x,k=>k x
 | .sref _,x,k=>match (x:Option (Key×Nat×Nat×Nat)) with
  | none=>k (none:Option (Key×Nat×Nat×Nat))
  | some (q,_,lo,_)=>∃ N len:Nat,k (some (q,N,lo,len):Option (Key×Nat×Nat×Nat))
 | .mp a b,x,k=>match b,x with
  | .fnc,x=>k x
  | b,_=>∃ y:List (den a×den b),k y
theorem i0Z:∀ {t:Ty} {x:den t} {k:den t→Prop},exD t x k→∃ y,k y
 | .pair a b,x,k,h=>by
  obtain ⟨p,h⟩:=i0Z (t:=a) h
  obtain ⟨q,h⟩:=i0Z (t:=b) h
  exact ⟨_,h⟩
 | .unit,_,_,h=>⟨_,h⟩
 | .ref,_,_,h=>⟨_,h⟩
 | .wref,_,_,h=>⟨_,h⟩
 | .int _,_,_,h=>h
 | .bool,_,_,h=>h
 | .str,_,_,h=>h
 | .expr,_,_,h=>h
 | .slice _,_,_,h=>h
 | .arr _ _ _,_,_,h=>h
 | .mref _ _,_,_,h=>⟨_,h⟩
 | .fnc,_,_,h=>⟨_,h⟩
 | .sref _,none,_,h=>⟨_,h⟩
 | .sref _,some (q,_,lo,_),_,h=>by
  obtain ⟨N,len,h⟩:=h
  exact ⟨_,h⟩
 | .mp a b,x,k,h=>by
  unfold exD at h
  split at h
  ·exact ⟨_,h⟩
  ·exact h
mutual
def exA:AV→(AV→Prop)→Prop
  | .tv own t x,k=>exD t x fun y=>k (.tv own t y)
  | .tup l,k=>sDZ l fun l=>k (.tup l)
  | .fn f a b,k=>sDZ a fun a=>sDZ b fun b=>k (.fn f a b)
  | .sp t x,k=>exD t x fun y=>k (.sp t y)
  | a,k=>k a
def sDZ:List AV→(List AV→Prop)→Prop
  | [],k=>k []
  | a::l,k=>exA a fun a=>sDZ l fun l=>k (a::l)
end
mutual
theorem nRZ:∀ {a:AV} {k:AV→Prop},exA a k→∃ b,k b
  | .tv own t x,k,h=>by simp only [exA] at h;obtain ⟨y,h⟩:=i0Z h;exact ⟨_,h⟩
  | .tup l,k,h=>by simp only [exA] at h;obtain ⟨y,h⟩:=iBZ h;exact ⟨_,h⟩
  | .fn f a b,k,h=>by
    simp only [exA] at h;obtain ⟨y,h⟩:=iBZ h;obtain ⟨z,h⟩:=iBZ h;exact ⟨_,h⟩
  | .sp t x,k,h=>by simp only [exA] at h;obtain ⟨y,h⟩:=i0Z h;exact ⟨_,h⟩
  | .op ..,k,h=>by simp only [exA] at h;exact ⟨_,h⟩
  | .vp ..,k,h=>by simp only [exA] at h;exact ⟨_,h⟩
  | .gp ..,k,h=>by simp only [exA] at h;exact ⟨_,h⟩
  | .xs ..,k,h=>by simp only [exA] at h;exact ⟨_,h⟩
  | .no,k,h=>by simp only [exA] at h;exact ⟨_,h⟩
  | .any,k,h=>by simp only [exA] at h;exact ⟨_,h⟩
theorem iBZ:∀ {l:List AV} {k:List AV→Prop},sDZ l k→∃ b,k b
  | [],k,h=>by simp only [sDZ] at h;exact ⟨_,h⟩
  | a::l,k,h=>by simp only [sDZ] at h;obtain ⟨y,h⟩:=nRZ h;obtain ⟨z,h⟩:=iBZ h;exact ⟨_,h⟩
end
def exO:(t:Ty)→den t→(Dat→Prop)→Prop
 | .arr (_+1) _ u,_,k=>∃ γ:Nat,∃ y:List (den u),k ⟨.arr (Nat.succ γ) (List.length y) u,y⟩
 | t,x,k=>exD t x fun y=>k ⟨t,y⟩
theorem tIZ {t:Ty} {x:den t} {k:Dat→Prop} (h:exO t x k):∃ d,k d:=by
 unfold exO at h
 split at h
 ·obtain ⟨γ,y,h⟩:=h;exact ⟨_,h⟩
 ·obtain ⟨y,h⟩:=i0Z h;exact ⟨_,h⟩
def exH:adZ→(adZ→Prop)→Prop
 | [],k=>k []
 | (q,⟨⟨t,x⟩,own⟩)::r,k=>exO t x fun d=>exH r fun r=>k ((q,⟨d,own⟩)::r)
theorem oPZ:∀ {l:adZ} {k:adZ→Prop},exH l k→∃ b,k b
 | [],k,h=>⟨_,h⟩
 | (q,⟨⟨t,x⟩,own⟩)::r,k,h=>by
  obtain ⟨y,h⟩:=tIZ (t:=t) h;obtain ⟨z,h⟩:=oPZ h;exact ⟨_,h⟩
abbrev Alt:=AV×adZ
def tvZ:List Alt→(AV→adZ→Prop)→Prop
 | [],_=>False
 | [q],k=>exA q.1 fun a=>exH q.2 fun h=>k a h
 | q::r,k=>(exA q.1 fun a=>exH q.2 fun h=>k a h)∨tvZ r k
theorem paZ:∀ {l:List Alt} {k:AV→adZ→Prop},tvZ l k→∃ a h,k a h
 | [],_,h=>h.elim
 | [q],k,h=>by
  simp only [tvZ] at h
  obtain ⟨a,h⟩:=nRZ h;obtain ⟨b,h⟩:=oPZ h;exact ⟨a,b,h⟩
 | q::q'::r,k,h=>by
  simp only [tvZ] at h
  rcases h with h | h
  ·obtain ⟨a,h⟩:=nRZ h;obtain ⟨b,h⟩:=oPZ h;exact ⟨a,b,h⟩
  ·exact paZ h
structure Sig where
 alts:FuncId→List Alt
 fz:FuncId→List Key
 lit:FuncId→Bool:=fun _=>false
def pxZ:aTZ:=fun _ _ _=>none
def tBZ (op:BinOp) (same:Bool):Option Bool:=match op with
 | .eql=>some same
 | .neq=>some (!same)
 | _=>none
def vIZ (lt:Bool) (O:Orc) (g:Nat→AV):Op→Option Bool
 | .binOp op T x y _=>bif lt then (match val g (O.ty T) x,val g (O.ty T) y with
  | .op _ _,.tv _ .ref none=>tBZ op false
  | .tv _ .ref none,.op _ _=>tBZ op false
  | .tv _ .ref none,.tv _ .ref none=>tBZ op true
  | .fn _ _ _,.tv _ .fnc none=>tBZ op false
  | .tv _ .fnc none,.tv _ .fnc none=>tBZ op true
  | _,_=>none) else none
 | _=>none
def nyZ (lt:Bool) (O:Orc) (f:FuncId) (rid i:Nat) (o:Oper) (kn:Kn) (s:St) (r:Res) (K:Kn→St→Foot→Prop):Prop :=
 kjZ r.a fun a=>K (rHZ kn o.dst (match vaZ kn o.op with
  | some b=>some b
  | none=>vIZ lt O s.get o.op)) (s.app o.dst ⟨a,r.tk,r.h⟩) (fUZ O f rid i o s.get)
theorem dQZ {lt:Bool} {f:FuncId} {rid i:Nat} {o:Oper} {kn:Kn} {s:St} {r:Res} {K:Kn→St→Foot→Prop} (h:nyZ lt O f rid i o kn s r K):∃ kn',K kn' (s.app o.dst r) (fUZ O f rid i o s.get):=by
 unfold nyZ at h;rw [gFZ] at h;exact ⟨_,h⟩
section
variable {R:Type}
def c1Z:(t:Ty)→den t→(den t→R)→R
 | .pair a b,x,k=>c1Z a x.1 fun p=>c1Z b x.2 fun q=>k (p,q)
 | .ref,x,k=>match (x:Option Key) with
  | none=>k (none:Option Key)
  | some q=>bkZ q fun q=>k (some q:Option Key)
 | .wref,x,k=>match (x:Option Key) with
  | none=>k (none:Option Key)
  | some q=>bkZ q fun q=>k (some q:Option Key)
 | .mref _ _,x,k=>match (x:Option Key) with
  | none=>k (none:Option Key)
  | some q=>bkZ q fun q=>k (some q:Option Key)
 | .sref _,x,k=>match (x:Option (Key×Nat×Nat×Nat)) with
  | none=>k (none:Option (Key×Nat×Nat×Nat))
  | some (q,a)=>bkZ q fun q=>k (some (q,a):Option (Key×Nat×Nat×Nat))
 | _,x,k=>k x
def iYZ (o:Key×Ob) (k:Key×Ob→R):R:=match o with
 | (q,⟨⟨t,x⟩,own⟩)=>bkZ q fun q=>c1Z t x fun x=>aMZ (aMZ bLZ) own fun own=>k (q,⟨⟨t,x⟩,own⟩)
end
theorem giZ {R:Type}:∀ (t:Ty) (x:den t) (k:den t→R),c1Z t x k=k x
 | .pair a b,x,k=>by simp only [c1Z,giZ a,giZ b]
 | .ref,x,k=>by
  revert k;revert x
  show ∀ (x:Option Key) (k:Option Key→R),c1Z (.ref) x k=k x
  intro x k
  cases x with
  | none=>rfl
  | some q=>simp only [c1Z];exact b0Z _ _
 | .wref,x,k=>by
  revert k;revert x
  show ∀ (x:Option Key) (k:Option Key→R),c1Z (.wref) x k=k x
  intro x k
  cases x with
  | none=>rfl
  | some q=>simp only [c1Z];exact b0Z _ _
 | .mref a b,x,k=>by
  revert k;revert x
  show ∀ (x:Option Key) (k:Option Key→R),c1Z (.mref a b) x k=k x
  intro x k
  cases x with
  | none=>rfl
  | some q=>simp only [c1Z];exact b0Z _ _
 | .sref t,x,k=>by
  revert k;revert x
  show ∀ (x:Option (Key×Nat×Nat×Nat)) (k:Option (Key×Nat×Nat×Nat)→R),c1Z (.sref t) x k=k x
  intro x k
  cases x with
  | none=>rfl
  | some q=>obtain ⟨q,a⟩:=q;simp only [c1Z];exact b0Z _ _
 | .int _,x,k=>rfl
 | .bool,x,k=>rfl
 | .str,x,k=>rfl
 | .unit,x,k=>rfl
 | .expr,x,k=>rfl
 | .fnc,x,k=>rfl
 | .slice _,x,k=>rfl
 | .arr _ _ _,x,k=>rfl
 | .mp _ _,x,k=>rfl
theorem mXZ {R:Type} (o:Key×Ob) (k:Key×Ob→R):iYZ o k=k o:=by
 obtain ⟨q,⟨⟨t,x⟩,own⟩⟩:=o
 simp only [iYZ,b0Z,giZ]
 exact a1Z (fun a k=>a1Z dXZ a k) _ _
theorem nqZ {R:Type} (h:adZ) (k:adZ→R):aMZ iYZ h k=k h:=a1Z (fun o k=>mXZ o k) h k
def peZ (h:adZ):adZ→adZ
 | []=>[]
 | (k,o)::r=>bif k.1 == 1000000 then h else (k,o)::peZ h r
def uvZ (h:adZ):adZ→Bool
 | []=>true
 | (k,o)::r=>(bif o.d.t.wr&&k.1 == 0 then (match aeZ h k with
  | some o'=>decide (o'.d.t=o.d.t)
  | none=>true) else true)&&uvZ h r
def rUZ (h:adZ):List Alt→List Alt
 | []=>[]
 | q::r=>bif uvZ h q.2 then q::rUZ h r else rUZ h r
def tEZ (P:Program) (O:Orc) (sg:Sig) (draw tk:Bool) (X:List Key) (dst:Option Nat) (q:FuncId) (args:List AV) (h:adZ) (K:Res→Prop):Prop:=match i9Z args h with
 | some p=>aMZ iYZ p.2 fun p2=>tvZ (rUZ p2 (sg.alts q)) fun a h1=>Need (Ev P O q p.1 p2 a (peZ p2 h1))∧(bif roK X&&!tk then (match bZZ O (fun _ _ _=>some (a,peZ p2 h1)) draw dst q args h with
  | some r=>Need (r.h=h)∧K r
  | none=>False) else match cwZ O (fun _ _ _=>some (a,peZ p2 h1)) draw tk X dst q args h with
  | some r=>K r
  | none=>False)
 | none=>False
inductive LF where
 | i (l:List (Int×Option Nat)) (k:Int)
 | s (l:List (List Int×Option Nat)) (k:List Int)
def rEZ (O:Orc) (o:Oper) (g:Nat→AV) (h:adZ):Option LF:=match o.op with
 | .lookup T x k false=>match O.ty T with
  | some (.mref (.int kd) .fnc)=>(asT (.mref (.int kd) .fnc) (val g (O.ty T) x)).bind fun r=>(fCZ h (.int kd) .fnc r).bind fun l=>(asT (.int kd) (val g ((O.ty T).bind eOZ) k)).map fun k=>.i l k
  | some (.mref .str .fnc)=>(asT (.mref .str .fnc) (val g (O.ty T) x)).bind fun r=>(fCZ h .str .fnc r).bind fun l=>(asT .str (val g ((O.ty T).bind eOZ) k)).map fun k=>.s l k
  | _=>none
 | _=>none
def qZZ {α:Type} (l:List (α×Option Nat)) (k:α) (K:Option Nat→Prop):Prop:=match l with
 | []=>K none
 | p::r=>(k=p.1→K p.2)∧(k≠p.1→qZZ r k K)
theorem h8Z {α:Type} [DecidableEq α] {k:α} {K:Option Nat→Prop}:∀ {l:List (α×Option Nat)},qZZ l k K→K (Pr.mget l k none)
 | [],h=>h
 | (a,b)::l,h=>by
  simp only [Pr.mget]
  by_cases e:k=a
  ·rw [if_pos e];exact h.1 e
  ·rw [if_neg e];exact h8Z (h.2 e)
def LF.run (x:LF) (K:AV→Prop):Prop:=match x with
 | .i l k=>qZZ l k fun v=>K (j7Z .fnc v)
 | .s l k=>qZZ l k fun v=>K (j7Z .fnc v)
theorem qYZ {O:Orc} {tk:Bool} {o:Oper} {g:Nat→AV} {h:adZ} {x:LF} {K:AV→Prop} (e:rEZ O o g h=some x) (hx:x.run K):∃ a,bxZ O tk o g h=some ⟨a,none,h⟩∧K a:=by
 unfold rEZ at e
 split at e
 ·rename_i T x0 k0 hop
  split at e
  ·rename_i kd hT
   simp only [Option.bind_eq_some_iff,Option.map_eq_some_iff] at e
   obtain ⟨r,h1,l,h2,k,h3,rfl⟩:=e
   refine ⟨_,?_,h8Z (α:=Int) hx⟩
   simp only [hT,Option.bind_some] at h1 h3
   simp only [bxZ,hop,m4Z,hT,h1,h2,h3,Option.bind_some,hgZ,Option.map_some]
   rfl
  ·rename_i hT
   simp only [Option.bind_eq_some_iff,Option.map_eq_some_iff] at e
   obtain ⟨r,h1,l,h2,k,h3,rfl⟩:=e
   refine ⟨_,?_,h8Z (α:=List Int) hx⟩
   simp only [hT,Option.bind_some] at h1 h3
   simp only [bxZ,hop,m4Z,hT,h1,h2,h3,Option.bind_some,hgZ,Option.map_some]
   rfl
  ·cases e
 ·cases e
def qyZ (P:Program) (O:Orc) (sg:Sig) (draw:Bool) (f:FuncId) (rid i:Nat) (o:Oper) (kn:Kn) (s:St) (K:Kn→St→Foot→Prop):Prop:=if O.mrk f rid i then (match rEZ O o s.get s.heap with
 | some x=>x.run fun a=>nyZ (sg.lit f) O f rid i o kn s ⟨a,none,s.heap⟩ K
 | none=>match mqZ O (O.take f rid i) o s.get s.heap [] with
  | some q=>oWZ q.2.1 (nyZ (sg.lit f) O f rid i o kn s q.1 K)
  | none=>False) else match o.op with
 | .pick c a b=>match val s.get none c with
  | .tv _ .bool x=>match ttZ kn c with
   | some _=>match x with
    | true=>nyZ (sg.lit f) O f rid i o kn s ⟨val s.get (O.ty o.type) a,none,s.heap⟩ K
    | false=>nyZ (sg.lit f) O f rid i o kn s ⟨val s.get (O.ty o.type) b,none,s.heap⟩ K
   | none=>match qhZ x (val s.get (O.ty o.type) a) (val s.get (O.ty o.type) b) with
    | some v=>nyZ (sg.lit f) O f rid i o kn s ⟨v,none,s.heap⟩ K
    | none=>brS kn s c fun kn s y=>nyZ (sg.lit f) O f rid i o kn s ⟨bif y then val s.get (O.ty o.type) a else val s.get (O.ty o.type) b,none,s.heap⟩ K
  | _=>False
 | .call ⟨.value x,as,tys⟩=>match val s.get none x with
  | .fn q first caps=>tEZ P O sg draw (O.take f rid i) (O.far f rid i) o.dst q (first++o3Z O s.get ⟨.value x,as,tys⟩++caps) s.heap fun r=>nyZ (sg.lit f) O f rid i o kn s r K
  | _=>False
 | _=>match quZ O pxZ draw f rid i o s.get s.heap [] with
  | some q=>oWZ q.2.1 (nyZ (sg.lit f) O f rid i o kn s q.1 K)
  | none=>False
end Go.Am
namespace Go.Am
variable {P:Program} {O:Orc} {sg:Sig} {draw:Bool} {f:FuncId} {rid i:Nat} {o:Oper} {kn:Kn} {s:St} {ops:Array Oper}
theorem lfZ {c1 c2:aTZ} {g:Nat→AV} {h:adZ} (hn:∀ x as tys,o.op≠.call ⟨.value x,as,tys⟩):afZ O c1 draw f rid i o g h=afZ O c2 draw f rid i o g h:=by
 unfold afZ
 cases hop:o.op with
 | call c =>
  obtain ⟨callee,as,tys⟩:=c
  cases callee with
  | value x=>exact absurd hop (hn _ _ _)
  | builtin b=>cases b <;> rfl
  | invoke r m=>rfl
 | makeFunc fn first caps=>cases fn <;> rfl
 | slice T x lo hi mx=>cases mx <;> rfl
 | _=>rfl
theorem hcZ {c1 c2:aTZ} {g:Nat→AV} {h:adZ} (hn:∀ x as tys,o.op≠.call ⟨.value x,as,tys⟩):dfZ O c1 draw f rid i o g h=dfZ O c2 draw f rid i o g h:=by
 unfold dfZ
 rw [lfZ (c1:=c1) (c2:=c2) hn]
def ExE (P:Program) (O:Orc) (draw:Bool) (f:FuncId) (rid i:Nat) (o:Oper) (s:St) (r:Res):Prop:=∃ K,∀ k,K≤k→dfZ O (callF P O k) draw f rid i o s.get s.heap=some r
theorem lzZ {K:Kn→St→Foot→Prop} (h:qyZ P O sg draw f rid i o kn s K):∃ r kn',ExE P O draw f rid i o s r∧K kn' (s.app o.dst r) (fUZ O f rid i o s.get):=by
 have dflt:(∀ x as tys,o.op≠.call ⟨.value x,as,tys⟩)→(match quZ O pxZ draw f rid i o s.get s.heap [] with
  | some q=>oWZ q.2.1 (nyZ (sg.lit f) O f rid i o kn s q.1 K)
  | none=>False)→∃ r kn',ExE P O draw f rid i o s r∧K kn' (s.app o.dst r) (fUZ O f rid i o s.get):=by
  intro hn h
  split at h
  ·rename_i q hq
   obtain ⟨h1,h2⟩:=fGZ h
   obtain ⟨kn',h3⟩:=dQZ h2
   refine ⟨q.1,kn',⟨0,fun k _=>?_⟩,h3⟩
   rw [hcZ (c2:=pxZ) hn]
   exact pJZ hq h1
  ·exact h.elim
 unfold qyZ at h
 by_cases hm:O.mrk f rid i=true
 ·rw [if_pos hm] at h
  split at h
  ·rename_i x hx
   obtain ⟨b,h1,h2⟩:=qYZ (tk:=O.take f rid i) hx h
   obtain ⟨kn',h3⟩:=dQZ h2
   refine ⟨_,kn',⟨0,fun k _=>?_⟩,h3⟩
   unfold dfZ;rw [if_pos hm]
   exact h1
  split at h
  ·rename_i q hq
   obtain ⟨h1,h2⟩:=fGZ h
   obtain ⟨kn',h3⟩:=dQZ h2
   refine ⟨q.1,kn',⟨0,fun k _=>?_⟩,h3⟩
   unfold dfZ;rw [if_pos hm]
   exact jAZ hq h1
  ·exact h.elim
 rw [if_neg hm] at h
 split at h
 ·rename_i c a b hop
  have hx:∀ (x:Bool),val s.get none c=.tv [] .bool x→dfZ O (callF P O 0) draw f rid i o s.get s.heap=some ⟨bif x then val s.get (O.ty o.type) a else val s.get (O.ty o.type) b,none,s.heap⟩:=by
   intro x hx;unfold dfZ;rw [if_neg hm];simp only [afZ,hop,hx]
  have hi:∀ k,dfZ O (callF P O k) draw f rid i o s.get s.heap=dfZ O (callF P O 0) draw f rid i o s.get s.heap:=fun k=>hcZ (by intro x as tys e;rw [hop] at e;cases e)
  split at h
  ·rename_i own x hv
   have hx':dfZ O (callF P O 0) draw f rid i o s.get s.heap=some ⟨bif x then val s.get (O.ty o.type) a else val s.get (O.ty o.type) b,none,s.heap⟩:=by
    unfold dfZ;rw [if_neg hm];simp only [afZ,hop,hv]
   split at h
   ·cases x with
    | true=>obtain ⟨kn',h3⟩:=dQZ h;exact ⟨_,kn',⟨0,fun k _=>(hi k).trans hx'⟩,h3⟩
    | false=>obtain ⟨kn',h3⟩:=dQZ h;exact ⟨_,kn',⟨0,fun k _=>(hi k).trans hx'⟩,h3⟩
   ·split at h
    ·rename_i v hp
     obtain ⟨kn',h3⟩:=dQZ h
     rw [lBZ hp] at hx'
     exact ⟨_,kn',⟨0,fun k _=>(hi k).trans hx'⟩,h3⟩
    ·obtain ⟨kn1,y,hy,h2⟩:=ppZ h
     obtain ⟨kn',h3⟩:=dQZ h2
     rw [hv] at hy
     simp only [AV.tv.injEq,heq_eq_eq,true_and] at hy
     obtain ⟨_,rfl⟩:=hy
     exact ⟨_,kn',⟨0,fun k _=>(hi k).trans hx'⟩,h3⟩
  ·exact h.elim
 ·rename_i x as tys hop
  split at h
  ·rename_i q first caps hv
   unfold tEZ at h
   split at h
   ·rename_i p hp
    rw [nqZ] at h
    obtain ⟨a,h1,he,h⟩:=paZ h
    have hcl:∃ r,cwZ O (fun _ _ _=>some (a,peZ p.2 h1)) draw (O.take f rid i) (O.far f rid i) o.dst q (first++o3Z O s.get ⟨.value x,as,tys⟩++caps) s.heap=some r∧nyZ (sg.lit f) O f rid i o kn s r K:=by
     cases hro:roK (O.far f rid i)&&!O.take f rid i with
     | true =>
      rw [hro] at h
      simp only [cond_true] at h
      split at h
      ·rename_i r hr
       simp only [Bool.and_eq_true,Bool.not_eq_true'] at hro
       refine ⟨r,?_,h.2⟩
       unfold cwZ
       have hf:lyZ O s.heap q (first++o3Z O s.get ⟨.value x,as,tys⟩++caps) (O.far f rid i)=true:=by
        unfold lyZ
        split
        ·rfl
        ·rename_i hX;rw [hro.1];rfl
       rw [hf,hro.2,hr]
       simp [fhZ h.1.out]
      ·exact h.elim
     | false =>
      rw [hro] at h
      simp only [cond_false] at h
      split at h
      ·rename_i r hr;exact ⟨r,hr,h⟩
      ·exact h.elim
    clear h
    obtain ⟨r,hr,h⟩:=hcl
    ·obtain ⟨kn',h3⟩:=dQZ h
     obtain ⟨N,hN⟩:=he.out
     refine ⟨r,kn',⟨N,fun k hk=>?_⟩,h3⟩
     unfold dfZ;rw [if_neg hm];simp only [afZ,hop,coZ,hv]
     exact ghZ hr hp (hN k hk)
   ·exact h.elim
  ·exact h.elim
 ·rename_i h1 h2
  exact dflt (fun x as tys e=>h2 x as tys e) h
def pWZ (P:Program) (O:Orc) (sg:Sig) (draw:Bool) (f:FuncId) (rid:Nat) (ops:Array Oper) (i:Nat) (o:Oper) (kn:Kn) (s:St) (K:Kn→St→Foot→Prop):Prop:=match o.guard with
  | none=>qyZ P O sg draw f rid i o kn s K
  | some (j,b)=>match (ops[j]?).bind (·.dst) with
    | some d=>match s.get d with
      | .tv _ .bool _=>brS kn s (.tmp d) fun kn s y=>bif y == b then qyZ P O sg draw f rid i o kn s K else K (rHZ kn o.dst none) (s.app o.dst ⟨.no,none,s.heap⟩) .zero
      | .no=>K (rHZ kn o.dst none) (s.app o.dst ⟨.no,none,s.heap⟩) .zero
      | _=>False
    | none=>False
def StE (P:Program) (O:Orc) (draw:Bool) (f:FuncId) (rid:Nat) (ops:Array Oper) (i:Nat) (o:Oper) (s:St) (r:Res):Prop:=∃ K,∀ k,K≤k→bvZ O (callF P O k) draw f rid ops i o s.get s.heap=some r
theorem lIZ {K:Kn→St→Foot→Prop} (h:pWZ P O sg draw f rid ops i o kn s K):∃ r kn',StE P O draw f rid ops i o s r∧K kn' (s.app o.dst r) (iwZ O f rid ops i o s.get):=by
 unfold pWZ at h
 unfold StE bvZ iwZ
 cases hg:o.guard with
 | none=>rw [hg] at h;exact lzZ h
 | some jb =>
  obtain ⟨j,b⟩:=jb
  rw [hg] at h
  simp only at h ⊢
  split at h
  ·rename_i d hd
   unfold ebZ
   rw [hd]
   simp only
   split at h
   ·rename_i own x hx
    obtain ⟨kn',y,hy,h2⟩:=ppZ h
    simp only [val,hx,AV.drop,AV.tv.injEq,heq_eq_eq,true_and] at hy
    subst hy
    simp only [hx]
    cases hb:x == b with
    | true =>
     rw [hb] at h2
     simp only [cond_true] at h2 ⊢
     exact lzZ h2
    | false =>
     rw [hb] at h2
     simp only [cond_false] at h2 ⊢
     exact ⟨_,_,⟨0,fun _ _=>rfl⟩,h2⟩
   ·rename_i hx;simp only [hx]
    exact ⟨_,_,⟨0,fun _ _=>rfl⟩,h⟩
   ·exact h.elim
  ·exact h.elim
def jYZ (P:Program) (O:Orc) (sg:Sig) (f:FuncId) (rid:Nat) (ops:Array Oper) (draw:Bool):List Nat→Kn→St→(Kn→St→Prop)→Prop
 | [],kn,s,K=>dzZ s fun s=>K kn s
 | i::r,kn,s,K=>match ops[i]? with
  | none=>False
  | some o=>pWZ P O sg draw f rid ops i o kn s fun kn s _=>jYZ P O sg f rid ops draw r kn s K
theorem jGZ:∀ (l:List Nat) (kn:Kn) (s:St) (K:Kn→St→Prop),jYZ P O sg f rid ops draw l kn s K→∃ s' kn',(∃ N,∀ k,N≤k→cVZ O (callF P O k) draw f rid ops l s=some s')∧K kn' s'
 | [],kn,s,K,h=>by simp only [jYZ,cDZ] at h;exact ⟨s,kn,⟨0,fun _ _=>rfl⟩,h⟩
 | i::l,kn,s,K,h=>by
  simp only [jYZ] at h
  split at h
  ·exact h.elim
  ·rename_i o ho
   obtain ⟨r,kn1,⟨N1,h1⟩,h2⟩:=lIZ h
   obtain ⟨s',kn',⟨N2,h3⟩,h4⟩:=jGZ l _ _ _ h2
   refine ⟨s',kn',⟨max N1 N2,fun k hk=>?_⟩,h4⟩
   simp only [cVZ,step,ho,h1 k (by omega),Option.map_some,Option.bind_some]
   exact h3 k (by omega)
def gnZ (P:Program) (O:Orc) (sg:Sig) (f:FuncId) (rid:Nat) (ops:Array Oper) (ah:List Nat):List Nat→List (Nat×Foot)→Kn→St→(Kn→St→Prop)→Prop
 | [],_,kn,s,K=>dzZ s fun s=>K kn s
 | j::r,acc,kn,s,K=>match ops[j]? with
  | none=>False
  | some o=>pWZ P O sg false f rid ops j o kn s fun kn s fj =>
   if acc.all fun p=>(ah.getD j 0).testBit p.1||(etZ O f rid ops p.1 j&&aGZ p.2 fj) then gnZ P O sg f rid ops ah r (acc++[(j,fj)]) kn s K else False
theorem hZZ {ah:List Nat}:∀ (l:List Nat) (acc:List (Nat×Foot)) (kn:Kn) (s:St) (K:Kn→St→Prop),gnZ P O sg f rid ops ah l acc kn s K→∃ s' kn',(∃ N,∀ k,N≤k→cSZ O (callF P O k) f rid ops ah l acc s=some s')∧K kn' s'
 | [],acc,kn,s,K,h=>by simp only [gnZ,cDZ] at h;exact ⟨s,kn,⟨0,fun _ _=>rfl⟩,h⟩
 | j::l,acc,kn,s,K,h=>by
  simp only [gnZ] at h
  split at h
  ·exact h.elim
  ·rename_i o ho
   obtain ⟨r,kn1,⟨N1,h1⟩,h2⟩:=lIZ h
   split at h2
   ·rename_i hc
    obtain ⟨s',kn',⟨N2,h3⟩,h4⟩:=hZZ l _ _ _ _ h2
    refine ⟨s',kn',⟨max N1 N2,fun k hk=>?_⟩,h4⟩
    simp only [cSZ,ho]
    rw [if_pos hc]
    simp only [step,ho,h1 k (by omega),Option.map_some,Option.bind_some]
    exact h3 k (by omega)
   ·exact h2.elim
end Go.Am
namespace Go.Am
variable {P:Program} {O:Orc} {f:FuncId} {call:aTZ}
def itZ:List Oper→List Nat→List Nat
 | [],acc=>acc
 | o::r,acc=>itZ r (match o.dst with | some d=>d::acc | none=>acc)
def dkZ:Code→List Nat→List Nat
 | .region _ ops _,acc=>itZ ops.toList acc
 | .seq a b,acc=>dkZ b (dkZ a acc)
 | .cond _ a b,acc=>dkZ b (dkZ a acc)
 | .block _ a,acc=>dkZ a acc
 | .loop a,acc=>dkZ a acc
 | _,acc=>acc
def Kp (i:Nat) (s s':St):Prop:=s'.get i=s.get i∨s'.get i=(s.get i).drop∨s'.get i=.any
theorem Kp.refl (i:Nat) (s:St):Kp i s s:=.inl rfl
theorem Kp.trans {i:Nat} {a b c:St} (h:Kp i a b) (g:Kp i b c):Kp i a c:=by
 rcases g with g | g | g
 ·rcases h with h | h | h
  ·exact .inl (g.trans h)
  ·exact .inr (.inl (g.trans h))
  ·exact .inr (.inr (g.trans h))
 ·rcases h with h | h | h
  ·exact .inr (.inl (by rw [g,h]))
  ·exact .inr (.inl (by rw [g,h,AV.drop_drop]))
  ·exact .inr (.inr (by rw [g,h];rfl))
 ·exact .inr (.inr g)
theorem efZ:∀ {l:List Oper} {acc:List Nat} {i:Nat},i ∉ itZ l acc→i ∉ acc
 | [],_,_,h=>h
 | o::r,acc,i,h=>by
  have:=efZ (l:=r) h
  cases ho:o.dst with
  | none=>rw [ho] at this;exact this
  | some d=>rw [ho] at this;exact fun x=>this (List.mem_cons_of_mem _ x)
theorem eiZ:∀ {l:List Oper} {acc:List Nat} {i:Nat},i ∉ itZ l acc→∀ o∈l,o.dst≠some i
 | [],_,_,_,o,ho=>by cases ho
 | o::r,acc,i,h,q,hq=>by
  rcases List.mem_cons.1 hq with rfl | hq
  ·intro e
   have:=efZ (l:=r) h
   rw [e] at this
   exact this (List.mem_cons_self ..)
  ·exact eiZ (l:=r) h q hq
theorem bnZ:∀ {c:Code} {acc:List Nat} {i:Nat},i ∉ dkZ c acc→i ∉ acc
 | .region _ ops _,_,_,h=>efZ h
 | .seq a b,_,_,h=>bnZ (c:=a) (bnZ (c:=b) h)
 | .cond _ a b,_,_,h=>bnZ (c:=a) (bnZ (c:=b) h)
 | .block _ a,_,_,h=>bnZ (c:=a) h
 | .loop a,_,_,h=>bnZ (c:=a) h
 | .skip,_,_,h=>h
 | .exit _,_,_,h=>h
 | .ret,_,_,h=>h
 | .label _,_,_,h=>h
 | .goto _,_,_,h=>h
 | .rangeFunc ..,_,_,h=>h
 | .scope _,_,_,h=>h
 | .refuse _,_,_,h=>h
theorem lvZ {s:St} {d:Option Nat} {r:Res} {i:Nat} (h:d≠some i):Kp i s (s.app d r):=by
  have g:∀ (e:List AV),(∀ j,e.getD j .any=s.get j∨e.getD j .any=(s.get j).drop)→∀ h',Kp i s ⟨match d with | some d=>e.set d r.a | none=>e,h'⟩:=by
    intro e he h'
    cases d with
    | none => rcases he i with x | x
              · exact .inl x
              · exact .inr (.inl x)
    | some d =>
      have hd:¬ (i=d∧d<e.length):=fun x=>h (by rw [x.1])
      have:(e.set d r.a).getD i .any=e.getD i .any:=by rw [aLZ,if_neg hd]
      rcases he i with x | x
      · exact .inl (this.trans x)
      · exact .inr (.inl (this.trans x))
  unfold St.app
  cases r.tk with
  | none=>exact g _ (fun j=>.inl rfl) _
  | some t =>
    refine g _ (fun j=>?_) _
    show (s.env.set t (s.env.getD t .any).drop).getD j .any=_∨_
    rw [aLZ]
    split
    · rename_i hc;rw [hc.1];exact .inr rfl
    · exact .inl rfl
theorem hXZ {rid:Nat} {ops:Array Oper} {draw:Bool} {i:Nat} (h:∀ o∈ops.toList,o.dst≠some i):∀ (l:List Nat) (s s':St),cVZ O call draw f rid ops l s=some s'→Kp i s s'
 | [],s,s',e=>by simp only [cVZ,Option.some.injEq] at e;subst e;exact Kp.refl _ _
 | j::l,s,s',e=>by
  simp only [cVZ,Option.bind_eq_some_iff] at e
  obtain ⟨s1,h1,h2⟩:=e
  unfold step at h1
  split at h1
  ·cases h1
  ·rename_i o ho
   simp only [Option.map_eq_some_iff] at h1
   obtain ⟨r,_,rfl⟩:=h1
   have hm:o∈ops.toList:=by
    obtain ⟨hl,he⟩:=Array.getElem?_eq_some_iff.1 ho
    rw [← he];exact Array.getElem_mem_toList hl
   exact (lvZ (h o hm)).trans (hXZ h l _ _ h2)
theorem f5Z {rid:Nat} {ops:Array Oper} {ah:List Nat} {i:Nat} (h:∀ o∈ops.toList,o.dst≠some i):∀ (l:List Nat) (acc:List (Nat×Foot)) (s s':St),cSZ O call f rid ops ah l acc s=some s'→Kp i s s'
 | [],acc,s,s',e=>by simp only [cSZ,Option.some.injEq] at e;subst e;exact Kp.refl _ _
 | j::l,acc,s,s',e=>by
  simp only [cSZ] at e
  split at e
  ·cases e
  ·rename_i o ho
   split at e
   ·simp only [Option.bind_eq_some_iff] at e
    obtain ⟨s1,h1,h2⟩:=e
    unfold step at h1
    rw [ho] at h1
    simp only [Option.map_eq_some_iff] at h1
    obtain ⟨r,_,rfl⟩:=h1
    have hm:o∈ops.toList:=by
     obtain ⟨hl,he⟩:=Array.getElem?_eq_some_iff.1 ho
     rw [← he];exact Array.getElem_mem_toList hl
    exact (lvZ (h o hm)).trans (f5Z h l _ _ _ h2)
   ·cases e
theorem gtZ (l:List Nat):∀ (e:List AV) (n i:Nat),(keep l n e).getD i .any=if l.contains (n+i) then e.getD i .any else .any
 | [],n,i=>by simp [keep]
 | a::r,n,0=>by simp only [keep,List.getD_cons_zero,Nat.add_zero]
 | a::r,n,i+1=>by
  simp only [keep,List.getD_cons_succ]
  rw [gtZ l r (n+1) i,show n+1+i=n+(i+1) by omega]
theorem eAZ {l:List Nat×List Key} {s s':St} {i:Nat} (h:bGZ l s=some s'):Kp i s s':=by
 unfold bGZ c4Z at h
 simp only [Option.map_eq_some_iff] at h
 obtain ⟨s0,h,rfl⟩:=h
 split at h
 ·cases h
  show (keep l.1 0 s.env).getD i .any=_∨_
  rw [gtZ]
  by_cases hc:l.1.contains (0+i)=true
  ·rw [if_pos hc];exact .inl rfl
  ·right;right
   show (keep l.1 0 s.env).getD i .any=_
   rw [gtZ,if_neg hc]
 ·cases h
theorem hSZ {body:St→Option (Ex×St)} {cut:St→Option St} {i:Nat} (hb:∀ s q,body s=some q→Kp i s q.2) (hc:∀ s s',cut s=some s'→Kp i s s'):∀ (n:Nat) (s:St) (q:Ex×St),dvZ body cut n s=some q→Kp i s q.2
 | 0,s,q,e=>by simp [dvZ] at e
 | n+1,s,q,e=>by
  simp only [dvZ,Option.bind_eq_some_iff] at e
  obtain ⟨s1,h1,⟨x,s2⟩,h2,e⟩:=e
  have k1:=(hc _ _ h1).trans (hb _ _ h2)
  cases x with
  | normal=>exact k1.trans (hSZ hb hc n _ _ e)
  | exit id=>simp only [Option.some.injEq] at e;subst e;exact k1
  | ret=>simp only [Option.some.injEq] at e;subst e;exact k1
theorem b1Z {n i:Nat}:∀ (c:Code) (acc:List Nat),i ∉ dkZ c acc→∀ (s:St) (q:Ex×St),aIZ O call n f c s=some q→Kp i s q.2
 | .skip,acc,hw,s,q,e=>by simp only [aIZ,Option.some.injEq] at e;subst e;exact Kp.refl _ _
 | .region id ops draw,acc,hw,s,q,e=>by
  simp only [aIZ,Option.bind_eq_some_iff,dPZ,Option.some.injEq] at e
  obtain ⟨s',h1,rfl⟩:=e
  split at h1
  ·exact f5Z (eiZ hw) _ _ _ _ h1
  ·exact hXZ (eiZ hw) _ _ _ h1
 | .seq a b,acc,hw,s,q,e=>by
  simp only [aIZ,Option.bind_eq_some_iff] at e
  obtain ⟨⟨x,s1⟩,h1,e⟩:=e
  have k1:=b1Z a acc (bnZ hw) _ _ h1
  cases x with
  | normal=>exact k1.trans (b1Z b _ hw _ _ e)
  | exit id=>simp only [Option.some.injEq] at e;subst e;exact k1
  | ret=>simp only [Option.some.injEq] at e;subst e;exact k1
 | .cond c a b,acc,hw,s,q,e=>by
  simp only [aIZ] at e
  split at e
  ·rename_i own x hv
   cases x with
   | true=>exact b1Z a acc (bnZ hw) _ _ e
   | false=>exact b1Z b _ hw _ _ e
  ·cases e
 | .block id a,acc,hw,s,q,e=>by
  simp only [aIZ,Option.map_eq_some_iff] at e
  obtain ⟨⟨x,s1⟩,h1,rfl⟩:=e
  have k1:=b1Z a acc hw _ _ h1
  cases x with
  | normal=>exact k1
  | exit id' =>
   simp only at k1 ⊢
   split <;> exact k1
  | ret=>exact k1
 | .loop a,acc,hw,s,q,e=>by
  simp only [aIZ] at e
  exact hSZ (fun s q=>b1Z a acc hw s q) (fun s s' h=>eAZ h) n s q e
 | .exit id,acc,hw,s,q,e=>by simp only [aIZ,Option.some.injEq] at e;subst e;exact Kp.refl _ _
 | .ret,acc,hw,s,q,e=>by simp only [aIZ,Option.some.injEq] at e;subst e;exact Kp.refl _ _
 | .label _,acc,hw,s,q,e=>by simp [aIZ] at e
 | .goto _,acc,hw,s,q,e=>by simp [aIZ] at e
 | .rangeFunc ..,acc,hw,s,q,e=>by simp [aIZ] at e
 | .scope _,acc,hw,s,q,e=>by simp [aIZ] at e
 | .refuse _,acc,hw,s,q,e=>by simp [aIZ] at e
end Go.Am
