/-
  The machine over typed data, part 4: what calls come to, read as typed data, holds of the model.
-/
import Derived.Test.YtgfkdbplahpknaaAm3
import Derived.RowKit
import Derived.OpenShut
import Derived.ShutString
import Derived.Deep.Slices
import Derived.DataReads
import Derived.WalkKit
import Derived.ProofKit
import Derived.ChangeSame
import Derived.JoinedOf
import Derived.LaidLaws
import GoSem.ClaimJoined
import Derived.Lib.Bytealg
import Derived.Lib.Join
import Derived.Below
set_option linter.all false
namespace Go.Am
variable {P : Program} {O : Orc}
structure Need (p : Prop) : Prop where
 out : p
def needs : List Prop → Prop → Prop
 | [], k => k
 | p :: l, k => Need p ∧ needs l k
theorem needs_ok : ∀ {l : List Prop} {k : Prop}, needs l k → Holds l ∧ k
 | [], _, h => ⟨trivial, h⟩
 | _ :: _, _, h => ⟨⟨h.1.out, (needs_ok h.2).1⟩, (needs_ok h.2).2⟩
def Ev (P : Program) (O : Orc) (g : FuncId) (args : List AV) (h : Heap) (a : AV) (h' : Heap) : Prop := ∃ K, ∀ k, K ≤ k → callF P O k g args h = some (a, h')
def EvF (P : Program) (O : Orc) (f : FuncId) (args : List AV) (h : Heap) (Q : AV → Heap → Prop) : Prop := ∃ a h', Ev P O f args h a h' ∧ Q a h'
abbrev Kn := List (Nat × Bool)
def knGet : Kn → Nat → Option Bool
 | [], _ => none
 | (a, b) :: l, t => if a = t then some b else knGet l t
def litO (kn : Kn) : Operand → Option Bool
 | .const (.bool b) => some b
 | .tmp t => knGet kn t
 | _ => none
def litR (kn : Kn) : Op → Option Bool
 | .move x | .assign x => litO kn x
 | .pick c a b => (litO kn c).bind fun y => litO kn (bif y then a else b)
 | .unOp .not _ x => (litO kn x).map fun y => bif y then false else true
 | _ => none
def knDel : Kn → Nat → Kn
 | [], _ => []
 | (a, b) :: l, t => if a = t then knDel l t else (a, b) :: knDel l t
def knSet (kn : Kn) (d : Option Nat) (v : Option Bool) : Kn := match d with
 | none => kn
 | some d => match v with
  | some b => (d, b) :: knDel kn d
  | none => knDel kn d
section
variable {R : Type}
def forceV (a : AV) (k : AV → R) : R := match a with
 | .tv own t x => forceL (forceL forceN) own fun own => k (.tv own t x)
 | .sp t x => k (.sp t x)
 | .op q p => k (.op q p)
 | .vp q N p => k (.vp q N p)
 | .fn f a b => k (.fn f a b)
 | .tup l => k (.tup l)
 | .gp g p => k (.gp g p)
 | .xs t x => k (.xs t x)
 | .no => k .no
 | .any => k .any
def forceVL : List AV → (List AV → R) → R
 | [], k => k []
 | a :: l, k => forceV a fun a => forceVL l fun l => k (a :: l)
def forceVO (o : Key × Ob) (k : Key × Ob → R) : R := match o with
 | (q, ⟨⟨t, x⟩, own⟩) => forceP q fun q => forceL (forceL forceN) own fun own => k (q, ⟨⟨t, x⟩, own⟩)
def forceVS (s : St) (k : St → R) : R := match s with
 | ⟨e, h⟩ => forceVL e fun e => forceL forceVO h fun h => k ⟨e, h⟩
end
theorem forceV_eq {R : Type} (a : AV) (k : AV → R) : forceV a k = k a := by
 cases a <;> simp only [forceV]
 exact forceL_eq' (fun a k => forceL_eq' forceN_eq' a k) _ _
theorem forceVL_eq {R : Type} : ∀ (l : List AV) (k : List AV → R), forceVL l k = k l
 | [], _ => rfl
 | a :: l, k => by simp only [forceVL, forceV_eq, forceVL_eq l]
theorem forceVO_eq {R : Type} (o : Key × Ob) (k : Key × Ob → R) : forceVO o k = k o := by
 obtain ⟨q, ⟨⟨t, x⟩, own⟩⟩ := o
 simp only [forceVO, forceP_eq']
 exact forceL_eq' (fun a k => forceL_eq' forceN_eq' a k) _ _
theorem forceVS_eq {R : Type} (s : St) (k : St → R) : forceVS s k = k s := by
 obtain ⟨e, h⟩ := s
 simp only [forceVS, forceVL_eq]
 exact forceL_eq' (fun a k => forceVO_eq a k) _ _
def setB (s : St) (t : Nat) (own : List (List Nat)) (y : Bool) : St := ⟨s.env.set t (.tv own .bool y), s.heap⟩
theorem setB_same {s : St} {t : Nat} {own : List (List Nat)} {y : Bool} (h : s.get t = .tv own .bool y) : setB s t own y = s := by
 obtain ⟨e, hp⟩ := s
 simp only [St.get, List.getD_eq_getElem?_getD] at h
 cases he : e[t]? with
 | none => rw [he] at h; cases h
 | some a =>
  rw [he] at h
  simp only [Option.getD_some] at h
  subst h
  obtain ⟨hl, hg⟩ := List.getElem?_eq_some_iff.1 he
  simp only [setB, ← hg, List.set_getElem_self]
def brS (kn : Kn) (s : St) (x : Operand) (K : Kn → St → Bool → Prop) : Prop := match x with
 | .tmp t => match s.get t with
  | .tv own .bool b => match knGet kn t with
   | some _ => match b with
    | true => K kn s true
    | false => K kn s false
   | none => (b = true → K ((t, true) :: kn) (setB s t own true) true) ∧ (b = false → K ((t, false) :: kn) (setB s t own false) false)
  | _ => False
 | .const (.bool b) => K kn s b
 | _ => False
theorem brS_ok {kn : Kn} {s : St} {x : Operand} {K : Kn → St → Bool → Prop} (h : brS kn s x K) : ∃ kn' b, val s.get none x = .tv [] .bool b ∧ K kn' s b := by
 unfold brS at h
 split at h
 ·rename_i t
  split at h
  ·rename_i own b hg
   split at h
   ·cases b with
    | true => exact ⟨kn, true, by simp only [val, hg, AV.drop], h⟩
    | false => exact ⟨kn, false, by simp only [val, hg, AV.drop], h⟩
   ·cases b with
    | true => exact ⟨_, true, by simp only [val, hg, AV.drop], by have := h.1 rfl; rwa [setB_same hg] at this⟩
    | false => exact ⟨_, false, by simp only [val, hg, AV.drop], by have := h.2 rfl; rwa [setB_same hg] at this⟩
  ·exact h.elim
 ·exact ⟨kn, _, rfl, h⟩
 ·exact h.elim
def exD : (t : Ty) → den t → (den t → Prop) → Prop
 | .pair a b, x, k => exD a x.1 fun p => exD b x.2 fun q => k (p, q)
 | .unit, _, k => k ()
 | .ref, x, k => k x
 | .wref, x, k => k x
 | .int _, _, k => ∃ y : Int, k y
 | .bool, _, k => ∃ y : Bool, k y
 | .str, _, k => ∃ y : List Int, k y
 | .expr, _, k => ∃ y : XT, k y
 | .slice t, _, k => ∃ y : List (den t), k y
 | .arr _ _ t, _, k => ∃ y : List (den t), k y
 | .mref _ _, x, k => k x
 | .fnc, x, k => k x
 | .sref _, x, k => match (x : Option (Key × Nat × Nat × Nat)) with
  | none => k (none : Option (Key × Nat × Nat × Nat))
  | some (q, _, lo, _) => ∃ N len : Nat, k (some (q, N, lo, len) : Option (Key × Nat × Nat × Nat))
 | .mp a b, x, k => match b, x with
  | .fnc, x => k x
  | b, _ => ∃ y : List (den a × den b), k y
theorem exD_ok : ∀ {t : Ty} {x : den t} {k : den t → Prop}, exD t x k → ∃ y, k y
 | .pair a b, x, k, h => by
  obtain ⟨p, h⟩ := exD_ok (t := a) h
  obtain ⟨q, h⟩ := exD_ok (t := b) h
  exact ⟨_, h⟩
 | .unit, _, _, h => ⟨_, h⟩
 | .ref, _, _, h => ⟨_, h⟩
 | .wref, _, _, h => ⟨_, h⟩
 | .int _, _, _, h => h
 | .bool, _, _, h => h
 | .str, _, _, h => h
 | .expr, _, _, h => h
 | .slice _, _, _, h => h
 | .arr _ _ _, _, _, h => h
 | .mref _ _, _, _, h => ⟨_, h⟩
 | .fnc, _, _, h => ⟨_, h⟩
 | .sref _, none, _, h => ⟨_, h⟩
 | .sref _, some (q, _, lo, _), _, h => by
  obtain ⟨N, len, h⟩ := h
  exact ⟨_, h⟩
 | .mp a b, x, k, h => by
  unfold exD at h
  split at h
  ·exact ⟨_, h⟩
  ·exact h
mutual
def exA : AV → (AV → Prop) → Prop
  | .tv own t x, k => exD t x fun y => k (.tv own t y)
  | .tup l, k => exAL l fun l => k (.tup l)
  | .fn f a b, k => exAL a fun a => exAL b fun b => k (.fn f a b)
  | .sp t x, k => exD t x fun y => k (.sp t y)
  | a, k => k a
def exAL : List AV → (List AV → Prop) → Prop
  | [], k => k []
  | a :: l, k => exA a fun a => exAL l fun l => k (a :: l)
end
mutual
theorem exA_ok : ∀ {a : AV} {k : AV → Prop}, exA a k → ∃ b, k b
  | .tv own t x, k, h => by simp only [exA] at h; obtain ⟨y, h⟩ := exD_ok h; exact ⟨_, h⟩
  | .tup l, k, h => by simp only [exA] at h; obtain ⟨y, h⟩ := exAL_ok h; exact ⟨_, h⟩
  | .fn f a b, k, h => by
    simp only [exA] at h; obtain ⟨y, h⟩ := exAL_ok h; obtain ⟨z, h⟩ := exAL_ok h; exact ⟨_, h⟩
  | .sp t x, k, h => by simp only [exA] at h; obtain ⟨y, h⟩ := exD_ok h; exact ⟨_, h⟩
  | .op .., k, h => by simp only [exA] at h; exact ⟨_, h⟩
  | .vp .., k, h => by simp only [exA] at h; exact ⟨_, h⟩
  | .gp .., k, h => by simp only [exA] at h; exact ⟨_, h⟩
  | .xs .., k, h => by simp only [exA] at h; exact ⟨_, h⟩
  | .no, k, h => by simp only [exA] at h; exact ⟨_, h⟩
  | .any, k, h => by simp only [exA] at h; exact ⟨_, h⟩
theorem exAL_ok : ∀ {l : List AV} {k : List AV → Prop}, exAL l k → ∃ b, k b
  | [], k, h => by simp only [exAL] at h; exact ⟨_, h⟩
  | a :: l, k, h => by simp only [exAL] at h; obtain ⟨y, h⟩ := exA_ok h; obtain ⟨z, h⟩ := exAL_ok h; exact ⟨_, h⟩
end
def exO : (t : Ty) → den t → (Dat → Prop) → Prop
 | .arr (_ + 1) _ u, _, k => ∃ γ : Nat, ∃ y : List (den u), k ⟨.arr (Nat.succ γ) (List.length y) u, y⟩
 | t, x, k => exD t x fun y => k ⟨t, y⟩
theorem exO_ok {t : Ty} {x : den t} {k : Dat → Prop} (h : exO t x k) : ∃ d, k d := by
 unfold exO at h
 split at h
 ·obtain ⟨γ, y, h⟩ := h; exact ⟨_, h⟩
 ·obtain ⟨y, h⟩ := exD_ok h; exact ⟨_, h⟩
def exH : Heap → (Heap → Prop) → Prop
 | [], k => k []
 | (q, ⟨⟨t, x⟩, own⟩) :: r, k => exO t x fun d => exH r fun r => k ((q, ⟨d, own⟩) :: r)
theorem exH_ok : ∀ {l : Heap} {k : Heap → Prop}, exH l k → ∃ b, k b
 | [], k, h => ⟨_, h⟩
 | (q, ⟨⟨t, x⟩, own⟩) :: r, k, h => by
  obtain ⟨y, h⟩ := exO_ok (t := t) h; obtain ⟨z, h⟩ := exH_ok h; exact ⟨_, h⟩
abbrev Alt := AV × Heap
def altV : List Alt → (AV → Heap → Prop) → Prop
 | [], _ => False
 | [q], k => exA q.1 fun a => exH q.2 fun h => k a h
 | q :: r, k => (exA q.1 fun a => exH q.2 fun h => k a h) ∨ altV r k
theorem altV_ok : ∀ {l : List Alt} {k : AV → Heap → Prop}, altV l k → ∃ a h, k a h
 | [], _, h => h.elim
 | [q], k, h => by
  simp only [altV] at h
  obtain ⟨a, h⟩ := exA_ok h; obtain ⟨b, h⟩ := exH_ok h; exact ⟨a, b, h⟩
 | q :: q' :: r, k, h => by
  simp only [altV] at h
  rcases h with h | h
  ·obtain ⟨a, h⟩ := exA_ok h; obtain ⟨b, h⟩ := exH_ok h; exact ⟨a, b, h⟩
  ·exact altV_ok h
structure Sig where
 alts : FuncId → List Alt
 fz : FuncId → List Key
 lit : FuncId → Bool := fun _ => false
def noCall : CallF := fun _ _ _ => none
def litE (op : BinOp) (same : Bool) : Option Bool := match op with
 | .eql => some same
 | .neq => some (!same)
 | _ => none
def litP (lt : Bool) (O : Orc) (g : Nat → AV) : Op → Option Bool
 | .binOp op T x y _ => bif lt then (match val g (O.ty T) x, val g (O.ty T) y with
  | .op _ _, .tv _ .ref none => litE op false
  | .tv _ .ref none, .op _ _ => litE op false
  | .tv _ .ref none, .tv _ .ref none => litE op true
  | .fn _ _ _, .tv _ .fnc none => litE op false
  | .tv _ .fnc none, .tv _ .fnc none => litE op true
  | _, _ => none) else none
 | _ => none
def finV (lt : Bool) (O : Orc) (f : FuncId) (rid i : Nat) (o : Oper) (kn : Kn) (s : St) (r : Res) (K : Kn → St → Foot → Prop) : Prop :=
 forceV r.a fun a => K (knSet kn o.dst (match litR kn o.op with
  | some b => some b
  | none => litP lt O s.get o.op)) (s.app o.dst ⟨a, r.tk, r.h⟩) (foot0 O f rid i o s.get)
theorem finV_ok {lt : Bool} {f : FuncId} {rid i : Nat} {o : Oper} {kn : Kn} {s : St} {r : Res} {K : Kn → St → Foot → Prop} (h : finV lt O f rid i o kn s r K) : ∃ kn', K kn' (s.app o.dst r) (foot0 O f rid i o s.get) := by
 unfold finV at h; rw [forceV_eq] at h; exact ⟨_, h⟩
section
variable {R : Type}
def forceR : (t : Ty) → den t → (den t → R) → R
 | .pair a b, x, k => forceR a x.1 fun p => forceR b x.2 fun q => k (p, q)
 | .ref, x, k => match (x : Option Key) with
  | none => k (none : Option Key)
  | some q => forceP q fun q => k (some q : Option Key)
 | .wref, x, k => match (x : Option Key) with
  | none => k (none : Option Key)
  | some q => forceP q fun q => k (some q : Option Key)
 | .mref _ _, x, k => match (x : Option Key) with
  | none => k (none : Option Key)
  | some q => forceP q fun q => k (some q : Option Key)
 | .sref _, x, k => match (x : Option (Key × Nat × Nat × Nat)) with
  | none => k (none : Option (Key × Nat × Nat × Nat))
  | some (q, a) => forceP q fun q => k (some (q, a) : Option (Key × Nat × Nat × Nat))
 | _, x, k => k x
def forceRO (o : Key × Ob) (k : Key × Ob → R) : R := match o with
 | (q, ⟨⟨t, x⟩, own⟩) => forceP q fun q => forceR t x fun x => forceL (forceL forceN) own fun own => k (q, ⟨⟨t, x⟩, own⟩)
end
theorem forceR_eq {R : Type} : ∀ (t : Ty) (x : den t) (k : den t → R), forceR t x k = k x
 | .pair a b, x, k => by simp only [forceR, forceR_eq a, forceR_eq b]
 | .ref, x, k => by
  revert k; revert x
  show ∀ (x : Option Key) (k : Option Key → R), forceR (.ref) x k = k x
  intro x k
  cases x with
  | none => rfl
  | some q => simp only [forceR]; exact forceP_eq' _ _
 | .wref, x, k => by
  revert k; revert x
  show ∀ (x : Option Key) (k : Option Key → R), forceR (.wref) x k = k x
  intro x k
  cases x with
  | none => rfl
  | some q => simp only [forceR]; exact forceP_eq' _ _
 | .mref a b, x, k => by
  revert k; revert x
  show ∀ (x : Option Key) (k : Option Key → R), forceR (.mref a b) x k = k x
  intro x k
  cases x with
  | none => rfl
  | some q => simp only [forceR]; exact forceP_eq' _ _
 | .sref t, x, k => by
  revert k; revert x
  show ∀ (x : Option (Key × Nat × Nat × Nat)) (k : Option (Key × Nat × Nat × Nat) → R), forceR (.sref t) x k = k x
  intro x k
  cases x with
  | none => rfl
  | some q => obtain ⟨q, a⟩ := q; simp only [forceR]; exact forceP_eq' _ _
 | .int _, x, k => rfl
 | .bool, x, k => rfl
 | .str, x, k => rfl
 | .unit, x, k => rfl
 | .expr, x, k => rfl
 | .fnc, x, k => rfl
 | .slice _, x, k => rfl
 | .arr _ _ _, x, k => rfl
 | .mp _ _, x, k => rfl
theorem forceRO_eq {R : Type} (o : Key × Ob) (k : Key × Ob → R) : forceRO o k = k o := by
 obtain ⟨q, ⟨⟨t, x⟩, own⟩⟩ := o
 simp only [forceRO, forceP_eq', forceR_eq]
 exact forceL_eq' (fun a k => forceL_eq' forceN_eq' a k) _ _
theorem forceRH_eq {R : Type} (h : Heap) (k : Heap → R) : forceL forceRO h k = k h := forceL_eq' (fun o k => forceRO_eq o k) h k
def sameA (h : Heap) : Heap → Heap
 | [] => []
 | (k, o) :: r => bif k.1 == 1000000 then h else (k, o) :: sameA h r
def fitW (h : Heap) : Heap → Bool
 | [] => true
 | (k, o) :: r => (bif o.d.t.wr && k.1 == 0 then (match look h k with
  | some o' => decide (o'.d.t = o.d.t)
  | none => true) else true) && fitW h r
def keepW (h : Heap) : List Alt → List Alt
 | [] => []
 | q :: r => bif fitW h q.2 then q :: keepW h r else keepW h r
def callV (P : Program) (O : Orc) (sg : Sig) (draw tk : Bool) (X : List Key) (dst : Option Nat) (q : FuncId) (args : List AV) (h : Heap) (K : Res → Prop) : Prop := match callIn args h with
 | some p => forceL forceRO p.2 fun p2 => altV (keepW p2 (sg.alts q)) fun a h1 => Need (Ev P O q p.1 p2 a (sameA p2 h1)) ∧ (bif roK X && !tk then (match callA O (fun _ _ _ => some (a, sameA p2 h1)) draw dst q args h with
  | some r => Need (r.h = h) ∧ K r
  | none => False) else match callT O (fun _ _ _ => some (a, sameA p2 h1)) draw tk X dst q args h with
  | some r => K r
  | none => False)
 | none => False
inductive LF where
 | i (l : List (Int × Option Nat)) (k : Int)
 | s (l : List (List Int × Option Nat)) (k : List Int)
def lookF (O : Orc) (o : Oper) (g : Nat → AV) (h : Heap) : Option LF := match o.op with
 | .lookup T x k false => match O.ty T with
  | some (.mref (.int kd) .fnc) => (asT (.mref (.int kd) .fnc) (val g (O.ty T) x)).bind fun r => (mapRd h (.int kd) .fnc r).bind fun l => (asT (.int kd) (val g ((O.ty T).bind mapKey) k)).map fun k => .i l k
  | some (.mref .str .fnc) => (asT (.mref .str .fnc) (val g (O.ty T) x)).bind fun r => (mapRd h .str .fnc r).bind fun l => (asT .str (val g ((O.ty T).bind mapKey) k)).map fun k => .s l k
  | _ => none
 | _ => none
def caseV {α : Type} (l : List (α × Option Nat)) (k : α) (K : Option Nat → Prop) : Prop := match l with
 | [] => K none
 | p :: r => (k = p.1 → K p.2) ∧ (k ≠ p.1 → caseV r k K)
theorem caseV_ok {α : Type} [DecidableEq α] {k : α} {K : Option Nat → Prop} : ∀ {l : List (α × Option Nat)}, caseV l k K → K (Pr.mget l k none)
 | [], h => h
 | (a, b) :: l, h => by
  simp only [Pr.mget]
  by_cases e : k = a
  ·rw [if_pos e]; exact h.1 e
  ·rw [if_neg e]; exact caseV_ok (h.2 e)
def LF.run (x : LF) (K : AV → Prop) : Prop := match x with
 | .i l k => caseV l k fun v => K (mapAV .fnc v)
 | .s l k => caseV l k fun v => K (mapAV .fnc v)
theorem lookF_ok {O : Orc} {tk : Bool} {o : Oper} {g : Nat → AV} {h : Heap} {x : LF} {K : AV → Prop} (e : lookF O o g h = some x) (hx : x.run K) : ∃ a, execM O tk o g h = some ⟨a, none, h⟩ ∧ K a := by
 unfold lookF at e
 split at e
 ·rename_i T x0 k0 hop
  split at e
  ·rename_i kd hT
   simp only [Option.bind_eq_some_iff, Option.map_eq_some_iff] at e
   obtain ⟨r, h1, l, h2, k, h3, rfl⟩ := e
   refine ⟨_, ?_, caseV_ok (α := Int) hx⟩
   simp only [hT, Option.bind_some] at h1 h3
   simp only [execM, hop, lookA, hT, h1, h2, h3, Option.bind_some, mapGet, Option.map_some]
   rfl
  ·rename_i hT
   simp only [Option.bind_eq_some_iff, Option.map_eq_some_iff] at e
   obtain ⟨r, h1, l, h2, k, h3, rfl⟩ := e
   refine ⟨_, ?_, caseV_ok (α := List Int) hx⟩
   simp only [hT, Option.bind_some] at h1 h3
   simp only [execM, hop, lookA, hT, h1, h2, h3, Option.bind_some, mapGet, Option.map_some]
   rfl
  ·cases e
 ·cases e
def execV (P : Program) (O : Orc) (sg : Sig) (draw : Bool) (f : FuncId) (rid i : Nat) (o : Oper) (kn : Kn) (s : St) (K : Kn → St → Foot → Prop) : Prop := if O.mrk f rid i then (match lookF O o s.get s.heap with
 | some x => x.run fun a => finV (sg.lit f) O f rid i o kn s ⟨a, none, s.heap⟩ K
 | none => match execMS O (O.take f rid i) o s.get s.heap [] with
  | some q => needs q.2.1 (finV (sg.lit f) O f rid i o kn s q.1 K)
  | none => False) else match o.op with
 | .pick c a b => match val s.get none c with
  | .tv _ .bool x => match litO kn c with
   | some _ => match x with
    | true => finV (sg.lit f) O f rid i o kn s ⟨val s.get (O.ty o.type) a, none, s.heap⟩ K
    | false => finV (sg.lit f) O f rid i o kn s ⟨val s.get (O.ty o.type) b, none, s.heap⟩ K
   | none => match pickS x (val s.get (O.ty o.type) a) (val s.get (O.ty o.type) b) with
    | some v => finV (sg.lit f) O f rid i o kn s ⟨v, none, s.heap⟩ K
    | none => brS kn s c fun kn s y => finV (sg.lit f) O f rid i o kn s ⟨bif y then val s.get (O.ty o.type) a else val s.get (O.ty o.type) b, none, s.heap⟩ K
  | _ => False
 | .call ⟨.value x, as, tys⟩ => match val s.get none x with
  | .fn q first caps => callV P O sg draw (O.take f rid i) (O.far f rid i) o.dst q (first ++ argV O s.get ⟨.value x, as, tys⟩ ++ caps) s.heap fun r => finV (sg.lit f) O f rid i o kn s r K
  | _ => False
 | _ => match execS O noCall draw f rid i o s.get s.heap [] with
  | some q => needs q.2.1 (finV (sg.lit f) O f rid i o kn s q.1 K)
  | none => False
end Go.Am
namespace Go.Am
variable {P : Program} {O : Orc} {sg : Sig} {draw : Bool} {f : FuncId} {rid i : Nat} {o : Oper} {kn : Kn} {s : St} {ops : Array Oper}
theorem exec0_indep {c1 c2 : CallF} {g : Nat → AV} {h : Heap} (hn : ∀ x as tys, o.op ≠ .call ⟨.value x, as, tys⟩) : exec0 O c1 draw f rid i o g h = exec0 O c2 draw f rid i o g h := by
 unfold exec0
 cases hop : o.op with
 | call c =>
  obtain ⟨callee, as, tys⟩ := c
  cases callee with
  | value x => exact absurd hop (hn _ _ _)
  | builtin b => cases b <;> rfl
  | invoke r m => rfl
 | makeFunc fn first caps => cases fn <;> rfl
 | slice T x lo hi mx => cases mx <;> rfl
 | _ => rfl
theorem exec_indep {c1 c2 : CallF} {g : Nat → AV} {h : Heap} (hn : ∀ x as tys, o.op ≠ .call ⟨.value x, as, tys⟩) : exec O c1 draw f rid i o g h = exec O c2 draw f rid i o g h := by
 unfold exec
 rw [exec0_indep (c1 := c1) (c2 := c2) hn]
def ExE (P : Program) (O : Orc) (draw : Bool) (f : FuncId) (rid i : Nat) (o : Oper) (s : St) (r : Res) : Prop := ∃ K, ∀ k, K ≤ k → exec O (callF P O k) draw f rid i o s.get s.heap = some r
theorem execV_ok {K : Kn → St → Foot → Prop} (h : execV P O sg draw f rid i o kn s K) : ∃ r kn', ExE P O draw f rid i o s r ∧ K kn' (s.app o.dst r) (foot0 O f rid i o s.get) := by
 have dflt : (∀ x as tys, o.op ≠ .call ⟨.value x, as, tys⟩) → (match execS O noCall draw f rid i o s.get s.heap [] with
  | some q => needs q.2.1 (finV (sg.lit f) O f rid i o kn s q.1 K)
  | none => False) → ∃ r kn', ExE P O draw f rid i o s r ∧ K kn' (s.app o.dst r) (foot0 O f rid i o s.get) := by
  intro hn h
  split at h
  ·rename_i q hq
   obtain ⟨h1, h2⟩ := needs_ok h
   obtain ⟨kn', h3⟩ := finV_ok h2
   refine ⟨q.1, kn', ⟨0, fun k _ => ?_⟩, h3⟩
   rw [exec_indep (c2 := noCall) hn]
   exact execS_ok hq h1
  ·exact h.elim
 unfold execV at h
 by_cases hm : O.mrk f rid i = true
 ·rw [if_pos hm] at h
  split at h
  ·rename_i x hx
   obtain ⟨b, h1, h2⟩ := lookF_ok (tk := O.take f rid i) hx h
   obtain ⟨kn', h3⟩ := finV_ok h2
   refine ⟨_, kn', ⟨0, fun k _ => ?_⟩, h3⟩
   unfold exec; rw [if_pos hm]
   exact h1
  split at h
  ·rename_i q hq
   obtain ⟨h1, h2⟩ := needs_ok h
   obtain ⟨kn', h3⟩ := finV_ok h2
   refine ⟨q.1, kn', ⟨0, fun k _ => ?_⟩, h3⟩
   unfold exec; rw [if_pos hm]
   exact execMS_ok hq h1
  ·exact h.elim
 rw [if_neg hm] at h
 split at h
 ·rename_i c a b hop
  have hx : ∀ (x : Bool), val s.get none c = .tv [] .bool x → exec O (callF P O 0) draw f rid i o s.get s.heap = some ⟨bif x then val s.get (O.ty o.type) a else val s.get (O.ty o.type) b, none, s.heap⟩ := by
   intro x hx; unfold exec; rw [if_neg hm]; simp only [exec0, hop, hx]
  have hi : ∀ k, exec O (callF P O k) draw f rid i o s.get s.heap = exec O (callF P O 0) draw f rid i o s.get s.heap := fun k => exec_indep (by intro x as tys e; rw [hop] at e; cases e)
  split at h
  ·rename_i own x hv
   have hx' : exec O (callF P O 0) draw f rid i o s.get s.heap = some ⟨bif x then val s.get (O.ty o.type) a else val s.get (O.ty o.type) b, none, s.heap⟩ := by
    unfold exec; rw [if_neg hm]; simp only [exec0, hop, hv]
   split at h
   ·cases x with
    | true => obtain ⟨kn', h3⟩ := finV_ok h; exact ⟨_, kn', ⟨0, fun k _ => (hi k).trans hx'⟩, h3⟩
    | false => obtain ⟨kn', h3⟩ := finV_ok h; exact ⟨_, kn', ⟨0, fun k _ => (hi k).trans hx'⟩, h3⟩
   ·split at h
    ·rename_i v hp
     obtain ⟨kn', h3⟩ := finV_ok h
     rw [pickS_ok hp] at hx'
     exact ⟨_, kn', ⟨0, fun k _ => (hi k).trans hx'⟩, h3⟩
    ·obtain ⟨kn1, y, hy, h2⟩ := brS_ok h
     obtain ⟨kn', h3⟩ := finV_ok h2
     rw [hv] at hy
     simp only [AV.tv.injEq, heq_eq_eq, true_and] at hy
     obtain ⟨_, rfl⟩ := hy
     exact ⟨_, kn', ⟨0, fun k _ => (hi k).trans hx'⟩, h3⟩
  ·exact h.elim
 ·rename_i x as tys hop
  split at h
  ·rename_i q first caps hv
   unfold callV at h
   split at h
   ·rename_i p hp
    rw [forceRH_eq] at h
    obtain ⟨a, h1, he, h⟩ := altV_ok h
    have hcl : ∃ r, callT O (fun _ _ _ => some (a, sameA p.2 h1)) draw (O.take f rid i) (O.far f rid i) o.dst q (first ++ argV O s.get ⟨.value x, as, tys⟩ ++ caps) s.heap = some r ∧ finV (sg.lit f) O f rid i o kn s r K := by
     cases hro : roK (O.far f rid i) && !O.take f rid i with
     | true =>
      rw [hro] at h
      simp only [cond_true] at h
      split at h
      ·rename_i r hr
       simp only [Bool.and_eq_true, Bool.not_eq_true'] at hro
       refine ⟨r, ?_, h.2⟩
       unfold callT
       have hf : farK O s.heap q (first ++ argV O s.get ⟨.value x, as, tys⟩ ++ caps) (O.far f rid i) = true := by
        unfold farK
        split
        ·rfl
        ·rename_i hX; rw [hro.1]; rfl
       rw [hf, hro.2, hr]
       simp [keepR_same h.1.out]
      ·exact h.elim
     | false =>
      rw [hro] at h
      simp only [cond_false] at h
      split at h
      ·rename_i r hr; exact ⟨r, hr, h⟩
      ·exact h.elim
    clear h
    obtain ⟨r, hr, h⟩ := hcl
    ·obtain ⟨kn', h3⟩ := finV_ok h
     obtain ⟨N, hN⟩ := he.out
     refine ⟨r, kn', ⟨N, fun k hk => ?_⟩, h3⟩
     unfold exec; rw [if_neg hm]; simp only [exec0, hop, callO, hv]
     exact callT_given hr hp (hN k hk)
   ·exact h.elim
  ·exact h.elim
 ·rename_i h1 h2
  exact dflt (fun x as tys e => h2 x as tys e) h
def stepV (P : Program) (O : Orc) (sg : Sig) (draw : Bool) (f : FuncId) (rid : Nat) (ops : Array Oper) (i : Nat) (o : Oper) (kn : Kn) (s : St) (K : Kn → St → Foot → Prop) : Prop := match o.guard with
  | none => execV P O sg draw f rid i o kn s K
  | some (j, b) => match (ops[j]?).bind (·.dst) with
    | some d => match s.get d with
      | .tv _ .bool _ => brS kn s (.tmp d) fun kn s y => bif y == b then execV P O sg draw f rid i o kn s K else K (knSet kn o.dst none) (s.app o.dst ⟨.no, none, s.heap⟩) .zero
      | .no => K (knSet kn o.dst none) (s.app o.dst ⟨.no, none, s.heap⟩) .zero
      | _ => False
    | none => False
def StE (P : Program) (O : Orc) (draw : Bool) (f : FuncId) (rid : Nat) (ops : Array Oper) (i : Nat) (o : Oper) (s : St) (r : Res) : Prop := ∃ K, ∀ k, K ≤ k → stepG O (callF P O k) draw f rid ops i o s.get s.heap = some r
theorem stepV_ok {K : Kn → St → Foot → Prop} (h : stepV P O sg draw f rid ops i o kn s K) : ∃ r kn', StE P O draw f rid ops i o s r ∧ K kn' (s.app o.dst r) (foot O f rid ops i o s.get) := by
 unfold stepV at h
 unfold StE stepG foot
 cases hg : o.guard with
 | none => rw [hg] at h; exact execV_ok h
 | some jb =>
  obtain ⟨j, b⟩ := jb
  rw [hg] at h
  simp only at h ⊢
  split at h
  ·rename_i d hd
   unfold yieldA
   rw [hd]
   simp only
   split at h
   ·rename_i own x hx
    obtain ⟨kn', y, hy, h2⟩ := brS_ok h
    simp only [val, hx, AV.drop, AV.tv.injEq, heq_eq_eq, true_and] at hy
    subst hy
    simp only [hx]
    cases hb : x == b with
    | true =>
     rw [hb] at h2
     simp only [cond_true] at h2 ⊢
     exact execV_ok h2
    | false =>
     rw [hb] at h2
     simp only [cond_false] at h2 ⊢
     exact ⟨_, _, ⟨0, fun _ _ => rfl⟩, h2⟩
   ·rename_i hx; simp only [hx]
    exact ⟨_, _, ⟨0, fun _ _ => rfl⟩, h⟩
   ·exact h.elim
  ·exact h.elim
def stepsV (P : Program) (O : Orc) (sg : Sig) (f : FuncId) (rid : Nat) (ops : Array Oper) (draw : Bool) : List Nat → Kn → St → (Kn → St → Prop) → Prop
 | [], kn, s, K => forceVS s fun s => K kn s
 | i :: r, kn, s, K => match ops[i]? with
  | none => False
  | some o => stepV P O sg draw f rid ops i o kn s fun kn s _ => stepsV P O sg f rid ops draw r kn s K
theorem stepsV_ok : ∀ (l : List Nat) (kn : Kn) (s : St) (K : Kn → St → Prop), stepsV P O sg f rid ops draw l kn s K → ∃ s' kn', (∃ N, ∀ k, N ≤ k → steps O (callF P O k) draw f rid ops l s = some s') ∧ K kn' s'
 | [], kn, s, K, h => by simp only [stepsV, forceVS_eq] at h; exact ⟨s, kn, ⟨0, fun _ _ => rfl⟩, h⟩
 | i :: l, kn, s, K, h => by
  simp only [stepsV] at h
  split at h
  ·exact h.elim
  ·rename_i o ho
   obtain ⟨r, kn1, ⟨N1, h1⟩, h2⟩ := stepV_ok h
   obtain ⟨s', kn', ⟨N2, h3⟩, h4⟩ := stepsV_ok l _ _ _ h2
   refine ⟨s', kn', ⟨max N1 N2, fun k hk => ?_⟩, h4⟩
   simp only [steps, step, ho, h1 k (by omega), Option.map_some, Option.bind_some]
   exact h3 k (by omega)
def stepsDV (P : Program) (O : Orc) (sg : Sig) (f : FuncId) (rid : Nat) (ops : Array Oper) (ah : List Nat) : List Nat → List (Nat × Foot) → Kn → St → (Kn → St → Prop) → Prop
 | [], _, kn, s, K => forceVS s fun s => K kn s
 | j :: r, acc, kn, s, K => match ops[j]? with
  | none => False
  | some o => stepV P O sg false f rid ops j o kn s fun kn s fj =>
   if acc.all fun p => (ah.getD j 0).testBit p.1 || (apartS O f rid ops p.1 j && compat p.2 fj) then stepsDV P O sg f rid ops ah r (acc ++ [(j, fj)]) kn s K else False
theorem stepsDV_ok {ah : List Nat} : ∀ (l : List Nat) (acc : List (Nat × Foot)) (kn : Kn) (s : St) (K : Kn → St → Prop), stepsDV P O sg f rid ops ah l acc kn s K → ∃ s' kn', (∃ N, ∀ k, N ≤ k → stepsD O (callF P O k) f rid ops ah l acc s = some s') ∧ K kn' s'
 | [], acc, kn, s, K, h => by simp only [stepsDV, forceVS_eq] at h; exact ⟨s, kn, ⟨0, fun _ _ => rfl⟩, h⟩
 | j :: l, acc, kn, s, K, h => by
  simp only [stepsDV] at h
  split at h
  ·exact h.elim
  ·rename_i o ho
   obtain ⟨r, kn1, ⟨N1, h1⟩, h2⟩ := stepV_ok h
   split at h2
   ·rename_i hc
    obtain ⟨s', kn', ⟨N2, h3⟩, h4⟩ := stepsDV_ok l _ _ _ _ h2
    refine ⟨s', kn', ⟨max N1 N2, fun k hk => ?_⟩, h4⟩
    simp only [stepsD, ho]
    rw [if_pos hc]
    simp only [step, ho, h1 k (by omega), Option.map_some, Option.bind_some]
    exact h3 k (by omega)
   ·exact h2.elim
end Go.Am
namespace Go.Am
variable {P : Program} {O : Orc} {f : FuncId} {call : CallF}
def writesO : List Oper → List Nat → List Nat
 | [], acc => acc
 | o :: r, acc => writesO r (match o.dst with | some d => d :: acc | none => acc)
def writesC : Code → List Nat → List Nat
 | .region _ ops _, acc => writesO ops.toList acc
 | .seq a b, acc => writesC b (writesC a acc)
 | .cond _ a b, acc => writesC b (writesC a acc)
 | .block _ a, acc => writesC a acc
 | .loop a, acc => writesC a acc
 | _, acc => acc
def Kp (i : Nat) (s s' : St) : Prop := s'.get i = s.get i ∨ s'.get i = (s.get i).drop ∨ s'.get i = .any
theorem Kp.refl (i : Nat) (s : St) : Kp i s s := .inl rfl
theorem Kp.trans {i : Nat} {a b c : St} (h : Kp i a b) (g : Kp i b c) : Kp i a c := by
 rcases g with g | g | g
 ·rcases h with h | h | h
  ·exact .inl (g.trans h)
  ·exact .inr (.inl (g.trans h))
  ·exact .inr (.inr (g.trans h))
 ·rcases h with h | h | h
  ·exact .inr (.inl (by rw [g, h]))
  ·exact .inr (.inl (by rw [g, h, AV.drop_drop]))
  ·exact .inr (.inr (by rw [g, h]; rfl))
 ·exact .inr (.inr g)
theorem writesO_acc : ∀ {l : List Oper} {acc : List Nat} {i : Nat}, i ∉ writesO l acc → i ∉ acc
 | [], _, _, h => h
 | o :: r, acc, i, h => by
  have := writesO_acc (l := r) h
  cases ho : o.dst with
  | none => rw [ho] at this; exact this
  | some d => rw [ho] at this; exact fun x => this (List.mem_cons_of_mem _ x)
theorem writesO_mem : ∀ {l : List Oper} {acc : List Nat} {i : Nat}, i ∉ writesO l acc → ∀ o ∈ l, o.dst ≠ some i
 | [], _, _, _, o, ho => by cases ho
 | o :: r, acc, i, h, q, hq => by
  rcases List.mem_cons.1 hq with rfl | hq
  ·intro e
   have := writesO_acc (l := r) h
   rw [e] at this
   exact this (List.mem_cons_self ..)
  ·exact writesO_mem (l := r) h q hq
theorem writesC_acc : ∀ {c : Code} {acc : List Nat} {i : Nat}, i ∉ writesC c acc → i ∉ acc
 | .region _ ops _, _, _, h => writesO_acc h
 | .seq a b, _, _, h => writesC_acc (c := a) (writesC_acc (c := b) h)
 | .cond _ a b, _, _, h => writesC_acc (c := a) (writesC_acc (c := b) h)
 | .block _ a, _, _, h => writesC_acc (c := a) h
 | .loop a, _, _, h => writesC_acc (c := a) h
 | .skip, _, _, h => h
 | .exit _, _, _, h => h
 | .ret, _, _, h => h
 | .label _, _, _, h => h
 | .goto _, _, _, h => h
 | .rangeFunc .., _, _, h => h
 | .scope _, _, _, h => h
 | .refuse _, _, _, h => h
theorem app_keep {s : St} {d : Option Nat} {r : Res} {i : Nat} (h : d ≠ some i) : Kp i s (s.app d r) := by
  have g : ∀ (e : List AV), (∀ j, e.getD j .any = s.get j ∨ e.getD j .any = (s.get j).drop) → ∀ h', Kp i s ⟨match d with | some d => e.set d r.a | none => e, h'⟩ := by
    intro e he h'
    cases d with
    | none => rcases he i with x | x
              · exact .inl x
              · exact .inr (.inl x)
    | some d =>
      have hd : ¬ (i = d ∧ d < e.length) := fun x => h (by rw [x.1])
      have : (e.set d r.a).getD i .any = e.getD i .any := by rw [getD_set, if_neg hd]
      rcases he i with x | x
      · exact .inl (this.trans x)
      · exact .inr (.inl (this.trans x))
  unfold St.app
  cases r.tk with
  | none => exact g _ (fun j => .inl rfl) _
  | some t =>
    refine g _ (fun j => ?_) _
    show (s.env.set t (s.env.getD t .any).drop).getD j .any = _ ∨ _
    rw [getD_set]
    split
    · rename_i hc; rw [hc.1]; exact .inr rfl
    · exact .inl rfl
theorem steps_keep {rid : Nat} {ops : Array Oper} {draw : Bool} {i : Nat} (h : ∀ o ∈ ops.toList, o.dst ≠ some i) : ∀ (l : List Nat) (s s' : St), steps O call draw f rid ops l s = some s' → Kp i s s'
 | [], s, s', e => by simp only [steps, Option.some.injEq] at e; subst e; exact Kp.refl _ _
 | j :: l, s, s', e => by
  simp only [steps, Option.bind_eq_some_iff] at e
  obtain ⟨s1, h1, h2⟩ := e
  unfold step at h1
  split at h1
  ·cases h1
  ·rename_i o ho
   simp only [Option.map_eq_some_iff] at h1
   obtain ⟨r, _, rfl⟩ := h1
   have hm : o ∈ ops.toList := by
    obtain ⟨hl, he⟩ := Array.getElem?_eq_some_iff.1 ho
    rw [← he]; exact Array.getElem_mem_toList hl
   exact (app_keep (h o hm)).trans (steps_keep h l _ _ h2)
theorem stepsD_keep {rid : Nat} {ops : Array Oper} {ah : List Nat} {i : Nat} (h : ∀ o ∈ ops.toList, o.dst ≠ some i) : ∀ (l : List Nat) (acc : List (Nat × Foot)) (s s' : St), stepsD O call f rid ops ah l acc s = some s' → Kp i s s'
 | [], acc, s, s', e => by simp only [stepsD, Option.some.injEq] at e; subst e; exact Kp.refl _ _
 | j :: l, acc, s, s', e => by
  simp only [stepsD] at e
  split at e
  ·cases e
  ·rename_i o ho
   split at e
   ·simp only [Option.bind_eq_some_iff] at e
    obtain ⟨s1, h1, h2⟩ := e
    unfold step at h1
    rw [ho] at h1
    simp only [Option.map_eq_some_iff] at h1
    obtain ⟨r, _, rfl⟩ := h1
    have hm : o ∈ ops.toList := by
     obtain ⟨hl, he⟩ := Array.getElem?_eq_some_iff.1 ho
     rw [← he]; exact Array.getElem_mem_toList hl
    exact (app_keep (h o hm)).trans (stepsD_keep h l _ _ _ h2)
   ·cases e
theorem keep_getD (l : List Nat) : ∀ (e : List AV) (n i : Nat), (keep l n e).getD i .any = if l.contains (n + i) then e.getD i .any else .any
 | [], n, i => by simp [keep]
 | a :: r, n, 0 => by simp only [keep, List.getD_cons_zero, Nat.add_zero]
 | a :: r, n, i + 1 => by
  simp only [keep, List.getD_cons_succ]
  rw [keep_getD l r (n + 1) i, show n + 1 + i = n + (i + 1) by omega]
theorem restrict_keep {l : List Nat × List Key} {s s' : St} {i : Nat} (h : restrict l s = some s') : Kp i s s' := by
 unfold restrict restrict0 at h
 simp only [Option.map_eq_some_iff] at h
 obtain ⟨s0, h, rfl⟩ := h
 split at h
 ·cases h
  show (keep l.1 0 s.env).getD i .any = _ ∨ _
  rw [keep_getD]
  by_cases hc : l.1.contains (0 + i) = true
  ·rw [if_pos hc]; exact .inl rfl
  ·right; right
   show (keep l.1 0 s.env).getD i .any = _
   rw [keep_getD, if_neg hc]
 ·cases h
theorem loopN_keep {body : St → Option (Ex × St)} {cut : St → Option St} {i : Nat} (hb : ∀ s q, body s = some q → Kp i s q.2) (hc : ∀ s s', cut s = some s' → Kp i s s') : ∀ (n : Nat) (s : St) (q : Ex × St), loopN body cut n s = some q → Kp i s q.2
 | 0, s, q, e => by simp [loopN] at e
 | n + 1, s, q, e => by
  simp only [loopN, Option.bind_eq_some_iff] at e
  obtain ⟨s1, h1, ⟨x, s2⟩, h2, e⟩ := e
  have k1 := (hc _ _ h1).trans (hb _ _ h2)
  cases x with
  | normal => exact k1.trans (loopN_keep hb hc n _ _ e)
  | exit id => simp only [Option.some.injEq] at e; subst e; exact k1
  | ret => simp only [Option.some.injEq] at e; subst e; exact k1
theorem evalC_keep {n i : Nat} : ∀ (c : Code) (acc : List Nat), i ∉ writesC c acc → ∀ (s : St) (q : Ex × St), evalC O call n f c s = some q → Kp i s q.2
 | .skip, acc, hw, s, q, e => by simp only [evalC, Option.some.injEq] at e; subst e; exact Kp.refl _ _
 | .region id ops draw, acc, hw, s, q, e => by
  simp only [evalC, Option.bind_eq_some_iff, forceS_eq, Option.some.injEq] at e
  obtain ⟨s', h1, rfl⟩ := e
  split at h1
  ·exact stepsD_keep (writesO_mem hw) _ _ _ _ h1
  ·exact steps_keep (writesO_mem hw) _ _ _ h1
 | .seq a b, acc, hw, s, q, e => by
  simp only [evalC, Option.bind_eq_some_iff] at e
  obtain ⟨⟨x, s1⟩, h1, e⟩ := e
  have k1 := evalC_keep a acc (writesC_acc hw) _ _ h1
  cases x with
  | normal => exact k1.trans (evalC_keep b _ hw _ _ e)
  | exit id => simp only [Option.some.injEq] at e; subst e; exact k1
  | ret => simp only [Option.some.injEq] at e; subst e; exact k1
 | .cond c a b, acc, hw, s, q, e => by
  simp only [evalC] at e
  split at e
  ·rename_i own x hv
   cases x with
   | true => exact evalC_keep a acc (writesC_acc hw) _ _ e
   | false => exact evalC_keep b _ hw _ _ e
  ·cases e
 | .block id a, acc, hw, s, q, e => by
  simp only [evalC, Option.map_eq_some_iff] at e
  obtain ⟨⟨x, s1⟩, h1, rfl⟩ := e
  have k1 := evalC_keep a acc hw _ _ h1
  cases x with
  | normal => exact k1
  | exit id' =>
   simp only at k1 ⊢
   split <;> exact k1
  | ret => exact k1
 | .loop a, acc, hw, s, q, e => by
  simp only [evalC] at e
  exact loopN_keep (fun s q => evalC_keep a acc hw s q) (fun s s' h => restrict_keep h) n s q e
 | .exit id, acc, hw, s, q, e => by simp only [evalC, Option.some.injEq] at e; subst e; exact Kp.refl _ _
 | .ret, acc, hw, s, q, e => by simp only [evalC, Option.some.injEq] at e; subst e; exact Kp.refl _ _
 | .label _, acc, hw, s, q, e => by simp [evalC] at e
 | .goto _, acc, hw, s, q, e => by simp [evalC] at e
 | .rangeFunc .., acc, hw, s, q, e => by simp [evalC] at e
 | .scope _, acc, hw, s, q, e => by simp [evalC] at e
 | .refuse _, acc, hw, s, q, e => by simp [evalC] at e
end Go.Am
namespace Go.Am
variable {P : Program} {O : Orc} {sg : Sig} {f : FuncId} {kn : Kn} {s : St}
def leavesD : (t : Ty) → den t → List Dat
 | .pair a b, x => leavesD a x.1 ++ leavesD b x.2
 | .unit, _ => []
 | .ref, _ => []
 | .wref, _ => []
 | .mref _ _, _ => []
 | .fnc, _ => []
 | .sref _, x => match (x : Option (Key × Nat × Nat × Nat)) with
  | none => []
  | some (_, N, _, len) => [⟨.int .i64, (N : Int)⟩, ⟨.int .i64, (len : Int)⟩]
 | t, x => [⟨t, x⟩]
def leavesO : (t : Ty) → den t → List Dat
 | .arr (γ + 1) _ u, x => [⟨.int .i64, ((γ : Nat) : Int)⟩, ⟨.slice u, x⟩]
 | t, x => leavesD t x
def vecD : (t : Ty) → den t → List Prop
 | .arr (_ + 1) n _, x => [n = List.length x]
 | _, _ => []
def vecP : Heap → List Prop
 | [] => []
 | (_, o) :: r => vecD o.d.t o.d.x ++ vecP r
def leavesA : AV → List Dat
 | .tv _ t x => leavesD t x
 | _ => []
def leavesE (W : List Nat) : Nat → List AV → List Dat
 | _, [] => []
 | i, a :: r => bif W.contains i then leavesA a ++ leavesE W (i + 1) r else leavesE W (i + 1) r
def leavesH (Z : List Key) : Heap → List Dat
 | [] => []
 | (k, o) :: r => bif Z.contains k then leavesH Z r else leavesO o.d.t o.d.x ++ leavesH Z r
def leavesS (Z : List Key) (W : List Nat) (s : St) : List Dat := leavesE W 0 s.env ++ leavesH Z s.heap
def fillD : (t : Ty) → den t → List Dat → Option (den t × List Dat)
 | .pair a b, x, l => (fillD a x.1 l).bind fun p => (fillD b x.2 p.2).map fun q => ((p.1, q.1), q.2)
 | .unit, _, l => some ((), l)
 | .ref, x, l => some (x, l)
 | .wref, x, l => some (x, l)
 | .mref _ _, x, l => some (x, l)
 | .fnc, x, l => some (x, l)
 | .sref _, x, l => match (x : Option (Key × Nat × Nat × Nat)) with
  | none => some ((none : Option (Key × Nat × Nat × Nat)), l)
  | some (k, _, lo, _) => match l with
   | ⟨.int .i64, a⟩ :: ⟨.int .i64, b⟩ :: l => some ((some (k, Int.toNat a, lo, Int.toNat b) : Option (Key × Nat × Nat × Nat)), l)
   | _ => none
 | t, _, l => match l with
  | [] => none
  | d :: l => if h : d.t = t then some (h ▸ d.x, l) else none
def fillO : (t : Ty) → den t → List Dat → Option (Dat × List Dat)
 | .arr (_ + 1) _ u, _, l => match l with
  | ⟨.int .i64, a⟩ :: d :: l => if h : d.t = .slice u then some (⟨.arr (Nat.succ (Int.toNat a)) (List.length (h ▸ d.x : den (.slice u))) u, (h ▸ d.x : den (.slice u))⟩, l) else none
  | _ => none
 | t, x, l => (fillD t x l).map fun p => (⟨t, p.1⟩, p.2)
def fillA : AV → List Dat → Option (AV × List Dat)
 | .tv own t x, l => (fillD t x l).map fun p => (.tv own t p.1, p.2)
 | a, l => some (a, l)
def fillE (W : List Nat) : Nat → List AV → List Dat → Option (List AV × List Dat)
 | _, [], l => some ([], l)
 | i, a :: r, l => bif W.contains i then (fillA a l).bind fun p => (fillE W (i + 1) r p.2).map fun q => (p.1 :: q.1, q.2) else (fillE W (i + 1) r l).map fun q => (a :: q.1, q.2)
def fillH (Z : List Key) : Heap → List Dat → Option (Heap × List Dat)
 | [], l => some ([], l)
 | (k, o) :: r, l => bif Z.contains k then (fillH Z r l).map fun q => ((k, o) :: q.1, q.2) else (fillO o.d.t o.d.x l).bind fun p => (fillH Z r p.2).map fun q => ((k, ⟨p.1, o.own⟩) :: q.1, q.2)
def fillS (Z : List Key) (W : List Nat) (s : St) (l : List Dat) : Option St := (fillE W 0 s.env l).bind fun p => (fillH Z s.heap p.2).bind fun q => match q.2 with
 | [] => some ⟨p.1, q.1⟩
 | _ => none
@[reducible] def CurL : List Ty → Type → Type
 | [], R => R
 | t :: ts, R => den t → CurL ts R
def apL {R : Type} : (ts : List Ty) → CurL ts R → List Dat → Option R
 | [], r, [] => some r
 | t :: ts, f, d :: ds => if h : d.t = t then apL ts (f (h ▸ d.x)) ds else none
 | _, _, _ => none
def allL : (ts : List Ty) → (List Dat → Prop) → Prop
 | [], k => k []
 | t :: ts, k => ∀ x : den t, allL ts fun l => k (⟨t, x⟩ :: l)
theorem allL_ok : ∀ {ts : List Ty} {k : List Dat → Prop} (ds : List Dat), allL ts k → ds.map Dat.t = ts → k ds
 | [], k, [], h, _ => h
 | t :: ts, k, d :: ds, h, e => by
  simp only [List.map_cons, List.cons.injEq] at e
  obtain ⟨e1, e2⟩ := e
  obtain ⟨dt, dx⟩ := d
  simp only at e1
  subst e1
  exact allL_ok (k := fun l => k (⟨dt, dx⟩ :: l)) ds (h dx) e2
 | [], k, _ :: _, _, e => by simp at e
 | _ :: _, k, [], _, e => by simp at e
def yes (p : Option Prop) (k : Prop → Prop) : Prop := match p with
 | some p => k p
 | none => False
def less (a b : Option Nat) : Prop := match a, b with
 | some a, some b => Need (a < b)
 | _, _ => False
def refsB : (t : Ty) → den t → den t → Bool
 | .pair a b, x, y => refsB a x.1 y.1 && refsB b x.2 y.2
 | .ref, x, y => decide ((x : Option Key) = y)
 | .wref, x, y => decide ((x : Option Key) = y)
 | .mref _ _, x, y => decide ((x : Option Key) = y)
 | .fnc, x, y => decide ((x : Option Nat) = y)
 | .sref _, x, y => match (x : Option (Key × Nat × Nat × Nat)), (y : Option (Key × Nat × Nat × Nat)) with
  | none, none => true
  | some (k, _, lo, _), some (k', _, lo', _) => decide (k = k') && decide (lo = lo')
  | _, _ => false
 | _, _, _ => true
def likeO : (t : Ty) → den t → (t' : Ty) → den t' → Bool
 | .arr (_ + 1) _ u, _, .arr (_ + 1) _ u', _ => decide (u' = u)
 | t, x, t', y => match decEq t' t with | .isTrue h => refsB t x (h ▸ y) | .isFalse _ => false
def likeA (a0 a : AV) : Bool := match a with
 | .any => match a0 with | .any => true | _ => false
 | .tv own _ _ => match a0 with | .tv own' _ _ => decide (own = own') | _ => false
 | _ => true
def likeW (a0 a : AV) : Bool := match a0, a with
 | .tv own t x, .tv own' t' y => decide (own' = own) && (match decEq t' t with | .isTrue h => refsB t x (h ▸ y) | .isFalse _ => false)
 | .any, .any => true
 | .no, .no => true
 | .op q p, .op q' p' => decide (q = q') && decide (p = p')
 | _, _ => false
def likeE (W : List Nat) : Nat → List AV → List AV → Bool
 | _, [], [] => true
 | i, a0 :: r0, a :: r => (bif W.contains i then likeW a0 a else likeA a0 a) && likeE W (i + 1) r0 r
 | _, _, _ => false
def likeH (Z : List Key) : Heap → Heap → Bool
 | [], [] => true
 | (k, o) :: r, (k', o') :: r' => decide (k' = k) && decide (o'.own = o.own) && (bif Z.contains k then (match decEq o'.d.t o.d.t with | .isTrue _ => true | .isFalse _ => false) else likeO o.d.t o.d.x o'.d.t o'.d.x) && likeH Z r r'
 | _, _ => false
def likeS (Z : List Key) (W : List Nat) (s0 s : St) : Bool := likeE W 0 s0.env s.env && likeH Z s0.heap s.heap
def frzP (Z : List Key) : Heap → Heap → List Prop
 | (k, o) :: r, (_, o') :: r' => bif Z.contains k then (match decEq o'.d.t o.d.t with | .isTrue h => o.d.x = h ▸ o'.d.x | .isFalse _ => False) :: frzP Z r r' else frzP Z r r'
 | _, _ => []
def conj : List Prop → Prop
 | [] => True
 | p :: l => match l with
  | [] => p
  | _ :: _ => p ∧ conj l
theorem conj_ok : ∀ {l : List Prop}, conj l → Holds l
 | [], _ => trivial
 | [p], h => ⟨h, trivial⟩
 | p :: q :: l, h => ⟨h.1, conj_ok (l := q :: l) h.2⟩
def needC (l : List Prop) (k : Prop) : Prop := match l with
 | [] => k
 | p :: l => Need (conj (p :: l)) ∧ k
theorem needC_ok {l : List Prop} {k : Prop} (h : needC l k) : Holds l ∧ k := by
 cases l with
 | nil => exact ⟨trivial, h⟩
 | cons p l => exact ⟨conj_ok h.1.out, h.2⟩
theorem fillD_leaves : ∀ (t : Ty) (x y : den t) (r : List Dat), refsB t x y = true → fillD t x (leavesD t y ++ r) = some (y, r)
 | .pair a b, x, y, r, h => by
  simp only [refsB, Bool.and_eq_true] at h
  simp only [leavesD, fillD, List.append_assoc, fillD_leaves a _ _ _ h.1, Option.bind_some, fillD_leaves b _ _ _ h.2, Option.map_some]
 | .unit, x, y, r, h => rfl
 | .ref, x, y, r, h => by
  simp only [refsB, decide_eq_true_eq] at h
  simp only [leavesD, fillD, List.nil_append, h]
 | .wref, x, y, r, h => by
  simp only [refsB, decide_eq_true_eq] at h
  simp only [leavesD, fillD, List.nil_append, h]
 | .mref _ _, x, y, r, h => by
  simp only [refsB, decide_eq_true_eq] at h
  simp only [leavesD, fillD, List.nil_append, h]
 | .fnc, x, y, r, h => by
  simp only [refsB, decide_eq_true_eq] at h
  simp only [leavesD, fillD, List.nil_append, h]
 | .sref _, none, none, r, h => rfl
 | .sref _, some (k, N, lo, len), some (k', N', lo', len'), r, h => by
  simp only [refsB, Bool.and_eq_true, decide_eq_true_eq] at h
  obtain ⟨rfl, rfl⟩ := h
  rfl
 | .sref _, none, some _, r, h => by simp [refsB] at h
 | .sref _, some _, none, r, h => by simp [refsB] at h
 | .mp _ _, x, y, r, h => by simp [leavesD, fillD]
 | .int _, x, y, r, h => by simp [leavesD, fillD]
 | .bool, x, y, r, h => by simp [leavesD, fillD]
 | .str, x, y, r, h => by simp [leavesD, fillD]
 | .expr, x, y, r, h => by simp [leavesD, fillD]
 | .slice _, x, y, r, h => by simp [leavesD, fillD]
 | .arr _ _ _, x, y, r, h => by simp [leavesD, fillD]
theorem leavesO_of {t : Ty} (x : den t) (hg : t.grow = false) : leavesO t x = leavesD t x := by
 cases t with
 | arr g n u => cases g with
  | succ _ => cases hg
  | zero => rfl
 | _ => rfl
theorem fillO_of {t : Ty} (x : den t) (l : List Dat) (hg : t.grow = false) : fillO t x l = (fillD t x l).map fun p => (⟨t, p.1⟩, p.2) := by
 cases t with
 | arr g n u => cases g with
  | succ _ => cases hg
  | zero => rfl
 | _ => rfl
theorem likeO_of {t t' : Ty} (x : den t) (y : den t') (hg : t.grow = false) : likeO t x t' y = match decEq t' t with | .isTrue h => refsB t x (h ▸ y) | .isFalse _ => false := by
 cases t with
 | arr g n u => cases g with
  | succ _ => cases hg
  | zero => rfl
 | _ => rfl
theorem fillO_leaves {t t' : Ty} {x : den t} {y : den t'} (r : List Dat) (h : likeO t x t' y = true) (hv : Holds (vecD t' y)) : fillO t x (leavesO t' y ++ r) = some (⟨t', y⟩, r) := by
 cases hg : t.grow with
 | false =>
  rw [likeO_of x y hg] at h
  split at h
  ·rename_i ht _
   subst ht
   rw [leavesO_of _ hg, fillO_of _ _ hg, fillD_leaves _ _ _ _ h]; rfl
  ·cases h
 | true =>
  cases t with
  | arr g n u =>
   cases g with
   | zero => cases hg
   | succ g =>
    cases t' with
    | arr g' n' u' =>
     cases g' with
     | succ g' =>
      simp only [likeO, decide_eq_true_eq] at h
      subst h
      simp only [vecD, Holds] at hv
      simp only [fillO, leavesO, List.cons_append, List.nil_append, dite_true, Int.toNat_natCast]
      rw [hv.1]
     | zero =>
      simp only [likeO] at h
      split at h
      ·rename_i ht _; cases ht
      ·cases h
    | _ =>
     simp only [likeO] at h
     split at h
     ·rename_i ht _; cases ht
     ·cases h
  | _ => cases hg
theorem likeW_fill {a0 a : AV} (r : List Dat) (h : likeW a0 a = true) : fillA a0 (leavesA a ++ r) = some (a, r) := by
 unfold likeW at h
 split at h
 ·simp only [Bool.and_eq_true, decide_eq_true_eq] at h
  obtain ⟨h1, h2⟩ := h
  split at h2
  ·rename_i ht _
   subst ht; subst h1
   simp only [fillA, leavesA, fillD_leaves _ _ _ _ h2, Option.map_some]
  ·cases h2
 ·rfl
 ·rfl
 ·simp only [Bool.and_eq_true, decide_eq_true_eq] at h
  obtain ⟨rfl, rfl⟩ := h
  rfl
 ·cases h
theorem likeA_same {a0 a : AV} (hk : a = a0 ∨ a = a0.drop ∨ a = .any) (h : likeA a0 a = true) : a = a0 := by
 rcases hk with hk | hk | hk
 ·exact hk
 ·cases a0 with
  | tv own t x =>
   subst hk
   simp only [likeA, AV.drop, decide_eq_true_eq] at h
   rw [← h]; rfl
  | _ => exact hk
 ·subst hk
  simp only [likeA] at h
  split at h
  ·rfl
  ·cases h
theorem likeE_fill {W : List Nat} : ∀ (i : Nat) (e0 e : List AV) (r : List Dat), (∀ j, (i + j) ∉ W → e.getD j .any = e0.getD j .any ∨ e.getD j .any = (e0.getD j .any).drop ∨ e.getD j .any = .any) → likeE W i e0 e = true → fillE W i e0 (leavesE W i e ++ r) = some (e, r)
 | i, [], [], r, _, _ => rfl
 | i, a0 :: r0, a :: r', r, hk, h => by
  simp only [likeE, Bool.and_eq_true] at h
  obtain ⟨h1, h2⟩ := h
  have ih := likeE_fill (i + 1) r0 r' r (fun j hj => by have := hk (j + 1) (by rwa [show i + (j + 1) = i + 1 + j by omega]); simpa only [List.getD_cons_succ] using this) h2
  cases hc : W.contains i with
  | true =>
   rw [hc] at h1
   simp only [leavesE, fillE, hc, cond_true, List.append_assoc] at h1 ⊢
   simp only [likeW_fill _ h1, Option.bind_some, ih, Option.map_some]
  | false =>
   rw [hc] at h1
   simp only [leavesE, fillE, hc, cond_false] at h1 ⊢
   have := hk 0 (by simpa using hc)
   simp only [List.getD_cons_zero] at this
   simp only [ih, Option.map_some, likeA_same this h1]
 | i, [], _ :: _, r, _, h => by simp [likeE] at h
 | i, _ :: _, [], r, _, h => by simp [likeE] at h
theorem likeH_fill {Z : List Key} : ∀ (h0 h : Heap) (r : List Dat), likeH Z h0 h = true → Holds (frzP Z h0 h) → Holds (vecP h) → fillH Z h0 (leavesH Z h ++ r) = some (h, r)
 | [], [], r, _, _, _ => rfl
 | (k, o) :: r0, (k', o') :: r', r, h, hz, hv => by
  simp only [likeH, Bool.and_eq_true, decide_eq_true_eq] at h
  obtain ⟨⟨⟨rfl, h2⟩, h3⟩, h4⟩ := h
  obtain ⟨⟨t, x⟩, own⟩ := o
  obtain ⟨⟨t', x'⟩, own'⟩ := o'
  simp only at h2 h3
  subst h2
  simp only [vecP, Holds.append] at hv
  cases hc : Z.contains k' with
  | true =>
   rw [hc] at h3
   simp only [cond_true] at h3
   have ht' : t' = t := by
    split at h3
    ·rename_i ht _; exact ht
    ·cases h3
   subst ht'
   simp only [frzP, hc, cond_true, Holds] at hz
   have hx : x = x' := by
    have := hz.1
    split at this
    ·exact this
    ·exact this.elim
   simp only [leavesH, fillH, hc, cond_true, likeH_fill r0 r' r h4 hz.2 hv.2, Option.map_some, hx]
  | false =>
   simp only [frzP, hc, cond_false] at hz
   rw [hc] at h3
   simp only [cond_false] at h3
   simp only [leavesH, fillH, hc, cond_false, List.append_assoc, fillO_leaves _ h3 hv.1, Option.bind_some, likeH_fill r0 r' r h4 hz hv.2, Option.map_some]
 | [], _ :: _, r, h, _, _ => by simp [likeH] at h
 | _ :: _, [], r, h, _, _ => by simp [likeH] at h
theorem likeS_fill {Z : List Key} {W : List Nat} {s0 s : St} (hk : ∀ i, i ∉ W → Kp i s0 s) (h : likeS Z W s0 s = true) (hz : Holds (frzP Z s0.heap s.heap)) (hv : Holds (vecP s.heap)) : fillS Z W s0 (leavesS Z W s) = some s := by
 simp only [likeS, Bool.and_eq_true] at h
 have h1 := likeE_fill 0 s0.env s.env (leavesH Z s.heap) (fun j hj => hk j (by simpa using hj)) h.1
 have h2 := likeH_fill s0.heap s.heap [] h.2 hz hv
 simp only [List.append_nil] at h2
 simp only [fillS, leavesS, h1, Option.bind_some, h2]
theorem fillE_keep {W : List Nat} : ∀ (i : Nat) (e0 : List AV) (l : List Dat) (q : List AV × List Dat), fillE W i e0 l = some q → ∀ j, (i + j) ∉ W → q.1.getD j .any = e0.getD j .any
 | i, [], l, q, h, j, hj => by simp only [fillE, Option.some.injEq] at h; rw [← h]
 | i, a0 :: r0, l, q, h, j, hj => by
  simp only [fillE] at h
  cases hc : W.contains i with
  | true =>
   rw [hc] at h
   simp only [cond_true, Option.bind_eq_some_iff, Option.map_eq_some_iff] at h
   obtain ⟨p, h1, q', h2, rfl⟩ := h
   cases j with
   | zero => exact absurd (by simpa using hc) hj
   | succ j =>
    simp only [List.getD_cons_succ]
    exact fillE_keep (i + 1) r0 _ _ h2 j (by rwa [show i + 1 + j = i + (j + 1) by omega])
  | false =>
   rw [hc] at h
   simp only [cond_false, Option.map_eq_some_iff] at h
   obtain ⟨q', h2, rfl⟩ := h
   cases j with
   | zero => rfl
   | succ j =>
    simp only [List.getD_cons_succ]
    exact fillE_keep (i + 1) r0 _ _ h2 j (by rwa [show i + 1 + j = i + (j + 1) by omega])
theorem fillS_keep {Z : List Key} {W : List Nat} {s0 s : St} {l : List Dat} (h : fillS Z W s0 l = some s) (i : Nat) (hi : i ∉ W) : s.get i = s0.get i := by
 simp only [fillS, Option.bind_eq_some_iff] at h
 obtain ⟨p, h1, q, h2, h3⟩ := h
 split at h3
 ·cases h3
  exact fillE_keep 0 s0.env l p h1 i (by simpa using hi)
 ·cases h3
def tysB : List Ty → List Dat → Bool
 | [], [] => true
 | t :: ts, d :: ds => decide (d.t = t) && tysB ts ds
 | _, _ => false
theorem tysB_ok : ∀ {ts : List Ty} {ds : List Dat}, tysB ts ds = true → ds.map Dat.t = ts
 | [], [], _ => rfl
 | t :: ts, d :: ds, h => by
  simp only [tysB, Bool.and_eq_true, decide_eq_true_eq] at h
  rw [List.map_cons, h.1, tysB_ok h.2]
 | [], _ :: _, h => by simp [tysB] at h
 | _ :: _, [], h => by simp [tysB] at h
abbrev KC := Ex → Kn → St → Prop
def fillV (Z : List Key) (W : List Nat) (s0 : St) (ds : List Dat) (k : St → Prop) : Prop := match fillS Z W s0 ds with
 | some s => forceVS s k
 | none => False
theorem fillV_ok {Z : List Key} {W : List Nat} {s0 : St} {ds : List Dat} {k : St → Prop} (h : fillV Z W s0 ds k) : ∃ s, fillS Z W s0 ds = some s ∧ k s := by
 unfold fillV at h
 split at h
 ·rename_i s hs; rw [forceVS_eq] at h; exact ⟨s, hs, h⟩
 ·exact h.elim
def nextV (last : St → Prop) (cut : St → Option St) (Z : List Key) (W : List Nat) (s0 : St) (ts : List Ty) (I : CurL ts Prop) (m : CurL ts Nat) (ds : List Dat) (s2 : St) : Prop := match cut s2 with
 | some s3 => forceVS s3 fun s3 => bif tysB ts (leavesS Z W s3) && likeS Z W s0 s3 then needC (frzP Z s0.heap s3.heap ++ vecP s3.heap) (yes (apL ts I (leavesS Z W s3)) (fun p => p ∧ less (apL ts m (leavesS Z W s3)) (apL ts m ds))) else last s3
 | none => False
def loopV (body : Kn → St → KC → Prop) (cut : St → Option St) (Z : List Key) (W : List Nat) (s : St) (K : KC) : Prop := match cut s with
 | none => False
 | some s0 => forceVS s0 fun s0 => ∃ I : CurL ((leavesS Z W s0).map Dat.t) Prop, ∃ m : CurL ((leavesS Z W s0).map Dat.t) Nat, bif likeS Z W s0 s0 then needC (vecP s0.heap) <| yes (apL _ I (leavesS Z W s0)) fun p => p ∧
  allL ((leavesS Z W s0).map Dat.t) fun ds => yes (apL _ I ds) fun p => p → fillV Z W s0 ds fun s1 => body [] s1 fun e kn s2 => match e with
   | .normal => nextV (fun s3 => body [] s3 fun e kn s => match e with
    | .normal => False
    | .exit id => K (.exit id) kn s
    | .ret => K .ret kn s) cut Z W s0 ((leavesS Z W s0).map Dat.t) I m ds s2
   | e => K e kn s2 else False
def codeV (P : Program) (O : Orc) (sg : Sig) (f : FuncId) : Code → Kn → St → KC → Prop
 | .skip, kn, s, K => K .normal kn s
 | .region id ops draw, kn, s, K => if draw && O.ban f id then stepsDV P O sg f id ops (aheads ops.toList []) (List.range ops.size) [] kn s (K .normal) else stepsV P O sg f id ops draw (List.range ops.size) kn s (K .normal)
 | .seq a b, kn, s, K => codeV P O sg f a kn s fun e kn s => match e with
  | .normal => codeV P O sg f b kn s K
  | .exit id => K (.exit id) kn s
  | .ret => K .ret kn s
 | .cond c a b, kn, s, K => brS kn s c fun kn s y => bif y then codeV P O sg f a kn s K else codeV P O sg f b kn s K
 | .block id a, kn, s, K => codeV P O sg f a kn s fun e kn s => match e with
  | .exit id' => if id' = id then K .normal kn s else K (.exit id') kn s
  | .normal => K .normal kn s
  | .ret => K .ret kn s
 | .loop a, _, s, K => loopV (codeV P O sg f a) (restrict (O.live f (firstReg a))) (sg.fz f) (writesC a []) s K
 | .exit id, kn, s, K => K (.exit id) kn s
 | .ret, kn, s, K => K .ret kn s
 | _, _, _, _ => False
def Big (P : Program) (O : Orc) (f : FuncId) (c : Code) (s : St) (q : Ex × St) : Prop := ∃ N, ∀ k n, N ≤ k → N ≤ n → evalC O (callF P O k) n f c s = some q
def BigL (P : Program) (O : Orc) (f : FuncId) (c : Code) (cut : St → Option St) (s : St) (q : Ex × St) : Prop := ∃ N, ∀ k n j, N ≤ k → N ≤ n → N ≤ j → loopN (evalC O (callF P O k) n f c) cut j s = some q
theorem frz_refl (Z : List Key) : ∀ h : Heap, Holds (frzP Z h h)
 | [] => trivial
 | (k, o) :: r => by
  unfold frzP
  cases Z.contains k with
  | true =>
   simp only [cond_true, Holds]
   refine ⟨?_, frz_refl Z r⟩
   split
   ·first | trivial | rfl
   ·rename_i h _; exact absurd rfl h
  | false => exact frz_refl Z r
theorem codeV_loop {c : Code} (ih : ∀ (kn : Kn) (s : St) (K : KC), codeV P O sg f c kn s K → ∃ e s' kn', Big P O f c s (e, s') ∧ K e kn' s') {cut : St → Option St} {Z : List Key} {W : List Nat} {K : KC} (hcut : ∀ s s0, cut s = some s0 → ∀ i, Kp i s s0)
  (hW : ∀ i, i ∉ W → ∀ s q, Big P O f c s q → Kp i s q.2)
  (h : loopV (codeV P O sg f c) cut Z W s K) : ∃ e s' kn', BigL P O f c cut s (e, s') ∧ K e kn' s' := by
 unfold loopV at h
 split at h
 ·exact h.elim
 ·rename_i s0 hs0
  simp only [forceVS_eq] at h
  obtain ⟨I, m, h⟩ := h
  generalize hts : (leavesS Z W s0).map Dat.t = ts at *
  cases hlk : likeS Z W s0 s0 with
  | false => rw [hlk] at h; exact h.elim
  | true =>
  rw [hlk] at h
  simp only [cond_true] at h
  obtain ⟨hv0, h⟩ := needC_ok h
  have hf := likeS_fill (fun i _ => Kp.refl i s0) hlk (frz_refl Z s0.heap) hv0
  unfold yes at h
  split at h
  ·rename_i p hp
   obtain ⟨hp1, hall⟩ := h
   have main : ∀ (n : Nat) (ds : List Dat) (q : Prop) (b : Nat) (s2 sx : St), apL ts I ds = some q → q → apL ts m ds = some b → b = n → fillS Z W s0 ds = some s2 → ds.map Dat.t = ts → cut sx = some s2 → ∃ e s' kn', BigL P O f c cut sx (e, s') ∧ K e kn' s' := by
    intro n
    induction n using Nat.strongRecOn with
    | _ n IH =>
     intro ds q b s2 sx hI hq hm hb hfs hty hcx
     have h1 := allL_ok ds hall hty
     rw [hI] at h1
     simp only at h1
     obtain ⟨s3, hf3, h2⟩ := fillV_ok (h1 hq)
     rw [hfs] at hf3
     cases hf3
     obtain ⟨e, s', kn', hBig, h3⟩ := ih _ _ _ h2
     have hkp : ∀ i, i ∉ W → Kp i s0 s' := fun i hi => by
      have := hW i hi _ _ hBig
      have e1 := fillS_keep hfs i hi
      unfold Kp at this ⊢
      rw [← e1]; exact this
     obtain ⟨N, hN⟩ := hBig
     cases e with
     | normal =>
      simp only at h3
      unfold nextV at h3
      split at h3
      ·rename_i s4 hs4
       rw [forceVS_eq] at h3
       cases htb : tysB ts (leavesS Z W s4) && likeS Z W s0 s4 with
       | false =>
        rw [htb] at h3
        simp only [cond_false] at h3
        obtain ⟨e2, s5, kn5, ⟨N2, hN2⟩, h5⟩ := ih _ _ _ h3
        cases e2 with
        | normal => exact h5.elim
        | exit id =>
         refine ⟨.exit id, s5, kn5, ⟨max N N2 + 2, fun k n j hk hn hj => ?_⟩, h5⟩
         obtain ⟨j, rfl⟩ : ∃ u, j = u + 2 := ⟨j - 2, by omega⟩
         simp only [loopN, hcx, Option.bind_some, hN k n (by omega) (by omega), hs4, hN2 k n (by omega) (by omega)]
        | ret =>
         refine ⟨.ret, s5, kn5, ⟨max N N2 + 2, fun k n j hk hn hj => ?_⟩, h5⟩
         obtain ⟨j, rfl⟩ : ∃ u, j = u + 2 := ⟨j - 2, by omega⟩
         simp only [loopN, hcx, Option.bind_some, hN k n (by omega) (by omega), hs4, hN2 k n (by omega) (by omega)]
       | true =>
        rw [htb] at h3
        simp only [cond_true] at h3
        simp only [Bool.and_eq_true] at htb
        obtain ⟨hz, h3⟩ := needC_ok h3
        rw [Holds.append] at hz
        have hf5 := likeS_fill (fun i hi => (hkp i hi).trans (hcut _ _ hs4 i)) htb.2 hz.1 hz.2
        unfold yes at h3
        split at h3
        ·rename_i p' hp'
         obtain ⟨hp'', hl⟩ := h3
         unfold less at hl
         split at hl
         ·rename_i a b' ha hb'
          rw [hm] at hb'
          cases hb'
          obtain ⟨e, s'', kn'', ⟨N', hN'⟩, h5⟩ := IH a (by have := hl.out; omega) _ _ _ _ s' hp' hp'' ha rfl hf5 (tysB_ok htb.1) hs4
          refine ⟨e, s'', kn'', ⟨max N N' + 1, fun k n j hk hn hj => ?_⟩, h5⟩
          cases j with
          | zero => omega
          | succ j =>
           simp only [loopN, hcx, Option.bind_some, hN k n (by omega) (by omega)]
           exact hN' k n j (by omega) (by omega) (by omega)
         ·exact hl.elim
        ·exact h3.elim
      ·exact h3.elim
     | exit id =>
      refine ⟨.exit id, s', kn', ⟨N + 1, fun k n j hk hn hj => ?_⟩, h3⟩
      cases j with
      | zero => omega
      | succ j => simp only [loopN, hcx, Option.bind_some, hN k n (by omega) (by omega)]
     | ret =>
      refine ⟨.ret, s', kn', ⟨N + 1, fun k n j hk hn hj => ?_⟩, h3⟩
      cases j with
      | zero => omega
      | succ j => simp only [loopN, hcx, Option.bind_some, hN k n (by omega) (by omega)]
   cases hm : apL ts m (leavesS Z W s0) with
   | none =>
    exfalso
    exact absurd hm (apL_some ts m _ hts)
   | some b => exact main b (leavesS Z W s0) p b s0 s hp hp1 hm rfl hf hts hs0
  ·exact h.elim
 where
 apL_some {R : Type} : ∀ (ts : List Ty) (m : CurL ts R) (ds : List Dat), ds.map Dat.t = ts → apL ts m ds ≠ none
  | [], m, [], _ => by simp [apL]
  | t :: ts, m, d :: ds, e => by
   simp only [List.map_cons, List.cons.injEq] at e
   obtain ⟨e1, e2⟩ := e
   simp only [apL]
   rw [dif_pos e1]
   exact apL_some ts _ ds e2
  | [], m, _ :: _, e => by simp at e
  | _ :: _, m, [], e => by simp at e
theorem codeV_ok : ∀ (c : Code) (kn : Kn) (s : St) (K : KC), codeV P O sg f c kn s K → ∃ e s' kn', Big P O f c s (e, s') ∧ K e kn' s'
 | .skip, kn, s, K, h => ⟨.normal, s, kn, ⟨0, fun _ _ _ _ => rfl⟩, h⟩
 | .region id ops draw, kn, s, K, h => by
  simp only [codeV] at h
  split at h
  ·rename_i hc
   obtain ⟨s', kn', ⟨N, hN⟩, h1⟩ := stepsDV_ok _ _ _ _ _ h
   exact ⟨.normal, s', kn', ⟨N, fun k n hk hn => by simp only [evalC, if_pos hc, hN k hk, Option.bind_some, forceS_eq]⟩, h1⟩
  ·rename_i hc
   obtain ⟨s', kn', ⟨N, hN⟩, h1⟩ := stepsV_ok _ _ _ _ h
   exact ⟨.normal, s', kn', ⟨N, fun k n hk hn => by simp only [evalC, if_neg hc, hN k hk, Option.bind_some, forceS_eq]⟩, h1⟩
 | .seq a b, kn, s, K, h => by
  simp only [codeV] at h
  obtain ⟨e, s1, kn1, ⟨N, hN⟩, h1⟩ := codeV_ok a _ _ _ h
  cases e with
  | normal =>
   obtain ⟨e, s2, kn2, ⟨N', hN'⟩, h2⟩ := codeV_ok b _ _ _ h1
   exact ⟨e, s2, kn2, ⟨max N N', fun k n hk hn => by simp only [evalC, hN k n (by omega) (by omega), Option.bind_some, hN' k n (by omega) (by omega)]⟩, h2⟩
  | exit id => exact ⟨.exit id, s1, kn1, ⟨N, fun k n hk hn => by simp only [evalC, hN k n hk hn, Option.bind_some]⟩, h1⟩
  | ret => exact ⟨.ret, s1, kn1, ⟨N, fun k n hk hn => by simp only [evalC, hN k n hk hn, Option.bind_some]⟩, h1⟩
 | .cond c a b, kn, s, K, h => by
  simp only [codeV] at h
  obtain ⟨kn1, y, hy, h1⟩ := brS_ok h
  cases y with
  | true =>
   obtain ⟨e, s2, kn2, ⟨N', hN'⟩, h2⟩ := codeV_ok a _ _ _ h1
   exact ⟨e, s2, kn2, ⟨N', fun k n hk hn => by simp only [evalC, hy, cond_true]; exact hN' k n hk hn⟩, h2⟩
  | false =>
   obtain ⟨e, s2, kn2, ⟨N', hN'⟩, h2⟩ := codeV_ok b _ _ _ h1
   exact ⟨e, s2, kn2, ⟨N', fun k n hk hn => by simp only [evalC, hy, cond_false]; exact hN' k n hk hn⟩, h2⟩
 | .block id a, kn, s, K, h => by
  simp only [codeV] at h
  obtain ⟨e, s1, kn1, ⟨N, hN⟩, h1⟩ := codeV_ok a _ _ _ h
  cases e with
  | normal => exact ⟨.normal, s1, kn1, ⟨N, fun k n hk hn => by simp only [evalC, hN k n hk hn, Option.map_some]⟩, h1⟩
  | exit id' =>
   simp only at h1
   by_cases hid : id' = id
   ·rw [if_pos hid] at h1; exact ⟨.normal, s1, kn1, ⟨N, fun k n hk hn => by simp only [evalC, hN k n hk hn, Option.map_some, if_pos hid]⟩, h1⟩
   ·rw [if_neg hid] at h1; exact ⟨.exit id', s1, kn1, ⟨N, fun k n hk hn => by simp only [evalC, hN k n hk hn, Option.map_some, if_neg hid]⟩, h1⟩
  | ret => exact ⟨.ret, s1, kn1, ⟨N, fun k n hk hn => by simp only [evalC, hN k n hk hn, Option.map_some]⟩, h1⟩
 | .loop a, kn, s, K, h => by
  simp only [codeV] at h
  obtain ⟨e, s1, kn1, ⟨N, hN⟩, h1⟩ := codeV_loop (fun kn s K h => codeV_ok a kn s K h) (fun _ _ h _ => restrict_keep h) (fun i hi s q ⟨N, hN⟩ => evalC_keep a [] hi s q (hN N N (Nat.le_refl _) (Nat.le_refl _))) h
  exact ⟨e, s1, kn1, ⟨N, fun k n hk hn => by simp only [evalC]; exact hN k n n hk hn hn⟩, h1⟩
 | .exit id, kn, s, K, h => ⟨.exit id, s, kn, ⟨0, fun _ _ _ _ => rfl⟩, h⟩
 | .ret, kn, s, K, h => ⟨.ret, s, kn, ⟨0, fun _ _ _ _ => rfl⟩, h⟩
 | .label _, kn, s, K, h => h.elim
 | .goto _, kn, s, K, h => h.elim
 | .rangeFunc .., kn, s, K, h => h.elim
 | .scope _, kn, s, K, h => h.elim
 | .refuse _, kn, s, K, h => h.elim
def endV (O : Orc) (rs : List ResultVar) (Q : AV → Heap → Prop) (s : St) : Prop := match resL O s rs with
 | some l => match canon (resA l) s.heap with
  | some q => forceV q.1 fun a => forceL forceVO q.2 fun h => Q a h
  | none => False
 | none => False
def vcF (P : Program) (O : Orc) (sg : Sig) (f : FuncId) (args : List AV) (h : Heap) (Q : AV → Heap → Prop) : Prop := match O.prim f with
 | some g => match g args with
  | some r => Q r h
  | none => False
 | none => match O.hprim f with
 | some g => match g args h with
  | some r => Need (r.1 ≤ bigN) ∧ Q r.2.1 r.2.2
  | none => False
 | none => bif O.fns f then (match P.funcs[f]? with
  | some fn => match fn.body with
   | some c => forceVS ⟨args ++ List.replicate (fn.ntmps - args.length) .no, h⟩ fun s => codeV P O sg f c [] s fun e _ s => match e with
    | .exit _ => False
    | .normal => endV O fn.results.toList Q s
    | .ret => endV O fn.results.toList Q s
   | none => False
  | none => False) else False
theorem vcF_ok {args : List AV} {h : Heap} {Q : AV → Heap → Prop} (hv : vcF P O sg f args h Q) : EvF P O f args h Q := by
 unfold vcF at hv
 split at hv
 ·rename_i g hg
  split at hv
  ·rename_i r hr
   exact ⟨r, h, ⟨1, fun k hk => by cases k with
    | zero => omega
    | succ k => simp only [callF, hg, hr, Option.map_some]⟩, hv⟩
  ·exact hv.elim
 ·rename_i hg
  split at hv
  ·rename_i g hg2
   split at hv
   ·rename_i r hr
    obtain ⟨⟨hn⟩, hv⟩ := hv
    exact ⟨r.2.1, r.2.2, ⟨1, fun k hk => by cases k with
     | zero => omega
     | succ k => simp only [callF, hg, hg2, hr, Option.bind_some]; rw [if_pos hn]⟩, hv⟩
   ·exact hv.elim
  rename_i hg2
  cases hfn : O.fns f with
  | false => rw [hfn] at hv; exact hv.elim
  | true =>
   rw [hfn] at hv
   simp only [cond_true] at hv
   split at hv
   ·rename_i fn hf
    split at hv
    ·rename_i c hc
     rw [forceVS_eq] at hv
     obtain ⟨e, s1, kn1, ⟨N, hN⟩, h1⟩ := codeV_ok c _ _ _ hv
     have key : (e = .normal ∨ e = .ret) → endV O fn.results.toList Q s1 → EvF P O f args h Q := by
      intro he h1
      unfold endV at h1
      split at h1
      ·rename_i l hl
       split at h1
       ·rename_i q hq
        rw [forceV_eq, forceL_eq' (fun a k => forceVO_eq a k)] at h1
        refine ⟨_, _, ⟨N + 1, fun k hk => ?_⟩, h1⟩
        cases k with
        | zero => omega
        | succ k =>
         simp only [callF, hg, hg2, hfn, Bool.not_true, Bool.false_eq_true, if_false, hf, hc, Option.bind_some, hN k k (by omega) (by omega)]
         rcases he with rfl | rfl <;> simp only [hl, Option.bind_some, hq]
       ·exact h1.elim
      ·exact h1.elim
     cases e with
     | normal => exact key (.inl rfl) h1
     | ret => exact key (.inr rfl) h1
     | exit id => exact h1.elim
    ·exact hv.elim
   ·exact hv.elim
end Go.Am
namespace Go.Am
variable {P : Program} {O : Orc} {c1 c2 : CallF} {draw : Bool} {f : FuncId} {rid i : Nat} {o : Oper} {ops : Array Oper}
def LeC (c1 c2 : CallF) : Prop := ∀ g args h q, c1 g args h = some q → c2 g args h = some q
theorem callA_mono (hc : LeC c1 c2) {dst : Option Nat} {q : FuncId} {args : List AV} {h : Heap} {r : Res} (e : callA O c1 draw dst q args h = some r) : callA O c2 draw dst q args h = some r := by
 unfold callA at e ⊢
 simp only [forceKs_eq] at e ⊢
 split at e
 ·cases e
 ·rename_i hn
  rw [if_neg hn]
  simp only [Option.bind_eq_some_iff] at e ⊢
  obtain ⟨h0, h1, e⟩ := e
  refine ⟨h0, h1, ?_⟩
  split at e
  ·cases e
  ·rename_i hn2
   rw [if_neg hn2]
   simp only [Option.bind_eq_some_iff] at e ⊢
   obtain ⟨p, h2, e⟩ := e
   exact ⟨p, hc _ _ _ _ h2, e⟩
theorem callT_mono (hc : LeC c1 c2) {tk : Bool} {X : List Key} {dst : Option Nat} {q : FuncId} {args : List AV} {h : Heap} {r : Res} (e : callT O c1 draw tk X dst q args h = some r) : callT O c2 draw tk X dst q args h = some r := by
 unfold callT at e ⊢
 split at e
 ·cases e
 ·rename_i hn
  rw [if_neg hn]
  simp only [Option.bind_eq_some_iff] at e ⊢
  obtain ⟨r', h1, h2⟩ := e
  exact ⟨r', callA_mono hc h1, h2⟩
theorem exec_mono (hc : LeC c1 c2) {g : Nat → AV} {h : Heap} {r : Res} (e : exec O c1 draw f rid i o g h = some r) : exec O c2 draw f rid i o g h = some r := by
 by_cases hx : ∃ x as tys, o.op = .call ⟨.value x, as, tys⟩
 ·obtain ⟨x, as, tys, hop⟩ := hx
  unfold exec at e ⊢
  by_cases hm : O.mrk f rid i = true
  ·rw [if_pos hm] at e ⊢; exact e
  rw [if_neg hm] at e ⊢
  simp only [exec0, hop, callO] at e ⊢
  split at e
  ·exact callT_mono hc e
  ·cases e
 ·rw [exec_indep (c2 := c1) fun x as tys e => hx ⟨x, as, tys, e⟩]; exact e
theorem stepG_mono (hc : LeC c1 c2) {g : Nat → AV} {h : Heap} {r : Res} (e : stepG O c1 draw f rid ops i o g h = some r) : stepG O c2 draw f rid ops i o g h = some r := by
 unfold stepG at e ⊢
 cases hg : o.guard with
 | none => rw [hg] at e; exact exec_mono hc e
 | some jb =>
  obtain ⟨j, b⟩ := jb
  rw [hg] at e
  simp only at e ⊢
  split at e
  ·rename_i x hy
   cases hx : x == b with
   | true => rw [hx] at e; simp only [cond_true] at e ⊢; exact exec_mono hc e
   | false => rw [hx] at e; simp only [cond_false] at e ⊢; exact e
  ·exact e
  ·cases e
theorem steps_mono (hc : LeC c1 c2) : ∀ (l : List Nat) (s s' : St), steps O c1 draw f rid ops l s = some s' → steps O c2 draw f rid ops l s = some s'
 | [], _, _, e => e
 | j :: l, s, s', e => by
  simp only [steps, step, Option.bind_eq_some_iff] at e ⊢
  obtain ⟨s1, h1, h2⟩ := e
  refine ⟨s1, ?_, steps_mono hc l _ _ h2⟩
  split at h1
  ·cases h1
  ·simp only [Option.map_eq_some_iff] at h1 ⊢
   obtain ⟨r, h3, h4⟩ := h1
   exact ⟨r, stepG_mono hc h3, h4⟩
theorem stepsD_mono (hc : LeC c1 c2) {ah : List Nat} : ∀ (l : List Nat) (acc : List (Nat × Foot)) (s s' : St), stepsD O c1 f rid ops ah l acc s = some s' → stepsD O c2 f rid ops ah l acc s = some s'
 | [], _, _, _, e => e
 | j :: l, acc, s, s', e => by
  simp only [stepsD] at e ⊢
  split at e
  ·cases e
  ·rename_i o ho
   split at e
   ·rename_i hcnd
    rw [if_pos hcnd]
    simp only [step, Option.bind_eq_some_iff] at e ⊢
    obtain ⟨s1, h1, h2⟩ := e
    refine ⟨s1, ?_, stepsD_mono hc l _ _ _ h2⟩
    rw [ho] at h1 ⊢
    simp only [Option.map_eq_some_iff] at h1 ⊢
    obtain ⟨r, h3, h4⟩ := h1
    exact ⟨r, stepG_mono hc h3, h4⟩
   ·cases e
theorem loopN_mono {b1 b2 : St → Option (Ex × St)} {cut : St → Option St} (hb : ∀ s q, b1 s = some q → b2 s = some q) : ∀ (n m : Nat) (s : St) (q : Ex × St), n ≤ m → loopN b1 cut n s = some q → loopN b2 cut m s = some q
 | 0, _, s, q, _, e => by simp [loopN] at e
 | n + 1, 0, _, _, h, _ => by omega
 | n + 1, m + 1, s, q, h, e => by
  simp only [loopN, Option.bind_eq_some_iff] at e ⊢
  obtain ⟨s1, h1, ⟨x, s2⟩, h2, e⟩ := e
  refine ⟨s1, h1, (x, s2), hb _ _ h2, ?_⟩
  cases x with
  | normal => exact loopN_mono hb n m _ _ (by omega) e
  | exit id => exact e
  | ret => exact e
theorem evalC_mono (hc : LeC c1 c2) {n m : Nat} (hn : n ≤ m) : ∀ (c : Code) (s : St) (q : Ex × St), evalC O c1 n f c s = some q → evalC O c2 m f c s = some q
 | .skip, s, q, e => by simpa only [evalC] using e
 | .region id ops draw, s, q, e => by
  simp only [evalC, Option.bind_eq_some_iff, forceS_eq] at e ⊢
  obtain ⟨s', h1, e⟩ := e
  refine ⟨s', ?_, e⟩
  split at h1
  ·rename_i hcnd; rw [if_pos hcnd]; exact stepsD_mono hc _ _ _ _ h1
  ·rename_i hcnd; rw [if_neg hcnd]; exact steps_mono hc _ _ _ h1
 | .seq a b, s, q, e => by
  simp only [evalC, Option.bind_eq_some_iff] at e ⊢
  obtain ⟨⟨x, s1⟩, h1, e⟩ := e
  refine ⟨(x, s1), evalC_mono hc hn a _ _ h1, ?_⟩
  cases x with
  | normal => exact evalC_mono hc hn b _ _ e
  | exit id => exact e
  | ret => exact e
 | .cond c a b, s, q, e => by
  simp only [evalC] at e ⊢
  split at e
  ·rename_i own x hv
   cases x with
   | true => exact evalC_mono hc hn a _ _ e
   | false => exact evalC_mono hc hn b _ _ e
  ·cases e
 | .block id a, s, q, e => by
  simp only [evalC, Option.map_eq_some_iff] at e ⊢
  obtain ⟨p, h1, e⟩ := e
  exact ⟨p, evalC_mono hc hn a _ _ h1, e⟩
 | .loop a, s, q, e => by
  simp only [evalC] at e ⊢
  exact loopN_mono (fun s q h => evalC_mono hc hn a s q h) n m s q hn e
 | .exit id, s, q, e => by simpa only [evalC] using e
 | .ret, s, q, e => by simpa only [evalC] using e
 | .label _, s, q, e => by simp [evalC] at e
 | .goto _, s, q, e => by simp [evalC] at e
 | .rangeFunc .., s, q, e => by simp [evalC] at e
 | .scope _, s, q, e => by simp [evalC] at e
 | .refuse _, s, q, e => by simp [evalC] at e
theorem callF_mono : ∀ (k m : Nat), k ≤ m → LeC (callF P O k) (callF P O m)
 | 0, _, _, _, _, _, _, e => by simp [callF] at e
 | k + 1, 0, h, _, _, _, _, _ => by omega
 | k + 1, m + 1, h, f, args, hp, q, e => by
  simp only [callF] at e ⊢
  split at e
  ·exact e
  split at e
  ·exact e
  ·split at e
   ·cases e
   ·rename_i hf
    rw [if_neg hf]
    simp only [Option.bind_eq_some_iff] at e ⊢
    obtain ⟨fn, h1, c, h2, p, h3, e⟩ := e
    exact ⟨fn, h1, c, h2, p, evalC_mono (callF_mono k m (by omega)) (by omega) c _ _ h3, e⟩
end Go.Am
namespace Go.Am
end Go.Am
namespace Go.Am
end Go.Am
namespace Go.Am
end Go.Am
namespace Go.Am
end Go.Am
namespace Go.Am
variable {P : Program} {O : Orc} {w : World} {H : Type} {enc : TypeId × Value → H} {held : Bool}
inductive InX : XT → Prop
 | mk (x : XT) (h1 : -9223372036854775808 ≤ x.kind ∧ x.kind ≤ 9223372036854775807) (h2 : -9223372036854775808 ≤ x.num ∧ x.num ≤ 9223372036854775807) (h3 : x.kids.length ≤ maxLen) (h4 : ∀ y ∈ x.kids, InX y) : InX x
def InR : (t : Ty) → den t → Prop
 | .int k, x => (Lit.int k x).wf = true
 | .str, x => List.length x ≤ maxLen ∧ ∀ z ∈ (x : List Int), 0 ≤ z ∧ z < 256
 | .slice t, x => List.length x ≤ maxLen ∧ ∀ i, i < List.length x → InR t (List.getD x i (zero t))
 | .arr gw n t, x => ∀ i, i < n → InR t (List.getD x i (zero t))
 | .pair a b, x => InR a x.1 ∧ InR b x.2
 | .expr, x => InX x
 | _, _ => True
def RdW : (t : Ty) → den t → DataW H → Prop
 | .int k, x, d => d = .lit (.int k x)
 | .bool, x, d => d = .lit (.bool x)
 | .str, x, d => ∃ s : List UInt8, d = .lit (.string s) ∧ x = s.map fun c => (c.toNat : Int)
 | .arr gw n t, x, d => ∃ ds : List (DataW H), d = .agg ds ∧ ds.length = n ∧ ∀ i, i < n → ∀ e, ds[i]? = some e → RdW t (List.getD x i (zero t)) e
 | _, _, _ => True
def Ty.opn : Ty → Bool
 | .ref | .wref | .mref _ _ | .sref _ | .fnc | .mp _ _ => false
 | .pair a b => a.opn && b.opn
 | .arr _ _ t => t.opn
 | .slice t => t.opn
 | _ => true
theorem i64_wf {n : Int} (h : (Lit.int .i64 n).wf = true) : -9223372036854775808 ≤ n ∧ n ≤ 9223372036854775807 := by
 simpa [Lit.wf, IntKind.min, IntKind.max, IntKind.signed, IntKind.bits] using h
theorem u8_wf {n : Int} (h : (Lit.int .u8 n).wf = true) : isByte n := by
 have : 0 ≤ n ∧ n ≤ 255 := by simpa [Lit.wf, IntKind.min, IntKind.max, IntKind.signed, IntKind.bits] using h
 unfold isByte; omega
theorem bytesOf_bytes (s : ByteArray) : bytesOf (ofBytes s) = s := by
 unfold bytesOf ofBytes
 obtain ⟨⟨l⟩⟩ := s
 congr 2
 simp only [List.map_map]
 conv => rhs; rw [← List.map_id l]
 apply List.map_congr_left
 intro c _
 simp
theorem ofBytes_byte (s : ByteArray) : ∀ z ∈ ofBytes s, 0 ≤ z ∧ z < 256 := by
 intro z hz
 obtain ⟨c, _, rfl⟩ := List.mem_map.1 hz
 exact ⟨by omega, by have := c.toNat_lt; omega⟩
theorem ofBytes_len (s : ByteArray) : (ofBytes s).length = s.size := by
 unfold ofBytes; rw [List.length_map]; rfl
theorem pair_build {R : Rl} : ∀ (t : Ty) (c : Nat → Value), t.chain = true → (∀ i u, fldT t i = some u → ∃ y : den u, RV R u y (fun j => c (fldOff t i + j)) ∧ InR u y) → ∃ x : den t, RV R t x c ∧ InR t x
 | .unit, c, _, _ => ⟨(), trivial, trivial⟩
 | .pair a b, c, hc, h => by
  obtain ⟨p, p1, p2⟩ := h 0 a rfl
  obtain ⟨q, q1, q2⟩ := pair_build b (fun j => c (a.size + j)) (by simpa [Ty.chain] using hc) fun i u hu => by
   obtain ⟨y, y1, y2⟩ := h (i + 1) u hu
   refine ⟨y, ?_, y2⟩
   simp only [fldOff] at y1
   simpa [Nat.add_assoc] using y1
  refine ⟨(p, q), ⟨?_, q1⟩, p2, q2⟩
  simpa [fldOff] using p1
 | .expr, c, _, h => by
  obtain ⟨k, k1, k2⟩ := h 0 (.int .i64) rfl
  obtain ⟨n, n1, n2⟩ := h 1 (.int .i64) rfl
  obtain ⟨l, l1, l2⟩ := h 2 (.slice .expr) rfl
  obtain ⟨a, cap, b, off, us, g0, g1, g2, g3, g4, g5⟩ := l1
  have hk : ∀ i (h : i < List.length l), List.getD l i (zero .expr) = (l : List XT)[i] := fun i h => by simp [List.getD, h]
  refine ⟨XT.mk k n l, .mk k n l c a cap b off us (by simpa [fldOff] using k1.1) (by simpa [fldOff] using n1.1) (by simpa [fldOff] using g0) g1 g2 g3 (fun i hi => by simpa [Ty.size] using g4 i hi) (fun i hi => by have := g5 i hi; rw [hk i hi] at this; exact this), ?_⟩
  refine .mk _ (i64_wf k2) (i64_wf n2) l2.1 fun y hy => ?_
  obtain ⟨i, hi, rfl⟩ := List.mem_iff_getElem.1 hy
  have := l2.2 i hi
  rw [hk i hi] at this
  exact this
 | .int _, _, h, _ => by simp [Ty.chain] at h
 | .bool, _, h, _ => by simp [Ty.chain] at h
 | .str, _, h, _ => by simp [Ty.chain] at h
 | .ref, _, h, _ => by simp [Ty.chain] at h
 | .wref, _, h, _ => by simp [Ty.chain] at h
 | .slice _, _, h, _ => by simp [Ty.chain] at h
 | .mref _ _, _, h, _ => by simp [Ty.chain] at h
 | .fnc, _, h, _ => by simp [Ty.chain] at h
 | .sref _, _, h, _ => by simp [Ty.chain] at h
 | .mp _ _, _, h, _ => by simp [Ty.chain] at h
 | .arr gw _ _, _, h, _ => by simp [Ty.chain] at h
theorem TyOK.cellsOf {T : TypeId} {t : Ty} (h : TyOK P O T t) : P.cellsOf T = t.size := by
 obtain ⟨i, h1, h2, _⟩ := h.info
 simp [Program.cellsOf, h1, h2]
theorem list_build {α : Type} (z : α) {p : Nat → α → Prop} : ∀ n, (∀ i, i < n → ∃ y, p i y) → ∃ l : List α, l.length = n ∧ ∀ i, i < n → p i (l.getD i z)
 | 0, _ => ⟨[], rfl, fun i h => by omega⟩
 | n + 1, h => by
  obtain ⟨l, h1, h2⟩ := list_build z n fun i hi => h i (by omega)
  obtain ⟨y, hy⟩ := h n (by omega)
  refine ⟨l ++ [y], by simp [h1], fun i hi => ?_⟩
  rcases Nat.lt_or_ge i n with hl | hl
  ·have : (l ++ [y]).getD i z = l.getD i z := by simp [List.getD_eq_getElem?_getD, List.getElem?_append_left (h1 ▸ hl)]
   rw [this]; exact h2 i hl
  ·have e : i = n := by omega
   subst e
   have : (l ++ [y]).getD i z = y := by simp [List.getD_eq_getElem?_getD, h1]
   rw [this]; exact hy
theorem trod_open (hO : OrcOK P O) : ∀ (n : Nat) (T : TypeId) (t : Ty) (cs : List Value) (d : DataW H) (ps : List MemPlace), O.ty T = some t → t.opn = true → DataW.trod enc P w 0 (fun _ => true) held n T cs = some (d, ps) →
    ∃ x : den t, RV (R0 w) t x (fun j => cs.getD j undef) ∧ InR t x ∧ RdW t x d ∧ cs.length = t.size
  | 0, _, _, _, _, _, _, _, h => by simp [DataW.trod] at h
  | n + 1, T, t, cs, d, ps, hT, hn, h => by
    have hTy := hO.ty T t hT
    obtain ⟨D, hD, hU⟩ := hTy.und
    have hsz := hTy.cellsOf
    have hfine := hTy.fine
    cases t with
    | int k =>
      simp only [UndOK] at hU
      subst hU
      simp only [DataW.trod, hD] at h
      split at h <;> simp only [Option.some.injEq, TypeDesc.int.injEq, reduceCtorEq] at *
      rename_i k0 k' x e1
      subst e1
      split at h
      · rename_i hc
        obtain ⟨rfl, hw⟩ := hc
        simp only [Option.some.injEq, Prod.mk.injEq] at h
        exact ⟨x, ⟨rfl, fun e => by subst e; exact u8_wf hw⟩, hw, h.1.symm, rfl⟩
      · cases h
    | bool =>
      simp only [UndOK] at hU
      subst hU
      simp only [DataW.trod, hD] at h
      split at h <;> simp only [Option.some.injEq, Prod.mk.injEq, reduceCtorEq] at *
      rename_i b _
      exact ⟨b, rfl, trivial, h.1.symm, rfl⟩
    | str =>
      simp only [UndOK] at hU
      subst hU
      simp only [DataW.trod, hD] at h
      split at h <;> simp only [Option.some.injEq, reduceCtorEq] at *
      rename_i s _
      split at h
      · rename_i hs
        simp only [Option.some.injEq, Prod.mk.injEq] at h
        refine ⟨ofBytes s, ⟨by rw [bytesOf_bytes]; rfl, ofBytes_byte s⟩, ⟨by rw [ofBytes_len]; exact hs, ofBytes_byte s⟩, ⟨s.data.toList, h.1.symm, rfl⟩, rfl⟩
      · cases h
    | ref => simp [Ty.opn] at hn
    | wref => simp [Ty.opn] at hn
    | sref _ => simp [Ty.opn] at hn
    | mref _ _ => simp [Ty.opn] at hn
    | fnc => simp [Ty.opn] at hn
    | mp _ _ => simp [Ty.opn] at hn
    | slice u =>
      obtain ⟨e, rfl, he, hz⟩ := hU
      have hce := (hO.ty e u he).cellsOf
      simp [Ty.fine] at hfine
      simp [Ty.opn] at hn
      simp only [DataW.trod, hD] at h
      split at h <;> simp only [Option.some.injEq, TypeDesc.slice.injEq, reduceCtorEq] at *
      · simp only [Option.some.injEq, Prod.mk.injEq] at h
        refine ⟨[], ⟨none, 0, 0, 0, fun _ _ => undef, rfl, Nat.le_refl _, fun _ => ⟨rfl, rfl⟩, fun h => absurd h (Nat.lt_irrefl 0), fun i h => absurd h (Nat.not_lt_zero i), fun i h => absurd h (Nat.not_lt_zero i)⟩, ⟨by simp, fun i hi => absurd hi (Nat.not_lt_zero i)⟩, trivial, rfl⟩
      · rename_i e0 a len cap e1
        subst e1
        split at h
        · rename_i hb
          obtain ⟨_, hlc, hcm⟩ := hb
          simp only [Option.bind_eq_some_iff, Option.map_eq_some_iff] at h
          obtain ⟨elems, hel, rest, _, hd⟩ := h
          have hsp : 0 < len → a = ⟨a.block, a.off, none⟩ := by
            intro h0
            obtain ⟨z, hz1⟩ := mapM_some_get hel 0 h0
            simp only [Option.bind_eq_some_iff] at hz1
            obtain ⟨cs', hc1, hc2⟩ := hz1
            rw [hce] at hc1
            obtain ⟨_, hlen, hcell⟩ := World.cells?_some hc1
            have h1 := hcell 0 (by omega)
            rw [List.getElem?_eq_getElem (by omega)] at h1
            have hs : a.spot = none := by simpa [Addr.add] using World.cell?_spot h1
            obtain ⟨ab, ao, asp⟩ := a
            simp only at hs
            subst hs; rfl
          have hx : ∀ i, i < len → ∃ y : den u, (∃ us : Nat → Value, (∀ j, j < u.size → w.cell? ⟨a.block, a.off + i * u.size + j, none⟩ = some (us j)) ∧ RV (R0 w) u y us) ∧ InR u y := by
            intro i hi
            obtain ⟨z, hz1⟩ := mapM_some_get hel i hi
            simp only [Option.bind_eq_some_iff] at hz1
            obtain ⟨cs', hc1, hc2⟩ := hz1
            obtain ⟨y, y1, y2, _, y4⟩ := trod_open hO n e u cs' z.1 z.2 he hn hc2
            rw [hce] at hc1
            obtain ⟨_, hlen, hcell⟩ := World.cells?_some hc1
            refine ⟨y, ⟨fun j => cs'.getD j undef, fun j hj => ?_, y1⟩, y2⟩
            have h1 := hcell j hj
            rw [List.getElem?_eq_getElem (by omega)] at h1
            have h1' : w.cell? (((⟨a.block, a.off, none⟩ : Addr).add (i * u.size)).add j) = some cs'[j] := by rw [← hsp (by omega)]; exact h1
            simp only [Go.WideShapes.add_plain] at h1'
            rw [h1']
            simp [List.getD, show j < cs'.length by omega]
          obtain ⟨l, hl1, hl2⟩ := list_build (zero u) len hx
          subst hl1
          obtain ⟨us, hus⟩ : ∃ us : Nat → Nat → Value, ∀ i, i < l.length → (∀ j, j < u.size → w.cell? ⟨a.block, a.off + i * u.size + j, none⟩ = some (us i j)) ∧ RV (R0 w) u (l.getD i (zero u)) (us i) := by
            have : ∀ i, ∃ us : Nat → Value, i < l.length → (∀ j, j < u.size → w.cell? ⟨a.block, a.off + i * u.size + j, none⟩ = some (us j)) ∧ RV (R0 w) u (l.getD i (zero u)) us := by
              intro i
              by_cases hi : i < l.length
              · obtain ⟨⟨us, h1, h2⟩, _⟩ := hl2 i hi; exact ⟨us, fun _ => ⟨h1, h2⟩⟩
              · exact ⟨fun _ => undef, fun h => absurd h hi⟩
            exact ⟨fun i => Classical.choose (this i), fun i => Classical.choose_spec (this i)⟩
          refine ⟨l, ⟨some a, cap, a.block, a.off, us, rfl, hlc, nofun, fun h0 => by rw [← hsp h0], fun i hi j hj => ⟨(hus i hi).1 j hj, ?_⟩, fun i hi => (hus i hi).2⟩, ⟨by omega, fun i hi => (hl2 i hi).2⟩, trivial, rfl⟩
          have := (hus i hi).1 j hj
          show a.block < w.heap.size
          unfold World.cell? at this
          rcases Nat.lt_or_ge a.block w.heap.size with h | h
          · exact h
          · simp [Array.getElem?_eq_none h] at this
        · cases h
    | arr gw k u =>
      obtain ⟨e, rfl, he, hz, _⟩ := hU
      have hce := (hO.ty e u he).cellsOf
      simp [Ty.fine] at hfine
      simp [Ty.opn] at hn
      simp only [DataW.trod, hD] at h
      split at h
      · rename_i hl
        rw [hsz] at hl
        simp only [Option.map_eq_some_iff] at h
        obtain ⟨xs, hxs, hd⟩ := h
        have hlen := mapM_some_length hxs
        simp only [List.length_range] at hlen
        simp only [Ty.size] at hl
        have hx : ∀ i, i < k → ∃ y : den u, RV (R0 w) u y (fun j => cs.getD (i * u.size + j) undef) ∧ InR u y ∧ ∀ z, xs[i]? = some z → RdW u y z.1 := by
          intro i hi
          obtain ⟨z, hz1⟩ := mapM_some_get hxs i hi
          have hz2 := hz1
          rw [hce] at hz1
          obtain ⟨y, y1, y2, y3, _⟩ := trod_open hO n e u _ z.1 z.2 he hn hz1
          refine ⟨y, RV.congr u _ _ _ (fun j hj => ?_) y1, y2, fun z' hz' => ?_⟩
          · simp only [List.getD_eq_getElem?_getD, List.getElem?_take, List.getElem?_drop, if_pos hj]
          · have := mapM_some_at hxs i hi z' hz'
            rw [this] at hz2
            cases hz2
            exact y3
        obtain ⟨l, hl1, hl2⟩ := list_build (zero u) k hx
        simp only [Option.some.injEq, Prod.mk.injEq] at hd
        refine ⟨l, ⟨hl1, fun i hi => (hl2 i hi).1⟩, fun i hi => (hl2 i hi).2.1, ⟨xs.map (·.1), hd.1.symm, by simp [hlen], fun i hi e' he' => ?_⟩, by simp only [Ty.size]; exact hl⟩
        simp only [List.getElem?_map, Option.map_eq_some_iff] at he'
        obtain ⟨z, hz1, rfl⟩ := he'
        exact (hl2 i hi).2.2 z hz1
      · cases h
    | unit =>
      obtain ⟨fs, rfl, hf, _⟩ := hU
      simp only [DataW.trod, hD] at h
      split at h
      · rename_i hl
        rw [hsz] at hl
        exact ⟨(), trivial, trivial, trivial, hl⟩
      · cases h
    | pair a b =>
      obtain ⟨fs, rfl, hf, hch, _⟩ := hU
      exact struct_case hO hf hch (fun i u hu => noRef_fld (.pair a b) i u hn hu) hD hsz h (fun T' t' cs' d' ps' => trod_open hO n T' t' cs' d' ps')
    | expr =>
      obtain ⟨fs, rfl, hf, hch, _⟩ := hU
      exact struct_case hO hf hch (fun i u hu => noRef_fld .expr i u hn hu) hD hsz h (fun T' t' cs' d' ps' => trod_open hO n T' t' cs' d' ps')
  where
  mapM_some_length {α β : Type} {f : α → Option β} : ∀ {l : List α} {r : List β}, l.mapM f = some r → r.length = l.length
    | [], r, h => by simp at h; subst h; rfl
    | a :: l, r, h => by
      simp only [List.mapM_cons, Option.pure_def, Option.bind_eq_bind, Option.bind_eq_some_iff] at h
      obtain ⟨b, _, m, hm, e⟩ := h
      cases e
      simp [mapM_some_length hm]
  mapM_get {α β : Type} {f : α → Option β} : ∀ {l : List α} {r : List β} (i : Nat) (a : α), l.mapM f = some r → l[i]? = some a → ∃ b, f a = some b ∧ r[i]? = some b
    | [], r, i, a, h, g => by simp at g
    | x :: l, r, 0, a, h, g => by
      simp only [List.mapM_cons, Option.pure_def, Option.bind_eq_bind, Option.bind_eq_some_iff] at h
      obtain ⟨b, hb, m, hm, e⟩ := h
      cases e
      simp at g
      subst g
      exact ⟨b, hb, rfl⟩
    | x :: l, r, i + 1, a, h, g => by
      simp only [List.mapM_cons, Option.pure_def, Option.bind_eq_bind, Option.bind_eq_some_iff] at h
      obtain ⟨b, hb, m, hm, e⟩ := h
      cases e
      exact mapM_get i a hm (by simpa using g)
  mapM_some_get {β : Type} {f : Nat → Option β} {n : Nat} {r : List β} (h : (List.range n).mapM f = some r) (i : Nat) (hi : i < n) : ∃ b, f i = some b := by
    obtain ⟨b, hb, _⟩ := mapM_get i i h (by simp [hi])
    exact ⟨b, hb⟩
  mapM_some_at {β : Type} {f : Nat → Option β} {n : Nat} {r : List β} (h : (List.range n).mapM f = some r) (i : Nat) (hi : i < n) (b : β) (hb : r[i]? = some b) : f i = some b := by
    obtain ⟨b', h1, h2⟩ := mapM_get i i h (by simp [hi])
    rw [hb] at h2; cases h2; exact h1
  noRef_fld : ∀ (t : Ty) (i : Nat) (u : Ty), t.opn = true → fldT t i = some u → u.opn = true
    | .pair a b, 0, u, h, e => by simp [Ty.opn] at h; simp only [fldT, Option.some.injEq] at e; subst e; exact h.1
    | .pair a b, i + 1, u, h, e => by simp [Ty.opn] at h; simp only [fldT] at e; exact noRef_fld b i u h.2 e
    | .expr, 0, u, h, e => by simp [fldT] at e; subst e; rfl
    | .expr, 1, u, h, e => by simp [fldT] at e; subst e; rfl
    | .expr, 2, u, h, e => by simp [fldT] at e; subst e; rfl
    | .expr, i + 3, u, h, e => by simp [fldT] at e
    | .int _, _, u, h, e => by simp [fldT] at e
    | .bool, _, u, h, e => by simp [fldT] at e
    | .str, _, u, h, e => by simp [fldT] at e
    | .unit, _, u, h, e => by simp [fldT] at e
    | .ref, _, u, h, e => by simp [fldT] at e
    | .wref, _, u, h, e => by simp [fldT] at e
    | .slice _, _, u, h, e => by simp [fldT] at e
    | .arr gw _ _, _, u, h, e => by simp [fldT] at e
  struct_case (hO : OrcOK P O) {n : Nat} {T : TypeId} {t : Ty} {fs : Array Field} {cs : List Value} {d : DataW H} {ps : List MemPlace} (hf : FieldsOK O t fs) (hch : t.chain = true) (hnr : ∀ i u, fldT t i = some u → u.opn = true) (hD : P.underlying T = some (.struct fs)) (hsz : P.cellsOf T = t.size)
      (h : DataW.trod enc P w 0 (fun _ => true) held (n + 1) T cs = some (d, ps)) (ih : ∀ (T' : TypeId) (t' : Ty) (cs' : List Value) (d' : DataW H) (ps' : List MemPlace), O.ty T' = some t' → t'.opn = true → DataW.trod enc P w 0 (fun _ => true) held n T' cs' = some (d', ps') → ∃ x : den t', RV (R0 w) t' x (fun j => cs'.getD j undef) ∧ InR t' x ∧ RdW t' x d' ∧ cs'.length = t'.size) :
      ∃ x : den t, RV (R0 w) t x (fun j => cs.getD j undef) ∧ InR t x ∧ RdW t x d ∧ cs.length = t.size := by
    simp only [DataW.trod, hD] at h
    split at h
    · rename_i hl
      rw [hsz] at hl
      simp only [Option.map_eq_some_iff] at h
      obtain ⟨xs, hxs, hd⟩ := h
      obtain ⟨x, x1, x2⟩ := pair_build (R := R0 w) t (fun j => cs.getD j undef) hch fun i u hu => by
        cases hfi : fs[i]? with
        | none => rw [hf.2 i hfi] at hu; cases hu
        | some f =>
          obtain ⟨u', g1, g2, g3, _⟩ := hf.1 i f hfi
          rw [hu] at g1
          cases g1
          obtain ⟨z, hz, _⟩ := mapM_get i f hxs (by simpa using hfi)
          have hce := (hO.ty _ _ g2).cellsOf
          rw [hce, g3] at hz
          obtain ⟨y, y1, y2, _⟩ := ih f.type u _ z.1 z.2 g2 (hnr i u hu) hz
          refine ⟨y, RV.congr u _ _ _ (fun j hj => ?_) y1, y2⟩
          simp only [List.getD_eq_getElem?_getD, List.getElem?_take, List.getElem?_drop, if_pos hj]
      refine ⟨x, x1, x2, ?_, hl⟩
      cases t <;> first | trivial | (simp [Ty.chain] at hch)
    · cases h
end Go.Am
namespace Go.Am
variable {P : Program} {O : Orc} {w : World} {H : Type} {enc : TypeId × Value → H} {held : Bool}
theorem okWide_one {T : TypeId} {t : Ty} (hTy : TyOK P O T t) (ha : t.agg = false) {r : Reach} {base : Nat} {v : Value} (hn : t.opn = true) (h : Value.okWide P w r base T v) : v.cells = #[v] := by
 obtain ⟨D, hD, hU⟩ := hTy.und
 cases t with
 | int k =>
  simp only [UndOK] at hU; subst hU
  simp only [Value.okWide, hD, Cell.okWide, Cell.ok] at h
  cases v <;> first | rfl | (simp at h)
 | bool =>
  simp only [UndOK] at hU; subst hU
  simp only [Value.okWide, hD, Cell.okWide, Cell.ok] at h
  cases v <;> first | rfl | (simp at h)
 | str =>
  simp only [UndOK] at hU; subst hU
  simp only [Value.okWide, hD, Cell.okWide, Cell.ok] at h
  cases v <;> first | rfl | (simp at h)
 | slice u =>
  obtain ⟨e, rfl, _⟩ := hU
  simp only [Value.okWide, hD, Cell.okWide, Cell.ok] at h
  cases v <;> first | rfl | (simp at h)
 | ref => simp [Ty.opn] at hn
 | wref => simp [Ty.opn] at hn
 | sref _ => simp [Ty.opn] at hn
 | mref _ _ => simp [Ty.opn] at hn
 | fnc => simp [Ty.opn] at hn
 | mp _ _ => simp [Ty.opn] at hn
 | _ => simp [Ty.agg] at ha
theorem okWide_agg {T : TypeId} {t : Ty} (hTy : TyOK P O T t) (ha : t.agg = true) {r : Reach} {base : Nat} {v : Value} (h : Value.okWide P w r base T v) : ∃ cs, v = .agg cs := by
 obtain ⟨D, hD, hU⟩ := hTy.und
 cases t with
 | unit => obtain ⟨fs, rfl, _⟩ := hU; simp only [Value.okWide, hD] at h; obtain ⟨cs, h, _⟩ := h; exact ⟨cs, h⟩
 | pair a b => obtain ⟨fs, rfl, _⟩ := hU; simp only [Value.okWide, hD] at h; obtain ⟨cs, h, _⟩ := h; exact ⟨cs, h⟩
 | expr => obtain ⟨fs, rfl, _⟩ := hU; simp only [Value.okWide, hD] at h; obtain ⟨cs, h, _⟩ := h; exact ⟨cs, h⟩
 | arr n u => obtain ⟨e, rfl, _⟩ := hU; simp only [Value.okWide, hD] at h; obtain ⟨cs, h, _⟩ := h; exact ⟨cs, h⟩
 | _ => simp [Ty.agg] at ha
theorem open_arg (hO : OrcOK P O) {T : TypeId} {t : Ty} {r : Reach} {base : Nat} {v : Value} {d : DataW H} {ps : List MemPlace} (hT : O.ty T = some t) (hn : t.opn = true) (hval : Value.okWide P w r base T v) (h : DataW.Trod enc P w 0 (fun _ => true) true T v d ps) :
  ∃ x : den t, VR (R0 w) O (.tv [] t x) v ∧ InR t x := by
 obtain ⟨n, h⟩ := h
 obtain ⟨x, h1, h2, _, h4⟩ := trod_open hO n T t _ d ps hT hn h
 have hTy := hO.ty T t hT
 refine ⟨x, ?_, h2⟩
 simp only [VR]
 refine ⟨hTy.fine, fun ha => okWide_agg hTy ha hval, fun ha => okWide_one hTy ha hn hval, by simpa using h4, ?_⟩
 refine RV.congr t _ _ _ (fun j _ => ?_) h1
 simp [cellsF, List.getD_eq_getElem?_getD, Array.getD_eq_getD_getElem?]
end Go.Am
namespace Go.Am
open Go.ChangeShapes Go.WideShapes Go.ChangeAt Go.RowKit
theorem trodAll_below {H : Type} {enc : TypeId × Value → H} {P : Program} (hl : laidOutB P = true) {W W' : World} (hb : Below W.heap.size W W') :
  ∀ (ts : List TypeId) (vs : List Value) (ds : List (DataW H)) (ps : List MemPlace), (∀ t ∈ ts, P.readableRec t = true ∧ t < P.types.size) →
   DataW.TrodAll enc P W 0 (fun _ => true) true ts vs ds ps → (∀ x ∈ ps, x.block < W.heap.size) →
   DataW.TrodAll enc P W' 0 (fun b => decide (b < W.heap.size)) true ts vs ds ps
 | [], [], [], _, _, h, _ => h
 | t :: ts, v :: vs, d :: ds, ps, hr, h, hlt => by
  obtain ⟨p, q, h1, h2, rfl⟩ := h
  have hlt1 : ∀ x ∈ p, x.block < W.heap.size := fun x hx => hlt x (List.mem_append.2 (.inl hx))
  have hlt2 : ∀ x ∈ q, x.block < W.heap.size := fun x hx => hlt x (List.mem_append.2 (.inr hx))
  exact ⟨p, q, Below.trod hl (hr t (List.mem_cons_self ..)).1 (hr t (List.mem_cons_self ..)).2 h1 hb hlt1,
   trodAll_below hl hb ts vs ds q (fun t ht => hr t (List.mem_cons_of_mem _ ht)) h2 hlt2, rfl⟩
 | [], _ :: _, _, _, _, h, _ => by cases h
 | [], [], _ :: _, _, _, h, _ => by cases h
 | _ :: _, [], _, _, _, h, _ => by cases h
 | _ :: _, _ :: _, [], _, _, h, _ => by cases h
theorem law_post {H : Type} {enc : TypeId × Value → H} {P : Program} (hl : laidOutB P = true) {f : Func} {s : ChangeSpec} {tb : TypeId} (htb : P.underlying tb = some .bool) (hres : f.resultTypes = #[tb])
  (hv : s.vars = []) (hr : ∀ t ∈ f.params.toList, P.readableRec t = true ∧ t < P.types.size) {W W' : World} {args : Array Value} {ds gs : List (DataW H)} {before : List MemPlace}
  (hW : DataW.Whole enc P f.params.toList s.vars false W args.toList ds gs before)
  (hs : s.fn H (ds ++ gs) = { results := [.lit (.bool true)], args := ds }) (hb : Below W.heap.size W W') :
  s.post enc P f false true false false W args (.bool true) W' := by
 have hW0 := hW
 obtain ⟨p, q, hA, hV, rfl, _, _⟩ := hW
 have hlt : ∀ x ∈ p, x.block < W.heap.size := fun x hx => hW0.lt x (List.mem_append.2 (.inl hx))
 refine ⟨ds, gs, p ++ q, [], p, [], hW0, ?_, ?_, ?_, hb.frame _, fun h => by cases h⟩
 ·rw [hs, hres]
  exact ⟨[], [], shut_bool htb true, rfl, rfl⟩
 ·rw [hs]
  exact trodAll_below hl hb _ _ _ _ hr hA hlt
 ·rw [hs, hv]
  exact rfl
def ArgsAre (P : Program) (O : Orc) (W : World) : List TypeId → List Value → List AV → Prop
 | [], [], [] => True
 | T :: ts, v :: vs, a :: l => (∃ t x, O.ty T = some t ∧ a = .tv [] t x ∧ InR t x ∧ VR (R0 W) O a v) ∧ ArgsAre P O W ts vs l
 | _, _, _ => False
theorem args_open {H : Type} {enc : TypeId × Value → H} {P : Program} {O : Orc} {W : World} (hO : OrcOK P O) : ∀ (ts : List TypeId) (vs : List Value) (ds : List (DataW H)) (ps : List MemPlace), (∀ T ∈ ts, ∃ t, O.ty T = some t ∧ t.opn = true) →
  (∀ (j : Nat) t v, ts[j]? = some t → vs[j]? = some v → ∃ base r, Value.okWide P W r base t v) → DataW.TrodAll enc P W 0 (fun _ => true) true ts vs ds ps → ∃ l, ArgsAre P O W ts vs l ∧ ds.length = ts.length
 | [], [], [], _, _, _, _ => ⟨[], trivial, rfl⟩
 | T :: ts, v :: vs, d :: ds, ps, hn, hv, h => by
  obtain ⟨p, q, h1, h2, rfl⟩ := h
  obtain ⟨t, ht, hnr⟩ := hn T (List.mem_cons_self ..)
  obtain ⟨base, r, hok⟩ := hv 0 T v rfl rfl
  obtain ⟨x, hx, hi⟩ := open_arg hO ht hnr hok h1
  obtain ⟨l, hl, hd⟩ := args_open hO ts vs ds q (fun T hT => hn T (List.mem_cons_of_mem _ hT)) (fun j t v h1 h2 => hv (j + 1) t v (by simpa using h1) (by simpa using h2)) h2
  exact ⟨_ :: l, ⟨⟨t, x, ht, rfl, hi, hx⟩, hl⟩, by simp [hd]⟩
 | [], _ :: _, _, _, _, _, h => by cases h
 | [], [], _ :: _, _, _, _, h => by cases h
 | _ :: _, [], _, _, _, _, h => by cases h
 | _ :: _, _ :: _, [], _, _, _, h => by cases h
theorem ArgsAre.vrl {P : Program} {O : Orc} {W : World} : ∀ {ts : List TypeId} {vs : List Value} {l : List AV}, ArgsAre P O W ts vs l → VRL (R0 W) O l vs ∧ (∀ a ∈ l, a.own = []) ∧ l.length = vs.length
 | [], [], [], _ => ⟨rfl, nofun, rfl⟩
 | _ :: ts, v :: vs, a :: l, h => by
  obtain ⟨⟨t, x, _, ha, _, hv⟩, h2⟩ := h
  obtain ⟨g1, g2, g3⟩ := h2.vrl
  refine ⟨by simp only [VRL]; exact ⟨v, vs, rfl, hv, g1⟩, fun b hb => ?_, by simp [g3]⟩
  rcases List.mem_cons.1 hb with rfl | hb
  ·rw [ha]; rfl
  ·exact g2 b hb
 | [], [], _ :: _, h => by cases h
 | [], _ :: _, _, h => by cases h
 | _ :: _, [], _, h => by cases h
 | _ :: _, _ :: _, [], h => by cases h
theorem ArgsAre.cons {P : Program} {O : Orc} {W : World} {T : TypeId} {ts : List TypeId} {vs : List Value} {l : List AV} (h : ArgsAre P O W (T :: ts) vs l) : ∃ t x l' vs', O.ty T = some t ∧ l = .tv [] t x :: l' ∧ InR t x ∧ ArgsAre P O W ts vs' l' := by
 match vs, l, h with
 | v :: vs, a :: l, ⟨⟨t, x, ht, ha, hi, _⟩, h2⟩ => exact ⟨t, x, l, vs, ht, by rw [ha], hi, h2⟩
theorem ArgsAre.nil {P : Program} {O : Orc} {W : World} {vs : List Value} {l : List AV} (h : ArgsAre P O W [] vs l) : l = [] := by
 match vs, l, h with
 | [], [], _ => rfl
theorem row_contract {H : Type} {enc : TypeId × Value → H} {P : Program} {O : Orc} (hP : ProgOK P O) (hl : laidOutB P = true) {f : FuncId} {fn : Func} {s : ChangeSpec} {tb : TypeId} (htb : P.underlying tb = some .bool) (hres : fn.resultTypes = #[tb])
  (hv : s.vars = []) (hr : ∀ t ∈ fn.params.toList, P.readableRec t = true ∧ t < P.types.size) (hts : ∀ T ∈ fn.params.toList, ∃ t, O.ty T = some t ∧ t.opn = true)
  (hfn : ∀ ds : List (DataW H), ds.length = fn.params.size → s.fn H ds = { results := [.lit (.bool true)], args := ds })
  (hall : ∀ (W : World) (vs : List Value) (l : List AV), ArgsAre P O W fn.params.toList vs l → ∃ k own h', callF P O k f l [] = some (.tv own .bool true, h'))
  (W : World) (base : Nat) (args : Array Value) (ds gs : List (DataW H)) (before : List MemPlace) (hg : GlobAt O W)
  (hval : ∀ (j : Nat) t v, fn.params[j]? = some t → args[j]? = some v → Value.okWide P W .any base t v)
  (hW : DataW.Whole enc P fn.params.toList s.vars false W args.toList ds gs before) :
  Calls P f args W fun e W' => ∃ v, e = .returned v ∧ s.post enc P fn false true false false W args v W' := by
 have hW' := hW
 obtain ⟨p, q, hA, hV, rfl, hfz, hnd⟩ := hW
 rw [hv] at hV
 obtain ⟨l, hl1, hd⟩ := args_open hP.orc _ _ _ _ hts (fun j t v h1 h2 => ⟨base, .any, hval j t v (by simpa using h1) (by simpa using h2)⟩) hA
 obtain ⟨g1, g2, g3⟩ := hl1.vrl
 obtain ⟨k, own, h', he⟩ := hall W _ l hl1
 have hgs : gs = [] := by
  cases gs with
  | nil => rfl
  | cons g r => exact absurd hV (by intro h; cases h)
 subst hgs
 refine (law_calls hP (by rw [g3]; simp) g1 g2 hg he).mono fun e W' h => ?_
 obtain ⟨he', hb⟩ := h
 exact ⟨_, he', law_post hl htb hres hv hr hW' (by rw [List.append_nil]; exact hfn ds (by simpa using hd)) hb⟩
end Go.Am
namespace Go.Am.Pr
end Go.Am.Pr
namespace Go.Am
open Go.Am.Pr
def joinPrim : List AV → Option AV
 | [.tv _ (.slice .str) l, .tv _ .str sep] => if List.length (l : List (List Int)) ≤ bigN ∧ List.length (List.intercalate (sep : List Int) (l : List (List Int))) ≤ 140737488355328 then some (.tv [] .str (List.intercalate (sep : List Int) (l : List (List Int)))) else none
 | _ => none
end Go.Am
namespace Go.Am
variable {P : Program} {O : Orc} {FB : Nat → Nat → Prop} {w : World} {ι : Key → Nat}
open Go.Am.Pr
end Go.Am
namespace Go.Am
open Go.RowKit (Below)
variable {P : Program} {O : Orc} {FB : Nat → Nat → Prop} {w w' : World} {s : St} {tm : Nat → Value} {ι : Key → Nat}
theorem Rel.below (h : Rel O FB w s tm ι) (hb : Below w.heap.size w w') : Stp O FB w s tm ι w' s tm ι := by
 have hsz := hb.size
 have hheap : ∀ b, b < w.heap.size → w'.heap[b]? = w.heap[b]? := hb.block
 have hcell : ∀ b i, b < w.heap.size → w'.cell? ⟨b, i, none⟩ = w.cell? ⟨b, i, none⟩ := fun b i hlt => hb.cell (p := ⟨b, i, none⟩) hlt
 have hfrz : ∀ b i, b < w.heap.size → w'.frozen? ⟨b, i, none⟩ = w.frozen? ⟨b, i, none⟩ := fun b i hlt => hb.frozen (p := ⟨b, i, none⟩) hlt
 have hown : ∀ l, owns w' s tm ι l = owns w s tm ι l := by
  intro l
  cases l with
  | sl i p => rfl
  | fd k p =>
   simp only [owns]
   cases hk : look s.heap k with
   | none => rfl
   | some ob => simp only [(h.ob k ob hk).2.sameF hheap]
  | ob k => rfl
 have hc : CellLe (rlOf w FB s tm ι) (rlOf w' FB s tm ι) :=
  rl_le (by omega) (fun l b lo hl _ => ⟨l, lo, by rw [← hown l]; exact hl, Nat.le_refl _⟩) fun b i hp => hcell b i hp.1
 have hrm : ∀ b i, b < w.heap.size → (w'.cell? ⟨b, i, none⟩).isSome = (w.cell? ⟨b, i, none⟩).isSome ∧ w'.frozen? ⟨b, i, none⟩ = w.frozen? ⟨b, i, none⟩ ∧ w'.shape? b = w.shape? b :=
  fun b i hb => ⟨by rw [hcell b i hb], hfrz b i hb, by unfold World.shape?; rw [hheap b hb]⟩
 have hle : (rlOf w FB s tm ι).le (rlOf w' FB s tm ι) := ⟨hc, fun k x hk => .of hk fun _ => Ext.keep hrm⟩
 refine ⟨⟨fun i => (h.vr i).le hle, fun k ob hk => ?_, fun l l' b lo lo' h1 h2 => ?_, fun i own t x e p hp => room_same hrm (by omega) (h.rs i own t x e p hp), fun k ob hk p hp => ?_, fun l b lo lo' hl => ?_, fun b lo hb => by have := h.fs b lo hb; omega, h.gl_le hc⟩, fun l b lo hl => .inl ⟨l, lo, by rw [← hown l]; exact hl, Nat.le_refl _⟩, by omega⟩
 ·obtain ⟨h1, h2⟩ := h.ob k ob hk
  exact ⟨h1, h2.keep hle h1 fun hg => hheap _ (h2.lt hg)⟩
 ·rw [hown] at h1 h2; exact h.dj l l' b lo lo' h1 h2
 ·exact (h.ob k ob hk).2.sameR hheap (room_same hrm (by omega) (h.rf k ob hk p hp))
 ·rw [hown] at hl; exact h.fb l b lo lo' hl
theorem Rel.goesBelow (h : Rel O FB w s tm ι) (hb : Below w.heap.size w w') : Goes O FB w s tm ι w' s tm ι where
 stp := h.below hb
 hist := ⟨hb.os, hb.tape, hb.output, hb.size, fun b hlt _ => hb.block b hlt, fun b lo hlt _ o _ => hb.cell (p := ⟨b, o, none⟩) hlt, fun b hlt o => ⟨by rw [hb.cell (p := ⟨b, o, none⟩) hlt], .inl (hb.frozen (p := ⟨b, o, none⟩) hlt)⟩⟩
 keys := fun _ _ => KGo.of ⟨rfl, rfl⟩
theorem prim_below {f : FuncId} {vs : Array Value} {h : Heap} {args : List AV} {r : AV} {v : Value} (H : Rel O FB w ⟨args, h⟩ (tmArgs vs) ι) (c : Calls P f vs w fun e w' => e = .returned v ∧ Below w.heap.size w w') (hr : ∀ R, VR R O r v) (ho : r.own = []) :
  Calls P f vs w fun e w' => ∃ v ι', e = .returned v ∧ Goes O FB w ⟨args, h⟩ (tmArgs vs) ι w' ⟨[r], h⟩ (fun _ => v) ι' :=
 c.mono fun e w' hq => by
  obtain ⟨rfl, hb⟩ := hq
  have g := H.goesBelow hb
  exact ⟨v, ι, rfl, Goes.trans H g (g.stp.rel.ends (hr _) (.inr ho))⟩
theorem bytes_join (sep : List Int) (l : List (List Int)) : Lib.join ((l.map bytesOf).map (·.data.toList)) (bytesOf sep).data.toList = (List.intercalate sep l).map fun z => UInt8.ofNat z.toNat := by
  have e : ((l.map bytesOf).map (·.data.toList)) = l.map fun x => x.map fun z => UInt8.ofNat z.toNat := by
    rw [List.map_map]
    refine List.map_congr_left fun x _ => ?_
    simp [bytesOf]
  have e2 : (bytesOf sep).data.toList = sep.map fun z => UInt8.ofNat z.toNat := by simp [bytesOf]
  rw [e, e2]
  unfold Lib.join List.intercalate
  rw [List.map_flatten]
  congr 1
  clear e e2
  induction l with
  | nil => rfl
  | cons a l ih =>
    cases l with
    | nil => rfl
    | cons b l => simpa using ih
theorem inter_mem {sep : List Int} {z : Int} : ∀ {l : List (List Int)}, z ∈ List.intercalate sep l → z ∈ sep ∨ ∃ x ∈ l, z ∈ x
 | [], h => by simp [List.intercalate] at h
 | [a], h => by simp [List.intercalate] at h; exact .inr ⟨a, by simp, h⟩
 | a :: b :: l, h => by
  have e : List.intercalate sep (a :: b :: l) = a ++ (sep ++ List.intercalate sep (b :: l)) := by simp [List.intercalate]
  rw [e] at h
  rcases List.mem_append.1 h with h | h
  ·exact .inr ⟨a, by simp, h⟩
  ·rcases List.mem_append.1 h with h | h
   ·exact .inl h
   ·rcases inter_mem h with h | ⟨x, hx, h⟩
    ·exact .inl h
    ·exact .inr ⟨x, List.mem_cons_of_mem _ hx, h⟩
theorem join_ok {f : FuncId} (hb : hasBody P f)
    (hn : ∀ (a : Option Addr) (c : Nat) (sep : ByteArray) (w : World), Calls P f #[.slice a 0 c, .string sep] w fun e w' => e = .returned (.string ⟨#[]⟩) ∧ w' = w)
    (hj : ∀ (bk o c : Nat) (xs : List ByteArray) (sep : ByteArray) (w : World), (∀ (j : Nat) x, xs[j]? = some x → w.cell? ⟨bk, o + j, none⟩ = some (.string x)) → bk < w.heap.size → xs.length ≤ 140737488355328 → xs.length ≤ c →
      (Lib.join (xs.map (·.data.toList)) sep.data.toList).length ≤ 140737488355328 →
      Calls P f #[.slice (some ⟨bk, o, none⟩) xs.length c, .string sep] w fun e w' => e = .returned (.string ⟨(Lib.join (xs.map (·.data.toList)) sep.data.toList).toArray⟩) ∧ Below w.heap.size w w')
    (args : List AV) (r : AV) (hg : joinPrim args = some r) : hasBody P f ∧ ∀ (FB : Nat → Nat → Prop) (w : World) (h : Heap) (ι : Key → Nat) (vs : Array Value), args.length = vs.size → Rel O FB w ⟨args, h⟩ (tmArgs vs) ι →
    Calls P f vs w fun e w' => ∃ v ι', e = .returned v ∧ Goes O FB w ⟨args, h⟩ (tmArgs vs) ι w' ⟨[r], h⟩ (fun _ => v) ι' := by
  unfold joinPrim at hg
  split at hg
  · rename_i o1 l o2 sep
    split at hg
    · rename_i hlen
      obtain ⟨hl1, hl2⟩ := hlen
      cases hg
      refine ⟨hb, fun FB w h ι vs hl H => ?_⟩
      obtain ⟨vs⟩ := vs
      match vs, hl with
      | [v1, v2], _ => ?_
      have h0 := H.vr 0
      have h1 := H.vr 1
      have g0 : (⟨[AV.tv o1 (.slice .str) l, AV.tv o2 .str sep], h⟩ : St).get 0 = AV.tv o1 (.slice .str) l := rfl
      have g1 : (⟨[AV.tv o1 (.slice .str) l, AV.tv o2 .str sep], h⟩ : St).get 1 = AV.tv o2 .str sep := rfl
      rw [g0] at h0
      rw [g1] at h1
      simp only [VR] at h0 h1
      have h0' : VT (rlOf w FB ⟨[AV.tv o1 (.slice .str) l, AV.tv o2 .str sep], h⟩ (tmArgs ⟨[v1, v2]⟩) ι) (.slice .str) l v1 := h0
      have h1' : VT (rlOf w FB ⟨[AV.tv o1 (.slice .str) l, AV.tv o2 .str sep], h⟩ (tmArgs ⟨[v1, v2]⟩) ι) .str sep v2 := h1
      obtain ⟨rfl, hsep⟩ := h1'.str
      obtain ⟨a, cap, b, off, us, rfl, k2, k3, k4, k5, k6⟩ := h0'.slice
      have hel : ∀ i (hi : i < List.length (l : List (List Int))), us i 0 = .string (bytesOf ((l : List (List Int))[i]'hi)) ∧ ∀ z ∈ (l : List (List Int))[i]'hi, isByte z := fun i hi => by
        have := k6 i hi
        have e : (List.getD l i (Am.zero .str) : List Int) = (l : List (List Int))[i]'hi := by
          rw [List.getD_eq_getElem?_getD, List.getElem?_eq_getElem hi]; rfl
        simp only [RV] at this
        rw [e] at this
        exact this
      have hout : ∀ z ∈ List.intercalate (sep : List Int) (l : List (List Int)), isByte z := fun z hz => by
        rcases inter_mem hz with h | ⟨x, hx, h⟩
        · exact hsep z h
        · obtain ⟨i, hi, rfl⟩ := List.mem_iff_getElem.1 hx
          exact (hel i hi).2 z h
      have hVR : ∀ R, VR R O (.tv [] .str (List.intercalate (sep : List Int) (l : List (List Int)))) (.string (bytesOf (List.intercalate (sep : List Int) (l : List (List Int))))) := fun R => by
        simp only [VR]
        exact ⟨rfl, nofun, fun _ => rfl, rfl, by simp only [RV, cellsF, Value.cells]; exact ⟨rfl, hout⟩⟩
      by_cases hnil : List.length (l : List (List Int)) = 0
      · have hl0 : (l : List (List Int)) = [] := List.length_eq_zero_iff.1 hnil
        refine prim_below H ?_ hVR rfl
        have e : bytesOf (List.intercalate (sep : List Int) (l : List (List Int))) = ⟨#[]⟩ := by rw [hl0]; rfl
        rw [e, hnil]
        exact (hn a cap _ w).mono fun e w' hq => ⟨hq.1, by rw [hq.2]; exact Below.refl _ _⟩
      · obtain rfl := k4 (by omega)
        refine prim_below H ?_ hVR rfl
        have hcl : ∀ (j : Nat) x, (List.map bytesOf (l : List (List Int)))[j]? = some x → w.cell? ⟨b, off + j, none⟩ = some (.string x) := fun j x hx => by
          rw [List.getElem?_map] at hx
          obtain ⟨y, hy, rfl⟩ := Option.map_eq_some_iff.1 hx
          obtain ⟨hj, rfl⟩ := List.getElem?_eq_some_iff.1 hy
          have := (k5 j hj 0 (by simp [Ty.size])).1
          rw [(hel j hj).1] at this
          simp only [Ty.size, Nat.mul_one, Nat.add_zero] at this
          exact this
        have hbk : b < w.heap.size := by
          have := hcl 0 (bytesOf ((l : List (List Int))[0]'(by omega))) (by rw [List.getElem?_map, List.getElem?_eq_getElem (by omega)]; rfl)
          exact World.block_lt_of_cell? w ⟨b, off + 0, none⟩ this
        have hbj := bytes_join (sep : List Int) (l : List (List Int))
        have := hj b off cap (List.map bytesOf (l : List (List Int))) (bytesOf sep) w hcl hbk (by rw [List.length_map]; exact Nat.le_trans hl1 (by unfold bigN; omega)) (by rw [List.length_map]; exact k2) (by rw [hbj, List.length_map]; exact hl2)
        rw [List.length_map] at this
        refine this.mono fun e w' hq => ⟨?_, hq.2⟩
        rw [hq.1, hbj]
        rfl
    · cases hg
  · cases hg
end Go.Am
namespace Go.Am
variable {P : Program} {O : Orc} {c1 c2 : CallF} {draw : Bool} {f : FuncId} {rid i : Nat} {o : Oper} {ops : Array Oper}
def sameIn (σ : Key → Key) (h1 h : Heap) : List Key → Nat → Bool
 | [], _ => true
 | k :: r, i => (match look h1 (0, i), look h k with
  | some a, some b => decide (renO σ a = b)
  | _, _ => false) && sameIn σ h1 h r (i + 1)
theorem sameIn_ok {σ : Key → Key} {h1 h : Heap} : ∀ {l : List Key} {i : Nat}, sameIn σ h1 h l i = true → backIn σ h1 l i h = some h
 | [], _, _ => rfl
 | k :: r, i, e => by
  simp only [sameIn, Bool.and_eq_true] at e
  obtain ⟨e1, e2⟩ := e
  split at e1
  ·rename_i a b ha hb
   have := of_decide_eq_true e1
   subst this
   simp only [backIn, ha, Option.bind_some]
   rw [over_same _ _ _ hb]
   exact sameIn_ok e2
  ·cases e1
def callRO (O : Orc) (call : CallF) (draw : Bool) (dst : Option Nat) (g : FuncId) (args0 : List AV) (h : Heap) : Option Res :=
 let args := args0.map AV.drop
 forceL forceP (reach h 50 (keysL args) []) fun ks =>
 if (draw && !(ks.isEmpty && (O.out g).isEmpty)) || !(keysL args).all ks.contains || !noDup ks || !noDup (O.out g) then none else
 (inObs h (inward ks) ks 0).bind fun h0 =>
 if !ks.all (fun k => ((look h k).map fun o => (keysO o).all ks.contains).getD false) then none else
 (call g (renL (inward ks) args) h0).bind fun q =>
 forceL forceP (liveK q.2 ks.length q.1) fun rr =>
 forceL forceP ((O.out g).filter fun k => (look q.2 k).isSome && k.1 != 0 && rr.contains k) fun ex =>
 let ok := fun (k : Key) => (k.1 == 0 && decide (k.2 < ks.length)) || ex.contains k
 let h1 := q.2.filter fun b => ok b.1
 if !((keysA q.1).all ok && shut ok h1) then none else
 if ex.isEmpty && sameIn (outward ks ex (dst.getD 0)) q.2 h ks 0 then some ⟨renA (outward ks ex (dst.getD 0)) q.1, none, h⟩ else none
theorem callRO_ok (hc : LeC c1 c2) {dst : Option Nat} {q : FuncId} {args : List AV} {h : Heap} {r : Res} (e : callRO O c1 draw dst q args h = some r) : callA O c2 draw dst q args h = some r ∧ r.h = h := by
 unfold callRO at e
 unfold callA
 simp only [forceKs_eq] at e ⊢
 split at e
 ·cases e
 ·rename_i hn
  rw [if_neg hn]
  simp only [Option.bind_eq_some_iff] at e ⊢
  obtain ⟨h0, h1, e⟩ := e
  split at e
  ·cases e
  ·rename_i hn2
   simp only [Option.bind_eq_some_iff] at e
   obtain ⟨p, h2, e⟩ := e
   split at e
   ·cases e
   ·rename_i hn3
    split at e
    ·rename_i hs
     cases e
     simp only [Bool.and_eq_true] at hs
     refine ⟨⟨h0, h1, ?_⟩, rfl⟩
     rw [if_neg hn2]
     simp only [Option.bind_eq_some_iff]
     refine ⟨p, hc _ _ _ _ h2, ?_⟩
     rw [if_neg hn3]
     simp only [Option.bind_eq_some_iff]
     have hex := List.isEmpty_iff.1 hs.1
     rw [hex] at hs ⊢
     exact ⟨h, sameIn_ok hs.2, h, rfl, rfl⟩
    ·cases e
def callTO (O : Orc) (call : CallF) (draw tk : Bool) (X : List Key) (dst : Option Nat) (g : FuncId) (args : List AV) (h : Heap) : Option Res :=
 if roK X && !tk then callRO O call draw dst g args h else callT O call draw tk X dst g args h
theorem callTO_ok (hc : LeC c1 c2) {tk : Bool} {X : List Key} {dst : Option Nat} {q : FuncId} {args : List AV} {h : Heap} {r : Res} (e : callTO O c1 draw tk X dst q args h = some r) : callT O c2 draw tk X dst q args h = some r := by
 unfold callTO at e
 split at e
 ·rename_i hro
  simp only [Bool.and_eq_true, Bool.not_eq_true'] at hro
  obtain ⟨e1, e2⟩ := callRO_ok hc e
  unfold callT
  have hf : farK O h q args X = true := by
   unfold farK
   split
   ·rfl
   ·rw [hro.1]; rfl
  rw [hf, hro.2, e1]
  simp [keepR_same e2]
 ·exact callT_mono hc e
def execO (O : Orc) (call : CallF) (draw : Bool) (f : FuncId) (rid i : Nat) (o : Oper) (g : Nat → AV) (h : Heap) : Option Res :=
 if O.mrk f rid i then execM O (O.take f rid i) o g h else match o.op with
 | .call ⟨.value x, as, tys⟩ => match val g none x with
  | .fn q first caps => callTO O call draw (O.take f rid i) (O.far f rid i) o.dst q (first ++ (as.toList.zipIdx.map fun (x, j) => val g ((tys[j]?).bind O.ty) x) ++ caps) h
  | _ => none
 | _ => exec0 O call draw f rid i o g h
theorem execO_ok (hc : LeC c1 c2) {g : Nat → AV} {h : Heap} {r : Res} (e : execO O c1 draw f rid i o g h = some r) : exec O c2 draw f rid i o g h = some r := by
 unfold execO at e
 split at e
 ·rename_i hm
  unfold exec; rw [if_pos hm]; exact e
 rename_i hm
 split at e
 ·rename_i x as tys hop
  unfold exec; rw [if_neg hm]
  simp only [exec0, hop, callO]
  split at e
  ·rename_i hv
   rw [hv]
   exact callTO_ok hc e
  ·cases e
 ·refine exec_mono hc ?_
  unfold exec; rw [if_neg hm]; exact e
def stepGO (O : Orc) (call : CallF) (draw : Bool) (f : FuncId) (rid : Nat) (ops : Array Oper) (i : Nat) (o : Oper) (g : Nat → AV) (h : Heap) : Option Res := match o.guard with
 | none => execO O call draw f rid i o g h
 | some (j, b) => match yieldA ops g j with
  | some (some x) => bif x == b then execO O call draw f rid i o g h else some ⟨.no, none, h⟩
  | some none => some ⟨.no, none, h⟩
  | none => none
theorem stepGO_ok (hc : LeC c1 c2) {g : Nat → AV} {h : Heap} {r : Res} (e : stepGO O c1 draw f rid ops i o g h = some r) : stepG O c2 draw f rid ops i o g h = some r := by
 unfold stepGO at e
 unfold stepG
 cases hg : o.guard with
 | none => rw [hg] at e; exact execO_ok hc e
 | some jb =>
  obtain ⟨j, b⟩ := jb
  rw [hg] at e
  simp only at e ⊢
  split at e
  ·rename_i x hy
   rw [hy]
   cases hx : x == b with
   | true => rw [hx] at e; simp only [cond_true, hx] at e ⊢; exact execO_ok hc e
   | false => rw [hx] at e; simp only [cond_false, hx] at e ⊢; exact e
  ·rename_i hy
   rw [hy]
   exact e
  ·cases e
def stepsO (O : Orc) (call : CallF) (draw : Bool) (f : FuncId) (rid : Nat) (ops : Array Oper) : List Nat → St → Option St
 | [], s => some s
 | i :: r, s => match ops[i]? with
  | none => none
  | some o => (stepGO O call draw f rid ops i o s.get s.heap).bind fun q => forceV q.a fun a => stepsO O call draw f rid ops r (s.app o.dst ⟨a, q.tk, q.h⟩)
theorem stepsO_ok (hc : LeC c1 c2) : ∀ (l : List Nat) (s s' : St), stepsO O c1 draw f rid ops l s = some s' → steps O c2 draw f rid ops l s = some s'
 | [], _, _, e => e
 | j :: l, s, s', e => by
  simp only [stepsO] at e
  simp only [steps, step, Option.bind_eq_some_iff]
  split at e
  ·cases e
  ·simp only [Option.bind_eq_some_iff, forceV_eq] at e
   obtain ⟨r, h1, h2⟩ := e
   rename_i o ho
   exact ⟨_, by rw [ho]; simp only []; rw [stepGO_ok hc h1]; rfl, stepsO_ok hc l _ _ h2⟩
def stepsDO (O : Orc) (call : CallF) (f : FuncId) (rid : Nat) (ops : Array Oper) (ah : List Nat) : List Nat → List (Nat × Foot) → St → Option St
 | [], _, s => some s
 | j :: r, acc, s => match ops[j]? with
  | none => none
  | some o =>
   let fj := foot O f rid ops j o s.get
   if acc.all fun p => (ah.getD j 0).testBit p.1 || (apartS O f rid ops p.1 j && compat p.2 fj) then (stepGO O call false f rid ops j o s.get s.heap).bind fun q => forceV q.a fun a => stepsDO O call f rid ops ah r (acc ++ [(j, fj)]) (s.app o.dst ⟨a, q.tk, q.h⟩) else none
theorem stepsDO_ok (hc : LeC c1 c2) {ah : List Nat} : ∀ (l : List Nat) (acc : List (Nat × Foot)) (s s' : St), stepsDO O c1 f rid ops ah l acc s = some s' → stepsD O c2 f rid ops ah l acc s = some s'
 | [], _, _, _, e => e
 | j :: l, acc, s, s', e => by
  simp only [stepsDO] at e
  simp only [stepsD]
  split at e
  ·cases e
  ·rename_i o ho
   rw [ho]
   simp only []
   split at e
   ·rename_i hcnd
    rw [if_pos hcnd]
    simp only [step, ho, Option.bind_eq_some_iff, forceV_eq] at e ⊢
    obtain ⟨r, h1, h2⟩ := e
    exact ⟨_, by rw [stepGO_ok hc h1]; rfl, stepsDO_ok hc l _ _ _ h2⟩
   ·cases e
def evalO (O : Orc) (call : CallF) (n : Nat) (f : FuncId) : Code → St → Option (Ex × St)
 | .skip, s => some (.normal, s)
 | .region id ops draw, s => (if draw && O.ban f id then stepsDO O call f id ops (aheads ops.toList []) (List.range ops.size) [] s else stepsO O call draw f id ops (List.range ops.size) s).bind fun s' => forceVS s' fun s' => some (.normal, s')
 | .seq a b, s => (evalO O call n f a s).bind fun q => match q.1 with
  | .normal => evalO O call n f b q.2
  | e => some (e, q.2)
 | .cond c a b, s => match val s.get none c with
  | .tv _ .bool x => bif x then evalO O call n f a s else evalO O call n f b s
  | _ => none
 | .block id a, s => (evalO O call n f a s).map fun q => match q.1 with
  | .exit id' => if id' = id then (.normal, q.2) else (.exit id', q.2)
  | e => (e, q.2)
 | .loop a, s => loopN (evalO O call n f a) (restrict (O.live f (firstReg a))) n s
 | .exit id, s => some (.exit id, s)
 | .ret, s => some (.ret, s)
 | _, _ => none
theorem evalO_ok (hc : LeC c1 c2) {n m : Nat} (hn : n ≤ m) : ∀ (c : Code) (s : St) (q : Ex × St), evalO O c1 n f c s = some q → evalC O c2 m f c s = some q
 | .skip, s, q, e => by simpa only [evalC, evalO] using e
 | .region id ops draw, s, q, e => by
  simp only [evalO, evalC, Option.bind_eq_some_iff, forceS_eq, forceVS_eq] at e ⊢
  obtain ⟨s', h1, e⟩ := e
  refine ⟨s', ?_, e⟩
  split at h1
  ·rename_i hcnd; rw [if_pos hcnd]; exact stepsDO_ok hc _ _ _ _ h1
  ·rename_i hcnd; rw [if_neg hcnd]; exact stepsO_ok hc _ _ _ h1
 | .seq a b, s, q, e => by
  simp only [evalO, evalC, Option.bind_eq_some_iff] at e ⊢
  obtain ⟨⟨x, s1⟩, h1, e⟩ := e
  refine ⟨(x, s1), evalO_ok hc hn a _ _ h1, ?_⟩
  cases x with
  | normal => exact evalO_ok hc hn b _ _ e
  | exit id => exact e
  | ret => exact e
 | .cond c a b, s, q, e => by
  simp only [evalO, evalC] at e ⊢
  split at e
  ·rename_i own x hv
   rw [hv]
   cases x with
   | true => exact evalO_ok hc hn a _ _ e
   | false => exact evalO_ok hc hn b _ _ e
  ·cases e
 | .block id a, s, q, e => by
  simp only [evalO, evalC, Option.map_eq_some_iff] at e ⊢
  obtain ⟨p, h1, e⟩ := e
  exact ⟨p, evalO_ok hc hn a _ _ h1, e⟩
 | .loop a, s, q, e => by
  simp only [evalO, evalC] at e ⊢
  exact loopN_mono (fun s q h => evalO_ok hc hn a s q h) n m s q hn e
 | .exit id, s, q, e => by simpa only [evalC, evalO] using e
 | .ret, s, q, e => by simpa only [evalC, evalO] using e
 | .label _, s, q, e => by simp [evalO] at e
 | .goto _, s, q, e => by simp [evalO] at e
 | .rangeFunc .., s, q, e => by simp [evalO] at e
 | .scope _, s, q, e => by simp [evalO] at e
 | .refuse _, s, q, e => by simp [evalO] at e
def callG (P : Program) (O : Orc) : Nat → CallF
 | 0 => fun _ _ _ => none
 | k + 1 => fun f args h => match O.prim f with
  | some g => (g args).map fun r => (r, h)
  | none => match O.hprim f with
  | some g => (g args h).bind fun q => if q.1 ≤ bigN then some q.2 else none
  | none => if !O.fns f then none else (P.funcs[f]?).bind fun fn => fn.body.bind fun c =>
   (evalO O (callG P O k) k f c ⟨args ++ List.replicate (fn.ntmps - args.length) .no, h⟩).bind fun q => match q.1 with
    | .exit _ => none
    | _ => (resL O q.2 fn.results.toList).bind fun l => canon (resA l) q.2.heap
theorem callG_ok : ∀ (k : Nat), LeC (callG P O k) (callF P O k)
 | 0, _, _, _, _, e => by simp [callG] at e
 | k + 1, f, args, hp, q, e => by
  simp only [callG] at e
  simp only [callF]
  cases hp1 : O.prim f with
  | some g => rw [hp1] at e; exact e
  | none =>
   rw [hp1] at e
   simp only at e ⊢
   cases hp2 : O.hprim f with
   | some g => rw [hp2] at e; exact e
   | none =>
    rw [hp2] at e
    simp only at e ⊢
    split at e
    ·cases e
    ·rename_i hf
     rw [if_neg hf]
     simp only [Option.bind_eq_some_iff] at e ⊢
     obtain ⟨fn, h1, c, h2, p, h3, e⟩ := e
     exact ⟨fn, h1, c, h2, p, evalO_ok (callG_ok k) (Nat.le_refl _) c _ _ h3, e⟩
end Go.Am
