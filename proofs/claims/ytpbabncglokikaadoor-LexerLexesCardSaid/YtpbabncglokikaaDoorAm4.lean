/-
  The machine over typed data, part 4: what calls come to, read as typed data, holds of the model.
-/
import Derived.Test.YtpbabncglokikaaDoorAm3
import Derived.Tactics
set_option linter.all false
/-
  slices.Clone, by what it computes.
-/
namespace Go.Am
variable {P : Program} {O : Orc}
theorem run_eql_nilS {T e : TypeId} {a : Option Addr} {n c : Nat} {w : World} (hu : P.underlying T = some (.slice e)) : (binOp .eql T (.slice a n c) (.slice none 0 0)).run P w = .ok (.bool a.isNone) w := by
  have he1 : (Op.equal T (.slice a n c) (.slice none 0 0)).run P w = .ok a.isNone w := by
    have key : ∀ n' : Nat, (Op.equalIn (n' + 1) T (.slice a n c) (.slice none 0 0)).run P w = .ok a.isNone w := by
      intro n'
      cases a <;> simp [Op.equalIn, run_und hu]
    exact key 9999
  simp [binOp, he1]
def cloneOps (T : TypeId) (p : String) : Array Oper := #[{ dst := some 5, op := Op.buildSlice T 0 #[], type := T, pos := p, after := #[], guard := none },
  { dst := some 6, op := Op.move (Operand.tmp 0), type := T, pos := p, after := #[], guard := none },
  { dst := some 7, op := Op.call { callee := Callee.builtin Builtin.append, args := #[Operand.tmp 5, Operand.tmp 6], argTypes := #[T, T] }, type := T, pos := p, after := #[{ on := 0, ground := Ground.data }, { on := 1, ground := Ground.data }], guard := none },
  { dst := some 2, op := Op.assign (Operand.tmp 7), type := T, pos := p, after := #[{ on := 2, ground := Ground.data }, { on := 2, ground := Ground.chain }, { on := 0, ground := Ground.phase }, { on := 1, ground := Ground.phase }, { on := 2, ground := Ground.phase }], guard := none }]
def cloneCode (T : TypeId) (p : String) : Code := (Code.region 3 (cloneOps T p) false).seq Code.ret
def cloneAct (v : Value) : Act := { tmps := #[v, undef, .slice none 0 0, v, .bool false, undef, undef, undef], defers := [] }
/-- What the tables say of the code behind the test. -/
structure CloneTab (O : Orc) (f : FuncId) : Prop where
  tk : O.take f 3 1 = false ∧ O.take f 3 2 = true ∧ O.take f 3 3 = true
  mks : ∀ i, O.mrk f 3 i = false
def cloneSt (t : Ty) (l : List (den t)) (h : Heap) : St := ⟨[.tv [] (.slice t) l, .no, .any, .tv [] (.slice t) l, .tv [] .bool false, .no, .no, .no], h⟩
theorem clone_steps {call : CallF} {f : FuncId} {T : TypeId} {p : String} {t : Ty} {l : List (den t)} {h : Heap} (hc : CloneTab O f) (hT : O.ty T = some (.slice t)) (hl : l.length ≤ bigN) :
    ∃ e, steps O call false f 3 (cloneOps T p) (List.range (cloneOps T p).size) (cloneSt t l h) = some ⟨e, h⟩ ∧ e.getD 2 .any = .tv [[]] (.slice t) l := by
  obtain ⟨k1, k2, k3⟩ := hc.tk
  refine ⟨[.tv [] (.slice t) l, .no, .tv [[]] (.slice t) l, .tv [] (.slice t) l, .tv [] .bool false, .tv [] (.slice t) [], .tv [] (.slice t) l, .tv [] (.slice t) l], ?_, rfl⟩
  simp [cloneOps, cloneSt, List.range, List.range.loop, steps, step, stepG, exec, exec0, hc.mks, k1, k2, k3, hT, St.app, St.get, buildSl, takeV, callO, appV, hl, AV.drop, val]
theorem tmOf_clone {v : Value} {i : Nat} : tmOf (cloneAct v) i = #[v, undef, .slice none 0 0, v, .bool false, undef, undef, undef].getD i undef := rfl
theorem clone_ok (hO : OrcOK P O) (hm : P.follows .mixedOrders = true) {f : FuncId} {fn : Func} {T : TypeId} {t : Ty} {p : String} (hc : CloneTab O f) (hT : O.ty T = some (.slice t)) (hres : fn.results = #[.tmp 2])
    (hb : hasBody P f) (hnil : ∀ w, Calls P f #[.slice none 0 0] w fun e w' => e = .returned (.slice none 0 0) ∧ w' = w)
    (hsome : ∀ a n c w Q, (cloneCode T p).wp P (bodyPost P fn Q) (cloneAct (.slice (some a) n c)) w → Calls P f #[.slice (some a) n c] w Q)
    {l : List (den t)} (hl : l.length ≤ bigN) (FB : Nat → Nat → Prop) (w : World) (h : Heap) (ι : Key → Nat) (vs : Array Value) {own : List (List Nat)} (hvs : 1 = vs.size) (H : Rel O FB w ⟨[.tv own (.slice t) l], h⟩ (tmArgs vs) ι) :
    Calls P f vs w fun e w' => ∃ v ι', e = .returned v ∧ Goes O FB w ⟨[.tv own (.slice t) l], h⟩ (tmArgs vs) ι w' ⟨[.tv [[]] (.slice t) l], h⟩ (fun _ => v) ι' := by
  obtain ⟨vs⟩ := vs
  match vs, hvs with
  | [v], _ => ?_
  have h0 := H.vr 0
  have e0 : (⟨[.tv own (.slice t) l], h⟩ : St).get 0 = .tv own (.slice t) l := rfl
  rw [e0] at h0
  simp only [VR] at h0
  have h0' : VT (rlOf w FB ⟨[.tv own (.slice t) l], h⟩ (tmArgs ⟨[v]⟩) ι) (.slice t) l v := h0
  obtain ⟨a, cap, b, off, us, hv, g1, g2, g3, g4, g5⟩ := h0'.slice
  cases a with
  | none =>
    obtain ⟨z1, z2⟩ := g2 rfl
    rw [z1, z2] at hv
    subst hv
    have hl0 : l = [] := List.length_eq_zero_iff.1 z1
    subst hl0
    refine (hnil w).mono fun e w' hq => ?_
    obtain ⟨rfl, rfl⟩ := hq
    refine ⟨_, ι, rfl, ?_⟩
    have s1 := H.set 0 (.tv [[]] (.slice t) []) (.slice none 0 0) (by simp only [VR]; exact h0') (fun own' u x e q hq => by
      injection e with e1 e2 _
      subst e1; subst e2
      simp only [List.mem_singleton] at hq
      subst hq
      simp [regAt, pTy, pOff, cellsF, Value.cells])
    have g := s1.rel.ends (r := .tv [[]] (.slice t) []) (v := .slice none 0 0) (s1.rel.vr 0) (.inl ⟨0, rfl, rfl⟩)
    exact Goes.trans H ⟨s1, Hist.refl _ _, fun _ _ => KGo.of ⟨rfl, rfl⟩⟩ g
  | some ad =>
    subst hv
    refine hsome _ _ _ _ _ ?_
    have hget : ∀ i, (cloneSt t l h).get i = if i = 0 ∨ i = 3 then .tv [] (.slice t) l else if i = 4 then .tv [] .bool false else if i = 2 ∨ 8 ≤ i then .any else .no := by
      intro i
      match i with
      | 0 | 1 | 2 | 3 | 4 | 5 | 6 | 7 => rfl
      | n + 8 =>
        rw [if_neg (by omega), if_neg (by omega), if_pos (by omega)]
        simp [cloneSt, St.get]
    have hown : ∀ i own' t' x', (cloneSt t l h).get i = .tv own' t' x' → own' = [] := by
      intro i own' t' x' e
      rw [hget] at e
      split at e
      · cases e; rfl
      · split at e
        · cases e; rfl
        · split at e <;> cases e
    have S1 := H.env (cloneSt t l h).env (tmOf (cloneAct (.slice (some ad) (List.length l) cap))) (fun i => ?_) (fun i p x e => ?_) (fun i p i' p' b lo lo' e _ => ?_) (fun i own' u x e q hq => ?_)
    · have H1 : Rel O FB w (cloneSt t l h) (tmOf (cloneAct (.slice (some ad) (List.length l) cap))) ι := S1.rel
      obtain ⟨e, he1, he2⟩ := clone_steps (call := fun _ _ _ => none) (p := p) (h := h) hc hT hl
      refine wp_seq (region_ok (s := cloneSt t l h) hO hm (call := fun _ _ _ => none) (f := f) (draw := false) (fun g a h q e => by cases e) (by intro e; cases e) H1 rfl he1 fun a' w' ι' d z g => ?_)
      refine wp_ret ?_
      refine bodyPost_ret (results_tmp hres _ _ _) d ?_
      refine ⟨_, ι', rfl, ?_⟩
      have g2 := g.stp.rel.ends (r := .tv [[]] (.slice t) l) (v := a'.tmps.getD 2 undef) (by have := g.stp.rel.vr 2; simp only [St.get, he2] at this; exact this) (.inl ⟨2, he2.symm, rfl⟩)
      exact Goes.trans H (Goes.trans H ⟨S1, Hist.refl _ _, fun _ _ => KGo.of ⟨rfl, rfl⟩⟩ g) g2
    · show VR _ O ((cloneSt t l h).get i) _
      match i with
      | 0 => simp only [hget, true_or, if_true, VR]; exact h0'
      | 1 => simp only [hget]; rfl
      | 2 => simp only [hget]; trivial
      | 3 => simp only [hget, or_true, if_true, VR]; exact h0'
      | 4 => simp only [hget]; exact VT.ofBool false
      | 5 => simp only [hget]; rfl
      | 6 => simp only [hget]; rfl
      | 7 => simp only [hget]; rfl
      | n + 8 => rw [hget, if_neg (by omega), if_neg (by omega), if_pos (by omega)]; trivial
    · exfalso
      simp only [owns] at e
      split at e
      · rename_i own' t' x' he
        rw [hown _ _ _ _ he] at e; simp at e
      · cases e
    · exfalso
      simp only [owns] at e
      split at e
      · rename_i own' t' x' he
        rw [hown _ _ _ _ he] at e; simp at e
      · cases e
    · rw [hown i own' u x e] at hq; cases hq
end Go.Am

