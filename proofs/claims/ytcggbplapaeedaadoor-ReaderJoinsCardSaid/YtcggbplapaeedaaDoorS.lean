/-
  A part of the proof of a law: see the text that states it.
-/
import Derived.Test.YtcggbplapaeedaaDoorNS
import Derived.Test.YtcggbplapaeedaaDoorI
set_option linter.all false
namespace Go.Am.R
open Go Go.Am.Pr Go.Am.R.L
set_option maxRecDepth 100000
abbrev Kt := Int × List Int
def pre (ms : List Kt) : Except Int (List Kt) → Except Int (List Kt)
 | .error e => .error e
 | .ok l => .ok (ms ++ l)
theorem pre_nil (x : Except Int (List Kt)) : pre [] x = x := by cases x <;> rfl
theorem pre_pre (a b : List Kt) (x : Except Int (List Kt)) : pre a (pre b x) = pre (a ++ b) x := by
 cases x with
 | error e => rfl
 | ok l => simp [pre]
def preP (k : Nat) (ms : List Mk) : Except (Int × Nat) (List Mk) → Except (Int × Nat) (List Mk)
 | .error e => .error e
 | .ok l => .ok (ms.map (fun q => (q.1, q.2.1, k + q.2.2)) ++ l)
def Tok (a : List Int) (kd : Int) (t : List Int) (ok : Bool) (B : List Int → Prop) : Prop := a ≠ [] ∧ ∀ x, B x → tokK (a ++ x) = .ok (kd, t, a.length, ok)
abbrev Any (_ : List Int) : Prop := True
def Lx (a : List Int) (ms : List Kt) (B : List Int → Prop) : Prop := ∃ n, n ≤ a.length ∧ ∀ f x, B x → tks (f + n) (a ++ x) = pre ms (tks f x)
def LxP (a : List Int) (ms : List Mk) (B : List Int → Prop) : Prop := ∃ n, n ≤ a.length ∧ ∀ f k x, B x → lexS (f + n) k (a ++ x) = preP k ms (lexS f (k + a.length) x)
theorem Lx.nil : Lx [] [] Any := ⟨0, Nat.le_refl _, fun f x _ => (pre_nil _).symm⟩
theorem LxP.nil : LxP [] [] Any := ⟨0, Nat.le_refl _, fun f k x _ => by
 simp only [List.nil_append, List.length_nil, Nat.add_zero]
 cases lexS f k x <;> rfl⟩
theorem Lx.app {a b : List Int} {ms ms' : List Kt} {B B' : List Int → Prop} (h : Lx a ms B) (g : Lx b ms' B') (hB : ∀ x, B' x → B (b ++ x)) : Lx (a ++ b) (ms ++ ms') B' := by
 obtain ⟨n, hn, h⟩ := h
 obtain ⟨m, hm, g⟩ := g
 refine ⟨m + n, by rw [List.length_append]; omega, fun f x hx => ?_⟩
 rw [List.append_assoc, ← Nat.add_assoc, h _ _ (hB x hx), g f x hx, pre_pre]
theorem LxP.app {a b : List Int} {ms ms' : List Mk} {B B' : List Int → Prop} (h : LxP a ms B) (g : LxP b ms' B') (hB : ∀ x, B' x → B (b ++ x)) : LxP (a ++ b) (ms ++ ms'.map fun q => (q.1, q.2.1, a.length + q.2.2)) B' := by
 obtain ⟨n, hn, h⟩ := h
 obtain ⟨m, hm, g⟩ := g
 refine ⟨m + n, by rw [List.length_append]; omega, fun f k x hx => ?_⟩
 rw [List.append_assoc, ← Nat.add_assoc, h _ _ _ (hB x hx), g f _ x hx, List.length_append, ← Nat.add_assoc]
 cases lexS f (k + a.length + b.length) x with
 | error e => rfl
 | ok l => simp [preP, Nat.add_assoc, Function.comp_def]
theorem Lx.mono {a : List Int} {ms : List Kt} {B B' : List Int → Prop} (h : Lx a ms B) (hB : ∀ x, B' x → B x) : Lx a ms B' := by
 obtain ⟨n, hn, h⟩ := h
 exact ⟨n, hn, fun f x hx => h f x (hB x hx)⟩
theorem LxP.mono {a : List Int} {ms : List Mk} {B B' : List Int → Prop} (h : LxP a ms B) (hB : ∀ x, B' x → B x) : LxP a ms B' := by
 obtain ⟨n, hn, h⟩ := h
 exact ⟨n, hn, fun f k x hx => h f k x (hB x hx)⟩
theorem Tok.any {a : List Int} {kd : Int} {t : List Int} {ok : Bool} {B : List Int → Prop} (h : Tok a kd t ok B) {B' : List Int → Prop} (g : ∀ x, B' x → B x) : Tok a kd t ok B' := ⟨h.1, fun x hx => h.2 x (g x hx)⟩
theorem tk_two : Tok [37, 37] 2 [37] true Any := by
 refine ⟨nofun, fun x _ => ?_⟩
 show tokK (37 :: 37 :: x) = _
 rw [tokK, if_neg (by decide), if_neg (by decide), if_neg (by decide), if_pos rfl]
 unfold wordK
 simp only [List.tail_cons, List.head?_cons, if_pos, List.take_succ_cons, List.take_zero, if_pos (show ([37] : List Int) ∈ wordsL by decide), tokOf]
 rfl
theorem readK_P {s : List Int} {ms : List Mk} (h : lexS s.length 0 s = .ok ms) : readK s = marksK (ms.map (markOf s) ++ [(0, ([], (posK s, ())))]) := by
 unfold readK lexK
 rw [h]; rfl
theorem readK_of {s : List Int} {ms : List Kt} (h : tks s.length s = .ok ms) : ∃ r : List L.Mark, r.map kt = ms ++ [(0, [])] ∧ readK s = marksK r := by
 rw [← strip_lex s.length 0 s] at h
 cases hx : lexS s.length 0 s with
 | error q => rw [hx] at h; cases h
 | ok l =>
  rw [hx] at h
  have h : l.map (fun q => (q.1, q.2.1)) = ms := by cases h; rfl
  refine ⟨_, ?_, readK_P hx⟩
  rw [List.map_append, List.map_map, ← h]
  rfl
end Go.Am.R
