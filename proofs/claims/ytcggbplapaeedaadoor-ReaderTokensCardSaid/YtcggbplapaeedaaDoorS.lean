/-
  A part of the proof of a law: see the text that states it.
-/
import Derived.Test.YtcggbplapaeedaaDoorNS
import Derived.Test.YtcggbplapaeedaaDoorI
set_option linter.all false
namespace Go.Am.R
open Go Go.Am.Pr Go.Am.R.L
set_option maxRecDepth 100000
abbrev Kt := Int × List Int
def pre (ms : List Kt) : Except Int (List Kt) → Except Int (List Kt)
 | .error e => .error e
 | .ok l => .ok (ms ++ l)
theorem pre_nil (x : Except Int (List Kt)) : pre [] x = x := by cases x <;> rfl
theorem pre_pre (a b : List Kt) (x : Except Int (List Kt)) : pre a (pre b x) = pre (a ++ b) x := by
 cases x with
 | error e => rfl
 | ok l => simp [pre]
def preP (k : Nat) (ms : List Mk) : Except (Int × Nat) (List Mk) → Except (Int × Nat) (List Mk)
 | .error e => .error e
 | .ok l => .ok (ms.map (fun q => (q.1, q.2.1, k + q.2.2)) ++ l)
def Tok (a : List Int) (kd : Int) (t : List Int) (ok : Bool) (B : List Int → Prop) : Prop := a ≠ [] ∧ ∀ x, B x → tokK (a ++ x) = .ok (kd, t, a.length, ok)
abbrev Any (_ : List Int) : Prop := True
def Sep (x : List Int) : Prop := ∀ c r, x = c :: r → partK c = false
def Lx (a : List Int) (ms : List Kt) (B : List Int → Prop) : Prop := ∃ n, n ≤ a.length ∧ ∀ f x, B x → tks (f + n) (a ++ x) = pre ms (tks f x)
def LxP (a : List Int) (ms : List Mk) (B : List Int → Prop) : Prop := ∃ n, n ≤ a.length ∧ ∀ f k x, B x → lexS (f + n) k (a ++ x) = preP k ms (lexS f (k + a.length) x)
theorem Lx.nil : Lx [] [] Any := ⟨0, Nat.le_refl _, fun f x _ => (pre_nil _).symm⟩
theorem LxP.nil : LxP [] [] Any := ⟨0, Nat.le_refl _, fun f k x _ => by
 simp only [List.nil_append, List.length_nil, Nat.add_zero]
 cases lexS f k x <;> rfl⟩
theorem Lx.app {a b : List Int} {ms ms' : List Kt} {B B' : List Int → Prop} (h : Lx a ms B) (g : Lx b ms' B') (hB : ∀ x, B' x → B (b ++ x)) : Lx (a ++ b) (ms ++ ms') B' := by
 obtain ⟨n, hn, h⟩ := h
 obtain ⟨m, hm, g⟩ := g
 refine ⟨m + n, by rw [List.length_append]; omega, fun f x hx => ?_⟩
 rw [List.append_assoc, ← Nat.add_assoc, h _ _ (hB x hx), g f x hx, pre_pre]
theorem LxP.app {a b : List Int} {ms ms' : List Mk} {B B' : List Int → Prop} (h : LxP a ms B) (g : LxP b ms' B') (hB : ∀ x, B' x → B (b ++ x)) : LxP (a ++ b) (ms ++ ms'.map fun q => (q.1, q.2.1, a.length + q.2.2)) B' := by
 obtain ⟨n, hn, h⟩ := h
 obtain ⟨m, hm, g⟩ := g
 refine ⟨m + n, by rw [List.length_append]; omega, fun f k x hx => ?_⟩
 rw [List.append_assoc, ← Nat.add_assoc, h _ _ _ (hB x hx), g f _ x hx, List.length_append, ← Nat.add_assoc]
 cases lexS f (k + a.length + b.length) x with
 | error e => rfl
 | ok l => simp [preP, Nat.add_assoc, Function.comp_def]
theorem Lx.mono {a : List Int} {ms : List Kt} {B B' : List Int → Prop} (h : Lx a ms B) (hB : ∀ x, B' x → B x) : Lx a ms B' := by
 obtain ⟨n, hn, h⟩ := h
 exact ⟨n, hn, fun f x hx => h f x (hB x hx)⟩
theorem LxP.mono {a : List Int} {ms : List Mk} {B B' : List Int → Prop} (h : LxP a ms B) (hB : ∀ x, B' x → B x) : LxP a ms B' := by
 obtain ⟨n, hn, h⟩ := h
 exact ⟨n, hn, fun f k x hx => h f k x (hB x hx)⟩
theorem Tok.lxP {a : List Int} {kd : Int} {t : List Int} {ok : Bool} {B : List Int → Prop} (h : Tok a kd t ok B) : LxP a (if ok then [(kd, t, 0)] else []) B := by
 obtain ⟨h0, h⟩ := h
 refine ⟨1, List.length_pos_iff.2 h0, fun f k x hx => ?_⟩
 have hx := h x hx
 cases a with
 | nil => exact absurd rfl h0
 | cons c a =>
  rw [List.cons_append, lexS_cons]
  rw [List.cons_append] at hx
  rw [hx]
  simp only [← List.cons_append, List.drop_left]
  cases lexS f (k + (c :: a).length) x with
  | error e => rfl
  | ok l => cases ok <;> rfl
theorem Tok.any {a : List Int} {kd : Int} {t : List Int} {ok : Bool} {B : List Int → Prop} (h : Tok a kd t ok B) {B' : List Int → Prop} (g : ∀ x, B' x → B x) : Tok a kd t ok B' := ⟨h.1, fun x hx => h.2 x (g x hx)⟩
theorem tk_space {c : Int} (h : c = 32 ∨ c = 9 ∨ c = 10 ∨ c = 13) : Tok [c] 0 [] false Any := ⟨nofun, fun x _ => by rw [List.cons_append, List.nil_append, tokK, if_pos h]; rfl⟩
theorem tk_sign {c : Int} (h : c = 43 ∨ c = 58 ∨ c = 124 ∨ c = 59) : Tok [c] (signK c) [] true Any := ⟨nofun, fun x _ => by
 have h1 : ∀ y, tokK (c :: y) = .ok (signK c, [], 1, true) := fun y => by
  rcases h with rfl | rfl | rfl | rfl
  all_goals (rw [tokK, if_neg (by decide), if_neg (by decide), if_neg (by decide), if_neg (by decide), if_neg (by decide), if_neg (by decide), if_neg (by decide), if_pos (by decide)])
 exact h1 _⟩
theorem runK_app (p : Int → Bool) : ∀ (w x : List Int), (∀ c ∈ w, p c = true) → (∀ c r, x = c :: r → p c = false) → runK p (w ++ x) = w.length
 | [], [], _, _ => rfl
 | [], c :: r, _, h => by simp [runK, h c r rfl]
 | c :: w, x, h, g => by
  rw [List.cons_append, runK, if_pos (h c (List.mem_cons_self ..)), runK_app p w x (fun b hb => h b (List.mem_cons_of_mem _ hb)) g, List.length_cons]
theorem runK_all (p : Int → Bool) : ∀ (w : List Int), runK p w = w.length → ∀ c ∈ w, p c = true
 | [], _, c, hc => by cases hc
 | a :: w, h, c, hc => by
  rw [runK] at h
  split at h
  ·rename_i ha
   rcases List.mem_cons.1 hc with rfl | hc
   ·exact ha
   ·exact runK_all p w (by simpa using h) c hc
  ·simp at h
theorem tk_name {w : List Int} (h : nameK w = true) (hl : w.length ≤ 32) : Tok w 1 w true Sep := by
 unfold nameK at h
 simp only [Bool.and_eq_true, Bool.not_eq_true', decide_eq_true_eq, decide_eq_false_iff_not] at h
 obtain ⟨⟨h0, h1⟩, h2⟩ := h
 refine ⟨h0, fun x hx => ?_⟩
 have hr := runK_app partK w x (runK_all partK w h2) hx
 cases w with
 | nil => exact absurd rfl h0
 | cons c w =>
  have h1 : letterK c = true := h1
  have hn : ¬ (c = 32 ∨ c = 9 ∨ c = 10 ∨ c = 13) := by
   intro q; rcases q with rfl | rfl | rfl | rfl <;> exact absurd h1 (by decide)
  have hn2 : c ≠ 35 := by rintro rfl; exact absurd h1 (by decide)
  rw [List.cons_append] at hr ⊢
  rw [tokK, if_neg hn, if_neg hn2, if_pos h1, hr, if_neg (by omega)]
  have e : (c :: (w ++ x)).take (c :: w).length = c :: w := by rw [← List.cons_append, List.take_left]
  rw [e]
theorem lower_part {c : Int} (h : partK c = false) : lowerK c = false := by
 cases hl : lowerK c with
 | false => rfl
 | true =>
  exfalso
  unfold lowerK at hl
  simp only [Bool.and_eq_true, decide_eq_true_eq] at hl
  obtain ⟨h1, h2⟩ := hl
  have : ∀ n : Nat, n < 26 → partK (97 + (n : Int)) = true := by decide
  have := this (c - 97).toNat (by omega)
  have e : (97 : Int) + ((c - 97).toNat : Int) = c := by omega
  rw [e, h] at this; cases this
theorem tk_word {w : List Int} (hw : w ∈ wordsL) (hl : ∀ c ∈ w, lowerK c = true) (h37 : w.head? ≠ some 37) (h0 : w ≠ []) : Tok (37 :: w) 2 w true Sep := by
 refine ⟨nofun, fun x hx => ?_⟩
 have hr := runK_app lowerK w x hl (fun c r e => lower_part (hx c r e))
 have hh : (w ++ x).head? ≠ some 37 := by
  cases w with
  | nil => exact absurd rfl h0
  | cons d w => simpa using h37
 rw [List.cons_append, tokK, if_neg (by decide), if_neg (by decide), if_neg (by decide), if_pos rfl]
 unfold wordK
 simp only [List.tail_cons, if_neg hh, hr, List.take_left, if_pos hw, tokOf, List.length_cons]
 rw [Nat.add_comm]
theorem tk_two : Tok [37, 37] 2 [37] true Any := by
 refine ⟨nofun, fun x _ => ?_⟩
 show tokK (37 :: 37 :: x) = _
 rw [tokK, if_neg (by decide), if_neg (by decide), if_neg (by decide), if_pos rfl]
 unfold wordK
 simp only [List.tail_cons, List.head?_cons, if_pos, List.take_succ_cons, List.take_zero, if_pos (show ([37] : List Int) ∈ wordsL by decide), tokOf]
 rfl
theorem Lx.told {s : List Int} {ms : List Kt} {B : List Int → Prop} (h : Lx s ms B) (hB : B []) : tks s.length s = .ok ms := by
 obtain ⟨n, hn, h⟩ := h
 have := h (s.length - n) [] hB
 rw [List.append_nil, Nat.sub_add_cancel hn] at this
 rw [this]
 have e : tks (s.length - n) [] = .ok [] := by cases s.length - n <;> rfl
 rw [e]; exact congrArg Except.ok (List.append_nil ms)
theorem LxP.told {s : List Int} {ms : List Mk} {B : List Int → Prop} (h : LxP s ms B) (hB : B []) : lexS s.length 0 s = .ok ms := by
 obtain ⟨n, hn, h⟩ := h
 have := h (s.length - n) 0 [] hB
 rw [List.append_nil, Nat.sub_add_cancel hn] at this
 rw [this, lexS_nil]
 simp [preP]
theorem readK_P {s : List Int} {ms : List Mk} (h : lexS s.length 0 s = .ok ms) : readK s = marksK (ms.map (markOf s) ++ [(0, ([], (posK s, ())))]) := by
 unfold readK lexK
 rw [h]; rfl
end Go.Am.R
