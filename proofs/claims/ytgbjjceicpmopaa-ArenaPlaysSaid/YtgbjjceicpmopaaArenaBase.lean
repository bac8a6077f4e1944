/-
  Arenas: what lies in memory, as a list of things and what each cost.
-/
import Derived.Test.YtgbjjceicpmopaaMeter
namespace Go.Proofs.Ytgbjjceicpmopaa
open Go.RowKit

/-- What all things cost. -/
def cost (l : List (Value × Int)) : Int := (l.map (·.2)).sum
/-- The cells of all things. -/
def flat (l : List (Value × Int)) : List Value := l.flatMap fun p => [p.1, .int .i64 p.2]
/-- Each thing costs something. -/
def Costs (l : List (Value × Int)) : Prop := ∀ p ∈ l, 1 ≤ p.2

@[simp] theorem cost_nil : cost [] = 0 := rfl
theorem cost_append (l r : List (Value × Int)) : cost (l ++ r) = cost l + cost r := by simp [cost]
theorem cost_snoc (l : List (Value × Int)) (p : Value × Int) : cost (l ++ [p]) = cost l + p.2 := by simp [cost]
theorem flat_snoc (l : List (Value × Int)) (p : Value × Int) : flat (l ++ [p]) = flat l ++ [p.1, .int .i64 p.2] := by simp [flat]
theorem flat_length (l : List (Value × Int)) : (flat l).length = l.length * 2 := by
  induction l with
  | nil => rfl
  | cons p l ih => simp [flat] at ih ⊢; omega
theorem flat_get0 (l : List (Value × Int)) (i : Nat) : (flat l)[i * 2]? = (l[i]?).map (·.1) := by
  induction l generalizing i with
  | nil => simp [flat]
  | cons p l ih =>
    cases i with
    | zero => simp [flat]
    | succ i => have := ih i; simp only [flat, List.flatMap_cons] at this ⊢; rw [show (i + 1) * 2 = i * 2 + 2 by omega]; simpa using this
theorem flat_get1 (l : List (Value × Int)) (i : Nat) : (flat l)[i * 2 + 1]? = (l[i]?).map fun p => .int .i64 p.2 := by
  induction l generalizing i with
  | nil => simp [flat]
  | cons p l ih =>
    cases i with
    | zero => simp [flat]
    | succ i => have := ih i; simp only [flat, List.flatMap_cons] at this ⊢; rw [show (i + 1) * 2 + 1 = (i * 2 + 1) + 2 by omega]; simpa using this
theorem flat_take (l : List (Value × Int)) (n : Nat) : (flat l).take (n * 2) = flat (l.take n) := by
  induction l generalizing n with
  | nil => simp [flat]
  | cons p l ih =>
    cases n with
    | zero => simp [flat]
    | succ n => have := ih n; simp only [flat, List.flatMap_cons, List.take_succ_cons] at this ⊢; rw [show (n + 1) * 2 = n * 2 + 2 by omega]; simpa using this
theorem flat_set (l : List (Value × Int)) (i : Nat) (x : Value) : (flat l).set (i * 2) x = flat (l.modify i fun p => (x, p.2)) := by
  induction l generalizing i with
  | nil => simp [flat]
  | cons p l ih =>
    cases i with
    | zero => simp [flat]
    | succ i => have := ih i; simp only [flat, List.flatMap_cons, List.modify_succ_cons] at this ⊢; rw [show (i + 1) * 2 = i * 2 + 2 by omega]; simpa using this
theorem cost_modify (l : List (Value × Int)) (i : Nat) (x : Value) : cost (l.modify i fun p => (x, p.2)) = cost l := by
  unfold cost
  congr 1
  induction l generalizing i with
  | nil => simp
  | cons p l ih => cases i with
    | zero => simp
    | succ i => simp [ih]
theorem Costs.le {l : List (Value × Int)} (h : Costs l) : (l.length : Int) ≤ cost l := by
  induction l with
  | nil => simp
  | cons p l ih =>
    have h1 := h p (List.mem_cons_self ..)
    have h2 := ih (fun q hq => h q (List.mem_cons_of_mem _ hq))
    simp [cost] at h2 ⊢
    omega
theorem Costs.nil : Costs [] := fun p hp => by cases hp
theorem Costs.nonneg {l : List (Value × Int)} (h : Costs l) : 0 ≤ cost l := by have := h.le; omega
theorem Costs.snoc {l : List (Value × Int)} (h : Costs l) {x : Value} {n : Int} (hn : 1 ≤ n) : Costs (l ++ [(x, n)]) := by
  intro p hp
  rcases List.mem_append.1 hp with hp | hp
  · exact h p hp
  · simp at hp; subst hp; exact hn
theorem Costs.take {l : List (Value × Int)} (h : Costs l) (n : Nat) : Costs (l.take n) := fun p hp => h p (List.mem_of_mem_take hp)
theorem Costs.drop {l : List (Value × Int)} (h : Costs l) (n : Nat) : Costs (l.drop n) := fun p hp => h p (List.mem_of_mem_drop hp)
theorem cost_take_drop (l : List (Value × Int)) (n : Nat) : cost (l.take n) + cost (l.drop n) = cost l := by rw [← cost_append, List.take_append_drop]
theorem Costs.modify {l : List (Value × Int)} (h : Costs l) (i : Nat) (x : Value) : Costs (l.modify i fun p => (x, p.2)) := by
  induction l generalizing i with
  | nil => simpa using h
  | cons p l ih =>
    have h1 := h p (List.mem_cons_self ..)
    have h2 : Costs l := fun q hq => h q (List.mem_cons_of_mem _ hq)
    cases i with
    | zero => simp; intro q hq; rcases List.mem_cons.1 hq with rfl | hq; exact h1; exact h2 q hq
    | succ i => simp; intro q hq; rcases List.mem_cons.1 hq with rfl | hq; exact h1; exact ih h2 i q hq

theorem kind_snoc {P : Value → Prop} {l : List (Value × Int)} (h : ∀ p ∈ l, P p.1) {x : Value} {n : Int} (hx : P x) : ∀ p ∈ l ++ [(x, n)], P p.1 := by
  intro p hp
  rcases List.mem_append.1 hp with hp | hp
  · exact h p hp
  · simp at hp; subst hp; exact hx
theorem kind_modify {P : Value → Prop} {l : List (Value × Int)} (h : ∀ p ∈ l, P p.1) (i : Nat) {x : Value} (hx : P x) : ∀ p ∈ l.modify i (fun p => (x, p.2)), P p.1 := by
  induction l generalizing i with
  | nil => simp
  | cons q l ih =>
    have h2 : ∀ p ∈ l, P p.1 := fun p hp => h p (List.mem_cons_of_mem _ hp)
    cases i with
    | zero => simp; exact ⟨hx, fun a b hab => h2 (a, b) hab⟩
    | succ i => simp only [List.modify_succ_cons]; intro p hp; rcases List.mem_cons.1 hp with rfl | hp; exact h _ (List.mem_cons_self ..); exact ih h2 i p hp

/-- A row's block keeps its place, or is a new one. -/
def Moved (w : World) (v v' : Value) : Prop := v'.ownBlock = v.ownBlock ∨ ∃ g, v'.ownBlock = some g ∧ w.heap.size ≤ g

theorem Moved.same (w : World) (v : Value) : Moved w v v := .inl rfl

/-- What is owned stays so where its block is none of those that changed. -/
theorem ownsRow_chg {S : Nat → Prop} {w w' : World} {base size n : Nat} {e : TypeId} {v : Value} {xs : List Value} (h : w.ownsRow base e size v n xs) (hc : Chg S w w') (hs : ∀ k, v.ownBlock = some k → ¬ S k) : w'.ownsRow base e size v n xs := by
  refine ⟨h.1, ?_⟩
  rcases h.2 with hn | ⟨g, cap, cur, rfl, hb, hg, r⟩
  · exact .inl hn
  · exact .inr ⟨g, cap, cur, rfl, hb, (hc.block g (lt_of_block hg) (hs g rfl)).trans hg, r⟩

theorem grownBy_chg {w w' : World} {row : Option Nat} (h : w.grownBy w' row) : Chg (fun k => some k = row) w w' := ⟨h.os, h.tape, h.output, h.size, fun k hk hs => h.block k hk hs⟩

end Go.Proofs.Ytgbjjceicpmopaa
