/-
  ArenaSets: what is set is there, and nothing else changes: the walk of the law.
-/
import Derived.Test.YtgbjjceicpmopaaArenaAwake
import Derived.Test.YtgbjjceicpmopaaArenaCutInt
import Derived.Test.YtgbjjceicpmopaaLaw
namespace Go.Proofs.Ytgbjjceicpmopaa
open Go.RowKit

/-- The first k numbers as things that cost two. -/
def twos (Z : Nat → Int) (k : Nat) : List (Value × Int) := (List.range k).map fun i => (.int .i64 (Z i), 2)
theorem twos_succ (Z : Nat → Int) (k : Nat) : twos Z (k + 1) = twos Z k ++ [(.int .i64 (Z k), 2)] := by simp [twos, List.range_succ]
theorem twos_length (Z : Nat → Int) (k : Nat) : (twos Z k).length = k := by simp [twos]
theorem twos_cost (Z : Nat → Int) (k : Nat) : cost (twos Z k) = 2 * k := by
  induction k with
  | zero => rfl
  | succ k ih => rw [twos_succ, cost_snoc, ih]; simp; omega
theorem twos_get (Z : Nat → Int) (n k : Nat) (h : k < n) : (twos Z n)[k]? = some (.int .i64 (Z k), 2) := by simp [twos, h]

theorem put_ok {l : List (Value × Int)} {L U n : Int} {x : Value} (h1 : 1 ≤ n) (h2 : n ≤ L - U) : putE L U n = 0 ∧ putN l L U n = l.length ∧ putU L U n = U + n ∧ putL l L U n x = l ++ [(x, n)] := by
  unfold putE putN putU putL
  refine ⟨?_, ?_, ?_, ?_⟩ <;> rw [if_neg (by omega), if_neg (by omega)]

theorem sets_val (Z : Nat → Int) (n j : Nat) (i x : Int) (h : j < n) :
    arIntVal (if isIn n i then (twos Z n).modify i.toNat fun p => (.int .i64 x, p.2) else twos Z n) j = .int .i64 (if (j : Int) = i then x else Z j) := by
  by_cases hi : 0 ≤ i ∧ i < n
  · rw [isIn_yes hi, if_pos rfl]
    unfold arIntVal
    rw [if_pos (by simp [twos_length]; omega), Int.toNat_natCast, List.getElem?_modify, twos_get Z n j h]
    by_cases e : (j : Int) = i
    · subst e; simp
    · have : i.toNat ≠ j := by omega
      simp [this, e]
  · rw [isIn_no hi]
    unfold arIntVal
    rw [if_pos (by simp [twos_length]; omega), Int.toNat_natCast]
    have e : (j : Int) ≠ i := by omega
    simp [twos_get Z n j h, e]
theorem sets_len (Z : Nat → Int) (n : Nat) (i : Int) (x : Value) : (if isIn n i then (twos Z n).modify i.toNat fun p => (x, p.2) else twos Z n).length = n := by
  split <;> simp [twos_length]
theorem sets_cost (Z : Nat → Int) (n : Nat) (i : Int) (x : Value) : cost (if isIn n i then (twos Z n).modify i.toNat fun p => (x, p.2) else twos Z n) = 2 * n := by
  split
  · rw [cost_modify, twos_cost]
  · rw [twos_cost]

set_option maxRecDepth 100000 in
set_option maxHeartbeats 4000000 in
theorem sets_calls (w : World) {a : Option Addr} {l cap b o : Nat} {Z : Nat → Int} (H : IntsAt w a l b o Z) (_ : l ≤ cap) (_ : cap ≤ maxLen) (_ : a = none → l = 0 ∧ cap = 0)
    (at_ : Int) (_ : -9223372036854775808 ≤ at_ ∧ at_ ≤ 9223372036854775807) (x : Int) (_ : -9223372036854775808 ≤ x ∧ x ≤ 9223372036854775807) :
    Calls Try.prog 11 #[.slice a l cap, .int .i64 at_, .int .i64 x] w (Says w true) := by
  go_enter Try.func11, Try.ntmps11
  go_wp2_with fail
  refine (awake2_calls _).mono ?_
  rintro e w1 ⟨rfl, b1⟩
  go_wp2_with fail
  refine (newm_calls _ _).mono ?_
  rintro e w2 ⟨rfl, m2, c2, _⟩
  have b2 := below_none b1 c2
  have hmb : w.heap.size ≤ w1.heap.size := b1.size
  generalize w1.heap.size = mb at hmb m2 ⊢
  have m2 : MeterAt w2 mb 1000 0 0 := m2
  clear c2 b1
  go_wp2_with fail
  refine (arIntNew_calls _ _).mono ?_
  rintro e w3 ⟨rfl, a3, c3, _⟩
  have b3 := below_none b2 c3
  have m3 := m2.chg c3 (fun h => h)
  have hab : w.heap.size ≤ w2.heap.size := b2.size
  generalize w2.heap.size = ab at hab a3 ⊢
  have a3 := a3 w.heap.size
  clear c3 m2 b2
  have hl0 : l ≤ 40 ∨ 40 < l := by omega
  rcases hl0 with hl | hl
  · have hl' : (l : Int) ≤ 40 := by omega
    go_wp2_with fail
    go_loopw [10] (fun i wr => ∃ (k : Nat) (M : Int) (v : Value), k ≤ l ∧ i = .int .i64 k ∧ MeterAt wr mb 1000 (2 * k) M ∧ MOk 1000 (2 * k) M ∧ ArIntAt wr w.heap.size ab mb v (twos Z k) ∧ Below w.heap.size w wr) (fun i _ => l - (intOf i).toNat)
    case atStart => exact ⟨0, 0, _, by omega, rfl, m3, by unfold MOk; omega, a3, b3⟩
    case round =>
      obtain ⟨k, M, v, hk, rfl, m4, k4, a4, b4⟩ := hrel
      by_cases hlt : k < l
      · obtain rfl := H.addr (by omega)
        have hblt := World.block_lt_of_cell? _ _ (H.cell k hlt)
        have x0 : wr.cell? ⟨b, o + k, none⟩ = some (.int .i64 (Z k)) := (b4.cell (p := ⟨b, o + k, none⟩) hblt).trans (H.cell k hlt)
        have r4 : ∀ k, v.ownBlock = some k → w.heap.size ≤ k := fun k h => (a4.rowLt h).1
        have t := arIntPut_calls a4 m4 k4 (by rw [twos_cost]; exact Int.le_refl _) b4.size (Z k) 2
        have k5 := k4.put 2
        obtain ⟨e1, e2, e3, e4⟩ := put_ok (l := twos Z k) (L := 1000) (U := 2 * k) (n := 2) (x := .int .i64 (Z k)) (by omega) (by omega)
        unfold ArIntPut at t
        rw [e1, e2, e3, e4, ← twos_succ] at t
        rw [e3] at k5
        clear e1 e2 e3 e4
        generalize putM 1000 (2 * k) M 2 = M5 at *
        have T := hid t
        clear t
        go_wp2_with fail
        refine T.out.mono ?_
        rintro e w5 ⟨v5, rfl, a5, m5, c5, _⟩
        have b5 := below_ar b4 c5 hab hmb r4
        have hu : (2 * (k : Int) + 2) = 2 * ((k + 1 : Nat) : Int) := by omega
        rw [hu] at m5 k5
        clear hu c5
        go_wp2_with fail
        go_roundw
        case rel => exact ⟨k + 1, M5, v5, by omega, by go_num, m5, k5, a5, b5⟩
        case measure => simp [intOf]; omega
      · have hkl : k = l := by omega
        subst hkl
        clear m3 a3 b3
        go_wp2_with fail
        refine (arIntCells_calls a4).mono ?_
        rintro e w5 ⟨rfl, rfl⟩
        rw [twos_cost]
        go_wp2_with fail
        refine (arIntSet_calls a4 at_ x).mono ?_
        rintro e w5 ⟨rfl, a5, c5⟩
        have r4 : ∀ k, v.ownBlock = some k → w.heap.size ≤ k := fun k h => (a4.rowLt h).1
        have b5 : Below w.heap.size w w5 := b4.trans (c5.below b4.size (fun k h => r4 k h))
        rw [twos_length] at a5 ⊢
        have hv : ∀ j, j < k → arIntVal (if isIn k at_ then (twos Z k).modify at_.toNat fun p => (.int .i64 x, p.2) else twos Z k) j = .int .i64 (if (j : Int) = at_ then x else Z j) := fun j hj => sets_val Z k j at_ x hj
        have hn := sets_len Z k at_ (.int .i64 x)
        have hcs := sets_cost Z k at_ (.int .i64 x)
        generalize (if isIn k at_ = true then (twos Z k).modify at_.toNat fun p => (.int .i64 x, p.2) else twos Z k) = L5 at a5 hn hcs hv
        have HV := hid hv
        clear hv c5 r4 a4
        have HN := hid hn
        have HC := hid hcs
        clear hn hcs
        go_wp2_with fail
        go_loop [13] (fun i => ∃ j : Nat, j ≤ k ∧ i = .int .i64 j) (fun i => k - (intOf i).toNat)
        case atStart => exact ⟨0, by omega, rfl⟩
        case round =>
          obtain ⟨j, hj, rfl⟩ := hrel
          by_cases hjk : j < k
          · obtain rfl := H.addr (by omega)
            have hblt := World.block_lt_of_cell? _ _ (H.cell j hjk)
            have x0 : w5.cell? ⟨b, o + j, none⟩ = some (.int .i64 (Z j)) := (b5.cell (p := ⟨b, o + j, none⟩) hblt).trans (H.cell j hjk)
            go_wp2_with fail
            refine (arIntAt_calls a5 j).mono ?_
            rintro e w6 ⟨rfl, rfl⟩
            rw [HV.out j hjk, HN.out, isIn_yes (by omega)]
            by_cases hja : (j : Int) = at_
            · have hb : ((j : Int) == at_) = true := by simp [hja]
              rw [if_pos hja]
              clear hja
              go_wp2_with fail
              go_round
              case rel => exact ⟨j + 1, by omega, by go_num⟩
              case measure => simp [intOf]; omega
            · have hb : ((j : Int) == at_) = false := by simp [hja]
              rw [if_neg hja]
              clear hja
              go_wp2_with fail
              go_round
              case rel => exact ⟨j + 1, by omega, by go_num⟩
              case measure => simp [intOf]; omega
          · by_cases hat : 0 ≤ at_ ∧ at_ < k
            · rw [isIn_yes hat]
              obtain ⟨h1, h2⟩ := hat
              go_wp2_with (go_at_call 38; refine (arIntCells_calls a5).mono ?_; rintro e w6 ⟨rfl, rfl⟩; rw [HC.out])
              all_goals go_ret
              all_goals exact ⟨by simp, b5⟩
            · rw [isIn_no hat]
              by_cases h1 : 0 ≤ at_
              · have h2 : ¬ at_ < k := by omega
                clear hat
                go_wp2_with (go_at_call 38; refine (arIntCells_calls a5).mono ?_; rintro e w6 ⟨rfl, rfl⟩; rw [HC.out])
                all_goals go_ret
                all_goals exact ⟨by simp, b5⟩
              · clear hat
                go_wp2_with (go_at_call 38; refine (arIntCells_calls a5).mono ?_; rintro e w6 ⟨rfl, rfl⟩; rw [HC.out])
                all_goals go_ret
                all_goals exact ⟨by simp, b5⟩
  · have hl' : 40 < (l : Int) := by omega
    go_wp2_with fail
    go_ret
    exact ⟨rfl, b3⟩

end Go.Proofs.Ytgbjjceicpmopaa
