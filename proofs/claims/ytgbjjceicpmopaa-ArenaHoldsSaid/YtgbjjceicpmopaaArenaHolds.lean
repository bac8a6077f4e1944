/-
  ArenaHolds: what was put is there, as it was, whatever is put behind it; and is gone when it is cut: the walk of the law.
-/
import Derived.Test.YtgbjjceicpmopaaArenaAwake
import Derived.Test.YtgbjjceicpmopaaArenaState
namespace Go.Proofs.Ytgbjjceicpmopaa
open Go.RowKit

/-- The first k texts, each at one cell more than the one ahead of it. -/
def texts (S : Nat → ByteArray) (k : Nat) : List (Value × Int) := (List.range k).map fun i => (.string (S i), (i : Int) + 1)
theorem texts_succ (S : Nat → ByteArray) (k : Nat) : texts S (k + 1) = texts S k ++ [(.string (S k), (k : Int) + 1)] := by simp [texts, List.range_succ]
theorem texts_length (S : Nat → ByteArray) (k : Nat) : (texts S k).length = k := by simp [texts]
theorem texts_get (S : Nat → ByteArray) (n k : Nat) (h : k < n) : (texts S n)[k]? = some (.string (S k), (k : Int) + 1) := by simp [texts, h]
/-- What they cost. -/
def tri : Nat → Nat | 0 => 0 | k + 1 => tri k + (k + 1)
theorem texts_cost (S : Nat → ByteArray) (k : Nat) : cost (texts S k) = tri k := by
  induction k with
  | zero => rfl
  | succ k ih => rw [texts_succ, cost_snoc, ih]; simp [tri]
theorem tri_le {k n : Nat} (h : k ≤ n) : tri k ≤ tri n := by
  induction n with
  | zero => simp at h; subst h; exact Nat.le_refl _
  | succ n ih =>
    rcases Nat.lt_or_ge n k with h1 | h1
    · have : k = n + 1 := by omega
      subst this; exact Nat.le_refl _
    · have := ih h1; simp [tri]; omega
theorem tri_40 : tri 40 = 820 := by decide
theorem texts_val (S : Nat → ByteArray) (n j : Nat) (h : j < n) : arStrVal (texts S n) j = .string (S j) := by
  unfold arStrVal
  rw [if_pos (by rw [texts_length]; omega), Int.toNat_natCast, texts_get S n j h]
  rfl
theorem texts_val_cut (S : Nat → ByteArray) (n K j : Nat) (hK : K ≤ n) : arStrVal ((texts S n).take K) j = .string (if j < K then S j else { data := #[] }) := by
  by_cases h : j < K
  · unfold arStrVal
    rw [if_pos (by rw [List.length_take, texts_length]; omega), Int.toNat_natCast, List.getElem?_take, if_pos h, texts_get S n j (by omega), if_pos h]
    rfl
  · unfold arStrVal
    rw [if_neg (by rw [List.length_take, texts_length]; omega), if_neg h]

set_option maxRecDepth 100000 in
set_option maxHeartbeats 4000000 in
theorem holds_calls (w : World) {a : Option Addr} {l cap b o : Nat} {S : Nat → ByteArray} (H : StrsAt w a l b o S) (_ : l ≤ cap) (_ : cap ≤ maxLen) (_ : a = none → l = 0 ∧ cap = 0)
    (at_ : Int) (_ : -9223372036854775808 ≤ at_ ∧ at_ ≤ 9223372036854775807) :
    Calls Try.prog 9 #[.slice a l cap, .int .i64 at_] w (Says w true) := by
  go_enter Try.func9, Try.ntmps9
  go_wp2_with fail
  refine (awake2_calls _).mono ?_
  rintro e w1 ⟨rfl, b1⟩
  go_wp2_with fail
  refine (newm_calls _ _).mono ?_
  rintro e w2 ⟨rfl, m2, c2, _⟩
  have b2 := below_none b1 c2
  have hmb : w.heap.size ≤ w1.heap.size := b1.size
  generalize w1.heap.size = mb at hmb m2 ⊢
  have m2 : MeterAt w2 mb 1000 0 0 := m2
  clear c2 b1
  go_wp2_with fail
  refine (arStrNew_calls _ _).mono ?_
  rintro e w3 ⟨rfl, a3, c3, _⟩
  have b3 := below_none b2 c3
  have m3 := m2.chg c3 (fun h => h)
  have hab : w.heap.size ≤ w2.heap.size := b2.size
  generalize w2.heap.size = ab at hab a3 ⊢
  have a3 := a3 w.heap.size
  clear c3 m2 b2
  have hl0 : l ≤ 40 ∨ 40 < l := by omega
  rcases hl0 with hl | hl
  · have hl' : (l : Int) ≤ 40 := by omega
    have ht40 := tri_le hl
    rw [tri_40] at ht40
    go_wp2_with fail
    go_loopw [8] (fun i wr => ∃ (k : Nat) (M : Int) (v : Value), k ≤ l ∧ i = .int .i64 k ∧ MeterAt wr mb 1000 (tri k) M ∧ MOk 1000 (tri k) M ∧ ArStrAt wr w.heap.size ab mb v (texts S k) ∧ Below w.heap.size w wr) (fun i _ => l - (intOf i).toNat)
    case atStart => exact ⟨0, 0, _, by omega, rfl, m3, by unfold MOk; simp [tri], a3, b3⟩
    case round =>
      obtain ⟨k, M, v, hk, rfl, m4, k4, a4, b4⟩ := hrel
      by_cases hlt : k < l
      · obtain rfl := H.addr (by omega)
        have hblt := World.block_lt_of_cell? _ _ (H.cell k hlt)
        have x0 : wr.cell? ⟨b, o + k, none⟩ = some (.string (S k)) := (b4.cell (p := ⟨b, o + k, none⟩) hblt).trans (H.cell k hlt)
        have r4 : ∀ k, v.ownBlock = some k → w.heap.size ≤ k := fun k h => (a4.rowLt h).1
        have t := arStrPut_calls a4 m4 k4 (by rw [texts_cost]; exact Int.le_refl _) b4.size (S k) ((k : Int) + 1)
        have k5 := k4.put ((k : Int) + 1)
        have htri : tri (k + 1) = tri k + (k + 1) := rfl
        have htr2 := tri_le (show k + 1 ≤ l by omega)
        obtain ⟨e1, e2, e3, e4⟩ := put_ok (l := texts S k) (L := 1000) (U := tri k) (n := (k : Int) + 1) (x := .string (S k)) (by omega) (by omega)
        unfold ArStrPut at t
        rw [e1, e2, e3, e4, ← texts_succ, texts_length] at t
        rw [e3] at k5
        have hu : ((tri k : Nat) : Int) + ((k : Int) + 1) = ((tri (k + 1) : Nat) : Int) := by omega
        rw [hu] at k5 t
        clear e1 e2 e3 e4 htri htr2 hu
        generalize putM 1000 (tri k) M ((k : Int) + 1) = M5 at *
        have T := hid t
        clear t
        go_wp2_with fail
        refine T.out.mono ?_
        rintro e w5 ⟨v5, rfl, a5, m5, c5, _⟩
        have b5 := below_ar b4 c5 hab hmb r4
        clear c5
        go_wp2_with fail
        go_roundw
        case rel => exact ⟨k + 1, M5, v5, by omega, by go_num, m5, k5, a5, b5⟩
        case measure => simp [intOf]; omega
      · have hkl : k = l := by omega
        subst hkl
        clear m3 a3 b3
        go_wp2_with fail
        go_loop [11] (fun i => ∃ j : Nat, j ≤ k ∧ i = .int .i64 j) (fun i => k - (intOf i).toNat)
        case atStart => exact ⟨0, by omega, rfl⟩
        case round =>
          obtain ⟨j, hj, rfl⟩ := hrel
          by_cases hjk : j < k
          · obtain rfl := H.addr (by omega)
            have hblt := World.block_lt_of_cell? _ _ (H.cell j hjk)
            have x0 : wr.cell? ⟨b, o + j, none⟩ = some (.string (S j)) := (b4.cell (p := ⟨b, o + j, none⟩) hblt).trans (H.cell j hjk)
            go_wp2_with fail
            refine (arStrAt_calls a4 j).mono ?_
            rintro e w6 ⟨rfl, rfl⟩
            rw [texts_val S k j hjk, texts_length, isIn_yes (by omega)]
            go_wp2_with fail
            go_round
            case rel => exact ⟨j + 1, by omega, by go_num⟩
            case measure => simp [intOf]; omega
          · have r4 : ∀ k, v.ownBlock = some k → w.heap.size ≤ k := fun k h => (a4.rowLt h).1
            go_wp2_with fail
            refine (arStrCut_calls a4 m4 k4 (by rw [texts_cost]; exact Int.le_refl _) b4.size at_).mono ?_
            rintro e w6 ⟨v6, rfl, a6, m6, c6, _⟩
            have b6 := below_ar b4 c6 hab hmb r4
            rw [texts_length] at a6 ⊢
            have hKdef : (at_ < 0 ∧ cutK k at_ = 0) ∨ ((k : Int) < at_ ∧ cutK k at_ = k) ∨ (0 ≤ at_ ∧ at_ ≤ k ∧ (cutK k at_ : Int) = at_) := by
              unfold cutK; (repeat' split) <;> omega
            have hKle := cutK_le k at_
            generalize cost ((texts S k).drop (cutK k at_)) = gone
            generalize cutK k at_ = K at *
            clear m6 c6 r4 a4 m4 k4
            go_upto_region 19 with fail
            go_cut [14] (fun s wx => s = .int .i64 (K : Int) ∧ wx = w6)
            case first =>
              rcases hKdef with ⟨d1, rfl⟩ | ⟨d1, rfl⟩ | ⟨d1, d2, d3⟩
              · go_wp2_with fail
                all_goals go_meet
                all_goals exact ⟨int_eq (by omega), rfl⟩
              · go_wp2_with fail
                all_goals go_meet
                all_goals exact ⟨int_eq (by omega), rfl⟩
              · have D3 := hid d3
                clear d3
                go_wp2_with fail
                all_goals go_meet
                all_goals exact ⟨int_eq (by have := D3.out; omega), rfl⟩
            case rest =>
              obtain ⟨rfl, rfl⟩ := hcut
              clear hKdef
              go_wp2_with fail
              go_loop [15] (fun i => ∃ j : Nat, j ≤ k ∧ i = .int .i64 j) (fun i => k - (intOf i).toNat)
              case atStart => exact ⟨0, by omega, rfl⟩
              case round =>
                obtain ⟨j2, hj2, rfl⟩ := hrel
                by_cases hjk2 : j2 < k
                · obtain rfl := H.addr (by omega)
                  have hblt := World.block_lt_of_cell? _ _ (H.cell j2 hjk2)
                  have x0 : wc.cell? ⟨b, o + j2, none⟩ = some (.string (S j2)) := (b6.cell (p := ⟨b, o + j2, none⟩) hblt).trans (H.cell j2 hjk2)
                  go_wp2_with fail
                  refine (arStrAt_calls a6 j2).mono ?_
                  rintro e w7 ⟨rfl, rfl⟩
                  rw [texts_val_cut S k K j2 hKle, List.length_take, texts_length, Nat.min_eq_left hKle]
                  by_cases hjK : j2 < K
                  · rw [if_pos hjK, isIn_yes (by omega)]
                    go_wp2_with fail
                    go_round
                    case rel => exact ⟨j2 + 1, by omega, by go_num⟩
                    case measure => simp [intOf]; omega
                  · rw [if_neg hjK, isIn_no (by omega)]
                    go_wp2_with fail
                    go_round
                    case rel => exact ⟨j2 + 1, by omega, by go_num⟩
                    case measure => simp [intOf]; omega
                · go_wp2_with (go_at_call 34; refine (arStrLen_calls a6).mono ?_; rintro e w7 ⟨rfl, rfl⟩; rw [List.length_take, texts_length, Nat.min_eq_left hKle])
                  go_ret
                  exact ⟨by simp, b6⟩
  · have hl' : 40 < (l : Int) := by omega
    go_wp2_with fail
    go_ret
    exact ⟨rfl, b3⟩

end Go.Proofs.Ytgbjjceicpmopaa
