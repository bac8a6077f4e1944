/-
  A part of the proof of a law: see the text that states it.
-/
import Derived.Test.YtlndoebddndlmaaDoorG
set_option linter.all false
namespace Go.Am.R
open Go
set_option maxRecDepth 100000
/-! Ops' bytes are these ops'. -/
theorem byI_eq (u : Int) (i : Nat) : byI u i = Int.fdiv u ((2 : Int) ^ (min (Int.toNat ((8 : Int) * i)) 64)) % 256 := rfl
theorem fd (u : Int) {p : Int} (hp : 0 ≤ p) : Int.fdiv u p = u / p := Int.fdiv_eq_ediv_of_nonneg u hp
theorem b8_eq (u : Int) : b8 u = [u / 72057594037927936 % 256, u / 281474976710656 % 256, u / 1099511627776 % 256, u / 4294967296 % 256, u / 16777216 % 256, u / 65536 % 256, u / 256 % 256, u % 256] := by
  have e : ∀ (i : Nat) (p : Int), 0 ≤ p → (2 : Int) ^ (min (Int.toNat ((8 : Int) * i)) 64) = p → byI u i = u / p % 256 := fun i p hp h => by rw [byI_eq, h, fd u hp]
  unfold b8
  rw [e 7 72057594037927936 (by omega) (by decide), e 6 281474976710656 (by omega) (by decide), e 5 1099511627776 (by omega) (by decide), e 4 4294967296 (by omega) (by decide), e 3 16777216 (by omega) (by decide), e 2 65536 (by omega) (by decide), e 1 256 (by omega) (by decide), e 0 1 (by omega) (by decide)]
  rw [Int.ediv_one]
theorem num_b8 {u : Int} (h : 0 ≤ u ∧ u < 18446744073709551616) : numB (b8 u) = u := by
  rw [b8_eq]
  simp only [numB, List.foldl_cons, List.foldl_nil]
  omega
theorem b8_num {l : List Int} (h : Byts l) (hl : l.length = 8) : b8 (numB l) = l := by
  match l, hl with
  | [a, b, c, d, e, f, g, i], _ =>
    have h1 := h a (by simp)
    have h2 := h b (by simp)
    have h3 := h c (by simp)
    have h4 := h d (by simp)
    have h5 := h e (by simp)
    have h6 := h f (by simp)
    have h7 := h g (by simp)
    have h8 := h i (by simp)
    rw [b8_eq]
    simp only [numB, List.foldl_cons, List.foldl_nil, List.cons.injEq, and_true]
    refine ⟨?_, ?_, ?_, ?_, ?_, ?_, ?_, ?_⟩ <;> omega
theorem u64_eq (n : Int) : IntKind.wrap .u64 n = n % 18446744073709551616 := rfl
theorem i64_eq (n : Int) : IntKind.wrap .i64 n = if n % 18446744073709551616 ≥ 9223372036854775808 then n % 18446744073709551616 - 18446744073709551616 else n % 18446744073709551616 := by
  show (if (true && decide (n % 18446744073709551616 ≥ 9223372036854775808)) = true then n % 18446744073709551616 - 18446744073709551616 else n % 18446744073709551616) = _
  simp
theorem w64_id {n : Int} (h : -9223372036854775808 ≤ n ∧ n ≤ 9223372036854775807) : IntKind.wrap .i64 (IntKind.wrap .u64 n) = n := by
  rw [i64_eq, u64_eq]; split <;> omega
theorem u64_id {u : Int} (h : 0 ≤ u ∧ u < 18446744073709551616) : IntKind.wrap .u64 (IntKind.wrap .i64 u) = u := by
  rw [i64_eq, u64_eq]; split <;> omega
theorem u64_bd (n : Int) : 0 ≤ IntKind.wrap .u64 n ∧ IntKind.wrap .u64 n < 18446744073709551616 := by rw [u64_eq]; omega
def okOp (x : Op2) : Bool := decide (1 ≤ x.1) && decide (x.1 ≤ 9) && (decide (x.1 ≤ 3) || decide (x.2.1 = 0))
theorem decR_enc : ∀ l : List Op2, l.all okOp = true → (∀ x ∈ l, -9223372036854775808 ≤ x.2.1 ∧ x.2.1 ≤ 9223372036854775807) → decR (encL l) = some l
  | [], _, _ => rfl
  | x :: l, h, hr => by
    simp only [List.all_cons, Bool.and_eq_true] at h
    have ih := decR_enc l h.2 fun y hy => hr y (List.mem_cons_of_mem _ hy)
    have hx := hr x (List.mem_cons_self ..)
    obtain ⟨k, n, ⟨⟩⟩ := x
    have h1 := h.1
    simp only [okOp, Bool.and_eq_true, Bool.or_eq_true, decide_eq_true_eq] at h1
    simp only at hx
    have hk : isK k = true := (isK_iff k).2 h1.1
    have hc : IntKind.wrap .u8 (max (0 : Int) (min k (255 : Int))) = k := by rw [wrap8_id (by omega)]; omega
    have e : encL ((k, n, ()) :: l) = k :: ((if hasK k then b8 (IntKind.wrap .u64 n) else []) ++ encL l) := by
      simp only [encL, List.flatMap_cons, enc1, hc]; rfl
    rw [e, decR_cons, if_neg (by simp [hk])]
    cases hh : hasK k with
    | true =>
      have h8 : (b8 (IntKind.wrap .u64 n)).length = 8 := rfl
      simp only [if_true]
      rw [if_neg (by rw [List.length_append, h8]; omega), List.drop_left' h8, List.take_left' h8, ih, num_b8 (u64_bd n), w64_id hx]
      rfl
    | false =>
      have : n = 0 := by
        have : ¬ k ≤ 3 := fun h3 => by simp [hasK] at hh; omega
        omega
      subst this
      simp only [Bool.false_eq_true, if_false, List.nil_append, ih]
      rfl
theorem enc_dec : ∀ (n : Nat) (b : List Int) (k : List Op2), b.length ≤ n → Byts b → decR b = some k → encL k = b
  | _, [], k, _, _, h => by rw [decR_nil] at h; cases h; rfl
  | n + 1, c :: r, k, hn, hb, h => by
    simp only [List.length_cons] at hn
    have hr : Byts r := fun y hy => hb y (List.mem_cons_of_mem _ hy)
    rw [decR_cons] at h
    split at h
    · cases h
    · rename_i hk
      have hk' : isK c = true := by simpa using hk
      have hkb := (isK_iff c).1 hk'
      have hc : IntKind.wrap .u8 (max (0 : Int) (min c (255 : Int))) = c := by rw [wrap8_id (by omega)]; omega
      split at h
      · rename_i hh
        split at h
        · cases h
        · rename_i h8
          simp only [Option.map_eq_some_iff] at h
          obtain ⟨k', h1, rfl⟩ := h
          have ih := enc_dec n (r.drop 8) k' (by rw [List.length_drop]; omega) (hr.drop 8) h1
          have hl8 : (r.take 8).length = 8 := by rw [List.length_take]; omega
          have hbd := numB_bd (r.take 8) (hr.take 8)
          rw [hl8, show (((256 ^ 8 : Nat)) : Int) = 18446744073709551616 by rfl] at hbd
          have e : encL ((c, IntKind.wrap .i64 (numB (r.take 8)), ()) :: k') = c :: (b8 (IntKind.wrap .u64 (IntKind.wrap .i64 (numB (r.take 8)))) ++ encL k') := by
            simp only [encL, List.flatMap_cons, enc1, hc, hh, if_true]; rfl
          rw [e, u64_id hbd, b8_num (hr.take 8) hl8, ih, List.take_append_drop]
      · rename_i hh
        simp only [Option.map_eq_some_iff] at h
        obtain ⟨k', h1, rfl⟩ := h
        have ih := enc_dec n r k' (by omega) hr h1
        have e : encL ((c, 0, ()) :: k') = c :: encL k' := by
          simp only [encL, List.flatMap_cons, enc1, hc, hh, Bool.false_eq_true, if_false]; rfl
        rw [e, ih]
theorem byI_byt (u : Int) (i : Nat) : 0 ≤ byI u i ∧ byI u i < 256 := by rw [byI_eq]; omega
theorem encL_byts (l : List Op2) : Byts (encL l) := by
  intro z hz
  simp only [encL, List.mem_flatMap] at hz
  obtain ⟨x, _, hz⟩ := hz
  unfold enc1 at hz
  rcases List.mem_cons.1 hz with rfl | hz
  · have : ∀ n : Int, IntKind.wrap .u8 n = n % 256 := fun _ => rfl
    rw [this]; omega
  · split at hz
    · unfold b8 at hz
      simp only [List.mem_cons, List.not_mem_nil, or_false] at hz
      rcases hz with rfl | rfl | rfl | rfl | rfl | rfl | rfl | rfl <;> exact byI_byt _ _
    · cases hz

theorem bytess (l : List Op2) (b : List Int) (hb : Byts b) (hr : ∀ x ∈ l, -9223372036854775808 ≤ x.2.1 ∧ x.2.1 ≤ 9223372036854775807) : E 8 [.tv [] (.slice tOp) l, .tv [] (.slice (.int .u8)) b] [] (.tv [] .bool true) [] := by
  refine ev_of (vc8 l b _ ?_)
  refine ⟨_, ⟨awake_ev⟩, fun _ => ⟨rfl, rfl⟩, fun h1 => ⟨fun _ => ⟨rfl, rfl⟩, fun h2 => ?_⟩⟩
  (simp only [decide_eq_true_eq, decide_eq_false_iff_not, Bool.not_eq_true', Bool.not_eq_false'] at h1)
  (simp only [decide_eq_true_eq, decide_eq_false_iff_not, Bool.not_eq_true', Bool.not_eq_false'] at h2)
  refine ⟨fun r i => ∃ m : Nat, i = m ∧ m ≤ l.length ∧ r = (l.take m).all okOp, fun r i => (l.length - i).toNat, ⟨0, rfl, by omega, by simp⟩, ?_⟩
  rintro r _ ⟨m, rfl, hm, hrr⟩
  refine ⟨fun h => ?_, fun h => ?_⟩
  · (simp only [decide_eq_true_eq, decide_eq_false_iff_not, Bool.not_eq_true', Bool.not_eq_false'] at h)
    have hm' : m < l.length := by omega
    have hs := take_snocI ((0 : Int), (0 : Int), ()) hm'
    generalize l.getD (Int.toNat (m : Int)) ((0 : Int), (0 : Int), ()) = x at hs ⊢
    have hall : (l.take (m + 1)).all okOp = (r && okOp x) := by rw [hs, List.all_append, hrr]; simp
    have next : ∀ {r' : Bool}, r' = (r && okOp x) → ∃ m' : Nat, (m : Int) + 1 = m' ∧ m' ≤ l.length ∧ r' = (l.take m').all okOp := fun h => ⟨m + 1, rfl, by omega, by rw [hall, h]⟩
    clear hrr hs hall
    refine ⟨fun hrt => ?_, fun hrf => ?_⟩
    · subst hrt
      refine ⟨⟨by omega⟩, fun h1 => ⟨⟨by omega⟩, fun h2 => ⟨⟨by omega⟩, fun h3 => ?_, fun h3 => ?_⟩, fun h2 => ?_⟩, fun h1 => ?_⟩
      · (simp only [decide_eq_true_eq, decide_eq_false_iff_not, Bool.not_eq_true', Bool.not_eq_false'] at h1)
        (simp only [decide_eq_true_eq, decide_eq_false_iff_not, Bool.not_eq_true', Bool.not_eq_false'] at h2)
        (simp only [decide_eq_true_eq, decide_eq_false_iff_not, Bool.not_eq_true', Bool.not_eq_false'] at h3)
        exact ⟨⟨by omega⟩, next (by simp [okOp, h1, h2, h3]), ⟨by ((try dsimp only); omega)⟩⟩
      · (simp only [decide_eq_true_eq, decide_eq_false_iff_not, Bool.not_eq_true', Bool.not_eq_false'] at h1)
        (simp only [decide_eq_true_eq, decide_eq_false_iff_not, Bool.not_eq_true', Bool.not_eq_false'] at h2)
        (simp only [decide_eq_true_eq, decide_eq_false_iff_not, Bool.not_eq_true', Bool.not_eq_false'] at h3)
        exact ⟨⟨by omega⟩, ⟨by omega⟩, next (by simp [okOp, h1, h2]; omega), ⟨by ((try dsimp only); omega)⟩⟩
      · (simp only [decide_eq_true_eq, decide_eq_false_iff_not, Bool.not_eq_true', Bool.not_eq_false'] at h2)
        exact ⟨⟨by omega⟩, next (by simp [okOp]; omega), ⟨by ((try dsimp only); omega)⟩⟩
      · (simp only [decide_eq_true_eq, decide_eq_false_iff_not, Bool.not_eq_true', Bool.not_eq_false'] at h1)
        exact ⟨⟨by omega⟩, next (by simp [okOp]; omega), ⟨by ((try dsimp only); omega)⟩⟩
    · subst hrf
      exact ⟨⟨by omega⟩, next (by simp), ⟨by ((try dsimp only); omega)⟩⟩
  · (simp only [decide_eq_true_eq, decide_eq_false_iff_not, Bool.not_eq_true', Bool.not_eq_false'] at h)
    have : m = l.length := by omega
    subst this
    rw [List.take_length] at hrr
    have hel := encL_len l
    have hdl := decR_len b
    have back : (((decR b).isSome = true → encL ((decR b).getD []) = b)) := fun h => by
      obtain ⟨k, hk⟩ := Option.isSome_iff_exists.1 h
      rw [hk]
      exact enc_dec b.length b k (Nat.le_refl _) hb hk
    have fin : (if (decR b).isSome then (0 : Int) else 31) ≠ 0 → (decR b).getD [] = [] ∧ (if (decR b).isSome then (0 : Int) else 31) = 31 := fun h => by
      cases hd : decR b with
      | none => exact ⟨rfl, rfl⟩
      | some k => rw [hd] at h; exact absurd rfl h
    have fin2 : (if (decR b).isSome then (0 : Int) else 31) = 0 → (decR b).isSome = true := fun h => by
      cases hd : decR b with
      | none => rw [hd] at h; cases h
      | some k => rfl
    refine ⟨_, ⟨enc_ev l (by omega)⟩, _, _, ⟨dec_ev _ (encL_byts l) (by omega)⟩, fun hrt => ?_, fun hrf => ?_⟩
    · subst hrt
      have hde := decR_enc l hrr.symm hr
      rw [hde]
      refine ⟨fun h => by simp at h, fun _ => ⟨_, ⟨ops_ev _ _ (by unfold bigN; omega)⟩, fun h => by simp at h, fun _ => ⟨_, _, ⟨dec_ev b hb (by omega)⟩, fun h => ⟨fun _ => ⟨fun h' => ?_, fun h' => ?_⟩, fun h => by cases h⟩, fun h => ⟨fun _ => ⟨_, ⟨enc_ev _ (by omega)⟩, ?_, rfl⟩, fun h => by cases h⟩⟩⟩⟩
      · (simp only [decide_eq_true_eq, decide_eq_false_iff_not, Bool.not_eq_true', Bool.not_eq_false'] at h)
        exact ⟨tvB (by simp [(fin h).2]), rfl⟩
      · (simp only [decide_eq_true_eq, decide_eq_false_iff_not, Bool.not_eq_true', Bool.not_eq_false'] at h)
        (simp only [decide_eq_true_eq, decide_eq_false_iff_not, Bool.not_eq_true', Bool.not_eq_false'] at h')
        rw [(fin h).1] at h'
        exact absurd rfl h'
      · (simp only [decide_eq_true_eq, decide_eq_false_iff_not, Bool.not_eq_true', Bool.not_eq_false'] at h)
        exact tvB (by simpa using back (fin2 (by simpa using h)))
    · refine ⟨_, _, ⟨dec_ev b hb (by omega)⟩, fun h => ⟨fun _ => ⟨fun h' => ?_, fun h' => ?_⟩, fun h => by cases h⟩, fun h => ⟨fun _ => ⟨_, ⟨enc_ev _ (by omega)⟩, ?_, rfl⟩, fun h => by cases h⟩⟩
      · (simp only [decide_eq_true_eq, decide_eq_false_iff_not, Bool.not_eq_true', Bool.not_eq_false'] at h)
        exact ⟨tvB (by simp [(fin h).2]), rfl⟩
      · (simp only [decide_eq_true_eq, decide_eq_false_iff_not, Bool.not_eq_true', Bool.not_eq_false'] at h)
        (simp only [decide_eq_true_eq, decide_eq_false_iff_not, Bool.not_eq_true', Bool.not_eq_false'] at h')
        rw [(fin h).1] at h'
        exact absurd rfl h'
      · (simp only [decide_eq_true_eq, decide_eq_false_iff_not, Bool.not_eq_true', Bool.not_eq_false'] at h)
        exact tvB (by simpa using back (fin2 (by simpa using h)))
end Go.Am.R
