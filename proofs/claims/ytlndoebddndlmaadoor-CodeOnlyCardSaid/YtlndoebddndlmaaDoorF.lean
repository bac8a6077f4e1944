/-
  A part of the proof of a law: see the text that states it.
-/
import Derived.Test.YtlndoebddndlmaaDoorE
set_option linter.all false
namespace Go.Am.R
open Go
set_option maxRecDepth 100000
/-! Bytes as programs. -/
def dec : Nat → List Int → Option (List Op2)
  | _, [] => some []
  | 0, _ :: _ => none
  | n + 1, c :: r => if isK c = false then none else if hasK c then (if r.length < 8 then none else (dec n (r.drop 8)).map ((c, IntKind.wrap .i64 (numB (r.take 8)), ()) :: ·)) else (dec n r).map ((c, 0, ()) :: ·)
theorem dec_more : ∀ (n : Nat) (l : List Int), l.length ≤ n → ∀ m, l.length ≤ m → dec n l = dec m l
  | n, [], _, m, _ => by cases n <;> cases m <;> rfl
  | n + 1, c :: r, hn, m + 1, hm => by
    simp only [List.length_cons] at hn hm
    simp only [dec]
    rw [dec_more n (r.drop 8) (by rw [List.length_drop]; omega) m (by rw [List.length_drop]; omega), dec_more n r (by omega) m (by omega)]
  | n + 1, c :: r, hn, 0, hm => by simp at hm
  | 0, c :: r, hn, _, _ => by simp at hn
def decR (b : List Int) : Option (List Op2) := dec b.length b
theorem decR_nil : decR [] = some [] := rfl
theorem decR_cons (c : Int) (r : List Int) : decR (c :: r) = if isK c = false then none else if hasK c then (if r.length < 8 then none else (decR (r.drop 8)).map ((c, IntKind.wrap .i64 (numB (r.take 8)), ()) :: ·)) else (decR r).map ((c, 0, ()) :: ·) := by
  unfold decR
  simp only [List.length_cons, dec]
  rw [dec_more r.length (r.drop 8) (by rw [List.length_drop]; omega) (r.drop 8).length (Nat.le_refl _)]
def decA (o : Option (List Op2)) : AV := .tup [.tv [] (.slice tOp) (o.getD []), .tv [] (.int .i64) (if o.isSome then 0 else 31)]
theorem cut_one (z : List Int) : cut z 1 (Int.toNat ((List.length z : Nat) : Int)) = z.drop 1 := by simp [cut]
theorem cut_eight (z : List Int) : cut z 8 (Int.toNat ((List.length z : Nat) : Int)) = z.drop 8 := by simp [cut]
theorem cut_zero8 (z : List Int) : cut z 0 8 = z.take 8 := by simp [cut]
theorem dec_ev (b : List Int) (hb : Byts b) (hl : b.length ≤ 10000) : E 22 [.tv [] (.slice (.int .u8)) b] [] (decA (decR b)) [] := by
  refine ev_of (vc22 b _ ?_)
  refine ⟨fun z out => Byts z ∧ out.length + z.length ≤ b.length ∧ decR b = (decR z).map (out ++ ·), fun z out => z.length, ⟨hb, by simp, by simp⟩, ?_⟩
  rintro z out ⟨hz, hlen, hd⟩
  refine ⟨fun h => ?_, fun h => ?_⟩
  · (simp only [decide_eq_true_eq, decide_eq_false_iff_not, Bool.not_eq_true', Bool.not_eq_false'] at h)
    match z, h with
    | [], h => exact absurd h (by simp)
    | c :: r, _ => ?_
    have hc := hz c (List.mem_cons_self ..)
    have hr : Byts r := fun y hy => hz y (List.mem_cons_of_mem _ hy)
    rw [decR_cons] at hd
    simp only [List.length_cons] at hlen
    have e1 : cut (c :: r) 1 (Int.toNat ((List.length (c :: r) : Nat) : Int)) = r := by rw [cut_one]; rfl
    have bad : decR b = none → AV.tup [.tv [] (.slice tOp) [], .tv [] (.int .i64) 31] = decA (decR b) := fun h => by rw [h]; rfl
    rw [e1, show List.getD (c :: r) 0 (0 : Int) = c from rfl]
    refine ⟨⟨by simp only [List.length_cons]; omega⟩, ⟨by omega⟩, ⟨by simp only [List.length_cons]; omega⟩, _, ⟨is_ev _⟩, fun h1 => ?_, fun h1 => ?_⟩
    · simp only [Bool.not_eq_true'] at h1
      rw [if_pos h1] at hd
      exact ⟨bad hd, rfl⟩
    · simp only [Bool.not_eq_false'] at h1
      rw [if_neg (by simp [h1])] at hd
      have step9 : hasK c = true → ¬ r.length < 8 → decR b = (decR (r.drop 8)).map ((out ++ [(c, IntKind.wrap .i64 (numB (r.take 8)), ())]) ++ ·) := fun h2 h3 => by
        rw [if_pos h2, if_neg h3] at hd
        rw [hd]; simp [Option.map_map, Function.comp_def]
      have step1 : hasK c = false → decR b = (decR r).map ((out ++ [(c, 0, ())]) ++ ·) := fun h2 => by
        rw [if_neg (by simp [h2])] at hd
        rw [hd]; simp [Option.map_map, Function.comp_def]
      have hdl : (r.drop 8).length = r.length - 8 := List.length_drop
      refine ⟨_, ⟨has_ev _⟩, fun h2 => ⟨fun h3 => ?_, fun h3 => ?_⟩, fun h2 => ?_⟩
      · (simp only [decide_eq_true_eq, decide_eq_false_iff_not, Bool.not_eq_true', Bool.not_eq_false'] at h3)
        rw [if_pos h2, if_pos (by omega)] at hd
        exact ⟨bad hd, rfl⟩
      · (simp only [decide_eq_true_eq, decide_eq_false_iff_not, Bool.not_eq_true', Bool.not_eq_false'] at h3)
        refine ⟨_, ⟨has_ev _⟩, fun h4 => ?_, fun h4 => by rw [h2] at h4; cases h4⟩
        rw [cut_zero8, cut_eight]
        refine ⟨⟨by omega⟩, _, ⟨number_ev _ (hr.take 8) (by rw [List.length_take]; omega)⟩, ⟨by omega⟩, ⟨by unfold bigN; simp only [List.length_singleton]; omega⟩, ⟨hr.drop 8, ?_, step9 h2 (by omega)⟩, ⟨?_⟩⟩
        · rw [List.length_append, List.length_singleton, hdl]; omega
        · show (r.drop 8).length < (c :: r).length
          rw [hdl, List.length_cons]; omega
      · refine ⟨_, ⟨has_ev _⟩, fun h4 => (by rw [h2] at h4; cases h4), fun h4 => ⟨⟨by unfold bigN; simp only [List.length_singleton]; omega⟩, ⟨hr, ?_, step1 h2⟩, ⟨?_⟩⟩⟩
        · rw [List.length_append, List.length_singleton]; omega
        · show r.length < (c :: r).length
          rw [List.length_cons]; omega
  · (simp only [decide_eq_true_eq, decide_eq_false_iff_not, Bool.not_eq_true', Bool.not_eq_false'] at h)
    match z, h with
    | _ :: _, h => exact absurd (by simp) h
    | [], _ => ?_
    rw [decR_nil] at hd
    refine ⟨?_, rfl⟩
    rw [hd]
    simp [decA]
theorem isK_takes (c : Int) : (takesK c < 0) ↔ isK c = false := by
  unfold takesK isK
  (repeat' split) <;> simp <;> omega
theorem rdec_ev (b : List Int) (hb : Byts b) (hl : b.length ≤ 10000) : E 23 [.tv [] (.slice (.int .u8)) b] [] (decA (decR b)) [] := by
  refine ev_of (vc23 b _ ?_)
  refine ⟨fun out i => ∃ m : Nat, i = m ∧ m ≤ b.length ∧ out.length ≤ m ∧ decR b = (decR (b.drop m)).map (out ++ ·), fun out i => (b.length - i).toNat, ⟨0, rfl, by omega, by simp, by simp⟩, ?_⟩
  rintro out _ ⟨m, rfl, hm, hlen, hd⟩
  refine ⟨fun h => ?_, fun h => ?_⟩
  · (simp only [decide_eq_true_eq, decide_eq_false_iff_not, Bool.not_eq_true', Bool.not_eq_false'] at h)
    have hm' : m < b.length := by omega
    have hc := hb _ (getD_memI 0 hm')
    have hcons := drop_consI (0 : Int) hm'
    rw [hcons, decR_cons] at hd
    generalize hcc : b.getD (Int.toNat (m : Int)) 0 = c at hc hd hcons ⊢
    have bad : decR b = none → AV.tup [.tv [] (.slice tOp) [], .tv [] (.int .i64) 31] = decA (decR b) := fun h => by rw [h]; rfl
    have hdl : (b.drop (m + 1)).length = b.length - (m + 1) := List.length_drop
    refine ⟨⟨by omega⟩, ⟨by omega⟩, ⟨by omega⟩, _, ⟨takes_ev _⟩, fun h1 => ?_, fun h1 => ?_⟩
    · (simp only [decide_eq_true_eq, decide_eq_false_iff_not, Bool.not_eq_true', Bool.not_eq_false'] at h1)
      rw [if_pos ((isK_takes c).1 h1)] at hd
      exact ⟨bad hd, rfl⟩
    · (simp only [decide_eq_true_eq, decide_eq_false_iff_not, Bool.not_eq_true', Bool.not_eq_false'] at h1)
      have hk : isK c = true := by
        cases hk : isK c with
        | true => rfl
        | false => exact absurd ((isK_takes c).2 hk) h1
      rw [if_neg (by simp [hk])] at hd
      refine ⟨fun h2 => ?_, fun h2 => ?_⟩
      · (simp only [decide_eq_true_eq, decide_eq_false_iff_not, Bool.not_eq_true', Bool.not_eq_false'] at h2)
        have hh : hasK c = true := by simp [isK] at hk; simp [hasK]; omega
        rw [if_pos hh] at hd
        refine ⟨⟨by omega⟩, fun h3 => ?_, fun h3 => ?_⟩
        · (simp only [decide_eq_true_eq, decide_eq_false_iff_not, Bool.not_eq_true', Bool.not_eq_false'] at h3)
          rw [if_pos (by omega)] at hd
          exact ⟨bad hd, rfl⟩
        · (simp only [decide_eq_true_eq, decide_eq_false_iff_not, Bool.not_eq_true', Bool.not_eq_false'] at h3)
          rw [if_neg (by omega)] at hd
          refine ⟨fun n k a z => ∃ j : Nat, k = j ∧ j ≤ 8 ∧ a = c ∧ z = 0 ∧ n = numB ((b.drop (m + 1)).take j), fun n k a z => (8 - k).toNat, ⟨0, rfl, by omega, rfl, rfl, rfl⟩, ?_⟩
          rintro _ _ _ _ ⟨j, rfl, hj, rfl, rfl, rfl⟩
          refine ⟨fun h5 => ?_, fun h5 => ?_⟩
          · (simp only [decide_eq_true_eq, decide_eq_false_iff_not, Bool.not_eq_true', Bool.not_eq_false'] at h5)
            have hj' : j < (b.drop (m + 1)).length := by omega
            have hgd : b.getD (Int.toNat ((m : Int) + 1 + j)) 0 = (b.drop (m + 1)).getD j 0 := by
              rw [show ((m : Int) + 1 + j).toNat = m + 1 + j by omega]
              simp [List.getD_eq_getElem?_getD, List.getElem?_drop]
            have hx := (hb.drop (m + 1)) _ (getD_mem' (0 : Int) hj')
            have hs := take_snoc (0 : Int) hj'
            have hbd := numB_bd ((b.drop (m + 1)).take j) ((hb.drop _).take j)
            have hp := pow256_le (n := ((b.drop (m + 1)).take j).length) (m := 7) (by rw [List.length_take]; omega)
            rw [show (((256 ^ 7 : Nat)) : Int) = 72057594037927936 by rfl] at hp
            rw [hgd]
            generalize (b.drop (m + 1)).getD j 0 = y at hx hs ⊢
            rw [wrap64_id (n := numB _ * 256) (by omega), wrap64_id (n := y) (by omega), wrap64_id (by omega)]
            exact ⟨⟨by omega⟩, ⟨by omega⟩, ⟨by omega⟩, ⟨by omega⟩, ⟨j + 1, rfl, by omega, rfl, rfl, by rw [hs, numB_snoc]⟩, ⟨by ((try dsimp only); omega)⟩⟩
          · (simp only [decide_eq_true_eq, decide_eq_false_iff_not, Bool.not_eq_true', Bool.not_eq_false'] at h5)
            have : j = 8 := by omega
            subst this
            refine ⟨⟨by omega⟩, ⟨by unfold bigN; simp only [List.length_singleton]; omega⟩, ⟨m + 9, by omega, by omega, by rw [List.length_append, List.length_singleton]; omega, ?_⟩, ⟨by ((try dsimp only); omega)⟩⟩
            rw [hd, List.drop_drop]
            simp [Option.map_map, Function.comp_def]
      · (simp only [decide_eq_true_eq, decide_eq_false_iff_not, Bool.not_eq_true', Bool.not_eq_false'] at h2)
        have hh : hasK c = false := by simp [hasK]; omega
        rw [if_neg (by simp [hh])] at hd
        refine ⟨⟨by unfold bigN; simp only [List.length_singleton]; omega⟩, ⟨m + 1, rfl, by omega, by rw [List.length_append, List.length_singleton]; omega, ?_⟩, ⟨by ((try dsimp only); omega)⟩⟩
        rw [hd]
        simp [Option.map_map, Function.comp_def]
  · (simp only [decide_eq_true_eq, decide_eq_false_iff_not, Bool.not_eq_true', Bool.not_eq_false'] at h)
    have : m = b.length := by omega
    subst this
    rw [List.drop_length, decR_nil] at hd
    refine ⟨?_, rfl⟩
    rw [hd]
    simp [decA]
end Go.Am.R
