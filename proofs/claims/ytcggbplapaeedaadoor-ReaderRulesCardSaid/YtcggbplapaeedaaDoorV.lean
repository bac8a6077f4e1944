/-
  A part of the proof of a law: see the text that states it.
-/
import Derived.Test.YtcggbplapaeedaaDoorU
import Derived.Test.YtcggbplapaeedaaDoorAm4
import Derived.Test.YtcggbplapaeedaaDoorG
import Derived.Test.YtcggbplapaeedaaDoorVcD
set_option linter.all false
namespace Go.Am.R
open Go Go.Am.Pr Go.Am.R.L
set_option maxRecDepth 100000
set_option maxHeartbeats 1000000
def W (n : Int) : List Int := (cut [(97 : Int), (98 : Int), (99 : Int), (100 : Int), (101 : Int), (102 : Int), (103 : Int), (104 : Int), (105 : Int), (106 : Int)] (Int.toNat (Int.tmod n (10 : Int))) (Int.toNat ((Int.tmod n (10 : Int)) + (1 : Int)))) ++ (cut [(120 : Int), (121 : Int), (122 : Int)] (Int.toNat (Int.tmod (Int.tdiv n (10 : Int)) (3 : Int))) (Int.toNat ((Int.tmod (Int.tdiv n (10 : Int)) (3 : Int)) + (1 : Int))))
theorem W_all : ∀ n : Nat, n < 256 → (W n).length = 2 ∧ nameK (W n) = true ∧ (∀ c ∈ W n, 97 ≤ c ∧ c ≤ 122) := by decide +kernel
theorem W_is (n : Int) (h : 0 ≤ n ∧ n < 256) : ∃ m : Nat, n = (m : Int) ∧ m < 256 := ⟨n.toNat, by omega, by omega⟩
theorem W_len (n : Int) (h : 0 ≤ n ∧ n < 256) : (W n).length = 2 := by
 obtain ⟨m, rfl, hm⟩ := W_is n h
 exact (W_all m hm).1
theorem W_ok (n : Int) (h : 0 ≤ n ∧ n < 256) : NmOK (W n) := by
 obtain ⟨m, rfl, hm⟩ := W_is n h
 exact ⟨(W_all m hm).2.1, by rw [(W_all m hm).1]; decide⟩
theorem W_mem (n : Int) (h : 0 ≤ n ∧ n < 256) : ∀ c ∈ W n, 0 ≤ c ∧ c < 256 := by
 obtain ⟨m, rfl, hm⟩ := W_is n h
 intro c hc
 have := (W_all m hm).2.2 c hc
 omega
theorem word_ev (n : Int) (h : 0 ≤ n ∧ n < 256) : E 16 [.tv [] (.int .u8) n] [] (.tv [] .str (W n)) [] := by
 refine ev_of (vc16 n _ ?_)
 have hl := W_len n h
 unfold W at hl ⊢
 have h1 : 0 ≤ Int.tmod n 10 := Int.tmod_nonneg _ h.1
 have h2 : Int.tmod n 10 < 10 := Int.tmod_lt_of_pos _ (by decide)
 have h5 : 0 ≤ Int.tdiv n 10 := Int.tdiv_nonneg h.1 (by decide)
 have h6 : Int.tdiv n 10 ≤ n := Int.tdiv_le_self _ h.1
 have h3 : 0 ≤ Int.tmod (Int.tdiv n 10) 3 := Int.tmod_nonneg _ h5
 have h4 : Int.tmod (Int.tdiv n 10) 3 < 3 := Int.tmod_lt_of_pos _ (by decide)
 rw [List.length_append] at hl
 refine ⟨⟨by omega⟩, ⟨by decide⟩, ⟨fun q => by cases q.1⟩, ⟨by omega⟩, ⟨by decide⟩, ⟨fun q => by cases q.1⟩, ⟨by omega⟩, ⟨by omega⟩, ⟨by omega⟩, ⟨by decide⟩, ⟨by omega⟩, ⟨by decide⟩, ⟨fun q => by cases q.1⟩, ⟨by omega⟩, ⟨by decide⟩, ⟨by omega⟩, ⟨by decide⟩, ⟨fun q => by cases q.1⟩, ⟨by omega⟩, ⟨by omega⟩, ⟨by rw [hl]; decide⟩, rfl, rfl⟩
attribute [irreducible] W
theorem nmT_len (l : List Int) (hl : ∀ i, i < l.length → 0 ≤ l.getD i 0 ∧ l.getD i 0 < 256) : (nmT (l.map W)).length = 3 * l.length := by
 induction l with
 | nil => rfl
 | cons a l ih =>
  have h0 := hl 0 (by simp)
  have ih := ih fun i hi => by have := hl (i + 1) (by simpa using hi); simpa using this
  simp only [nmT, List.map_cons, List.flatMap_cons, List.length_append, List.length_cons] at ih ⊢
  rw [ih, W_len a h0]; omega
theorem nmT_app (a b : Ns) : nmT (a ++ b) = nmT a ++ nmT b := List.flatMap_append
def lastL (L : List Int) : List Row → List Int
 | [] => L
 | (_, M, _) :: l => lastL M l
theorem Ch_snoc : ∀ (l : List Row) (L M : List Int) (k : Nat) (ns : Ns), Ch L l → (k = 1 ∨ k = 2 ∧ M = lastL L l) → Ch L (l ++ [(k, M, ns)])
 | [], L, M, k, ns, _, h => ⟨h, trivial⟩
 | (j, N, _) :: l, L, M, k, ns, h, g => ⟨h.1, Ch_snoc l N M k ns h.2 g⟩
theorem lastL_snoc : ∀ (l : List Row) (L M : List Int) (k : Nat) (ns : Ns), lastL L (l ++ [(k, M, ns)]) = M
 | [], _, _, _, _ => rfl
 | (_, N, _) :: l, _, M, k, ns => lastL_snoc l N M k ns
theorem inner_ok {x1 : List qT3} {z : Int} {T0 L : List Int} {R : List Int} {X : List Int → Int → List Int → Ns → List Int → List Int → Prop}
    (hz : 0 ≤ z ∧ z < (x1.length : Int)) (hR : x1.getD (Int.toNat z) [] = R) (hb : ∀ i, i < R.length → 0 ≤ R.getD i 0 ∧ R.getD i 0 < 256) (h8 : R.length ≤ 8) (hT : T0.length ≤ 400)
    (hX : ∀ k, X (T0 ++ nmT (R.map W)) k L (R.map W) [] []) :
    ∃ y22 : (qT3 → (Int → (qT3 → ((List qT3) → (qT3 → (qT3 → Prop)))))),
    (∃ y23 : (qT3 → (Int → (qT3 → ((List qT3) → (qT3 → (qT3 → Nat)))))),
    ((y22 T0 (0 : Int) L [] [] []) ∧
    (∀ z24 : qT3,
    (∀ z25 : Int,
    (∀ z26 : qT3,
    (∀ z27 : (List qT3),
    (∀ z28 : qT3,
    (∀ z29 : qT3,
    ((y22 z24 z25 z26 z27 z28 z29) →
    (Need (((0 : Int) ≤ z) ∧ (z < ((List.length x1) : Int))) ∧
    ((((decide (z25 < ((List.length (List.getD x1 (Int.toNat z) [])) : Int))) = true) →
     (Need (((List.length z24) + 1) ≤ bigN) ∧
     (Need (((0 : Int) ≤ z) ∧ (z < ((List.length x1) : Int))) ∧
     (Need (((0 : Int) ≤ z25) ∧ (z25 < ((List.length (List.getD x1 (Int.toNat z) [])) : Int))) ∧
     (∃ y32 : qT3,
     (Need (E 16 [(.tv [] (.int .u8) (List.getD (List.getD x1 (Int.toNat z) []) (Int.toNat z25) (0 : Int)))] [] (.tv [] .str y32) []) ∧
     (Need (((List.length (z24 ++ [(32 : Int)])) + (List.length y32)) ≤ bigN) ∧
     (Need (((0 : Int) ≤ z) ∧ (z < ((List.length x1) : Int))) ∧
     (Need (((0 : Int) ≤ z25) ∧ (z25 < ((List.length (List.getD x1 (Int.toNat z) [])) : Int))) ∧
     (∃ y33 : qT3,
     (Need (E 16 [(.tv [] (.int .u8) (List.getD (List.getD x1 (Int.toNat z) []) (Int.toNat z25) (0 : Int)))] [] (.tv [] .str y33) []) ∧
     (Need (((List.length z27) + (List.length [y33])) ≤ bigN) ∧
     (Need (((-9223372036854775808 : Int) ≤ (z25 + (1 : Int))) ∧ ((z25 + (1 : Int)) ≤ (9223372036854775807 : Int))) ∧
     ((y22 ((z24 ++ [(32 : Int)]) ++ y32) (z25 + (1 : Int)) z26 (z27 ++ [y33]) z28 z29) ∧
     Need ((y23 ((z24 ++ [(32 : Int)]) ++ y32) (z25 + (1 : Int)) z26 (z27 ++ [y33]) z28 z29) < (y23 z24 z25 z26 z27 z28 z29)))))))))))))))) ∧
    (((decide (z25 < ((List.length (List.getD x1 (Int.toNat z) [])) : Int))) = false) →
    X z24 z25 z26 z27 z28 z29)))))))))))) := by
  have hbig : (1000000 : Nat) ≤ bigN := by decide
  generalize bigN = big at hbig ⊢
  subst hR
  generalize x1.getD (Int.toNat z) [] = R at *
  refine ⟨fun t k lf rs p a => ∃ j : Nat, k = (j : Int) ∧ j ≤ R.length ∧ lf = L ∧ p = [] ∧ a = [] ∧ rs = (R.take j).map W ∧ t = T0 ++ nmT ((R.take j).map W), fun _ k _ _ _ _ => R.length - k.toNat, ⟨0, rfl, Nat.zero_le _, rfl, rfl, rfl, rfl, by simp [nmT]⟩, ?_⟩
  rintro t k lf rs p a ⟨j, rfl, hj, rfl, rfl, rfl, rfl, rfl⟩
  have hnl := nmT_len (R.take j) (fun i hi => by
    rw [List.length_take] at hi
    have e : (R.take j).getD i 0 = R.getD i 0 := by
      rw [List.getD_eq_getElem?_getD, List.getD_eq_getElem?_getD, List.getElem?_take_of_lt (by omega)]
    rw [e]; exact hb i (by omega))
  have htl : (R.take j).length = j := List.length_take_of_le hj
  refine ⟨⟨hz⟩, fun hlt => ?_, fun hlt => ?_⟩
  · (simp only [decide_eq_true_eq, decide_eq_false_iff_not, Bool.not_eq_true', Bool.not_eq_false'] at hlt)
    have hjl : j < R.length := by omega
    have hjb := hb j hjl
    have hwl := W_len _ hjb
    have ew := word_ev (R.getD (Int.toNat (j : Int)) 0) (by rw [Int.toNat_natCast]; exact hjb)
    refine ⟨⟨by simp only [List.length_append]; omega⟩, ⟨hz⟩, ⟨by omega⟩, _, ⟨ew⟩, ⟨by simp only [List.length_append, List.length_cons, List.length_nil, Int.toNat_natCast]; omega⟩, ⟨hz⟩, ⟨by omega⟩, _, ⟨ew⟩, ⟨by simp only [List.length_cons, List.length_nil, List.length_map]; omega⟩, ⟨by omega⟩, ⟨j + 1, rfl, by omega, rfl, rfl, rfl, ?_, ?_⟩, ⟨by simp only [Int.toNat_natCast]; omega⟩⟩
    · rw [take_snoc (0 : Int) hjl, List.map_append]; rfl
    · rw [take_snoc (0 : Int) hjl, List.map_append, nmT_app]; simp [nmT]
  · (simp only [decide_eq_true_eq, decide_eq_false_iff_not, Bool.not_eq_true', Bool.not_eq_false'] at hlt)
    have hje : j = R.length := by omega
    subst hje
    rw [List.take_length]
    exact hX _
theorem nsW_ok (R : List Int) (hR : ∀ i, i < R.length → 0 ≤ R.getD i 0 ∧ R.getD i 0 < 256) : ∀ n ∈ R.map W, NmOK n := by
 intro n hn
 obtain ⟨x, hx, rfl⟩ := List.mem_map.1 hn
 obtain ⟨i, hi, rfl⟩ := List.mem_iff_getElem.1 hx
 have := hR i hi
 rw [List.getD_eq_getElem?_getD, List.getElem?_eq_getElem hi] at this
 exact W_ok _ this
theorem nmT_mem (R : List Int) (hR : ∀ i, i < R.length → 0 ≤ R.getD i 0 ∧ R.getD i 0 < 256) : ∀ c ∈ nmT (R.map W), 0 ≤ c ∧ c < 256 := by
 intro c hc
 obtain ⟨n, hn, hc⟩ := List.mem_flatMap.1 hc
 obtain ⟨x, hx, rfl⟩ := List.mem_map.1 hn
 obtain ⟨i, hi, rfl⟩ := List.mem_iff_getElem.1 hx
 have := hR i hi
 rw [List.getD_eq_getElem?_getD, List.getElem?_eq_getElem hi] at this
 rcases List.mem_cons.1 hc with rfl | hc
 ·decide
 ·exact W_mem _ this c hc
theorem rules (lefts : List Int) (rights : List qT3) (own : List Bool) (hL : ∀ i, i < lefts.length → InR (.int .u8) (lefts.getD i 0)) (hR : ∀ i, i < rights.length → InR (.slice (.int .u8)) (rights.getD i [])) :
  E 4 [.tv [] (.slice (.int .u8)) lefts, .tv [] (.slice (.slice (.int .u8))) rights, .tv [] (.slice .bool) own] [] (bv true) [] := by
 have hL : ∀ i, i < lefts.length → 0 ≤ lefts.getD i 0 ∧ lefts.getD i 0 < 256 := fun i hi => u8_wf (hL i hi)
 have hR : ∀ i, i < rights.length → ∀ k, k < (rights.getD i []).length → 0 ≤ (rights.getD i []).getD k 0 ∧ (rights.getD i []).getD k 0 < 256 := fun i hi k hk => u8_wf ((hR i hi).2 k hk)
 refine ev_of (vc4 lefts rights own _ ⟨true, ⟨awake_ev⟩, fun _ => ⟨rfl, rfl⟩, fun h1 => ⟨fun _ => ⟨rfl, rfl⟩, fun h2 => ⟨fun _ => ⟨rfl, rfl⟩, fun h3 => ?_⟩⟩⟩)
 (simp only [decide_eq_true_eq, decide_eq_false_iff_not, Bool.not_eq_true', Bool.not_eq_false'] at h1 h2 h3)
 have h3 : rights.length = lefts.length := by omega
 refine ⟨fun s left want z => ∃ i : Nat, z = (i : Int) ∧ i ≤ lefts.length ∧ s.length ≤ 2 + 31 * i ∧ (∀ c ∈ s, 0 ≤ c ∧ c < 256) ∧ want.length = i ∧ (i = 0 ∧ s = [37, 37] ∧ want = [] ∨ ∃ ns l, i = l.length + 1 ∧ rowOK (0, W (lefts.getD 0 0), ns) ∧ (∀ q ∈ l, rowOK q) ∧ Ch (W (lefts.getD 0 0)) l ∧ left = lastL (W (lefts.getD 0 0)) l ∧ NmOK left ∧ s = [37, 37] ++ ((0, W (lefts.getD 0 0), ns) :: l).flatMap rowT ∧ want = ((0, W (lefts.getD 0 0), ns) :: l).map wantR), fun _ _ _ z => lefts.length - z.toNat, ⟨0, rfl, Nat.zero_le _, by simp, by decide, rfl, .inl ⟨rfl, by kernel_rfl, rfl⟩⟩, ?_⟩
 rintro s left want z ⟨i, rfl, hi, hsl, hsb, hwl, hT⟩
 have hbig : (1000000 : Nat) ≤ bigN := by decide
 refine ⟨fun h4 => ?_, fun h4 => ?_⟩
 ·(simp only [decide_eq_true_eq, decide_eq_false_iff_not, Bool.not_eq_true', Bool.not_eq_false'] at h4)
  refine ⟨⟨by omega⟩, fun _ => ⟨rfl, rfl⟩, fun h5 => ?_⟩
  (simp only [decide_eq_true_eq, decide_eq_false_iff_not, Bool.not_eq_true', Bool.not_eq_false'] at h5)
  have hi' : i < lefts.length := by omega
  have hz : (0 : Int) ≤ (i : Int) ∧ (i : Int) < (rights.length : Int) := by omega
  have hRi := hR i (by omega)
  have hLi := hL i hi'
  simp only [Int.toNat_natCast] at h5
  have h8 : (rights.getD i []).length ≤ 8 := by omega
  have hRe : rights.getD (Int.toNat (i : Int)) [] = rights.getD i [] := by rw [Int.toNat_natCast]
  have ew := word_ev (lefts.getD (Int.toNat (i : Int)) 0) (by rw [Int.toNat_natCast]; exact hLi)
  have hLe : lefts.getD (Int.toNat (i : Int)) 0 = lefts.getD i 0 := by rw [Int.toNat_natCast]
  have hWl := W_len _ hLi
  have hWo := W_ok _ hLi
  have hWm := W_mem _ hLi
  have hRo := nsW_ok _ hRi
  have hRm := nmT_mem _ hRi
  have hRl := nmT_len _ hRi
  rw [hLe] at ew ⊢
  generalize hRg : rights.getD i [] = R at hRi h8 hRe hRo hRm hRl
  have hRn : (R.map W).length ≤ 8 := by rw [List.length_map]; exact h8
  rcases hT with ⟨rfl, rfl, rfl⟩ | ⟨ns, l, hil, h0, ho, hc, hle, hLn, hs, hw⟩
  ·refine ⟨fun _ => ⟨⟨by omega⟩, _, ⟨ew⟩, fun q => by simp at q, fun _ => ⟨⟨by simp only [List.length_cons, List.length_nil]; omega⟩, ⟨by simp only [List.length_append, List.length_cons, List.length_nil]; omega⟩, ⟨by simp only [List.length_append, List.length_cons, List.length_nil]; omega⟩, inner_ok hz hRe hRi h8 (by simp only [List.length_append, List.length_cons, List.length_nil]; omega) fun k => ⟨⟨by simp only [List.length_cons, List.length_nil]; omega⟩, ⟨by omega⟩, ⟨1, rfl, by omega, ?_, ?_, rfl, .inr ⟨R.map W, [], rfl, ⟨hWo, hRo, hRn⟩, nofun, trivial, rfl, hWo, ?_, rfl⟩⟩, ⟨by ((try dsimp only); omega)⟩⟩⟩⟩, fun q => by simp at q⟩
   ·simp only [List.length_append, List.length_cons, List.length_nil]; omega
   ·intro c hc
    simp only [List.mem_append, List.mem_cons, List.not_mem_nil, or_false] at hc
    rcases hc with ((((rfl | rfl) | rfl) | hc) | (rfl | rfl)) | hc
    ·decide
    ·decide
    ·decide
    ·exact hWm c hc
    ·decide
    ·decide
    ·exact hRm c hc
   ·simp [rowT, hdT]
  ·have hi0 : i ≠ 0 := by omega
   subst hle hs hw
   refine ⟨fun q => by (simp only [decide_eq_true_eq, decide_eq_false_iff_not, Bool.not_eq_true', Bool.not_eq_false'] at q); omega, fun _ => ⟨fun q6 => ?_, fun q6 => ?_⟩⟩
   ·(simp only [decide_eq_true_eq, decide_eq_false_iff_not, Bool.not_eq_true', Bool.not_eq_false'] at q6)
    refine ⟨⟨by omega⟩, fun q7 => ⟨⟨by omega⟩, _, ⟨ew⟩, fun _ => ⟨⟨by omega⟩, ⟨by simp only [List.length_append, List.length_cons, List.length_nil] at hsl ⊢; omega⟩, ⟨by simp only [List.length_append, List.length_cons, List.length_nil] at hsl ⊢; omega⟩, ⟨by simp only [List.length_append, List.length_cons, List.length_nil] at hsl ⊢; omega⟩, inner_ok hz hRe hRi h8 (by simp only [List.length_append, List.length_cons, List.length_nil] at hsl ⊢; omega) fun k => ⟨⟨by simp only [hwl, List.length_cons, List.length_nil]; omega⟩, ⟨by omega⟩, ⟨i + 1, rfl, by omega, ?_, ?_, by simp only [List.length_append, hwl]; rfl, .inr ⟨ns, l ++ [(1, W (lefts.getD i 0), R.map W)], by simp [hil], h0, ?_, Ch_snoc _ _ _ _ _ hc (.inl rfl), (lastL_snoc _ _ _ _ _).symm, hWo, ?_, ?_⟩⟩, ⟨by ((try dsimp only); omega)⟩⟩⟩, fun q => by (simp only [decide_eq_true_eq, decide_eq_false_iff_not, Bool.not_eq_true', Bool.not_eq_false'] at q); omega⟩, fun q7 => ?_⟩
    ·simp only [List.length_append, List.length_cons, List.length_nil] at hsl ⊢; omega
    ·intro c hc
     simp only [List.mem_append, List.mem_cons, List.not_mem_nil, or_false] at hc
     rcases hc with ((((hc | rfl | rfl) | rfl) | hc) | (rfl | rfl)) | hc
     ·exact hsb c (by simp only [List.mem_append, List.mem_cons, List.not_mem_nil, or_false]; exact hc)
     ·decide
     ·decide
     ·decide
     ·exact hWm c hc
     ·decide
     ·decide
     ·exact hRm c hc
    ·intro q hq
     rcases List.mem_append.1 hq with hq | hq
     ·exact ho q hq
     ·rw [List.mem_singleton.1 hq]; exact ⟨hWo, hRo, hRn⟩
    ·simp [rowT, hdT]
    ·simp [wantR]
    ·refine ⟨⟨by omega⟩, inner_ok hz hRe hRi h8 (by simp only [List.length_append, List.length_cons, List.length_nil] at hsl ⊢; omega) fun k => ⟨⟨by simp only [hwl, List.length_cons, List.length_nil]; omega⟩, ⟨by omega⟩, ⟨i + 1, rfl, by omega, ?_, ?_, by simp only [List.length_append, hwl]; rfl, .inr ⟨ns, l ++ [(2, lastL (W (lefts.getD 0 0)) l, R.map W)], by simp [hil], h0, ?_, Ch_snoc _ _ _ _ _ hc (.inr ⟨rfl, rfl⟩), (lastL_snoc _ _ _ _ _).symm, hLn, ?_, ?_⟩⟩, ⟨by ((try dsimp only); omega)⟩⟩⟩
     ·simp only [List.length_append, List.length_cons, List.length_nil] at hsl ⊢; omega
     ·intro c hc
      simp only [List.mem_append, List.mem_cons, List.not_mem_nil, or_false] at hc
      rcases hc with (hc | rfl | rfl) | hc
      ·exact hsb c (by simp only [List.mem_append, List.mem_cons, List.not_mem_nil, or_false]; exact hc)
      ·decide
      ·decide
      ·exact hRm c hc
     ·intro q hq
      rcases List.mem_append.1 hq with hq | hq
      ·exact ho q hq
      ·rw [List.mem_singleton.1 hq]; exact ⟨hLn, hRo, hRn⟩
     ·simp [rowT, hdT]
     ·simp [wantR]
   ·refine ⟨⟨by omega⟩, inner_ok hz hRe hRi h8 (by simp only [List.length_append, List.length_cons, List.length_nil] at hsl ⊢; omega) fun k => ⟨⟨by simp only [hwl, List.length_cons, List.length_nil]; omega⟩, ⟨by omega⟩, ⟨i + 1, rfl, by omega, ?_, ?_, by simp only [List.length_append, hwl]; rfl, .inr ⟨ns, l ++ [(2, lastL (W (lefts.getD 0 0)) l, R.map W)], by simp [hil], h0, ?_, Ch_snoc _ _ _ _ _ hc (.inr ⟨rfl, rfl⟩), (lastL_snoc _ _ _ _ _).symm, hLn, ?_, ?_⟩⟩, ⟨by ((try dsimp only); omega)⟩⟩⟩
    ·simp only [List.length_append, List.length_cons, List.length_nil] at hsl ⊢; omega
    ·intro c hc
     simp only [List.mem_append, List.mem_cons, List.not_mem_nil, or_false] at hc
     rcases hc with (hc | rfl | rfl) | hc
     ·exact hsb c (by simp only [List.mem_append, List.mem_cons, List.not_mem_nil, or_false]; exact hc)
     ·decide
     ·decide
     ·exact hRm c hc
    ·intro q hq
     rcases List.mem_append.1 hq with hq | hq
     ·exact ho q hq
     ·rw [List.mem_singleton.1 hq]; exact ⟨hLn, hRo, hRn⟩
    ·simp [rowT, hdT]
    ·simp [wantR]
 ·(simp only [decide_eq_true_eq, decide_eq_false_iff_not, Bool.not_eq_true', Bool.not_eq_false'] at h4)
  have hie : i = lefts.length := by omega
  rcases hT with ⟨rfl, rfl, rfl⟩ | ⟨ns, l, hil, h0, ho, hc, hle, hLn, hs, hw⟩
  ·omega
  have hread := rows_read (W (lefts.getD 0 0)) ns l hc h0 ho (by omega) (s := s ++ [59]) (by rw [hs]; simp)
  have C := readR (s ++ [59]) (by simp only [List.length_append, List.length_cons, List.length_nil]; omega) (by
   intro c hc
   rcases List.mem_append.1 hc with hc | hc
   ·exact hsb c hc
   ·rw [List.mem_singleton.1 hc]; decide)
  rw [hread, ← hw] at C
  refine ⟨⟨by omega⟩, ?_⟩
  ((repeat apply Exists.intro); refine And.intro (Need.mk (C)) ?_)
  refine ⟨fun _ => ⟨fun _ => ⟨⟨by omega⟩, _, ⟨word_ev _ (hL 0 (by omega))⟩, true, ⟨same_ev _ ⟨?_, ?_, ?_, ?_, ?_, ?_⟩⟩, ?_⟩, fun q => by simp at q⟩, nofun⟩
  ·exact Nat.zero_le _
  ·exact Nat.zero_le _
  ·exact Nat.zero_le _
  ·show want.length ≤ 1000000
   omega
  ·nofun
  ·show ∀ x ∈ want, x.2.1.length ≤ 1000000
   rw [hw]
   intro x hx
   obtain ⟨q, hq, rfl⟩ := List.mem_map.1 hx
   have : rowOK q := by
    rcases List.mem_cons.1 hq with rfl | hq
    ·exact h0
    ·exact ho q hq
   have := this.2.2
   show q.2.2.length ≤ 1000000
   omega
  ·exact ⟨rfl, rfl⟩
end Go.Am.R
