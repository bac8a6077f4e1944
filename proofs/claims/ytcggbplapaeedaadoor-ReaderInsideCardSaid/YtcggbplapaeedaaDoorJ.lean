/-
  A part of the proof of a law: see the text that states it.
-/
import Derived.Test.YtcggbplapaeedaaDoorI
set_option linter.all false
namespace Go.Am.R
open Go Go.Am.Pr Go.Am.R.L
set_option maxRecDepth 100000
theorem insides (s : List Int) (hs : ∀ c ∈ s, 0 ≤ c ∧ c < 256) : E 3 [.tv [] .str s] [] (bv true) [] := by
  refine ev_of (vc3 s _ ⟨true, ⟨awake_ev⟩, fun h => ⟨rfl, rfl⟩, fun h => ?_⟩)
  (simp only [decide_eq_true_eq, decide_eq_false_iff_not, Bool.not_eq_true', Bool.not_eq_false'] at h)
  have hlen : s.length ≤ 400 := by omega
  have C := readR s (by omega) hs
  rcases readK_ok s (by omega) with ⟨c, p, hr, hc, k0, hk0, rfl⟩ | ⟨g, hr, j, hrl⟩
  · rw [hr] at C
    ((repeat apply Exists.intro); refine And.intro (Need.mk (C)) ?_)
    refine ⟨fun h1 => ?_, fun h1 => by (simp only [decide_eq_true_eq, decide_eq_false_iff_not, Bool.not_eq_true', Bool.not_eq_false'] at h1); exact (h1 hc).elim⟩
    refine ⟨fun b z => ∃ i : Nat, z = (i : Int) ∧ i ≤ s.length + 1 ∧ (k0 < i → b = true), fun _ z => s.length + 1 - z.toNat, ⟨0, rfl, Nat.zero_le _, fun q => absurd q (Nat.not_lt_zero _)⟩, ?_⟩
    rintro b z ⟨i, rfl, hi, hb⟩
    refine ⟨fun h2 => ⟨fun h3 => ?_, fun h3 => ?_⟩, fun h2 => ⟨fun _ => ⟨fun h3 => ?_, fun h3 => ?_⟩, nofun⟩⟩
    · (simp only [decide_eq_true_eq, decide_eq_false_iff_not, Bool.not_eq_true', Bool.not_eq_false'] at h2)
      exact ⟨⟨by omega⟩, ⟨rfl, rfl⟩, ⟨i + 1, rfl, by omega, fun _ => rfl⟩, ⟨by simp only [Int.toNat_natCast]; omega⟩⟩
    · (simp only [decide_eq_true_eq, decide_eq_false_iff_not, Bool.not_eq_true', Bool.not_eq_false'] at h2)
      ((repeat apply Exists.intro); refine And.intro (Need.mk (at18_ev s i (by omega))) ?_)
      refine ⟨⟨by omega⟩, ⟨rfl, rfl⟩, ⟨i + 1, rfl, by omega, fun q => ?_⟩, ⟨by simp only [Int.toNat_natCast]; omega⟩⟩
      have e : k0 = i := by
        apply Classical.byContradiction; intro hne
        have := hb (by omega)
        rw [h3] at this; cases this
      subst e
      have e2 : (max 0 (min (k0 : Int) (s.length : Int))).toNat = k0 := by omega
      rw [e2]
      show (decide ((posK (s.take k0)).1 = (posK (s.take k0)).1) && (decide ((posK (s.take k0)).2.1 = (posK (s.take k0)).2.1) && true)) = true
      rw [decide_eq_true rfl, decide_eq_true rfl]; rfl
    · ((repeat apply Exists.intro); refine And.intro (Need.mk (zero_ev)) ?_)
      exact ⟨rfl, rfl⟩
    · (simp only [decide_eq_true_eq, decide_eq_false_iff_not, Bool.not_eq_true', Bool.not_eq_false'] at h2)
      have := hb (by omega)
      rw [h3] at this; cases this
  · have hst := start_ne j hrl
    have hg : grOf g = (g.tk, (g.sk, (g.lv, ((grOf g).2.2.2.1, (g.rl, ()))))) := by unfold grOf; split <;> rfl
    generalize (grOf g).2.2.2.1 = st at hg hst
    rw [hr, hg] at C
    have l1 := j.tkN
    have l2 := j.skN
    have l3 := j.lvN
    have l4 := j.rlN
    have l5 := List.length_pos_iff.2 hrl
    have hnd := j.tkD
    have hla := j.lvA
    have hld := j.lvD
    have hls := j.lvS
    generalize g.tk = tk at *
    generalize g.sk = sk at *
    generalize g.lv = lv at *
    generalize g.rl = rl at *
    ((repeat apply Exists.intro); refine And.intro (Need.mk (C)) ?_)
    refine ⟨fun q => by (simp only [decide_eq_true_eq, decide_eq_false_iff_not, Bool.not_eq_true', Bool.not_eq_false'] at q); exact (q rfl).elim, fun _ => ⟨fun q => by (simp only [decide_eq_true_eq, decide_eq_false_iff_not, Bool.not_eq_true', Bool.not_eq_false'] at q); omega, fun _ => ⟨fun q => by (simp only [decide_eq_true_eq, decide_eq_false_iff_not, Bool.not_eq_true', Bool.not_eq_false'] at q); omega, fun _ => ⟨fun q => by (simp only [decide_eq_true_eq, decide_eq_false_iff_not, Bool.not_eq_true', Bool.not_eq_false'] at q); exact (hst q).elim, fun _ => ⟨fun q => by (simp only [decide_eq_true_eq, decide_eq_false_iff_not, Bool.not_eq_true', Bool.not_eq_false'] at q); omega, fun _ => ⟨fun q => by (simp only [decide_eq_true_eq, decide_eq_false_iff_not, Bool.not_eq_true', Bool.not_eq_false'] at q); omega, fun _ => ⟨fun q => by (simp only [decide_eq_true_eq, decide_eq_false_iff_not, Bool.not_eq_true', Bool.not_eq_false'] at q); omega, fun _ => ?_⟩⟩⟩⟩⟩⟩⟩
    refine ⟨fun z => ∃ i : Nat, z = (i : Int) ∧ i ≤ tk.length, fun z => tk.length - z.toNat, ⟨0, rfl, Nat.zero_le _⟩, ?_⟩
    rintro z ⟨i, rfl, hi⟩
    refine ⟨fun h1 => ?_, fun _ => ?_⟩
    · (simp only [decide_eq_true_eq, decide_eq_false_iff_not, Bool.not_eq_true', Bool.not_eq_false'] at h1)
      refine ⟨fun z => ∃ k : Nat, z = (k : Int) ∧ k ≤ i, fun z => i - z.toNat, ⟨0, rfl, Nat.zero_le _⟩, ?_⟩
      rintro z ⟨k, rfl, hk⟩
      refine ⟨fun h2 => ⟨⟨by omega⟩, ⟨?_⟩, fun q => ?_, fun _ => ⟨⟨by omega⟩, ⟨rfl, rfl⟩, ⟨k + 1, rfl, ?_⟩, ⟨?_⟩⟩⟩, fun h2 => ⟨⟨by omega⟩, ⟨rfl, rfl⟩, ⟨i + 1, rfl, by omega⟩, ⟨by simp only [Int.toNat_natCast]; omega⟩⟩⟩
      · (simp only [decide_eq_true_eq, decide_eq_false_iff_not, Bool.not_eq_true', Bool.not_eq_false'] at h2); omega
      · (simp only [decide_eq_true_eq, decide_eq_false_iff_not, Bool.not_eq_true', Bool.not_eq_false'] at h2); (simp only [decide_eq_true_eq, decide_eq_false_iff_not, Bool.not_eq_true', Bool.not_eq_false'] at q)
        simp only [Int.toNat_natCast] at q
        exact (nodup_ne (fun x : Tk => x.1) hnd ([], (([], ([], (false, ()))), ())) (i := i) (k := k) (by omega) (by omega) q).elim
      · (simp only [decide_eq_true_eq, decide_eq_false_iff_not, Bool.not_eq_true', Bool.not_eq_false'] at h2); omega
      · (simp only [decide_eq_true_eq, decide_eq_false_iff_not, Bool.not_eq_true', Bool.not_eq_false'] at h2); simp only [Int.toNat_natCast]; omega
    refine ⟨fun ns z => ∃ i : Nat, z = (i : Int) ∧ i ≤ lv.length ∧ ns = (lv.take i).flatMap (·.2.1) ∧ ns.length ≤ i * 5000, fun _ z => lv.length - z.toNat, ⟨0, rfl, Nat.zero_le _, rfl, Nat.zero_le _⟩, ?_⟩
    rintro ns z ⟨n, rfl, hn, hns, hnl⟩
    have hbig : bigN = 1000000000 ∨ 1000000 ≤ bigN := .inr (by decide)
    have hbig : 1000000 ≤ bigN := by decide
    refine ⟨fun h1 => ?_, fun h1 => ?_⟩
    · (simp only [decide_eq_true_eq, decide_eq_false_iff_not, Bool.not_eq_true', Bool.not_eq_false'] at h1)
      have hm := getD_mem' ((0 : Int), (([] : List qT6), ())) lv n (by omega)
      obtain ⟨a1, a2, a3⟩ := hla _ hm
      have a4 := hls _ hm
      have a5 : n * 5000 ≤ 50000 := by omega
      simp only [Int.toNat_natCast]
      refine ⟨⟨by omega⟩, ⟨by omega⟩, ⟨by omega⟩, fun q => ?_, fun _ => ⟨⟨by omega⟩, fun q => ?_, fun _ => ⟨⟨by omega⟩, fun q => ?_, fun _ => ⟨⟨by omega⟩, ⟨by first | exact ⟨rfl, rfl⟩ | trivial | simp⟩, ⟨n + 1, rfl, by omega, ?_, ?_⟩, ⟨by omega⟩⟩⟩⟩⟩
      · (simp only [decide_eq_true_eq, decide_eq_false_iff_not, Bool.not_eq_true', Bool.not_eq_false'] at q); exact (a1 (List.eq_nil_of_length_eq_zero (by omega))).elim
      · (simp only [decide_eq_true_eq, decide_eq_false_iff_not, Bool.not_eq_true', Bool.not_eq_false'] at q); omega
      · (simp only [decide_eq_true_eq, decide_eq_false_iff_not, Bool.not_eq_true', Bool.not_eq_false'] at q); omega
      · rw [hns, take_snoc ((0 : Int), (([] : List qT6), ())) (by omega), List.flatMap_append]; simp
      · rw [List.length_append]; omega
    · (simp only [decide_eq_true_eq, decide_eq_false_iff_not, Bool.not_eq_true', Bool.not_eq_false'] at h1)
      have e : n = lv.length := by omega
      rw [e, List.take_of_length_le (Nat.le_refl _)] at hns
      rw [← hns] at hld
      have a5 : n * 5000 ≤ 50000 := by omega
      refine ⟨fun z => ∃ i : Nat, z = (i : Int) ∧ i ≤ ns.length, fun z => ns.length - z.toNat, ⟨0, rfl, Nat.zero_le _⟩, ?_⟩
      rintro z ⟨i, rfl, hi⟩
      refine ⟨fun h1 => ?_, fun _ => ⟨rfl, rfl⟩⟩
      (simp only [decide_eq_true_eq, decide_eq_false_iff_not, Bool.not_eq_true', Bool.not_eq_false'] at h1)
      refine ⟨fun z => ∃ k : Nat, z = (k : Int) ∧ k ≤ i, fun z => i - z.toNat, ⟨0, rfl, Nat.zero_le _⟩, ?_⟩
      rintro z ⟨k, rfl, hk⟩
      refine ⟨fun h2 => ⟨⟨by omega⟩, ⟨?_⟩, fun q => ?_, fun _ => ⟨⟨by omega⟩, ⟨rfl, rfl⟩, ⟨k + 1, rfl, ?_⟩, ⟨?_⟩⟩⟩, fun h2 => ⟨⟨by omega⟩, ⟨rfl, rfl⟩, ⟨i + 1, rfl, by omega⟩, ⟨by simp only [Int.toNat_natCast]; omega⟩⟩⟩
      · (simp only [decide_eq_true_eq, decide_eq_false_iff_not, Bool.not_eq_true', Bool.not_eq_false'] at h2); omega
      · (simp only [decide_eq_true_eq, decide_eq_false_iff_not, Bool.not_eq_true', Bool.not_eq_false'] at h2); (simp only [decide_eq_true_eq, decide_eq_false_iff_not, Bool.not_eq_true', Bool.not_eq_false'] at q)
        simp only [Int.toNat_natCast] at q
        exact (nodup_ne (fun x : List Int => x) (by rw [List.map_id']; exact hld) [] (i := i) (k := k) (by omega) (by omega) q).elim
      · (simp only [decide_eq_true_eq, decide_eq_false_iff_not, Bool.not_eq_true', Bool.not_eq_false'] at h2); omega
      · (simp only [decide_eq_true_eq, decide_eq_false_iff_not, Bool.not_eq_true', Bool.not_eq_false'] at h2); simp only [Int.toNat_natCast]; omega
end Go.Am.R
