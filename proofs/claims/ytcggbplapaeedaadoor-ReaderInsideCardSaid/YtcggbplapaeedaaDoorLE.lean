/-
  A part of the proof of a law: see the text that states it.
-/
import Derived.Test.YtcggbplapaeedaaDoorLD
import Derived.Test.YtcggbplapaeedaaDoorVc1
set_option linter.all false
namespace Go.Am.R.L
open Go Go.Am.Pr
set_option maxRecDepth 100000
theorem out_ok {t : List Int} {i j : Int} {k : Nat} (h : j = i + k) : ((.tup [.tv [] .str t, .tv [] (.int .i64) j, .tv [] .ref none], []) : AV × Heap) = outT i (.ok (t, k)) := by subst h; rfl
theorem index_ev (l : List qT6) (x : List Int) (hl : l.length ≤ 1000000) : ∃ i : Int, E 100 [.tv [] (.slice .str) l, .tv [] .str x] [] (.tv [] (.int .i64) i) [] ∧ (0 ≤ i ↔ x ∈ l) := by
 have key : EvF PP orc 100 [.tv [] (.slice .str) l, .tv [] .str x] [] fun a h => ∃ i : Int, a = .tv [] (.int .i64) i ∧ h = [] ∧ (0 ≤ i ↔ x ∈ l) := by
  refine vc100 l x _ ?_
  refine ⟨fun i => ∃ n : Nat, i = n ∧ n ≤ l.length ∧ x ∉ l.take n, fun i => (l.length - i).toNat, ⟨0, rfl, by omega, by simp⟩, ?_⟩
  rintro i ⟨n, rfl, hn, ha⟩
  refine ⟨fun h => ?_, fun h => ?_⟩
  ·(simp only [decide_eq_true_eq, decide_eq_false_iff_not, Bool.not_eq_true', Bool.not_eq_false'] at h)
   have hn' : n < l.length := by omega
   rw [Int.toNat_natCast]
   refine ⟨⟨by omega⟩, fun hb => ⟨n, rfl, rfl, ⟨fun _ => ?_, fun _ => by omega⟩⟩, fun hb => ⟨⟨by omega⟩, ⟨n + 1, rfl, by omega, ?_⟩, ⟨by ((try dsimp only); omega)⟩⟩⟩
   ·(simp only [decide_eq_true_eq, decide_eq_false_iff_not, Bool.not_eq_true', Bool.not_eq_false'] at hb)
    rw [hb]; exact getD_mem' _ hn'
   ·(simp only [decide_eq_true_eq, decide_eq_false_iff_not, Bool.not_eq_true', Bool.not_eq_false'] at hb)
    rw [take_snoc ([] : List Int) hn']
    simp only [List.mem_append, List.mem_singleton, not_or]
    exact ⟨ha, hb⟩
  ·(simp only [decide_eq_true_eq, decide_eq_false_iff_not, Bool.not_eq_true', Bool.not_eq_false'] at h)
   rw [List.take_of_length_le (by omega)] at ha
   exact ⟨_, rfl, rfl, ⟨fun h => absurd h (by decide), fun h => absurd h ha⟩⟩
 obtain ⟨a, h, e, i, rfl, rfl, h2⟩ := key
 exact ⟨i, e, h2⟩
theorem contains_ev (l : List qT6) (x : List Int) (hl : l.length ≤ 1000000) : E 81 [.tv [] (.slice .str) l, .tv [] .str x] [] (.tv [] .bool (decide (x ∈ l))) [] := by
 obtain ⟨i, e, h⟩ := index_ev l x hl
 refine ev_of (vc81 l x _ ⟨i, ⟨e⟩, ?_, rfl⟩)
 exact tvB (decide_eq_decide.2 h)
def wordK (r : List Int) : Res :=
 let n := if r.tail.head? = some 37 then 1 else runK lowerK r.tail
 if r.tail.take n ∈ wordsL then .ok (r.tail.take n, 1 + n) else .error (10, 0)
theorem cut_take (s : List Int) (n k : Nat) : cut s n (n + k) = (s.drop n).take k := by
 unfold cut
 rw [List.drop_take]; congr 1; omega
theorem word_ev (s : List Int) (i : Int) (n : Nat) (e : i = n) (hn : n < s.length) (hl : s.length ≤ 1000000) :
  E 69 [.tv [] .str s, .tv [] (.int .i64) i] [] (outT n (wordK (s.drop n))).1 (outT n (wordK (s.drop n))).2 := by
 subst e
 have hc : ((n : Int) + 1) = ((n + 1 : Nat) : Int) := by omega
 have hw : wordsL.length ≤ 1000000 := by decide
 refine ev_out (vc69 s n _ ?_)
 have hrl := runK_le lowerK (s.drop (n + 1))
 simp only [List.length_drop] at hrl
 have fin : ∀ (m : Nat), (if (s.drop n).tail.head? = some 37 then 1 else runK lowerK (s.drop n).tail) = m → wordK (s.drop n) = if cut s (n + 1) (n + 1 + m) ∈ wordsL then .ok (cut s (n + 1) (n + 1 + m), 1 + m) else .error (10, 0) := by
  rintro m rfl
  unfold wordK
  simp only [List.tail_drop, cut_take]
 refine ⟨⟨by omega⟩, _, ⟨run2_ev s _ (n + 1) hc (by omega) hl⟩, ⟨by omega⟩, fun h => ?_, fun h => ?_⟩
 ·(simp only [decide_eq_true_eq, decide_eq_false_iff_not, Bool.not_eq_true', Bool.not_eq_false'] at h)
  have hn' : n + 1 < s.length := by omega
  have hh : (s.drop n).tail.head? = some (s.getD (n + 1) 0) := by
   rw [List.tail_drop, drop_cons (0 : Int) hn']; rfl
  have e1 : Int.toNat ((n : Int) + 1) = n + 1 := by omega
  have e2 : Int.toNat ((n : Int) + 1 + 1) = n + 1 + 1 := by omega
  rw [e1, e2]
  refine ⟨⟨by omega⟩, ⟨by omega⟩, fun h2 => ?_, fun h2 => ?_⟩
  ·(simp only [decide_eq_true_eq, decide_eq_false_iff_not, Bool.not_eq_true', Bool.not_eq_false'] at h2)
   have f := fin 1 (by rw [hh, h2, if_pos rfl])
   refine ⟨⟨by omega⟩, ⟨by omega⟩, ⟨by omega⟩, ⟨by omega⟩, _, ⟨contains_ev _ _ hw⟩, fun h3 => ?_, fun h3 => ⟨⟨by omega⟩, ⟨by omega⟩, ?_⟩⟩
   ·(simp only [decide_eq_true_eq, decide_eq_false_iff_not, Bool.not_eq_true', Bool.not_eq_false'] at h3)
    rw [if_neg h3] at f
    rw [f]; simp [outT]
   ·(simp only [decide_eq_true_eq, decide_eq_false_iff_not, Bool.not_eq_true', Bool.not_eq_false'] at h3)
    rw [if_pos h3] at f
    rw [f]; exact out_ok (by omega)
  ·(simp only [decide_eq_true_eq, decide_eq_false_iff_not, Bool.not_eq_true', Bool.not_eq_false'] at h2)
   have f := fin (runK lowerK (s.drop (n + 1))) (by rw [hh, if_neg (by simpa using h2), List.tail_drop])
   have e3 : Int.toNat ((n : Int) + 1 + (runK lowerK (s.drop (n + 1)) : Nat)) = n + 1 + runK lowerK (s.drop (n + 1)) := by omega
   rw [e3]
   refine ⟨⟨by omega⟩, ⟨by omega⟩, ⟨by omega⟩, ⟨by omega⟩, _, ⟨contains_ev _ _ hw⟩, fun h3 => ?_, fun h3 => ⟨⟨by omega⟩, ⟨by omega⟩, ?_⟩⟩
   ·(simp only [decide_eq_true_eq, decide_eq_false_iff_not, Bool.not_eq_true', Bool.not_eq_false'] at h3)
    rw [if_neg h3] at f
    rw [f]; simp [outT]
   ·(simp only [decide_eq_true_eq, decide_eq_false_iff_not, Bool.not_eq_true', Bool.not_eq_false'] at h3)
    rw [if_pos h3] at f
    rw [f]; exact out_ok (by omega)
 ·(simp only [decide_eq_true_eq, decide_eq_false_iff_not, Bool.not_eq_true', Bool.not_eq_false'] at h)
  have hz : s.drop (n + 1) = [] := List.drop_eq_nil_of_le (by omega)
  have f := fin (runK lowerK (s.drop (n + 1))) (by rw [List.tail_drop, hz]; rfl)
  have e1 : Int.toNat ((n : Int) + 1) = n + 1 := by omega
  have e3 : Int.toNat ((n : Int) + 1 + (runK lowerK (s.drop (n + 1)) : Nat)) = n + 1 + runK lowerK (s.drop (n + 1)) := by omega
  rw [e1, e3]
  refine ⟨⟨by omega⟩, ⟨by omega⟩, ⟨by omega⟩, ⟨by omega⟩, _, ⟨contains_ev _ _ hw⟩, fun h3 => ?_, fun h3 => ⟨⟨by omega⟩, ⟨by omega⟩, ?_⟩⟩
  ·(simp only [decide_eq_true_eq, decide_eq_false_iff_not, Bool.not_eq_true', Bool.not_eq_false'] at h3)
   rw [if_neg h3] at f
   rw [f]; simp [outT]
  ·(simp only [decide_eq_true_eq, decide_eq_false_iff_not, Bool.not_eq_true', Bool.not_eq_false'] at h3)
   rw [if_pos h3] at f
   rw [f]; exact out_ok (by omega)
end Go.Am.R.L
