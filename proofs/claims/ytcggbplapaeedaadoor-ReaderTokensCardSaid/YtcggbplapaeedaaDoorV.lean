/-
  A part of the proof of a law: see the text that states it.
-/
import Derived.Test.YtcggbplapaeedaaDoorU
import Derived.Test.YtcggbplapaeedaaDoorAm4
import Derived.Test.YtcggbplapaeedaaDoorG
import Derived.Test.YtcggbplapaeedaaDoorVcD
set_option linter.all false
namespace Go.Am.R
open Go Go.Am.Pr Go.Am.R.L
set_option maxRecDepth 100000
set_option maxHeartbeats 1000000
def W (n : Int) : List Int := (cut [(97 : Int), (98 : Int), (99 : Int), (100 : Int), (101 : Int), (102 : Int), (103 : Int), (104 : Int), (105 : Int), (106 : Int)] (Int.toNat (Int.tmod n (10 : Int))) (Int.toNat ((Int.tmod n (10 : Int)) + (1 : Int)))) ++ (cut [(120 : Int), (121 : Int), (122 : Int)] (Int.toNat (Int.tmod (Int.tdiv n (10 : Int)) (3 : Int))) (Int.toNat ((Int.tmod (Int.tdiv n (10 : Int)) (3 : Int)) + (1 : Int))))
theorem W_all : ∀ n : Nat, n < 256 → (W n).length = 2 ∧ nameK (W n) = true ∧ (∀ c ∈ W n, 97 ≤ c ∧ c ≤ 122) := by decide +kernel
theorem W_is (n : Int) (h : 0 ≤ n ∧ n < 256) : ∃ m : Nat, n = (m : Int) ∧ m < 256 := ⟨n.toNat, by omega, by omega⟩
theorem W_len (n : Int) (h : 0 ≤ n ∧ n < 256) : (W n).length = 2 := by
 obtain ⟨m, rfl, hm⟩ := W_is n h
 exact (W_all m hm).1
theorem word_ev (n : Int) (h : 0 ≤ n ∧ n < 256) : E 16 [.tv [] (.int .u8) n] [] (.tv [] .str (W n)) [] := by
 refine ev_of (vc16 n _ ?_)
 have hl := W_len n h
 unfold W at hl ⊢
 have h1 : 0 ≤ Int.tmod n 10 := Int.tmod_nonneg _ h.1
 have h2 : Int.tmod n 10 < 10 := Int.tmod_lt_of_pos _ (by decide)
 have h5 : 0 ≤ Int.tdiv n 10 := Int.tdiv_nonneg h.1 (by decide)
 have h6 : Int.tdiv n 10 ≤ n := Int.tdiv_le_self _ h.1
 have h3 : 0 ≤ Int.tmod (Int.tdiv n 10) 3 := Int.tmod_nonneg _ h5
 have h4 : Int.tmod (Int.tdiv n 10) 3 < 3 := Int.tmod_lt_of_pos _ (by decide)
 rw [List.length_append] at hl
 refine ⟨⟨by omega⟩, ⟨by decide⟩, ⟨fun q => by cases q.1⟩, ⟨by omega⟩, ⟨by decide⟩, ⟨fun q => by cases q.1⟩, ⟨by omega⟩, ⟨by omega⟩, ⟨by omega⟩, ⟨by decide⟩, ⟨by omega⟩, ⟨by decide⟩, ⟨fun q => by cases q.1⟩, ⟨by omega⟩, ⟨by decide⟩, ⟨by omega⟩, ⟨by decide⟩, ⟨fun q => by cases q.1⟩, ⟨by omega⟩, ⟨by omega⟩, ⟨by rw [hl]; decide⟩, rfl, rfl⟩
attribute [irreducible] W
end Go.Am.R
