/-
  A part of the proof of a law: see the text that states it.
-/
import Derived.Test.YtpbabncglokikaaDoorBase
import Derived.Test.YtpbabncglokikaaDoorVcP
set_option linter.all false
namespace Go.Am.L
open Go Go.Am.Pr
set_option maxRecDepth 100000
theorem cntB_snoc (c : Int) : ∀ (l : List Int) (a : Int), cntB (l ++ [a]) c = cntB l c + if a = c then 1 else 0
  | [], a => by simp only [List.nil_append, cntB]; split <;> rfl
  | b :: l, a => by
    simp only [List.cons_append, cntB, cntB_snoc c l a]
    split <;> split <;> omega
theorem posK_nl (a : List Int) : posK (a ++ [10]) = (1 + cntB a 10 + 1, 1, ()) := by
  unfold posK
  rw [cntB_snoc, lastB_snoc, if_pos rfl, if_pos rfl, List.length_append]
  have h1 : 1 + (cntB a 10 + 1) = 1 + cntB a 10 + 1 := by omega
  have h2 : ((a.length + [10].length : Nat) : Int) - (a.length : Int) = 1 := by simp only [List.length_cons, List.length_nil]; omega
  have h2 : ((a.length + [(10 : Int)].length : Nat) : Int) - (a.length : Int) = 1 := by simp only [List.length_cons, List.length_nil]; omega
  rw [h1, h2]
theorem posK_other (a : List Int) (c : Int) (h : c ≠ 10) : posK (a ++ [c]) = (1 + cntB a 10, (a.length : Int) - lastB a 10 + 1, ()) := by
  unfold posK
  rw [cntB_snoc, lastB_snoc, if_neg h, if_neg h, List.length_append]
  have h1 : 1 + (cntB a 10 + 0) = 1 + cntB a 10 := by omega
  have h2 : ((a.length + [c].length : Nat) : Int) - lastB a 10 = (a.length : Int) - lastB a 10 + 1 := by simp only [List.length_cons, List.length_nil]; omega
  rw [h1, h2]
theorem at18_ev (s : List Int) (i : Int) (hl : s.length ≤ 1000000) : E 18 [.tv [] .str s, .tv [] (.int .i64) i] [] (.tv [] W3 (posK (s.take (max 0 (min i s.length)).toNat))) [] := by
  refine ev_of (vc18 s i _ ?_)
  generalize hm : max 0 (min i (s.length : Int)) = m
  have hm0 : 0 ≤ m ∧ m ≤ s.length := by omega
  refine ⟨fun z a b => ∃ k : Nat, z = k ∧ (k : Int) ≤ m ∧ (a, b, ()) = posK (s.take k), fun z _ _ => (m - z).toNat, ⟨0, rfl, by omega, rfl⟩, ?_⟩
  rintro z a b ⟨k, rfl, hk, hv⟩
  have hb1 := cntB_bound 10 (s.take k)
  have hb2 := lastB_bound 10 (s.take k)
  have hlt : (s.take k).length ≤ s.length := by rw [List.length_take]; omega
  have ha : a = 1 + cntB (s.take k) 10 := congrArg Prod.fst hv
  have hbb : b = ((s.take k).length : Int) - lastB (s.take k) 10 := congrArg (fun q => q.2.1) hv
  refine ⟨fun h => ?_, fun h => ?_⟩
  · (simp only [decide_eq_true_eq, decide_eq_false_iff_not, Bool.not_eq_true', Bool.not_eq_false'] at h)
    have hk' : k < s.length := by omega
    have hts := take_snoc (0 : Int) hk'
    rw [Int.toNat_natCast]
    refine ⟨⟨by omega⟩, ⟨by omega⟩, fun h2 => ⟨⟨by omega⟩, ⟨by omega⟩, ⟨rfl⟩, ⟨k + 1, by omega, by omega, ?_⟩, ⟨by ((try dsimp only); omega)⟩⟩, fun h2 => ⟨⟨by omega⟩, ⟨rfl⟩, ⟨k + 1, by omega, by omega, ?_⟩, ⟨by ((try dsimp only); omega)⟩⟩⟩
    · (simp only [decide_eq_true_eq, decide_eq_false_iff_not, Bool.not_eq_true', Bool.not_eq_false'] at h2)
      rw [hts, h2, posK_nl, ha]
    · (simp only [decide_eq_true_eq, decide_eq_false_iff_not, Bool.not_eq_true', Bool.not_eq_false'] at h2)
      rw [hts, posK_other _ _ h2, ha, hbb]
  · (simp only [decide_eq_true_eq, decide_eq_false_iff_not, Bool.not_eq_true', Bool.not_eq_false'] at h)
    have : m.toNat = k := by omega
    rw [this, ← hv]; exact ⟨rfl, rfl⟩

/-! Names, as the document has them. -/
def letR (c : Int) : Bool := decide (c = 95) || (decide (97 ≤ c) && decide (c ≤ 122)) || (decide (65 ≤ c) && decide (c ≤ 90))
def digR (c : Int) : Bool := decide (48 ≤ c) && decide (c ≤ 57)
theorem let30_ev (c : Int) : E 30 [.tv [] (.int .u8) c] [] (.tv [] .bool (letR c)) [] := by
  refine ev_of (vc30 c _ ?_)
  (repeat' (first | (intro _) | (refine And.intro ?_ ?_) | (refine Need.mk ?_)))
  all_goals first | (with_reducible rfl) | ((first | refine tvI ?_ | refine tvB ?_ | refine tvS ?_ | refine tvX ?_ | refine tvE ?_); simp_all [letR]; done) | ((first | refine tvI ?_ | refine tvB ?_ | refine tvS ?_ | refine tvX ?_ | refine tvE ?_); simp_all [letR]; intros; omega)
theorem dig31_ev (c : Int) : E 31 [.tv [] (.int .u8) c] [] (.tv [] .bool (digR c)) [] := by
  refine ev_of (vc31 c _ ?_)
  (repeat' (first | (intro _) | (refine And.intro ?_ ?_) | (refine Need.mk ?_)))
  all_goals first | (with_reducible rfl) | ((first | refine tvI ?_ | refine tvB ?_ | refine tvS ?_ | refine tvX ?_ | refine tvE ?_); simp_all [digR]; done) | ((first | refine tvI ?_ | refine tvB ?_ | refine tvS ?_ | refine tvX ?_ | refine tvE ?_); simp_all [digR]; intros; omega)
theorem letR_fin : ∀ n : Fin 256, letterK ((n.val : Nat) : Int) = letR ((n.val : Nat) : Int) := by decide +kernel
theorem letR_eq {c : Int} (h : 0 ≤ c ∧ c < 256) : letterK c = letR c := by
  have := letR_fin ⟨c.toNat, by omega⟩
  simp only at this
  rwa [Int.toNat_of_nonneg h.1] at this
theorem partK_eq {c : Int} (h : 0 ≤ c ∧ c < 256) : partK c = (letR c || digR c) := by
  unfold partK digR; rw [letR_eq h]
def namF : Bool → List Int → Bool
  | _, [] => true
  | b, c :: r => (letR c || (!b && digR c)) && namF false r
theorem namF_run : ∀ r : List Int, (∀ c ∈ r, 0 ≤ c ∧ c < 256) → namF false r = decide (runK partK r = r.length)
  | [], _ => rfl
  | c :: r, h => by
    have ih := namF_run r fun x hx => h x (List.mem_cons_of_mem _ hx)
    have hle := runK_le partK r
    simp only [namF, runK, partK_eq (h c List.mem_cons_self), ih, List.length_cons, Bool.not_false, Bool.true_and]
    cases (letR c || digR c) with
    | true => simp
    | false => simp
theorem nameK_namF (s : List Int) (h : ∀ c ∈ s, 0 ≤ c ∧ c < 256) : nameK s = (!decide (s = []) && namF true s) := by
  cases s with
  | nil => rfl
  | cons c r =>
    have hr := namF_run r fun x hx => h x (List.mem_cons_of_mem _ hx)
    have hc := h c List.mem_cons_self
    simp only [nameK, namF, List.getD_cons_zero, runK, partK_eq hc, letR_eq hc, hr, List.length_cons]
    cases letR c <;> simp
theorem name19_ev (s : List Int) (hl : s.length ≤ 1000000) (hs : ∀ c ∈ s, 0 ≤ c ∧ c < 256) : E 19 [.tv [] .str s] [] (.tv [] .bool (nameK s)) [] := by
  refine ev_of (vc19 s _ ?_)
  rw [nameK_namF s hs]
  refine ⟨fun z => ∃ k : Nat, z = k ∧ k ≤ s.length ∧ namF (decide (k = 0)) (s.drop k) = namF true s, fun z => (s.length - z).toNat, ⟨0, rfl, by omega, by simp⟩, ?_⟩
  rintro z ⟨k, rfl, hk, hv⟩
  refine ⟨fun h => ?_, fun h => ?_⟩
  · (simp only [decide_eq_true_eq, decide_eq_false_iff_not, Bool.not_eq_true', Bool.not_eq_false'] at h)
    have hn : k < s.length := by omega
    have hne : s ≠ [] := by intro e; subst e; simp at hn
    rw [drop_cons (0 : Int) hn, namF] at hv
    rw [Int.toNat_natCast]
    have hd : (decide (k + 1 = 0)) = (false && true) := by simp
    have bad : (letR (s.getD k 0) || (!decide (k = 0) && digR (s.getD k 0))) = false → (AV.tv [] .bool false = AV.tv [] .bool (!decide (s = []) && namF true s)) := by
      intro hb; rw [hb] at hv; rw [← hv]; simp
    refine ⟨⟨by omega⟩, _, ⟨let30_ev _⟩, fun h1 => ⟨fun h2 => ?_, fun h2 => ⟨⟨by omega⟩, _, ⟨dig31_ev _⟩, fun h3 => ?_, fun h3 => ⟨⟨by omega⟩, ⟨k + 1, by omega, by omega, ?_⟩, ⟨by ((try dsimp only); omega)⟩⟩⟩⟩, fun h1 => ⟨⟨by omega⟩, ⟨k + 1, by omega, by omega, ?_⟩, ⟨by ((try dsimp only); omega)⟩⟩⟩
    all_goals simp only [Bool.not_eq_true', Bool.not_eq_false', decide_eq_true_eq, decide_eq_false_iff_not] at *
    · have : k = 0 := by omega
      exact ⟨bad (by rw [h1]; simp [this]), by trivial⟩
    · exact ⟨bad (by rw [h1, h3]; simp), by trivial⟩
    · have : k ≠ 0 := by omega
      rw [h1, h3] at hv
      rw [← hv]; simp [this]
    · rw [h1] at hv
      rw [← hv]; simp
  · (simp only [decide_eq_true_eq, decide_eq_false_iff_not, Bool.not_eq_true', Bool.not_eq_false'] at h)
    have : k = s.length := by omega
    subst this
    rw [List.drop_length] at hv
    refine ⟨tvB ?_, rfl⟩
    rw [← hv]; simp [namF]
theorem words21_ev : E 21 [] [] (.tv [[]] (.slice .str) wordsL) [] := ev_of (vc21 _ ⟨_, ⟨ev_clone [] rfl (by decide)⟩, rfl, rfl⟩)
theorem words22_ev : E 22 [] [] (.tv [[]] (.slice .str) wordsL) [] := ev_of (vc22 _ ⟨rfl, rfl⟩)
theorem texts_ev (a : List (List Int)) (ha : a.length ≤ 1000000) : E 20 [.tv [] (.slice .str) a, .tv [] (.slice .str) a] [] (.tv [] .bool true) [] := by
  refine ev_of (vc20 a a _ ?_)
  refine ⟨fun h => by simp at h, fun _ => ⟨fun z => ∃ k : Nat, z = k ∧ k ≤ a.length, fun z => (a.length - z).toNat, ⟨0, rfl, by omega⟩, ?_⟩⟩
  rintro z ⟨k, rfl, hk⟩
  refine ⟨fun h => ?_, fun h => ⟨rfl, rfl⟩⟩
  (simp only [decide_eq_true_eq, decide_eq_false_iff_not, Bool.not_eq_true', Bool.not_eq_false'] at h)
  exact ⟨⟨by omega⟩, ⟨by omega⟩, fun h2 => by simp at h2, fun _ => ⟨⟨by omega⟩, ⟨k + 1, by omega, by omega⟩, ⟨by ((try dsimp only); omega)⟩⟩⟩
theorem places (s : List Int) (i : Int) (hs : ∀ c ∈ s, 0 ≤ c ∧ c < 256) : E 9 [.tv [] .str s, .tv [] (.int .i64) i] [] (.tv [] .bool true) [] := by
  refine ev_of (vc9 s i _ ?_)
  refine ⟨_, ⟨awake_ev⟩, fun h => ⟨rfl, rfl⟩, fun h => ?_⟩
  (simp only [decide_eq_true_eq, decide_eq_false_iff_not, Bool.not_eq_true', Bool.not_eq_false'] at h)
  have hl : s.length ≤ 1000000 := by omega
  refine ⟨_, _, ⟨at_ev s i hl⟩, _, ⟨name_ev s hl⟩, fun _ => ⟨_, _, ⟨at18_ev s i hl⟩, fun _ => ⟨_, ⟨name19_ev s hl hs⟩, fun _ => ⟨_, ⟨words21_ev⟩, _, ⟨words22_ev⟩, _, ⟨texts_ev _ (by decide)⟩, rfl, rfl⟩, fun h2 => by simp at h2⟩, fun h2 => by simp at h2⟩, nofun⟩
end Go.Am.L
