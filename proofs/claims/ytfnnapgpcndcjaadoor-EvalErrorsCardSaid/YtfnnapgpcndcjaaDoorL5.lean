/-
  A part of the proof of a law: see the text that states it.
-/
import Derived.Test.YtfnnapgpcndcjaaDoorL3
set_option linter.all false
namespace Go.Am.V
open Go
set_option maxRecDepth 100000
def Kn (vals : List Val) (v : Val) : Prop := (1 ≤ v.1 ∧ v.1 ≤ 3) ∨ v ∈ vals
theorem kn1 {vals : List Val} {n : Int} : Kn vals (1, n, ()) := .inl (by simp)
theorem kn2 {vals : List Val} {n : Int} : Kn vals (2, n, ()) := .inl (by simp)
theorem kn3 {vals : List Val} {n : Int} : Kn vals (3, n, ()) := .inl (by simp)
theorem wrongL_mem : ∀ {l : List Val} {x : Val}, wrongL l = some x → x ∈ l
  | [], _, h => by cases h
  | y :: l, x, h => by
    rw [wrongL] at h
    split at h
    · cases h; exact List.mem_cons_self ..
    · exact List.mem_cons_of_mem _ (wrongL_mem h)
theorem wrongP_kn {vals l : List Val} (h : ∀ v ∈ l, Kn vals v) (h2 : (wrongP l).2 = true) : Kn vals (wrongP l).1 := by
  unfold wrongP at *
  split
  · rename_i x hx; exact h x (wrongL_mem hx)
  · rename_i hx
    rw [hx] at h2
    simp only at h2
    split
    · exact kn3
    · rename_i hb; rw [if_neg hb] at h2; cases h2
theorem signK_kn {vals : List Val} (k a b : Int) : Kn vals (signK k a b) := by
  unfold signK divK modK
  (repeat' split) <;> first | exact kn1 | exact kn3
theorem opK_kn {vals : List Val} {nodes : List Int} {st : List Val} {x : Op2} (hf : fitsK x.1 x.2.1 vals.length = true) (h : ∀ v ∈ st, Kn vals v) : ∀ v ∈ opK vals nodes st x, Kn vals v := by
  have hi := (fits_iff _ _ _).1 hf
  intro v hv
  unfold opK at hv
  split at hv
  · rcases List.mem_append.1 hv with hv | hv
    · exact h v hv
    · rw [List.mem_singleton.1 hv]; exact kn1
  · split at hv
    · rename_i h2
      rcases List.mem_append.1 hv with hv | hv
      · exact h v hv
      · rw [List.mem_singleton.1 hv]
        have := hi.2.2.2.2 (.inl h2)
        exact .inr (getD_mem' _ (by omega))
    · split at hv
      · rcases List.mem_append.1 hv with hv | hv
        · exact h v hv
        · rw [List.mem_singleton.1 hv]; exact kn2
      · split at hv
        · simp only at hv
          rcases List.mem_or_eq_of_mem_set hv with hv | hv
          · exact h v hv
          · rw [hv]
            split
            · rename_i hp; exact wrongP_kn (fun w hw => h w (List.mem_of_mem_drop hw)) hp
            · exact kn1
        · simp only at hv
          rcases List.mem_append.1 hv with hv | hv
          · exact h v (List.mem_of_mem_take hv)
          · rw [List.mem_singleton.1 hv]
            split
            · rename_i hp; exact wrongP_kn (fun w hw => h w (List.mem_of_mem_drop hw)) hp
            · exact signK_kn _ _ _
theorem opK_len {vals : List Val} {nodes : List Int} {st : List Val} {x : Op2} (hf : fitsK x.1 x.2.1 vals.length = true) (ht : takesK x.1 ≤ (st.length : Int)) : ((opK vals nodes st x).length : Int) = st.length + (1 - takesK x.1) := by
  have hi := (fits_iff _ _ _).1 hf
  have t0 : x.1 ≤ 3 → takesK x.1 = 0 := fun h => by unfold takesK; rw [if_pos (by omega)]
  have t1 : x.1 = 4 → takesK x.1 = 1 := fun h => by rw [h]; rfl
  have t2 : 5 ≤ x.1 → takesK x.1 = 2 := fun h => by unfold takesK; rw [if_neg (by omega), if_neg (by omega), if_pos (by omega)]
  generalize takesK x.1 = t at *
  unfold opK
  split
  · rename_i h; rw [t0 (by omega)]; simp
  · split
    · rename_i h; rw [t0 (by omega)]; simp
    · split
      · rename_i h; rw [t0 (by omega)]; simp
      · split
        · rename_i h; rw [t1 h]; simp
        · have := t2 (by omega)
          simp only [List.length_append, List.length_take, List.length_cons, List.length_nil]; omega
theorem fold_kn (vals : List Val) (nodes : List Int) : ∀ (l : List Op2) (i : Nat) (st : List Val), checkGo vals.length l (st.length : Int) i = (0, 0) → (∀ v ∈ st, Kn vals v) → (∀ v ∈ l.foldl (opK vals nodes) st, Kn vals v) ∧ ((l.foldl (opK vals nodes) st).length = 1 ∨ (l = [] ∧ i = 0))
  | [], i, st, hc, h => by
    refine ⟨h, ?_⟩
    rw [checkGo] at hc
    by_cases hq : (i : Int) = 0 ∨ (st.length : Int) = 1
    · rcases hq with hq | hq
      · exact .inr ⟨rfl, by omega⟩
      · exact .inl (by rw [List.foldl_nil]; omega)
    · exfalso
      split at hc
      · rename_i hh; exact hq (by omega)
      · simp at hc
  | x :: l, i, st, hc, h => by
    rw [checkGo] at hc
    by_cases hx : fitsK x.1 x.2.1 vals.length = false ∨ (st.length : Int) < takesK x.1
    · rw [if_pos hx] at hc; simp at hc
    · rw [if_neg hx] at hc
      have hf : fitsK x.1 x.2.1 vals.length = true := by cases hf : fitsK x.1 x.2.1 vals.length <;> simp_all
      have hl := opK_len (nodes := nodes) (st := st) hf (by omega)
      rw [← hl] at hc
      obtain ⟨h1, h2⟩ := fold_kn vals nodes l (i + 1) _ hc (opK_kn hf h)
      refine ⟨h1, .inl ?_⟩
      rcases h2 with h2 | ⟨_, h2⟩
      · exact h2
      · omega
theorem run_kn {l : List Op2} {vals : List Val} {nodes : List Int} (h1 : (check l vals.length).2 = 0) (h2 : l.length ≠ 0) (h3 : vals.length = nodes.length) : Kn vals (runK l vals nodes) := by
  unfold runK
  rw [if_neg (by omega)]
  have hck : check l vals.length = (0, 0) := by
    rcases checkGo_bd vals.length l 0 0 with hbd | ⟨j, _, _, hbd⟩
    · exact hbd
    · unfold check at h1; rw [hbd] at h1; simp at h1
  obtain ⟨g1, g2⟩ := fold_kn vals nodes l 0 [] hck (by simp)
  rcases g2 with g2 | ⟨g2, _⟩
  · exact g1 _ (getD_mem' V0 (by omega))
  · rw [g2] at h2; simp at h2
theorem ops (l : List Op2) (vals : List Val) (nodes : List Int) : E 5 [.tv [] (.slice tOp) l, .tv [] (.slice tV) vals, .tv [] (.slice (.int .i64)) nodes] [] (.tv [] .bool true) [] := by
  refine ev_of (vc5 l vals nodes _ ⟨_, ⟨awake_ev⟩, fun _ => ⟨rfl, rfl⟩, fun h => ⟨fun _ => ⟨rfl, rfl⟩, fun h2 => ⟨fun _ => ⟨rfl, rfl⟩, fun h3 => ?_⟩⟩⟩)
  (simp only [decide_eq_true_eq, decide_eq_false_iff_not, Bool.not_eq_true', Bool.not_eq_false'] at h); (simp only [decide_eq_true_eq, decide_eq_false_iff_not, Bool.not_eq_true', Bool.not_eq_false'] at h2); (simp only [decide_eq_true_eq, decide_eq_false_iff_not, Bool.not_eq_true', Bool.not_eq_false'] at h3)
  have hr := run_ev l vals nodes (by omega) (by omega)
  have hk := fun a b c => run_kn (l := l) (vals := vals) (nodes := nodes) a b c
  have hb : ((check l vals.length).2 ≠ 0 ∨ l.length = 0 ∨ vals.length ≠ nodes.length) → runK l vals nodes = (3, 31, ()) := fun h => by unfold runK; rw [if_pos h]
  generalize runK l vals nodes = y at hr hk hb
  obtain ⟨y1, y2, ⟨⟩⟩ := y
  have bad : ((check l vals.length).2 ≠ 0 ∨ l.length = 0 ∨ vals.length ≠ nodes.length) → AV.tv [] .bool (decide (y1 = (3 : Int)) && (decide (y2 = (31 : Int)) && true)) = AV.tv [] .bool true := fun h => by
    have := hb h
    simp only [Prod.mk.injEq] at this
    rw [this.1, this.2.1]; rfl
  refine ⟨_, _, ⟨hr⟩, _, _, ⟨rcheck_ev l vals.length (by omega)⟩, fun g => ⟨fun _ => ?_, fun h => by cases h⟩, fun g => ⟨fun g2 => ⟨fun _ => ?_, fun h => by cases h⟩, fun g2 => ⟨fun g3 => ⟨fun _ => ?_, fun h => by cases h⟩, fun g3 => ?_⟩⟩⟩
  · (simp only [decide_eq_true_eq, decide_eq_false_iff_not, Bool.not_eq_true', Bool.not_eq_false'] at g); exact ⟨bad (.inl g), rfl⟩
  · (simp only [decide_eq_true_eq, decide_eq_false_iff_not, Bool.not_eq_true', Bool.not_eq_false'] at g2); exact ⟨bad (.inr (.inl (by omega))), rfl⟩
  · (simp only [decide_eq_true_eq, decide_eq_false_iff_not, Bool.not_eq_true', Bool.not_eq_false'] at g3); exact ⟨bad (.inr (.inr (by omega))), rfl⟩
  (simp only [decide_eq_true_eq, decide_eq_false_iff_not, Bool.not_eq_true', Bool.not_eq_false'] at g); (simp only [decide_eq_true_eq, decide_eq_false_iff_not, Bool.not_eq_true', Bool.not_eq_false'] at g2); (simp only [decide_eq_true_eq, decide_eq_false_iff_not, Bool.not_eq_true', Bool.not_eq_false'] at g3)
  have hK := hk (by omega) (by omega) (by omega)
  have step : ∀ (m : Nat) (b : Bool), m < vals.length → b = false → (b = true ∨ (y1, y2, ()) ∈ vals.drop m) → ((decide (y1 = (vals.getD m V0).1) && (decide (y2 = (vals.getD m V0).2.1) && true)) = true ∨ (y1, y2, ()) ∈ vals.drop (m + 1)) := by
    intro m b hm hb hor
    rcases hor with hor | hor
    · rw [hb] at hor; cases hor
    · rw [drop_cons V0 hm] at hor
      rcases List.mem_cons.1 hor with hor | hor
      · left; rw [← hor]; simp
      · exact .inr hor
  refine ⟨fun h7 => ?_, fun h7 => ?_⟩
  · (simp only [decide_eq_true_eq, decide_eq_false_iff_not, Bool.not_eq_true', Bool.not_eq_false'] at h7)
    refine ⟨fun b i => ∃ m : Nat, i = m ∧ m ≤ vals.length ∧ (b = true ∨ (y1, y2, ()) ∈ vals.drop m), fun _ i => (vals.length - i).toNat, ⟨0, rfl, by omega, ?_⟩, ?_⟩
    · rcases hK with hK | hK
      · left; exact decide_eq_true hK.2
      · right; exact hK
    rintro b _ ⟨m, rfl, hm, hor⟩
    refine ⟨fun h => ?_, fun h => ?_⟩
    · (simp only [decide_eq_true_eq, decide_eq_false_iff_not, Bool.not_eq_true', Bool.not_eq_false'] at h)
      have hm' : m < vals.length := by omega
      refine ⟨fun hbt => ⟨⟨by omega⟩, ⟨by trivial⟩, ⟨m + 1, by omega, by omega, .inl rfl⟩, ⟨by ((try dsimp only); omega)⟩⟩, fun hbf => ⟨⟨by omega⟩, ⟨by omega⟩, ⟨by trivial⟩, ⟨m + 1, by omega, by omega, ?_⟩, ⟨by ((try dsimp only); omega)⟩⟩⟩
      rw [Int.toNat_natCast]
      exact step m b hm' hbf hor
    · (simp only [decide_eq_true_eq, decide_eq_false_iff_not, Bool.not_eq_true', Bool.not_eq_false'] at h)
      refine ⟨fun _ => ?_, fun h => by cases h⟩
      have : m = vals.length := by omega
      subst this
      rw [List.drop_length] at hor
      rcases hor with hor | hor
      · rw [hor]; exact ⟨rfl, rfl⟩
      · cases hor
  · (simp only [decide_eq_true_eq, decide_eq_false_iff_not, Bool.not_eq_true', Bool.not_eq_false'] at h7)
    refine ⟨fun b i => ∃ m : Nat, i = m ∧ m ≤ vals.length ∧ (b = true ∨ (y1, y2, ()) ∈ vals.drop m), fun _ i => (vals.length - i).toNat, ⟨0, rfl, by omega, ?_⟩, ?_⟩
    · rcases hK with hK | hK
      · exfalso; simp only at hK; omega
      · right; exact hK
    rintro b _ ⟨m, rfl, hm, hor⟩
    refine ⟨fun h => ?_, fun h => ?_⟩
    · (simp only [decide_eq_true_eq, decide_eq_false_iff_not, Bool.not_eq_true', Bool.not_eq_false'] at h)
      have hm' : m < vals.length := by omega
      refine ⟨fun hbt => ⟨⟨by omega⟩, ⟨by trivial⟩, ⟨m + 1, by omega, by omega, .inl rfl⟩, ⟨by ((try dsimp only); omega)⟩⟩, fun hbf => ⟨⟨by omega⟩, ⟨by omega⟩, ⟨by trivial⟩, ⟨m + 1, by omega, by omega, ?_⟩, ⟨by ((try dsimp only); omega)⟩⟩⟩
      rw [Int.toNat_natCast]
      exact step m b hm' hbf hor
    · (simp only [decide_eq_true_eq, decide_eq_false_iff_not, Bool.not_eq_true', Bool.not_eq_false'] at h)
      refine ⟨fun _ => ?_, fun h => by cases h⟩
      have : m = vals.length := by omega
      subst this
      rw [List.drop_length] at hor
      rcases hor with hor | hor
      · rw [hor]; exact ⟨rfl, rfl⟩
      · cases hor
/-! Errors. -/
theorem run2 (k : Int) (hk : 5 ≤ k ∧ k ≤ 9) (a b : Val) : runK [(2, 1, ()), (2, 2, ()), (k, 0, ())] [a, b] [0, 1] = twoK k a b := by
  have hc : check [(2, 1, ()), (2, 2, ()), (k, 0, ())] 2 = (0, 0) := by
    have : k = 5 ∨ k = 6 ∨ k = 7 ∨ k = 8 ∨ k = 9 := by omega
    rcases this with rfl | rfl | rfl | rfl | rfl <;> decide +kernel
  unfold runK
  have hl : (([a, b] : List Val).length : Int) = 2 := rfl
  rw [hl, hc, if_neg (by simp)]
  simp only [List.foldl_cons, List.foldl_nil]
  have e1 : opK [a, b] [0, 1] [] (2, 1, ()) = [a] := rfl
  have e2 : opK [a, b] [0, 1] [a] (2, 2, ()) = [] ++ [a, b] := rfl
  rw [e1, e2, op_two _ _ _ _ _ _ _ hk.1]
  rfl
theorem run1 (a : Val) : runK [(2, 1, ()), (4, 0, ())] [a] [0] = neg1 a := by
  have hc : check [(2, 1, ()), (4, 0, ())] 1 = (0, 0) := by decide +kernel
  unfold runK
  have hl : (([a] : List Val).length : Int) = 1 := rfl
  rw [hl, hc, if_neg (by simp)]
  simp only [List.foldl_cons, List.foldl_nil]
  have e1 : opK [a] [0] [] (2, 1, ()) = [] ++ [a] := rfl
  rw [e1, op_neg]
  rfl
theorem errors (a b : Val) (k : Int) (hk : InR (.int .u8) k) : E 6 [.tv [] tV a, .tv [] tV b, .tv [] (.int .u8) k] [] (.tv [] .bool true) [] := by
  have hu : 0 ≤ k ∧ k < 256 := u8_wf hk
  obtain ⟨a0, a1, ⟨⟩⟩ := a
  obtain ⟨b0, b1, ⟨⟩⟩ := b
  have hm : 0 ≤ Int.tmod k 5 ∧ Int.tmod k 5 < 5 := ⟨Int.tmod_nonneg 5 hu.1, Int.tmod_lt_of_pos k (by omega)⟩
  have h1 := run_is [(2, 1, ()), (2, 2, ()), (5 + Int.tmod k 5, 0, ())] [(a0, a1, ()), (b0, b1, ())] [0, 1] _ (run2 (5 + Int.tmod k 5) (by omega) _ _) (by simp) (by simp)
  have h2 := run_is [(2, 1, ()), (4, 0, ())] [(a0, a1, ())] [0] _ (run1 _) (by simp) (by simp)
  refine ev_of (vc6 a0 a1 b0 b1 k _ ⟨_, ⟨awake_ev⟩, ⟨by omega⟩, ⟨by omega⟩, ⟨by omega⟩, ⟨by omega⟩, ?_⟩)
  have hu8 : ¬ (IntKind.u8 = IntKind.u8 ∧ ¬ (0 ≤ k ∧ k < 256 ∧ (0 : Int) < 5)) := by omega
  generalize Int.tmod k 5 = m at *
  have hz : IntKind.wrap .i64 (w64 (0 - a1) + a1) = 0 := by
    have := w64_mod (0 - a1)
    have e : w64 (w64 (0 - a1) + a1) = w64 0 := w64_of (by omega)
    exact e
  generalize hw : twoK (5 + m) (a0, a1, ()) (b0, b1, ()) = v1 at h1
  generalize hn : neg1 (a0, a1, ()) = v2 at h2
  obtain ⟨p1, p2, ⟨⟩⟩ := v1
  obtain ⟨q1, q2, ⟨⟩⟩ := v2
  unfold twoK at hw
  unfold neg1 at hn
  simp only at hw hn
  have T : ∀ {c : Bool}, c = true → AV.tv [] .bool c = AV.tv [] .bool true := fun h => by rw [h]
  refine ⟨_, _, ⟨h1⟩, _, _, ⟨h2⟩, fun g1 => ⟨fun _ => ⟨fun _ => ?_, fun g => ?_⟩, fun g => by cases g⟩, fun g1 => ⟨fun g2 => ⟨fun _ => ?_, fun g => by cases g⟩, fun g2 => ⟨fun g3 => ⟨fun _ => ⟨fun _ => ?_, fun g => ?_⟩, fun g => by cases g⟩, fun g3 => ⟨fun g4 => ⟨fun _ => ⟨fun _ => ?_, fun g => ?_⟩, fun g => by cases g⟩, fun g4 => ?_⟩⟩⟩⟩
  · (simp only [decide_eq_true_eq, decide_eq_false_iff_not, Bool.not_eq_true', Bool.not_eq_false'] at g1); rw [if_pos g1] at hn; cases hn; exact ⟨T (by simp), rfl⟩
  · (simp only [decide_eq_true_eq, decide_eq_false_iff_not, Bool.not_eq_true', Bool.not_eq_false'] at g1); rw [if_pos g1] at hw; cases hw; simp at g
  · (simp only [decide_eq_true_eq, decide_eq_false_iff_not, Bool.not_eq_true', Bool.not_eq_false'] at g1); (simp only [decide_eq_true_eq, decide_eq_false_iff_not, Bool.not_eq_true', Bool.not_eq_false'] at g2); rw [if_neg g1, if_pos g2] at hw; cases hw; exact ⟨T (by simp), rfl⟩
  · (simp only [decide_eq_true_eq, decide_eq_false_iff_not, Bool.not_eq_true', Bool.not_eq_false'] at g1); (simp only [decide_eq_true_eq, decide_eq_false_iff_not, Bool.not_eq_true', Bool.not_eq_false'] at g2); (simp only [decide_eq_true_eq, decide_eq_false_iff_not, Bool.not_eq_true', Bool.not_eq_false'] at g3); rw [if_neg g1, if_neg g2, if_pos g3] at hw; rw [if_neg g1, if_pos g3] at hn; cases hw; cases hn; exact ⟨T (by simp), rfl⟩
  · (simp only [decide_eq_true_eq, decide_eq_false_iff_not, Bool.not_eq_true', Bool.not_eq_false'] at g1); (simp only [decide_eq_true_eq, decide_eq_false_iff_not, Bool.not_eq_true', Bool.not_eq_false'] at g2); (simp only [decide_eq_true_eq, decide_eq_false_iff_not, Bool.not_eq_true', Bool.not_eq_false'] at g3); rw [if_neg g1, if_neg g2, if_pos g3] at hw; cases hw; simp at g
  · (simp only [decide_eq_true_eq, decide_eq_false_iff_not, Bool.not_eq_true', Bool.not_eq_false'] at g1); (simp only [decide_eq_true_eq, decide_eq_false_iff_not, Bool.not_eq_true', Bool.not_eq_false'] at g2); (simp only [decide_eq_true_eq, decide_eq_false_iff_not, Bool.not_eq_true', Bool.not_eq_false'] at g3); (simp only [decide_eq_true_eq, decide_eq_false_iff_not, Bool.not_eq_true', Bool.not_eq_false'] at g4); rw [if_neg g1, if_neg g3] at hn; cases hn; exact ⟨T (by simp), rfl⟩
  · (simp only [decide_eq_true_eq, decide_eq_false_iff_not, Bool.not_eq_true', Bool.not_eq_false'] at g1); (simp only [decide_eq_true_eq, decide_eq_false_iff_not, Bool.not_eq_true', Bool.not_eq_false'] at g2); (simp only [decide_eq_true_eq, decide_eq_false_iff_not, Bool.not_eq_true', Bool.not_eq_false'] at g3); (simp only [decide_eq_true_eq, decide_eq_false_iff_not, Bool.not_eq_true', Bool.not_eq_false'] at g4); rw [if_neg g1, if_neg g2, if_neg g3, if_pos g4] at hw; cases hw; simp at g
  (simp only [decide_eq_true_eq, decide_eq_false_iff_not, Bool.not_eq_true', Bool.not_eq_false'] at g1); (simp only [decide_eq_true_eq, decide_eq_false_iff_not, Bool.not_eq_true', Bool.not_eq_false'] at g2); (simp only [decide_eq_true_eq, decide_eq_false_iff_not, Bool.not_eq_true', Bool.not_eq_false'] at g3); (simp only [decide_eq_true_eq, decide_eq_false_iff_not, Bool.not_eq_true', Bool.not_eq_false'] at g4)
  rw [if_neg g1, if_neg g2, if_neg g3, if_neg g4] at hw
  rw [if_neg g1, if_neg g3] at hn
  cases hn
  have fin : p1 = 1 → ((true = true → (decide (p1 = (1 : Int)) = true → (decide ((1 : Int) = 1) = true → AV.tv [] .bool (decide (IntKind.wrap .i64 (w64 (0 - a1) + a1) = 0)) = AV.tv [] .bool true ∧ ([] : Heap) = []) ∧ (decide ((1 : Int) = 1) = false → AV.tv [] .bool false = AV.tv [] .bool true ∧ ([] : Heap) = [])) ∧ (decide (p1 = (1 : Int)) = false → AV.tv [] .bool false = AV.tv [] .bool true ∧ ([] : Heap) = [])) ∧ (true = false → AV.tv [] .bool false = AV.tv [] .bool true ∧ ([] : Heap) = [])) := fun e => by
    refine ⟨fun _ => ⟨fun _ => ⟨fun _ => ⟨T (decide_eq_true hz), rfl⟩, fun h => by simp at h⟩, fun h => by rw [e] at h; simp at h⟩, fun h => by cases h⟩
  refine ⟨fun g5 => ⟨⟨by omega⟩, ⟨hu8⟩, fun g6 => ⟨fun _ => ?_, fun g => by cases g⟩, fun g6 => fin ?_⟩, fun g5 => fin ?_⟩
  · (simp only [decide_eq_true_eq, decide_eq_false_iff_not, Bool.not_eq_true', Bool.not_eq_false'] at g5); (simp only [decide_eq_true_eq, decide_eq_false_iff_not, Bool.not_eq_true', Bool.not_eq_false'] at g6)
    unfold signK divK modK at hw
    rw [if_neg (by omega), if_neg (by omega), if_neg (by omega), if_pos g5, if_pos g5, ite_self] at hw
    cases hw; exact ⟨T (by simp), rfl⟩
  · (simp only [decide_eq_true_eq, decide_eq_false_iff_not, Bool.not_eq_true', Bool.not_eq_false'] at g5); (simp only [decide_eq_true_eq, decide_eq_false_iff_not, Bool.not_eq_true', Bool.not_eq_false'] at g6)
    unfold signK at hw
    have : m = 0 ∨ m = 1 ∨ m = 2 := by omega
    rcases this with rfl | rfl | rfl <;> (cases hw; rfl)
  · (simp only [decide_eq_true_eq, decide_eq_false_iff_not, Bool.not_eq_true', Bool.not_eq_false'] at g5)
    unfold signK divK modK at hw
    rw [if_neg g5, if_neg g5] at hw
    (repeat' split at hw) <;> (cases hw; rfl)
end Go.Am.V
