/-
  A part of the proof of a law: see the text that states it.
-/
import Derived.Test.YtcggbplapaeedaaDoorLE
import Derived.Test.YtcggbplapaeedaaDoorVc1
set_option linter.all false
namespace Go.Am.R.L
open Go Go.Am.Pr
set_option maxRecDepth 100000
def memF : Nat → List Bool → List Int
 | _, [] => []
 | i, b :: l => if b then (i : Int) :: memF (i + 1) l else memF (i + 1) l
theorem members_ev (has : List Bool) (hl : has.length = 256) : E 88 [.tv [] (.arr 0 256 .bool) has] [] (.tv [] .str (memF 0 has)) [] := by
 refine ev_of (vc88 has _ ?_)
 have hb : (1000000 : Nat) ≤ bigN := by decide
 generalize bigN = big at hb ⊢
 refine ⟨fun out z => ∃ k : Nat, z = k ∧ out.length ≤ k ∧ k ≤ 256 ∧ out ++ memF k (has.drop k) = memF 0 has, fun _ z => (256 - z).toNat, ⟨0, rfl, by simp, by omega, by simp⟩, ?_⟩
 rintro out z ⟨k, rfl, ho, hk, hv⟩
 refine ⟨fun h => ?_, fun h => ?_⟩
 ·(simp only [decide_eq_true_eq, decide_eq_false_iff_not, Bool.not_eq_true', Bool.not_eq_false'] at h)
  have hk' : k < has.length := by omega
  rw [drop_cons false hk', memF] at hv
  rw [Int.toNat_natCast]
  refine ⟨⟨by omega⟩, fun hb => ⟨⟨by omega⟩, ⟨by simp only [List.length_cons, List.length_nil]; omega⟩, ⟨by omega⟩, ⟨rfl⟩, ⟨k + 1, by omega, by simp; omega, by omega, ?_⟩, ⟨by ((try dsimp only); omega)⟩⟩, fun hb => ⟨⟨by omega⟩, ⟨rfl⟩, ⟨k + 1, by omega, by omega, by omega, ?_⟩, ⟨by ((try dsimp only); omega)⟩⟩⟩
  ·rw [hb, if_pos rfl] at hv
   rw [← hv]; simp
  ·rw [hb, if_neg (by decide)] at hv
   exact hv
 ·(simp only [decide_eq_true_eq, decide_eq_false_iff_not, Bool.not_eq_true', Bool.not_eq_false'] at h)
  rw [List.drop_eq_nil_of_le (by omega)] at hv
  refine ⟨tvS ?_, rfl⟩
  rw [← hv]; simp [memF]
def oneS : List Int → Option (Int × Nat)
  | [] => none
  | c :: r => if c = 92 then (escS mayC r).map (·, 2) else some (c, 1)
def outO (i : Int) : Option (Int × Nat) → AV × Heap
 | none => (.tup [.tv [] (.int .u8) 0, .tv [] (.int .i64) (i + 2), .op (1, 0) []], [((1, 0), ⟨⟨W3, (10, (i, ()))⟩, []⟩)])
 | some (c, k) => (.tup [.tv [] (.int .u8) c, .tv [] (.int .i64) (i + k), .tv [] .ref none], [])
theorem one_ev (s : List Int) (i : Int) (n : Nat) (e : i = n) (hn : n < s.length) (hl : s.length ≤ 1000000) :
  E 89 [.tv [] .str s, .tv [] (.int .i64) i] [] (outO n (oneS (s.drop n))).1 (outO n (oneS (s.drop n))).2 := by
 subst e
 refine ev_out (vc89 s n _ ?_)
 rw [drop_cons (0 : Int) hn, oneS]
 simp only [Int.toNat_natCast]
 refine ⟨⟨by omega⟩, fun h => ⟨⟨by omega⟩, ⟨by omega⟩, ?_⟩, fun h => ?_⟩
 ·simp only [ne_eq, decide_eq_true_eq] at h
  rw [if_neg h]; rfl
 ·simp only [ne_eq, decide_eq_false_iff_not, Decidable.not_not] at h
  rw [if_pos h]
  have he := escape_ev s n n rfl mayC hn hl
  cases hx : escS mayC (s.drop (n + 1)) with
  | none =>
   rw [hx] at he
   exact .inl ⟨_, _, _, ⟨he⟩, ⟨by omega⟩, rfl⟩
  | some y =>
   rw [hx] at he
   exact .inr ⟨_, ⟨he⟩, ⟨by omega⟩, rfl⟩
theorem escF_byte : ∀ {l : List qT6} {d y : Int}, (∀ e ∈ l, 0 ≤ e.getD 1 0 ∧ e.getD 1 0 < 256) → escF l d = some y → 0 ≤ y ∧ y < 256
 | e :: r, d, y, h, hx => by
  simp only [escF] at hx
  split at hx
  ·cases hx; exact h e (List.mem_cons_self ..)
  ·exact escF_byte (l := r) (fun b hb => h b (List.mem_cons_of_mem _ hb)) hx
theorem escS_byte {may r : List Int} {y : Int} (h : escS may r = some y) : (0 ≤ y ∧ y < 256) ∧ r ≠ [] := by
 cases r with
 | nil => cases h
 | cons d r =>
  simp only [escS, escK] at h
  split at h
  ·exact ⟨escF_byte (by decide) h, by simp⟩
  ·cases h
theorem oneS_byte {r : List Int} {y : Int} {m : Nat} (hr : ∀ c ∈ r, 0 ≤ c ∧ c < 256) (h : oneS r = some (y, m)) : (0 ≤ y ∧ y < 256) ∧ 1 ≤ m ∧ m ≤ 2 ∧ m ≤ r.length := by
 cases r with
 | nil => cases h
 | cons c r =>
  simp only [oneS] at h
  split at h
  ·rw [Option.map_eq_some_iff] at h
   obtain ⟨z, hz, e⟩ := h
   cases e
   obtain ⟨h1, h2⟩ := escS_byte hz
   have : 0 < r.length := List.length_pos_iff.2 h2
   exact ⟨h1, by omega, by omega, by simp; omega⟩
  ·cases h; exact ⟨hr _ (List.mem_cons_self ..), by omega, by omega, by simp⟩
def rangeSet (h : List Bool) (a : Nat) : Nat → List Bool
 | 0 => h
 | m + 1 => rangeSet (h.set a true) (a + 1) m
def clsL : Nat → Bool → Int → List Bool → Nat → List Int → Res
 | 0, _, _, _, _, _ => .error (11, 0)
 | f + 1, sm, last, has, k, r => match r with
  | [] => .error (11, 0)
  | c :: r' => if c = 10 then .error (11, 0) else if c = 93 then (if sm = false then .error (10, 0) else .ok (memF 0 has, k + 1))
   else if c = 45 then (if last < 0 then .error (10, k) else match r' with
    | [] => .error (11, 0)
    | d :: _ => if d = 10 then .error (11, 0) else if d = 93 then .error (10, k) else match oneS r' with
     | none => .error (10, k + 1)
     | some (y, m) => if y < last then .error (10, k) else clsL f sm (-1) (rangeSet has last.toNat (y + 1 - last).toNat) (k + 1 + m) (r'.drop m))
   else match oneS (c :: r') with
    | none => .error (10, k)
    | some (y, m) => clsL f true y (has.set y.toNat true) (k + m) ((c :: r').drop m)
def clsK (r : List Int) : Res := clsL r.length false (-1) (List.replicate 256 false) 1 r.tail
end Go.Am.R.L
