/-
  A part of the proof of a law: see the text that states it.
-/
import Derived.Test.YtlndoebddndlmaaDoorD
import Derived.Test.YtlndoebddndlmaaDoorVc3
set_option linter.all false
namespace Go.Am.R
open Go
set_option maxRecDepth 100000
/-! Numbers as bytes. -/
def Byts (l : List Int) : Prop := ∀ z ∈ l, 0 ≤ z ∧ z < 256
theorem Byts.take {l : List Int} (h : Byts l) (n : Nat) : Byts (l.take n) := fun z hz => h z (List.mem_of_mem_take hz)
theorem Byts.drop {l : List Int} (h : Byts l) (n : Nat) : Byts (l.drop n) := fun z hz => h z (List.mem_of_mem_drop hz)
def numB (l : List Int) : Int := l.foldl (fun n c => n * 256 + c) 0
theorem numB_snoc (l : List Int) (c : Int) : numB (l ++ [c]) = numB l * 256 + c := by simp [numB]
theorem foldB_bd : ∀ (l : List Int) (a : Int), 0 ≤ a → Byts l → a * ((256 ^ l.length : Nat) : Int) ≤ l.foldl (fun n c => n * 256 + c) a ∧ l.foldl (fun n c => n * 256 + c) a < (a + 1) * ((256 ^ l.length : Nat) : Int)
  | [], a, _, _ => by simp; omega
  | c :: l, a, ha, h => by
    have hc := h c (List.mem_cons_self ..)
    obtain ⟨h1, h2⟩ := foldB_bd l (a * 256 + c) (by omega) fun z hz => h z (List.mem_cons_of_mem _ hz)
    have hP : (0 : Int) ≤ ((256 ^ l.length : Nat) : Int) := Int.natCast_nonneg _
    rw [List.foldl_cons, List.length_cons, Nat.pow_succ]
    generalize ((256 ^ l.length : Nat)) = P at *
    have e : ((P * 256 : Nat) : Int) = (P : Int) * 256 := by omega
    rw [e]
    have g1 : a * 256 * (P : Int) ≤ (a * 256 + c) * (P : Int) := Int.mul_le_mul_of_nonneg_right (by omega) hP
    have g2 : (a * 256 + c + 1) * (P : Int) ≤ ((a + 1) * 256) * (P : Int) := Int.mul_le_mul_of_nonneg_right (by omega) hP
    have g3 : a * ((P : Int) * 256) = a * 256 * (P : Int) := by rw [Int.mul_assoc, Int.mul_comm 256]
    have g4 : (a + 1) * ((P : Int) * 256) = (a + 1) * 256 * (P : Int) := by rw [Int.mul_assoc (a + 1), Int.mul_comm 256]
    rw [g3, g4]
    omega
theorem numB_bd (l : List Int) (h : Byts l) : 0 ≤ numB l ∧ numB l < ((256 ^ l.length : Nat) : Int) := by
  have := foldB_bd l 0 (by omega) h
  unfold numB
  omega
theorem pow256_le {n m : Nat} (h : n ≤ m) : ((256 ^ n : Nat) : Int) ≤ ((256 ^ m : Nat) : Int) := by
  have := Nat.pow_le_pow_right (n := 256) (by omega) h
  omega
theorem wrap64_id {n : Int} (h : 0 ≤ n ∧ n < 18446744073709551616) : IntKind.wrap .u64 n = n := by
  show n % 2 ^ 64 = n
  omega
theorem wrap8_id {n : Int} (h : 0 ≤ n ∧ n < 256) : IntKind.wrap .u8 n = n := by
  show n % 2 ^ 8 = n
  omega
theorem or_add {a c : Int} (ha : 0 ≤ a ∧ a < 72057594037927936) (hc : 0 ≤ c ∧ c < 256) : ((BitVec.toNat ((BitVec.ofInt 64 (IntKind.wrap .u64 (a * (256 : Int)))) ||| (BitVec.ofInt 64 (IntKind.wrap .u64 c))) : Nat) : Int) = a * 256 + c := by
  rw [wrap64_id (by omega), wrap64_id (by omega)]
  obtain ⟨n, rfl⟩ := Int.eq_ofNat_of_zero_le ha.1
  obtain ⟨m, rfl⟩ := Int.eq_ofNat_of_zero_le hc.1
  have e1 : BitVec.ofInt 64 ((n : Int) * 256) = BitVec.ofNat 64 (n * 256) := by
    rw [show ((n : Int) * 256) = ((n * 256 : Nat) : Int) by omega]; exact BitVec.ofInt_natCast ..
  rw [e1, BitVec.ofInt_natCast, BitVec.toNat_or, BitVec.toNat_ofNat, BitVec.toNat_ofNat, Nat.mod_eq_of_lt (by omega), Nat.mod_eq_of_lt (by omega)]
  have := Nat.shiftLeft_add_eq_or_of_lt (i := 8) (b := m) (by omega) n
  rw [Nat.shiftLeft_eq] at this
  rw [show n * 256 = n * 2 ^ 8 by omega, ← this]
  omega
theorem number_ev (b : List Int) (hb : Byts b) (hl : b.length ≤ 8) : E 35 [.tv [] (.slice (.int .u8)) b] [] (.tv [] (.int .u64) (numB b)) [] := by
  refine ev_of (vc35 b _ ?_)
  refine ⟨fun n i => ∃ m : Nat, i = m ∧ m ≤ b.length ∧ n = numB (b.take m), fun n i => (b.length - i).toNat, ⟨0, rfl, by omega, rfl⟩, ?_⟩
  rintro _ _ ⟨m, rfl, hm, rfl⟩
  refine ⟨fun h => ?_, fun h => ?_⟩
  · (simp only [decide_eq_true_eq, decide_eq_false_iff_not, Bool.not_eq_true', Bool.not_eq_false'] at h)
    have hm' : m < b.length := by omega
    have hx := hb _ (getD_memI 0 hm')
    have hs := take_snocI (0 : Int) hm'
    have hbd := numB_bd (b.take m) (hb.take m)
    have hp := pow256_le (n := (b.take m).length) (m := 7) (by rw [List.length_take]; omega)
    rw [show (((256 ^ 7 : Nat)) : Int) = 72057594037927936 by rfl] at hp
    generalize b.getD (Int.toNat (m : Int)) 0 = c at hx hs ⊢
    rw [or_add (by omega) hx, wrap64_id (by omega)]
    exact ⟨⟨by omega⟩, ⟨by omega⟩, ⟨by omega⟩, ⟨m + 1, rfl, by omega, by rw [hs, numB_snoc]⟩, ⟨by ((try dsimp only); omega)⟩⟩
  · (simp only [decide_eq_true_eq, decide_eq_false_iff_not, Bool.not_eq_true', Bool.not_eq_false'] at h)
    have : m = b.length := by omega
    subst this
    rw [List.take_length]
    exact ⟨rfl, rfl⟩

/-- Byte i of a number. -/
def byI (u : Int) (i : Nat) : Int := IntKind.wrap .u8 (Int.fdiv u ((2 : Int) ^ (min (Int.toNat ((8 : Int) * i)) 64)))
def gB (u : Int) (m : Nat) : List Int := (List.range 8).map fun j => if 8 - m ≤ j then byI u (7 - j) else 0
def b8 (u : Int) : List Int := [byI u 7, byI u 6, byI u 5, byI u 4, byI u 3, byI u 2, byI u 1, byI u 0]
theorem gB_len (u : Int) (m : Nat) : (gB u m).length = 8 := by simp [gB]
theorem gB_8 (u : Int) : gB u 8 = b8 u := rfl
theorem gB_set (u : Int) (m : Nat) (hm : m < 8) : List.set (gB u m) (0 + (Int.toNat ((7 : Int) - m))) (byI u m) = gB u (m + 1) := by
  match m, hm with
  | 0, _ => rfl
  | 1, _ => rfl
  | 2, _ => rfl
  | 3, _ => rfl
  | 4, _ => rfl
  | 5, _ => rfl
  | 6, _ => rfl
  | 7, _ => rfl
theorem bytes_ev (u : Int) : E 36 [.tv [] (.int .u64) u] [] (.tv [] (.sref (.int .u8)) (some ((1, 0), (8, (0, 8))))) [((1, 0), ⟨⟨.arr true (List.length (b8 u)) (.int .u8), b8 u⟩, []⟩)] := by
  refine ev_of (vc36 u _ ?_)
  refine ⟨⟨by omega⟩, fun i l => ∃ m : Nat, i = m ∧ m ≤ 8 ∧ l = gB u m, fun i l => (8 - i).toNat, ⟨rfl⟩, ⟨0, rfl, by omega, rfl⟩, ?_⟩
  rintro _ _ ⟨m, rfl, hm, rfl⟩
  refine ⟨fun h => ?_, fun h => ?_⟩
  · (simp only [decide_eq_true_eq, decide_eq_false_iff_not, Bool.not_eq_true', Bool.not_eq_false'] at h)
    have hm' : m < 8 := by omega
    have hs := gB_set u m hm'
    unfold byI at hs
    rw [hs]
    refine ⟨⟨by omega⟩, ⟨by omega⟩, ⟨by omega⟩, ⟨fun hh => by cases hh.1⟩, ⟨by omega⟩, ⟨gB_len u m⟩, ⟨by rw [gB_len]; omega⟩, ⟨by omega⟩, ⟨by rw [gB_len, gB_len]⟩, ⟨m + 1, rfl, by omega, rfl⟩, ⟨by ((try dsimp only); omega)⟩⟩
  · (simp only [decide_eq_true_eq, decide_eq_false_iff_not, Bool.not_eq_true', Bool.not_eq_false'] at h)
    have : m = 8 := by omega
    subst this
    rw [gB_8]
    exact ⟨rfl, rfl⟩

/-! Programs as bytes. -/
def enc1 (x : Op2) : List Int := IntKind.wrap .u8 (max (0 : Int) (min x.1 (255 : Int))) :: if hasK x.1 then b8 (IntKind.wrap .u64 x.2.1) else []
def encL (l : List Op2) : List Int := l.flatMap enc1
theorem enc1_len (x : Op2) : (enc1 x).length ≤ 9 := by unfold enc1; split <;> simp [b8]
theorem encL_len : ∀ l : List Op2, (encL l).length ≤ 9 * l.length
  | [] => by simp [encL]
  | x :: l => by
    have h1 := enc1_len x
    have h2 := encL_len l
    simp only [encL, List.flatMap_cons, List.length_append, List.length_cons] at h2 ⊢
    omega
theorem encL_snoc (l : List Op2) (x : Op2) : encL (l ++ [x]) = encL l ++ enc1 x := by simp [encL]
theorem encL_take (l : List Op2) (m : Nat) : (encL (l.take m)).length ≤ 9 * l.length := by
  have := encL_len (l.take m)
  rw [List.length_take] at this
  omega
theorem enc_ev (l : List Op2) (hl : l.length ≤ 1000) : E 25 [.tv [] (.slice tOp) l] [] (.tv [[]] (.slice (.int .u8)) (encL l)) [] := by
  refine ev_of (vc25 l _ ?_)
  refine ⟨fun z i => ∃ m : Nat, i = m ∧ m ≤ l.length ∧ z = encL (l.take m), fun z i => (l.length - i).toNat, ⟨0, rfl, by omega, rfl⟩, ?_⟩
  rintro _ _ ⟨m, rfl, hm, rfl⟩
  refine ⟨fun h => ?_, fun h => ?_⟩
  · (simp only [decide_eq_true_eq, decide_eq_false_iff_not, Bool.not_eq_true', Bool.not_eq_false'] at h)
    have hm' : m < l.length := by omega
    have hs := take_snocI ((0 : Int), (0 : Int), ()) hm'
    have hlen := encL_take l m
    generalize hx : l.getD (Int.toNat (m : Int)) ((0 : Int), (0 : Int), ()) = x at hs ⊢
    refine ⟨⟨by omega⟩, ⟨by unfold bigN; simp only [List.length_singleton]; omega⟩, _, ⟨has_ev _⟩, fun hk => ?_, fun hk => ?_⟩
    · refine ⟨_, _, _, ⟨bytes_ev _⟩, ⟨by simp [b8]⟩, ⟨by unfold bigN; simp [b8, cut]; omega⟩, ⟨by omega⟩, ⟨m + 1, rfl, by omega, ?_⟩, ⟨by ((try dsimp only); omega)⟩⟩
      rw [hs, encL_snoc, enc1, if_pos hk, List.append_assoc]
      rfl
    · refine ⟨⟨by omega⟩, ⟨m + 1, rfl, by omega, ?_⟩, ⟨by ((try dsimp only); omega)⟩⟩
      rw [hs, encL_snoc, enc1, if_neg (by simp [hk])]
  · (simp only [decide_eq_true_eq, decide_eq_false_iff_not, Bool.not_eq_true', Bool.not_eq_false'] at h)
    have : m = l.length := by omega
    subst this
    rw [List.take_length]
    exact ⟨rfl, rfl⟩
theorem b8_take (u : Int) (k : Nat) (hk : k < 8) : (b8 u).take (7 - k) ++ [byI u k] = (b8 u).take (8 - k) := by
  match k, hk with
  | 0, _ => rfl
  | 1, _ => rfl
  | 2, _ => rfl
  | 3, _ => rfl
  | 4, _ => rfl
  | 5, _ => rfl
  | 6, _ => rfl
  | 7, _ => rfl
theorem renc_ev (l : List Op2) (hl : l.length ≤ 1000) : E 26 [.tv [] (.slice tOp) l] [] (.tv [[]] (.slice (.int .u8)) (encL l)) [] := by
  refine ev_of (vc26 l _ ?_)
  refine ⟨fun z i => ∃ m : Nat, i = m ∧ m ≤ l.length ∧ z = encL (l.take m), fun z i => (l.length - i).toNat, ⟨0, rfl, by omega, rfl⟩, ?_⟩
  rintro _ _ ⟨m, rfl, hm, rfl⟩
  refine ⟨fun h => ?_, fun h => ?_⟩
  · (simp only [decide_eq_true_eq, decide_eq_false_iff_not, Bool.not_eq_true', Bool.not_eq_false'] at h)
    have hm' : m < l.length := by omega
    have hs := take_snocI ((0 : Int), (0 : Int), ()) hm'
    have hlen := encL_take l m
    generalize hx : l.getD (Int.toNat (m : Int)) ((0 : Int), (0 : Int), ()) = x at hs ⊢
    have no : hasK x.1 = false → ((encL (l.take m)) ++ [IntKind.wrap .u8 (max (0 : Int) (min x.1 (255 : Int)))]) = encL (l.take (m + 1)) := fun hk => by
      rw [hs, encL_snoc, enc1, if_neg (by simp [hk])]
    refine ⟨⟨by omega⟩, ⟨by unfold bigN; simp only [List.length_singleton]; omega⟩, ⟨by omega⟩, fun h1 => ⟨⟨by omega⟩, fun h3 => ?_, fun h3 => ?_⟩, fun h1 => ?_⟩
    · (simp only [decide_eq_true_eq, decide_eq_false_iff_not, Bool.not_eq_true', Bool.not_eq_false'] at h1)
      (simp only [decide_eq_true_eq, decide_eq_false_iff_not, Bool.not_eq_true', Bool.not_eq_false'] at h3)
      have hk : hasK x.1 = true := by simp [hasK]; omega
      refine ⟨fun z j => ∃ k : Nat, j = (k : Int) - 1 ∧ k ≤ 8 ∧ z = encL (l.take m) ++ [IntKind.wrap .u8 (max (0 : Int) (min x.1 (255 : Int)))] ++ (b8 (IntKind.wrap .u64 x.2.1)).take (8 - k), fun z j => (j + 1).toNat, ⟨8, rfl, by omega, by simp⟩, ?_⟩
      rintro _ _ ⟨k, rfl, hk8, rfl⟩
      refine ⟨fun h5 => ?_, fun h5 => ?_⟩
      · (simp only [decide_eq_true_eq, decide_eq_false_iff_not, Bool.not_eq_true', Bool.not_eq_false'] at h5)
        obtain ⟨k, rfl⟩ : ∃ k', k = k' + 1 := ⟨k - 1, by omega⟩
        have ek : ((k + 1 : Nat) : Int) - 1 = (k : Int) := by omega
        rw [ek]
        refine ⟨⟨by omega⟩, ⟨by omega⟩, ⟨by omega⟩, ⟨fun hh => by cases hh.1⟩, ⟨by unfold bigN; simp [b8]; omega⟩, ⟨by omega⟩, ⟨k, rfl, by omega, ?_⟩, ⟨by ((try dsimp only); omega)⟩⟩
        have := b8_take (IntKind.wrap .u64 x.2.1) k (by omega)
        rw [show 8 - (k + 1) = 7 - k by omega, List.append_assoc, ← this]
        rfl
      · (simp only [decide_eq_true_eq, decide_eq_false_iff_not, Bool.not_eq_true', Bool.not_eq_false'] at h5)
        have : k = 0 := by omega
        subst this
        refine ⟨⟨by omega⟩, ⟨m + 1, rfl, by omega, ?_⟩, ⟨by ((try dsimp only); omega)⟩⟩
        rw [hs, encL_snoc, enc1, if_pos hk, List.append_assoc]
        rfl
    · (simp only [decide_eq_true_eq, decide_eq_false_iff_not, Bool.not_eq_true', Bool.not_eq_false'] at h3)
      exact ⟨⟨by omega⟩, ⟨m + 1, rfl, by omega, no (by simp [hasK]; omega)⟩, ⟨by ((try dsimp only); omega)⟩⟩
    · (simp only [decide_eq_true_eq, decide_eq_false_iff_not, Bool.not_eq_true', Bool.not_eq_false'] at h1)
      exact ⟨⟨by omega⟩, ⟨m + 1, rfl, by omega, no (by simp [hasK]; omega)⟩, ⟨by ((try dsimp only); omega)⟩⟩
  · (simp only [decide_eq_true_eq, decide_eq_false_iff_not, Bool.not_eq_true', Bool.not_eq_false'] at h)
    have : m = l.length := by omega
    subst this
    rw [List.take_length]
    exact ⟨rfl, rfl⟩
end Go.Am.R
