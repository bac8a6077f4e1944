/-
  A part of the proof of a law: see the text that states it.
-/
import Derived.Test.YtpbabncglokikaaDoorN
import Derived.Test.YtpbabncglokikaaDoorVcC
set_option linter.all false
namespace Go.Am.L
open Go Go.Am.Pr
set_option maxRecDepth 100000
def AL : List Int := [(48 : Int), (49 : Int), (50 : Int), (51 : Int), (52 : Int), (53 : Int), (54 : Int), (55 : Int), (56 : Int), (57 : Int), (65 : Int), (66 : Int), (67 : Int), (68 : Int), (69 : Int), (70 : Int), (71 : Int), (72 : Int), (73 : Int), (74 : Int), (75 : Int), (76 : Int), (77 : Int), (78 : Int), (79 : Int), (80 : Int), (81 : Int), (82 : Int), (83 : Int), (84 : Int), (85 : Int), (86 : Int), (87 : Int), (88 : Int), (89 : Int), (90 : Int), (97 : Int), (98 : Int), (99 : Int), (100 : Int), (101 : Int), (102 : Int), (103 : Int), (104 : Int), (105 : Int), (106 : Int), (107 : Int), (108 : Int), (109 : Int), (110 : Int), (111 : Int), (112 : Int), (113 : Int), (114 : Int), (115 : Int), (116 : Int), (117 : Int), (118 : Int), (119 : Int), (120 : Int), (121 : Int), (122 : Int)]
def pick (x : Int) : Int := AL.getD (Int.toNat (Int.tmod x (62 : Int))) 0
def An (c : Int) : Prop := 48 ≤ c ∧ c ≤ 122 ∧ c ≠ 93 ∧ c ≠ 92
theorem an_all : ∀ i, i < 62 → An (AL.getD i 0) := by unfold An; decide
theorem rem62 {x : Int} (h : 0 ≤ x ∧ x < 256) : 0 ≤ Int.tmod x 62 ∧ Int.tmod x 62 < 62 := ⟨Int.tmod_nonneg _ h.1, Int.tmod_lt_of_pos _ (by decide)⟩
theorem an_pick {x : Int} (h : 0 ≤ x ∧ x < 256) : An (pick x) := an_all _ (by have := rem62 h; omega)
theorem one_an {c : Int} (h : An c) (r : List Int) : oneS (c :: r) = some (c, 1) := by
  unfold An at h
  rw [oneS, if_neg (by omega)]
def setAll (h : List Bool) (cs : List Int) : List Bool := cs.foldl (fun h c => h.set c.toNat true) h
theorem setAll_len : ∀ (cs : List Int) (h : List Bool), (setAll h cs).length = h.length
  | [], h => rfl
  | c :: cs, h => by unfold setAll at *; rw [List.foldl_cons]; have := setAll_len cs (h.set c.toNat true); unfold setAll at this; rw [this]; simp
theorem cls_plain : ∀ (cs : List Int) (f : Nat) (last : Int) (has : List Bool) (k : Nat), (∀ c ∈ cs, An c) → cs.length < f → clsL f true last has k (cs ++ [93]) = .ok (memF 0 (setAll has cs), k + cs.length + 1)
  | cs, 0, last, has, k, _, h => by omega
  | [], f + 1, last, has, k, _, _ => by
    rw [List.nil_append, clsL_cons, if_neg (by decide), if_pos rfl, if_neg (by decide)]; rfl
  | c :: cs, f + 1, last, has, k, h, hf => by
    have hc := h c (List.mem_cons_self ..)
    have hc' := hc
    unfold An at hc'
    simp only [List.length_cons] at hf ⊢
    rw [List.cons_append, clsL_cons, if_neg (by omega), if_neg (by omega), if_neg (by omega), one_an hc]
    simp only [List.drop_one, List.tail_cons]
    rw [cls_plain cs f _ _ _ (fun b hb => h b (List.mem_cons_of_mem _ hb)) (by omega)]
    have : k + 1 + cs.length + 1 = k + (cs.length + 1) + 1 := by omega
    rw [this]; rfl
def H0 (a b : Int) : List Bool := rangeSet (List.replicate 256 false) a.toNat (b + 1 - a).toNat
theorem H0_set (a b : Int) (h : a ≤ b) : rangeSet ((List.replicate 256 false).set a.toNat true) a.toNat (b + 1 - a).toNat = H0 a b := by
  unfold H0
  obtain ⟨n, hn⟩ : ∃ n, (b + 1 - a).toNat = n + 1 := ⟨(b - a).toNat, by omega⟩
  rw [hn, rangeSet, rangeSet, List.set_set]
theorem cls_all (a b : Int) (cs : List Int) (ha : An a) (hb : An b) (hc : ∀ c ∈ cs, An c) (T : List Int) (hT : T = 91 :: a :: 45 :: b :: (cs ++ [93])) :
    lexS T.length 0 T = if b < a then .error (10, 2) else .ok [(4, memF 0 (setAll (H0 a b) cs), 0)] := by
  have ha' := ha
  have hb' := hb
  unfold An at ha' hb'
  have hne : T ≠ [] := by rw [hT]; simp
  have hl : T.length = cs.length + 5 := by rw [hT]; simp
  have htok : tokK T = tokOf 4 (clsK T) := by rw [hT]; exact tok91 _
  have hcls : clsK T = if b < a then .error (10, 2) else .ok (memF 0 (setAll (H0 a b) cs), T.length) := by
    unfold clsK
    rw [hl, hT, List.tail_cons, clsL_cons, if_neg (by omega), if_neg (by omega), if_neg (by omega), one_an ha]
    simp only [List.drop_one, List.tail_cons]
    rw [clsL_cons, if_neg (by decide), if_neg (by decide), if_pos rfl, if_neg (by omega)]
    simp only []
    rw [if_neg (by omega), if_neg (by omega), one_an hb]
    simp only [List.drop_one, List.tail_cons]
    by_cases h : b < a
    · rw [if_pos h, if_pos h]
    · rw [if_neg h, if_neg h, cls_plain cs _ _ _ _ hc (by omega), H0_set a b (by omega)]
      have : 1 + 1 + 1 + 1 + cs.length + 1 = cs.length + 5 := by omega
      rw [this]
  by_cases h : b < a
  · rw [if_pos h] at hcls ⊢
    rw [hcls] at htok
    rw [hl, lexS_err htok hne]
  · rw [if_neg h] at hcls ⊢
    rw [hcls] at htok
    have := lexS_last (f := cs.length + 4) (k := 0) htok hne
    rw [hl]; exact this
theorem setAll_snoc (h : List Bool) (cs : List Int) (c : Int) : setAll h (cs ++ [c]) = (setAll h cs).set c.toNat true := by
  unfold setAll; rw [List.foldl_append]; rfl
theorem classes (x y : Int) (l : List Int) (hx : (Lit.int .u8 x).wf = true) (hy : (Lit.int .u8 y).wf = true) (hl : ∀ i, i < l.length → (Lit.int .u8 (l.getD i 0)).wf = true) : E 8 [.tv [] (.int .u8) x, .tv [] (.int .u8) y, .tv [] (.slice (.int .u8)) l] [] (.tv [] .bool true) [] := by
  have hx : 0 ≤ x ∧ x < 256 := u8_wf hx
  have hy : 0 ≤ y ∧ y < 256 := u8_wf hy
  have hl : ∀ i, i < l.length → 0 ≤ l.getD i 0 ∧ l.getD i 0 < 256 := fun i hi => u8_wf (hl i hi)
  refine ev_of (vc8 x y l _ ?_)
  have hbig : (1000000 : Nat) ≤ bigN := by decide
  generalize bigN = big at hbig ⊢
  have ha := an_pick hx
  have hb := an_pick hy
  have hm1 := rem62 hx
  have hm2 := rem62 hy
  have hp : ∀ z : Int, List.getD [(48 : Int), (49 : Int), (50 : Int), (51 : Int), (52 : Int), (53 : Int), (54 : Int), (55 : Int), (56 : Int), (57 : Int), (65 : Int), (66 : Int), (67 : Int), (68 : Int), (69 : Int), (70 : Int), (71 : Int), (72 : Int), (73 : Int), (74 : Int), (75 : Int), (76 : Int), (77 : Int), (78 : Int), (79 : Int), (80 : Int), (81 : Int), (82 : Int), (83 : Int), (84 : Int), (85 : Int), (86 : Int), (87 : Int), (88 : Int), (89 : Int), (90 : Int), (97 : Int), (98 : Int), (99 : Int), (100 : Int), (101 : Int), (102 : Int), (103 : Int), (104 : Int), (105 : Int), (106 : Int), (107 : Int), (108 : Int), (109 : Int), (110 : Int), (111 : Int), (112 : Int), (113 : Int), (114 : Int), (115 : Int), (116 : Int), (117 : Int), (118 : Int), (119 : Int), (120 : Int), (121 : Int), (122 : Int)] (Int.toNat (Int.tmod z (62 : Int))) (0 : Int) = pick z := fun _ => rfl
  simp only [hp]
  generalize pick x = a at ha ⊢
  generalize pick y = b at hb ⊢
  have ha' := ha
  have hb' := hb
  unfold An at ha' hb'
  refine ⟨_, ⟨awake_ev⟩, fun _ => ⟨by first | rfl | trivial, by first | rfl | trivial⟩, fun h1 => ⟨⟨by omega⟩, ⟨by decide⟩, ⟨nofun⟩, ⟨by omega⟩, ⟨by omega⟩, ⟨by decide⟩, ⟨nofun⟩, ⟨by omega⟩, ⟨by omega⟩, ?_⟩⟩
  (simp only [decide_eq_true_eq, decide_eq_false_iff_not, Bool.not_eq_true', Bool.not_eq_false'] at h1)
  refine ⟨fun z h => h.length = 256 ∧ a ≤ z ∧ z ≤ 123 ∧ rangeSet h z.toNat (b + 1 - z).toNat = H0 a b, fun z _ => (200 - z).toNat, ⟨by simp, by omega, by omega, rfl⟩, ?_⟩
  rintro z h ⟨hh, hz1, hz2, hv⟩
  refine ⟨⟨by omega⟩, fun h2 => ?_, fun h2 => ?_⟩
  · (simp only [decide_eq_true_eq, decide_eq_false_iff_not, Bool.not_eq_true', Bool.not_eq_false'] at h2)
    refine ⟨⟨by omega⟩, ⟨by omega⟩, ⟨by omega⟩, ⟨by simpa using hh, by omega, by omega, ?_⟩, ⟨by ((try dsimp only); omega)⟩⟩
    have e1 : (b + 1 - z).toNat = (b + 1 - (z + 1)).toNat + 1 := by omega
    have e2 : (z + 1).toNat = z.toNat + 1 := by omega
    rw [e1, rangeSet] at hv
    rw [e2]; exact hv
  · (simp only [decide_eq_true_eq, decide_eq_false_iff_not, Bool.not_eq_true', Bool.not_eq_false'] at h2)
    have e1 : (b + 1 - z).toNat = 0 := by omega
    rw [e1, rangeSet] at hv
    subst hv
    clear e1 h2 hz1 hz2 z
    refine ⟨⟨by simp only [List.length_cons, List.length_nil]; omega⟩, ⟨by simp only [List.length_append, List.length_cons, List.length_nil]; omega⟩, ⟨by simp only [List.length_append, List.length_cons, List.length_nil]; omega⟩, ?_⟩
    refine ⟨fun t z h => ∃ k : Nat, z = k ∧ k ≤ l.length ∧ t = 91 :: a :: 45 :: b :: (l.take k).map pick ∧ h = setAll (H0 a b) ((l.take k).map pick), fun _ z _ => (l.length - z).toNat, ⟨0, rfl, by omega, rfl, rfl⟩, ?_⟩
    rintro t z h ⟨k, rfl, hk, rfl, rfl⟩
    refine ⟨fun h2 => ?_, fun h2 => ?_⟩
    · (simp only [decide_eq_true_eq, decide_eq_false_iff_not, Bool.not_eq_true', Bool.not_eq_false'] at h2)
      have hk' : k < l.length := by omega
      have hlk := hl k hk'
      have hpk := an_pick hlk
      have hmk := rem62 hlk
      rw [Int.toNat_natCast]
      have e1 : (l.take (k + 1)).map pick = (l.take k).map pick ++ [pick (l.getD k 0)] := by rw [take_snoc (0 : Int) hk', List.map_append]; rfl
      generalize hpp : pick (l.getD k 0) = c at hpk e1 ⊢
      unfold An at hpk
      refine ⟨⟨by omega⟩, ⟨by omega⟩, ⟨by decide⟩, ⟨nofun⟩, ⟨by omega⟩, ⟨by omega⟩, ⟨by omega⟩, ⟨by simp only [List.length_cons, List.length_map, List.length_take, List.length_nil]; omega⟩, ⟨by omega⟩, ⟨k + 1, by omega, by omega, ?_, ?_⟩, ⟨by ((try dsimp only); omega)⟩⟩
      · rw [e1]; rfl
      · rw [e1, setAll_snoc]
    · (simp only [decide_eq_true_eq, decide_eq_false_iff_not, Bool.not_eq_true', Bool.not_eq_false'] at h2)
      have hk : k = l.length := by omega
      subst hk
      rw [List.take_of_length_le (Nat.le_refl _)]
      have hcs : ∀ c ∈ l.map pick, An c := by
        intro c hc
        obtain ⟨v, hv, rfl⟩ := List.mem_map.1 hc
        obtain ⟨i, hi, rfl⟩ := List.mem_iff_getElem.1 hv
        have := hl i hi
        rw [List.getD_eq_getElem?_getD, List.getElem?_eq_getElem hi] at this
        exact an_pick this
      have hcl : (l.map pick).length ≤ 20 := by rw [List.length_map]; omega
      generalize l.map pick = cs at hcs hcl ⊢
      generalize hT : 91 :: a :: 45 :: b :: cs ++ [(93 : Int)] = T
      have hlex := cls_all a b cs ha hb hcs T hT.symm
      have hTl : T.length ≤ 4000 := by rw [← hT]; simp; omega
      have hTb : ∀ c ∈ T, 0 ≤ c ∧ c < 256 := by
        intro c hc
        rw [← hT] at hc
        simp only [List.cons_append, List.mem_cons, List.mem_append, List.not_mem_nil, or_false] at hc
        rcases hc with rfl | rfl | rfl | rfl | hc | rfl
        · decide
        · omega
        · decide
        · omega
        · have := hcs c hc
          unfold An at this; omega
        · decide
      refine ⟨⟨by simp only [List.length_cons]; omega⟩, ?_⟩
      have hHl : (setAll (H0 a b) cs).length = 256 := by rw [setAll_len]; exact hh
      generalize setAll (H0 a b) cs = H at hHl hlex ⊢
      by_cases h5 : b < a
      · rw [if_pos h5] at hlex
        have e := lex_is T (.error (10, 2)) hTl hTb (by rw [hlex]; rfl)
        have hpos : posK (T.take 2) = (1, 3, ()) := by
          rw [← hT]
          have h10 : a ≠ 10 := by omega
          show posK [91, a] = _
          have e1 : cntB [91, a] 10 = 0 := by simp [cntB, h10]
          have e2 : lastB [91, a] 10 = -1 := by simp [lastB, h10]
          unfold posK
          rw [e1, e2]; rfl
        simp only [lexOut, hpos] at e
        refine ⟨_, _, _, _, ⟨e⟩, fun _ => ⟨fun _ => ⟨fun _ => ⟨by first | rfl | trivial, by first | rfl | trivial⟩, nofun⟩, nofun⟩, fun h6 => ?_⟩
        (simp only [decide_eq_true_eq, decide_eq_false_iff_not, Bool.not_eq_true', Bool.not_eq_false'] at h6); omega
      · rw [if_neg h5] at hlex
        have e := lex_is T (.ok [(4, memF 0 H, (1, 1, ()), ())]) hTl hTb (by rw [hlex]; rfl)
        refine ⟨_, _, _, _, ⟨e⟩, fun h6 => ?_, fun _ => ?_⟩
        · (simp only [decide_eq_true_eq, decide_eq_false_iff_not, Bool.not_eq_true', Bool.not_eq_false'] at h6); omega
        refine ⟨fun out z h => ∃ k : Nat, z = k ∧ k ≤ 256 ∧ out.length ≤ k ∧ h = H ∧ out ++ memF k (H.drop k) = memF 0 H, fun _ z _ => (256 - z).toNat, ⟨0, rfl, by omega, by simp, rfl, by simp⟩, ?_⟩
        rintro out z h ⟨k, rfl, hk, ho, rfl, hv⟩
        refine ⟨fun h6 => ?_, fun h6 => ?_⟩
        · (simp only [decide_eq_true_eq, decide_eq_false_iff_not, Bool.not_eq_true', Bool.not_eq_false'] at h6)
          have hk' : k < h.length := by omega
          rw [drop_cons false hk', memF] at hv
          rw [Int.toNat_natCast]
          refine ⟨⟨by omega⟩, ⟨by omega⟩, fun h7 => ⟨⟨by omega⟩, ⟨by simp only [List.length_cons, List.length_nil]; omega⟩, ⟨by omega⟩, ⟨by first | rfl | trivial⟩, ⟨k + 1, by omega, by omega, by simp; omega, rfl, ?_⟩, ⟨by ((try dsimp only); omega)⟩⟩, fun h7 => ⟨⟨by omega⟩, ⟨by first | rfl | trivial⟩, ⟨k + 1, by omega, by omega, by omega, rfl, ?_⟩, ⟨by ((try dsimp only); omega)⟩⟩⟩
          · rw [h7, if_pos rfl] at hv
            rw [List.append_assoc]; exact hv
          · rw [h7] at hv; exact hv
        · (simp only [decide_eq_true_eq, decide_eq_false_iff_not, Bool.not_eq_true', Bool.not_eq_false'] at h6)
          have : h.drop k = [] := List.drop_eq_nil_of_le (by omega)
          rw [this] at hv
          have hv : out = memF 0 h := by rw [← hv]; simp [memF]
          subst hv
          refine ⟨fun _ => ⟨fun _ => ⟨fun _ => ⟨⟨by simp⟩, fun _ => ⟨⟨by simp⟩, ?_, by first | rfl | trivial⟩, nofun⟩, nofun⟩, nofun⟩, nofun⟩
          exact tvB (decide_eq_true rfl)
end Go.Am.L
