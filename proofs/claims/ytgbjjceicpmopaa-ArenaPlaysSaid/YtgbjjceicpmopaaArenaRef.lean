/-
  What the document's arena (package tronageref02) does to a world: each call by a contract.
-/
import Derived.Test.YtgbjjceicpmopaaArenaAgain
import Derived.Test.YtgbjjceicpmopaaMeterRef
namespace Go.Proofs.Ytgbjjceicpmopaa
open Go.RowKit

/-- Ints as values. -/
def ints (l : List Int) : List Value := l.map (.int .i64)
theorem ints_length (l : List Int) : (ints l).length = l.length := by simp [ints]
theorem ints_get (l : List Int) (i : Nat) (h : i < l.length) : (ints l)[i]? = some (.int .i64 l[i]) := by simp [ints, h]
theorem ints_snoc (l : List Int) (x : Int) : ints (l ++ [x]) = ints l ++ [.int .i64 x] := by simp [ints]
theorem ints_take (l : List Int) (n : Nat) : (ints l).take n = ints (l.take n) := by simp [ints]

/-- The document's arena in block b: its meter, the things, what each cost. -/
structure RefArAt (w : World) (B b rm : Nat) (vl vc : Value) (xs cs : List Int) : Prop where
  blk : w.heap[b]? = some (.cells #[.pointer (some ⟨rm, 0, none⟩), vl, vc] 62 (0, 0))
  ownL : w.ownsRow B 3 1 vl xs.length (ints xs)
  ownC : w.ownsRow B 3 1 vc cs.length (ints cs)
  apart : ∀ k, vl.ownBlock = some k → vc.ownBlock ≠ some k
  pos : ∀ c ∈ cs, 1 ≤ c
  same : xs.length = cs.length

theorem RefArAt.lt {w : World} {B b rm : Nat} {vl vc : Value} {xs cs : List Int} (h : RefArAt w B b rm vl vc xs cs) : b < w.heap.size := lt_of_block h.blk
theorem RefArAt.cells {w : World} {B b rm : Nat} {vl vc : Value} {xs cs : List Int} (h : RefArAt w B b rm vl vc xs cs) :
    w.cell? ⟨b, 0, none⟩ = some (.pointer (some ⟨rm, 0, none⟩)) ∧ w.cell? ⟨b, 1, none⟩ = some vl ∧ w.cell? ⟨b, 2, none⟩ = some vc ∧
    w.frozen? ⟨b, 1, none⟩ = false ∧ w.frozen? ⟨b, 2, none⟩ = false := by
  have := h.blk
  simp [World.cell?, World.frozen?, this]
theorem RefArAt.chg {S : Nat → Prop} {w w' : World} {B b rm : Nat} {vl vc : Value} {xs cs : List Int} (h : RefArAt w B b rm vl vc xs cs) (hc : Chg S w w') (hb : ¬ S b) (h1 : ∀ k, vl.ownBlock = some k → ¬ S k) (h2 : ∀ k, vc.ownBlock = some k → ¬ S k) : RefArAt w' B b rm vl vc xs cs :=
  ⟨(hc.block b h.lt hb).trans h.blk, ownsRow_chg h.ownL hc h1, ownsRow_chg h.ownC hc h2, h.apart, h.pos, h.same⟩

/-- A row's value. -/
theorem owns_form {w : World} {base size n : Nat} {e : TypeId} {v : Value} {xs : List Value} (h : w.ownsRow base e size v n xs) :
    (v = .slice none 0 0 ∧ n = 0) ∨ ∃ g cap, v = .slice (some ⟨g, 0, none⟩) n cap ∧ n ≤ cap ∧ cap ≤ maxLen := by
  rcases h.2 with ⟨rfl, h0⟩ | ⟨g, cap, cur, rfl, _, _, h1, h2, _⟩
  · exact .inl ⟨rfl, h0⟩
  · exact .inr ⟨g, cap, rfl, h1, h2⟩

theorem sum_take_succ (l : List Int) (j : Nat) (h : j < l.length) : (l.take (j + 1)).sum = (l.take j).sum + l[j] := by
  rw [List.take_succ_eq_append_getElem h, List.sum_append, List.sum_singleton]
theorem sum_nonneg {l : List Int} (h : ∀ c ∈ l, 1 ≤ c) : (l.length : Int) ≤ l.sum := by
  induction l with
  | nil => simp
  | cons a l ih =>
    have h1 := h a (List.mem_cons_self ..)
    have h2 := ih (fun c hc => h c (List.mem_cons_of_mem _ hc))
    simp; omega
theorem sum_take_le {l : List Int} (h : ∀ c ∈ l, 1 ≤ c) (j : Nat) : 0 ≤ (l.take j).sum ∧ (l.take j).sum ≤ l.sum := by
  have h1 : (l.take j).sum + (l.drop j).sum = l.sum := by rw [← List.sum_append, List.take_append_drop]
  have h2 := sum_nonneg (l := l.take j) (fun c hc => h c (List.mem_of_mem_take hc))
  have h3 := sum_nonneg (l := l.drop j) (fun c hc => h c (List.mem_of_mem_drop hc))
  omega

set_option maxHeartbeats 1000000 in
theorem refCells_calls {w : World} {B b rm : Nat} {vl vc : Value} {xs cs : List Int} (h : RefArAt w B b rm vl vc xs cs) (hs : cs.sum ≤ 1099511627776) :
    Calls Try.prog 43 #[.pointer (some ⟨b, 0, none⟩)] w fun e w' => e = .returned (.int .i64 cs.sum) ∧ w = w' := by
  obtain ⟨c0, c1, c2, f1, f2⟩ := h.cells
  have hlen := sum_nonneg h.pos
  have H := hid h
  obtain ⟨ao, cap, hv, hg⟩ : ∃ ao cap, vc = .slice ao cs.length cap ∧ (0 < cs.length → ∃ g, ao = some ⟨g, 0, none⟩) := by
    rcases owns_form h.ownC with ⟨h1, h2⟩ | ⟨g, cap, h1, _, _⟩
    · exact ⟨none, 0, by rw [h1, h2], fun h => by omega⟩
    · exact ⟨_, cap, h1, fun _ => ⟨g, rfl⟩⟩
  subst hv
  clear h
  go_enter Try.func43, Try.ntmps43
  go_wp2_with fail
  go_loop [3, 4] (fun s i => ∃ j : Nat, j ≤ cs.length ∧ i = .int .i64 j ∧ s = .int .i64 (cs.take j).sum) (fun _ i => cs.length - (intOf i).toNat)
  case atStart => exact ⟨0, by omega, rfl, rfl⟩
  case round =>
    obtain ⟨j, hj, rfl, rfl⟩ := hrel
    have hb := sum_take_le H.out.pos j
    by_cases hjl : j < cs.length
    · obtain ⟨g, rfl⟩ := hg (by omega)
      have x0 := H.out.ownC.cellAt j (by omega)
      rw [ints_get cs j hjl] at x0
      have hst := sum_take_succ cs j hjl
      have hb2 := sum_take_le H.out.pos (j + 1)
      have hp := H.out.pos cs[j] (List.getElem_mem _)
      generalize cs[j] = y at *
      have q1 : (cs.take j).sum + y ≤ 1099511627776 := by omega
      have HS := hid hst
      clear hst hb2
      go_wp2_with fail
      go_round
      case rel => exact ⟨j + 1, by omega, by go_num, int_eq HS.out.symm⟩
      case measure => simp [intOf]; omega
    · have hjn : j = cs.length := by omega
      subst hjn
      go_wp2_with fail
      go_ret
      exact ⟨by simp, rfl⟩

/-- What Put leaves of the lists. -/
def putX (xs : List Int) (L U n x : Int) : List Int := if n < 1 then xs else if L - U < n then xs else xs ++ [x]
def putC (cs : List Int) (L U n : Int) : List Int := if n < 1 then cs else if L - U < n then cs else cs ++ [n]
def putRN (xs : List Int) (L U n : Int) : Int := if n < 1 then 0 else if L - U < n then 0 else xs.length

/-- What the document's Put leaves. -/
def RefPut (w : World) (B b rm : Nat) (vl vc : Value) (xs cs : List Int) (L U M x n : Int) (e : Ending) (w' : World) : Prop :=
  ∃ vl' vc', e = .returned (.tuple #[.int .i64 (putRN xs L U n), .int .i64 (putE L U n)]) ∧ RefArAt w' B b rm vl' vc' (putX xs L U n x) (putC cs L U n) ∧ RefAt w' rm L (putU L U n) (putM L U M n) ∧
    Chg (fun k => k = b ∨ k = rm ∨ vl.ownBlock = some k ∨ vc.ownBlock = some k) w w' ∧ Moved w vl vl' ∧ Moved w vc vc'

theorem infoPlain : (Try.prog.info? 3).map (fun i => (i.zero, i.size, i.bytes)) = some (some (.int .i64 0), 1, 8) := by kernel_rfl

theorem RefArAt.neMeter {w : World} {B b rm : Nat} {vl vc : Value} {xs cs : List Int} (h : RefArAt w B b rm vl vc xs cs) {L U M : Int} (hm : RefAt w rm L U M) : b ≠ rm := by
  intro e
  have h1 := h.blk
  rw [e] at h1
  unfold RefAt at hm
  rw [hm] at h1
  simp at h1

set_option maxRecDepth 100000 in
set_option maxHeartbeats 2000000 in
theorem refPut_calls {w : World} {B b rm : Nat} {vl vc : Value} {xs cs : List Int} (h : RefArAt w B b rm vl vc xs cs) {L U M : Int} (hm : RefAt w rm L U M) (h0 : MOk L U M) (hc : (xs.length : Int) ≤ 1099511627776) (hB : B ≤ w.heap.size) (x n : Int) :
    Calls Try.prog 51 #[.pointer (some ⟨b, 0, none⟩), .int .i64 x, .int .i64 n] w (RefPut w B b rm vl vc xs cs L U M x n) := by
  obtain ⟨c0, c1, c2, f1, f2⟩ := h.cells
  have hne := h.neMeter hm
  have H := hid h
  have HM := hid hm
  have h0' := h0
  obtain ⟨g0, g1, g2, g3⟩ := h0'
  by_cases hn : n < 1
  · have e1 : putRN xs L U n = 0 := by unfold putRN; rw [if_pos hn]
    have e2 : putE L U n = 1 := by unfold putE; rw [if_pos hn]
    have e3 : putX xs L U n x = xs := by unfold putX; rw [if_pos hn]
    have e6 : putC cs L U n = cs := by unfold putC; rw [if_pos hn]
    have e4 : putU L U n = U := by unfold putU; rw [if_pos hn]
    have e5 : putM L U M n = M := by unfold putM; rw [if_pos hn]
    unfold RefPut
    rw [e1, e2, e3, e4, e5, e6]
    clear e1 e2 e3 e4 e5 e6 h hm
    go_enter Try.func51, Try.ntmps51
    go_wp2_with fail
    go_ret2
    exact ⟨vl, vc, rfl, H.out, HM.out, Chg.refl _ _, Moved.same _ _, Moved.same _ _⟩
  · have hrowL := owns_ne h.ownL hm (by decide)
    have hrowC := owns_ne h.ownC hm (by decide)
    have hrowbL := owns_ne h.ownL h.blk (by decide)
    have hrowbC := owns_ne h.ownC h.blk (by decide)
    by_cases hq : L - U < n
    · have e1 : putRN xs L U n = 0 := by unfold putRN; rw [if_neg hn, if_pos hq]
      have e2 : putE L U n = 5 := by unfold putE; rw [if_neg hn, if_pos hq]
      have e3 : putX xs L U n x = xs := by unfold putX; rw [if_neg hn, if_pos hq]
      have e6 : putC cs L U n = cs := by unfold putC; rw [if_neg hn, if_pos hq]
      have e4 : putU L U n = U := by unfold putU; rw [if_neg hn, if_pos hq]
      have e5 : putM L U M n = M := by unfold putM takeM; rw [if_neg hn, if_neg (by omega), if_pos hq]
      unfold RefPut
      rw [e1, e2, e3, e4, e5, e6]
      clear e1 e2 e3 e4 e5 e6 h hm
      have t := refTake_calls HM.out h0 n
      have t1 : takeE L U n = 5 := by unfold takeE; rw [if_neg (by omega), if_pos hq]
      have t2 : takeU L U n = U := by unfold takeU; rw [if_neg (by omega), if_pos hq]
      have t3 : takeM L U M n = M := by unfold takeM; rw [if_neg (by omega), if_pos hq]
      rw [t1, t2, t3] at t
      clear t1 t2 t3
      have T := hid t
      clear t
      go_enter Try.func51, Try.ntmps51
      go_wp2_with fail
      refine T.out.mono ?_
      rintro e w2 ⟨rfl, m2, k2⟩
      go_wp2_with fail
      go_ret2
      exact ⟨vl, vc, rfl, H.out.chg k2 hne (fun k hk e => hrowL (e ▸ hk)) (fun k hk e => hrowC (e ▸ hk)), m2, k2.mono (fun _ h => .inr (.inl h)), Moved.same _ _, Moved.same _ _⟩
    · have e1 : putRN xs L U n = xs.length := by unfold putRN; rw [if_neg hn, if_neg hq]
      have e2 : putE L U n = 0 := by unfold putE; rw [if_neg hn, if_neg hq]
      have e3 : putX xs L U n x = xs ++ [x] := by unfold putX; rw [if_neg hn, if_neg hq]
      have e6 : putC cs L U n = cs ++ [n] := by unfold putC; rw [if_neg hn, if_neg hq]
      have e4 : putU L U n = U + n := by unfold putU; rw [if_neg hn, if_neg hq]
      have e5 : putM L U M n = takeM L U M n := by unfold putM; rw [if_neg hn]
      unfold RefPut
      rw [e1, e2, e3, e4, e5, e6]
      clear e1 e2 e3 e4 e5 e6
      have t := refTake_calls HM.out h0 n
      have t1 : takeE L U n = 0 := by unfold takeE; rw [if_neg (by omega), if_neg hq]
      have t2 : takeU L U n = U + n := by unfold takeU; rw [if_neg (by omega), if_neg hq]
      rw [t1, t2] at t
      clear t1 t2
      generalize takeM L U M n = M' at *
      have T := hid t
      have hap := h.apart
      have HS := hid h.same
      have hc2 : (cs.length : Int) ≤ 1099511627776 := by have := h.same; omega
      clear t h hm
      obtain ⟨i0, hi, hz0, hz1, hz2⟩ := info_parts infoPlain
      go_enter Try.func51, Try.ntmps51
      go_wp2_with fail
      refine T.out.mono ?_
      rintro e w2 ⟨rfl, m2, k2⟩
      have H2 := hid (H.out.chg k2 hne (fun k hk e => hrowL (e ▸ hk)) (fun k hk e => hrowC (e ▸ hk)))
      obtain ⟨d0, d1, d2, f1', f2'⟩ := H2.out.cells
      have hlt := H2.out.lt
      have hmlt := m2.lt
      have hown := H2.out.ownL
      clear c0 c1 c2 f1 f2
      go_upto_region 6 with fail
      go_wp2_with (at_builtin; refine wpList_append_mv _ rfl (.tmp 24) (.tmp 26) 41 rfl B 3 i0 _ 1 8 Try.underlying41 hi hz0 hz1 hz2 rfl (by decide) vl xs.length (ints xs) rfl (hown.alloc _) ⟨w2.heap.size, 0, none⟩ 1 1 [.int .i64 x] rfl rfl ?c1 ?c2 ?c3 ?c4 ?c5 (by decide) ?_)
      case c1 =>
        intro j u hj
        match j, hj with
        | 0, hj => simp at hj; subst hj; simp [Addr.add]
      case c2 => intro u hu; simp at hu; subst hu; rfl
      case c3 => unfold maxLen; omega
      case c4 => omega
      case c5 => have := k2.size; simp; omega
      · intro gl capl w3 hown3 hgrow hmv
        have A3 := (hgrow.block b (by simp; omega) (fun e => hrowbL e.symm)).trans ((Below.heap_alloc _ _ _ hlt).trans H2.out.blk)
        have M3 := (hgrow.block rm (by simp; omega) (fun e => hrowL e.symm)).trans ((Below.heap_alloc _ _ _ hmlt).trans m2)
        have C3 := ownsRow_chg (H2.out.ownC.alloc (.cells #[.int .i64 x] 3)) (grownBy_chg hgrow) (fun k hk e => hap k e.symm hk)
        have q0 : w3.cell? ⟨b, 1, none⟩ = some vl := by simp [World.cell?, A3]
        have q1 : w3.cell? ⟨b, 2, none⟩ = some vc := by simp [World.cell?, A3]
        have q2 : w3.frozen? ⟨b, 1, none⟩ = false := by simp [World.frozen?, A3]
        have q3 : w3.frozen? ⟨b, 2, none⟩ = false := by simp [World.frozen?, A3]
        have hgb : gl ≠ b := fun e => owns_ne hown3 A3 (by decide) (by rw [Value.ownBlock, e])
        have hgm : gl ≠ rm := fun e => owns_ne hown3 M3 (by decide) (by rw [Value.ownBlock, e])
        have K3 : Chg (fun k => k = b ∨ k = rm ∨ vl.ownBlock = some k ∨ vc.ownBlock = some k) w w3 :=
          ((k2.mono (fun _ h => .inr (.inl h))).alloc _).trans ((grownBy_chg hgrow).mono (fun _ h => .inr (.inr (.inl h.symm))))
        have hmv' : Moved w vl (.slice (some ⟨gl, 0, none⟩) (xs.length + 1) capl) := by
          rcases hmv with h | ⟨g', h, hg⟩
          · exact .inl h
          · exact .inr ⟨g', h, by have := k2.size; simp at hg; omega⟩
        have hglC : vc.ownBlock ≠ some gl := by
          intro e
          rcases hmv with h | ⟨g', h, hg⟩
          · simp only [Value.ownBlock] at h; exact hap gl h.symm e
          · have := (H2.out.ownC.lt gl e).2
            simp only [Value.ownBlock, Option.some.injEq] at h
            simp at hg
            omega
        have C4 := ownsRow_setCell_other C3 (a := ⟨b, 1, none⟩) (fun e => hrowbC e) (.slice (some ⟨gl, 0, none⟩) (xs.length + 1) capl)
        have hBw3 : B ≤ w3.heap.size := by have := K3.size; omega
        have hbw3 : b < w3.heap.size := by have := hgrow.size; simp at this; omega
        have hmw3 : rm < w3.heap.size := by have := hgrow.size; simp at this; omega
        have hglw3 : gl < w3.heap.size := (hown3.lt gl rfl).2
        clear hown d0 d1 d2 f1' f2' hmv C3
        have A3' := hid A3
        have M3' := hid M3
        have hown3' := hid hown3
        clear A3 M3 hown3 hgrow
        go_wp2_with (at_builtin; refine wpList_append_mv _ rfl (.tmp 34) (.tmp 36) 41 rfl B 3 i0 _ 1 8 Try.underlying41 hi hz0 hz1 hz2 rfl (by decide) vc cs.length (ints cs) rfl (C4.alloc _) ⟨w3.heap.size, 0, none⟩ 1 1 [.int .i64 n] rfl rfl ?b1 ?b2 ?b3 ?b4 ?b5 (by decide) ?_)
        case b1 =>
          intro j u hj
          match j, hj with
          | 0, hj => simp at hj; subst hj; simp only [Addr.add, if_true]; rw [World.cell?_alloc_at _ _ _ _ (by simp)]; rfl
        case b2 => intro u hu; simp at hu; subst hu; rfl
        case b3 => unfold maxLen; omega
        case b4 => omega
        case b5 => simp; omega
        · intro gc capc w4 hown4 hgrow4 hmv4
          have A4 := (hgrow4.block b (by simp; omega) (fun e => hrowbC e.symm)).trans ((Below.heap_alloc _ _ _ (by simp; omega)).trans (heap_setCell_same A3'.out))
          have M4 := (hgrow4.block rm (by simp; omega) (fun e => hrowC e.symm)).trans ((Below.heap_alloc _ _ _ (by simp; omega)).trans ((Below.heap_setCell _ _ _ _ (fun e => hne e.symm)).trans M3'.out))
          have L4 := ownsRow_chg ((ownsRow_setCell_other hown3'.out (a := ⟨b, 1, none⟩) (by simp [Value.ownBlock, hgb]) (.slice (some ⟨gl, 0, none⟩) (xs.length + 1) capl)).alloc (.cells #[.int .i64 n] 3)) (grownBy_chg hgrow4)
            (fun k hk e => by simp only [Value.ownBlock, Option.some.injEq] at hk; subst hk; exact hglC e.symm)
          have q0 : w4.cell? ⟨b, 1, none⟩ = some (.slice (some ⟨gl, 0, none⟩) (xs.length + 1) capl) := by simp [World.cell?, A4]
          have q1 : w4.cell? ⟨b, 2, none⟩ = some vc := by simp [World.cell?, A4]
          have q2 : w4.frozen? ⟨b, 1, none⟩ = false := by simp [World.frozen?, A4]
          have q3 : w4.frozen? ⟨b, 2, none⟩ = false := by simp [World.frozen?, A4]
          have hgcb : gc ≠ b := fun e => owns_ne hown4 A4 (by decide) (by rw [Value.ownBlock, e])
          have K4 : Chg (fun k => k = b ∨ k = rm ∨ vl.ownBlock = some k ∨ vc.ownBlock = some k) w w4 :=
            ((K3.setCell (.inl (.inl rfl)) _).alloc _).trans ((grownBy_chg hgrow4).mono (fun _ h => .inr (.inr (.inr h.symm))))
          have hmv4' : Moved w vc (.slice (some ⟨gc, 0, none⟩) (cs.length + 1) capc) := by
            rcases hmv4 with h | ⟨g', h, hg⟩
            · exact .inl h
            · exact .inr ⟨g', h, by have := K3.size; simp at hg; omega⟩
          have hap4 : gl ≠ gc := by
            intro e
            rcases hmv4 with h | ⟨g', h, hg⟩
            · simp only [Value.ownBlock] at h; exact hglC (by rw [e]; exact h.symm)
            · simp only [Value.ownBlock, Option.some.injEq] at h
              simp at hg
              omega
          clear hmv4 C4 hi hz0 hz1 hz2
          have A4' := hid A4
          have M4' := hid M4
          have L4' := hid L4
          have hown4' := hid hown4
          clear A4 M4 L4 hown4 hgrow4
          go_wp2_with fail
          go_ret2
          refine ⟨.slice (some ⟨gl, 0, none⟩) (xs.length + 1) capl, .slice (some ⟨gc, 0, none⟩) (cs.length + 1) capc, by simp, ⟨?_, ?_, ?_, ?_, ?_, ?_⟩, ?_, K4.setCell (.inl (.inl rfl)) _, hmv', hmv4'⟩
          · exact (heap_setCell_same A4'.out).trans (by simp)
          · rw [ints_snoc]
            have o1 := ownsRow_setCell_other L4'.out (a := ⟨b, 2, none⟩) (by simp [Value.ownBlock, hgb]) (.slice (some ⟨gc, 0, none⟩) (cs.length + 1) capc)
            simpa using o1
          · rw [ints_snoc]
            have o1 := ownsRow_setCell_other hown4'.out (a := ⟨b, 2, none⟩) (by simp [Value.ownBlock, hgcb]) (.slice (some ⟨gc, 0, none⟩) (cs.length + 1) capc)
            simpa using o1
          · intro k hk hk2
            simp only [Value.ownBlock, Option.some.injEq] at hk hk2
            exact hap4 (hk.trans hk2.symm)
          · intro c hc
            rcases List.mem_append.1 hc with hc | hc
            · exact H.out.pos c hc
            · simp at hc; subst hc; omega
          · simp [HS.out]
          · unfold RefAt
            rw [Below.heap_setCell _ _ _ _ (fun e => hne e.symm)]
            exact M4'.out

end Go.Proofs.Ytgbjjceicpmopaa
