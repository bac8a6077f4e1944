/-
  What the document's Cut does to a world.
-/
import Derived.Test.YtgbjjceicpmopaaArenaRef
namespace Go.Proofs.Ytgbjjceicpmopaa
open Go.RowKit

theorem owns_take {w : World} {base size n k : Nat} {e : TypeId} {ao : Option Addr} {cap : Nat} {xs : List Value} (h : w.ownsRow base e size (.slice ao n cap) n xs) (hk : k ≤ n) : w.ownsRow base e size (.slice ao k cap) k (xs.take (k * size)) := by
  refine ⟨by rw [List.length_take, h.1]; exact Nat.min_eq_left (Nat.mul_le_mul_right _ hk), ?_⟩
  rcases h.2 with ⟨hv, h0⟩ | ⟨g, cap', cur, hv, hb, hg, h1, h2, h3, h4⟩
  · simp only [Value.slice.injEq] at hv
    obtain ⟨rfl, _, rfl⟩ := hv
    exact .inl ⟨by rw [show k = 0 by omega], by omega⟩
  · simp only [Value.slice.injEq, true_and] at hv
    obtain ⟨rfl, rfl⟩ := hv
    refine .inr ⟨g, cap, cur, rfl, hb, hg, by omega, h2, h3, ?_⟩
    rw [← h4, List.take_take, Nat.min_eq_left (Nat.mul_le_mul_right _ hk)]

theorem ownBlock_len (a : Option Addr) (n m cap : Nat) : (Value.slice a n cap).ownBlock = (Value.slice a m cap).ownBlock := by cases a <;> rfl

theorem sum_take_drop (l : List Int) (k : Nat) : (l.take k).sum + (l.drop k).sum = l.sum := by rw [← List.sum_append, List.take_append_drop]

/-- What the document's Cut leaves. -/
def RefCut (w : World) (B b rm : Nat) (vl vc : Value) (xs cs : List Int) (L U M n : Int) (e : Ending) (w' : World) : Prop :=
  ∃ vl' vc', e = .returned (.int .i64 (cs.drop (cutK xs.length n)).sum) ∧ RefArAt w' B b rm vl' vc' (xs.take (cutK xs.length n)) (cs.take (cutK xs.length n)) ∧ RefAt w' rm L (U - (cs.drop (cutK xs.length n)).sum) M ∧
    Chg (fun k => k = b ∨ k = rm) w w' ∧ vl'.ownBlock = vl.ownBlock ∧ vc'.ownBlock = vc.ownBlock

set_option maxRecDepth 100000 in
set_option maxHeartbeats 4000000 in
theorem refCut_calls {w : World} {B b rm : Nat} {vl vc : Value} {xs cs : List Int} (h : RefArAt w B b rm vl vc xs cs) {L U M : Int} (hm : RefAt w rm L U M) (h0 : MOk L U M) (hc : cs.sum ≤ U) (n : Int) :
    Calls Try.prog 52 #[.pointer (some ⟨b, 0, none⟩), .int .i64 n] w (RefCut w B b rm vl vc xs cs L U M n) := by
  obtain ⟨c0, c1, c2, f1, f2⟩ := h.cells
  have hne := h.neMeter hm
  have H := hid h
  have HM := hid hm
  have h0' := h0
  obtain ⟨g0, g1, g2, g3⟩ := h0'
  have hlen := sum_nonneg h.pos
  have hsame := h.same
  unfold RefCut
  have hKdef : (n < 0 ∧ cutK xs.length n = 0) ∨ ((xs.length : Int) < n ∧ cutK xs.length n = xs.length) ∨ (0 ≤ n ∧ n ≤ xs.length ∧ (cutK xs.length n : Int) = n) := by
    unfold cutK; (repeat' split) <;> omega
  have hKle := cutK_le xs.length n
  have hKle2 : cutK xs.length n ≤ cs.length := by omega
  generalize cutK xs.length n = K at *
  have htd := sum_take_drop cs K
  have ht := sum_take_le h.pos K
  have hrowbL := owns_ne h.ownL h.blk (by decide)
  have hrowbC := owns_ne h.ownC h.blk (by decide)
  have HS := hid hsame
  have hxl : (xs.length : Int) ≤ 1099511627776 := by omega
  clear hsame
  obtain ⟨al, capl, hvl, hcl, hnl⟩ : ∃ al capl, vl = .slice al xs.length capl ∧ xs.length ≤ capl ∧ ((al = none ∧ capl = 0 ∧ K = 0) ∨ ∃ g, al = some ⟨g, 0, none⟩) := by
    rcases owns_form h.ownL with ⟨h1, h2⟩ | ⟨g, cap, h1, h2, _⟩
    · exact ⟨none, 0, by rw [h1, h2], by omega, .inl ⟨rfl, rfl, by omega⟩⟩
    · exact ⟨_, cap, h1, h2, .inr ⟨g, rfl⟩⟩
  obtain ⟨ac, capc, hvc, hcc, hnc⟩ : ∃ ac capc, vc = .slice ac cs.length capc ∧ cs.length ≤ capc ∧ ((ac = none ∧ capc = 0 ∧ K = 0) ∨ ∃ g, ac = some ⟨g, 0, none⟩) := by
    rcases owns_form h.ownC with ⟨h1, h2⟩ | ⟨g, cap, h1, h2, _⟩
    · exact ⟨none, 0, by rw [h1, h2], by omega, .inl ⟨rfl, rfl, by omega⟩⟩
    · exact ⟨_, cap, h1, h2, .inr ⟨g, rfl⟩⟩
  subst hvl
  subst hvc
  -- the arena as it is behind both stores
  have hR : RefArAt ((w.setCell ⟨b, 1, none⟩ (.slice al K capl)).setCell ⟨b, 2, none⟩ (.slice ac K capc)) B b rm (.slice al K capl) (.slice ac K capc) (xs.take K) (cs.take K) := by
    refine ⟨?_, ?_, ?_, ?_, fun c hc => h.pos c (List.mem_of_mem_take hc), by rw [List.length_take, List.length_take, Nat.min_eq_left hKle, Nat.min_eq_left hKle2]⟩
    · rw [heap_setCell_same (heap_setCell_same h.blk)]; simp
    · have o1 := ownsRow_setCell_other (owns_take h.ownL hKle) (a := ⟨b, 1, none⟩) (fun e => hrowbL ((ownBlock_len _ _ _ _).trans e)) (.slice al K capl)
      have o2 := ownsRow_setCell_other o1 (a := ⟨b, 2, none⟩) (fun e => hrowbL ((ownBlock_len _ _ _ _).trans e)) (.slice ac K capc)
      rw [Nat.mul_one, ints_take] at o2
      rw [List.length_take, Nat.min_eq_left hKle]
      exact o2
    · have o1 := ownsRow_setCell_other (owns_take h.ownC hKle2) (a := ⟨b, 1, none⟩) (fun e => hrowbC ((ownBlock_len _ _ _ _).trans e)) (.slice al K capl)
      have o2 := ownsRow_setCell_other o1 (a := ⟨b, 2, none⟩) (fun e => hrowbC ((ownBlock_len _ _ _ _).trans e)) (.slice ac K capc)
      rw [Nat.mul_one, ints_take] at o2
      rw [List.length_take, Nat.min_eq_left hKle2]
      exact o2
    · intro k hk hk2
      exact h.apart k ((ownBlock_len _ _ _ _).trans hk) ((ownBlock_len _ _ _ _).trans hk2)
  have HR := hid hR
  have hM2 : RefAt ((w.setCell ⟨b, 1, none⟩ (.slice al K capl)).setCell ⟨b, 2, none⟩ (.slice ac K capc)) rm L U M := by
    unfold RefAt; rw [Below.heap_setCell _ _ _ _ (fun e => hne e.symm), Below.heap_setCell _ _ _ _ (fun e => hne e.symm)]; exact hm
  obtain ⟨q, hq⟩ : ∃ q, q = (cs.take K).sum := ⟨_, rfl⟩
  rw [← hq] at htd ht
  have HQ := hid hq
  clear hq
  have t := refGive_calls hM2 h0 (cs.sum - q)
  rw [show giveE U (cs.sum - q) = 0 from if_neg (by omega), show giveU U (cs.sum - q) = U - (cs.sum - q) from if_neg (by omega)] at t
  have T := hid t
  have htd2 : cs.sum - q = (cs.drop K).sum := by omega
  have HTD := hid htd2
  clear h hm hR hM2 t htd htd2
  go_enter Try.func52, Try.ntmps52
  go_wp2_with fail
  refine (refCells_calls H.out (by omega)).mono ?_
  rintro e w2 ⟨rfl, rfl⟩
  go_upto_region 2 with fail
  go_cut [6] (fun s wx => s = .int .i64 (K : Int) ∧ wx = w)
  case first =>
    rcases hKdef with ⟨d1, rfl⟩ | ⟨d1, rfl⟩ | ⟨d1, d2, d3⟩
    · go_wp2_with fail
      all_goals go_meet
      all_goals exact ⟨int_eq (by omega), rfl⟩
    · go_wp2_with fail
      all_goals go_meet
      all_goals exact ⟨int_eq (by omega), rfl⟩
    · have D3 := hid d3
      clear d3
      go_wp2_with fail
      all_goals go_meet
      all_goals exact ⟨int_eq (by have := D3.out; omega), rfl⟩
  case rest =>
    obtain ⟨rfl, rfl⟩ := hcut
    clear hKdef
    have fin : ∀ w4, Chg (fun x => x = rm) ((wc.setCell ⟨b, 1, none⟩ (.slice al K capl)).setCell ⟨b, 2, none⟩ (.slice ac K capc)) w4 → RefAt w4 rm L (U - (cs.sum - q)) M →
        ∃ vl' vc', Ending.returned (.int .i64 (cs.sum - q)) = .returned (.int .i64 (cs.drop K).sum) ∧ RefArAt w4 B b rm vl' vc' (xs.take K) (cs.take K) ∧ RefAt w4 rm L (U - (cs.drop K).sum) M ∧
          Chg (fun k => k = b ∨ k = rm) wc w4 ∧ vl'.ownBlock = (Value.slice al xs.length capl).ownBlock ∧ vc'.ownBlock = (Value.slice ac cs.length capc).ownBlock := by
      intro w4 c4 m4
      rw [HTD.out] at m4 ⊢
      have hrm : ∀ v : Value, v.ownBlock = some rm → v = .slice al K capl ∨ v = .slice ac K capc → False := by
        intro v hv hvv
        rcases hvv with rfl | rfl
        · exact owns_ne H.out.ownL HM.out (by decide) ((ownBlock_len _ _ _ _).trans hv)
        · exact owns_ne H.out.ownC HM.out (by decide) ((ownBlock_len _ _ _ _).trans hv)
      refine ⟨.slice al K capl, .slice ac K capc, rfl, HR.out.chg c4 hne (fun k hk e => hrm _ (e ▸ hk) (.inl rfl)) (fun k hk e => hrm _ (e ▸ hk) (.inr rfl)), m4, ?_, ownBlock_len _ _ _ _, ownBlock_len _ _ _ _⟩
      exact (((Chg.refl _ _).setCell (.inl (.inl rfl)) _).setCell (.inl (.inl rfl)) _).trans (c4.mono (fun _ h => .inr h))
    rcases hnl with ⟨rfl, rfl, rfl⟩ | ⟨gl, rfl⟩ <;> rcases hnc with ⟨rfl, rfl, h3⟩ | ⟨gc, rfl⟩
    all_goals try subst h3
    all_goals
      go_wp2_with fail
      refine (refCells_calls HR.out (by rw [← HQ.out]; omega)).mono ?_
      rintro e w3 ⟨rfl, rfl⟩
      rw [← HQ.out]
      go_wp2_with fail
      ((with_reducible refine T.out.mono ?_); rintro e w4 ⟨rfl, m4, c4⟩)
      go_wp2_with fail
      go_ret
      exact fin w4 c4 m4

end Go.Proofs.Ytgbjjceicpmopaa
