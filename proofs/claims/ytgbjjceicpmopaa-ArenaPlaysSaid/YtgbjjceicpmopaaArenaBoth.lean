/-
  Both arenas, the program's and the document's, side by side; what is done by both is the same.
-/
import Derived.Test.YtgbjjceicpmopaaArenaRefCut
import Derived.Deep.RegionHeld3
namespace Go.Proofs.Ytgbjjceicpmopaa
open Go.RowKit

/-- The document's lists as the program's things. -/
def both (xs cs : List Int) : List (Value × Int) := List.zipWith (fun x c => (.int .i64 x, c)) xs cs
theorem both_length {xs cs : List Int} (h : xs.length = cs.length) : (both xs cs).length = xs.length := by simp [both, h]
theorem both_snoc {xs cs : List Int} (h : xs.length = cs.length) (x c : Int) : both (xs ++ [x]) (cs ++ [c]) = both xs cs ++ [(.int .i64 x, c)] := by simp [both, List.zipWith_append h]
theorem both_take (xs cs : List Int) (k : Nat) : (both xs cs).take k = both (xs.take k) (cs.take k) := by simp [both, List.take_zipWith]
theorem cost_both : ∀ {xs cs : List Int}, xs.length = cs.length → cost (both xs cs) = cs.sum
  | [], [], _ => rfl
  | x :: xs, c :: cs, h => by
    have := cost_both (xs := xs) (cs := cs) (by simpa using h)
    simp only [both, List.zipWith_cons_cons, cost, List.map_cons, List.sum_cons] at this ⊢
    rw [this]
  | [], _ :: _, h => by cases h
  | _ :: _, [], h => by cases h
theorem both_set : ∀ {xs cs : List Int} (k : Nat) (x : Int), (both xs cs).modify k (fun p => (.int .i64 x, p.2)) = both (xs.set k x) cs
  | [], _, _, _ => by simp [both]
  | _ :: _, [], k, x => by cases k <;> simp [both]
  | y :: xs, c :: cs, 0, x => by simp [both]
  | y :: xs, c :: cs, k + 1, x => by
    have := both_set (xs := xs) (cs := cs) k x
    simp only [both, List.zipWith_cons_cons, List.modify_succ_cons, List.set_cons_succ] at this ⊢
    rw [this]
theorem both_val {xs cs : List Int} (h : xs.length = cs.length) (k : Nat) (hk : k < xs.length) : arIntVal (both xs cs) (k : Int) = .int .i64 xs[k] := by
  have hk2 : k < cs.length := by omega
  unfold arIntVal
  rw [if_pos (by rw [both_length h]; omega), Int.toNat_natCast]
  simp [both, List.getElem?_zipWith, hk, hk2]
theorem both_none {xs cs : List Int} (h : xs.length = cs.length) {i : Int} (hi : ¬ (0 ≤ i ∧ i < xs.length)) : arIntVal (both xs cs) i = .int .i64 0 := by
  unfold arIntVal; rw [if_neg (by rw [both_length h]; exact hi)]
theorem both_put {xs cs : List Int} (h : xs.length = cs.length) (L U n x : Int) : putL (both xs cs) L U n (.int .i64 x) = both (putX xs L U n x) (putC cs L U n) ∧ putN (both xs cs) L U n = putRN xs L U n ∧ (putX xs L U n x).length = (putC cs L U n).length ∧ (putC cs L U n).sum = cs.sum + (putU L U n - U) := by
  unfold putL putX putC putN putRN putU
  by_cases h1 : n < 1
  · simp only [if_pos h1]; exact ⟨trivial, trivial, h, by omega⟩
  · by_cases h2 : L - U < n
    · simp only [if_neg h1, if_pos h2]; exact ⟨trivial, trivial, h, by omega⟩
    · simp only [if_neg h1, if_neg h2]
      exact ⟨(both_snoc h x n).symm, by rw [both_length h], by simp [h], by simp; omega⟩

/-- Both arenas, each with its meter. -/
structure ArP (w0 wr : World) (ab mb rb rm : Nat) (L U : Int) (xs cs : List Int) : Prop where
  s : ∃ M v, ArS w0 wr ab mb L U M v (both xs cs)
  r : ∃ vl vc, RefArAt wr w0.heap.size rb rm vl vc xs cs
  k : ∃ M, RefAt wr rm L U M ∧ MOk L U M
  same : xs.length = cs.length
  sum : cs.sum = U
  hb : w0.heap.size ≤ rb
  hm : w0.heap.size ≤ rm

theorem ArP.len {w0 wr : World} {ab mb rb rm : Nat} {L U : Int} {xs cs : List Int} (h : ArP w0 wr ab mb rb rm L U xs cs) : (xs.length : Int) ≤ U ∧ 0 ≤ U ∧ U ≤ L ∧ L ≤ 1099511627776 := by
  obtain ⟨vl, vc, hr⟩ := h.r
  obtain ⟨M, _, hk⟩ := h.k
  have h1 := sum_nonneg hr.pos
  have h2 := h.same
  have h3 := h.sum
  obtain ⟨g0, g1, g2, g3⟩ := hk
  omega
theorem ArP.below {w0 wr : World} {ab mb rb rm : Nat} {L U : Int} {xs cs : List Int} (h : ArP w0 wr ab mb rb rm L U xs cs) : Below w0.heap.size w0 wr := by
  obtain ⟨_, _, hs⟩ := h.s; exact hs.b
theorem ArP.keep {w0 wr w' : World} {ab mb rb rm : Nat} {L U : Int} {xs cs : List Int} (h : ArP w0 wr ab mb rb rm L U xs cs) (hc : Chg (fun _ => False) wr w') : ArP w0 w' ab mb rb rm L U xs cs := by
  obtain ⟨M, v, hs⟩ := h.s
  obtain ⟨vl, vc, hr⟩ := h.r
  obtain ⟨M2, hm, hk⟩ := h.k
  exact ⟨⟨M, v, hs.same hc⟩, ⟨vl, vc, hr.chg hc (fun h => h) (fun _ _ h => h) (fun _ _ h => h)⟩, ⟨M2, hm.chg hc (fun h => h), hk⟩, h.same, h.sum, h.hb, h.hm⟩
theorem ArP.drew {w0 wr : World} {ab mb rb rm : Nat} {L U : Int} {xs cs : List Int} (h : ArP w0 wr ab mb rb rm L U xs cs) : ArP w0 wr.drew ab mb rb rm L U xs cs := h.keep ((Chg.refl _ _).drew)
theorem ArP.drewN {w0 wr : World} {ab mb rb rm : Nat} {L U : Int} {xs cs : List Int} (h : ArP w0 wr ab mb rb rm L U xs cs) (n : Nat) : ArP w0 (wr.drewN n) ab mb rb rm L U xs cs := h.keep ((Chg.refl _ _).drewN n)

/-- What the program's arena does leaves the document's as it was. -/
theorem ref_other {w0 wr w' : World} {ab mb rb rm : Nat} {L U M L2 U2 M2 : Int} {v vl vc : Value} {l : List (Value × Int)} {xs cs : List Int} (hs : ArS w0 wr ab mb L U M v l) (hr : RefArAt wr w0.heap.size rb rm vl vc xs cs) (hm : RefAt wr rm L2 U2 M2)
    (hc : Chg (fun k => k = ab ∨ k = mb ∨ v.ownBlock = some k) wr w') : RefArAt w' w0.heap.size rb rm vl vc xs cs ∧ RefAt w' rm L2 U2 M2 := by
  have hab := hs.a.blk
  have hmb := hs.m
  have hrb := hr.blk
  have hrm := hm
  unfold RefAt at hrm
  unfold MeterAt at hmb
  refine ⟨hr.chg hc ?_ ?_ ?_, hm.chg hc ?_⟩
  · rintro (e | e | e)
    · rw [e, hab] at hrb; simp at hrb
    · rw [e, hmb] at hrb; simp at hrb
    · exact owns_ne hs.a.own hr.blk (by decide) e
  · rintro k hk (e | e | e)
    · subst e; exact owns_ne hr.ownL hs.a.blk (by decide) hk
    · subst e; exact owns_ne hr.ownL hs.m (by decide) hk
    · exact owns_apart hs.a.own hr.ownL (by decide) k e hk
  · rintro k hk (e | e | e)
    · subst e; exact owns_ne hr.ownC hs.a.blk (by decide) hk
    · subst e; exact owns_ne hr.ownC hs.m (by decide) hk
    · exact owns_apart hs.a.own hr.ownC (by decide) k e hk
  · rintro (e | e | e)
    · rw [e, hab] at hrm; simp at hrm
    · rw [e, hmb] at hrm; simp at hrm
    · exact owns_ne hs.a.own hm (by decide) e
/-- What the document's arena does leaves the program's as it was. -/
theorem ars_other {w0 wr w' : World} {ab mb rb rm : Nat} {L U M L2 U2 M2 : Int} {v vl vc : Value} {l : List (Value × Int)} {xs cs : List Int} (hs : ArS w0 wr ab mb L U M v l) (hr : RefArAt wr w0.heap.size rb rm vl vc xs cs) (hm : RefAt wr rm L2 U2 M2) (hb : w0.heap.size ≤ rb) (hmm : w0.heap.size ≤ rm)
    (hc : Chg (fun k => k = rb ∨ k = rm ∨ vl.ownBlock = some k ∨ vc.ownBlock = some k) wr w') : ArS w0 w' ab mb L U M v l := by
  have hab := hs.a.blk
  have hmb := hs.m
  have hrb := hr.blk
  have hrm := hm
  unfold RefAt at hrm
  unfold MeterAt at hmb
  refine hs.other hc ?_ ?_ ?_ ?_
  · rintro (e | e | e | e)
    · rw [← e, hmb] at hrb; simp at hrb
    · rw [← e, hmb] at hrm; simp at hrm
    · exact owns_ne hr.ownL hs.m (by decide) e
    · exact owns_ne hr.ownC hs.m (by decide) e
  · rintro (e | e | e | e)
    · rw [← e, hab] at hrb; simp at hrb
    · rw [← e, hab] at hrm; simp at hrm
    · exact owns_ne hr.ownL hs.a.blk (by decide) e
    · exact owns_ne hr.ownC hs.a.blk (by decide) e
  · rintro k hk (e | e | e | e)
    · subst e; exact owns_ne hs.a.own hr.blk (by decide) hk
    · subst e; exact owns_ne hs.a.own hm (by decide) hk
    · exact owns_apart hs.a.own hr.ownL (by decide) k hk e
    · exact owns_apart hs.a.own hr.ownC (by decide) k hk e
  · rintro k (e | e | e | e)
    · omega
    · omega
    · exact (hr.ownL.lt k e).1
    · exact (hr.ownC.lt k e).1

end Go.Proofs.Ytgbjjceicpmopaa
