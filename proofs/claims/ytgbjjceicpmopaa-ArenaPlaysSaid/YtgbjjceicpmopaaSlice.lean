/-
  Laws on slices that lie in rows of their own: append, with where the row then lies; clear of what lies behind.
-/
import Derived.Test.YtgbjjceicpmopaaArenaBase
namespace Go.Proofs.Ytgbjjceicpmopaa
open Go.RowKit

section
variable {P : Program} (w : World)

theorem grownBy_of_none {w w' : World} (h : w.grownBy w' none) (row : Option Nat) : w.grownBy w' row := ⟨h.os, h.tape, h.output, h.size, fun k hk _ => h.block k hk (by simp)⟩

/-- Append onto a row of the call's own: where it lies then. -/
theorem run_append_mv (base : Nat) (t ty e : TypeId) (i : TypeInfo) (z : Value) (size bytes : Nat) (ht : P.underlying t = some (.slice e)) (hi : P.info? e = some i) (hz : i.zero = some z)
    (hsize : i.size = size) (hby : i.bytes = bytes) (hzs : z.cells.size = size) (hsz : 0 < size)
    (v : Value) (n : Nat) (xs : List Value) (hown : w.ownsRow base e size v n xs)
    (a : Addr) (m c : Nat) (news : List Value) (hl : news.length = m * size) (hnews : ∀ j u, news[j]? = some u → w.cell? (a.add j) = some u) (h1 : ∀ u ∈ news, u.oneCell' = true)
    (h63 : n + m ≤ maxLen) (hbytes : (n + m) * bytes ≤ 140737488355328) (hbase : base ≤ w.heap.size) (hm : 0 < m) :
    ∃ g cap w', (Builtin.append_ #[t, t] ty #[v, .slice (some a) m c]).run P w = .ok (.slice (some ⟨g, 0, none⟩) (n + m) cap) w' ∧ w'.ownsRow base e size (.slice (some ⟨g, 0, none⟩) (n + m) cap) (n + m) (xs ++ news) ∧ w.grownBy w' v.ownBlock ∧
      Moved w v (.slice (some ⟨g, 0, none⟩) (n + m) cap) := by
  have grows : ∀ (v' : Value) (w' : World), w'.ownsRow w.heap.size e size v' (n + m) (xs ++ news) → ∃ g cap, v' = .slice (some ⟨g, 0, none⟩) (n + m) cap ∧ w'.ownsRow base e size v' (n + m) (xs ++ news) ∧ Moved w v v' := by
    intro v' w' h2
    rcases h2.2 with ⟨_, h0⟩ | ⟨g, cap, cur, rfl, hg, rest⟩
    · omega
    · exact ⟨g, cap, rfl, ⟨h2.1, .inr ⟨g, cap, cur, rfl, Nat.le_trans hbase hg, rest⟩⟩, .inr ⟨g, rfl, hg⟩⟩
  rcases hown.2 with ⟨rfl, rfl⟩ | ⟨g, cap, cur, rfl, hbg, hg, hnc, hcm, hcs, htake⟩
  · have hx : xs = [] := List.eq_nil_of_length_eq_zero (by simpa using hown.1)
    subst hx
    obtain ⟨v', w', hr, h2, h3, _⟩ := run_append_own (P := P) w w.heap.size t ty e i z size bytes ht hi hz hsize hby hzs hsz (.slice none 0 0) 0 [] (World.ownsRow_nil w _ e size) a m c news hl hnews h1 h63 hbytes (Nat.le_refl _)
    obtain ⟨g, cap, rfl, h4, h5⟩ := grows v' w' h2
    exact ⟨g, cap, w', hr, h4, h3, h5⟩
  · by_cases hroom : n + m ≤ cap
    · obtain ⟨w', hr, h2, h3⟩ := run_append_fits (P := P) w base t ty e i size ht hi hsize g n cap xs hown a m c news hl hnews h1 hroom
      exact ⟨g, cap, w', hr, h2, h3, .inl rfl⟩
    · have holds : ∀ j u, xs[j]? = some u → w.cell? ((⟨g, 0, none⟩ : Addr).add j) = some u := hown.cells (g := g) rfl
      obtain ⟨v', w', hr, h2, h3⟩ := run_append_arg_grows (P := P) w t ty e i z size bytes ht hi hz hsize hby hzs hsz ⟨g, 0, none⟩ n cap xs hown.1 holds a m c news hl hnews (by omega) h63 hbytes
      obtain ⟨g', cap', rfl, h4, h5⟩ := grows v' w' h2
      exact ⟨g', cap', w', hr, h4, grownBy_of_none h3 _, h5⟩

theorem wpList_append_mv {ops : Array Oper} {rest : List Oper} {o : Oper} {a : Act} {Q : Exit → Act → World → Prop} (hgd : o.guard = none) (s x : Operand) (t : TypeId)
    (ho : o.op = .call { callee := .builtin .append, args := #[s, x], argTypes := #[t, t] })
    (base : Nat) (e : TypeId) (i : TypeInfo) (z : Value) (size bytes : Nat) (ht : P.underlying t = some (.slice e)) (hi : P.info? e = some i) (hz : i.zero = some z)
    (hsize : i.size = size) (hby : i.bytes = bytes) (hzs : z.cells.size = size) (hsz : 0 < size)
    (v : Value) (n : Nat) (xs : List Value) (hs : a.eval s = v) (hown : w.ownsRow base e size v n xs)
    (ad : Addr) (m c : Nat) (news : List Value) (hx : a.eval x = .slice (some ad) m c) (hl : news.length = m * size) (hnews : ∀ j u, news[j]? = some u → w.cell? (ad.add j) = some u) (h1 : ∀ u ∈ news, u.oneCell' = true)
    (h63 : n + m ≤ maxLen) (hbytes : (n + m) * bytes ≤ 140737488355328) (hbase : base ≤ w.heap.size) (hm : 0 < m)
    (h : ∀ g cap w', w'.ownsRow base e size (.slice (some ⟨g, 0, none⟩) (n + m) cap) (n + m) (xs ++ news) → w.grownBy w' v.ownBlock → Moved w v (.slice (some ⟨g, 0, none⟩) (n + m) cap) →
      wpList P ops Q rest (a.put o.dst (.slice (some ⟨g, 0, none⟩) (n + m) cap)) w') : wpList P ops Q (o :: rest) a w := by
  refine wpList_plain hgd fun K hK => ?_
  obtain ⟨g, cap, w', hr, h2, h3, h4⟩ := run_append_mv (P := P) w base t o.type e i z size bytes ht hi hz hsize hby hzs hsz v n xs hown ad m c news hl hnews h1 h63 hbytes hbase hm
  unfold Oper.wp
  simp [execOp, ho, resolve, invoke, builtin, hs, hx, hr, Result.andThen]
  exact hK _ _ (h g cap w' h2 h3 h4)

theorem oneCell_zero {z : Value} (h : ∀ u ∈ z.cells.toList, u.oneCell' = true) (n : Nat) : ∀ u ∈ (Builtin.zeroCells z.cells n).toList, u.oneCell' = true := by
  intro u hu
  simp only [Builtin.zeroCells, Array.toList_map, List.mem_map, Array.mem_toList_iff, Array.mem_range] at hu
  obtain ⟨i, hi, rfl⟩ := hu
  have hp : 0 < z.cells.size := by
    rcases Nat.eq_zero_or_pos z.cells.size with h0 | h0
    · rw [h0] at hi; simp at hi
    · exact h0
  have hlt : i % z.cells.size < z.cells.size := Nat.mod_lt _ hp
  rw [getElem!_pos z.cells (i % z.cells.size) hlt]
  exact h _ (Array.getElem_mem_toList hlt)

/-- Clear of what lies behind the first k things: these stay. -/
theorem run_clear_tail (base : Nat) (t ty e : TypeId) (i : TypeInfo) (z : Value) (size : Nat) (ht : P.underlying t = some (.slice e)) (hi : P.info? e = some i) (hz : i.zero = some z)
    (hzs : z.cells.size = size) (hz1 : ∀ u ∈ z.cells.toList, u.oneCell' = true)
    (g n cap k m c : Nat) (xs : List Value) (hown : w.ownsRow base e size (.slice (some ⟨g, 0, none⟩) n cap) n xs) (hk : k + m ≤ n) (hm : 0 < m) :
    ∃ w', (Builtin.clear_ #[t] ty #[.slice (some ⟨g, k * size, none⟩) m c]).run P w = .ok (.tuple #[]) w' ∧ w'.ownsRow base e size (.slice (some ⟨g, 0, none⟩) k cap) k (xs.take (k * size)) ∧ w.grownBy w' (some g) := by
  rcases hown.2 with ⟨h, _⟩ | ⟨g', cap', cur, h, hbg, hg, hnc, hcm, hcs, htake⟩
  · simp at h
  · simp only [Value.slice.injEq, Option.some.injEq, Addr.mk.injEq, and_true, true_and] at h
    obtain ⟨rfl, rfl⟩ := h
    have hzl : (Builtin.zeroCells z.cells m).toList.length = m * size := by rw [Array.length_toList, size_zeroCells, hzs]
    have hfit : k * size + 0 + (Builtin.zeroCells z.cells m).toList.length ≤ cur.size := by
      rw [hzl, hcs, Nat.add_zero, ← Nat.add_mul]
      exact Nat.mul_le_mul_right _ (by omega)
    have hst := run_storeCells_at P g (k * size) e (Builtin.zeroCells z.cells m).toList 0 cur w hg hfit (oneCell_zero hz1 m)
    have hkc : k * size ≤ cur.size := by rw [hcs]; exact Nat.mul_le_mul_right _ (by omega)
    refine ⟨w.setRow g (cur.toList.take (k * size + 0) ++ (Builtin.zeroCells z.cells m).toList ++ cur.toList.drop (k * size + 0 + (Builtin.zeroCells z.cells m).toList.length)).toArray, ?_, ⟨?_, .inr ⟨g, cap, _, rfl, hbg, setRow_heap w g cur _ e _ hg, by omega, hcm, ?_, ?_⟩⟩,
      ⟨rfl, rfl, rfl, by simp [World.setRow], fun j _ hj => setRow_other w g j _ (fun e => hj (by rw [e]))⟩⟩
    · obtain ⟨m', rfl⟩ : ∃ m', m = m' + 1 := ⟨m - 1, by omega⟩
      simp [Builtin.clear_, run_underlying ht, zeroValue, typeInfo, hi, hz, hst]
    · rw [List.length_take, hown.1]; exact Nat.min_eq_left (Nat.mul_le_mul_right _ (by omega))
    · simp only [List.size_toArray, List.length_append, List.length_take, List.length_drop, Array.length_toList]
      rw [Array.length_toList] at hfit
      omega
    · rw [← htake, List.take_take]
      simp only [Nat.add_zero, List.append_assoc]
      rw [List.take_append_of_le_length (by simp; omega), List.take_take, Nat.min_eq_left (Nat.le_refl _), Nat.min_eq_left (Nat.mul_le_mul_right _ (by omega))]

theorem wpList_clear_tail {ops : Array Oper} {rest : List Oper} {o : Oper} {a : Act} {Q : Exit → Act → World → Prop} (hgd : o.guard = none) (s : Operand) (t : TypeId)
    (ho : o.op = .call { callee := .builtin .clear, args := #[s], argTypes := #[t] })
    (base : Nat) (e : TypeId) (i : TypeInfo) (z : Value) (size : Nat) (ht : P.underlying t = some (.slice e)) (hi : P.info? e = some i) (hz : i.zero = some z)
    (hzs : z.cells.size = size) (hz1 : ∀ u ∈ z.cells.toList, u.oneCell' = true)
    (g n cap k m c : Nat) (xs : List Value) (hown : w.ownsRow base e size (.slice (some ⟨g, 0, none⟩) n cap) n xs) (hk : k + m ≤ n) (hm : 0 < m) (hs : a.eval s = .slice (some ⟨g, k * size, none⟩) m c)
    (h : ∀ w', w'.ownsRow base e size (.slice (some ⟨g, 0, none⟩) k cap) k (xs.take (k * size)) → w.grownBy w' (some g) → wpList P ops Q rest (a.put o.dst (.tuple #[])) w') : wpList P ops Q (o :: rest) a w := by
  refine wpList_plain hgd fun K hK => ?_
  obtain ⟨w', hr, h2, h3⟩ := run_clear_tail (P := P) w base t o.type e i z size ht hi hz hzs hz1 g n cap k m c xs hown hk hm
  unfold Oper.wp
  simp [execOp, ho, resolve, invoke, builtin, hs, hr, Result.andThen]
  exact hK _ _ (h w' h2 h3)

/-- Clear of nothing. -/
theorem wpList_clear_none {ops : Array Oper} {rest : List Oper} {o : Oper} {a : Act} {Q : Exit → Act → World → Prop} (hgd : o.guard = none) (s : Operand) (t e : TypeId)
    (ho : o.op = .call { callee := .builtin .clear, args := #[s], argTypes := #[t] }) (ht : P.underlying t = some (.slice e)) (ad : Option Addr) (c : Nat) (hs : a.eval s = .slice ad 0 c)
    (h : wpList P ops Q rest (a.put o.dst (.tuple #[])) w) : wpList P ops Q (o :: rest) a w := by
  refine wpList_plain hgd fun K hK => ?_
  have hr : (Builtin.clear_ #[t] o.type #[.slice ad 0 c]).run P w = .ok (.tuple #[]) w := by
    cases ad <;> simp [Builtin.clear_, run_underlying ht]
  unfold Oper.wp
  simp [execOp, ho, resolve, invoke, builtin, hs, hr, Result.andThen]
  exact hK _ _ h

end
end Go.Proofs.Ytgbjjceicpmopaa
