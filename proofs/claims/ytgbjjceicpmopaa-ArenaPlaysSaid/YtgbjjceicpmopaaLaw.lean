/-
  How a law's row is closed: a call that answers true and leaves below the heap's old size all as it was meets the row; how arguments that are slices are read.
-/
import Derived.Test.YtgbjjceicpmopaaRows
import Derived.WalkKit
import Derived.ProofKit
import Derived.OpenShut
import Derived.ShutString
import Derived.Deep.Slices
namespace Go.Proofs.Ytgbjjceicpmopaa
open Go.ChangeShapes Go.WideShapes Go.ChangeAt Go.RowKit

/-- All arguments read behind the call as they read before it. -/
theorem trodAll_below {H : Type} {enc : TypeId × Value → H} {P : Program} (hl : laidOutB P = true) {W W' : World} (hb : Below W.heap.size W W') :
    ∀ (ts : List TypeId) (vs : List Value) (ds : List (DataW H)) (ps : List MemPlace), (∀ t ∈ ts, P.readableRec t = true ∧ t < P.types.size) →
      DataW.TrodAll enc P W 0 (fun _ => true) true ts vs ds ps → (∀ x ∈ ps, x.block < W.heap.size) →
      DataW.TrodAll enc P W' 0 (fun b => decide (b < W.heap.size)) true ts vs ds ps
  | [], [], [], _, _, h, _ => h
  | t :: ts, v :: vs, d :: ds, ps, hr, h, hlt => by
    obtain ⟨p, q, h1, h2, rfl⟩ := h
    have hlt1 : ∀ x ∈ p, x.block < W.heap.size := fun x hx => hlt x (List.mem_append.2 (.inl hx))
    have hlt2 : ∀ x ∈ q, x.block < W.heap.size := fun x hx => hlt x (List.mem_append.2 (.inr hx))
    exact ⟨p, q, Below.trod hl (hr t (List.mem_cons_self ..)).1 (hr t (List.mem_cons_self ..)).2 h1 hb hlt1,
      trodAll_below hl hb ts vs ds q (fun t ht => hr t (List.mem_cons_of_mem _ ht)) h2 hlt2, rfl⟩
  | [], _ :: _, _, _, _, h, _ => by cases h
  | [], [], _ :: _, _, _, h, _ => by cases h
  | _ :: _, [], _, _, _, h, _ => by cases h
  | _ :: _, _ :: _, [], _, _, h, _ => by cases h

/-- What a law's row asks behind the call. -/
theorem law_post {H : Type} {enc : TypeId × Value → H} {P : Program} (hl : laidOutB P = true) {f : Func} {s : ChangeSpec} {tb : TypeId} (htb : P.underlying tb = some .bool) (hres : f.resultTypes = #[tb])
    (hv : s.vars = []) (hr : ∀ t ∈ f.params.toList, P.readableRec t = true ∧ t < P.types.size) {W W' : World} {args : Array Value} {ds gs : List (DataW H)} {before : List MemPlace}
    (hW : DataW.Whole enc P f.params.toList s.vars false W args.toList ds gs before)
    (hs : s.fn H (ds ++ gs) = { results := [.lit (.bool true)], args := ds }) (hb : Below W.heap.size W W') :
    s.post enc P f false true false false W args (.bool true) W' := by
  have hW0 := hW
  obtain ⟨p, q, hA, hV, rfl, _, _⟩ := hW
  have hlt : ∀ x ∈ p, x.block < W.heap.size := fun x hx => hW0.lt x (List.mem_append.2 (.inl hx))
  refine ⟨ds, gs, p ++ q, [], p, [], hW0, ?_, ?_, ?_, hb.frame _, fun h => by cases h⟩
  · rw [hs, hres]
    exact ⟨[], [], shut_bool htb true, rfl, rfl⟩
  · rw [hs]
    exact trodAll_below hl hb _ _ _ _ hr hA hlt
  · rw [hs, hv]
    exact rfl

/-- A slice's elements, each with its cells, at a plain address. -/
theorem open_elems {H : Type} {enc : TypeId × Value → H} {P : Program} {w : World} {t e : TypeId} {v : Value} {d : DataW H} {ps : List MemPlace} {base : Nat} {r : Reach} (ht : P.underlying t = some (.slice e)) (hc : 0 < P.cellsOf e)
    (hval : Value.okWide P w r base t v) (h : DataW.Trod enc P w 0 (fun _ => true) true t v d ps) :
    ∃ (a : Option Addr) (b off len cap : Nat), v = .slice a len cap ∧ (0 < len → a = some ⟨b, off, none⟩) ∧ (a = none → len = 0 ∧ cap = 0) ∧ len ≤ cap ∧ cap ≤ maxLen ∧
      ∀ i, i < len → ∃ cs n x, cs.length = P.cellsOf e ∧ (∀ j, j < P.cellsOf e → w.cell? ⟨b, off + (i * P.cellsOf e + j), none⟩ = cs[j]?) ∧ DataW.trod enc P w 0 (fun _ => true) true n e cs = some x := by
  obtain ⟨a, len, cap, rfl⟩ := okWide_slice ht hval
  obtain ⟨fuel, hf⟩ := h
  rcases Go.Deep.open_slice ht hf with ⟨hcs, _⟩ | ⟨ad, len', cap', m, n, D, Pl, hcs, _, hl, hm, hmm, _, hx⟩
  · simp [Value.cells] at hcs
    obtain ⟨rfl, rfl, rfl⟩ := hcs
    exact ⟨none, 0, 0, 0, 0, rfl, fun h => by omega, fun _ => ⟨rfl, rfl⟩, Nat.le_refl _, by simp [maxLen], fun i hi => by omega⟩
  · simp [Value.cells] at hcs
    obtain ⟨rfl, rfl, rfl⟩ := hcs
    simp only [if_true] at hmm
    subst hmm
    obtain ⟨b, off, spot⟩ := ad
    refine ⟨some ⟨b, off, spot⟩, b, off, len, m, rfl, (fun h0 => ?_), (fun h => by cases h), hl, hm, (fun i hi => ?_)⟩
    · obtain ⟨cs', h1, _⟩ := hx 0 (by omega)
      obtain ⟨_, hlen, hcell⟩ := World.cells?_some h1
      have h2 := hcell 0 hc
      rw [List.getElem?_eq_getElem (by omega)] at h2
      have hs : spot = none := by simpa [Addr.add] using World.cell?_spot h2
      rw [hs]
    · obtain ⟨cs', h1, h3⟩ := hx i (by omega)
      obtain ⟨_, hlen, hcell⟩ := World.cells?_some h1
      have hs : spot = none := by
        obtain ⟨cs0, g1, _⟩ := hx 0 (by omega)
        obtain ⟨_, glen, gcell⟩ := World.cells?_some g1
        have h2 := gcell 0 hc
        rw [List.getElem?_eq_getElem (by omega)] at h2
        simpa [Addr.add] using World.cell?_spot h2
      subst hs
      refine ⟨cs', n, _, hlen, fun j hj => ?_, h3⟩
      rw [← hcell j hj, Go.Deep.add_add, Go.WideShapes.add_plain]

/-- A slice of ints, as a walk reads it. -/
structure IntsAt (w : World) (a : Option Addr) (len b off : Nat) (Z : Nat → Int) : Prop where
  addr : 0 < len → a = some ⟨b, off, none⟩
  cell : ∀ i, i < len → w.cell? ⟨b, off + i, none⟩ = some (.int .i64 (Z i))
  bd : ∀ i, i < len → -9223372036854775808 ≤ Z i ∧ Z i ≤ 9223372036854775807

theorem wf_i64 {n : Int} (h : (Lit.int .i64 n).wf = true) : -9223372036854775808 ≤ n ∧ n ≤ 9223372036854775807 := by
  simpa [Lit.wf, IntKind.min, IntKind.max, IntKind.signed, IntKind.bits] using h

theorem open_ints' {H : Type} {enc : TypeId × Value → H} {P : Program} {w : World} {t e : TypeId} {v : Value} {d : DataW H} {ps : List MemPlace} {base : Nat} {r : Reach} (ht : P.underlying t = some (.slice e)) (he : P.underlying e = some (.int .i64)) (hc : P.cellsOf e = 1)
    (hval : Value.okWide P w r base t v) (h : DataW.Trod enc P w 0 (fun _ => true) true t v d ps) :
    ∃ (a : Option Addr) (b off len cap : Nat) (Z : Nat → Int), v = .slice a len cap ∧ (a = none → len = 0 ∧ cap = 0) ∧ len ≤ cap ∧ cap ≤ maxLen ∧ IntsAt w a len b off Z := by
  obtain ⟨a, b, off, len, cap, rfl, ha, hn, hl, hm, hx⟩ := open_elems ht (by omega) hval h
  obtain ⟨Z, hZ⟩ := Go.Deep.choose_lt (α := Int) (p := fun i z => w.cell? ⟨b, off + i, none⟩ = some (.int .i64 z) ∧ (Lit.int .i64 z).wf = true) (fun i hi => by
    obtain ⟨cs, n, x, hlen, hcell, htr⟩ := hx i hi
    rw [hc] at hlen hcell
    match cs, hlen with
    | [c], _ =>
      obtain ⟨z, hz, _, hw⟩ := DataW.trod_int he htr; simp only [List.cons.injEq, and_true] at hz; subst hz
      have := hcell 0 (by omega)
      exact ⟨z, by simpa using this, hw⟩)
  exact ⟨a, b, off, len, cap, Z, rfl, hn, hl, hm, ha, fun i hi => (hZ i hi).1, fun i hi => wf_i64 (hZ i hi).2⟩

/-- A slice of structs of two ints. -/
structure PairsAt (w : World) (a : Option Addr) (len b off : Nat) (X Y : Nat → Int) : Prop where
  addr : 0 < len → a = some ⟨b, off, none⟩
  cell0 : ∀ i, i < len → w.cell? ⟨b, off + i * 2, none⟩ = some (.int .i64 (X i))
  cell1 : ∀ i, i < len → w.cell? ⟨b, off + i * 2 + 1, none⟩ = some (.int .i64 (Y i))
  bd0 : ∀ i, i < len → -9223372036854775808 ≤ X i ∧ X i ≤ 9223372036854775807
  bd1 : ∀ i, i < len → -9223372036854775808 ≤ Y i ∧ Y i ≤ 9223372036854775807

theorem open_pairs' {H : Type} {enc : TypeId × Value → H} {P : Program} {w : World} {t e : TypeId} {f0 f1 : Field} {v : Value} {d : DataW H} {ps : List MemPlace} {base : Nat} {r : Reach} (ht : P.underlying t = some (.slice e)) (he : P.underlying e = some (.struct #[f0, f1])) (hc : P.cellsOf e = 2)
    (o0 : f0.offset = 0) (o1 : f1.offset = 1) (c0 : P.cellsOf f0.type = 1) (c1 : P.cellsOf f1.type = 1) (u0 : P.underlying f0.type = some (.int .i64)) (u1 : P.underlying f1.type = some (.int .i64))
    (hval : Value.okWide P w r base t v) (h : DataW.Trod enc P w 0 (fun _ => true) true t v d ps) :
    ∃ (a : Option Addr) (b off len cap : Nat) (X Y : Nat → Int), v = .slice a len cap ∧ (a = none → len = 0 ∧ cap = 0) ∧ len ≤ cap ∧ cap ≤ maxLen ∧ PairsAt w a len b off X Y := by
  obtain ⟨a, b, off, len, cap, rfl, ha, hn, hl, hm, hx⟩ := open_elems ht (by omega) hval h
  obtain ⟨Z, hZ⟩ := Go.Deep.choose_lt (α := Int × Int) (p := fun i z => w.cell? ⟨b, off + i * 2, none⟩ = some (.int .i64 z.1) ∧ w.cell? ⟨b, off + i * 2 + 1, none⟩ = some (.int .i64 z.2) ∧ (Lit.int .i64 z.1).wf = true ∧ (Lit.int .i64 z.2).wf = true) (fun i hi => by
    obtain ⟨cs, n, x, hlen, hcell, htr⟩ := hx i hi
    rw [hc] at hlen hcell
    match cs, hlen with
    | [y0, y1], _ =>
      obtain ⟨xs, k, _, _, _, hxl, hf⟩ := DataW.trod_struct he htr
      match xs, hxl with
      | [x0, x1], _ =>
        have g0 := hf 0 f0 rfl
        have g1 := hf 1 f1 rfl
        simp [o0, o1, c0, c1] at g0 g1
        obtain ⟨z0, hz0, _, hw0⟩ := DataW.trod_int u0 g0; simp only [List.cons.injEq, and_true] at hz0; subst hz0
        obtain ⟨z1, hz1, _, hw1⟩ := DataW.trod_int u1 g1; simp only [List.cons.injEq, and_true] at hz1; subst hz1
        have e0 := hcell 0 (by omega)
        have e1 := hcell 1 (by omega)
        exact ⟨(z0, z1), by simpa using e0, by simpa [Nat.add_assoc] using e1, hw0, hw1⟩)
  exact ⟨a, b, off, len, cap, fun i => (Z i).1, fun i => (Z i).2, rfl, hn, hl, hm, ha, fun i hi => (hZ i hi).1, fun i hi => (hZ i hi).2.1, fun i hi => wf_i64 (hZ i hi).2.2.1, fun i hi => wf_i64 (hZ i hi).2.2.2⟩

/-- A slice of structs of three ints. -/
structure TriplesAt (w : World) (a : Option Addr) (len b off : Nat) (X Y Z : Nat → Int) : Prop where
  addr : 0 < len → a = some ⟨b, off, none⟩
  cell0 : ∀ i, i < len → w.cell? ⟨b, off + i * 3, none⟩ = some (.int .i64 (X i))
  cell1 : ∀ i, i < len → w.cell? ⟨b, off + i * 3 + 1, none⟩ = some (.int .i64 (Y i))
  cell2 : ∀ i, i < len → w.cell? ⟨b, off + i * 3 + 2, none⟩ = some (.int .i64 (Z i))
  bd0 : ∀ i, i < len → -9223372036854775808 ≤ X i ∧ X i ≤ 9223372036854775807
  bd1 : ∀ i, i < len → -9223372036854775808 ≤ Y i ∧ Y i ≤ 9223372036854775807
  bd2 : ∀ i, i < len → -9223372036854775808 ≤ Z i ∧ Z i ≤ 9223372036854775807

theorem open_triples' {H : Type} {enc : TypeId × Value → H} {P : Program} {w : World} {t e : TypeId} {f0 f1 f2 : Field} {v : Value} {d : DataW H} {ps : List MemPlace} {base : Nat} {r : Reach} (ht : P.underlying t = some (.slice e)) (he : P.underlying e = some (.struct #[f0, f1, f2])) (hc : P.cellsOf e = 3)
    (o0 : f0.offset = 0) (o1 : f1.offset = 1) (o2 : f2.offset = 2) (c0 : P.cellsOf f0.type = 1) (c1 : P.cellsOf f1.type = 1) (c2 : P.cellsOf f2.type = 1)
    (u0 : P.underlying f0.type = some (.int .i64)) (u1 : P.underlying f1.type = some (.int .i64)) (u2 : P.underlying f2.type = some (.int .i64))
    (hval : Value.okWide P w r base t v) (h : DataW.Trod enc P w 0 (fun _ => true) true t v d ps) :
    ∃ (a : Option Addr) (b off len cap : Nat) (X Y Z : Nat → Int), v = .slice a len cap ∧ (a = none → len = 0 ∧ cap = 0) ∧ len ≤ cap ∧ cap ≤ maxLen ∧ TriplesAt w a len b off X Y Z := by
  obtain ⟨a, b, off, len, cap, rfl, ha, hn, hl, hm, hx⟩ := open_elems ht (by omega) hval h
  obtain ⟨Z, hZ⟩ := Go.Deep.choose_lt (α := Int × Int × Int) (p := fun i z => w.cell? ⟨b, off + i * 3, none⟩ = some (.int .i64 z.1) ∧ w.cell? ⟨b, off + i * 3 + 1, none⟩ = some (.int .i64 z.2.1) ∧ w.cell? ⟨b, off + i * 3 + 2, none⟩ = some (.int .i64 z.2.2) ∧
      (Lit.int .i64 z.1).wf = true ∧ (Lit.int .i64 z.2.1).wf = true ∧ (Lit.int .i64 z.2.2).wf = true) (fun i hi => by
    obtain ⟨cs, n, x, hlen, hcell, htr⟩ := hx i hi
    rw [hc] at hlen hcell
    match cs, hlen with
    | [y0, y1, y2], _ =>
      obtain ⟨xs, k, _, _, _, hxl, hf⟩ := DataW.trod_struct he htr
      match xs, hxl with
      | [x0, x1, x2], _ =>
        have g0 := hf 0 f0 rfl
        have g1 := hf 1 f1 rfl
        have g2 := hf 2 f2 rfl
        simp [o0, o1, o2, c0, c1, c2] at g0 g1 g2
        obtain ⟨z0, hz0, _, hw0⟩ := DataW.trod_int u0 g0; simp only [List.cons.injEq, and_true] at hz0; subst hz0
        obtain ⟨z1, hz1, _, hw1⟩ := DataW.trod_int u1 g1; simp only [List.cons.injEq, and_true] at hz1; subst hz1
        obtain ⟨z2, hz2, _, hw2⟩ := DataW.trod_int u2 g2; simp only [List.cons.injEq, and_true] at hz2; subst hz2
        have e0 := hcell 0 (by omega)
        have e1 := hcell 1 (by omega)
        have e2 := hcell 2 (by omega)
        exact ⟨(z0, z1, z2), by simpa using e0, by simpa [Nat.add_assoc] using e1, by simpa [Nat.add_assoc] using e2, hw0, hw1, hw2⟩)
  exact ⟨a, b, off, len, cap, fun i => (Z i).1, fun i => (Z i).2.1, fun i => (Z i).2.2, rfl, hn, hl, hm, ha, fun i hi => (hZ i hi).1, fun i hi => (hZ i hi).2.1, fun i hi => (hZ i hi).2.2.1, fun i hi => wf_i64 (hZ i hi).2.2.2.1,
    fun i hi => wf_i64 (hZ i hi).2.2.2.2.1, fun i hi => wf_i64 (hZ i hi).2.2.2.2.2⟩

/-- A slice of strings; of bools. -/
structure StrsAt (w : World) (a : Option Addr) (len b off : Nat) (S : Nat → ByteArray) : Prop where
  addr : 0 < len → a = some ⟨b, off, none⟩
  cell : ∀ i, i < len → w.cell? ⟨b, off + i, none⟩ = some (.string (S i))
  bd : ∀ i, i < len → (S i).size ≤ maxLen
theorem open_strs' {H : Type} {enc : TypeId × Value → H} {P : Program} {w : World} {t e : TypeId} {v : Value} {d : DataW H} {ps : List MemPlace} {base : Nat} {r : Reach} (ht : P.underlying t = some (.slice e)) (he : P.underlying e = some .string) (hc : P.cellsOf e = 1)
    (hval : Value.okWide P w r base t v) (h : DataW.Trod enc P w 0 (fun _ => true) true t v d ps) :
    ∃ (a : Option Addr) (b off len cap : Nat) (S : Nat → ByteArray), v = .slice a len cap ∧ (a = none → len = 0 ∧ cap = 0) ∧ len ≤ cap ∧ cap ≤ maxLen ∧ StrsAt w a len b off S := by
  obtain ⟨a, b, off, len, cap, rfl, ha, hn, hl, hm, hx⟩ := open_elems ht (by omega) hval h
  obtain ⟨Z, hZ⟩ := Go.Deep.choose_lt (α := ByteArray) (p := fun i z => w.cell? ⟨b, off + i, none⟩ = some (.string z) ∧ z.size ≤ maxLen) (fun i hi => by
    obtain ⟨cs, n, x, hlen, hcell, htr⟩ := hx i hi
    rw [hc] at hlen hcell
    match cs, hlen with
    | [c], _ =>
      obtain ⟨z, hz, _, hw⟩ := DataW.trod_string he htr
      simp only [List.cons.injEq, and_true] at hz
      subst hz
      have := hcell 0 (by omega)
      exact ⟨z, by simpa using this, hw⟩)
  exact ⟨a, b, off, len, cap, Z, rfl, hn, hl, hm, ha, fun i hi => (hZ i hi).1, fun i hi => (hZ i hi).2⟩

structure BoolsAt (w : World) (a : Option Addr) (len b off : Nat) (S : Nat → Bool) : Prop where
  addr : 0 < len → a = some ⟨b, off, none⟩
  cell : ∀ i, i < len → w.cell? ⟨b, off + i, none⟩ = some (.bool (S i))
theorem open_bools' {H : Type} {enc : TypeId × Value → H} {P : Program} {w : World} {t e : TypeId} {v : Value} {d : DataW H} {ps : List MemPlace} {base : Nat} {r : Reach} (ht : P.underlying t = some (.slice e)) (he : P.underlying e = some .bool) (hc : P.cellsOf e = 1)
    (hval : Value.okWide P w r base t v) (h : DataW.Trod enc P w 0 (fun _ => true) true t v d ps) :
    ∃ (a : Option Addr) (b off len cap : Nat) (S : Nat → Bool), v = .slice a len cap ∧ (a = none → len = 0 ∧ cap = 0) ∧ len ≤ cap ∧ cap ≤ maxLen ∧ BoolsAt w a len b off S := by
  obtain ⟨a, b, off, len, cap, rfl, ha, hn, hl, hm, hx⟩ := open_elems ht (by omega) hval h
  obtain ⟨Z, hZ⟩ := Go.Deep.choose_lt (α := Bool) (p := fun i z => w.cell? ⟨b, off + i, none⟩ = some (.bool z)) (fun i hi => by
    obtain ⟨cs, n, x, hlen, hcell, htr⟩ := hx i hi
    rw [hc] at hlen hcell
    match cs, hlen with
    | [c], _ =>
      obtain ⟨z, hz, _⟩ := DataW.trod_bool he htr
      simp only [List.cons.injEq, and_true] at hz
      subst hz
      have := hcell 0 (by omega)
      exact ⟨z, by simpa using this⟩)
  exact ⟨a, b, off, len, cap, Z, rfl, hn, hl, hm, ha, fun i hi => hZ i hi⟩

end Go.Proofs.Ytgbjjceicpmopaa
