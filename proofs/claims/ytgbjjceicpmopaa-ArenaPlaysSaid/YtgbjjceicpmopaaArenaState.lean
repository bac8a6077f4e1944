/-
  An arena of numbers and its meter, as the laws carry them from call to call.
-/
import Derived.Test.YtgbjjceicpmopaaArenaAwake
import Derived.Test.YtgbjjceicpmopaaArenaCutInt
import Derived.Test.YtgbjjceicpmopaaLaw
namespace Go.Proofs.Ytgbjjceicpmopaa
open Go.RowKit

theorem put_ok {l : List (Value × Int)} {L U n : Int} {x : Value} (h1 : 1 ≤ n) (h2 : n ≤ L - U) : putE L U n = 0 ∧ putN l L U n = l.length ∧ putU L U n = U + n ∧ putL l L U n x = l ++ [(x, n)] := by
  unfold putE putN putU putL
  refine ⟨?_, ?_, ?_, ?_⟩ <;> rw [if_neg (by omega), if_neg (by omega)]

/-- The arena and its meter; what was there when the law began is as it was. -/
structure ArS (w0 wr : World) (ab mb : Nat) (L U M : Int) (v : Value) (l : List (Value × Int)) : Prop where
  m : MeterAt wr mb L U M
  k : MOk L U M
  a : ArIntAt wr w0.heap.size ab mb v l
  c : cost l ≤ U
  b : Below w0.heap.size w0 wr
  hm : w0.heap.size ≤ mb
  ha : w0.heap.size ≤ ab

theorem ArS.rowLe {w0 wr : World} {ab mb : Nat} {L U M : Int} {v : Value} {l : List (Value × Int)} (h : ArS w0 wr ab mb L U M v l) : ∀ k, v.ownBlock = some k → w0.heap.size ≤ k := fun _ hk => (h.a.rowLt hk).1
theorem ArS.same {w0 wr w' : World} {ab mb : Nat} {L U M : Int} {v : Value} {l : List (Value × Int)} (h : ArS w0 wr ab mb L U M v l) (hc : Chg (fun _ => False) wr w') : ArS w0 w' ab mb L U M v l :=
  ⟨h.m.chg hc (fun h => h), h.k, h.a.chg hc (fun h => h) (fun _ _ h => h), h.c, below_none h.b hc, h.hm, h.ha⟩

theorem ArS.len {w0 wr : World} {ab mb : Nat} {L U M : Int} {v : Value} {l : List (Value × Int)} (h : ArS w0 wr ab mb L U M v l) : 0 ≤ cost l ∧ cost l ≤ 1099511627776 ∧ (l.length : Int) ≤ 1099511627776 ∧ 0 ≤ U ∧ U ≤ L ∧ L ≤ 1099511627776 := by
  have h1 := h.a.len_le
  have h2 := h.a.pos.nonneg
  have h3 := h.c
  obtain ⟨g0, g1, g2, g3⟩ := h.k
  omega

/-- What a call leaves that answers a tuple, or a number, and goes on. -/
def ArPut (w0 : World) (ab mb : Nat) (L U n : Int) (l : List (Value × Int)) (x : Value) (e : Ending) (w' : World) : Prop :=
  ∃ M' v', e = .returned (.tuple #[.int .i64 (putN l L U n), .int .i64 (putE L U n)]) ∧ ArS w0 w' ab mb L (putU L U n) M' v' (putL l L U n x)
theorem ArS.put {w0 wr : World} {ab mb : Nat} {L U M : Int} {v : Value} {l : List (Value × Int)} (h : ArS w0 wr ab mb L U M v l) (x n : Int) :
    Calls Try.prog 36 #[.pointer (some ⟨ab, 0, none⟩), .int .i64 x, .int .i64 n] wr (ArPut w0 ab mb L U n l (.int .i64 x)) :=
  (arIntPut_calls h.a h.m h.k h.c h.b.size x n).mono fun _ _ ⟨v', he, ha, hm, hc, _⟩ =>
    ⟨_, v', he, ⟨hm, h.k.put n, ha, by rw [cost_putL]; have := h.c; omega, below_ar h.b hc h.ha h.hm h.rowLe, h.hm, h.ha⟩⟩

def ArCut (w0 : World) (ab mb : Nat) (L U n : Int) (l : List (Value × Int)) (e : Ending) (w' : World) : Prop :=
  ∃ M' v', e = .returned (.int .i64 (cost (l.drop (cutK l.length n)))) ∧ ArS w0 w' ab mb L (U - cost (l.drop (cutK l.length n))) M' v' (l.take (cutK l.length n))
theorem ArS.cut {w0 wr : World} {ab mb : Nat} {L U M : Int} {v : Value} {l : List (Value × Int)} (h : ArS w0 wr ab mb L U M v l) (n : Int) :
    Calls Try.prog 39 #[.pointer (some ⟨ab, 0, none⟩), .int .i64 n] wr (ArCut w0 ab mb L U n l) :=
  (arIntCut_calls h.a h.m h.k h.c h.b.size n).mono fun _ _ ⟨v', he, ha, hm, hc, _⟩ => by
    have h1 := cost_take_drop l (cutK l.length n)
    have h2 := (h.a.pos.take (cutK l.length n)).nonneg
    have h3 := (h.a.pos.drop (cutK l.length n)).nonneg
    have h4 := h.c
    refine ⟨_, v', he, ⟨hm, ?_, ha, by omega, below_ar h.b hc h.ha h.hm h.rowLe, h.hm, h.ha⟩⟩
    have := h.k
    unfold MOk at this ⊢
    omega

def ArSet (w0 : World) (ab mb : Nat) (L U i : Int) (l : List (Value × Int)) (x : Value) (e : Ending) (w' : World) : Prop :=
  ∃ M' v', e = .returned (.bool (isIn l.length i)) ∧ ArS w0 w' ab mb L U M' v' (if isIn l.length i then l.modify i.toNat fun p => (x, p.2) else l)
theorem ArS.set {w0 wr : World} {ab mb : Nat} {L U M : Int} {v : Value} {l : List (Value × Int)} (h : ArS w0 wr ab mb L U M v l) (i x : Int) :
    Calls Try.prog 40 #[.pointer (some ⟨ab, 0, none⟩), .int .i64 i, .int .i64 x] wr (ArSet w0 ab mb L U i l (.int .i64 x)) :=
  (arIntSet_calls h.a i x).mono fun _ _ ⟨he, ha, hc⟩ => by
    refine ⟨M, v, he, ⟨h.m.chg hc (fun e => h.a.ne h.m (by decide) e), h.k, ha, ?_, h.b.trans (hc.below h.b.size (fun k hk => h.rowLe k hk)), h.hm, h.ha⟩⟩
    split
    · rw [cost_modify]; exact h.c
    · exact h.c
theorem ArS.left {w0 wr : World} {ab mb : Nat} {L U M : Int} {v : Value} {l : List (Value × Int)} (h : ArS w0 wr ab mb L U M v l) :
    Calls Try.prog 20 #[.pointer (some ⟨mb, 0, none⟩)] wr (fun e w' => e = .returned (.int .i64 (L - U)) ∧ ArS w0 w' ab mb L U M v l) :=
  (left_reads h.m h.k).mono fun _ _ ⟨he, _, hc⟩ => ⟨he, h.same hc⟩

/-- A meter and an arena of it, both new. -/
theorem ArS.new {w0 w1 w2 w3 : World} {L : Int} {mb ab : Nat} (h1 : Below w0.heap.size w0 w1) (hm : MeterAt w2 mb L 0 0) (hk : MOk L 0 0) (hc : Chg (fun _ => False) w1 w2) (e1 : w1.heap.size = mb) (e2 : w2.heap.size = ab)
    (ha : ∀ B, ArIntAt w3 B ab mb (.slice none 0 0) []) (hd : Chg (fun _ => False) w2 w3) : ArS w0 w3 ab mb L 0 0 (.slice none 0 0) [] :=
  ⟨hm.chg hd (fun h => h), hk, ha _, Int.le_refl _, below_none (below_none h1 hc) hd, by rw [← e1]; exact h1.size, by rw [← e2]; exact Nat.le_trans h1.size hc.size⟩

end Go.Proofs.Ytgbjjceicpmopaa
