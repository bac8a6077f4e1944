/-
  Two arenas of one meter, as the law ArenaCells carries them.
-/
import Derived.Test.YtgbjjceicpmopaaArenaRefused
namespace Go.Proofs.Ytgbjjceicpmopaa
open Go.RowKit

/-- Two arenas of one meter: what they cost together is what it has used. -/
structure Ar2 (w0 wr : World) (ab bb mb : Nat) (L U M : Int) (v1 v2 : Value) (l1 l2 : List (Value × Int)) : Prop where
  m : MeterAt wr mb L U M
  k : MOk L U M
  a : ArIntAt wr w0.heap.size ab mb v1 l1
  a2 : ArIntAt wr w0.heap.size bb mb v2 l2
  c : cost l1 + cost l2 = U
  b : Below w0.heap.size w0 wr
  hm : w0.heap.size ≤ mb
  ha : w0.heap.size ≤ ab
  hb : w0.heap.size ≤ bb
  ne : ab ≠ bb
  apart : ∀ k, v1.ownBlock = some k → v2.ownBlock ≠ some k

theorem Ar2.swap {w0 wr : World} {ab bb mb : Nat} {L U M : Int} {v1 v2 : Value} {l1 l2 : List (Value × Int)} (h : Ar2 w0 wr ab bb mb L U M v1 v2 l1 l2) : Ar2 w0 wr bb ab mb L U M v2 v1 l2 l1 :=
  ⟨h.m, h.k, h.a2, h.a, by have := h.c; omega, h.b, h.hm, h.hb, h.ha, h.ne.symm, fun k h2 h1 => h.apart k h1 h2⟩
theorem Ar2.drew {w0 wr : World} {ab bb mb : Nat} {L U M : Int} {v1 v2 : Value} {l1 l2 : List (Value × Int)} (h : Ar2 w0 wr ab bb mb L U M v1 v2 l1 l2) : Ar2 w0 wr.drew ab bb mb L U M v1 v2 l1 l2 :=
  have hd : Chg (fun _ => False) wr wr.drew := (Chg.refl _ _).drew
  ⟨h.m.chg hd (fun h => h), h.k, h.a.chg hd (fun h => h) (fun _ _ h => h), h.a2.chg hd (fun h => h) (fun _ _ h => h), h.c, below_none h.b hd, h.hm, h.ha, h.hb, h.ne, h.apart⟩
theorem Ar2.len {w0 wr : World} {ab bb mb : Nat} {L U M : Int} {v1 v2 : Value} {l1 l2 : List (Value × Int)} (h : Ar2 w0 wr ab bb mb L U M v1 v2 l1 l2) :
    0 ≤ cost l1 ∧ 0 ≤ cost l2 ∧ (l1.length : Int) ≤ cost l1 ∧ (l2.length : Int) ≤ cost l2 ∧ cost l1 + cost l2 = U ∧ U ≤ L ∧ L ≤ 1099511627776 := by
  have h1 := h.a.len_le
  have h2 := h.a.pos.nonneg
  have h3 := h.a2.len_le
  have h4 := h.a2.pos.nonneg
  have h5 := h.c
  obtain ⟨g0, g1, g2, g3⟩ := h.k
  omega

/-- What a step on the first one leaves. -/
theorem Ar2.step {w0 wr w' : World} {ab bb mb : Nat} {L U M U' M' : Int} {v1 v2 v' : Value} {l1 l2 l' : List (Value × Int)} (h : Ar2 w0 wr ab bb mb L U M v1 v2 l1 l2)
    (hm : MeterAt w' mb L U' M') (hk : MOk L U' M') (ha : ArIntAt w' w0.heap.size ab mb v' l') (hc : Chg (fun k => k = ab ∨ k = mb ∨ v1.ownBlock = some k) wr w') (hu : cost l' + cost l2 = U') (hmv : Moved wr v1 v') :
    Ar2 w0 w' ab bb mb L U' M' v' v2 l' l2 := by
  refine ⟨hm, hk, ha, h.a2.chg hc ?_ ?_, hu, below_ar h.b hc h.ha h.hm (fun _ hk => (h.a.rowLt hk).1), h.hm, h.ha, h.hb, h.ne, ?_⟩
  · rintro (e | e | e)
    · exact h.ne e.symm
    · exact h.a2.neMeter h.m e
    · exact h.a.ne h.a2.blk (by decide) e
  · rintro k hk (e | e | e)
    · subst e; exact h.a2.ne h.a.blk (by decide) hk
    · subst e; exact h.a2.ne h.m (by decide) hk
    · exact h.apart k e hk
  · intro k hk hk2
    rcases hmv with e | ⟨g, e, hg⟩
    · exact h.apart k (e ▸ hk) hk2
    · rw [e] at hk
      have := (h.a2.rowLt hk2).2
      simp at hk
      omega

def A2Put (w0 : World) (ab bb mb : Nat) (L : Int) (v2 : Value) (l2 : List (Value × Int)) (e : Ending) (w' : World) : Prop :=
  ∃ U' M' v' l' r1 r2, e = .returned (.tuple #[.int .i64 r1, .int .i64 r2]) ∧ Ar2 w0 w' ab bb mb L U' M' v' v2 l' l2
theorem Ar2.put {w0 wr : World} {ab bb mb : Nat} {L U M : Int} {v1 v2 : Value} {l1 l2 : List (Value × Int)} (h : Ar2 w0 wr ab bb mb L U M v1 v2 l1 l2) (x n : Int) :
    Calls Try.prog 36 #[.pointer (some ⟨ab, 0, none⟩), .int .i64 x, .int .i64 n] wr (A2Put w0 ab bb mb L v2 l2) :=
  (arIntPut_calls h.a h.m h.k (by have := h.len; omega) h.b.size x n).mono fun _ _ ⟨v', he, ha, hm, hc, hmv⟩ =>
    ⟨_, _, v', _, _, _, he, h.step hm (h.k.put n) ha hc (by rw [cost_putL]; have := h.c; omega) hmv⟩

def A2Any (w0 : World) (ab bb mb : Nat) (L : Int) (v2 : Value) (l2 : List (Value × Int)) (e : Ending) (w' : World) : Prop :=
  ∃ U' M' v' l' r, e = .returned r ∧ Ar2 w0 w' ab bb mb L U' M' v' v2 l' l2
theorem Ar2.cut {w0 wr : World} {ab bb mb : Nat} {L U M : Int} {v1 v2 : Value} {l1 l2 : List (Value × Int)} (h : Ar2 w0 wr ab bb mb L U M v1 v2 l1 l2) (n : Int) :
    Calls Try.prog 39 #[.pointer (some ⟨ab, 0, none⟩), .int .i64 n] wr (A2Any w0 ab bb mb L v2 l2) :=
  (arIntCut_calls h.a h.m h.k (by have := h.len; omega) h.b.size n).mono fun _ _ ⟨v', he, ha, hm, hc, hmv⟩ => by
    have h1 := cost_take_drop l1 (cutK l1.length n)
    have h2 := (h.a.pos.take (cutK l1.length n)).nonneg
    have h3 := (h.a.pos.drop (cutK l1.length n)).nonneg
    have h4 := h.c
    have h5 := h.len
    refine ⟨_, _, v', _, _, he, h.step hm ?_ ha hc (by omega) hmv⟩
    have := h.k
    unfold MOk at this ⊢
    omega
theorem Ar2.set {w0 wr : World} {ab bb mb : Nat} {L U M : Int} {v1 v2 : Value} {l1 l2 : List (Value × Int)} (h : Ar2 w0 wr ab bb mb L U M v1 v2 l1 l2) (i x : Int) :
    Calls Try.prog 40 #[.pointer (some ⟨ab, 0, none⟩), .int .i64 i, .int .i64 x] wr (A2Any w0 ab bb mb L v2 l2) :=
  (arIntSet_calls h.a i x).mono fun _ _ ⟨he, ha, hc⟩ => by
    refine ⟨U, M, v1, _, _, he, h.step (h.m.chg hc (fun e => h.a.ne h.m (by decide) e)) h.k ha (hc.mono (fun _ h => .inr (.inr h))) ?_ (Moved.same _ _)⟩
    split
    · rw [cost_modify]; exact h.c
    · exact h.c

end Go.Proofs.Ytgbjjceicpmopaa
