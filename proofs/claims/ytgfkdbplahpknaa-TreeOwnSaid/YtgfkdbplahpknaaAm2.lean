/-
  The machine over typed data, part 2: what calls come to, read as typed data, holds of the model.
-/
import Derived.Test.YtgfkdbplahpknaaAm1
import Derived.Laws.AppendOwn
import Derived.Laws.BytesArg
import Derived.Laws.IdiomStrings
import Derived.Laws.MakeOwn
import Derived.MapKept
set_option linter.all false
namespace Go.Am
variable {P : Program} {O : Orc} {FB : Nat → Nat → Prop} {w : World} {s : St} {tm : Nat → Value} {ι : Key → Nat}
theorem look_over : ∀ (h : Heap) (k q : Key) (o : Ob), look (over h k o) q = if q = k then (look h k).map (fun _ => o) else look h q
 | [], k, q, o => by simp [over, look]
 | (j, u) :: h, k, q, o => by
  simp only [over]
  by_cases e : j = k
  ·subst e
   rw [if_pos rfl]
   simp only [look]
   by_cases e2 : j = q
   ·subst e2; simp
   ·rw [if_neg e2, if_neg e2, if_neg (fun x => e2 x.symm)]
  ·rw [if_neg e]
   simp only [look]
   by_cases e2 : j = q
   ·subst e2
    rw [if_pos rfl, if_pos rfl, if_neg e]
   ·rw [if_neg e2, if_neg e2, look_over h k q o, if_neg e]
def takeE (e : List AV) : Option Nat → List AV
 | some t => e.set t (e.getD t .any).drop
 | none => e
theorem takeE_get (e : List AV) (t : Option Nat) (i : Nat) : (takeE e t).getD i .any = if some i = t then (e.getD i .any).drop else e.getD i .any := by
 cases t with
 | none => simp [takeE]
 | some t =>
  simp only [takeE, getD_set, Option.some.injEq]
  by_cases h : i = t
  ·subst h
   by_cases h2 : i < e.length
   ·simp [h2]
   ·have : e.getD i .any = .any := by simp [List.getD_eq_getElem?_getD, List.getElem?_eq_none (by omega : e.length ≤ i)]
    simp [h2, AV.drop]
  ·simp [h]
theorem take_owns {w : World} {h : Heap} {t : Option Nat} {i : Nat} {p : List Nat} {x : Nat × Nat} (e : owns w ⟨takeE s.env t, h⟩ tm ι (.sl i p) = some x) : some i ≠ t ∧ ∀ w' h', owns w' ⟨s.env, h'⟩ tm ι (.sl i p) = some x := by
 simp only [owns, St.get, takeE_get] at e ⊢
 by_cases hi : some i = t
 ·rw [if_pos hi] at e
  cases hg : s.env.getD i .any <;> rw [hg] at e <;> simp [AV.drop] at e
 ·rw [if_neg hi] at e
  exact ⟨hi, fun _ _ => e⟩
theorem regAt_congr {t : Ty} {c c' : Nat → Value} {p : List Nat} (h : ∀ u, pTy t p = some (.slice u) → c (pOff t p) = c' (pOff t p)) : regAt t c p = regAt t c' p := by
 unfold regAt
 cases hp : pTy t p with
 | none => rfl
 | some u =>
  cases u with
  | slice u => rw [h u hp]
  | _ => rfl
theorem roomAt_congr {t : Ty} {c c' : Nat → Value} {p : List Nat} (h : ∀ u, pTy t p = some (.slice u) → c (pOff t p) = c' (pOff t p)) (hr : RoomAt w t c' p) : RoomAt w t c p := by
 unfold RoomAt at hr ⊢
 cases hp : pTy t p with
 | none => trivial
 | some u =>
  rw [hp] at hr
  cases u with
  | slice u => rw [h u hp]; exact hr
  | _ => trivial
theorem regAt_app {T t : Ty} {c c' : Nat → Value} {p q : List Nat} (h : pTy T p = some t) (hc : ∀ u, pTy t q = some (.slice u) → c (pOff T p + pOff t q) = c' (pOff t q)) (hn : pTy t q = none → pTy T (p ++ q) = none) : regAt T c (p ++ q) = regAt t c' q := by
 unfold regAt
 cases hq : pTy t q with
 | none => rw [hn hq]
 | some u =>
  obtain ⟨a1, a2⟩ := pOff_app T p q t u h hq
  rw [a2, a1]
  cases u with
  | slice u => rw [hc u hq]
  | _ => rfl
theorem roomAt_app {T t : Ty} {c c' : Nat → Value} {p q : List Nat} (h : pTy T p = some t) (hc : ∀ u, pTy t q = some (.slice u) → c (pOff T p + pOff t q) = c' (pOff t q)) (hn : pTy t q = none → pTy T (p ++ q) = none) (hr : RoomAt w t c' q) : RoomAt w T c (p ++ q) := by
 unfold RoomAt at hr ⊢
 cases hq : pTy t q with
 | none => rw [hn hq]; trivial
 | some u =>
  obtain ⟨a1, a2⟩ := pOff_app T p q t u h hq
  rw [a2, a1]
  rw [hq] at hr
  cases u with
  | slice u => rw [hc u hq]; exact hr
  | _ => trivial
theorem pTy_app_none : ∀ (T : Ty) (p q : List Nat) (t : Ty), pTy T p = some t → pTy t q = none → pTy T (p ++ q) = none
 | T, [], q, t, h, hq => by
  have : T = t := by cases T <;> simpa [pTy] using h
  subst this; exact hq
 | .pair a b, 0 :: p, q, t, h, hq => by simp only [pTy] at h; simpa [pTy] using pTy_app_none a p q t h hq
 | .pair a b, (f + 1) :: p, q, t, h, hq => by simp only [pTy] at h; have := pTy_app_none b (f :: p) q t h hq; simp only [List.cons_append] at this ⊢; simpa only [pTy] using this
 | .arr gw n v, i :: p, q, t, h, hq => by
  simp only [pTy] at h
  split at h
  ·rename_i hi; have := pTy_app_none v p q t h hq; simp only [List.cons_append, pTy, hi, if_true]; exact this
  ·cases h
 | .expr, [0], q, t, h, hq => by simp [pTy] at h; subst h; cases q <;> simp [pTy] at hq ⊢
 | .expr, [1], q, t, h, hq => by simp [pTy] at h; subst h; cases q <;> simp [pTy] at hq ⊢
 | .expr, [2], q, t, h, hq => by simp [pTy] at h; subst h; cases q <;> simp [pTy] at hq ⊢
 | .expr, 0 :: _ :: _, q, t, h, _ => by simp [pTy] at h
 | .expr, 1 :: _ :: _, q, t, h, _ => by simp [pTy] at h
 | .expr, 2 :: _ :: _, q, t, h, _ => by simp [pTy] at h
 | .expr, (_ + 3) :: _, q, t, h, _ => by simp [pTy] at h
 | .int _, _ :: _, q, t, h, _ => by simp [pTy] at h
 | .bool, _ :: _, q, t, h, _ => by simp [pTy] at h
 | .str, _ :: _, q, t, h, _ => by simp [pTy] at h
 | .unit, _ :: _, q, t, h, _ => by simp [pTy] at h
 | .ref, _ :: _, q, t, h, _ => by simp [pTy] at h
 | .wref, _ :: _, q, t, h, _ => by simp [pTy] at h
 | .slice _, _ :: _, q, t, h, _ => by simp [pTy] at h
 | .mref _ _, _ :: _, q, t, h, _ => by simp [pTy] at h
 | .fnc, _ :: _, q, t, h, _ => by simp [pTy] at h
 | .sref _, _ :: _, q, t, h, _ => by simp [pTy] at h
 | .mp _ _, _ :: _, q, t, h, _ => by simp [pTy] at h
theorem Rel.store (h : Rel O FB w s tm ι) {k : Key} {ob : Ob} {p : List Nat} {d : Dat} {y : den ob.d.t} {v : Value} {own : List (List Nat)} {src : Option Nat} {w' : World} {arr : Array Value} {T : TypeId} (hk : look s.heap k = some ob) (hv : VT (rlOf w FB s tm ι) d.t d.x v) (hu : upd ob.d.t ob.d.x p d = some y)
  (hsrc : ∀ q ∈ own, RoomAt w d.t (cellsF v) q ∧ (regAt d.t (cellsF v) q = none ∨ ∃ t, src = some t ∧ owns w s tm ι (.sl t q) = regAt d.t (cellsF v) q))
  (hgh : ob.d.t.ghost = false) (hb : w.heap[ι k]? = some (.cells arr T (0, 0))) (hs : Stored w w' (ι k) (pOff ob.d.t p) T (0, 0) arr v.cells.toList) :
  Stp O FB w s tm ι w' ⟨takeE s.env src, over s.heap k ⟨⟨ob.d.t, y⟩, own.map (p ++ ·) ++ ob.own.filter fun q => !isPre p q⟩⟩ tm ι := by
 obtain ⟨hfine, hob⟩ := h.ob k ob hk
 obtain ⟨arr0, T0, hb0, hsz, hsz2, hrv⟩ := hob.of_cells hb hgh
 rw [hb] at hb0
 simp only [Option.some.injEq, Obj.cells.injEq] at hb0
 obtain ⟨rfl, rfl, _⟩ := hb0
 obtain ⟨arr', q1, q2, q3⟩ := hs.this
 obtain ⟨u1, u2, u3⟩ := RV.upd ob.d.t ob.d.x p _ (cellsF v) d y hrv hv.rv hu
 have harr' : ∀ j, arr'.getD j undef = ovr (fun j => arr.getD j undef) (pOff ob.d.t p) d.t.size (cellsF v) j := by
  intro j
  rw [q3 j]
  unfold ovr
  rw [Array.length_toList, hv.size]
  by_cases hj : pOff ob.d.t p ≤ j ∧ j < pOff ob.d.t p + d.t.size
  ·rw [if_pos hj, if_pos hj]
   unfold cellsF
   rw [Array.getD_eq_getD_getElem?, List.getD_eq_getElem?_getD, Array.getElem?_toList]
  ·rw [if_neg hj, if_neg hj]
 have hbf' : blockF w' (ι k) = fun j => arr'.getD j undef := by funext j; unfold blockF; rw [q1]
 have hbf : blockF w (ι k) = fun j => arr.getD j undef := by funext j; unfold blockF; rw [hb]
 have hinj : ∀ q o, look s.heap q = some o → o.d.t.ghost = false → ι q = ι k → q = k := by
  intro q o hq hg e
  have := h.dj (.ob q) (.ob k) (ι q) 0 0 (by simp [owns, hq, hg]) (by simp [owns, hk, e, hgh])
  injection this
 have hbo : ∀ q o, look s.heap q = some o → o.d.t.ghost = false → q ≠ k → blockF w' (ι q) = blockF w (ι q) := by
  intro q o hq hg e
  unfold blockF; rw [hs.other _ fun e2 => e (hinj q o hq hg e2)]
 have hbr : ∀ q o, look s.heap q = some o → q ≠ k → ∀ r, regAt o.d.t (blockF w' (ι q)) r = regAt o.d.t (blockF w (ι q)) r := by
  intro q o hq e r
  by_cases hg : o.d.t.ghost = true
  ·rw [ghost_regAt hg, ghost_regAt hg]
  ·rw [hbo q o hq (by simpa using hg) e]
 have inside : ∀ q u, pTy d.t q = some (.slice u) → blockF w' (ι k) (pOff ob.d.t p + pOff d.t q) = cellsF v (pOff d.t q) := by
  intro q u hq
  rw [hbf']
  simp only
  have := off_lt d.t q u hq
  rw [harr', ovr_in (by omega)]
  congr 1; omega
 have outside : ∀ q u, isPre p q = false → pTy ob.d.t q = some (.slice u) → blockF w' (ι k) (pOff ob.d.t q) = blockF w (ι k) (pOff ob.d.t q) := by
  intro q u hp hq
  rw [hbf', hbf]
  simp only
  rw [harr', ovr_out (apart_path ob.d.t p q d.t u u1 hq hp)]
 have hnone : ∀ q, pTy d.t q = none → pTy ob.d.t (p ++ q) = none := fun q hq => pTy_app_none ob.d.t p q d.t u1 hq
 have hregIn : ∀ q, regAt ob.d.t (blockF w' (ι k)) (p ++ q) = regAt d.t (cellsF v) q := fun q => regAt_app u1 (inside q) (hnone q)
 have hregOut : ∀ q, isPre p q = false → regAt ob.d.t (blockF w' (ι k)) q = regAt ob.d.t (blockF w (ι k)) q := fun q hq => regAt_congr fun u hu => outside q u hq hu
 have hown : ∀ l x, owns w' ⟨takeE s.env src, over s.heap k ⟨⟨ob.d.t, y⟩, own.map (p ++ ·) ++ ob.own.filter fun q => !isPre p q⟩⟩ tm ι l = some x →
   (∃ q t, l = .fd k (p ++ q) ∧ src = some t ∧ owns w s tm ι (.sl t q) = some x) ∨ ((∀ t q, src = some t → l ≠ .sl t q) ∧ (∀ q, l ≠ .fd k (p ++ q)) ∧ owns w s tm ι l = some x) := by
  intro l x hl
  cases l with
  | sl i q =>
   obtain ⟨g1, g2⟩ := take_owns hl
   exact .inr ⟨fun t q' e1 e2 => by injection e2 with e3 _; subst e3; exact g1 e1.symm, fun q' => by simp, g2 w s.heap⟩
  | fd q r =>
   simp only [owns, look_over] at hl
   by_cases e : q = k
   ·subst e
    rw [if_pos rfl, hk] at hl
    simp only [Option.map_some] at hl
    split at hl
    ·rename_i hr
     rcases List.mem_append.1 hr with hr | hr
     ·obtain ⟨r', hr1, rfl⟩ := List.mem_map.1 hr
      rw [hregIn r'] at hl
      rcases (hsrc r' hr1).2 with e | ⟨t, e1, e2⟩
      ·rw [e] at hl; cases hl
      ·exact .inl ⟨r', t, rfl, e1, by rw [e2]; exact hl⟩
     ·obtain ⟨hr1, hr2⟩ := List.mem_filter.1 hr
      have hr3 : isPre p r = false := by simpa using hr2
      rw [hregOut r hr3] at hl
      refine .inr ⟨fun t q' _ => by simp, fun q' e => ?_, ?_⟩
      ·injection e with _ e; rw [e, app_pre] at hr3; cases hr3
      ·simp only [owns, hk]; rw [if_pos hr1]; exact hl
    ·cases hl
   ·rw [if_neg e] at hl
    refine .inr ⟨fun t q' _ => by simp, fun q' e2 => by injection e2 with e3 _; exact e e3, ?_⟩
    cases hq : look s.heap q with
    | none => rw [hq] at hl; cases hl
    | some o =>
     rw [hq] at hl
     simp only [hbr q o hq e] at hl
     simp only [owns, hq]; exact hl
  | ob q =>
   simp only [owns, look_over] at hl
   refine .inr ⟨fun t q' _ => by simp, fun q' => by simp, ?_⟩
   by_cases e : q = k
   ·subst e
    rw [if_pos rfl, hk] at hl
    simp only [owns, hk]; exact hl
   ·rw [if_neg e] at hl
    simp only [owns]; exact hl
 have hkt : ∀ q x, (rlOf w FB s tm ι).kt q = some x → (rlOf w' FB ⟨takeE s.env src, over s.heap k ⟨⟨ob.d.t, y⟩, own.map (p ++ ·) ++ ob.own.filter fun q => !isPre p q⟩⟩ tm ι).kt q = some x := by
  intro q x hq
  simp only [rlOf, ktOf, look_over] at hq ⊢
  by_cases e : q = k
  ·subst e; rw [if_pos rfl, hk]; rw [hk] at hq; exact hq
  ·rw [if_neg e]; exact hq
 have hrm : ∀ b i, b < w.heap.size → (w'.cell? ⟨b, i, none⟩).isSome = (w.cell? ⟨b, i, none⟩).isSome ∧ w'.frozen? ⟨b, i, none⟩ = w.frozen? ⟨b, i, none⟩ ∧ w'.shape? b = w.shape? b := by
  intro b i _
  by_cases e : b = ι k
  ·subst e
   refine ⟨?_, ?_, by simp [World.shape?, q1, hb, q2]⟩
   ·rw [cell_block q1, cell_block hb]
    by_cases hi : i < arr.size
    ·rw [Array.getElem?_eq_getElem hi, Array.getElem?_eq_getElem (by omega)]; rfl
    ·rw [Array.getElem?_eq_none (by omega), Array.getElem?_eq_none (by omega)]
   ·simp [World.frozen?, q1, hb]
  ·refine ⟨by unfold World.cell?; rw [hs.other b e], by unfold World.frozen?; rw [hs.other b e], by unfold World.shape?; rw [hs.other b e]⟩
 have hkg : ∀ q x, (rlOf w FB s tm ι).kt q = some x → KtGo (rlOf w FB s tm ι) (rlOf w' FB ⟨takeE s.env src, over s.heap k ⟨⟨ob.d.t, y⟩, own.map (p ++ ·) ++ ob.own.filter fun q => !isPre p q⟩⟩ tm ι) q x := fun q x hq => .of (hkt q x hq) fun _ => Ext.keep hrm
 refine h.step (Nat.le_of_eq hs.size.symm) (fun b i hp => ?_) (fun l b lo hl => ?_) (fun l l' b lo lo' h1 h2 => ?_) (fun hc i => ?_) (fun hc q o hq => ?_) (fun i own' t x e q hq => ?_) (fun q o hq r hr => ?_)
 ·have : b ≠ ι k := by
   intro e; subst e
   have := hp.2.1 (.ob k) 0 (by simp [owns, hk, hgh])
   omega
  unfold World.cell?; rw [hs.other b this]
 ·rcases hown l _ hl with ⟨q, t, _, _, e⟩ | ⟨_, _, e⟩
  ·exact .inl ⟨_, lo, e, Nat.le_refl _⟩
  ·exact .inl ⟨_, lo, e, Nat.le_refl _⟩
 ·rcases hown l _ h1 with ⟨q, t, e1, e2, e3⟩ | ⟨n1, m1, e3⟩ <;> rcases hown l' _ h2 with ⟨q', t', f1, f2, f3⟩ | ⟨n2, m2, f3⟩
  ·have := h.dj _ _ b lo lo' e3 f3
   injection this with _ hq
   rw [e1, f1, hq]
  ·have := h.dj _ _ b lo lo' e3 f3
   exact absurd this.symm (n2 t q e2)
  ·have := h.dj _ _ b lo lo' e3 f3
   exact absurd this (n1 t' q' f2)
  ·exact h.dj _ _ b lo lo' e3 f3
 ·have := (h.vr i).le ⟨hc, hkg⟩
  simp only [St.get, takeE_get]
  split
  ·exact this.drop
  ·exact this
 ·simp only [look_over] at hq
  by_cases e : q = k
  ·subst e
   rw [if_pos rfl, hk] at hq
   simp only [Option.map_some, Option.some.injEq] at hq
   subst hq
   refine ⟨hfine, .inr (.inr ⟨arr', T, q1, fun hg => ⟨by rw [q2]; exact (hsz hg).1, (hsz hg).2⟩, by rw [q2]; exact hsz2, ?_⟩)⟩
   have := RV.le ⟨hc, hkg⟩ _ _ _ hfine u2
   exact RV.congr _ _ _ _ (fun j _ => harr' j) this
  ·rw [if_neg e] at hq
   obtain ⟨g1, g2⟩ := h.ob q o hq
   exact ⟨g1, g2.keep ⟨hc, hkg⟩ g1 fun hg => hs.other _ fun e2 => e (hinj q o hq hg e2)⟩
 ·simp only [St.get, takeE_get] at e
  split at e
  ·cases hg : s.env.getD i .any <;> rw [hg] at e <;> simp [AV.drop] at e
   rw [e.1] at hq; cases hq
  ·exact room_same hrm (Nat.le_of_eq hs.size.symm) (h.rs i own' t x e q hq)
 ·simp only [look_over] at hq
  by_cases e : q = k
  ·subst e
   rw [if_pos rfl, hk] at hq
   simp only [Option.map_some, Option.some.injEq] at hq
   subst hq
   rcases List.mem_append.1 hr with hr | hr
   ·obtain ⟨r', hr1, rfl⟩ := List.mem_map.1 hr
    exact roomAt_app u1 (inside r') (hnone r') (room_same hrm (Nat.le_of_eq hs.size.symm) (hsrc r' hr1).1)
   ·obtain ⟨hr1, hr2⟩ := List.mem_filter.1 hr
    exact roomAt_congr (fun u hu => outside r u (by simpa using hr2) hu) (room_same hrm (Nat.le_of_eq hs.size.symm) (h.rf q ob hk r hr1))
  ·rw [if_neg e] at hq
   by_cases hg : o.d.t.ghost = true
   ·exact ghost_roomAt hg _ _ _
   ·rw [hbo q o hq (by simpa using hg) e]
    exact room_same hrm (Nat.le_of_eq hs.size.symm) (h.rf q o hq r hr)
end Go.Am
namespace Go.Am
variable {P : Program} {O : Orc} {FB : Nat → Nat → Prop} {w : World} {s : St} {tm : Nat → Value} {ι : Key → Nat}
theorem below_mem {p q : List Nat} {own : List (List Nat)} (h : q ∈ below p own) : (p ++ q) ∈ own := by
 unfold below at h
 obtain ⟨r, hr, e⟩ := List.mem_filterMap.1 h
 split at e
 ·rename_i hp
  obtain ⟨r', rfl⟩ := pre_app p r hp
  simp only [List.drop_left', Option.some.injEq] at e
  subst e; exact hr
 ·cases e
theorem strip_mem {p q : List Nat} {own : List (List Nat)} (h : q ∈ strip p own) : q ∈ own ∧ isPre p q = false := by
 obtain ⟨h1, h2⟩ := List.mem_filter.1 h
 exact ⟨h1, by simpa using h2⟩
theorem Dat.av_tv {d : Dat} {own own' : List (List Nat)} {t : Ty} {x : den t} (h : d.av own = .tv own' t x) : own' = own ∧ d = ⟨t, x⟩ := by
 obtain ⟨dt, dx⟩ := d
 cases dt with
 | ref => cases dx with
  | none => simp only [Dat.av] at h; injection h with h1 h2 h3; subst h1; subst h2; cases h3; exact ⟨rfl, rfl⟩
  | some k => simp [Dat.av] at h
 | _ => simp only [Dat.av] at h; injection h with h1 h2 h3; subst h1; subst h2; cases h3; exact ⟨rfl, rfl⟩
theorem Dat.av_ok' {R : Rl} {d : Dat} {own : List (List Nat)} {v : Value} (h : VT R d.t d.x v) : VR R O (d.av own) v := by
 have := Dat.av_ok (O := O) h
 obtain ⟨dt, dx⟩ := d
 cases dt with
 | ref => cases dx with
  | none => simpa only [Dat.av, VR] using this
  | some k => simpa only [Dat.av] using this
 | _ => simpa only [Dat.av, VR] using this
theorem Rel.loadTake (h : Rel O FB w s tm ι) {k : Key} {ob : Ob} {p : List Nat} {d : Dat} {v : Value} (n : Nat) (hk : look s.heap k = some ob) (hp : pTy ob.d.t p = some d.t) (hv : VT (rlOf w FB s tm ι) d.t d.x v)
  (hcv : ∀ j, j < d.t.size → cellsF v j = blockF w (ι k) (pOff ob.d.t p + j)) :
  Stp O FB w s tm ι w ⟨s.env.set n (d.av (below p ob.own)), over s.heap k ⟨ob.d, strip p ob.own⟩⟩ (setF tm s.env.length n v) ι := by
 have hreg : ∀ q, regAt ob.d.t (blockF w (ι k)) (p ++ q) = regAt d.t (cellsF v) q := fun q =>
  regAt_app hp (fun u hu => (hcv _ (off_lt d.t q u hu)).symm) (fun hq => pTy_app_none _ _ _ _ hp hq)
 have hown : ∀ l x, owns w ⟨s.env.set n (d.av (below p ob.own)), over s.heap k ⟨ob.d, strip p ob.own⟩⟩ (setF tm s.env.length n v) ι l = some x →
   (∃ q, l = .sl n q ∧ n < s.env.length ∧ owns w s tm ι (.fd k (p ++ q)) = some x) ∨ ((∀ q, n < s.env.length → l ≠ .sl n q) ∧ (∀ q, l ≠ .fd k (p ++ q)) ∧ owns w s tm ι l = some x) := by
  intro l x hl
  cases l with
  | sl i q =>
   simp only [owns, St.get, getD_set, setF] at hl
   by_cases hc : i = n ∧ n < s.env.length
   ·rw [if_pos hc] at hl
    simp only [if_pos hc] at hl
    obtain ⟨rfl, hlt⟩ := hc
    cases hd : d.av (below p ob.own) with
    | tv own t y =>
     rw [hd] at hl
     obtain ⟨rfl, rfl⟩ := Dat.av_tv hd
     simp only at hl
     split at hl
     ·rename_i hq
      refine .inl ⟨q, rfl, hlt, ?_⟩
      simp only [owns, hk]
      rw [if_pos (below_mem hq), hreg q]; exact hl
     ·cases hl
    | _ => rw [hd] at hl; simp at hl
   ·rw [if_neg hc] at hl
    simp only [if_neg hc] at hl
    exact .inr ⟨fun q' hlt e => by injection e with e1 _; exact hc ⟨e1, hlt⟩, fun q' => by simp, hl⟩
  | fd q r =>
   simp only [owns, look_over] at hl
   by_cases e : q = k
   ·subst e
    rw [if_pos rfl, hk] at hl
    simp only [Option.map_some] at hl
    split at hl
    ·rename_i hr
     obtain ⟨h1, h2⟩ := strip_mem hr
     refine .inr ⟨fun q' _ => by simp, fun q' e => ?_, ?_⟩
     ·injection e with _ e; rw [e, app_pre] at h2; cases h2
     ·simp only [owns, hk]; rw [if_pos h1]; exact hl
    ·cases hl
   ·rw [if_neg e] at hl
    exact .inr ⟨fun q' _ => by simp, fun q' e2 => by injection e2 with e3 _; exact e e3, hl⟩
  | ob q =>
   simp only [owns, look_over] at hl
   refine .inr ⟨fun q' _ => by simp, fun q' => by simp, ?_⟩
   by_cases e : q = k
   ·subst e
    rw [if_pos rfl, hk] at hl
    simp only [owns, hk]; exact hl
   ·rw [if_neg e] at hl
    exact hl
 have hkt : ∀ q x, (rlOf w FB s tm ι).kt q = some x → (rlOf w FB ⟨s.env.set n (d.av (below p ob.own)), over s.heap k ⟨ob.d, strip p ob.own⟩⟩ (setF tm s.env.length n v) ι).kt q = some x := by
  intro q x hq
  simp only [rlOf, ktOf, look_over] at hq ⊢
  by_cases e : q = k
  ·subst e; rw [if_pos rfl, hk]; rw [hk] at hq; exact hq
  ·rw [if_neg e]; exact hq
 refine h.step (Nat.le_refl _) (fun _ _ _ => rfl) (fun l b lo hl => ?_) (fun l l' b lo lo' h1 h2 => ?_) (fun hc i => ?_) (fun hc q o hq => ?_) (fun i own' t x e q hq => ?_) (fun q o hq r hr => ?_)
 ·rcases hown l _ hl with ⟨q, _, _, e⟩ | ⟨_, _, e⟩
  ·exact .inl ⟨_, lo, e, Nat.le_refl _⟩
  ·exact .inl ⟨_, lo, e, Nat.le_refl _⟩
 ·rcases hown l _ h1 with ⟨q, e1, e2, e3⟩ | ⟨n1, m1, e3⟩ <;> rcases hown l' _ h2 with ⟨q', f1, f2, f3⟩ | ⟨n2, m2, f3⟩
  ·have := h.dj _ _ b lo lo' e3 f3
   injection this with _ hq
   rw [e1, f1, List.append_cancel_left hq]
  ·have := h.dj _ _ b lo lo' e3 f3
   exact absurd this.symm (m2 q)
  ·have := h.dj _ _ b lo lo' e3 f3
   exact absurd this (m1 q')
  ·exact h.dj _ _ b lo lo' e3 f3
 ·simp only [St.get, getD_set, setF]
  split
  ·exact (Dat.av_ok' hv).le ⟨hc, fun q x hq => .of (hkt q x hq) fun _ h => h⟩
  ·exact (h.vr i).le ⟨hc, fun q x hq => .of (hkt q x hq) fun _ h => h⟩
 ·simp only [look_over] at hq
  by_cases e : q = k
  ·subst e
   rw [if_pos rfl, hk] at hq
   simp only [Option.map_some, Option.some.injEq] at hq
   subst hq
   obtain ⟨g1, g2⟩ := h.ob q ob hk
   exact ⟨g1, g2.keep ⟨hc, fun q x hq => .of (hkt q x hq) fun _ h => h⟩ g1 fun _ => rfl⟩
  ·rw [if_neg e] at hq
   obtain ⟨g1, g2⟩ := h.ob q o hq
   exact ⟨g1, g2.keep ⟨hc, fun q x hq => .of (hkt q x hq) fun _ h => h⟩ g1 fun _ => rfl⟩
 ·simp only [St.get, getD_set] at e
  simp only [setF]
  by_cases hc : i = n ∧ n < s.env.length
  ·rw [if_pos hc] at e ⊢
   obtain ⟨rfl, rfl⟩ := Dat.av_tv e
   have hm := below_mem hq
   have hr := h.rf k ob hk _ hm
   unfold RoomAt at hr ⊢
   cases hpt : pTy t q with
   | none => trivial
   | some u =>
    obtain ⟨a1, a2⟩ := pOff_app ob.d.t p q t u hp hpt
    rw [a2, a1] at hr
    cases u with
    | slice u => rw [hcv _ (off_lt t q u hpt)]; exact hr
    | _ => trivial
  ·rw [if_neg hc] at e ⊢
   exact h.rs i own' t x e q hq
 ·simp only [look_over] at hq
  by_cases e : q = k
  ·subst e
   rw [if_pos rfl, hk] at hq
   simp only [Option.map_some, Option.some.injEq] at hq
   subst hq
   exact h.rf q ob hk r (strip_mem hr).1
  ·rw [if_neg e] at hq
   exact h.rf q o hq r hr
theorem VT.row {FB : Nat → Nat → Prop} (h : Rel O FB w s tm ι) {t : Ty} {l : List (den t)} {arr : Array Value} {T : TypeId} {fz : Nat × Nat} {cap : Nat} (hf : (Ty.slice t).fine = true) (hsz : l.length * t.size ≤ arr.size) (hcap : l.length ≤ cap)
  (hc : ∀ i, i < l.length → RV (rlOf (w.alloc (.cells arr T fz)) FB s tm ι) t (l.getD i (Am.zero t)) (fun j => arr.getD (i * t.size + j) undef)) :
  VT (rlOf (w.alloc (.cells arr T fz)) FB s tm ι) (.slice t) l (.slice (some ⟨w.heap.size, 0, none⟩) l.length cap) := by
 have hnw := alloc_new w (.cells arr T fz)
 refine ⟨hf, nofun, fun _ => rfl, rfl, ?_⟩
 simp only [RV, cellsF]
 refine ⟨some ⟨w.heap.size, 0, none⟩, cap, w.heap.size, 0, fun i j => arr.getD (i * t.size + j) undef, rfl, hcap, nofun, fun _ => rfl, fun i hi j hj => ?_, hc⟩
 have hlt : i * t.size + j < arr.size := by
  have : i * t.size + t.size ≤ l.length * t.size := by rw [← Nat.succ_mul]; exact Nat.mul_le_mul_right _ hi
  omega
 refine ⟨?_, ?_⟩
 ·show (w.alloc (.cells arr T fz)).cell? ⟨w.heap.size, 0 + i * t.size + j, none⟩ = _
  rw [cell_block hnw, Nat.zero_add, Array.getElem?_eq_getElem hlt]; simp [Array.getD_eq_getD_getElem?, hlt]
 ·refine ⟨by rw [alloc_size]; omega, fun lc lo hl => ?_, fun lo hl => ?_⟩
  ·have : owns w s tm ι lc = some (w.heap.size, lo) := by
    rw [← hl]
    cases lc with
    | sl i p => rfl
    | fd q p =>
     simp only [owns]
     cases hq : look s.heap q with
     | none => rfl
     | some o =>
      simp only [(h.ob q o hq).2.sameF (alloc_heap w _)]
    | ob q => rfl
   have := h.own_lt this; omega
  ·have := h.fs _ _ hl; omega
end Go.Am
namespace Go.Am
variable {P : Program} {O : Orc} {FB : Nat → Nat → Prop} {w : World} {s : St} {tm : Nat → Value} {ι : Key → Nat}
theorem owns_heap {w w' : World} (h : w'.heap = w.heap) : owns w' s tm ι = owns w s tm ι := by
 funext l
 cases l with
 | sl i p => rfl
 | fd k p =>
  have eb : blockF w' (ι k) = blockF w (ι k) := by funext j; simp only [blockF, h]
  simp only [owns, eb]
 | ob k => rfl
theorem Rel.heapEq (h : Rel O FB w s tm ι) {w' : World} (e : w'.heap = w.heap) : Stp O FB w s tm ι w' s tm ι := by
 have ec : ∀ a, w'.cell? a = w.cell? a := fun a => by simp only [World.cell?, e]
 have ef : ∀ a, w'.frozen? a = w.frozen? a := fun a => by simp only [World.frozen?, e]
 have eb : ∀ b, blockF w' b = blockF w b := fun b => by funext j; simp only [blockF, e]
 have hrm : ∀ b i, b < w.heap.size → (w'.cell? ⟨b, i, none⟩).isSome = (w.cell? ⟨b, i, none⟩).isSome ∧ w'.frozen? ⟨b, i, none⟩ = w.frozen? ⟨b, i, none⟩ ∧ w'.shape? b = w.shape? b := fun b i _ => by rw [ec, ef]; exact ⟨rfl, rfl, by simp only [World.shape?, e]⟩
 have hk : ∀ q x, (rlOf w FB s tm ι).kt q = some x → KtGo (rlOf w FB s tm ι) (rlOf w' FB s tm ι) q x := fun _ _ h => .of h fun _ => Ext.keep hrm
 refine h.step (by rw [e]; exact Nat.le_refl _) (fun b o _ => ec _) (fun l b lo hl => .inl ⟨l, lo, by rw [← owns_heap e]; exact hl, Nat.le_refl _⟩) (fun l l' b lo lo' h1 h2 => by rw [owns_heap e] at h1 h2; exact h.dj l l' b lo lo' h1 h2)
  (fun hc i => (h.vr i).le ⟨hc, hk⟩) (fun hc q o hq => ?_) (fun i own t x g p hp => room_same hrm (by rw [e]; exact Nat.le_refl _) (h.rs i own t x g p hp)) (fun q o hq p hp => by rw [eb]; exact room_same hrm (by rw [e]; exact Nat.le_refl _) (h.rf q o hq p hp))
 obtain ⟨g1, g2⟩ := h.ob q o hq
 exact ⟨g1, g2.keep ⟨hc, hk⟩ g1 fun _ => by rw [e]⟩
theorem alloc_le (h : Rel O FB w s tm ι) (o : Obj) : (rlOf w FB s tm ι).le (rlOf (w.alloc o) FB s tm ι) := by
 have hown : ∀ l, owns (w.alloc o) s tm ι l = owns w s tm ι l := by
  intro l
  cases l with
  | sl i p => rfl
  | fd k p =>
   simp only [owns]
   cases hk : look s.heap k with
   | none => rfl
   | some ob => simp only [(h.ob k ob hk).2.sameF (alloc_heap w o)]
  | ob k => rfl
 exact ⟨rl_le (by rw [alloc_size]; omega) (fun l b lo hl _ => ⟨l, lo, by rw [← hown l]; exact hl, Nat.le_refl _⟩) fun b i hp => alloc_cell w o b i hp.1, fun k x hk => .of hk fun _ => Ext.keep fun b i hb => ⟨by rw [alloc_cell w o b i hb], alloc_frozen w o b i hb, alloc_shape w o b hb⟩⟩
def RowOf (R : Rl) (t : Ty) (l : List (den t)) (arr : Array Value) : Prop := arr.size = l.length * t.size ∧ ∀ i, i < l.length → RV R t (l.getD i (zero t)) (fun j => arr.getD (i * t.size + j) undef)
theorem VT.dt {R : Rl} {t : Ty} {a : AV} {x : den t} {v : Value} (h : VR R O a v) (e : asT t a = some x) : VT R t x v := by
 unfold asT at e
 split at e
 ·split at e
  ·rename_i u
   subst u
   simp only [Option.some.injEq] at e
   subst e
   simpa only [VR] using h
  ·cases e
 ·cases e
theorem fillSl_ok {R : Rl} {t : Ty} (hs : t.size ≠ 0) : ∀ (ps : List (Nat × AV)) (vs : List (Nat × Value)) (l : List (den t)) (arr : Array Value) (r : List (den t)), ps.length = vs.length →
      (∀ (k : Nat) (p : Nat × AV) (v : Nat × Value), ps[k]? = some p → vs[k]? = some v → p.1 = v.1 ∧ VR R O p.2 v.2) → RowOf R t l arr → buildSl t ps l = some r →
      ∃ arr', Instr.fill (fun i => some (i * t.size, t.size)) arr vs = some arr' ∧ RowOf R t r arr' ∧ r.length = l.length
  | [], vs, l, arr, r, hl, _, hrow, h => by
    cases vs with
    | nil => simp only [buildSl, Option.some.injEq] at h; subst h; exact ⟨arr, rfl, hrow, rfl⟩
    | cons _ _ => simp at hl
  | (i, a) :: ps, vs, l, arr, r, hl, hv, hrow, h => by
    cases vs with
    | nil => simp at hl
    | cons v vs =>
      obtain ⟨i', v⟩ := v
      obtain ⟨e1, hva⟩ := hv 0 _ _ rfl rfl
      simp only at e1 hva
      subst e1
      simp only [buildSl] at h
      split at h
      · rename_i hi
        simp only [Option.bind_eq_some_iff] at h
        obtain ⟨x, hx, h⟩ := h
        have hvt := VT.dt hva hx
        have hroom : i * t.size + t.size ≤ arr.size := by
          rw [hrow.1, ← Nat.succ_mul]; exact Nat.mul_le_mul_right _ hi
        obtain ⟨arr', f1, f2, f3⟩ := fill_cons (place := fun i => some (i * t.size, t.size)) (rest := vs) rfl hvt.size hroom
        have hrow' : RowOf R t (l.set i x) arr' := by
          refine ⟨by rw [f2, hrow.1, List.length_set], fun i' hi' => ?_⟩
          rw [List.length_set] at hi'
          by_cases hie : i' = i
          · subst hie
            have : (l.set i' x).getD i' (zero t) = x := by simp [List.getD_eq_getElem?_getD, hi']
            rw [this]
            refine RV.congr t x _ _ (fun j hj => ?_) hvt.rv
            rw [f3, ovr_in (by omega)]; congr 1; omega
          · have : (l.set i x).getD i' (zero t) = l.getD i' (zero t) := by
              simp only [List.getD_eq_getElem?_getD]; rw [List.getElem?_set_ne (fun q => hie q.symm)]
            rw [this]
            refine RV.congr t _ _ _ (fun j hj => ?_) (hrow.2 i' hi')
            rw [f3, ovr_out ?_]
            rcases Nat.lt_or_gt_of_ne hie with hlt | hgt
            · have : i' * t.size + t.size ≤ i * t.size := by rw [← Nat.succ_mul]; exact Nat.mul_le_mul_right _ hlt
              omega
            · have : i * t.size + t.size ≤ i' * t.size := by rw [← Nat.succ_mul]; exact Nat.mul_le_mul_right _ hgt
              omega
        obtain ⟨arr'', g1, g2, g3⟩ := fillSl_ok hs ps vs (l.set i x) arr' r (by simpa using hl) (fun k p v h3 h4 => hv (k + 1) p v (by simpa using h3) (by simpa using h4)) hrow' h
        exact ⟨arr'', by rw [f1]; exact g1, g2, by rw [g3, List.length_set]⟩
      · cases h
theorem zeroRow {R : Rl} {t : Ty} (ht : t.hasZ = true) (n : Nat) (z : Array Value) (hz : z = (zc t).toArray) : RowOf R t (List.replicate n (zero t)) ((Array.range (n * t.size)).map (fun i => z[i % z.size]!)) := by
 subst hz
 refine ⟨by simp, fun i hi => ?_⟩
 have hi' : i < n := by simpa using hi
 have e : (List.replicate n (zero t)).getD i (zero t) = zero t := by simp [List.getD_eq_getElem?_getD, hi']
 rw [e]
 refine RV.congr t _ _ _ (fun j hj => ?_) (RV.zero R t ht)
 have hlt : i * t.size + j < n * t.size := by
  have : i * t.size + t.size ≤ n * t.size := by rw [← Nat.succ_mul]; exact Nat.mul_le_mul_right _ hi'
  omega
 have hm : (i * t.size + j) % t.size = j := by rw [Nat.mul_comm, Nat.mul_add_mod, Nat.mod_eq_of_lt hj]
 have hl := zc_length t
 simp only [Array.getD_eq_getD_getElem?, Array.getElem?_map, Array.getElem?_range, hlt, if_true, Option.map_some, Option.getD_some, List.size_toArray, hl, hm, List.getD_eq_getElem?_getD]
 simp [hl, hj]
theorem buildSl_ok (hO : OrcOK P O) (hr : Rel O FB w s tm ι) {a : Act} (hs : Slots (rlOf w FB s tm ι) O s.get a) {T : TypeId} {t : Ty} (hT : slTy (O.ty T) = some t) {n : Nat} {ps : Array (Nat × Operand)} {l : List (den t)} (hn : n * t.size ≤ 10000)
  (h : buildSl t (ps.toList.map fun (i, x) => (i, val s.get (some t) x)) (List.replicate n (zero t)) = some l) :
  ∃ o v, (Instr.buildSlice T n (ps.map fun (i, x) => (i, a.eval x))).run P w = .ok v (w.alloc o) ∧ VT (rlOf (w.alloc o) FB s tm ι) (.slice t) l v ∧ (t ≠ .int .u8 → regAt (.slice t) (cellsF v) [] = none) ∧ ∀ ad len cap, v = .slice ad len cap → ¬ len < cap := by
 obtain ⟨e, hd, he, hz, hnr, hfi⟩ := slTy_und hO.ty hT
 have hfine : t.noRef = true ∧ t.fine = true := ⟨hnr, hfi⟩
 have hparts : ∀ (k : Nat) (p : Nat × AV) (v : Nat × Value), (ps.toList.map fun (i, x) => (i, val s.get (some t) x))[k]? = some p → (ps.toList.map fun (i, x) => (i, a.eval x))[k]? = some v → p.1 = v.1 ∧ VR (rlOf w FB s tm ι) O p.2 v.2 := by
  intro k p v h1 h2
  simp only [List.getElem?_map, Option.map_eq_some_iff] at h1 h2
  obtain ⟨q, h1, rfl⟩ := h1
  obtain ⟨q', h2, rfl⟩ := h2
  rw [h1] at h2
  simp only [Option.some.injEq] at h2
  subst h2
  exact ⟨rfl, val_ok hs _ (fun u hu => by simp only [Option.some.injEq] at hu; subst hu; exact hfine.2) _⟩
 obtain ⟨arr, f1, f2, f3⟩ := fillSl_ok (O := O) hz _ (ps.toList.map fun (i, x) => (i, a.eval x)) _ _ l (by simp) hparts (zeroRow (hO.ty _ _ he).hasZ n (zeroVal t).cells (zeroVal_cells t)) h
 have hlen : l.length = n := by simpa using f3
 refine ⟨.cells arr e (0, 0), .slice (some ⟨w.heap.size, 0, none⟩) n n, ?_, ?_, fun hu => ?_, fun ad len cap e => by cases e; omega⟩
 ·have hb : ¬ n * t.size > 2 ^ 24 := by omega
  simp only [Instr.buildSlice, Sem.run_bind, run_und hd, Result.andThen_ok, (hO.ty _ _ he).sizeOf, Sem.run_ite]
  rw [if_neg hb]
  have hf : Instr.fill (fun i => some (i * t.size, t.size)) ((Array.range (n * t.size)).map ((zeroVal t).cells[· % (zeroVal t).cells.size]!)) (ps.map fun (i, x) => (i, a.eval x)).toList = some arr := by
   have : (ps.map fun (i, x) => (i, a.eval x)).toList = ps.toList.map fun (i, x) => (i, a.eval x) := by simp
   rw [this]; exact f1
  by_cases h0 : n * t.size = 0
  ·have hn0 : n = 0 := by rcases Nat.mul_eq_zero.1 h0 with h | h; exact h; exact absurd h hz
   simp only [h0, if_true, Sem.run_pure, Result.andThen_ok]
   rw [h0] at hf
   have r0 : Array.range 0 = #[] := rfl
   rw [r0, Array.map_empty] at hf
   simp only [r0, Array.map_empty, hf]
   rfl
  ·simp only [h0, if_false, (hO.ty _ _ he).zeroValue, Result.andThen_ok, Sem.run_pure]
   simp only [hf]
   rfl
 ·have := VT.row hr (t := t) (l := l) (arr := arr) (T := e) (fz := (0, 0)) (cap := n) (by simp [Ty.fine, hfine]) (by rw [f2.1]; exact Nat.le_refl _) (by omega) (fun i hi => RV.le (alloc_le hr _) _ _ _ hfine.2 (f2.2 i hi))
  rw [hlen] at this
  exact this
 ·unfold regAt
  simp only [pTy, pOff]
  rw [cellsF_one (by simp)]
  simp [Roomy.ne hu (Nat.lt_irrefl n)]
theorem buildSl_row (hO : OrcOK P O) {a : Act} (hs : Slots (rlOf w FB s tm ι) O s.get a) {T : TypeId} {t : Ty} (hT : slTy (O.ty T) = some t) {n : Nat} {ps : Array (Nat × Operand)} {l : List (den t)} (hn : n * t.size ≤ 10000)
  (h : buildSl t (ps.toList.map fun (i, x) => (i, val s.get (some t) x)) (List.replicate n (zero t)) = some l) :
  ∃ arr e, (Instr.buildSlice T n (ps.map fun (i, x) => (i, a.eval x))).run P w = .ok (.slice (some ⟨w.heap.size, 0, none⟩) n n) (w.alloc (.cells arr e (0, 0))) ∧ RowOf (rlOf w FB s tm ι) t l arr ∧ l.length = n := by
 obtain ⟨e, hd, he, hz, hnr, hfi⟩ := slTy_und hO.ty hT
 have hfine : t.noRef = true ∧ t.fine = true := ⟨hnr, hfi⟩
 have hparts : ∀ (k : Nat) (p : Nat × AV) (v : Nat × Value), (ps.toList.map fun (i, x) => (i, val s.get (some t) x))[k]? = some p → (ps.toList.map fun (i, x) => (i, a.eval x))[k]? = some v → p.1 = v.1 ∧ VR (rlOf w FB s tm ι) O p.2 v.2 := by
  intro k p v h1 h2
  simp only [List.getElem?_map, Option.map_eq_some_iff] at h1 h2
  obtain ⟨q, h1, rfl⟩ := h1
  obtain ⟨q', h2, rfl⟩ := h2
  rw [h1] at h2
  simp only [Option.some.injEq] at h2
  subst h2
  exact ⟨rfl, val_ok hs _ (fun u hu => by simp only [Option.some.injEq] at hu; subst hu; exact hfine.2) _⟩
 obtain ⟨arr, f1, f2, f3⟩ := fillSl_ok (O := O) hz _ (ps.toList.map fun (i, x) => (i, a.eval x)) _ _ l (by simp) hparts (zeroRow (hO.ty _ _ he).hasZ n (zeroVal t).cells (zeroVal_cells t)) h
 have hlen : l.length = n := by simpa using f3
 refine ⟨arr, e, ?_, f2, hlen⟩
 ·have hb : ¬ n * t.size > 2 ^ 24 := by omega
  simp only [Instr.buildSlice, Sem.run_bind, run_und hd, Result.andThen_ok, (hO.ty _ _ he).sizeOf, Sem.run_ite]
  rw [if_neg hb]
  have hf : Instr.fill (fun i => some (i * t.size, t.size)) ((Array.range (n * t.size)).map ((zeroVal t).cells[· % (zeroVal t).cells.size]!)) (ps.map fun (i, x) => (i, a.eval x)).toList = some arr := by
   have : (ps.map fun (i, x) => (i, a.eval x)).toList = ps.toList.map fun (i, x) => (i, a.eval x) := by simp
   rw [this]; exact f1
  by_cases h0 : n * t.size = 0
  ·have hn0 : n = 0 := by rcases Nat.mul_eq_zero.1 h0 with h | h; exact h; exact absurd h hz
   simp only [h0, if_true, Sem.run_pure, Result.andThen_ok]
   rw [h0] at hf
   have r0 : Array.range 0 = #[] := rfl
   rw [r0, Array.map_empty] at hf
   simp only [r0, Array.map_empty, hf]
   rfl
  ·simp only [h0, if_false, (hO.ty _ _ he).zeroValue, Result.andThen_ok, Sem.run_pure]
   simp only [hf]
   rfl
end Go.Am
namespace Go.Am
variable {P : Program} {O : Orc} {FB : Nat → Nat → Prop} {w : World} {s : St} {tm : Nat → Value} {ι : Key → Nat}
theorem firstCells_ok {R : Rl} (hw : R.w.heap = w.heap) {t : Ty} {m : List (den t)} {v : Value} (h : VT R (.slice t) m v) : ∃ nc, (Builtin.firstCells t.size m.length v).run P w = .ok nc w ∧ RowOf R t m nc := by
 have hc : ∀ a, R.w.cell? a = w.cell? a := fun a => by simp only [World.cell?, hw]
 obtain ⟨a, cap, b, off, us, rfl, h1, h2, h3, h4, h5⟩ := h.slice
 cases a with
 | none =>
  have h0 := (h2 rfl).1
  exact ⟨#[], rfl, by simp [h0], fun i hi => by omega⟩
 | some x =>
  by_cases hm : m.length = 0
  ·refine ⟨#[], ?_, by simp [hm], fun i hi => by omega⟩
   simp [Builtin.firstCells, loadCells, hm, loadCellsFrom]
  ·have hx := h3 (by omega)
   simp only [Option.some.injEq] at hx
   subst hx
   by_cases hs : t.size = 0
   ·refine ⟨#[], ?_, by simp [hs], fun i hi => RV.congr t _ _ _ (fun j hj => by omega) (h5 i hi)⟩
    simp [Builtin.firstCells, loadCells, hs, loadCellsFrom]
   ·have hp : 0 < t.size := by omega
    have key := run_loadCells (P := P) (w := w) (b := b) (o := off) (c := fun k => us (k / t.size) (k % t.size)) (m.length * t.size) 0 #[] (fun j hj => by
     rw [Nat.zero_add]
     have hi : j / t.size < m.length := (Nat.div_lt_iff_lt_mul hp).2 hj
     have := (h4 (j / t.size) hi (j % t.size) (Nat.mod_lt _ hp)).1
     rw [hc, Nat.add_assoc, Nat.mul_comm, Nat.div_add_mod] at this
     exact this)
    refine ⟨_, key, by simp, fun i hi => ?_⟩
    refine RV.congr t _ _ _ (fun j hj => ?_) (h5 i hi)
    have hlt : i * t.size + j < m.length * t.size := by
     have : i * t.size + t.size ≤ m.length * t.size := by rw [← Nat.succ_mul]; exact Nat.mul_le_mul_right _ hi
     omega
    have hd : (i * t.size + j) / t.size = i := by rw [Nat.mul_comm, Nat.mul_add_div hp, Nat.div_eq_of_lt hj, Nat.add_zero]
    have hmd : (i * t.size + j) % t.size = j := by rw [Nat.mul_comm, Nat.mul_add_mod, Nat.mod_eq_of_lt hj]
    simp [Array.getD_eq_getD_getElem?, hlt, hd, hmd]
theorem strCells_ok {R : Rl} {m : List Int} (h : ∀ z ∈ m, isByte z) : ∃ nc, (Builtin.firstCells 1 m.length (.string (bytesOf m))).run P w = .ok nc w ∧ RowOf R (.int .u8) m nc := by
 have hex : (bytesOf m).extract 0 m.length = bytesOf m := by
  rw [extract_bytes]; unfold cut; simp
 refine ⟨_, rfl, by rw [hex]; simp [bytesOf, Ty.size], fun i hi => ?_⟩
 have hz : isByte (m.getD i 0) := by
  refine h _ ?_
  simp [List.getD_eq_getElem?_getD, hi]
 ·have e : zero (.int .u8) = (0 : Int) := rfl
  refine ⟨?_, fun _ => by rw [e]; exact hz⟩
  simp only [Ty.size, Nat.mul_one, Nat.add_zero]
  rw [hex]
  simp only [Array.getD_eq_getD_getElem?, Array.getElem?_map, bytesOf, List.getElem?_toArray, List.getElem?_map]
  rw [List.getElem?_eq_getElem hi]
  simp only [Option.map_some, Option.getD_some]
  have hg : m.getD i 0 = m[i] := by simp [List.getD_eq_getElem?_getD, hi]
  rw [hg] at hz
  have : List.getD m i (zero (.int .u8)) = m[i] := hg
  rw [this]
  unfold isByte at hz
  congr 1
  simp only [UInt8.toNat_ofNat']
  omega
def ownP (w : World) (s : St) (tm : Nat → Value) (ι : Key → Nat) (b lo : Nat) : Prop := ∃ l, owns w s tm ι l = some (b, lo)
theorem hist_alloc (W : Nat → Nat → Prop) {w w0 : World} (e : w0.heap = w.heap ∧ w0.os = w.os ∧ w0.tape = w.tape ∧ w0.output = w.output) (o : Obj) : Hist W w (w0.alloc o) := by
 obtain ⟨e1, e2, e3, e4⟩ := e
 have hh : ∀ b, b < w.heap.size → (w0.alloc o).heap[b]? = w.heap[b]? := fun b hb => by rw [alloc_heap w0 o b (by rw [e1]; exact hb), e1]
 refine ⟨e2, e3, e4, by rw [alloc_size, e1]; omega, fun b hb _ => hh b hb, fun b lo hb _ i _ => by unfold World.cell?; rw [hh b hb], fun b hb i => ⟨by unfold World.cell?; rw [hh b hb], .inl (by unfold World.frozen?; rw [hh b hb])⟩⟩
theorem hist_heap (W : Nat → Nat → Prop) {w w0 : World} (e : w0.heap = w.heap ∧ w0.os = w.os ∧ w0.tape = w.tape ∧ w0.output = w.output) : Hist W w w0 := by
 obtain ⟨e1, e2, e3, e4⟩ := e
 exact ⟨e2, e3, e4, by rw [e1]; exact Nat.le_refl _, fun b _ _ => by rw [e1], fun b lo _ _ i _ => by simp only [World.cell?, e1], fun b _ i => ⟨by simp only [World.cell?, e1], .inl (by simp only [World.frozen?, e1])⟩⟩
theorem RowOf.app {R : Rl} {t : Ty} {l m : List (den t)} {a b c : Array Value} (h1 : RowOf R t l a) (h2 : RowOf R t m b) :
  (l ++ m).length * t.size ≤ (a ++ b ++ c).size ∧ ∀ i, i < (l ++ m).length → RV R t ((l ++ m).getD i (zero t)) (fun j => (a ++ b ++ c).getD (i * t.size + j) undef) := by
 refine ⟨by simp only [Array.size_append, h1.1, h2.1, List.length_append, Nat.add_mul]; omega, fun i hi => ?_⟩
 rw [List.length_append] at hi
 by_cases hl : i < l.length
 ·have e : (l ++ m).getD i (zero t) = l.getD i (zero t) := by simp only [List.getD_eq_getElem?_getD]; rw [List.getElem?_append_left hl]
  rw [e]
  refine RV.congr t _ _ _ (fun j hj => ?_) (h1.2 i hl)
  have : i * t.size + j < a.size := by
   rw [h1.1]
   have : i * t.size + t.size ≤ l.length * t.size := by rw [← Nat.succ_mul]; exact Nat.mul_le_mul_right _ hl
   omega
  simp only [Array.getD_eq_getD_getElem?]
  rw [Array.getElem?_append_left (by simp only [Array.size_append]; omega), Array.getElem?_append_left this]
 ·have e : (l ++ m).getD i (zero t) = m.getD (i - l.length) (zero t) := by simp only [List.getD_eq_getElem?_getD]; rw [List.getElem?_append_right (by omega)]
  rw [e]
  refine RV.congr t _ _ _ (fun j hj => ?_) (h2.2 (i - l.length) (by omega))
  have hk : i * t.size = l.length * t.size + (i - l.length) * t.size := by rw [← Nat.add_mul]; congr 1; omega
  have hb : (i - l.length) * t.size + j < b.size := by
   rw [h2.1]
   have : (i - l.length) * t.size + t.size ≤ m.length * t.size := by rw [← Nat.succ_mul]; exact Nat.mul_le_mul_right _ (by omega)
   omega
  simp only [Array.getD_eq_getD_getElem?]
  rw [Array.getElem?_append_left (by simp only [Array.size_append, h1.1]; omega), Array.getElem?_append_right (by rw [h1.1]; omega), h1.1]
  congr 2; omega
theorem frozen_new {w : World} {b : Nat} {arr : Array Value} {T : TypeId} (h : w.heap[b]? = some (.cells arr T (0, 0))) (o : Nat) : w.frozen? ⟨b, o, none⟩ = false := by
 unfold World.frozen?
 rw [h]
 simp
theorem Rel.moved (h : Rel O FB w s tm ι) {t : Ty} {l : List (den t)} {arr : Array Value} {T : TypeId} {cap : Nat} (src : Option Nat) (n : Nat) (hf : (Ty.slice t).fine = true) (hby : t = .int .u8 → T ∈ byT) (hsz : cap * t.size ≤ arr.size) (hcap : l.length ≤ cap)
  (hc : ∀ i, i < l.length → RV (rlOf w FB s tm ι) t (l.getD i (zero t)) (fun j => arr.getD (i * t.size + j) undef)) :
  Stp O FB w s tm ι (w.alloc (.cells arr T (0, 0))) ⟨(takeE s.env src).set n (.tv [[]] (.slice t) l), s.heap⟩ (setF tm s.env.length n (.slice (some ⟨w.heap.size, 0, none⟩) l.length cap)) ι := by
 have hfine := hf
 simp [Ty.fine] at hfine
 have hsz2 := alloc_size w (.cells arr T (0, 0))
 have hnw := alloc_new w (.cells arr T (0, 0))
 have hlen : (takeE s.env src).length = s.env.length := by cases src <;> simp [takeE]
 have hvt := VT.row h (t := t) (l := l) (arr := arr) (T := T) (fz := (0, 0)) (cap := cap) hf (Nat.le_trans (Nat.mul_le_mul_right _ hcap) hsz) hcap (fun i hi => RV.le (alloc_le h _) _ _ _ hfine.2 (hc i hi))
 have hreg : regAt (.slice t) (cellsF (.slice (some ⟨w.heap.size, 0, none⟩) l.length cap)) [] = if Roomy t l.length cap then some (w.heap.size, l.length * t.size) else none := by
  unfold regAt
  simp only [pTy, pOff]
  rw [cellsF_one (by simp)]
  simp
 have hown : ∀ lc b lo, owns (w.alloc (.cells arr T (0, 0))) ⟨(takeE s.env src).set n (.tv [[]] (.slice t) l), s.heap⟩ (setF tm s.env.length n (.slice (some ⟨w.heap.size, 0, none⟩) l.length cap)) ι lc = some (b, lo) →
   (lc = .sl n [] ∧ n < s.env.length ∧ b = w.heap.size ∧ lo = l.length * t.size) ∨ (owns w s tm ι lc = some (b, lo)) := by
  intro lc b lo hl
  cases lc with
  | sl i p =>
   simp only [owns, St.get, getD_set, setF, hlen] at hl
   by_cases hcn : i = n ∧ n < s.env.length
   ·rw [if_pos hcn] at hl
    simp only [if_pos hcn] at hl
    split at hl
    ·rename_i hp
     simp only [List.mem_singleton] at hp
     subst hp
     rw [hreg] at hl
     split at hl
     ·simp only [Option.some.injEq, Prod.mk.injEq] at hl
      exact .inl ⟨by rw [hcn.1], hcn.2, hl.1.symm, hl.2.symm⟩
     ·cases hl
    ·cases hl
   ·rw [if_neg hcn] at hl
    simp only [if_neg hcn] at hl
    have := take_owns (w := w) (s := s) (h := s.heap) (t := src) (i := i) (p := p) (x := (b, lo)) (tm := tm) (ι := ι) hl
    exact .inr (this.2 w s.heap)
  | fd q p =>
   simp only [owns] at hl ⊢
   cases hq : look s.heap q with
   | none => rw [hq] at hl; cases hl
   | some o => rw [hq] at hl; simp only [(h.ob q o hq).2.sameF (alloc_heap w _)] at hl; exact .inr hl
  | ob q => exact .inr hl
 have hkt : ∀ q x, (rlOf w FB s tm ι).kt q = some x → (rlOf (w.alloc (.cells arr T (0, 0))) FB ⟨(takeE s.env src).set n (.tv [[]] (.slice t) l), s.heap⟩ (setF tm s.env.length n (.slice (some ⟨w.heap.size, 0, none⟩) l.length cap)) ι).kt q = some x := fun _ _ h => h
 have hrm : ∀ b i, b < w.heap.size → ((w.alloc (.cells arr T (0, 0))).cell? ⟨b, i, none⟩).isSome = (w.cell? ⟨b, i, none⟩).isSome ∧ (w.alloc (.cells arr T (0, 0))).frozen? ⟨b, i, none⟩ = w.frozen? ⟨b, i, none⟩ ∧ (w.alloc (.cells arr T (0, 0))).shape? b = w.shape? b :=
  fun b i hb => ⟨by rw [alloc_cell w _ b i hb], alloc_frozen w _ b i hb, alloc_shape w _ b hb⟩
 refine h.step (by omega) (fun b i hp => alloc_cell w _ b i hp.1) (fun lc b lo hl => ?_) (fun lc lc' b lo lo' h1 h2 => ?_) (fun hce i => ?_) (fun hce q o hq => ?_) (fun i own' u x e p hp => ?_) (fun q o hq p hp => (h.ob q o hq).2.sameR (alloc_heap w _) (room_same hrm (by omega) (h.rf q o hq p hp)))
 ·rcases hown lc b lo hl with ⟨_, _, e, _⟩ | e
  ·exact .inr (by omega)
  ·exact .inl ⟨_, lo, e, Nat.le_refl _⟩
 ·rcases hown lc b lo h1 with ⟨e1, _, e2, _⟩ | e1 <;> rcases hown lc' b lo' h2 with ⟨f1, _, f2, _⟩ | f1
  ·rw [e1, f1]
  ·have := h.own_lt f1; omega
  ·have := h.own_lt e1; omega
  ·exact h.dj _ _ b lo lo' e1 f1
 ·simp only [St.get, getD_set, setF, hlen]
  split
  ·simp only [VR]
   refine ⟨hf, nofun, fun _ => rfl, rfl, ?_⟩
   simp only [RV, cellsF]
   refine ⟨some ⟨w.heap.size, 0, none⟩, cap, w.heap.size, 0, fun i j => arr.getD (i * t.size + j) undef, rfl, hcap, nofun, fun _ => rfl, fun i hi j hj => ?_, fun i hi => RV.le ⟨hce, fun _ _ h => .of h fun _ => Ext.keep hrm⟩ _ _ _ hfine.2 (hc i hi)⟩
   have hlt : i * t.size + j < l.length * t.size := by
    have : i * t.size + t.size ≤ l.length * t.size := by rw [← Nat.succ_mul]; exact Nat.mul_le_mul_right _ hi
    omega
   have hlt2 : i * t.size + j < arr.size := Nat.lt_of_lt_of_le hlt (Nat.le_trans (Nat.mul_le_mul_right _ hcap) hsz)
   refine ⟨?_, ?_, fun lc lo hl => ?_, fun lo hl => ?_⟩
   ·show (w.alloc (.cells arr T (0, 0))).cell? ⟨w.heap.size, 0 + i * t.size + j, none⟩ = _
    rw [cell_block hnw, Nat.zero_add, Array.getElem?_eq_getElem hlt2]; simp [Array.getD_eq_getD_getElem?, hlt2]
   ·rw [alloc_size]; omega
   ·rcases hown lc _ lo hl with ⟨_, _, _, e⟩ | e
    ·rw [e]; omega
    ·have := h.own_lt e; omega
   ·have := h.fs _ _ hl; omega
  ·have := (h.vr i).le ⟨hce, fun _ _ h => .of h fun _ => Ext.keep hrm⟩
   rw [takeE_get]
   split
   ·exact this.drop
   ·exact this
 ·obtain ⟨g1, g2⟩ := h.ob q o hq
  exact ⟨g1, g2.keep ⟨hce, fun _ _ h => .of h fun _ => Ext.keep hrm⟩ g1 fun hg => alloc_heap w _ _ (g2.lt hg)⟩
 ·simp only [St.get, getD_set, hlen] at e
  simp only [setF]
  by_cases hcn : i = n ∧ n < s.env.length
  ·rw [if_pos hcn] at e ⊢
   injection e with e1 e2 _
   subst e1; subst e2
   simp only [List.mem_singleton] at hp
   subst hp
   unfold RoomAt
   simp only [pTy, pOff]
   rw [cellsF_one (by simp)]
   intro hl
   refine ⟨rfl, by show w.heap.size < _; rw [hsz2]; omega, fun hu => ⟨rfl, T, arr.size, by simp only [World.shape?, hnw], hby hu⟩, fun o h1 h2 => ⟨?_, ?_⟩⟩
   ·show ((w.alloc (.cells arr T (0, 0))).cell? ⟨w.heap.size, o, none⟩).isSome = true
    rw [cell_block hnw, Array.getElem?_eq_getElem (by simp only [Nat.zero_add] at h2; omega)]; rfl
   ·exact frozen_new hnw o
  ·rw [if_neg hcn] at e ⊢
   rw [takeE_get] at e
   split at e
   ·cases hg : s.env.getD i .any <;> rw [hg] at e <;> simp [AV.drop] at e
    rw [e.1] at hp; cases hp
   ·exact room_same hrm (by omega) (h.rs i own' u x e p hp)
end Go.Am
namespace Go.Am
variable {P : Program} {O : Orc} {FB : Nat → Nat → Prop} {w : World} {s : St} {tm : Nat → Value} {ι : Key → Nat}
theorem Rel.inplace (h : Rel O FB w s tm ι) {t : Ty} {l m : List (den t)} {x : Addr} {cap t0 : Nat} {own0 : List (List Nat)} {w' : World} {arr nc : Array Value} {T : TypeId} {fz : Nat × Nat} (n : Nat)
  (hg : ∃ l0, s.get t0 = .tv own0 (.slice t) l0) (h0 : [] ∈ own0) (hr0 : regAt (.slice t) (cellsF (tm t0)) [] = some (x.block, x.off + l.length * t.size)) (hroom : RoomAt w (.slice t) (cellsF (.slice (some x) l.length cap)) [])
  (hv : VT (rlOf w FB s tm ι) (.slice t) l (.slice (some x) l.length cap)) (hneed : l.length + m.length ≤ cap) (hm : 0 < m.length)
  (hb : w.heap[x.block]? = some (.cells arr T fz)) (hs : Stored w w' x.block (x.off + l.length * t.size) T fz arr nc.toList) (hrow : RowOf (rlOf w FB s tm ι) t m nc) :
  Stp O FB w s tm ι w' ⟨(takeE s.env (some t0)).set n (.tv [[]] (.slice t) (l ++ m)), s.heap⟩ (setF tm s.env.length n (.slice (some x) (l.length + m.length) cap)) ι := by
 have hfine := hv.fine
 simp [Ty.fine] at hfine
 have hlen : (takeE s.env (some t0)).length = s.env.length := by simp [takeE]
 obtain ⟨l0, hg⟩ := hg
 have hown0 : owns w s tm ι (.sl t0 []) = some (x.block, x.off + l.length * t.size) := by
  simp only [owns, hg]; rw [if_pos h0]; exact hr0
 have hroom' := hroom
 unfold RoomAt at hroom'
 simp only [pTy, pOff] at hroom'
 rw [cellsF_one (by simp)] at hroom'
 obtain ⟨hsp, hxlt, hty, hcells⟩ := hroom' (Roomy.of (by omega))
 have hx : x = ⟨x.block, x.off, none⟩ := by obtain ⟨a, b, c⟩ := x; simp only at hsp; subst hsp; rfl
 obtain ⟨arr', q1, q2, q3⟩ := hs.this
 have hncl : nc.toList.length = m.length * t.size := (Array.length_toList (xs := nc)).trans hrow.1
 rw [hncl] at q3
 have hne : ∀ lc lo, owns w s tm ι lc = some (x.block, lo) → lc = .sl t0 [] ∧ lo = x.off + l.length * t.size := by
  intro lc lo hl
  have := h.dj _ _ _ _ _ hl hown0
  subst this
  rw [hown0] at hl
  simp only [Option.some.injEq, Prod.mk.injEq, true_and] at hl
  exact ⟨rfl, hl.symm⟩
 have hob : ∀ k o, look s.heap k = some o → o.d.t.ghost = false → ι k ≠ x.block := by
  intro k o hk hg e
  have := (hne (.ob k) 0 (by simp [owns, hk, e, hg])).1
  cases this
 have hbf : ∀ k o, look s.heap k = some o → ∀ p, regAt o.d.t (blockF w' (ι k)) p = regAt o.d.t (blockF w (ι k)) p := by
  intro k o hk p
  by_cases hg : o.d.t.ghost = true
  ·rw [ghost_regAt hg, ghost_regAt hg]
  ·have : blockF w' (ι k) = blockF w (ι k) := by unfold blockF; rw [hs.other _ (hob k o hk (by simpa using hg))]
   rw [this]
 have hbr : ∀ k o, look s.heap k = some o → ∀ p, RoomAt w' o.d.t (blockF w (ι k)) p → RoomAt w' o.d.t (blockF w' (ι k)) p := by
  intro k o hk p hr
  by_cases hg : o.d.t.ghost = true
  ·exact ghost_roomAt hg _ _ _
  ·have : blockF w' (ι k) = blockF w (ι k) := by unfold blockF; rw [hs.other _ (hob k o hk (by simpa using hg))]
   rw [this]; exact hr
 have hreg : regAt (.slice t) (cellsF (.slice (some x) (l.length + m.length) cap)) [] = if Roomy t (l.length + m.length) cap then some (x.block, x.off + (l.length + m.length) * t.size) else none := by
  unfold regAt
  simp only [pTy, pOff]
  rw [cellsF_one (by simp)]
 have hown : ∀ lc b lo, owns w' ⟨(takeE s.env (some t0)).set n (.tv [[]] (.slice t) (l ++ m)), s.heap⟩ (setF tm s.env.length n (.slice (some x) (l.length + m.length) cap)) ι lc = some (b, lo) →
   (lc = .sl n [] ∧ n < s.env.length ∧ b = x.block ∧ lo = x.off + (l.length + m.length) * t.size) ∨ (lc ≠ .sl t0 [] ∧ owns w s tm ι lc = some (b, lo)) := by
  intro lc b lo hl
  cases lc with
  | sl i p =>
   simp only [owns, St.get, getD_set, setF, hlen] at hl
   by_cases hcn : i = n ∧ n < s.env.length
   ·rw [if_pos hcn] at hl
    simp only [if_pos hcn] at hl
    split at hl
    ·rename_i hp
     simp only [List.mem_singleton] at hp
     subst hp
     rw [hreg] at hl
     split at hl
     ·simp only [Option.some.injEq, Prod.mk.injEq] at hl
      exact .inl ⟨by rw [hcn.1], hcn.2, hl.1.symm, hl.2.symm⟩
     ·cases hl
    ·cases hl
   ·rw [if_neg hcn] at hl
    simp only [if_neg hcn] at hl
    have := take_owns (w := w) (s := s) (h := s.heap) (t := some t0) (i := i) (p := p) (x := (b, lo)) (tm := tm) (ι := ι) hl
    exact .inr ⟨fun e => by injection e with e1 _; exact this.1 (by rw [e1]), this.2 w s.heap⟩
  | fd q p =>
   simp only [owns] at hl ⊢
   cases hq : look s.heap q with
   | none => rw [hq] at hl; cases hl
   | some o => rw [hq] at hl; simp only [hbf q o hq] at hl; exact .inr ⟨by simp, hl⟩
  | ob q => exact .inr ⟨by simp, hl⟩
 have hkt : ∀ q y, (rlOf w FB s tm ι).kt q = some y → (rlOf w' FB ⟨(takeE s.env (some t0)).set n (.tv [[]] (.slice t) (l ++ m)), s.heap⟩ (setF tm s.env.length n (.slice (some x) (l.length + m.length) cap)) ι).kt q = some y := fun _ _ h => h
 have hrm : ∀ b i, b < w.heap.size → (w'.cell? ⟨b, i, none⟩).isSome = (w.cell? ⟨b, i, none⟩).isSome ∧ w'.frozen? ⟨b, i, none⟩ = w.frozen? ⟨b, i, none⟩ ∧ w'.shape? b = w.shape? b := by
  intro b i _
  by_cases e : b = x.block
  ·subst e
   refine ⟨?_, by simp [World.frozen?, q1, hb], by simp [World.shape?, q1, hb, q2]⟩
   rw [cell_block q1, cell_block hb]
   by_cases hi : i < arr.size
   ·rw [Array.getElem?_eq_getElem hi, Array.getElem?_eq_getElem (by omega)]; rfl
   ·rw [Array.getElem?_eq_none (by omega), Array.getElem?_eq_none (by omega)]
  ·refine ⟨by unfold World.cell?; rw [hs.other b e], by unfold World.frozen?; rw [hs.other b e], by unfold World.shape?; rw [hs.other b e]⟩
 have harr : ∀ o, o < x.off + cap * t.size → x.off + l.length * t.size ≤ o → o < arr.size := by
  intro o h1 h2
  have := (hcells o h2 h1).1
  rw [cell_block hb] at this
  rcases Nat.lt_or_ge o arr.size with h | h
  ·exact h
  ·rw [Array.getElem?_eq_none h] at this; cases this
 refine h.step (Nat.le_of_eq hs.size.symm) (fun b i hp => ?_) (fun lc b lo hl => ?_) (fun lc lc' b lo lo' h1 h2 => ?_) (fun hce i => ?_) (fun hce q o hq => ?_) (fun i own' u y e p hp => ?_) (fun q o hq p hp => hbr q o hq p (room_same hrm (Nat.le_of_eq hs.size.symm) (h.rf q o hq p hp)))
 ·by_cases e : b = x.block
  ·subst e
   have hlo := hp.2.1 _ _ hown0
   rw [cell_block q1, cell_block hb]
   by_cases hi : i < arr.size
   ·have := q3 i
    rw [if_neg (by omega)] at this
    simp only [Array.getD_eq_getD_getElem?] at this
    rw [Array.getElem?_eq_getElem hi, Array.getElem?_eq_getElem (by omega)] at this ⊢
    simpa using this
   ·rw [Array.getElem?_eq_none (by omega), Array.getElem?_eq_none (by omega)]
  ·unfold World.cell?; rw [hs.other b e]
 ·rcases hown lc b lo hl with ⟨_, _, e1, e2⟩ | ⟨_, e⟩
  ·refine .inl ⟨_, _, by rw [e1]; exact hown0, ?_⟩
   rw [e2, Nat.add_mul]; omega
  ·exact .inl ⟨_, lo, e, Nat.le_refl _⟩
 ·rcases hown lc b lo h1 with ⟨e1, _, e2, _⟩ | ⟨n1, e1⟩ <;> rcases hown lc' b lo' h2 with ⟨f1, _, f2, _⟩ | ⟨n2, f1⟩
  ·rw [e1, f1]
  ·subst e2; exact absurd (hne _ _ f1).1 n2
  ·subst f2; exact absurd (hne _ _ e1).1 n1
  ·exact h.dj _ _ b lo lo' e1 f1
 ·simp only [St.get, getD_set, setF, hlen]
  split
  ·simp only [VR]
   obtain ⟨a', cap', b', off', us, ev, g1, g2, g3, g4, g5⟩ := hv.slice
   injection ev with ev1 ev2 ev3
   subst ev1; subst ev3
   have hoff : ∀ i, i < l.length → b' = x.block ∧ off' = x.off := by
    intro i hi
    have := g3 (by omega)
    simp only [Option.some.injEq] at this
    rw [this]; exact ⟨rfl, rfl⟩
   refine ⟨hv.fine, nofun, fun _ => rfl, rfl, ?_⟩
   simp only [RV, cellsF]
   refine ⟨some x, cap, x.block, x.off, fun i j => if i < l.length then us i j else nc.getD ((i - l.length) * t.size + j) undef, ?_, by simp only [List.length_append]; exact hneed, nofun, fun _ => by rw [hx], fun i hi => ?_, fun i hi => ?_⟩
   ·simp [Value.cells]
   ·by_cases hil : i < l.length
    ·obtain ⟨e1, e2⟩ := hoff i hil
     have := (g4 i hil).le hce
     rw [e1, e2] at this
     intro j hj
     simp only [hil, if_true]
     exact this j hj
    ·intro j hj
     simp only [hil, if_false]
     simp only [List.length_append] at hi
     have hk : i * t.size = l.length * t.size + (i - l.length) * t.size := by rw [← Nat.add_mul]; congr 1; omega
     have hk2 : (i - l.length) * t.size + t.size ≤ m.length * t.size := by rw [← Nat.succ_mul]; exact Nat.mul_le_mul_right _ (by omega)
     have hk3 : (l.length + m.length) * t.size ≤ cap * t.size := Nat.mul_le_mul_right _ hneed
     rw [Nat.add_mul] at hk3
     have hlt := harr (x.off + i * t.size + j) (by omega) (by omega)
     refine ⟨?_, ?_, fun lc lo hl => ?_, fun lo hl => ?_⟩
     ·show w'.cell? ⟨x.block, x.off + i * t.size + j, none⟩ = _
      rw [cell_block q1]
      have := q3 (x.off + i * t.size + j)
      rw [if_pos (by omega)] at this
      rw [Array.getElem?_eq_getElem (by omega)]
      simp only [Array.getD_eq_getD_getElem?] at this
      rw [Array.getElem?_eq_getElem (by omega)] at this
      simp only [Option.getD_some] at this
      rw [this]
      congr 1
      rw [Array.getD_eq_getD_getElem?, List.getD_eq_getElem?_getD, Array.getElem?_toList]
      congr 2; omega
     ·show x.block < w'.heap.size; rw [hs.size]; exact hxlt
     ·rcases hown lc _ lo hl with ⟨_, _, _, e⟩ | ⟨nn, e⟩
      ·rw [e, Nat.add_mul]; omega
      ·exact absurd (hne _ _ e).1 nn
     ·exact absurd hl (h.fb _ _ _ lo hown0)
   ·simp only [List.length_append] at hi
    by_cases hil : i < l.length
    ·have e : (l ++ m).getD i (zero t) = l.getD i (zero t) := by simp only [List.getD_eq_getElem?_getD]; rw [List.getElem?_append_left hil]
     rw [e]
     simp only [hil, if_true]
     exact RV.le ⟨hce, fun _ _ h => .of h fun _ => Ext.keep hrm⟩ _ _ _ hfine.2 (g5 i hil)
    ·have e : (l ++ m).getD i (zero t) = m.getD (i - l.length) (zero t) := by simp only [List.getD_eq_getElem?_getD]; rw [List.getElem?_append_right (by omega)]
     rw [e]
     simp only [hil, if_false]
     exact RV.le ⟨hce, fun _ _ h => .of h fun _ => Ext.keep hrm⟩ _ _ _ hfine.2 (hrow.2 (i - l.length) (by omega))
  ·have := (h.vr i).le ⟨hce, fun _ _ h => .of h fun _ => Ext.keep hrm⟩
   rw [takeE_get]
   split
   ·exact this.drop
   ·exact this
 ·obtain ⟨g1, g2⟩ := h.ob q o hq
  exact ⟨g1, g2.keep ⟨hce, fun _ _ h => .of h fun _ => Ext.keep hrm⟩ g1 fun hg => hs.other _ (hob q o hq hg)⟩
 ·simp only [St.get, getD_set, hlen] at e
  simp only [setF]
  by_cases hcn : i = n ∧ n < s.env.length
  ·rw [if_pos hcn] at e ⊢
   injection e with e1 e2 _
   subst e1; subst e2
   simp only [List.mem_singleton] at hp
   subst hp
   unfold RoomAt
   simp only [pTy, pOff]
   rw [cellsF_one (by simp)]
   intro hl
   refine ⟨hsp, by rw [hs.size]; exact hxlt, fun hu => ⟨(hty hu).1, by rw [(hrm x.block 0 hxlt).2.2]; exact (hty hu).2⟩, fun o h1 h2 => ?_⟩
   have h3 : x.off + l.length * t.size ≤ o := by rw [Nat.add_mul] at h1; omega
   obtain ⟨r1, r2⟩ := hcells o h3 h2
   obtain ⟨r3, r4, _⟩ := hrm x.block o hxlt
   exact ⟨by rw [r3]; exact r1, by rw [r4]; exact r2⟩
  ·rw [if_neg hcn] at e ⊢
   rw [takeE_get] at e
   split at e
   ·cases hg : s.env.getD i .any <;> rw [hg] at e <;> simp [AV.drop] at e
    rw [e.1] at hp; cases hp
   ·exact room_same hrm (Nat.le_of_eq hs.size.symm) (h.rs i own' u y e p hp)
end Go.Am
namespace Go.Am
variable {P : Program} {O : Orc} {FB : Nat → Nat → Prop} {w : World} {s : St} {tm : Nat → Value} {ι : Key → Nat}
theorem Rel.setTake' (h : Rel O FB w s tm ι) (src : Option Nat) (n : Nat) {t : Ty} {l : List (den t)} {v : Value} (hv : VT (rlOf w FB s tm ι) (.slice t) l v)
  (hsrc : (src = none ∧ regAt (.slice t) (cellsF v) [] = none) ∨ ∃ t0 own0 l0, src = some t0 ∧ s.get t0 = .tv own0 (.slice t) l0 ∧ [] ∈ own0 ∧ regAt (.slice t) (cellsF v) [] = regAt (.slice t) (cellsF (tm t0)) [] ∧ RoomAt w (.slice t) (cellsF v) []) :
  Stp O FB w s tm ι w ⟨(takeE s.env src).set n (.tv [[]] (.slice t) l), s.heap⟩ (setF tm s.env.length n v) ι := by
 have hV : VR (rlOf w FB s tm ι) O (.tv [[]] (.slice t) l) v := by simp only [VR]; exact hv
 rcases hsrc with ⟨rfl, hr⟩ | ⟨t0, own0, l0, rfl, hg, h0, hr, hroom⟩
 ·exact h.set n _ v hV fun own u x e p hp => by
   injection e with e1 e2 _
   subst e1; subst e2
   simp only [List.mem_singleton] at hp
   subst hp; exact hr
 ·exact h.setTake t0 n _ v hV fun own u x e => by
   injection e with e1 e2 _
   subst e1; subst e2
   refine ⟨own0, _, l0, hg, fun p hp => ?_⟩
   simp only [List.mem_singleton] at hp
   subst hp; exact ⟨h0, hr, hroom⟩
set_option maxHeartbeats 1000000 in
theorem append_run1 {T U ty e : TypeId} {sz n k cap : Nat} {a : Option Addr} {vy : Value} {nc : Array Value} (hd : P.underlying T = some (.slice e)) (hd2 : P.underlying U = some .string ∨ ∃ e', P.underlying U = some (.slice e')) (hs : (Go.sizeOf e).run P w = .ok sz w)
  (hlen : (Builtin.lenOf vy).run P w = .ok k w) (hfc : (Builtin.firstCells sz k vy).run P w = .ok nc w) (hcap : n + k ≤ cap) :
  (Builtin.append_ #[T, U] ty #[.slice a n cap, vy]).run P w = match a with
   | none => .ok (.slice none (n + k) cap) w
   | some x => ((storeCells (x.add (n * sz)) nc.toList).run P w).andThen fun _ w' => .ok (.slice (some x) (n + k) cap) w' := by
 rcases hd2 with hd2 | ⟨e', hd2⟩
 ·cases a <;> simp [Builtin.append_, run_underlying hd, run_underlying hd2, hs, hlen, hfc, hcap]
 ·cases a <;> simp [Builtin.append_, run_underlying hd, run_underlying hd2, hs, hlen, hfc, hcap]
set_option maxHeartbeats 1000000 in
theorem append_run2 {T U ty e : TypeId} {sz n k cap : Nat} {a : Option Addr} {vy z : Value} {nc old : Array Value} {inf : TypeInfo} (hd : P.underlying T = some (.slice e)) (hd2 : P.underlying U = some .string ∨ ∃ e', P.underlying U = some (.slice e'))
  (hlen : (Builtin.lenOf vy).run P w = .ok k w) (hi : P.info? e = some inf) (hsz : inf.size = sz) (hz : inf.zero = some z) (hb : inf.bytes ≤ 1024) (hfc : (Builtin.firstCells sz k vy).run P w.drew = .ok nc w.drew) (hfo : (Builtin.firstCells sz n (.slice a n cap)).run P w.drew = .ok old w.drew) (hcap : ¬ n + k ≤ cap) (hbig : n + k ≤ 4294967296) :
  (Builtin.append_ #[T, U] ty #[.slice a n cap, vy]).run P w = .ok (.slice (some ⟨w.heap.size, 0, none⟩) (n + k) (grownCap w (n + k) cap e)) (w.drew.alloc (.cells (old ++ nc ++ Builtin.zeroCells z.cells (grownCap w (n + k) cap e - (n + k))) e)) := by
 subst hsz
 have h1 : ¬ (9223372036854775807 < ((n : Int) + (k : Int))) := by omega
 have h2 : ¬ (281474976710656 < Builtin.nextslicecap (n + k) cap * inf.bytes) := by
  have := Go.nextslicecap_le (need := n + k) (old := cap) (by omega)
  have : Builtin.nextslicecap (n + k) cap * inf.bytes ≤ (2 * (n + k)) * 1024 := Nat.mul_le_mul this hb
  omega
 rcases hd2 with hd2 | ⟨e', hd2⟩ <;> simp [Builtin.append_, run_underlying hd, run_underlying hd2, Go.sizeOf, typeInfo, Go.zeroValue, hi, hz, hlen, hcap, h1, h2, Question.forced, hfc, hfo, newRow, grownCap]
theorem heap_le {w w' : World} {FB : Nat → Nat → Prop} {s : St} {tm : Nat → Value} {ι : Key → Nat} (e : w'.heap = w.heap) : (rlOf w FB s tm ι).le (rlOf w' FB s tm ι) :=
 ⟨rl_le (by rw [e]; exact Nat.le_refl _) (fun l b lo hl _ => ⟨l, lo, by rw [← owns_heap e]; exact hl, Nat.le_refl _⟩) fun b o _ => by simp only [World.cell?, e], fun _ _ h => .of h fun _ => Ext.keep fun b i _ => by show (w'.cell? ⟨b, i, none⟩).isSome = (w.cell? ⟨b, i, none⟩).isSome ∧ w'.frozen? ⟨b, i, none⟩ = w.frozen? ⟨b, i, none⟩ ∧ w'.shape? b = w.shape? b; simp only [World.cell?, World.frozen?, World.shape?, e, and_self]⟩
theorem hist_stored {w w' : World} {b o : Nat} {T : TypeId} {fz : Nat × Nat} {arr : Array Value} {vs : List Value} {W : Nat → Nat → Prop} (hs : Stored w w' b o T fz arr vs) (hb : w.heap[b]? = some (.cells arr T fz)) (hW : ∃ lo, W b lo ∧ lo ≤ o) (hu : ∀ lo, W b lo → lo ≤ o) : Hist W w w' := by
 obtain ⟨arr', q1, q2, q3⟩ := hs.this
 have hsz : ∀ j : Nat, (arr'[j]?).isSome = (arr[j]?).isSome := by
  intro j
  by_cases hj : j < arr.size
  ·rw [Array.getElem?_eq_getElem hj, Array.getElem?_eq_getElem (by omega)]; rfl
  ·rw [Array.getElem?_eq_none (by omega), Array.getElem?_eq_none (by omega)]
 refine ⟨hs.os, hs.tape, hs.output, Nat.le_of_eq hs.size.symm, fun b' _ hn => ?_, fun b' lo _ hl i hi => ?_, fun b' _ i => ?_⟩
 ·refine hs.other b' fun e => ?_
  subst e
  obtain ⟨lo, h1, _⟩ := hW
  exact hn lo h1
 ·by_cases e : b' = b
  ·subst e
   have := hu lo hl
   rw [cell_block q1, cell_block hb]
   have h3 := q3 i
   rw [if_neg (by omega)] at h3
   by_cases hj : i < arr.size
   ·simp only [Array.getD_eq_getD_getElem?] at h3
    rw [Array.getElem?_eq_getElem hj, Array.getElem?_eq_getElem (by omega)] at h3 ⊢
    simpa using h3
   ·rw [Array.getElem?_eq_none (by omega), Array.getElem?_eq_none (by omega)]
  ·unfold World.cell?; rw [hs.other b' e]
 ·by_cases e : b' = b
  ·subst e
   exact ⟨by rw [cell_block q1, cell_block hb, hsz], .inl (by simp [World.frozen?, q1, hb])⟩
  ·exact ⟨by unfold World.cell?; rw [hs.other b' e], .inl (by unfold World.frozen?; rw [hs.other b' e])⟩
theorem stored_shape {w w' : World} {b o : Nat} {T : TypeId} {fz : Nat × Nat} {arr : Array Value} {vs : List Value} (hs : Stored w w' b o T fz arr vs) (hb : w.heap[b]? = some (.cells arr T fz)) (b' i : Nat) :
  (w'.cell? ⟨b', i, none⟩).isSome = (w.cell? ⟨b', i, none⟩).isSome ∧ w'.frozen? ⟨b', i, none⟩ = w.frozen? ⟨b', i, none⟩ ∧ w'.shape? b' = w.shape? b' := by
 obtain ⟨arr', q1, q2, q3⟩ := hs.this
 have hsz : (arr'[i]?).isSome = (arr[i]?).isSome := by
  by_cases hj : i < arr.size
  ·rw [Array.getElem?_eq_getElem hj, Array.getElem?_eq_getElem (by omega)]; rfl
  ·rw [Array.getElem?_eq_none (by omega), Array.getElem?_eq_none (by omega)]
 by_cases e : b' = b
 ·subst e
  exact ⟨by rw [cell_block q1, cell_block hb, hsz], by simp [World.frozen?, q1, hb], by simp [World.shape?, q1, hb, q2]⟩
 ·exact ⟨by unfold World.cell?; rw [hs.other b' e], by unfold World.frozen?; rw [hs.other b' e], by unfold World.shape?; rw [hs.other b' e]⟩
theorem append_ok (hO : OrcOK P O) (h : Rel O FB w s tm ι) {T U ty : TypeId} {t : Ty} {l m : List (den t)} {vx vy : Value} {src : Option Nat} (n : Nat) (hT : O.ty T = some (.slice t)) (hU : P.underlying U = some .string ∨ ∃ e', P.underlying U = some (.slice e'))
  (hv : VT (rlOf w FB s tm ι) (.slice t) l vx) (hsrc : (src = none ∧ regAt (.slice t) (cellsF vx) [] = none) ∨ ∃ t0 own0, src = some t0 ∧ s.get t0 = .tv own0 (.slice t) l ∧ [] ∈ own0 ∧ tm t0 = vx)
  (hlen : (Builtin.lenOf vy).run P w = .ok m.length w) (hfc : ∀ w', w'.heap = w.heap → ∃ nc, (Builtin.firstCells t.size m.length vy).run P w' = .ok nc w' ∧ RowOf (rlOf w FB s tm ι) t m nc) (hone : ∀ nc, RowOf (rlOf w FB s tm ι) t m nc → ∀ v ∈ nc.toList, v.oneCell' = true) (hbig : l.length + m.length ≤ bigN) :
  ∃ w' v', (Builtin.append_ #[T, U] ty #[vx, vy]).run P w = .ok v' w' ∧ Stp O FB w s tm ι w' ⟨(takeE s.env src).set n (.tv [[]] (.slice t) (l ++ m)), s.heap⟩ (setF tm s.env.length n v') ι ∧ Hist (ownP w s tm ι) w w' := by
 have hTy := hO.ty T _ hT
 obtain ⟨D, hd, e, rfl, he, hz⟩ := hTy.und
 have hfine := hv.fine
 simp [Ty.fine] at hfine
 obtain ⟨inf, hinf, hisz, hizero, hbytes⟩ := (hO.ty _ _ he).info
 obtain ⟨a, cap, b, off, us, hvx, g1, g2, g3, g4, g5⟩ := hv.slice
 subst hvx
 have hsrc' : (src = none ∧ regAt (.slice t) (cellsF (.slice a l.length cap)) [] = none) ∨ ∃ t0 own0 l0, src = some t0 ∧ s.get t0 = .tv own0 (.slice t) l0 ∧ [] ∈ own0 ∧ regAt (.slice t) (cellsF (.slice a l.length cap)) [] = regAt (.slice t) (cellsF (tm t0)) [] ∧ RoomAt w (.slice t) (cellsF (.slice a l.length cap)) [] := by
  rcases hsrc with hs | ⟨t0, own0, e1, e2, e3, e4⟩
  ·exact .inl hs
  ·exact .inr ⟨t0, own0, l, e1, e2, e3, by rw [e4], by have := h.rs t0 own0 (.slice t) l e2 [] e3; rwa [e4] at this⟩
 by_cases hneed : l.length + m.length ≤ cap
 ·obtain ⟨nc, hnc, hrow⟩ := hfc w rfl
  have hrun := append_run1 (P := P) (w := w) (T := T) (U := U) (ty := ty) (a := a) (n := l.length) hd hU ((hO.ty _ _ he).sizeOf w) hlen hnc hneed
  by_cases hm : m.length = 0
  ·have hm0 : m = [] := List.eq_nil_of_length_eq_zero hm
   subst hm0
   have hnc0 : nc = #[] := by
    have := hrow.1
    simp only [List.length_nil, Nat.zero_mul] at this
    exact Array.eq_empty_of_size_eq_zero this
   subst hnc0
   refine ⟨w, .slice a l.length cap, ?_, ?_, Hist.refl _ _⟩
   ·rw [hrun]
    cases a with
    | none => rfl
    | some x => rfl
   ·have := h.setTake' src n (l := l) hv hsrc'
    simpa using this
  ·cases a with
   | none => have := g2 rfl; omega
   | some x =>
    have hreg : regAt (.slice t) (cellsF (.slice (some x) l.length cap)) [] = some (x.block, x.off + l.length * t.size) := by
     unfold regAt
     simp only [pTy, pOff]
     rw [cellsF_one (by simp)]
     simp only
     rw [if_pos (Roomy.of (by omega))]
    rcases hsrc' with ⟨_, hr⟩ | ⟨t0, own0, l0, e1, e2, e3, e4, e5⟩
    ·rw [hreg] at hr; cases hr
    ·subst e1
     have hroom := e5
     unfold RoomAt at hroom
     simp only [pTy, pOff] at hroom
     rw [cellsF_one (by simp)] at hroom
     obtain ⟨hsp, hxlt, _, hcells⟩ := hroom (Roomy.of (by omega))
     have hx : x = ⟨x.block, x.off, none⟩ := by obtain ⟨p, q, r⟩ := x; simp only at hsp; subst hsp; rfl
     have hpos : 0 < t.size := by omega
     have hk3 : (l.length + m.length) * t.size ≤ cap * t.size := Nat.mul_le_mul_right _ hneed
     rw [Nat.add_mul] at hk3
     have hms : 0 < m.length * t.size := Nat.mul_pos (by omega) hpos
     obtain ⟨arr, T', fz, hb⟩ : ∃ arr T' fz, w.heap[x.block]? = some (.cells arr T' fz) := by
      have := (hcells (x.off + l.length * t.size) (Nat.le_refl _) (by omega)).1
      unfold World.cell? at this
      cases hh : w.heap[x.block]? with
      | none => rw [hh] at this; simp at this
      | some ob => rw [hh] at this; cases ob <;> first | exact ⟨_, _, _, rfl⟩ | simp at this
     have harr : ∀ o, x.off + l.length * t.size ≤ o → o < x.off + cap * t.size → o < arr.size ∧ w.frozen? ⟨x.block, o, none⟩ = false := by
      intro o h1 h2
      obtain ⟨q1, q2⟩ := hcells o h1 h2
      refine ⟨?_, q2⟩
      rw [cell_block hb] at q1
      rcases Nat.lt_or_ge o arr.size with h | h
      ·exact h
      ·rw [Array.getElem?_eq_none h] at q1; cases q1
     have hncl : nc.toList.length = m.length * t.size := (Array.length_toList (xs := nc)).trans hrow.1
     obtain ⟨w', hst, hs⟩ := run_storeCells (P := P) (b := x.block) (o := x.off + l.length * t.size) (T := T') (fz := fz) nc.toList 0 w arr hb (hone nc hrow) (fun j hj => by
      rw [hncl] at hj
      exact harr _ (by omega) (by omega))
     simp only [Nat.add_zero] at hs
     refine ⟨w', .slice (some x) (l.length + m.length) cap, ?_, h.inplace n ⟨l0, e2⟩ e3 (by rw [← e4]; exact hreg) e5 hv hneed (by omega) hb hs hrow, hist_stored hs hb ⟨_, ⟨.sl t0 [], ?_⟩, Nat.le_refl _⟩ ?_⟩
     ·have hxa : x.add (l.length * t.size) = ⟨x.block, x.off + l.length * t.size, none⟩ := by obtain ⟨p, q, r⟩ := x; simp only at hsp; subst hsp; exact add_plain _ _ _
      rw [hrun]
      simp only [hxa, hst]
      rfl
     ·simp only [owns, e2]; rw [if_pos e3, ← e4]; exact hreg
     ·intro lo ⟨lc, hl⟩
      have h0 : owns w s tm ι (.sl t0 []) = some (x.block, x.off + l.length * t.size) := by
       simp only [owns, e2]; rw [if_pos e3, ← e4]; exact hreg
      have := h.dj _ _ _ _ _ hl h0
      subst this
      rw [h0] at hl
      simp only [Option.some.injEq, Prod.mk.injEq, true_and] at hl
      omega
 ·obtain ⟨nc, hnc, hrow⟩ := hfc w.drew rfl
  obtain ⟨old, hold, hrowo⟩ := firstCells_ok (P := P) (w := w.drew) (R := rlOf w FB s tm ι) rfl hv
  unfold bigN at hbig
  have hrun := append_run2 (P := P) (w := w) (T := T) (U := U) (ty := ty) (a := a) (n := l.length) (k := m.length) (cap := cap) hd hU hlen hinf hisz hizero hbytes hnc hold hneed hbig
  have hge := grownCap_ge w (l.length + m.length) cap e
  have hst0 := h.heapEq (w' := w.drew) rfl
  have hrel := hst0.rel
  have happ := RowOf.app (c := Builtin.zeroCells (zeroVal t).cells (grownCap w (l.length + m.length) cap e - (l.length + m.length))) hrowo hrow
  have hzs : (zeroVal t).cells.size = t.size := by rw [zeroVal_cells]; simp [zc_length]
  have hmv := hrel.moved (l := l ++ m) (arr := old ++ nc ++ Builtin.zeroCells (zeroVal t).cells (grownCap w (l.length + m.length) cap e - (l.length + m.length))) (T := e) (cap := grownCap w (l.length + m.length) cap e) src n hv.fine (hO.ty e t he).by8 (by
   simp only [Array.size_append, hrowo.1, hrow.1, size_zeroCells, hzs]
   rw [← Nat.add_mul, ← Nat.add_mul]
   exact Nat.mul_le_mul_right _ (by omega)) (by rw [List.length_append]; exact hge) (fun i hi => RV.le (heap_le (w := w) (w' := w.drew) rfl) _ _ _ hfine.2 (happ.2 i hi))
  refine ⟨_, _, hrun, ?_, hist_alloc _ (w := w) (w0 := w.drew) ⟨rfl, rfl, rfl, rfl⟩ _⟩
  rw [List.length_append] at hmv
  exact hst0.trans hmv
end Go.Am
namespace Go.Am
variable {P : Program} {O : Orc} {FB : Nat → Nat → Prop} {w : World} {s : St} {tm : Nat → Value} {ι : Key → Nat}
theorem convBS_ok (hO : OrcOK P O) {R : Rl} (hw : R.w.heap = w.heap) {T U : TypeId} {l : List Int} {v : Value} (hT : O.ty T = some (.slice (.int .u8))) (hU : O.ty U = some .str) (h : VT R (.slice (.int .u8)) l v) : Gives P R O (convert T U v) w (.tv [] .str l) := by
 obtain ⟨d1, e1, e, rfl, he, _⟩ := (hO.ty T _ hT).und
 obtain ⟨d2, e2, f2⟩ := (hO.ty U _ hU).und
 simp only [UndOK] at f2
 subst f2
 obtain ⟨d3, e3, f3⟩ := (hO.ty e _ he).und
 simp only [UndOK] at f3
 subst f3
 obtain ⟨a, cap, b, off, us, rfl, h1, h2, h3, h4, h5⟩ := h.slice
 have hb : ∀ z ∈ l, isByte z := by
  intro z hz
  obtain ⟨i, hi, rfl⟩ := List.getElem_of_mem hz
  have := (h5 i hi).2 rfl
  simpa [List.getD_eq_getElem?_getD, hi] using this
 have fin : ∀ v', (convert T U (.slice a l.length cap)).run P w = .ok v' w → v' = .string (bytesOf l) → Gives P R O (convert T U (.slice a l.length cap)) w (.tv [] .str l) := fun v' g1 g2 => by
  subst g2
  exact Gives.of g1 (by simp only [VR]; exact VT.ofStr l hb) rfl
 cases a with
 | none =>
  have h0 := (h2 rfl).1
  have hl : l = [] := List.eq_nil_of_length_eq_zero h0
  subst hl
  exact fin _ (run_convert_bytes_nil w T e e1 e3 _ _ U e2) rfl
 | some x =>
  by_cases h0 : l.length = 0
  ·have hl : l = [] := List.eq_nil_of_length_eq_zero h0
   subst hl
   refine fin (.string ByteArray.empty) ?_ rfl
   rw [run_convert_bytes_string w T U e _ _ _ e1 e3 e2]
   exact run_bytesToString w x 0 cap [] rfl
  ·have hx := h3 (by omega)
   simp only [Option.some.injEq] at hx
   subst hx
   refine fin _ (run_convert_bytes_arg w T e e1 e3 b off l.length cap l rfl (fun i hi => ?_) U e2) (by simp [bytesOf, Go.strOfNums])
   have g1 := (h4 i hi 0 (by simp [Ty.size])).1
   have g2 := (h5 i hi).1
   rw [g2] at g1
   have hc : R.w.cell? ⟨b, off + i, none⟩ = w.cell? ⟨b, off + i, none⟩ := by simp only [World.cell?, hw]
   rw [← hc]
   simp only [Ty.size, Nat.mul_one, Nat.add_zero] at g1
   exact g1
theorem convSB_ok (hO : OrcOK P O) (h : Rel O FB w s tm ι) {T U : TypeId} {l : List Int} {v : Value} (n : Nat) (hT : O.ty T = some .str) (hU : O.ty U = some (.slice (.int .u8))) (hv : VT (rlOf w FB s tm ι) .str l v) :
  ∃ w' v', (convert T U v).run P w = .ok v' w' ∧ Stp O FB w s tm ι w' ⟨s.env.set n (.tv [] (.slice (.int .u8)) l), s.heap⟩ (setF tm s.env.length n v') ι ∧ Hist (ownP w s tm ι) w w' := by
 obtain ⟨d1, e1, f1⟩ := (hO.ty T _ hT).und
 simp only [UndOK] at f1
 subst f1
 obtain ⟨d2, e2, e, rfl, he, _⟩ := (hO.ty U _ hU).und
 obtain ⟨d3, e3, f3⟩ := (hO.ty e _ he).und
 simp only [UndOK] at f3
 subst f3
 obtain ⟨hv1, hb⟩ := hv.str
 subst hv1
 have hrun := run_bytes_of_string (P := P) w T U e (bytesOf l) e1 e2 e3
 have hst0 := h.heapEq (w' := w.drew) rfl
 have hrel := hst0.rel
 have hsz : (bytesOf l).size = l.length := bytesOf_size l
 rw [hsz] at hrun
 have hrow : ∀ i, i < l.length → RV (rlOf (w.drew.alloc (.cells (bytesRow (bytesOf l) (grownCap w l.length 0 e)) e ((bytesRow (bytesOf l) (grownCap w l.length 0 e)).size, (bytesRow (bytesOf l) (grownCap w l.length 0 e)).size + 1))) FB s tm ι) (.int .u8) (l.getD i (zero (.int .u8))) (fun j => (bytesRow (bytesOf l) (grownCap w l.length 0 e)).getD (i * (Ty.int .u8).size + j) undef) := by
  intro i hi
  have hg : List.getD l i (zero (.int .u8)) = l[i] := by simp [List.getD_eq_getElem?_getD, hi]
  rw [hg]
  have hz := hb l[i] (List.getElem_mem hi)
  refine ⟨?_, fun _ => hz⟩
  simp only [Ty.size, Nat.mul_one, Nat.add_zero, bytesRow, bytesOf]
  rw [Array.getD_eq_getD_getElem?, Array.getElem?_append_left (by simpa using hi)]
  simp only [Array.getElem?_map, List.getElem?_toArray, List.getElem?_map, List.getElem?_eq_getElem hi, Option.map_some, Option.getD_some]
  unfold isByte at hz
  congr 1
  simp only [UInt8.toNat_ofNat']
  omega
 have hvt := VT.row hrel (t := .int .u8) (l := l) (arr := bytesRow (bytesOf l) (grownCap w l.length 0 e)) (T := e) (fz := ((bytesRow (bytesOf l) (grownCap w l.length 0 e)).size, (bytesRow (bytesOf l) (grownCap w l.length 0 e)).size + 1)) (cap := grownCap w l.length 0 e) rfl (by simp [bytesRow, bytesOf, Ty.size]) (grownCap_ge w l.length 0 e) hrow
 exact ⟨_, _, hrun, hst0.trans ((hrel.alloc _).trans ((hrel.alloc _).rel.set n _ _ (by simp only [VR]; exact hvt) (fun own t x ee p hp => by injection ee with e1 _ _; subst e1; cases hp))), hist_alloc _ (w := w) (w0 := w.drew) ⟨rfl, rfl, rfl, rfl⟩ _⟩
end Go.Am
namespace Go.Am
variable {P : Program} {O : Orc} {FB : Nat → Nat → Prop} {w : World} {s : St} {tm : Nat → Value} {ι : Key → Nat}
def tmOf (a : Act) : Nat → Value := fun t => a.tmps.getD t undef
theorem app_eq (s : St) (d : Option Nat) (r : Res) : s.app d r = ⟨(takeE s.env r.tk).set (d.getD s.env.length) r.a, r.h⟩ := by
 obtain ⟨ra, tk, rh⟩ := r
 have hn : ∀ l : List AV, l.length = s.env.length → l.set s.env.length ra = l := fun l h => List.set_eq_of_length_le (by omega)
 cases tk <;> cases d <;> simp [St.app, takeE, hn, St.get]
theorem put_eq (a : Act) (d : Option Nat) (v : Value) : tmOf (a.put d v) = setF (tmOf a) a.tmps.size (d.getD a.tmps.size) v := by
 funext i
 cases d with
 | none => simp [tmOf, Act.put, setF]
 | some d =>
  simp only [tmOf, Act.put, setF, Option.getD_some, Array.getD_eq_getD_getElem?, Array.getElem?_setIfInBounds]
  by_cases h : d = i
  ·subst h
   by_cases h2 : d < a.tmps.size
   ·simp [h2]
   ·simp [h2]
  ·have : ¬ (i = d ∧ d < a.tmps.size) := fun x => h x.1.symm
   simp [h, this]
def KGo : Option Ob → Nat → Option Ob → Nat → Prop
 | none, _, none, _ => True
 | some o, b, some o', b' => KtLe (b, o.d.t) (b', o'.d.t)
 | _, _, _, _ => False
theorem KGo.of {x y : Option Ob} {b b' : Nat} (h : y.map (·.d.t) = x.map (·.d.t) ∧ b' = b) : KGo x b y b' := by
 obtain ⟨h, rfl⟩ := h
 cases x <;> cases y <;> simp [KGo] at h ⊢
 exact .inl (by rw [h])
theorem KGo.trans {x y z : Option Ob} {a b c : Nat} (h1 : KGo x a y b) (h2 : KGo y b z c) : KGo x a z c := by
 cases x <;> cases y <;> cases z <;> simp [KGo] at h1 h2 ⊢
 exact KtLe.trans h1 h2
structure Goes (O : Orc) (FB : Nat → Nat → Prop) (w : World) (s : St) (tm : Nat → Value) (ι : Key → Nat) (w' : World) (s' : St) (tm' : Nat → Value) (ι' : Key → Nat) : Prop where
 stp : Stp O FB w s tm ι w' s' tm' ι'
 hist : Hist (ownP w s tm ι) w w'
 keys : ∀ k, k.1 = 0 → KGo (look s.heap k) (ι k) (look s'.heap k) (ι' k)
theorem Goes.refl (h : Rel O FB w s tm ι) : Goes O FB w s tm ι w s tm ι := ⟨h.stp, Hist.refl _ _, fun _ _ => KGo.of ⟨rfl, rfl⟩⟩
theorem Goes.trans {w1 w2 : World} {s1 s2 : St} {tm1 tm2 : Nat → Value} {ι1 ι2 : Key → Nat} (h : Rel O FB w s tm ι) (a : Goes O FB w s tm ι w1 s1 tm1 ι1) (b : Goes O FB w1 s1 tm1 ι1 w2 s2 tm2 ι2) : Goes O FB w s tm ι w2 s2 tm2 ι2 := by
 refine ⟨a.stp.trans b.stp, ?_, fun k hk => (a.keys k hk).trans (b.keys k hk)⟩
 have hs := a.stp.size
 refine ⟨b.hist.os.trans a.hist.os, b.hist.tape.trans a.hist.tape, b.hist.output.trans a.hist.output, Nat.le_trans a.hist.size b.hist.size, fun x hx hn => ?_, fun x lo hx hW o ho => ?_, fun x hx o => ?_⟩
 ·refine (b.hist.block x (by omega) fun lo ⟨l, hl⟩ => ?_).trans (a.hist.block x hx hn)
  rcases a.stp.src l x lo hl with ⟨l0, lo0, e, _⟩ | e
  ·exact hn lo0 ⟨l0, e⟩
  ·omega
 ·refine Eq.trans ?_ (a.hist.cell x lo hx hW o ho)
  by_cases hex : ∃ lo1, ownP w1 s1 tm1 ι1 x lo1
  ·obtain ⟨lo1, l1, hl1⟩ := hex
   refine b.hist.cell x lo1 (by omega) ⟨l1, hl1⟩ o ?_
   rcases a.stp.src l1 x lo1 hl1 with ⟨l0, lo0, e, hle⟩ | e
   ·obtain ⟨l2, e2⟩ := hW
    have := h.dj _ _ _ _ _ e e2
    subst this
    rw [e] at e2
    simp only [Option.some.injEq, Prod.mk.injEq, true_and] at e2
    omega
   ·omega
  ·have := b.hist.block x (by omega) fun lo1 hl => hex ⟨lo1, hl⟩
   unfold World.cell?; rw [this]
 ·obtain ⟨e1, e2⟩ := a.hist.shape x hx o
  obtain ⟨e3, e4⟩ := b.hist.shape x (by omega) o
  refine ⟨e3.trans e1, ?_⟩
  rcases e4 with e4 | ⟨lo, l, hl⟩
  ·rcases e2 with e2 | e2
   ·exact .inl (e4.trans e2)
   ·exact .inr e2
  ·rcases a.stp.src l x lo hl with ⟨l0, lo0, h0, _⟩ | hge
   ·exact .inr ⟨lo0, l0, h0⟩
   ·omega
def Leaves (O : Orc) (FB : Nat → Nat → Prop) (w : World) (s : St) (ι : Key → Nat) (a : Act) (s' : St) (next : Act → World → Prop) : Prop :=
 ∀ (a' : Act) (w' : World) (ι' : Key → Nat), a'.defers = a.defers → a'.tmps.size = a.tmps.size → Goes O FB w s (tmOf a) ι w' s' (tmOf a') ι' → next a' w'
theorem slots_of {a : Act} (h : Rel O FB w s (tmOf a) ι) : Slots (rlOf w FB s (tmOf a) ι) O s.get a := ⟨fun t => h.vr t⟩
theorem put_size (a : Act) (d : Option Nat) (v : Value) : (a.put d v).tmps.size = a.tmps.size := by cases d <;> simp [Act.put]
theorem put_defers' (a : Act) (d : Option Nat) (v : Value) : (a.put d v).defers = a.defers := by cases d <;> rfl
theorem leaves_value {a : Act} {o : Oper} {r : AV} {v : Value} {Q : Exit → Act → World → Prop} {next : Act → World → Prop} (h : Rel O FB w s (tmOf a) ι) (hl : s.env.length = a.tmps.size) (he : (execOp a.eval o).run P w = .ok (.value v) w)
  (hv : VR (rlOf w FB s (tmOf a) ι) O r v) (ho : ∀ own t x, r = .tv own t x → ∀ p ∈ own, regAt t (cellsF v) p = none) (hn : Leaves O FB w s ι a (s.app o.dst ⟨r, none, s.heap⟩) next) : o.wp P a w next Q := by
 unfold Oper.wp
 rw [he]
 refine hn _ _ ι (put_defers' _ _ _) (put_size _ _ _) ⟨?_, Hist.refl _ _, fun _ _ => KGo.of ⟨by rw [app_eq], rfl⟩⟩
 rw [app_eq, put_eq, ← hl]
 exact h.set _ r v hv ho
theorem leaves_gives {a : Act} {o : Oper} {r : AV} {x : Sem Value} {Q : Exit → Act → World → Prop} {next : Act → World → Prop} (h : Rel O FB w s (tmOf a) ι) (hl : s.env.length = a.tmps.size) (he : execOp a.eval o = (do pure (.value (← x))))
  (hg : Gives P (rlOf w FB s (tmOf a) ι) O x w r) (hn : Leaves O FB w s ι a (s.app o.dst ⟨r, none, s.heap⟩) next) : o.wp P a w next Q := by
 obtain ⟨v, h1, h2, h3⟩ := hg
 exact leaves_value h hl (by rw [he]; simp only [Sem.run_bind, h1, Result.andThen_ok, Sem.run_pure]) h2 h3 hn
theorem ty_fine (hO : OrcOK P O) {T : TypeId} : ∀ t, O.ty T = some t → t.fine = true := fun t h => (hO.ty T t h).fine
theorem bind_fine (hO : OrcOK P O) {T : Option TypeId} : ∀ t, T.bind O.ty = some t → t.fine = true := fun t h => by
 cases T with
 | none => cases h
 | some T => exact (hO.ty T t h).fine
theorem takeV_spec {g : Nat → AV} {tk : Bool} {h : Option Ty} {x : Operand} : (∃ t, tk = true ∧ x = .tmp t ∧ takeV tk g h x = (g t, some t)) ∨ takeV tk g h x = (val g h x, none) := by
 cases tk with
 | false => exact .inr rfl
 | true => cases x with
  | tmp t => exact .inl ⟨t, rfl, rfl, rfl⟩
  | _ => exact .inr rfl
theorem val_own {R : Rl} {g : Nat → AV} {a : Act} (hs : Slots R O g a) {h : Option Ty} (hf : ∀ t, h = some t → t.fine = true) (x : Operand) : ∀ own t y, val g h x = .tv own t y → ∀ p ∈ own, regAt t (cellsF (a.eval x)) p = none := by
 intro own t y e p hp
 have hv := val_ok hs h hf x
 cases x with
 | tmp i =>
  simp only [val] at e
  have := AV.own_drop (g i)
  rw [e] at this
  simp only [AV.own] at this
  subst this; cases hp
 | const c =>
  simp only [val, cst] at e
  split at e
  ·split at e
   ·cases e
   ·injection e with e1 _ _; subst e1; cases hp
  ·injection e with e1 _ _; subst e1; cases hp
  ·injection e with e1 _ _; subst e1; cases hp
  ·injection e with e1 _ _; subst e1; cases hp
  ·split at e
   ·injection e with e1 _ _; subst e1; cases hp
   ·cases e
  ·injection e with e1 _ _; subst e1; cases hp
  ·split at e
   ·injection e with e1 e2 _
    subst e1; subst e2
    simp only [List.mem_singleton] at hp
    subst hp
    simp [Act.eval, regAt, pTy, pOff, cellsF, Value.cells]
   ·injection e with e1 _ _; subst e1; cases hp
   ·cases e
  ·cases e
 | global g' => simp [val] at e
 | func f => simp [val] at e
end Go.Am
namespace Go.Am
variable {P : Program} {O : Orc} {FB : Nat → Nat → Prop} {w : World} {s : St} {ι : Key → Nat} {call : CallF} {draw : Bool} {f : FuncId} {rid i : Nat} {o : Oper} {a : Act} {r : Res}
variable {Q : Exit → Act → World → Prop} {next : Act → World → Prop}
def OpOK (P : Program) (O : Orc) (call : CallF) (draw : Bool) (f : FuncId) (rid i : Nat) (o : Oper) : Prop :=
 ∀ {FB : Nat → Nat → Prop} {w : World} {s : St} {ι : Key → Nat} {a : Act} {r : Res} {Q : Exit → Act → World → Prop} {next : Act → World → Prop}, Rel O FB w s (tmOf a) ι → s.env.length = a.tmps.size → exec0 O call draw f rid i o s.get s.heap = some r →
  Leaves O FB w s ι a (s.app o.dst r) next → o.wp P a w next Q
theorem leaves_stp {v : Value} {w' : World} {ι' : Key → Nat} (he : (execOp a.eval o).run P w = .ok (.value v) w') (hs : Stp O FB w s (tmOf a) ι w' ⟨(takeE s.env r.tk).set (o.dst.getD s.env.length) r.a, r.h⟩ (setF (tmOf a) s.env.length (o.dst.getD s.env.length) v) ι')
    (hl : s.env.length = a.tmps.size) (hh : Hist (ownP w s (tmOf a) ι) w w') (hk : ∀ k, k.1 = 0 → (look r.h k).map (·.d.t) = (look s.heap k).map (·.d.t) ∧ ι' k = ι k) (hn : Leaves O FB w s ι a (s.app o.dst r) next) : o.wp P a w next Q := by
  unfold Oper.wp
  rw [he]
  refine hn _ _ ι' (put_defers' _ _ _) (put_size _ _ _) ⟨?_, hh, fun k hk' => ?_⟩
  · rw [app_eq, put_eq, ← hl]; exact hs
  · rw [app_eq]; exact KGo.of (hk k hk')
theorem val0 {R : Rl} {g : Nat → AV} (hs : Slots R O g a) (x : Operand) : VR R O (val g none x) (a.eval x) := val_ok hs none (fun _ h => by cases h) x
theorem move_ok (hO : OrcOK P O) {x : Operand} (hop : o.op = .move x ∨ o.op = .assign x) : OpOK P O call draw f rid i o := by
 intro FB w s ι a r Q next h hl he hn
 have he' : some (⟨(takeV (O.take f rid i) s.get (O.ty o.type) x).1, (takeV (O.take f rid i) s.get (O.ty o.type) x).2, s.heap⟩ : Res) = some r := by
  rcases hop with hop | hop <;> simpa only [exec0, hop] using he
 have hx : (execOp a.eval o).run P w = .ok (.value (a.eval x)) w := by rcases hop with hop | hop <;> simp [execOp, hop]
 rcases takeV_spec (g := s.get) (tk := O.take f rid i) (h := O.ty o.type) (x := x) with ⟨t, _, rfl, e⟩ | e
 ·rw [e] at he'
  cases he'
  refine leaves_stp hx ?_ hl (Hist.refl _ _) (fun _ _ => ⟨rfl, rfl⟩) hn
  exact h.setTake t _ _ _ (h.vr t) fun own T y e => ⟨own, T, y, e, fun p hp => ⟨hp, rfl, h.rs t own T y e p hp⟩⟩
 ·rw [e] at he'
  cases he'
  exact leaves_value h hl hx (val_ok (slots_of h) _ (ty_fine hO) x) (val_own (slots_of h) (ty_fine hO) x) hn
theorem pick_ok (hO : OrcOK P O) {c x y : Operand} (hop : o.op = .pick c x y) : OpOK P O call draw f rid i o := by
 intro FB w s ι a r Q next h hl he hn
 simp only [exec0, hop] at he
 split at he
 ·rename_i own b hc
  cases he
  have hv := val0 (slots_of h) c
  rw [hc] at hv
  simp only [VR] at hv
  have hb := hv.bool
  have hx : (execOp a.eval o).run P w = .ok (.value (if b then a.eval x else a.eval y)) w := by simp [execOp, hop, hb, asBool]
  cases b with
  | true => exact leaves_value h hl hx (val_ok (slots_of h) _ (ty_fine hO) x) (val_own (slots_of h) (ty_fine hO) x) hn
  | false => exact leaves_value h hl hx (val_ok (slots_of h) _ (ty_fine hO) y) (val_own (slots_of h) (ty_fine hO) y) hn
 ·cases he
theorem build_exec (hO : OrcOK P O) {T : TypeId} {ps : Array (Nat × Operand)} (hop : o.op = .build T ps) : OpOK P O call draw f rid i o := by
 intro FB w s ι a r Q next h hl he hn
 simp only [exec0, hop, Option.bind_eq_some_iff] at he
 obtain ⟨t, hT, he⟩ := he
 split at he
 ·cases he
 ·rename_i hag
  simp only [Option.map_eq_some_iff] at he
  obtain ⟨b, hb, rfl⟩ := he
  exact leaves_gives h hl (by simp only [execOp, hop]) (build_ok hO (slots_of h) hT (by simpa using hag) hb) hn
theorem nilCheck_ok {x : Operand} (hop : o.op = .nilCheck x) : OpOK P O call draw f rid i o := by
 intro FB w s ι a r Q next h hl he hn
 simp only [exec0, hop] at he
 have hv := val0 (slots_of h) x
 have key : ∀ (b : AV) (ad : Addr), val s.get none x = b → a.eval x = .pointer (some ad) → some (⟨b, none, s.heap⟩ : Res) = some r → (∀ own t y, b ≠ .tv own t y) → o.wp P a w next Q := by
  intro b ad e1 e2 e3 hb
  cases e3
  have hx : (execOp a.eval o).run P w = .ok (.value (a.eval x)) w := by simp [execOp, hop, e2]
  exact leaves_value h hl hx (e1 ▸ hv) (fun own t y e => absurd e (hb own t y)) hn
 split at he
 ·rename_i k p e
  rw [e] at hv
  simp only [VR] at hv
  obtain ⟨b, T, _, _, e2⟩ := hv
  exact key _ _ e e2 he nofun
 ·rename_i t y e
  rw [e] at hv
  simp only [VR] at hv
  obtain ⟨_, b, o', us, e2, _⟩ := hv
  exact key _ _ e e2 he nofun
 ·rename_i g p e
  rw [e] at hv
  simp only [VR] at hv
  exact key _ _ e hv he nofun
 ·cases he
theorem binOp_ok (hO : OrcOK P O) {op : BinOp} {T U : TypeId} {x y : Operand} (hop : o.op = .binOp op T x y U) : OpOK P O call draw f rid i o := by
 intro FB w s ι a r Q next h hl he hn
 simp only [exec0, hop, Option.map_eq_some_iff] at he
 obtain ⟨b, hb, rfl⟩ := he
 exact leaves_gives h hl (by simp only [execOp, hop]) (binV_ok hO (ox := x) (oy := y) (val_ok (slots_of h) _ (ty_fine hO) x) (val_ok (slots_of h) _ (ty_fine hO) y) hb) hn
theorem unOp_ok (hO : OrcOK P O) {op : UnOp} {T : TypeId} {x : Operand} (hop : o.op = .unOp op T x) : OpOK P O call draw f rid i o := by
 intro FB w s ι a r Q next h hl he hn
 simp only [exec0, hop, Option.map_eq_some_iff] at he
 obtain ⟨b, hb, rfl⟩ := he
 exact leaves_gives h hl (by simp only [execOp, hop]) (unV_ok (val_ok (slots_of h) _ (ty_fine hO) x) hb) hn
theorem VRL_map {R : Rl} {g : Nat → AV} (hs : Slots R O g a) : ∀ l : List Operand, VRL R O (l.map (val g none)) (l.map a.eval)
 | [] => rfl
 | x :: l => by simp only [List.map_cons, VRL]; exact ⟨_, _, rfl, val0 hs x, VRL_map hs l⟩
theorem makeFunc_ok {q : FuncId} {first caps : Array Operand} (hop : o.op = .makeFunc (.func q) first caps) : OpOK P O call draw f rid i o := by
 intro FB w s ι a r Q next h hl he hn
 simp only [exec0, hop] at he
 cases he
 have hx : (execOp a.eval o).run P w = .ok (.value (.func (.func q) (first.map a.eval) (caps.map a.eval))) w := by simp [execOp, hop, Instr.makeFunc]
 refine leaves_value h hl hx ?_ (fun _ _ _ e => by cases e) hn
 simp only [VR]
 refine ⟨_, _, rfl, ?_, ?_⟩
 ·rw [Array.toList_map]; exact VRL_map (slots_of h) _
 ·rw [Array.toList_map]; exact VRL_map (slots_of h) _
theorem fieldAddr_ok (hO : OrcOK P O) {T : TypeId} {x : Operand} {k : Nat} (hop : o.op = .fieldAddr T x k) : OpOK P O call draw f rid i o := by
 intro FB w s ι a r Q next h hl he hn
 simp only [exec0, hop] at he
 split at he
 ·rename_i hc
  simp only [Bool.and_eq_true] at hc
  simp only [Option.map_eq_some_iff] at he
  obtain ⟨b, hb, rfl⟩ := he
  exact leaves_gives h hl (by simp only [execOp, hop]) (fieldA_ok hO (R := rlOf w FB s (tmOf a) ι) rfl (val0 (slots_of h) x) hc.1 hb fun t ht => by have := hc.2; rw [ht] at this; exact this) hn
 ·cases he
theorem field_exec (hO : OrcOK P O) {T : TypeId} {x : Operand} {k : Nat} (hop : o.op = .field T x k) : OpOK P O call draw f rid i o := by
 intro FB w s ι a r Q next h hl he hn
 simp only [exec0, hop] at he
 split at he
 ·rename_i own t y e
  split at he
  ·rename_i hT
   simp only [Option.map_eq_some_iff] at he
   obtain ⟨b, hb, rfl⟩ := he
   have hv := val0 (slots_of h) x
   rw [e] at hv
   simp only [VR] at hv
   exact leaves_gives h hl (by simp only [execOp, hop]) (field_ok hO hT hv hb) hn
  ·cases he
 ·cases he
theorem index_exec (hO : OrcOK P O) {T : TypeId} {x k : Operand} (hop : o.op = .index T x k) : OpOK P O call draw f rid i o := by
 intro FB w s ι a r Q next h hl he hn
 simp only [exec0, hop] at he
 split at he
 ·rename_i own t y e
  split at he
  ·rename_i hT
   simp only [Option.map_eq_some_iff] at he
   obtain ⟨b, hb, rfl⟩ := he
   have hv := val_ok (slots_of h) (O.ty T) (ty_fine hO) x
   rw [e] at hv
   simp only [VR] at hv
   exact leaves_gives h hl (by simp only [execOp, hop]) (index_ok hO hT hv (val0 (slots_of h) k) hb) hn
  ·cases he
 ·cases he
theorem indexAddr_exec (hO : OrcOK P O) {T : TypeId} {x k : Operand} (hop : o.op = .indexAddr T x k) : OpOK P O call draw f rid i o := by
 intro FB w s ι a r Q next h hl he hn
 simp only [exec0, hop] at he
 split at he
 ·rename_i n t hT
  split at he
  ·rename_i hp
   simp only [Option.map_eq_some_iff] at he
   obtain ⟨b, hb, rfl⟩ := he
   exact leaves_gives h hl (by simp only [execOp, hop]) (indexA_ok hO (R := rlOf w FB s (tmOf a) ι) rfl (val0 (slots_of h) x) (val0 (slots_of h) k) (fun _ _ _ _ => hp) (by rw [hT]; exact hb)) hn
  ·cases he
 ·rename_i u hu
  simp only [Option.map_eq_some_iff] at he
  obtain ⟨b, hb, rfl⟩ := he
  exact leaves_gives h hl (by simp only [execOp, hop]) (indexA_ok hO (R := rlOf w FB s (tmOf a) ι) rfl (val_ok (slots_of h) _ (ty_fine hO) x) (val0 (slots_of h) k) (fun gw n t hT => absurd hT (hu gw n t)) hb) hn
theorem extract_exec {x : Operand} {k : Nat} (hop : o.op = .extract x k) : OpOK P O call draw f rid i o := by
 intro FB w s ι a r Q next h hl he hn
 simp only [exec0, hop] at he
 split at he
 ·rename_i l e
  simp only [Option.map_eq_some_iff] at he
  obtain ⟨b, hb, rfl⟩ := he
  have hv := val0 (slots_of h) x
  exact leaves_gives h hl (by simp only [execOp, hop]) (extract_ok (val0 (slots_of h) x) e hb) hn
 ·cases he
end Go.Am
namespace Go.Am
variable {P : Program} {O : Orc} {FB : Nat → Nat → Prop} {w : World} {s : St} {ι : Key → Nat} {call : CallF} {draw : Bool} {f : FuncId} {rid i : Nat} {o : Oper} {a : Act} {r : Res}
variable {Q : Exit → Act → World → Prop} {next : Act → World → Prop}
theorem VT.of_dat {R : Rl} {b : AV} {d : Dat} {v : Value} (h : VR R O b v) (hd : b.dat = some d) : VT R d.t d.x v := by
 unfold AV.dat at hd
 split at hd
 ·cases hd; simpa only [VR] using h
 ·cases hd
  simp only [VR] at h
  obtain ⟨b, T, h3, h4, rfl⟩ := h
  have z : pOff T [] = 0 := by cases T <;> rfl
  rw [z]
  exact ⟨rfl, nofun, fun _ => rfl, rfl, b, T, h3, h4, rfl⟩
 ·cases hd
  simp only [VR, VRL] at h
  obtain ⟨vs, ws, rfl, h3, h4⟩ := h
  have e1 : vs = #[] := Array.toList_eq_nil_iff.1 h3
  have e2 : ws = #[] := Array.toList_eq_nil_iff.1 h4
  subst e1 e2
  exact ⟨rfl, nofun, fun _ => rfl, rfl, rfl⟩
 ·cases hd
theorem leaves_allocS {v : Value} {ob : Ob} {d : Nat} {T : TypeId} (h : Rel O FB w s (tmOf a) ι) (hl : s.env.length = a.tmps.size) (hd : o.dst = some d) (he : (execOp a.eval o).run P w = .ok (.value (.pointer (some ⟨w.heap.size, 0, none⟩))) (w.alloc (.cells v.cells T (0, 0))))
  (hk : look s.heap (d + 1, 0) = none) (hf : ob.d.t.fine = true) (hs : v.cells.size = ob.d.t.size) (hrv : ∀ R, (rlOf w FB s (tmOf a) ι).le R → R.kt (d + 1, 0) = some (w.heap.size, ob.d.t) → RV R ob.d.t ob.d.x (cellsF v)) (hgr : ob.d.t.grow = false) (hw : ob.d.t.wr = true → T ∈ wrT) (hown : ∀ p ∈ ob.own, regAt ob.d.t (cellsF v) p = none)
  (hn : Leaves O FB w s ι a (s.app o.dst ⟨.op (d + 1, 0) [], none, ((d + 1, 0), ob) :: s.heap⟩) next) : o.wp P a w next Q := by
 have h1 := h.objectS T hk hf hs hrv (grow_ghost hgr) hw hown
 have h2 := h1.rel.set d (.op (d + 1, 0) []) (.pointer (some ⟨w.heap.size, 0, none⟩)) (by
  simp only [VR]
  refine ⟨w.heap.size, ob.d.t, ?_, hgr, ?_⟩
  ·show ktOf (((d + 1, 0), ob) :: s.heap) (fun q => if q = (d + 1, 0) then w.heap.size else ι q) (d + 1, 0) = _
   unfold ktOf
   rw [look_cons, if_pos rfl]
   simp
  ·have z : ∀ T, pOff T [] = 0 := fun T => by cases T <;> rfl
   rw [z]) nofun
 refine leaves_stp (r := ⟨.op (d + 1, 0) [], none, ((d + 1, 0), ob) :: s.heap⟩) (ι' := fun q => if q = (d + 1, 0) then w.heap.size else ι q) he (h1.trans ?_) hl (hist_alloc _ ⟨rfl, rfl, rfl, rfl⟩ _) (fun k hk' => ?_) hn
 ·rw [hd]; exact h2
 ·have hne : k ≠ (d + 1, 0) := fun e => by rw [e] at hk'; simp at hk'
  refine ⟨?_, ?_⟩
  ·show (look (((d + 1, 0), ob) :: s.heap) k).map _ = _
   rw [look_cons, if_neg hne]
  ·simp only [if_neg hne]
theorem leaves_alloc {v : Value} {ob : Ob} {d : Nat} {T : TypeId} (h : Rel O FB w s (tmOf a) ι) (hl : s.env.length = a.tmps.size) (hd : o.dst = some d) (he : (execOp a.eval o).run P w = .ok (.value (.pointer (some ⟨w.heap.size, 0, none⟩))) (w.alloc (.cells v.cells T (0, 0))))
  (hk : look s.heap (d + 1, 0) = none) (hv : VT (rlOf w FB s (tmOf a) ι) ob.d.t ob.d.x v) (hgr : ob.d.t.grow = false) (hw : ob.d.t.wr = true → T ∈ wrT) (hown : ∀ p ∈ ob.own, regAt ob.d.t (cellsF v) p = none)
  (hn : Leaves O FB w s ι a (s.app o.dst ⟨.op (d + 1, 0) [], none, ((d + 1, 0), ob) :: s.heap⟩) next) : o.wp P a w next Q :=
 leaves_allocS h hl hd he hk hv.fine hv.size (fun _ hle _ => RV.le hle _ _ _ hv.fine hv.rv) hgr hw hown hn
theorem allocA_some {h : Heap} {d : Option Nat} {ob : Ob} (e : allocA h d ob = some r) : ∃ d', d = some d' ∧ look h (d' + 1, 0) = none ∧ r = ⟨.op (d' + 1, 0) [], none, ((d' + 1, 0), ob) :: h⟩ := by
 unfold allocA at e
 split at e
 ·rename_i d'
  split at e
  ·rename_i hc
   simp only [Bool.and_eq_true, Option.isNone_iff_eq_none] at hc
   cases e
   exact ⟨d', rfl, hc.1, rfl⟩
  ·cases e
 ·cases e
theorem alloc_ok (hO : OrcOK P O) {T : TypeId} (hop : o.op = .alloc T) : OpOK P O call draw f rid i o := by
 intro FB w s ι a r Q next h hl he hn
 simp only [exec0, hop, Option.bind_eq_some_iff] at he
 obtain ⟨t, hT, he⟩ := he
 obtain ⟨d, hd, hk, rfl⟩ := allocA_some he
 have hz := VT.zero (rlOf w FB s (tmOf a) ι) (hO.ty T t hT).fine (hO.ty T t hT).hasZ
 have hg := (hO.ty T t hT).grow
 refine leaves_allocS (v := zeroVal t) (ob := ⟨⟨t, selfD ((o.dst.getD 0) + 1, 0) t (Am.zero t)⟩, slPaths t⟩) (T := T) h hl hd ?_ hk hz.fine hz.size (fun R hle hk2 => ?_) hg (hO.ty T t hT).wr (fun p _ => regAt_zero t p _ fun j => ?_) hn
 ·simp only [execOp, hop, Instr.alloc, Sem.run_bind, (hO.ty T t hT).zeroValue, Result.andThen_ok]
  rfl
 ·rw [hd]; exact RV.self hk2 hg t _ _ (RV.le hle _ _ _ hz.fine hz.rv)
 ·simp [cellsF, zeroVal_cells, List.getD_eq_getElem?_getD]
theorem box_ok (hO : OrcOK P O) {T : TypeId} {x : Operand} (hop : o.op = .box T x) : OpOK P O call draw f rid i o := by
 intro FB w s ι a r Q next h hl he hn
 simp only [exec0, hop, Option.bind_eq_some_iff] at he
 obtain ⟨d, hd, he⟩ := he
 split at he
 ·rename_i hT
  obtain ⟨d', hd', hk, rfl⟩ := allocA_some he
  refine leaves_alloc (v := a.eval x) (ob := ⟨d, []⟩) (T := T) h hl hd' ?_ hk (VT.of_dat (val_ok (slots_of h) _ (ty_fine hO) x) hd) (hO.ty T _ hT).grow (hO.ty T _ hT).wr nofun hn
  simp only [execOp, hop, Instr.box]
  rfl
 ·cases he
theorem buildSlice_ok (hO : OrcOK P O) {T : TypeId} {n : Nat} {ps : Array (Nat × Operand)} (hop : o.op = .buildSlice T n ps) : OpOK P O call draw f rid i o := by
 intro FB w s ι a r Q next h hl he hn
 simp only [exec0, hop] at he
 split at he
 ·rename_i t hT
  split at he
  ·rename_i hsz
   simp only [Option.map_eq_some_iff] at he
   obtain ⟨l, hb, rfl⟩ := he
   obtain ⟨ob, v, h1, h2, h3, _⟩ := buildSl_ok hO h (slots_of h) hT hsz hb
   have s1 := h.alloc ob
   have s2 := s1.rel.set (o.dst.getD s.env.length) (.tv (ownS t) (.slice t) l) v (by simp only [VR]; exact h2) (fun own u x e p hp => by
    injection e with e1 e2 _
    subst e1; subst e2
    rcases ownS_cases t with ho | ⟨ho, hu⟩
    ·rw [ho] at hp; cases hp
    rw [ho] at hp
    simp only [List.mem_singleton] at hp
    subst hp; exact h3 hu)
   exact leaves_stp (by simp only [execOp, hop, Sem.run_bind, h1, Result.andThen_ok, Sem.run_pure]) (s1.trans s2) hl (hist_alloc _ ⟨rfl, rfl, rfl, rfl⟩ _) (fun _ _ => ⟨rfl, rfl⟩) hn
  ·cases he
 ·cases he
theorem bnds_ok {R : Rl} {g : Nat → AV} (hs : Slots R O g a) (lo : Option Operand) : (∀ b, lo.map (val g none) = some b → ∃ v, lo.map a.eval = some v ∧ VR R O b v) ∧ (lo.map (val g none) = none → lo.map a.eval = none) := by
 cases lo with
 | none => exact ⟨nofun, fun _ => rfl⟩
 | some x => exact ⟨fun b e => by cases e; exact ⟨_, rfl, val0 hs x⟩, nofun⟩
theorem convert_exec (hO : OrcOK P O) {T U : TypeId} {x : Operand} (hop : o.op = .convert T U x) : OpOK P O call draw f rid i o := by
 intro FB w s ι a r Q next h hl he hn
 simp only [exec0, hop, Option.map_eq_some_iff] at he
 obtain ⟨b, hb, rfl⟩ := he
 have hv := val_ok (slots_of h) (O.ty T) (ty_fine hO) x
 have hx : execOp a.eval o = (do pure (.value (← convert T U (a.eval x)))) := by simp only [execOp, hop]
 unfold convV at hb
 split at hb
 ·rename_i k k' own k2 n hT hU e
  rw [e] at hv
  exact leaves_gives h hl hx (convInt_ok hO hT hU hv hb) hn
 ·rename_i own l hT hU e
  cases hb
  rw [e] at hv
  simp only [VR] at hv
  exact leaves_gives h hl hx (convBS_ok hO (R := rlOf w FB s (tmOf a) ι) rfl hT hU hv) hn
 ·rename_i own l hT hU e
  cases hb
  rw [e] at hv
  simp only [VR] at hv
  obtain ⟨w', v', c1, c2, c3⟩ := convSB_ok hO h (o.dst.getD s.env.length) hT hU hv
  exact leaves_stp (by rw [hx]; simp only [Sem.run_bind, c1, Result.andThen_ok, Sem.run_pure]) c2 hl c3 (fun _ _ => ⟨rfl, rfl⟩) hn
 ·rename_i own l hT hU e
  cases hb
  rw [e] at hv
  obtain ⟨d1, e1, f1⟩ := (hO.ty _ _ hT).und
  obtain ⟨d2, e2, f2⟩ := (hO.ty _ _ hU).und
  simp only [UndOK] at f1 f2
  subst f1; subst f2
  exact leaves_gives h hl hx (convSS_ok e1 e2 rfl hv) hn
 ·cases hb
theorem load_exec (hO : OrcOK P O) {T : TypeId} {x : Operand} (hop : o.op = .load T x) : OpOK P O call draw f rid i o := by
 intro FB w s ι a r Q next h hl he hn
 simp only [exec0, hop, loadA, Option.bind_eq_some_iff] at he
 obtain ⟨d, hd, he⟩ := he
 have hv := val0 (slots_of h) x
 have hx : execOp a.eval o = (do pure (.value (← Instr.loadAt T (a.eval x)))) := by simp only [execOp, hop]
 split at he
 ·rename_i hT
  split at he
  ·split at he
   ·rename_i k p e
    simp only [Option.bind_eq_some_iff, Option.some.injEq] at he
    obtain ⟨b, hb, rfl⟩ := he
    rw [e] at hv hd
    simp only [VR] at hv
    simp only [loadV, Option.bind_eq_some_iff] at hd
    obtain ⟨b', hb', hp⟩ := hd
    rw [hb] at hb'
    cases hb'
    obtain ⟨bl, T', hkt, hgr, hpv⟩ := hv
    have hkt' : some (ι k, b.d.t) = some (bl, T') := by
     have : ktOf s.heap ι k = some (bl, T') := hkt
     unfold ktOf at this
     rw [hb] at this; exact this
    cases hkt'
    obtain ⟨hf, hob⟩ := h.ob k b hb
    obtain ⟨arr, T0, hblk, _, hsz, hrv⟩ := hob.cells (fun a c e => by
     obtain ⟨⟨t, x⟩, own⟩ := b
     simp only at e hp
     subst e
     exact (hO.ty T _ hT).mp _ _ (prj_mp hp)) (grow_ghost hgr)
    obtain ⟨p1, p2, p3⟩ := RV.prj _ _ _ _ _ hrv hp
    have hc : ∀ j, j < d.t.size → w.cell? ⟨ι k, pOff b.d.t p + j, none⟩ = some (arr.getD (pOff b.d.t p + j) undef) := by
     intro j hj
     rw [cell_block hblk]
     have : pOff b.d.t p + j < arr.size := by omega
     simp [Array.getElem?_eq_getElem this, Array.getD_eq_getD_getElem?]
    have hrun := run_loadVar (hO.ty T _ hT) hc size0_agg
    have hVT := VT.of_cells (pTy_fine _ _ _ hf p1) p2
    have st := h.loadTake (o.dst.getD s.env.length) hb p1 hVT (fun j hj => by
     have hbf : blockF w (ι k) (pOff b.d.t p + j) = arr.getD (pOff b.d.t p + j) undef := by unfold blockF; rw [hblk]
     rw [hbf]
     by_cases ha : d.t.agg = true
     ·simp [ha, cellsF, Value.cells, Array.getD_eq_getD_getElem?, hj]
     ·have hs1 := agg_size (by simpa using ha : d.t.agg = false)
      have : j = 0 := by omega
      subst this
      simp only [ha]
      have := hVT.one (by simpa using ha)
      simp only [ha] at this
      unfold cellsF
      simp only [Bool.false_eq_true, if_false] at this ⊢
      rw [this]
      rfl)
    refine leaves_stp (r := ⟨d.av (below p b.own), none, over s.heap k ⟨b.d, strip p b.own⟩⟩) ?_ st hl (Hist.refl _ _) (fun q _ => ⟨?_, rfl⟩) hn
    ·rw [hx, hpv]
     simp only [Instr.loadAt, Instr.sureAddr, Sem.run_bind, Sem.run_pure, Result.andThen_ok, hrun]
    ·show (look (over s.heap k _) q).map _ = _
     rw [look_over]
     split
     ·rename_i e; rw [e, hb]; rfl
     ·rfl
   ·cases he
  ·cases he
   obtain ⟨v, h1, h2⟩ := load_ok hO h hv hd hT
   exact leaves_gives h hl hx (Gives.dat h1 h2) hn
 ·cases he
theorem store_exec (hO : OrcOK P O) {T : TypeId} {x y : Operand} (hop : o.op = .store T x y) : OpOK P O call draw f rid i o := by
 intro FB w s ι a r Q next h hl he hn
 simp only [exec0, hop, Option.bind_eq_some_iff] at he
 obtain ⟨d, hd, he⟩ := he
 split at he
 ·rename_i hT
  simp only [Option.map_eq_some_iff] at he
  obtain ⟨h', hs, rfl⟩ := he
  have hv := val0 (slots_of h) x
  have main : ∀ (k : Key) (p : List Nat) (b : Ob) (y' : den b.d.t), look s.heap k = some b → b.d.t.ghost = false → upd b.d.t b.d.x p d = some y' → a.eval x = .pointer (some ⟨ι k, pOff b.d.t p, none⟩) →
    Leaves O FB w s ι a (s.app o.dst ⟨.no, (takeV (O.take f rid i) s.get (O.ty T) y).2, over s.heap k ⟨⟨b.d.t, y'⟩, (takeV (O.take f rid i) s.get (O.ty T) y).1.own.map (p ++ ·) ++ b.own.filter fun q => !isPre p q⟩⟩) next → o.wp P a w next Q := by
   intro k p b y' hb hgh hu hpv hn
   obtain ⟨hf, hob⟩ := h.ob k b hb
   obtain ⟨arr, T0, hblk, _, hsz, hrv⟩ := hob.cells (fun a c e => by
    obtain ⟨⟨t, x⟩, own⟩ := b
    simp only at e hu y'
    subst e
    exact (hO.ty T _ hT).mp _ _ (upd_mp hu)) hgh
   have hq : ∃ src, (takeV (O.take f rid i) s.get (O.ty T) y).2 = src ∧ VR (rlOf w FB s (tmOf a) ι) O (takeV (O.take f rid i) s.get (O.ty T) y).1 (a.eval y) ∧
     ∀ q ∈ (takeV (O.take f rid i) s.get (O.ty T) y).1.own, RoomAt w d.t (cellsF (a.eval y)) q ∧ (regAt d.t (cellsF (a.eval y)) q = none ∨ ∃ t, src = some t ∧ owns w s (tmOf a) ι (.sl t q) = regAt d.t (cellsF (a.eval y)) q) := by
    rcases takeV_spec (g := s.get) (tk := O.take f rid i) (h := O.ty T) (x := y) with ⟨t, _, rfl, e2⟩ | e2
    ·rw [e2] at hd ⊢
     refine ⟨_, rfl, h.vr t, fun q hq => ?_⟩
     cases hg : s.get t with
     | tv own u z =>
      rw [hg] at hd hq
      simp only [AV.dat, Option.some.injEq] at hd
      subst hd
      simp only [AV.own] at hq
      refine ⟨h.rs t own u z hg q hq, .inr ⟨t, rfl, ?_⟩⟩
      simp only [owns, hg, if_pos hq]
      rfl
     | _ => rw [hg] at hq; simp [AV.own] at hq
    ·rw [e2] at hd ⊢
     refine ⟨_, rfl, val_ok (slots_of h) _ (ty_fine hO) y, fun q hq => ?_⟩
     cases hg : val s.get (O.ty T) y with
     | tv own u z =>
      rw [hg] at hd hq
      simp only [AV.dat, Option.some.injEq] at hd
      subst hd
      simp only [AV.own] at hq
      have := val_own (slots_of h) (ty_fine hO) y own u z hg q hq
      exact ⟨room_none this, .inl this⟩
     | _ => rw [hg] at hq; simp [AV.own] at hq
   obtain ⟨src, q1, q2, q3⟩ := hq
   have hVT := VT.of_dat q2 hd
   obtain ⟨u1, u2, u3⟩ := RV.upd _ _ _ _ (cellsF (a.eval y)) _ _ hrv hVT.rv hu
   have hsz2 := hVT.size
   have hone : ∀ v ∈ (a.eval y).cells.toList, v.oneCell' = true := by
    intro v hv
    obtain ⟨j, hj, rfl⟩ := List.mem_iff_getElem.1 hv
    have hj' : j < d.t.size := by rw [← hsz2]; simpa using hj
    have := RV.one d.t d.x _ hVT.rv j hj'
    unfold cellsF at this
    have hj2 : j < (a.eval y).cells.size := by rw [hsz2]; exact hj'
    simp only [Array.getD_eq_getD_getElem?, Array.getElem?_eq_getElem hj2, Option.getD_some] at this
    simpa using this
   have hlen : (a.eval y).cells.toList.length = d.t.size := by simpa using hsz2
   obtain ⟨w', r1, r2⟩ := run_storeCells (P := P) (o := pOff b.d.t p) (a.eval y).cells.toList 0 w arr hblk hone (fun j hj => ⟨by omega, frozen_new hblk _⟩)
   have st := h.store (own := (takeV (O.take f rid i) s.get (O.ty T) y).1.own) hb hVT hu q3 hgh hblk (by simpa using r2)
   have hrun : (execOp a.eval o).run P w = .ok .skip w' := by
    have hszr := (hO.ty T _ hT).sizeOf w
    simp only [execOp, hop, Instr.storeAt, hpv, Instr.sureAddr, storeVar, Sem.run_bind, Sem.run_pure, Result.andThen_ok, hszr, Sem.run_ite, hsz2]
    simp [r1]
   have hl1 : (takeE s.env src).length = s.env.length := by cases src <;> simp [takeE]
   have s2 := st.rel.set (o.dst.getD s.env.length) .no undef rfl nofun
   simp only [hl1] at s2
   unfold Oper.wp
   rw [hrun]
   refine hn _ _ ι (put_defers' _ _ _) (put_size _ _ _) ⟨?_, ?_, fun q _ => KGo.of ⟨?_, rfl⟩⟩
   ·rw [app_eq, put_eq, ← hl, q1]; exact st.trans s2
   ·exact hist_stored r2 hblk ⟨0, ⟨.ob k, by simp [owns, hb, hgh]⟩, by omega⟩ (fun lo ⟨l, hl'⟩ => by
     have := h.dj l (.ob k) (ι k) lo 0 hl' (by simp [owns, hb, hgh])
     subst this
     simp [owns, hb, hgh] at hl'
     omega)
   ·rw [app_eq]
    show (look (over s.heap k _) q).map _ = _
    rw [look_over]
    split
    ·rename_i e; rw [e, hb]; rfl
    ·rfl
  unfold storeV at hs
  split at hs
  ·rename_i k p e
   rw [e] at hv
   simp only [VR] at hv
   simp only [Option.bind_eq_some_iff, Option.map_eq_some_iff] at hs
   obtain ⟨b, hb, y', hu, rfl⟩ := hs
   obtain ⟨bl, T', hkt, hgr, hpv⟩ := hv
   have hkt' : some (ι k, b.d.t) = some (bl, T') := by
    have : ktOf s.heap ι k = some (bl, T') := hkt
    unfold ktOf at this
    rw [hb] at this; exact this
   cases hkt'
   exact main k p b y' hb (grow_ghost hgr) hu hpv hn
  ·rename_i k N p e
   rw [e] at hv
   simp only [VR] at hv
   simp only [Option.bind_eq_some_iff] at hs
   obtain ⟨b, hb, hs⟩ := hs
   split at hs
   ·rename_i hl
    simp only [Option.map_eq_some_iff] at hs
    obtain ⟨y', hu, rfl⟩ := hs
    obtain ⟨bl, γ, n, u, hkt, h2, h3⟩ := hv
    have hkt' : some (ι k, b.d.t) = some (bl, .arr (γ + 1) n u) := by
     have : ktOf s.heap ι k = some (bl, .arr (γ + 1) n u) := hkt
     unfold ktOf at this
     rw [hb] at this; exact this
    simp only [Option.some.injEq, Prod.mk.injEq] at hkt'
    obtain ⟨rfl, e2⟩ := hkt'
    have hl2 := hl
    rw [e2] at hl2
    simp only [Ty.len?, Option.some.injEq] at hl2
    refine main k p b y' hb ?_ hu (by rw [h3 hl2.symm, e2]) hn
    cases hg : b.d.t.ghost with
    | false => rfl
    | true =>
     exfalso
     have hgr := (hO.ty T _ hT).grow
     cases p with
     | nil =>
      obtain ⟨⟨t, z⟩, own⟩ := b
      simp only at hu hg e2
      subst e2
      simp only [Am.upd] at hu
      split at hu
      ·rename_i hdt
       rw [hdt] at hgr; cases hgr
      ·cases hu
     | cons j p =>
      obtain ⟨⟨t, z⟩, own⟩ := b
      simp only at hu hg e2
      subst e2
      cases n with
      | zero => simp [Am.upd] at hu
      | succ n => simp [Ty.ghost] at hg
   ·cases hs
  ·cases hs
 ·cases he
end Go.Am
namespace Go.Am
variable {P : Program} {O : Orc} {FB : Nat → Nat → Prop} {w : World} {s : St} {ι : Key → Nat} {call : CallF} {draw : Bool} {f : FuncId} {rid i : Nat} {o : Oper} {a : Act} {r : Res}
variable {Q : Exit → Act → World → Prop} {next : Act → World → Prop}
theorem slice_exec (hO : OrcOK P O) {T : TypeId} {x : Operand} {lo hi mx : Option Operand} (hop : o.op = .slice T x lo hi mx) : OpOK P O call draw f rid i o := by
 intro FB w s ι a r Q next h hl he hn
 simp only [exec0, hop, sliceA] at he
 have hx : execOp a.eval o = (do pure (.value (← Instr.sliceAt T (a.eval x) (lo.map a.eval) (hi.map a.eval) (mx.map a.eval)))) := by simp only [execOp, hop]
 obtain ⟨l1, l2⟩ := bnds_ok (slots_of h) lo
 obtain ⟨i1, i2⟩ := bnds_ok (slots_of h) hi
 cases mx with
 | none =>
  simp only at he
  split at he
  ·rename_i n t hT
   split at he
   ·rename_i q p e
    split at he
    ·rename_i hc
     simp only [Bool.and_eq_true, Option.isNone_iff_eq_none] at hc
     obtain ⟨⟨rfl, rfl⟩, hp⟩ := hc
     simp only [Option.bind_eq_some_iff] at he
     obtain ⟨d, hd, he⟩ := he
     split at he
     ·rename_i n' t' l
      split at he
      ·rename_i ht
       subst ht
       split at he
       ·rename_i hn'
        subst hn'
        cases he
        have hv := val0 (slots_of h) x
        rw [e] at hv
        simp only [VR] at hv
        obtain ⟨D, hgl, hd⟩ := Option.bind_eq_some_iff.1 hd
        obtain ⟨g1, g2, us, g3, g4⟩ := h.gl q D hgl
        obtain ⟨p1, p2, p3⟩ := RV.prj _ _ _ _ _ g4 hd
        simp only [hgl, Option.map_some, Option.getD_some] at hv
        obtain ⟨D', hD, e', rfl, he', hz, hn1⟩ := (hO.ty T _ hT).und
        simp only [RV] at p2
        obtain ⟨p4, p5⟩ := p2
        have hfine : (Ty.slice t').fine = true := by
         have hnr := pTy_noRef _ _ _ g1 p1
         have hfi := pTy_fine _ _ _ g2 p1
         simp only [Ty.noRef, Ty.fine] at hnr hfi ⊢
         simp [hnr, hfi]
        refine leaves_value (v := .slice (some ⟨q, pOff D.t p, none⟩) n' n') h hl ?_ ?_ (fun own u y e p hp => by injection e with e1 _ _; subst e1; cases hp) hn
        ·rw [hx]
         simp only [Option.map_none, hv, Instr.sliceAt, Sem.run_bind, run_und hD, Result.andThen_ok, Instr.sureAddr, Sem.run_pure, (hO.ty _ _ he').sizeOf]
         have := run_bounds (P := P) (w := w) (isSlice := false) (len := n') (cap := n') (lo := none) (hi := none) (a := 0) (c := n') (.inr ⟨rfl, rfl⟩) (.inr ⟨rfl, rfl⟩) (by omega) (by omega) (by omega)
         simp only [this, Result.andThen_ok, Sem.run_pure]
         simp [add_plain]
        ·simp only [VR]
         have hag : (Ty.slice t').agg = false := rfl
         refine ⟨hfine, nofun, fun _ => rfl, rfl, ?_⟩
         simp only [RV]
         refine ⟨some ⟨q, pOff D.t p, none⟩, n', q, pOff D.t p, fun i j => us (pOff D.t p + (i * t'.size + j)), ?_, by omega, nofun, fun _ => rfl, fun i hi j hj => ?_, fun i hi => ?_⟩
         ·rw [cellsF_one (by simp), p4]
         ·have hi' : i < n' := by rw [← p4]; exact hi
          have hle : i * t'.size + t'.size ≤ n' * t'.size := by
           have := Nat.mul_le_mul_right t'.size (show i + 1 ≤ n' by omega)
           rw [Nat.add_mul] at this; omega
          have hsz : pOff D.t p + n' * t'.size ≤ D.t.size := p3
          have := g3 (pOff D.t p + (i * t'.size + j)) (by omega)
          rw [show 0 + (pOff D.t p + (i * t'.size + j)) = pOff D.t p + i * t'.size + j by omega] at this
          exact this
         ·exact p5 i (by rw [← p4]; exact hi)
       ·cases he
      ·cases he
     ·cases he
    ·cases he
   ·cases he
  ·rename_i u hu
   simp only [Option.map_eq_some_iff] at he
   obtain ⟨b, hb, rfl⟩ := he
   rcases takeV_spec (g := s.get) (tk := O.take f rid i) (h := O.ty T) (x := x) with ⟨t, htk, rfl, e⟩ | e
   ·rw [e] at hb hn
    obtain ⟨⟨v, c1, c2, c3⟩, c4⟩ := sliceV_ok hO (w := w) (h.vr t) l1 l2 i1 i2 hb
    refine leaves_stp (v := v) (r := ⟨b, some t, s.heap⟩) ?_ ?_ hl (Hist.refl _ _) (fun _ _ => ⟨rfl, rfl⟩) hn
    ·rw [hx]
     have c1' : (Instr.sliceAt T (a.eval (.tmp t)) (lo.map a.eval) (hi.map a.eval) none).run P w = .ok v w := c1
     simp only [Option.map_none, Sem.run_bind, c1', Result.andThen_ok, Sem.run_pure]
    ·refine h.setTake t _ _ _ c2 fun own T' y e2 => ?_
     rcases c4 own T' y e2 with rfl | ⟨u', rfl, rfl, hTu, own0, l0, e3⟩
     ·cases hg : s.get t with
      | tv own0 t0 x0 => exact ⟨own0, t0, x0, rfl, nofun⟩
      | _ =>
       rw [hg] at hb
       simp [sliceV] at hb
     ·refine ⟨own0, _, l0, e3, fun p hp => ?_⟩
      simp only [htk, Bool.true_and] at hp
      split at hp
      ·rename_i hno
       rw [e3] at hp
       simp only [AV.own] at hp
       simp only [Bool.and_eq_true] at hno
       obtain ⟨k1, k2⟩ := c3 (by simpa using hno.1) _ _ _ e2 (by rintro rfl; rw [hTu] at hno; exact absurd hno.2 (by decide))
       have hroom := h.rs t own0 _ l0 e3 p hp
       cases p with
       | nil => exact ⟨hp, k1, k2 hroom⟩
       | cons z zs => exact ⟨hp, by simp [regAt, pTy], by simp [RoomAt, pTy]⟩
      ·cases hp
   ·rw [e] at hb hn
    obtain ⟨⟨v, c1, c2, c3⟩, c4⟩ := sliceV_ok hO (w := w) (val_ok (slots_of h) _ (ty_fine hO) x) l1 l2 i1 i2 hb
    refine leaves_value (v := v) h hl ?_ c2 (fun own T' y e2 p hp => ?_) hn
    ·rw [hx]
     simp only [Option.map_none, Sem.run_bind, c1, Result.andThen_ok, Sem.run_pure]
    ·rcases c4 own T' y e2 with rfl | ⟨u', rfl, rfl, hTu, own0, l0, e3⟩
     ·cases hp
     ·split at hp
      ·rename_i hno
       simp only [Bool.and_eq_true] at hno
       rw [e3] at hp
       simp only [AV.own] at hp
       have := val_own (slots_of h) (ty_fine hO) x own0 _ l0 e3 p hp
       cases p with
       | nil => exact (c3 (by simpa using hno.2.1) _ _ _ e2 (by rintro rfl; rw [hTu] at hno; exact absurd hno.2.2 (by decide))).1.trans this
       | cons z zs => simp [regAt, pTy]
      ·cases hp
 | some m =>
  cases hi with
  | none => cases he
  | some hv =>
   simp only at he
   split at he
   ·rename_i hc
    simp only [Bool.and_eq_true, decide_eq_true_eq] at hc
    split at he
    ·rename_i t hT
     split at he
     ·cases he
     ·rename_i hns
      simp only [Option.map_eq_some_iff] at he
      obtain ⟨b, hb, rfl⟩ := he
      exact leaves_gives h hl hx (slice3_ok hO hT (val_ok (slots_of h) _ (fun u e => by cases e; exact (hO.ty T _ hT).fine) x) l1 l2 (val0 (slots_of h) hv) (val0 (slots_of h) m) hc.1 hc.2 (by simpa using hns) hb) hn
    ·cases he
   ·cases he
theorem ofValue_builtin {b : Builtin} {c : Call} (hop : o.op = .call c) (hc : c.callee = .builtin b) :
  execOp a.eval o = builtin b c.argTypes o.type (c.args.map fun | .const _ => true | _ => false) (c.args.map a.eval) := by
 simp only [execOp, hop, resolve, hc]
 rfl
theorem len_ts {ts : Array TypeId} {T ty : TypeId} {as : Array Value} (h : ts[0]? = some T) : Builtin.len_ ts ty as = Builtin.len_ #[T] ty as := by
 simp [Builtin.len_, h]
theorem append_ts {ts : Array TypeId} {T U ty : TypeId} {as : Array Value} (h : ts[0]? = some T) (h2 : ts[1]? = some U) : Builtin.append_ ts ty as = Builtin.append_ #[T, U] ty as := by
 simp [Builtin.append_, h, h2]
theorem args1 {c : Call} {x : Operand} (h : c.args.toList = [x]) : c.args.map a.eval = #[a.eval x] := by
 have : c.args = #[x] := by
  apply Array.toList_inj.1; exact h
 rw [this]; simp
theorem args2 {c : Call} {x y : Operand} (h : c.args.toList = [x, y]) : c.args.map a.eval = #[a.eval x, a.eval y] := by
 have : c.args = #[x, y] := by
  apply Array.toList_inj.1; exact h
 rw [this]; simp
theorem row_one {R : Rl} {t : Ty} {m : List (den t)} (hs : t.size ≠ 0) : ∀ nc, RowOf R t m nc → ∀ v ∈ nc.toList, v.oneCell' = true := by
 intro nc ⟨h1, h2⟩ v hv
 obtain ⟨j, hj, rfl⟩ := List.mem_iff_getElem.1 hv
 have hj' : j < m.length * t.size := by rw [← h1]; simpa using hj
 have hpos : 0 < t.size := by omega
 have hdiv : j / t.size < m.length := (Nat.div_lt_iff_lt_mul hpos).2 hj'
 have := RV.one t _ _ (h2 (j / t.size) hdiv) (j % t.size) (Nat.mod_lt _ hpos)
 simp only [Nat.div_add_mod' j t.size] at this
 have hj2 : j < nc.size := by simpa using hj
 simp only [Array.getD_eq_getD_getElem?, Array.getElem?_eq_getElem hj2, Option.getD_some] at this
 simpa using this
theorem append_exec (hO : OrcOK P O) {c : Call} {x y : Operand} (hop : o.op = .call c) (hc : c.callee = .builtin .append) (hxy : c.args.toList = [x, y]) : OpOK P O call draw f rid i o := by
 intro FB w s ι a r Q next h hl he hn
 simp only [exec0, hop, callO, hc, hxy, Option.map_eq_some_iff] at he
 obtain ⟨b, hb, rfl⟩ := he
 have hx : execOp a.eval o = (do pure (.value (← Builtin.append_ c.argTypes o.type #[a.eval x, a.eval y]))) := by rw [ofValue_builtin hop hc, args2 hxy]; rfl
 have hvy := val_ok (slots_of h) (c.argTypes[1]?.bind O.ty) (bind_fine hO) y
 generalize val s.get (c.argTypes[1]?.bind O.ty) y = ay at hb hvy
 have hq : ∀ own t l, (takeV (O.take f rid i) s.get (c.argTypes[0]?.bind O.ty) x).1 = .tv own (.slice t) l → own = [[]] → VT (rlOf w FB s (tmOf a) ι) (.slice t) l (a.eval x) ∧
   (((takeV (O.take f rid i) s.get (c.argTypes[0]?.bind O.ty) x).2 = none ∧ regAt (.slice t) (cellsF (a.eval x)) [] = none) ∨ ∃ t0 own0, (takeV (O.take f rid i) s.get (c.argTypes[0]?.bind O.ty) x).2 = some t0 ∧ s.get t0 = .tv own0 (.slice t) l ∧ [] ∈ own0 ∧ tmOf a t0 = a.eval x) := by
  intro own t l e1 e2
  subst e2
  rcases takeV_spec (g := s.get) (tk := O.take f rid i) (h := c.argTypes[0]?.bind O.ty) (x := x) with ⟨t0, _, rfl, e⟩ | e
  ·rw [e] at e1 ⊢
   have hv := h.vr t0
   simp only at e1
   rw [e1] at hv
   simp only [VR] at hv
   exact ⟨hv, .inr ⟨t0, _, rfl, e1, List.mem_singleton.2 rfl, rfl⟩⟩
  ·rw [e] at e1 ⊢
   have hv := val_ok (slots_of h) (c.argTypes[0]?.bind O.ty) (bind_fine hO) x
   simp only at e1
   rw [e1] at hv
   simp only [VR] at hv
   exact ⟨hv, .inl ⟨rfl, val_own (slots_of h) (bind_fine hO) x _ _ _ e1 [] (List.mem_singleton.2 rfl)⟩⟩
 generalize takeV (O.take f rid i) s.get (c.argTypes[0]?.bind O.ty) x = q at hb hq hn
 unfold appV at hb
 split at hb
 ·rename_i own t l own' t' m e1
  split at hb
  ·rename_i ht
   subst ht
   split at hb
   ·rename_i hcond
    obtain ⟨hT, hU, rfl, hbig⟩ := hcond
    cases hb
    obtain ⟨T, hT1, hT⟩ := Option.bind_eq_some_iff.1 hT
    obtain ⟨U, hU1, hU⟩ := Option.bind_eq_some_iff.1 hU
    obtain ⟨q1, q2⟩ := hq _ _ _ e1 rfl
    simp only [VR] at hvy
    obtain ⟨D, hd, e', rfl, he', hz⟩ := (hO.ty T _ hT).und
    obtain ⟨D2, hd2, e2, rfl, he2, hz2⟩ := (hO.ty U _ hU).und
    obtain ⟨ad, cap, _, _, _, hvs, _⟩ := hvy.slice
    obtain ⟨w', v', c1, c2, c3⟩ := append_ok hO h (ty := o.type) (o.dst.getD s.env.length) hT (.inr ⟨_, hd2⟩) q1 q2 (m := m) (vy := a.eval y) (by rw [hvs]; rfl) (fun w' hw' => firstCells_ok (R := rlOf w FB s (tmOf a) ι) hw'.symm hvy) (row_one hz) hbig
    exact leaves_stp (by rw [hx, append_ts hT1 hU1]; simp only [Sem.run_bind, c1, Result.andThen_ok, Sem.run_pure]) c2 hl c3 (fun _ _ => ⟨rfl, rfl⟩) hn
   ·cases hb
  ·cases hb
 ·rename_i own l own' m e1
  split at hb
  ·rename_i hcond
   obtain ⟨hT, hU, rfl, hbig⟩ := hcond
   cases hb
   obtain ⟨T, hT1, hT⟩ := Option.bind_eq_some_iff.1 hT
   obtain ⟨U, hU1, hU⟩ := Option.bind_eq_some_iff.1 hU
   obtain ⟨q1, q2⟩ := hq _ _ _ e1 rfl
   simp only [VR] at hvy
   have hs := hvy.str
   obtain ⟨D2, hd2, f2⟩ := (hO.ty U _ hU).und
   simp only [UndOK] at f2
   subst f2
   obtain ⟨w', v', c1, c2, c3⟩ := append_ok hO h (ty := o.type) (o.dst.getD s.env.length) hT (.inl hd2) q1 q2 (t := .int .u8) (m := (m : List Int)) (vy := a.eval y) (by rw [hs.1]; simp [Builtin.lenOf, bytesOf_size]) (fun w' hw' => by rw [hs.1]; exact strCells_ok hs.2) (row_one (by decide)) hbig
   exact leaves_stp (by rw [hx, append_ts hT1 hU1]; simp only [Sem.run_bind, c1, Result.andThen_ok, Sem.run_pure]) c2 hl c3 (fun _ _ => ⟨rfl, rfl⟩) hn
  ·cases hb
 ·cases hb
theorem builtin_exec (hO : OrcOK P O) {c : Call} {b : Builtin} (hop : o.op = .call c) (hc : c.callee = .builtin b) : OpOK P O call draw f rid i o := by
 intro FB w s ι a r Q next h hl he hn
 have he0 := he
 simp only [exec0, hop, callO, hc] at he
 cases b with
 | len =>
  simp only at he
  split at he
  ·rename_i x hxy
   simp only [Option.map_eq_some_iff] at he
   obtain ⟨b, hb, rfl⟩ := he
   have hT : ∃ T, c.argTypes[0]? = some T := by
    cases hT : c.argTypes[0]? with
    | some T => exact ⟨T, rfl⟩
    | none =>
     rw [hT] at hb
     unfold lenV at hb
     split at hb <;> first
      | (simp at hb; done)
      | (unfold lenSref at hb; split at hb <;> simp [slTy] at hb)
   obtain ⟨T, hT⟩ := hT
   have hx : execOp a.eval o = (do pure (.value (← Builtin.len_ #[T] o.type #[a.eval x]))) := by rw [ofValue_builtin hop hc, args1 hxy, ← len_ts hT]; rfl
   have hv := val_ok (slots_of h) (c.argTypes[0]?.bind O.ty) (bind_fine hO) x
   rw [hT] at hb hv
   exact leaves_gives h hl hx (lenV_ok hO hv hb) hn
  ·cases he
 | max =>
  simp only at he
  split at he
  ·rename_i x y hxy
   simp only [Option.map_eq_some_iff] at he
   obtain ⟨b, hb, rfl⟩ := he
   have hx : execOp a.eval o = (do pure (.value (← Builtin.max_ c.argTypes o.type #[a.eval x, a.eval y]))) := by rw [ofValue_builtin hop hc, args2 hxy]; rfl
   exact leaves_gives h hl hx (maxV_ok (val0 (slots_of h) x) (val0 (slots_of h) y) hb) hn
  ·cases he
 | min =>
  simp only at he
  split at he
  ·rename_i x y hxy
   simp only [Option.map_eq_some_iff] at he
   obtain ⟨b, hb, rfl⟩ := he
   have hx : execOp a.eval o = (do pure (.value (← Builtin.min_ c.argTypes o.type #[a.eval x, a.eval y]))) := by rw [ofValue_builtin hop hc, args2 hxy]; rfl
   exact leaves_gives h hl hx (minV_ok (val0 (slots_of h) x) (val0 (slots_of h) y) hb) hn
  ·cases he
 | append =>
  simp only at he
  split at he
  ·rename_i x y hxy
   exact append_exec hO hop hc hxy h hl he0 hn
  ·cases he
 | _ => simp at he
end Go.Am
namespace Go.Am
variable {P : Program} {O : Orc} {FB : Nat → Nat → Prop} {w : World} {s : St} {tm : Nat → Value} {ι : Key → Nat}
theorem getD_lt {α : Type} {l : List α} {i : Nat} (d : α) (h : i < l.length) : l.getD i d = l[i] := by simp [List.getD_eq_getElem?_getD, h]
theorem noDup_mem : ∀ {l : List Key} {i j : Nat}, noDup l = true → i < l.length → j < l.length → l.getD i (0, 0) = l.getD j (0, 0) → i = j
 | [], _, _, _, h, _, _ => by simp at h
 | k :: r, 0, 0, _, _, _, _ => rfl
 | k :: r, 0, j + 1, h, _, hj, e => by
  simp only [noDup, Bool.and_eq_true, Bool.not_eq_true'] at h
  simp only [List.getD_cons_zero, List.getD_cons_succ] at e
  have hj' : j < r.length := by simpa using hj
  have : k ∈ r := by rw [e, getD_lt _ hj']; exact List.getElem_mem hj'
  have := List.contains_iff_mem.2 this
  rw [h.1] at this; cases this
 | k :: r, i + 1, 0, h, hi, _, e => by
  simp only [noDup, Bool.and_eq_true, Bool.not_eq_true'] at h
  simp only [List.getD_cons_zero, List.getD_cons_succ] at e
  have hi' : i < r.length := by simpa using hi
  have : k ∈ r := by rw [← e, getD_lt _ hi']; exact List.getElem_mem hi'
  have := List.contains_iff_mem.2 this
  rw [h.1] at this; cases this
 | k :: r, i + 1, j + 1, h, hi, hj, e => by
  simp only [noDup, Bool.and_eq_true] at h
  simp only [List.getD_cons_succ] at e
  have := noDup_mem (l := r) (i := i) (j := j) h.2 (by simpa using hi) (by simpa using hj) e
  omega
theorem noDup_filter {p : Key → Bool} : ∀ {l : List Key}, noDup l = true → noDup (l.filter p) = true
 | [], _ => rfl
 | k :: r, h => by
  simp only [noDup, Bool.and_eq_true, Bool.not_eq_true'] at h
  simp only [List.filter_cons]
  split
  ·simp only [noDup, Bool.and_eq_true, Bool.not_eq_true']
   refine ⟨?_, noDup_filter h.2⟩
   cases hc : (r.filter p).contains k with
   | false => rfl
   | true =>
    have := List.contains_iff_mem.1 hc
    have := List.contains_iff_mem.2 (List.mem_filter.1 this).1
    rw [h.1] at this; cases this
  ·exact noDup_filter h.2
theorem idxOf_mem : ∀ {ks : List Key} {k : Key} (i : Nat), k ∈ ks → ∃ j, idxOf ks k i = some (i + j) ∧ j < ks.length ∧ ks.getD j (0, 0) = k
 | q :: r, k, i, h => by
  simp only [idxOf]
  by_cases e : q = k
  ·rw [if_pos e]; exact ⟨0, rfl, by simp, by simpa using e⟩
  ·rw [if_neg e]
   have h' : k ∈ r := by
    rcases List.mem_cons.1 h with h | h
    ·exact absurd h.symm e
    ·exact h
   obtain ⟨j, h1, h2, h3⟩ := idxOf_mem (i + 1) h'
   exact ⟨j + 1, by rw [h1]; congr 1; omega, by simpa using h2, by simpa using h3⟩
theorem inward_mem {ks : List Key} {k : Key} (h : k ∈ ks) : ∃ j, inward ks k = (0, j) ∧ j < ks.length ∧ ks.getD j (0, 0) = k := by
 obtain ⟨j, h1, h2, h3⟩ := idxOf_mem 0 h
 refine ⟨j, ?_, h2, h3⟩
 unfold inward
 rw [h1]
 simp
theorem inObs_look {h : Heap} {ρ : Key → Key} : ∀ {ks : List Key} {i : Nat} {h0 : Heap}, inObs h ρ ks i = some h0 →
  (∀ j, j < ks.length → ∃ o, look h (ks.getD j (0, 0)) = some o ∧ look h0 (0, i + j) = some (renO ρ o)) ∧ ∀ k o, look h0 k = some o → ∃ j, j < ks.length ∧ k = (0, i + j)
 | [], i, h0, e => by
  simp only [inObs, Option.some.injEq] at e
  subst e
  exact ⟨fun j hj => by simp at hj, fun k o e => by simp [look] at e⟩
 | q :: r, i, h0, e => by
  simp only [inObs, Option.bind_eq_some_iff, Option.map_eq_some_iff] at e
  obtain ⟨o, ho, h1, e1, rfl⟩ := e
  obtain ⟨a1, a2⟩ := inObs_look e1
  refine ⟨fun j hj => ?_, fun k u hk => ?_⟩
  ·cases j with
   | zero => exact ⟨o, by simpa using ho, by simp [look]⟩
   | succ j =>
    obtain ⟨o', b1, b2⟩ := a1 j (by simpa using hj)
    refine ⟨o', by simpa using b1, ?_⟩
    simp only [look]
    rw [if_neg (by intro h; injection h with _ h; omega)]
    rw [show i + (j + 1) = i + 1 + j by omega]; exact b2
  ·simp only [look] at hk
   split at hk
   ·rename_i hq; exact ⟨0, by simp, by simp [← hq]⟩
   ·obtain ⟨j, hj, rfl⟩ := a2 k u hk
    exact ⟨j + 1, by simpa using hj, by congr 1; omega⟩
def Passed (ks : List Key) : Loc → Prop
 | .sl _ _ => False
 | .fd k _ => k ∈ ks
 | .ob k => k ∈ ks
def fbIn (FB : Nat → Nat → Prop) (w : World) (s : St) (tm : Nat → Value) (ι : Key → Nat) (ks : List Key) (b lo : Nat) : Prop := FB b lo ∨ ∃ l, ¬ Passed ks l ∧ owns w s tm ι l = some (b, lo)
def iotaIn (ι : Key → Nat) (ks : List Key) (k : Key) : Nat := ι (ks.getD k.2 (0, 0))
def locIn (ks : List Key) : Loc → Loc
 | .sl i p => .sl i p
 | .fd k p => .fd (ks.getD k.2 (0, 0)) p
 | .ob k => .ob (ks.getD k.2 (0, 0))
structure InOK (s : St) (ks : List Key) (h0 : Heap) : Prop where
 nd : noDup ks = true
 h0 : inObs s.heap (inward ks) ks 0 = some h0
 shut : ∀ k ∈ ks, ∀ o, look s.heap k = some o → ∀ q ∈ keysO o, q ∈ ks
theorem renO_t (ρ : Key → Key) (o : Ob) : (renO ρ o).d.t = o.d.t := rfl
theorem renO_own (ρ : Key → Key) (o : Ob) : (renO ρ o).own = o.own := rfl
theorem renO_x (ρ : Key → Key) (o : Ob) : (renO ρ o).d.x = renD ρ o.d.t o.d.x := by unfold renO; simp only; exact renIf ρ _ _
theorem InOK.at1 {ks : List Key} {h0 : Heap} (hi : InOK s ks h0) {k : Key} {o : Ob} (h : look h0 k = some o) : ∃ j u, j < ks.length ∧ k = (0, j) ∧ look s.heap (ks.getD j (0, 0)) = some u ∧ o = renO (inward ks) u := by
 obtain ⟨a1, a2⟩ := inObs_look hi.h0
 obtain ⟨j, hj, rfl⟩ := a2 k o h
 obtain ⟨u, b1, b2⟩ := a1 j hj
 rw [h] at b2
 exact ⟨j, u, hj, by congr 1; omega, b1, Option.some.inj b2⟩
theorem InOK.at2 {ks : List Key} {h0 : Heap} (hi : InOK s ks h0) {j : Nat} (hj : j < ks.length) : ∃ u, look s.heap (ks.getD j (0, 0)) = some u ∧ look h0 (0, j) = some (renO (inward ks) u) := by
 obtain ⟨a1, a2⟩ := inObs_look hi.h0
 obtain ⟨u, b1, b2⟩ := a1 j hj
 rw [Nat.zero_add] at b2
 exact ⟨u, b1, b2⟩
theorem getD_mem {ks : List Key} {j : Nat} (hj : j < ks.length) : ks.getD j (0, 0) ∈ ks := by
 rw [getD_lt _ hj]; exact List.getElem_mem hj
theorem mem_getD {ks : List Key} {k : Key} (h : k ∈ ks) : ∃ j, j < ks.length ∧ ks.getD j (0, 0) = k := by
 obtain ⟨j, hj, e⟩ := List.mem_iff_getElem.1 h
 exact ⟨j, hj, by rw [getD_lt _ hj]; exact e⟩
theorem renL_getD (ρ : Key → Key) : ∀ (l : List AV) (i : Nat), (renL ρ l).getD i .any = renA ρ (l.getD i .any)
 | [], i => by simp [renL, renA]
 | a :: l, 0 => by simp [renL]
 | a :: l, i + 1 => by simp only [renL, List.getD_cons_succ]; exact renL_getD ρ l i
theorem keysL_getD : ∀ (l : List AV) (i : Nat), ∀ k ∈ keysA (l.getD i .any), k ∈ keysL l
 | [], i, k, h => by simp [keysA] at h
 | a :: l, 0, k, h => by simp only [List.getD_cons_zero] at h; simp only [keysL, List.mem_append]; exact .inl h
 | a :: l, i + 1, k, h => by simp only [List.getD_cons_succ] at h; simp only [keysL, List.mem_append]; exact .inr (keysL_getD l i k h)
theorem VRL_getD {R : Rl} : ∀ (l : List AV) (vs : List Value), VRL R O l vs → ∀ i, VR R O (l.getD i .any) (vs.getD i undef)
 | [], vs, h, i => by simp [VR]
 | a :: l, vs, h, i => by
  simp only [VRL] at h
  obtain ⟨v, r, rfl, h1, h2⟩ := h
  cases i with
  | zero => simpa using h1
  | succ i => simpa using VRL_getD l r h2 i
theorem drop_own (l : List AV) (i : Nat) : ((l.map AV.drop).getD i .any).own = [] := by
 simp only [List.getD_eq_getElem?_getD, List.getElem?_map]
 cases l[i]? with
 | none => rfl
 | some a => exact AV.own_drop a
theorem renA_own (ρ : Key → Key) (a : AV) : (renA ρ a).own = a.own := by cases a <;> simp [renA, AV.own]
theorem VRL_drop {R : Rl} : ∀ (l : List AV) (vs : List Value), VRL R O l vs → VRL R O (l.map AV.drop) vs
 | [], vs, h => h
 | a :: l, vs, h => by
  simp only [VRL, List.map_cons] at h ⊢
  obtain ⟨v, r, rfl, h1, h2⟩ := h
  exact ⟨v, r, rfl, h1.drop, VRL_drop l r h2⟩
theorem Rel.into (h : Rel O FB w s tm ι) {ks : List Key} {h0 : Heap} (hi : InOK s ks h0) {args : List AV} {vs : List Value} (hv : VRL (rlOf w FB s tm ι) O args vs) (hk : ∀ k ∈ keysL (args.map AV.drop), k ∈ ks) :
  Rel O (fbIn FB w s tm ι ks) w ⟨renL (inward ks) (args.map AV.drop), h0⟩ (fun i => vs.getD i undef) (iotaIn ι ks) ∧
  ∀ l x, owns w ⟨renL (inward ks) (args.map AV.drop), h0⟩ (fun i => vs.getD i undef) (iotaIn ι ks) l = some x → Passed ks (locIn ks l) ∧ owns w s tm ι (locIn ks l) = some x ∧ (∀ l', owns w ⟨renL (inward ks) (args.map AV.drop), h0⟩ (fun i => vs.getD i undef) (iotaIn ι ks) l' = some x → locIn ks l = locIn ks l' → l = l') := by
 have hget : ∀ i, (St.get ⟨renL (inward ks) (args.map AV.drop), h0⟩ i) = renA (inward ks) ((args.map AV.drop).getD i .any) := fun i => renL_getD _ _ i
 have hown : ∀ l x, owns w ⟨renL (inward ks) (args.map AV.drop), h0⟩ (fun i => vs.getD i undef) (iotaIn ι ks) l = some x →
   (∃ j p, j < ks.length ∧ l = .fd (0, j) p ∧ owns w s tm ι (.fd (ks.getD j (0, 0)) p) = some x) ∨ (∃ j, j < ks.length ∧ l = .ob (0, j) ∧ owns w s tm ι (.ob (ks.getD j (0, 0))) = some x) := by
  intro l x hl
  cases l with
  | sl i p =>
   simp only [owns, hget] at hl
   have ho := drop_own args i
   rw [← renA_own (inward ks)] at ho
   revert hl ho
   generalize renA (inward ks) ((args.map AV.drop).getD i .any) = a
   intro hl ho
   cases a with
   | tv own t y => simp only [AV.own] at ho; subst ho; simp at hl
   | _ => simp at hl
  | fd k p =>
   simp only [owns] at hl
   cases hlk : look h0 k with
   | none => rw [hlk] at hl; cases hl
   | some o =>
    obtain ⟨j, u, hj, rfl, hu, rfl⟩ := hi.at1 hlk
    rw [hlk] at hl
    refine .inl ⟨j, p, hj, rfl, ?_⟩
    simp only [owns, hu]
    simp only [renO_own, renO_t] at hl
    exact hl
  | ob k =>
   simp only [owns] at hl
   cases hlk : look h0 k with
   | none => rw [hlk] at hl; cases hl
   | some o =>
    obtain ⟨j, u, hj, rfl, hu, rfl⟩ := hi.at1 hlk
    rw [hlk] at hl
    refine .inr ⟨j, hj, rfl, ?_⟩
    simp only [owns, hu]
    exact hl
 have hown2 : ∀ l x, owns w ⟨renL (inward ks) (args.map AV.drop), h0⟩ (fun i => vs.getD i undef) (iotaIn ι ks) l = some x → Passed ks (locIn ks l) ∧ owns w s tm ι (locIn ks l) = some x := by
  intro l x hl
  rcases hown l x hl with ⟨j, p, hj, rfl, e⟩ | ⟨j, hj, rfl, e⟩
  ·exact ⟨getD_mem hj, e⟩
  ·exact ⟨getD_mem hj, e⟩
 have hinj : ∀ l l' x x', owns w ⟨renL (inward ks) (args.map AV.drop), h0⟩ (fun i => vs.getD i undef) (iotaIn ι ks) l = some x → owns w ⟨renL (inward ks) (args.map AV.drop), h0⟩ (fun i => vs.getD i undef) (iotaIn ι ks) l' = some x' → locIn ks l = locIn ks l' → l = l' := by
  intro l l' x x' hl hl' he
  rcases hown l x hl with ⟨j, p, hj, rfl, e⟩ | ⟨j, hj, rfl, e⟩ <;> rcases hown l' x' hl' with ⟨j', p', hj', rfl, e'⟩ | ⟨j', hj', rfl, e'⟩
  ·simp only [locIn, Loc.fd.injEq] at he
   rw [noDup_mem hi.nd hj hj' he.1, he.2]
  ·simp [locIn] at he
  ·simp [locIn] at he
  ·simp only [locIn, Loc.ob.injEq] at he
   rw [noDup_mem hi.nd hj hj' he]
 have hprot : ∀ b o, protOf w FB (owns w s tm ι) b o → protOf w (fbIn FB w s tm ι ks) (owns w ⟨renL (inward ks) (args.map AV.drop), h0⟩ (fun i => vs.getD i undef) (iotaIn ι ks)) b o := by
  intro b o ⟨p1, p2, p3⟩
  refine ⟨p1, fun l lo hl => p2 _ lo (hown2 l _ hl).2, fun lo hf => ?_⟩
  rcases hf with hf | ⟨l, _, hl⟩
  ·exact p3 lo hf
  ·exact p2 l lo hl
 have hc : CellLe (rlOf w FB s tm ι) (rlOf w (fbIn FB w s tm ι ks) ⟨renL (inward ks) (args.map AV.drop), h0⟩ (fun i => vs.getD i undef) (iotaIn ι ks)) := fun b o hp v hv => ⟨hv, hprot b o hp⟩
 have hkt : ∀ k ∈ ks, ∀ y, (rlOf w FB s tm ι).kt k = some y → (rlOf w (fbIn FB w s tm ι ks) ⟨renL (inward ks) (args.map AV.drop), h0⟩ (fun i => vs.getD i undef) (iotaIn ι ks)).kt (inward ks k) = some y := by
  intro k hk y hy
  obtain ⟨j, e1, e2, e3⟩ := inward_mem hk
  obtain ⟨u, u1, u2⟩ := hi.at2 e2
  have hy' : (look s.heap k).map (fun o => (ι k, o.d.t)) = some y := hy
  rw [e1]
  show (look h0 (0, j)).map (fun o => (iotaIn ι ks (0, j), o.d.t)) = some y
  rw [u2]
  rw [e3] at u1
  rw [u1] at hy'
  simp only [Option.map_some, renO_t, iotaIn, e3] at hy' ⊢
  exact hy'
 refine ⟨⟨fun i => ?_, fun k o hlk => ?_, ?_, ?_, ?_, ?_, ?_, ?_⟩, fun l x hl => ⟨(hown2 l x hl).1, (hown2 l x hl).2, fun l' hl' he => hinj l l' x x hl hl' he⟩⟩
 ·rw [hget]
  exact VR.ren hc _ _ (fun k hk' y hy => .of (hkt k (hk k (keysL_getD _ i k hk')) y hy) fun _ h => h) (VRL_getD _ _ (VRL_drop _ _ hv) i)
 ·obtain ⟨j, u, hj, rfl, hu, rfl⟩ := hi.at1 hlk
  obtain ⟨q1, q2⟩ := h.ob _ u hu
  refine ⟨q1, ?_⟩
  rw [renO_x]
  refine q2.ren hc (fun k hk' y hy => .of (hkt k (hi.shut _ (getD_mem hj) u hu k ?_) y hy) fun _ h => h) q1 fun _ => rfl
  unfold keysO; rw [keysIf _ _ q1]; exact hk'
 ·intro l l' b lo lo' h1 h2
  exact hinj l l' _ _ h1 h2 (h.dj _ _ b lo lo' (hown2 l _ h1).2 (hown2 l' _ h2).2)
 ·intro i own t x hg p hp
  rw [hget] at hg
  have ho := drop_own args i
  rw [← renA_own (inward ks), hg] at ho
  simp only [AV.own] at ho
  subst ho; cases hp
 ·intro k o hlk p hp
  obtain ⟨j, u, hj, rfl, hu, rfl⟩ := hi.at1 hlk
  exact h.rf _ u hu p hp
 ·intro l b lo lo' hl hf
  obtain ⟨p1, p2⟩ := hown2 l _ hl
  rcases hf with hf | ⟨l2, hn, hl2⟩
  ·exact h.fb _ b lo lo' p2 hf
  ·have := h.dj _ _ b lo lo' p2 hl2
   rw [this] at p1; exact hn p1
 ·intro b lo hf
  rcases hf with hf | ⟨l, _, hl⟩
  ·exact h.fs b lo hf
  ·exact h.own_lt hl
 ·intro g d hg
  obtain ⟨h1, h2, us, h3, h4⟩ := h.gl g d hg
  exact ⟨h1, h2, us, h3.le hc, RV.le0 hc d.t d.x us h1 h2 h4⟩
end Go.Am
namespace Go.Am
variable {P : Program} {O : Orc} {FB : Nat → Nat → Prop} {w w' : World} {s s0 : St} {tm tm0 : Nat → Value} {ι ι0 ι1 ι3 : Key → Nat}
theorem backIn_look {σ : Key → Key} {h1 : Heap} : ∀ {ks : List Key} {i : Nat} {h h2 : Heap}, noDup ks = true → backIn σ h1 ks i h = some h2 →
  (∀ j, j < ks.length → ∃ o, look h1 (0, i + j) = some o ∧ ∀ u, look h (ks.getD j (0, 0)) = some u → look h2 (ks.getD j (0, 0)) = some (renO σ o)) ∧ ∀ k, k ∉ ks → look h2 k = look h k
 | [], i, h, h2, _, e => by
  simp only [backIn, Option.some.injEq] at e
  subst e
  exact ⟨fun j hj => by simp at hj, fun k _ => rfl⟩
 | q :: r, i, h, h2, hn, e => by
  simp only [backIn, Option.bind_eq_some_iff] at e
  obtain ⟨o, ho, e⟩ := e
  simp only [noDup, Bool.and_eq_true, Bool.not_eq_true'] at hn
  have hqr : q ∉ r := fun hm => by have := List.contains_iff_mem.2 hm; rw [hn.1] at this; cases this
  obtain ⟨a1, a2⟩ := backIn_look hn.2 e
  refine ⟨fun j hj => ?_, fun k hk => ?_⟩
  ·cases j with
   | zero =>
    refine ⟨o, ho, fun u hu => ?_⟩
    simp only [List.getD_cons_zero] at hu ⊢
    rw [a2 q hqr, look_over, if_pos rfl, hu]; rfl
   | succ j =>
    have hj' : j < r.length := by simpa using hj
    obtain ⟨o', b1, b2⟩ := a1 j hj'
    refine ⟨o', by rw [show i + (j + 1) = i + 1 + j by omega]; exact b1, fun u hu => ?_⟩
    simp only [List.getD_cons_succ] at hu ⊢
    refine b2 u ?_
    rw [look_over, if_neg]
    ·exact hu
    ·intro he; exact hqr (he ▸ getD_mem hj')
  ·rw [a2 k (fun hm => hk (List.mem_cons_of_mem _ hm)), look_over, if_neg]
   intro he; exact hk (he ▸ List.mem_cons_self)
theorem backOut_look {σ : Key → Key} {h1 : Heap} {d : Nat} : ∀ {ex : List Key} {i : Nat} {h h3 : Heap}, (∀ k ∈ ex, (look h1 k).isSome = true) → backOut σ h1 d ex i h = some h3 →
  (∀ j, j < ex.length → look h (d + 1, i + j) = none ∧ ∃ o, look h1 (ex.getD j (0, 0)) = some o ∧ look h3 (d + 1, i + j) = some (renO σ o)) ∧ ∀ k, (∀ j, j < ex.length → k ≠ (d + 1, i + j)) → look h3 k = look h k
 | [], i, h, h3, _, e => by
  simp only [backOut, Option.some.injEq] at e
  subst e
  exact ⟨fun j hj => by simp at hj, fun k _ => rfl⟩
 | q :: r, i, h, h3, hs, e => by
  simp only [backOut] at e
  obtain ⟨o, ho⟩ := Option.isSome_iff_exists.1 (hs q List.mem_cons_self)
  rw [ho] at e
  simp only at e
  split at e
  ·rename_i hf
   simp only [Option.isNone_iff_eq_none] at hf
   obtain ⟨a1, a2⟩ := backOut_look (fun k hk => hs k (List.mem_cons_of_mem _ hk)) e
   refine ⟨fun j hj => ?_, fun k hk => ?_⟩
   ·cases j with
    | zero =>
     refine ⟨hf, o, by simpa using ho, ?_⟩
     rw [a2, look_cons, if_pos (by rfl)]
     intro j hj he
     injection he with _ he
     omega
    | succ j =>
     have hj' : j < r.length := by simpa using hj
     obtain ⟨b0, o', b1, b2⟩ := a1 j hj'
     rw [show i + 1 + j = i + (j + 1) by omega] at b0 b2
     refine ⟨?_, o', by simpa using b1, b2⟩
     rw [look_cons, if_neg] at b0
     ·exact b0
     ·intro he; injection he with _ he; omega
   ·rw [a2 k (fun j hj he => hk (j + 1) (by simpa using hj) (by rw [he]; congr 1; omega)), look_cons, if_neg]
    intro he
    exact hk 0 (by simp) (by simpa using he)
  ·cases e
def locOut (σ : Key → Key) (dd : Nat) : Loc → Loc
 | .sl _ p => .sl dd p
 | .fd k p => .fd (σ k) p
 | .ob k => .ob (σ k)
structure BackOK (s : St) (ι : Key → Nat) (ks : List Key) (r : AV) (h1 : Heap) (ι1 : Key → Nat) (okk : Key → Prop) (σ : Key → Key) (h3 : Heap) (ι3 : Key → Nat) : Prop where
 l1 : ∀ k o, look h3 k = some o → (∃ k1 o1, okk k1 ∧ look h1 k1 = some o1 ∧ σ k1 = k ∧ o = renO σ o1 ∧ ι3 k = ι1 k1) ∨ (k ∉ ks ∧ look s.heap k = some o ∧ ι3 k = ι k)
 l2 : ∀ k1 o1, okk k1 → look h1 k1 = some o1 → ∃ o3, look h3 (σ k1) = some o3 ∧ o3.d.t = o1.d.t ∧ ι3 (σ k1) = ι1 k1
 l3 : ∀ k o, look s.heap k = some o → ∃ o3, look h3 k = some o3 ∧ KtLe (ι k, o.d.t) (ι3 k, o3.d.t)
 k1 : ∀ k ∈ keysA r, okk k
 k2 : ∀ k o, okk k → look h1 k = some o → ∀ q ∈ keysO o, okk q
theorem Rel.back (h : Rel O FB w s tm ι) {ks : List Key} {r : AV} {v : Value} {h1 h3 : Heap} {okk : Key → Prop} {σ : Key → Key} (dd : Nat)
  (hown : ∀ l x, owns w s0 tm0 ι0 l = some x → ∃ l', Passed ks l' ∧ owns w s tm ι l' = some x)
  (st : Stp O (fbIn FB w s tm ι ks) w s0 tm0 ι0 w' ⟨[r], h1⟩ (fun _ => v) ι1) (hh : Hist (ownP w s0 tm0 ι0) w w') (hb : BackOK s ι ks r h1 ι1 okk σ h3 ι3) :
  Stp O FB w s tm ι w' ⟨s.env.set dd (renA σ r), h3⟩ (setF tm s.env.length dd v) ι3 ∧ Hist (ownP w s tm ι) w w' := by
 have hsz := st.size
 have hW : ∀ b lo, ownP w s0 tm0 ι0 b lo → ownP w s tm ι b lo := fun b lo ⟨l, hl⟩ => by obtain ⟨l', _, e⟩ := hown l _ hl; exact ⟨l', e⟩
 have hW1 : ∀ b lo lo', ownP w s tm ι b lo → ownP w s tm ι b lo' → lo = lo' := by
  intro b lo lo' ⟨l, hl⟩ ⟨l', hl'⟩
  have := h.dj l l' b lo lo' hl hl'
  subst this
  rw [hl] at hl'
  simpa using hl'
 have hsame : ∀ l b lo, owns w s tm ι l = some (b, lo) → ¬ Passed ks l → w'.heap[b]? = w.heap[b]? := by
  intro l b lo hl hp
  refine hh.block b (h.own_lt hl) fun lo' ⟨l0, hl0⟩ => ?_
  obtain ⟨l', p, e⟩ := hown l0 _ hl0
  have := h.dj l l' b lo lo' hl e
  rw [this] at hp; exact hp p
 have hist : Hist (ownP w s tm ι) w w' := by
  refine ⟨hh.os, hh.tape, hh.output, hh.size, fun b hb hn => hh.block b hb fun lo hl => hn lo (hW b lo hl), fun b lo hb hl o ho => ?_, fun b hb o => ⟨(hh.shape b hb o).1, (hh.shape b hb o).2.imp id fun ⟨lo, hl⟩ => ⟨lo, hW b lo hl⟩⟩⟩
  by_cases hex : ∃ lo', ownP w s0 tm0 ι0 b lo'
  ·obtain ⟨lo', hl'⟩ := hex
   have := hW1 b lo lo' hl (hW b lo' hl')
   subst this
   exact hh.cell b _ hb hl' o ho
  ·have := hh.block b hb fun lo' hl' => hex ⟨lo', hl'⟩
   unfold World.cell?; rw [this]
 have hcls : ∀ l x, owns w' ⟨s.env.set dd (renA σ r), h3⟩ (setF tm s.env.length dd v) ι3 l = some x →
   (∃ l1, l = locOut σ dd l1 ∧ owns w' ⟨[r], h1⟩ (fun _ => v) ι1 l1 = some x) ∨ (¬ Passed ks l ∧ owns w s tm ι l = some x) := by
  intro l x hl
  cases l with
  | sl i p =>
   simp only [owns, St.get, getD_set, setF] at hl
   by_cases hc : i = dd ∧ dd < s.env.length
   ·simp only [if_pos hc] at hl
    refine .inl ⟨.sl 0 p, by simp [locOut, hc.1], ?_⟩
    simp only [owns, St.get, List.getD_cons_zero]
    cases r with
    | tv own t y => simpa only [renA] using hl
    | _ => simp [renA] at hl
   ·simp only [if_neg hc] at hl
    exact .inr ⟨fun hp => hp, hl⟩
  | fd k p =>
   simp only [owns] at hl
   cases hlk : look h3 k with
   | none => rw [hlk] at hl; cases hl
   | some o =>
    rw [hlk] at hl
    simp only at hl
    rcases hb.l1 k o hlk with ⟨k1, o1, a1, a2, a3, rfl, a5⟩ | ⟨a1, a2, a3⟩
    ·refine .inl ⟨.fd k1 p, by simp [locOut, a3], ?_⟩
     simp only [owns, a2]
     rw [a5] at hl
     exact hl
    ·refine .inr ⟨a1, ?_⟩
     simp only [owns, a2]
     rw [a3] at hl
     by_cases hg : o.d.t.ghost = true
     ·rw [ghost_regAt hg] at hl ⊢; exact hl
     ·have hg : o.d.t.ghost = false := by simpa using hg
      have := hsame (.ob k) (ι k) 0 (by simp [owns, a2, hg]) a1
      have hbf : blockF w' (ι k) = blockF w (ι k) := by
       funext j; unfold blockF; rw [this]
      rw [hbf] at hl
      exact hl
  | ob k =>
   simp only [owns] at hl
   cases hlk : look h3 k with
   | none => rw [hlk] at hl; cases hl
   | some o =>
    rw [hlk] at hl
    simp only at hl
    rcases hb.l1 k o hlk with ⟨k1, o1, a1, a2, a3, rfl, a5⟩ | ⟨a1, a2, a3⟩
    ·refine .inl ⟨.ob k1, by simp [locOut, a3], ?_⟩
     simp only [owns, a2]
     rw [a5] at hl
     exact hl
    ·refine .inr ⟨a1, ?_⟩
     simp only [owns, a2]
     rw [a3] at hl
     exact hl
 have hsrc : ∀ l b lo, owns w' ⟨s.env.set dd (renA σ r), h3⟩ (setF tm s.env.length dd v) ι3 l = some (b, lo) → (∃ l0 lo0, owns w s tm ι l0 = some (b, lo0) ∧ lo0 ≤ lo) ∨ w.heap.size ≤ b := by
  intro l b lo hl
  rcases hcls l _ hl with ⟨l1, _, e⟩ | ⟨_, e⟩
  ·rcases st.src l1 b lo e with ⟨l0, lo0, e0, hle⟩ | hge
   ·obtain ⟨l', _, e'⟩ := hown l0 _ e0
    exact .inl ⟨l', lo0, e', hle⟩
   ·exact .inr hge
  ·exact .inl ⟨l, lo, e, Nat.le_refl _⟩
 have hcell : ∀ b o, protOf w FB (owns w s tm ι) b o → w'.cell? ⟨b, o, none⟩ = w.cell? ⟨b, o, none⟩ := by
  intro b o ⟨p1, p2, p3⟩
  by_cases hex : ∃ lo, ownP w s tm ι b lo
  ·obtain ⟨lo, l, hl⟩ := hex
   exact hist.cell b lo p1 ⟨l, hl⟩ o (p2 l lo hl)
  ·have := hist.block b p1 fun lo hl => hex ⟨lo, hl⟩
   unfold World.cell?; rw [this]
 have hc : CellLe (rlOf w FB s tm ι) (rlOf w' FB ⟨s.env.set dd (renA σ r), h3⟩ (setF tm s.env.length dd v) ι3) :=
  rl_le hsz (fun l b lo hl hlt => by
   rcases hsrc l b lo hl with h | h
   ·exact h
   ·omega) hcell
 have hkt : ∀ k x, (rlOf w FB s tm ι).kt k = some x → KtGo (rlOf w FB s tm ι) (rlOf w' FB ⟨s.env.set dd (renA σ r), h3⟩ (setF tm s.env.length dd v) ι3) k x := by
  intro k x hx
  have hx' : (look s.heap k).map (fun o => (ι k, o.d.t)) = some x := hx
  cases hlk : look s.heap k with
  | none => rw [hlk] at hx'; cases hx'
  | some o =>
   obtain ⟨o3, b1, b2⟩ := hb.l3 k o hlk
   rw [hlk] at hx'
   cases hx'
   refine ⟨(ι3 k, o3.d.t), ?_, b2, fun e9 hg n hx => ?_⟩
   ·show (look h3 k).map (fun o => (ι3 k, o.d.t)) = _
    rw [b1]; rfl
   ·simp only [Prod.mk.injEq] at e9
    obtain ⟨e8, e9⟩ := e9
    have hg : o.d.t.ghost = false := hg
    have hx : Ext w (ι k) n := hx
    show Ext w' (ι k) n
    have hlt : ι k < w.heap.size := h.own_lt (l := .ob k) (lo := 0) (by simp [owns, hlk, hg])
    rcases hb.l1 k o3 b1 with ⟨k1, o1, a1, a2, a3, a4, a5⟩ | ⟨a1, a2, a3⟩
    ·obtain ⟨q1, q2⟩ := st.rel.ob k1 o1 a2
     have ht : o1.d.t = o.d.t := by rw [← e9, a4]; rfl
     have hb9 : ι1 k1 = ι k := by rw [← a5, e8]
     rw [hb9] at q2
     intro i hi
     obtain ⟨x1, x2⟩ := hx i hi
     obtain ⟨y1, y2⟩ := hist.shape (ι k) hlt i
     refine ⟨by rw [y1]; exact x1, ?_⟩
     rcases q2 with q2 | ⟨q2, _⟩ | ⟨arr, T, q2, _⟩
     ·have : (w'.cell? ⟨ι k, i, none⟩).isSome = true := by rw [y1]; exact x1
      have hm := q2.block
      obtain ⟨es, clock, hm⟩ := hm
      simp [World.cell?, hm] at this
     ·rw [ht, hg] at q2; cases q2
     ·simp [World.frozen?, q2]
    ·have hbk := hsame (.ob k) (ι k) 0 (by simp [owns, hlk, hg]) a1
     intro i hi
     obtain ⟨x1, x2⟩ := hx i hi
     exact ⟨by unfold World.cell?; rw [hbk]; exact x1, by unfold World.frozen?; rw [hbk]; exact x2⟩
 have hle : (rlOf w FB s tm ι).le (rlOf w' FB ⟨s.env.set dd (renA σ r), h3⟩ (setF tm s.env.length dd v) ι3) := ⟨hc, hkt⟩
 have hc1 : CellLe (rlOf w' (fbIn FB w s tm ι ks) ⟨[r], h1⟩ (fun _ => v) ι1) (rlOf w' FB ⟨s.env.set dd (renA σ r), h3⟩ (setF tm s.env.length dd v) ι3) := by
  intro b o ⟨p1, p2, p3⟩ u hu
  refine ⟨hu, p1, fun l lo hl => ?_, fun lo hf => p3 lo (.inl hf)⟩
  rcases hcls l _ hl with ⟨l1, _, e⟩ | ⟨hn, e⟩
  ·exact p2 l1 lo e
  ·exact p3 lo (.inr ⟨l, hn, e⟩)
 have hkt1 : ∀ k, okk k → ∀ y, (rlOf w' (fbIn FB w s tm ι ks) ⟨[r], h1⟩ (fun _ => v) ι1).kt k = some y → (rlOf w' FB ⟨s.env.set dd (renA σ r), h3⟩ (setF tm s.env.length dd v) ι3).kt (σ k) = some y := by
  intro k hk y hy
  have hy' : (look h1 k).map (fun o => (ι1 k, o.d.t)) = some y := hy
  show (look h3 (σ k)).map (fun o => (ι3 (σ k), o.d.t)) = some y
  cases hlk : look h1 k with
  | none => rw [hlk] at hy'; cases hy'
  | some o =>
   obtain ⟨o3, b1, b2, b3⟩ := hb.l2 k o hk hlk
   rw [hlk] at hy'
   rw [b1, ← hy']
   simp only [Option.map_some, b2, b3]
 have hroom : ∀ {t : Ty} {c : Nat → Value} {p : List Nat}, (∀ b lo, regAt t c p = some (b, lo) → w'.heap[b]? = w.heap[b]?) → RoomAt w t c p → RoomAt w' t c p := by
  intro t c p hq hr
  unfold RoomAt at hr ⊢
  split
  ·rename_i u a len cap e1 e2
   have hbk := hq a.block (a.off + len * u.size)
   unfold regAt at hbk
   rw [e1, e2] at hr hbk
   simp only at hr hbk
   intro hl
   have hbk := hbk (if_pos hl)
   obtain ⟨g1, g2, g0, g3⟩ := hr hl
   refine ⟨g1, by omega, fun hu => ⟨(g0 hu).1, by unfold World.shape?; rw [hbk]; exact (g0 hu).2⟩, fun o h1 h2 => ?_⟩
   obtain ⟨x1, x2⟩ := g3 o h1 h2
   exact ⟨by unfold World.cell?; rw [hbk]; exact x1, by unfold World.frozen?; rw [hbk]; exact x2⟩
  ·trivial
 refine ⟨⟨⟨fun i => ?_, fun k o hlk => ?_, ?_, ?_, ?_, ?_, ?_, ?_⟩, hsrc, hsz⟩, hist⟩
 ·show VR _ O ((s.env.set dd (renA σ r)).getD i .any) _
  rw [getD_set]; unfold setF
  split
  ·exact VR.ren hc1 _ _ (fun k hk y hy => .of (hkt1 k (hb.k1 k hk) y hy) fun _ h => h) (st.rel.vr 0)
  ·exact (h.vr i).le hle
 ·rcases hb.l1 k o hlk with ⟨k1, o1, a1, a2, a3, rfl, a5⟩ | ⟨a1, a2, a3⟩
  ·obtain ⟨q1, q2⟩ := st.rel.ob k1 o1 a2
   refine ⟨q1, ?_⟩
   rw [renO_x, a5]
   refine q2.ren hc1 (fun k hk' y hy => .of (hkt1 k (hb.k2 k1 o1 a1 a2 k ?_) y hy) fun _ h => h) q1 fun _ => rfl
   unfold keysO; rw [keysIf _ _ q1]; exact hk'
  ·obtain ⟨q1, q2⟩ := h.ob k o a2
   refine ⟨q1, ?_⟩
   rw [a3]
   exact q2.keep hle q1 fun hg => hsame (.ob k) (ι k) 0 (by simp [owns, a2, hg]) a1
 ·intro l l' b lo lo' e1 e2
  rcases hcls l _ e1 with ⟨l1, rfl, c1⟩ | ⟨n1, c1⟩ <;> rcases hcls l' _ e2 with ⟨l2, rfl, c2⟩ | ⟨n2, c2⟩
  ·rw [st.rel.dj l1 l2 b lo lo' c1 c2]
  ·exact absurd (.inr ⟨l', n2, c2⟩) (st.rel.fb l1 b lo lo' c1)
  ·exact absurd (.inr ⟨l, n1, c1⟩) (st.rel.fb l2 b lo' lo c2)
  ·exact h.dj l l' b lo lo' c1 c2
 ·intro i own t x hg p hp
  have hg' : (s.env.set dd (renA σ r)).getD i .any = .tv own t x := hg
  rw [getD_set] at hg'
  unfold setF
  split
  ·rename_i hc'
   rw [if_pos hc'] at hg'
   cases r with
   | tv own' t' y =>
    simp only [renA, AV.tv.injEq] at hg'
    obtain ⟨rfl, rfl, _⟩ := hg'
    exact st.rel.rs 0 own' t' y rfl p hp
   | _ => simp [renA] at hg'
  ·rename_i hc'
   rw [if_neg hc'] at hg'
   exact hroom (fun b lo e => hsame (.sl i p) b lo (by simp only [owns, St.get, hg']; rw [if_pos hp]; exact e) (fun q => q)) (h.rs i own t x hg' p hp)
 ·intro k o hlk p hp
  rcases hb.l1 k o hlk with ⟨k1, o1, a1, a2, a3, rfl, a5⟩ | ⟨a1, a2, a3⟩
  ·rw [a5]; exact st.rel.rf k1 o1 a2 p hp
  ·by_cases hg : o.d.t.ghost = true
   ·exact ghost_roomAt hg _ _ _
   ·have hg : o.d.t.ghost = false := by simpa using hg
    have := hsame (.ob k) (ι k) 0 (by simp [owns, a2, hg]) a1
    have hbf : blockF w' (ι3 k) = blockF w (ι k) := by
     funext j; unfold blockF; rw [a3, this]
    rw [hbf]
    exact hroom (fun b lo e => hsame (.fd k p) b lo (by simp only [owns, a2]; rw [if_pos hp]; exact e) a1) (h.rf k o a2 p hp)
 ·intro l b lo lo' hl hf
  rcases hcls l _ hl with ⟨l1, _, e⟩ | ⟨_, e⟩
  ·exact st.rel.fb l1 b lo lo' e (.inl hf)
  ·exact h.fb l b lo lo' e hf
 ·intro b lo hf
  have := h.fs b lo hf
  omega
 ·exact h.gl_le hc
end Go.Am
namespace Go.Am
variable {P : Program} {O : Orc} {FB : Nat → Nat → Prop} {w w' : World} {s : St} {tm : Nat → Value} {ι : Key → Nat}
def hasBody (P : Program) (g : FuncId) : Prop := ∃ fn, P.funcs[g]? = some fn ∧ fn.body.isSome = true ∧ (fn.name == "runtime.NumGoroutine") = false
def tmArgs (vs : Array Value) : Nat → Value := fun i => vs.toList.getD i undef
def CallOK (P : Program) (O : Orc) (call : CallF) : Prop := ∀ g args h q, call g args h = some q → hasBody P g ∧
 ∀ (FB : Nat → Nat → Prop) (w : World) (ι : Key → Nat) (vs : Array Value), args.length = vs.size → Rel O FB w ⟨args, h⟩ (tmArgs vs) ι →
  Calls P g vs w fun e w' => ∃ v ι', e = .returned v ∧ Goes O FB w ⟨args, h⟩ (tmArgs vs) ι w' ⟨[q.1], q.2⟩ (fun _ => v) ι'
theorem VRL_len {R : Rl} : ∀ (l : List AV) (vs : List Value), VRL R O l vs → l.length = vs.length
 | [], vs, h => by simp only [VRL] at h; simp [h]
 | a :: l, vs, h => by
  simp only [VRL] at h
  obtain ⟨v, r, rfl, _, h2⟩ := h
  simp [VRL_len l r h2]
theorem renL_len (ρ : Key → Key) : ∀ l : List AV, (renL ρ l).length = l.length
 | [] => rfl
 | a :: l => by simp [renL, renL_len ρ l]
theorem look_filter {p : Key → Bool} : ∀ (h : Heap) (k : Key), p k = true → look (h.filter fun b => p b.1) k = look h k
 | [], _, _ => rfl
 | (q, o) :: r, k, hp => by
  simp only [List.filter_cons]
  by_cases e : q = k
  ·subst e
   rw [if_pos hp]
   simp [look]
  ·split
   ·simp only [look]; rw [if_neg e, if_neg e]; exact look_filter r k hp
   ·simp only [look]; rw [if_neg e]; exact look_filter r k hp
theorem look_mem : ∀ {h : Heap} {k : Key} {o : Ob}, look h k = some o → (k, o) ∈ h
 | (q, u) :: r, k, o, e => by
  simp only [look] at e
  split at e
  ·rename_i hq; cases e; rw [hq]; exact List.mem_cons_self
  ·exact List.mem_cons_of_mem _ (look_mem e)
theorem callA_ok {call : CallF} (hc : CallOK P O call) (h : Rel O FB w s tm ι) {draw : Bool} {dst : Option Nat} {g : FuncId} {args : List AV} {vs : Array Value} {r : Res} (hv : VRL (rlOf w FB s tm ι) O args vs.toList) (he : callA O call draw dst g args s.heap = some r) :
  hasBody P g ∧ r.tk = none ∧ Calls P g vs w fun e w' => ∃ v ι', e = .returned v ∧ Stp O FB w s tm ι w' ⟨s.env.set (dst.getD s.env.length) r.a, r.h⟩ (setF tm s.env.length (dst.getD s.env.length) v) ι' ∧ Hist (ownP w s tm ι) w w' ∧
   ∀ k, k.1 = 0 → KGo (look s.heap k) (ι k) (look r.h k) (ι' k) := by
 unfold callA at he
 simp only [forceKs_eq] at he
 generalize hks : reach s.heap 50 (keysL (args.map AV.drop)) [] = ks at he
 split at he
 ·cases he
 ·rename_i hcond
  simp only [Bool.or_eq_true, not_or, Bool.not_eq_true, Bool.not_eq_false', List.all_eq_true] at hcond
  obtain ⟨⟨⟨_, hkeys⟩, hnd⟩, hndo⟩ := hcond
  simp only [Option.bind_eq_some_iff] at he
  obtain ⟨h0, hin, he⟩ := he
  split at he
  ·cases he
  ·rename_i hshut
   simp only [Bool.not_eq_true, Bool.not_eq_false', List.all_eq_true] at hshut
   simp only [Option.bind_eq_some_iff] at he
   obtain ⟨q, hq, he⟩ := he
   generalize hex : List.filter (fun k => (look q.2 k).isSome && k.1 != 0 && (liveK q.2 ks.length q.1).contains k) (O.out g) = ex at he
   split at he
   ·cases he
   ·rename_i hok
    simp only [Bool.not_eq_true, Bool.not_eq_false', Bool.and_eq_true, List.all_eq_true, shut] at hok
    obtain ⟨hok1, hok2⟩ := hok
    simp only [Option.bind_eq_some_iff, Option.some.injEq] at he
    obtain ⟨h2, hb2, h3, hb3, rfl⟩ := he
    have hI : InOK s ks h0 := ⟨hnd, hin, fun k hk o ho q' hq' => by
     have := hshut k hk
     rw [ho] at this
     simp only [Option.map_some, Option.getD_some, List.all_eq_true] at this
     exact List.contains_iff_mem.1 (this q' hq')⟩
    have hK : ∀ k ∈ keysL (args.map AV.drop), k ∈ ks := fun k hk => List.contains_iff_mem.1 (hkeys k hk)
    obtain ⟨hrel, hown⟩ := h.into hI hv hK
    obtain ⟨hbody, hcalls⟩ := hc g _ _ q hq
    refine ⟨hbody, rfl, ?_⟩
    have hlen : (renL (inward ks) (args.map AV.drop)).length = vs.size := by
     rw [renL_len, List.length_map, VRL_len _ _ hv]; simp
    refine (hcalls _ w _ vs hlen hrel).mono ?_
    rintro e w' ⟨v, ι1, rfl, hg⟩
    have hexm : ∀ k ∈ ex, (look q.2 k).isSome = true ∧ k.1 ≠ 0 := by
     intro k hk
     rw [← hex] at hk
     have := (List.mem_filter.1 hk).2
     simp only [Bool.and_eq_true, bne_iff_ne] at this
     exact this.1
    have hndx : noDup ex = true := by rw [← hex]; exact noDup_filter hndo
    obtain ⟨b1, b2⟩ := backIn_look hnd hb2
    obtain ⟨c1, c2⟩ := backOut_look (fun k hk => (hexm k hk).1) hb3
    simp only [Nat.zero_add] at b1 c1 c2
    generalize hd : dst.getD 0 = d at *
    have hσ0 : ∀ k : Key, k.1 = 0 → outward ks ex d k = ks.getD k.2 (0, 0) := fun k hk => by unfold outward; rw [if_pos hk]
    have hσ1 : ∀ j, j < ex.length → outward ks ex d (ex.getD j (0, 0)) = (d + 1, j) := by
     intro j hj
     have hm := getD_mem hj
     unfold outward
     rw [if_neg (hexm _ hm).2]
     obtain ⟨j', e1, e2, e3⟩ := idxOf_mem 0 hm
     have := noDup_mem hndx e2 hj e3
     subst this
     rw [e1]; simp
    have hks : ∀ j, j < ks.length → ∃ u, look s.heap (ks.getD j (0, 0)) = some u := fun j hj => by obtain ⟨u, e, _⟩ := hI.at2 hj; exact ⟨u, e⟩
    have hfresh : ∀ j, j < ex.length → look s.heap (d + 1, j) = none := by
     intro j hj
     have e1 := (c1 j hj).1
     by_cases hm : (d + 1, j) ∈ ks
     ·obtain ⟨i, hi, hi2⟩ := mem_getD hm
      obtain ⟨u, hu⟩ := hks i hi
      obtain ⟨o, _, f⟩ := b1 i hi
      have := f u hu
      rw [hi2, e1] at this; cases this
     ·rw [b2 _ hm] at e1; exact e1
    have hfreshn : ∀ k o, look s.heap k = some o → ∀ j, j < ex.length → k ≠ (d + 1, j) := by
     intro k o hk j hj e
     rw [e, hfresh j hj] at hk; cases hk
    let ι3 : Key → Nat := fun k => if k.1 = d + 1 ∧ k.2 < ex.length then ι1 (ex.getD k.2 (0, 0)) else if k ∈ ks then ι1 (inward ks k) else ι k
    have hι3o : ∀ k, (∀ j, j < ex.length → k ≠ (d + 1, j)) → k ∉ ks → ι3 k = ι k := by
     intro k hk hm
     show (if k.1 = d + 1 ∧ k.2 < ex.length then _ else if k ∈ ks then _ else _) = _
     rw [if_neg, if_neg hm]
     rintro ⟨e1, e2⟩
     exact hk k.2 e2 (by rw [← e1])
    have hι3i : ∀ i, i < ks.length → (∀ j, j < ex.length → ks.getD i (0, 0) ≠ (d + 1, j)) → ι3 (ks.getD i (0, 0)) = ι1 (0, i) := by
     intro i hi hk
     have hm := getD_mem hi
     show (if (ks.getD i (0, 0)).1 = d + 1 ∧ (ks.getD i (0, 0)).2 < ex.length then _ else if ks.getD i (0, 0) ∈ ks then _ else _) = _
     rw [if_neg, if_pos hm]
     ·obtain ⟨j, e1, e2, e3⟩ := inward_mem hm
      have := noDup_mem hnd e2 hi e3
      subst this
      rw [e1]
     ·rintro ⟨e1, e2⟩
      exact hk _ e2 (by rw [← e1])
    have hι3' : ∀ j, j < ex.length → ι3 (d + 1, j) = ι1 (ex.getD j (0, 0)) := fun j hj => by
     show (if d + 1 = d + 1 ∧ j < ex.length then _ else _) = _
     rw [if_pos ⟨rfl, hj⟩]
    have hkeep : ∀ j, j < ks.length → KGo (look h0 (0, j)) (ι (ks.getD j (0, 0))) (look q.2 (0, j)) (ι1 (0, j)) := fun j hj => hg.keys (0, j) rfl
    let okk : Key → Prop := fun k => (k.1 = 0 ∧ k.2 < ks.length) ∨ k ∈ ex
    have hokk : ∀ k, ((k.1 == 0 && decide (k.2 < ks.length)) || ex.contains k) = true → okk k := by
     intro k hk
     simp only [Bool.or_eq_true, Bool.and_eq_true, beq_iff_eq, decide_eq_true_eq, List.contains_iff_mem] at hk
     exact hk
    have hokk' : ∀ k, okk k → ((k.1 == 0 && decide (k.2 < ks.length)) || ex.contains k) = true := by
     intro k hk
     simp only [Bool.or_eq_true, Bool.and_eq_true, beq_iff_eq, decide_eq_true_eq, List.contains_iff_mem]
     exact hk
    have l3 : ∀ k o, look s.heap k = some o → ∃ o3, look h3 k = some o3 ∧ KtLe (ι k, o.d.t) (ι3 k, o3.d.t) := by
     intro k o hk
     have hn := hfreshn k o hk
     rw [c2 k hn]
     by_cases hm : k ∈ ks
     ·obtain ⟨i, hi, rfl⟩ := mem_getD hm
      obtain ⟨o1, f1, f2⟩ := b1 i hi
      refine ⟨_, f2 o hk, ?_⟩
      obtain ⟨u, u1, u2⟩ := hI.at2 hi
      have := hkeep i hi
      rw [f1, u2] at this
      rw [hk] at u1
      cases u1
      rw [hι3i i hi hn]
      simpa only [KGo, renO_t] using this
     ·exact ⟨o, (b2 k hm).trans hk, .inl (by rw [hι3o _ hn hm])⟩
    have hB : BackOK s ι ks q.1 q.2 ι1 okk (outward ks ex d) h3 ι3 := by
     refine ⟨fun k o hk => ?_, fun k1 o1 hk1 ho1 => ?_, l3, fun k hk => hokk k (hok1 k hk), fun k o hk ho q' hq' => hokk q' ?_⟩
     ·by_cases hx : ∃ j, j < ex.length ∧ k = (d + 1, j)
      ·obtain ⟨j, hj, rfl⟩ := hx
       obtain ⟨_, o1, f1, f2⟩ := c1 j hj
       rw [f2] at hk
       cases hk
       exact .inl ⟨_, o1, .inr (getD_mem hj), f1, hσ1 j hj, rfl, hι3' j hj⟩
      ·have hn : ∀ j, j < ex.length → k ≠ (d + 1, j) := fun j hj e => hx ⟨j, hj, e⟩
       rw [c2 k hn] at hk
       by_cases hm : k ∈ ks
       ·obtain ⟨i, hi, rfl⟩ := mem_getD hm
        obtain ⟨u, hu⟩ := hks i hi
        obtain ⟨o1, f1, f2⟩ := b1 i hi
        rw [f2 u hu] at hk
        cases hk
        exact .inl ⟨(0, i), o1, .inl ⟨rfl, hi⟩, f1, hσ0 (0, i) rfl, rfl, hι3i i hi hn⟩
       ·rw [b2 k hm] at hk
        exact .inr ⟨hm, hk, hι3o _ hn hm⟩
     ·rcases hk1 with ⟨e1, e2⟩ | hm
      ·obtain ⟨k1a, i⟩ := k1
       simp only at e1 e2
       subst e1
       rw [hσ0 (0, i) rfl]
       obtain ⟨u, hu⟩ := hks i e2
       obtain ⟨o', f1, f2⟩ := b1 i e2
       rw [f1] at ho1
       cases ho1
       have hn := hfreshn _ u hu
       exact ⟨_, (c2 _ hn).trans (f2 u hu), rfl, hι3i i e2 hn⟩
      ·obtain ⟨j, hj, rfl⟩ := mem_getD hm
       rw [hσ1 j hj]
       obtain ⟨_, o', f1, f2⟩ := c1 j hj
       rw [f1] at ho1
       cases ho1
       exact ⟨_, f2, rfl, hι3' j hj⟩
     ·have hp := hokk' k hk
      have hl := look_filter (p := fun k => (k.1 == 0 && decide (k.2 < ks.length)) || ex.contains k) q.2 k hp
      exact hok2 (k, o) (look_mem (hl.trans ho)) q' hq'
    obtain ⟨st, hist⟩ := h.back (dst.getD s.env.length) (fun l x hl => ⟨_, (hown l x hl).1, (hown l x hl).2.1⟩) hg.stp hg.hist hB
    refine ⟨v, ι3, rfl, st, hist, fun k hk => ?_⟩
    have hn : ∀ j, j < ex.length → k ≠ (d + 1, j) := fun j _ e => by rw [e] at hk; simp at hk
    show KGo _ _ (look h3 k) _
    cases hlk : look s.heap k with
    | some o =>
     obtain ⟨o3, f1, f2⟩ := l3 k o hlk
     rw [f1]; exact f2
    | none =>
     have hm : k ∉ ks := fun hm => by
      obtain ⟨i, hi, rfl⟩ := mem_getD hm
      obtain ⟨u, hu⟩ := hks i hi
      rw [hu] at hlk; cases hlk
     rw [c2 k hn, b2 k hm, hlk]; exact trivial
end Go.Am
namespace Go.Am
variable {P : Program} {O : Orc} {FB : Nat → Nat → Prop} {w : World} {s : St} {ι : Key → Nat} {call : CallF} {draw : Bool} {f : FuncId} {rid i : Nat} {o : Oper} {a : Act} {r : Res}
variable {Q : Exit → Act → World → Prop} {next : Act → World → Prop}
theorem VRL_append {R : Rl} : ∀ (l m : List AV) (vs us : List Value), VRL R O l vs → VRL R O m us → VRL R O (l ++ m) (vs ++ us)
 | [], m, vs, us, h, h2 => by simp only [VRL] at h; subst h; exact h2
 | a :: l, m, vs, us, h, h2 => by
  simp only [VRL] at h
  obtain ⟨v, r, rfl, h1, h3⟩ := h
  simp only [List.cons_append, VRL]
  exact ⟨v, r ++ us, rfl, h1, VRL_append l m r us h3 h2⟩
theorem VRL_hints (hO : OrcOK P O) {R : Rl} {g : Nat → AV} (hs : Slots R O g a) (ts : Array TypeId) : ∀ (l : List Operand) (k : Nat), VRL R O ((l.zipIdx k).map fun (x, j) => val g ((ts[j]?).bind O.ty) x) (l.map a.eval)
 | [], _ => rfl
 | x :: l, k => by
  simp only [List.zipIdx_cons, List.map_cons, VRL]
  exact ⟨_, _, rfl, val_ok hs _ (bind_fine hO) x, VRL_hints hO hs ts l (k + 1)⟩
theorem run_enter {g : FuncId} (h : hasBody P g) (vs : Array Value) : (callFunc g vs).run P w = .ok (.enter g vs) w := by
 obtain ⟨fn, h1, h2, h3⟩ := h
 obtain ⟨c, hc⟩ := Option.isSome_iff_exists.1 h2
 have h4 : fn.name ≠ "runtime.NumGoroutine" := fun e => by rw [e] at h3; simp at h3
 simp [callFunc, h1, h4, hc]
theorem call_exec (hO : OrcOK P O) (hC : CallOK P O call) {c : Call} {x : Operand} (hop : o.op = .call c) (hc : c.callee = .value x) : OpOK P O call draw f rid i o := by
 intro FB w s ι a r Q next h hl he hn
 simp only [exec0, hop, callO, hc] at he
 split at he
 ·rename_i g first caps e
  have hv := val0 (slots_of h) x
  rw [e] at hv
  simp only [VR] at hv
  obtain ⟨vs, ws, hx, h1, h2⟩ := hv
  have hargs : VRL (rlOf w FB s (tmOf a) ι) O (first ++ (c.args.toList.zipIdx.map fun (x, j) => val s.get ((c.argTypes[j]?).bind O.ty) x) ++ caps) (vs ++ c.args.map a.eval ++ ws).toList := by
   simp only [Array.toList_append, Array.toList_map]
   exact VRL_append _ _ _ _ (VRL_append _ _ _ _ h1 (VRL_hints hO (slots_of h) _ _ 0)) h2
  obtain ⟨hb, htk, hcall⟩ := callA_ok hC h hargs (by
   unfold callT at he
   split at he
   ·cases he
   ·simp only [Option.bind_eq_some_iff] at he
    obtain ⟨r', h1, h2⟩ := he
    rw [h1, (keepR_some h2).1])
  have hx : (execOp a.eval o).run P w = .ok (.enter g (vs ++ c.args.map a.eval ++ ws)) w := by
   simp only [execOp, hop, resolve, hc, hx, Deferred.ofValue, Sem.run_bind, Sem.run_pure, Result.andThen_ok, invoke]
   exact run_enter hb _
  unfold Oper.wp
  rw [hx, Oper.upon_enter]
  refine hcall.mono ?_
  rintro e w' ⟨v, ι', rfl, st, hist, hk⟩
  refine hn _ _ ι' (put_defers' _ _ _) (put_size _ _ _) ⟨?_, hist, fun k hk' => ?_⟩
  ·rw [app_eq, put_eq, ← hl, htk]; exact st
  ·rw [app_eq]; exact hk k hk'
 ·cases he
theorem exec0_ok (hO : OrcOK P O) (hC : CallOK P O call) : OpOK P O call draw f rid i o := by
 intro FB w s ι a r Q next h hl he hn
 cases hop : o.op with
 | move x => exact move_ok hO (.inl hop) h hl he hn
 | assign x => exact move_ok hO (.inr hop) h hl he hn
 | pick c x y => exact pick_ok hO hop h hl he hn
 | alloc T => exact alloc_ok hO hop h hl he hn
 | box T x => exact box_ok hO hop h hl he hn
 | build T ps => exact build_exec hO hop h hl he hn
 | buildSlice T n ps => exact buildSlice_ok hO hop h hl he hn
 | load T x => exact load_exec hO hop h hl he hn
 | store T x y => exact store_exec hO hop h hl he hn
 | nilCheck x => exact nilCheck_ok hop h hl he hn
 | binOp op T x y U => exact binOp_ok hO hop h hl he hn
 | unOp op T x => exact unOp_ok hO hop h hl he hn
 | convert T U x => exact convert_exec hO hop h hl he hn
 | makeFunc q first caps =>
  cases q with
  | func q => exact makeFunc_ok hop h hl he hn
  | _ => simp [exec0, hop] at he
 | slice T x lo hi mx => exact slice_exec hO hop h hl he hn
 | fieldAddr T x k => exact fieldAddr_ok hO hop h hl he hn
 | field T x k => exact field_exec hO hop h hl he hn
 | indexAddr T x k => exact indexAddr_exec hO hop h hl he hn
 | index T x k => exact index_exec hO hop h hl he hn
 | extract x k => exact extract_exec hop h hl he hn
 | call c =>
  cases hc : c.callee with
  | builtin b => exact builtin_exec hO hop hc h hl he hn
  | value x => exact call_exec hO hC hop hc h hl he hn
  | invoke x n => simp [exec0, hop, callO, hc] at he
 | _ => simp [exec0, hop] at he
end Go.Am
namespace Go.Am
variable {P : Program} {O : Orc} {FB : Nat → Nat → Prop} {w : World} {s : St} {tm : Nat → Value} {ι : Key → Nat}
theorem Rel.ghost (h : Rel O FB w s tm ι) {k : Key} {γ : Nat} {t : Ty} (hf : t.fine = true) (hk : look s.heap k = none) : Stp O FB w s tm ι w ⟨s.env, (k, ⟨⟨.arr (γ + 1) 0 t, []⟩, []⟩) :: s.heap⟩ tm ι := by
 have hne : ∀ q o, look s.heap q = some o → q ≠ k := fun q o hq e => by subst e; rw [hk] at hq; cases hq
 have hown' : ∀ l x, owns w ⟨s.env, (k, ⟨⟨.arr (γ + 1) 0 t, []⟩, []⟩) :: s.heap⟩ tm ι l = some x → owns w s tm ι l = some x := by
  intro l x hl
  cases l with
  | sl i p => exact hl
  | fd q p =>
   simp only [owns, look_cons] at hl ⊢
   by_cases e : q = k
   ·subst e; simp at hl
   ·simpa only [if_neg e] using hl
  | ob q =>
   simp only [owns, look_cons] at hl ⊢
   by_cases e : q = k
   ·subst e; simp [Ty.ghost] at hl
   ·simpa only [if_neg e] using hl
 have hkt : ∀ q x, (rlOf w FB s tm ι).kt q = some x → KtGo (rlOf w FB s tm ι) (rlOf w FB ⟨s.env, (k, ⟨⟨.arr (γ + 1) 0 t, []⟩, []⟩) :: s.heap⟩ tm ι) q x := by
  intro q x hq
  refine .of ?_ fun _ h => h
  simp only [rlOf, ktOf, look_cons] at hq ⊢
  cases hl : look s.heap q with
  | none => rw [hl] at hq; cases hq
  | some o => rw [if_neg (hne q o hl)]; rw [hl] at hq; exact hq
 refine h.step (Nat.le_refl _) (fun b i _ => rfl) (fun l b lo hl => .inl ⟨l, lo, hown' l _ hl, Nat.le_refl _⟩) (fun l l' b lo lo' h1 h2 => h.dj l l' b lo lo' (hown' l _ h1) (hown' l' _ h2)) (fun hc i => (h.vr i).le ⟨hc, hkt⟩) (fun hc q o hq => ?_) h.rs (fun q o hq p hp => ?_)
 ·simp only [look_cons] at hq
  by_cases e : q = k
  ·subst e
   simp only [if_true, Option.some.injEq] at hq
   subst hq
   exact ⟨hf, .inr (.inl ⟨rfl, rfl, fun i hi => by omega⟩)⟩
  ·rw [if_neg e] at hq
   obtain ⟨h1, h2⟩ := h.ob q o hq
   exact ⟨h1, h2.keep ⟨hc, hkt⟩ h1 fun _ => rfl⟩
 ·simp only [look_cons] at hq
  by_cases e : q = k
  ·subst e
   simp only [if_true, Option.some.injEq] at hq
   subst hq
   cases hp
  ·rw [if_neg e] at hq
   exact h.rf q o hq p hp
theorem Rel.reobj (h : Rel O FB w s tm ι) {k : Key} {γ γ' n n' b' : Nat} {u : Ty} {l : List (den u)} {l' : List (den u)} {own : List (List Nat)} {w' : World} (hk : look s.heap k = some ⟨⟨.arr (γ + 1) n u, l⟩, own⟩) (hγ : γ < γ') (hsz : w.heap.size ≤ w'.heap.size)
  (hoth : ∀ b, b < w.heap.size → (b = ι k → n = 0) → w'.heap[b]? = w.heap[b]?)
  (hrm : ∀ b o, b < w.heap.size → (w'.cell? ⟨b, o, none⟩).isSome = (w.cell? ⟨b, o, none⟩).isSome ∧ w'.frozen? ⟨b, o, none⟩ = w.frozen? ⟨b, o, none⟩ ∧ w'.shape? b = w.shape? b)
  (hb : (b' = ι k ∧ 0 < n ∧ 0 < n') ∨ (w.heap.size ≤ b' ∧ 0 < n'))
  (hcell : ∃ arr T, w'.heap[b']? = some (.cells arr T (0, 0)) ∧ n' * u.size ≤ arr.size ∧ RV (rlOf w FB s tm ι) (.arr (γ' + 1) n' u) l' (fun j => arr.getD j undef)) :
  Stp O FB w s tm ι w' ⟨s.env, over s.heap k ⟨⟨.arr (γ' + 1) n' u, l'⟩, []⟩⟩ tm (fun q => if q = k then b' else ι q) := by
 have hn' : 0 < n' := by rcases hb with ⟨_, h1, h2⟩ | ⟨_, h1⟩ <;> omega
 obtain ⟨arr, T, hw', hsza, hrv⟩ := hcell
 have hob := h.ob k _ hk
 have hkg : 0 < n → (Ty.arr (γ + 1) n u).ghost = false := fun hn => by cases n with | zero => omega | succ m => rfl
 have hng : (Ty.arr (γ' + 1) n' u).ghost = false := by cases n' with | zero => omega | succ m => rfl
 have hlk : ∀ q, look (over s.heap k ⟨⟨.arr (γ' + 1) n' u, l'⟩, []⟩) q = if q = k then some ⟨⟨.arr (γ' + 1) n' u, l'⟩, []⟩ else look s.heap q := by
  intro q; rw [look_over, hk]; rfl
 have hblk : ∀ q o, look s.heap q = some o → q ≠ k → o.d.t.ghost = false → w'.heap[ι q]? = w.heap[ι q]? := by
  intro q o hq hne hg
  refine hoth _ ((h.ob q o hq).2.lt hg) fun e => ?_
  rcases Nat.eq_zero_or_pos n with h0 | h0
  ·exact h0
  ·have h1 : owns w s tm ι (.ob q) = some (ι q, 0) := by simp [owns, hq, hg]
   have h2 : owns w s tm ι (.ob k) = some (ι q, 0) := by simp [owns, hk, hkg h0, e]
   have := h.dj _ _ _ _ _ h1 h2
   simp only [Loc.ob.injEq] at this
   exact absurd this hne
 have hbf : ∀ q o, look s.heap q = some o → q ≠ k → o.d.t.ghost = false → blockF w' (ι q) = blockF w (ι q) := by
  intro q o hq hne hg
  funext j; unfold blockF; rw [hblk q o hq hne hg]
 have hown' : ∀ lc x, owns w' ⟨s.env, over s.heap k ⟨⟨.arr (γ' + 1) n' u, l'⟩, []⟩⟩ tm (fun q => if q = k then b' else ι q) lc = some x → (lc = .ob k ∧ x = (b', 0)) ∨ (lc ≠ .ob k ∧ owns w s tm ι lc = some x) := by
  intro lc x hl
  cases lc with
  | sl i p => exact .inr ⟨by simp, hl⟩
  | fd q p =>
   simp only [owns, hlk] at hl ⊢
   by_cases e : q = k
   ·subst e; simp at hl
   ·simp only [if_neg e] at hl
    refine .inr ⟨by simp, ?_⟩
    cases hq : look s.heap q with
    | none => rw [hq] at hl; cases hl
    | some o =>
     rw [hq] at hl
     simp only at hl ⊢
     cases hg : o.d.t.ghost with
     | true => simp only [ghost_regAt hg] at hl; split at hl <;> cases hl
     | false => rw [hbf q o hq e hg] at hl; exact hl
  | ob q =>
   simp only [owns, hlk] at hl ⊢
   by_cases e : q = k
   ·subst e
    simp only [if_true, hng, Bool.false_eq_true, if_false, Option.some.injEq] at hl
    exact .inl ⟨rfl, hl.symm⟩
   ·simp only [if_neg e] at hl
    exact .inr ⟨by simpa using e, hl⟩
 have hext : ∀ b m, Ext w b m → Ext w' b m := fun b m => Ext.keep hrm
 have hkt : ∀ q x, (rlOf w FB s tm ι).kt q = some x → KtGo (rlOf w FB s tm ι) (rlOf w' FB ⟨s.env, over s.heap k ⟨⟨.arr (γ' + 1) n' u, l'⟩, []⟩⟩ tm (fun q => if q = k then b' else ι q)) q x := by
  intro q x hq
  simp only [rlOf, ktOf] at hq
  by_cases e : q = k
  ·subst e
   rw [hk] at hq
   simp only [Option.map_some, Option.some.injEq] at hq
   subst hq
   refine ⟨(b', .arr (γ' + 1) n' u), by simp only [rlOf, ktOf, hlk, if_true]; rfl, ?_, fun _ _ m => hext _ m⟩
   exact .inr ⟨γ, γ', n, n', u, rfl, rfl, hγ⟩
  ·refine .of ?_ fun m => hext _ m
   simp only [rlOf, ktOf, hlk, if_neg e]; exact hq
 refine h.step hsz (fun b o hp => ?_) (fun lc b lo hl => ?_) (fun lc lc' b lo lo' h1 h2 => ?_) (fun hc i => (h.vr i).le ⟨hc, hkt⟩) (fun hc q o hq => ?_) (fun i own t x e p hp => room_same hrm hsz (h.rs i own t x e p hp)) (fun q o hq p hp => ?_)
 ·obtain ⟨p1, p2, _⟩ := hp
  have := hoth b p1 fun e => by
   rcases Nat.eq_zero_or_pos n with h0 | h0
   ·exact h0
   ·have := p2 (.ob k) 0 (by simp [owns, hk, hkg h0, e]); omega
  unfold World.cell?; rw [this]
 ·rcases hown' lc _ hl with ⟨rfl, e⟩ | ⟨_, e⟩
  ·simp only [Prod.mk.injEq] at e
   obtain ⟨rfl, rfl⟩ := e
   rcases hb with ⟨rfl, h1, _⟩ | ⟨h1, _⟩
   ·exact .inl ⟨.ob k, 0, by simp [owns, hk, hkg h1], Nat.le_refl _⟩
   ·exact .inr h1
  ·exact .inl ⟨lc, lo, e, Nat.le_refl _⟩
 ·have old : ∀ lc lo, owns w s tm ι lc = some (b', lo) → lc = .ob k := by
   intro lc lo e
   rcases hb with ⟨rfl, h1, _⟩ | ⟨h1, _⟩
   ·exact h.dj _ _ _ _ _ e (show owns w s tm ι (.ob k) = some (ι k, 0) by simp [owns, hk, hkg h1])
   ·have := h.own_lt e; omega
  rcases hown' lc _ h1 with ⟨rfl, e1⟩ | ⟨n1, e1⟩ <;> rcases hown' lc' _ h2 with ⟨rfl, e2⟩ | ⟨n2, e2⟩
  ·rfl
  ·simp only [Prod.mk.injEq] at e1
   rw [e1.1] at e2
   exact (old _ _ e2).symm
  ·simp only [Prod.mk.injEq] at e2
   rw [e2.1] at e1
   exact old _ _ e1
  ·exact h.dj lc lc' b lo lo' e1 e2
 ·rw [hlk] at hq
  by_cases e : q = k
  ·subst e
   simp only [if_true, Option.some.injEq] at hq
   subst hq
   refine ⟨hob.1, .inr (.inr ⟨arr, T, by simp only [if_true]; exact hw', fun hg => by simp [Ty.grow] at hg, hsza, ?_⟩)⟩
   exact RV.le ⟨hc, hkt⟩ _ _ _ hob.1 hrv
  ·rw [if_neg e] at hq
   obtain ⟨h1, h2⟩ := h.ob q o hq
   refine ⟨h1, ?_⟩
   simp only [if_neg e]
   exact h2.keep ⟨hc, hkt⟩ h1 fun hg => hblk q o hq e hg
 ·rw [hlk] at hq
  by_cases e : q = k
  ·subst e
   simp only [if_true, Option.some.injEq] at hq
   subst hq
   cases hp
  ·rw [if_neg e] at hq
   simp only [if_neg e]
   cases hg : o.d.t.ghost with
   | true => exact ghost_roomAt hg _ _ _
   | false =>
    rw [hbf q o hq e hg]
    exact room_same hrm hsz (h.rf q o hq p hp)
theorem Rel.reghost (h : Rel O FB w s tm ι) {k : Key} {γ γ' n : Nat} {u : Ty} {l : List (den u)} {own : List (List Nat)} (hk : look s.heap k = some ⟨⟨.arr (γ + 1) n u, l⟩, own⟩) (hγ : γ < γ') :
  Stp O FB w s tm ι w ⟨s.env, over s.heap k ⟨⟨.arr (γ' + 1) 0 u, []⟩, []⟩⟩ tm ι := by
 have hob := h.ob k _ hk
 have hlk : ∀ q, look (over s.heap k ⟨⟨.arr (γ' + 1) 0 u, []⟩, []⟩) q = if q = k then some ⟨⟨.arr (γ' + 1) 0 u, []⟩, []⟩ else look s.heap q := by
  intro q; rw [look_over, hk]; rfl
 have hown' : ∀ lc x, owns w ⟨s.env, over s.heap k ⟨⟨.arr (γ' + 1) 0 u, []⟩, []⟩⟩ tm ι lc = some x → owns w s tm ι lc = some x := by
  intro lc x hl
  cases lc with
  | sl i p => exact hl
  | fd q p =>
   simp only [owns, hlk] at hl ⊢
   by_cases e : q = k
   ·subst e; simp at hl
   ·simpa only [if_neg e] using hl
  | ob q =>
   simp only [owns, hlk] at hl ⊢
   by_cases e : q = k
   ·subst e; simp [Ty.ghost] at hl
   ·simpa only [if_neg e] using hl
 have hkt : ∀ q x, (rlOf w FB s tm ι).kt q = some x → KtGo (rlOf w FB s tm ι) (rlOf w FB ⟨s.env, over s.heap k ⟨⟨.arr (γ' + 1) 0 u, []⟩, []⟩⟩ tm ι) q x := by
  intro q x hq
  simp only [rlOf, ktOf] at hq
  by_cases e : q = k
  ·subst e
   rw [hk] at hq
   simp only [Option.map_some, Option.some.injEq] at hq
   subst hq
   exact ⟨(ι q, .arr (γ' + 1) 0 u), by simp only [rlOf, ktOf, hlk, if_true]; rfl, .inr ⟨γ, γ', n, 0, u, rfl, rfl, hγ⟩, fun _ _ _ hm => hm⟩
  ·refine .of ?_ fun m hm => hm
   simp only [rlOf, ktOf, hlk, if_neg e]; exact hq
 refine h.step (Nat.le_refl _) (fun b i _ => rfl) (fun l b lo hl => .inl ⟨l, lo, hown' l _ hl, Nat.le_refl _⟩) (fun l l' b lo lo' h1 h2 => h.dj l l' b lo lo' (hown' l _ h1) (hown' l' _ h2)) (fun hc i => (h.vr i).le ⟨hc, hkt⟩) (fun hc q o hq => ?_) h.rs (fun q o hq p hp => ?_)
 ·rw [hlk] at hq
  by_cases e : q = k
  ·subst e
   simp only [if_true, Option.some.injEq] at hq
   subst hq
   exact ⟨hob.1, .inr (.inl ⟨rfl, rfl, fun i hi => by omega⟩)⟩
  ·rw [if_neg e] at hq
   obtain ⟨h1, h2⟩ := h.ob q o hq
   exact ⟨h1, h2.keep ⟨hc, hkt⟩ h1 fun _ => rfl⟩
 ·rw [hlk] at hq
  by_cases e : q = k
  ·subst e
   simp only [if_true, Option.some.injEq] at hq
   subst hq
   cases hp
  ·rw [if_neg e] at hq
   exact h.rf q o hq p hp
end Go.Am
namespace Go.Am
variable {tk : Bool}
variable {P : Program} {O : Orc} {FB : Nat → Nat → Prop} {w w' : World} {s : St} {tm : Nat → Value} {ι : Key → Nat} {o : Oper} {a : Act} {r : Res}
variable {Q : Exit → Act → World → Prop} {next : Act → World → Prop}
def OpMOK (P : Program) (O : Orc) (tk : Bool) (o : Oper) : Prop :=
 ∀ {FB : Nat → Nat → Prop} {w : World} {s : St} {ι : Key → Nat} {a : Act} {r : Res} {Q : Exit → Act → World → Prop} {next : Act → World → Prop}, Rel O FB w s (tmOf a) ι → s.env.length = a.tmps.size → execM O tk o s.get s.heap = some r →
  Leaves O FB w s ι a (s.app o.dst r) next → o.wp P a w next Q
theorem mkVec_some {h : Heap} {d : Option Nat} {t : Ty} {n : Nat} (e : mkVec h d t n = some r) : ∃ d', d = some d' ∧ look h (d' + 1, 0) = none ∧ r = ⟨.tv [] (.sref t) (some ((d' + 1, 0), 0, 0, n)), none, ((d' + 1, 0), ⟨⟨.arr 1 n t, List.replicate n (zero t)⟩, []⟩) :: h⟩ := by
 unfold mkVec at e
 split at e
 ·rename_i d'
  split at e
  ·rename_i hc
   simp only [Bool.and_eq_true, Option.isNone_iff_eq_none] at hc
   cases e
   exact ⟨d', rfl, hc.1, rfl⟩
  ·cases e
 ·cases e
theorem VT.sref_mk {R : Rl} {t : Ty} {k : Key} {N lo len : Nat} {ad : Option Addr} {cap : Nat} (hf : (Ty.sref t).fine = true) (h1 : len ≤ cap) (h2 : ad = none → cap = 0) (h3 : ∃ b γ n, R.kt k = some (b, .arr (γ + 1) n t) ∧ N ≤ γ ∧ (N = γ → n ≤ lo + cap ∧ (n = 0 → cap = 0) ∧ (0 < cap → ad = some ⟨b, lo * t.size, none⟩ ∧ Ext R.w b ((lo + cap) * t.size)))) :
  VT R (.sref t) (some (k, N, lo, len)) (.slice ad len cap) :=
 ⟨hf, nofun, fun _ => rfl, rfl, ad, cap, by rw [cellsF_one (by simp)], h1, h2, h3⟩
theorem ext_new {w : World} {b n : Nat} {arr : Array Value} {T : TypeId} (h : w.heap[b]? = some (.cells arr T (0, 0))) (hn : n ≤ arr.size) : Ext w b n := by
 intro o ho
 refine ⟨?_, frozen_new h o⟩
 simp only [World.cell?, h]
 rw [Array.getElem?_eq_getElem (by omega)]; rfl
theorem leaves_vec {ad : Option Addr} {d n : Nat} {t : Ty} {arr : Array Value} {T : TypeId} (h : Rel O FB w s (tmOf a) ι) (hl : s.env.length = a.tmps.size) (hd : o.dst = some d) (hf : (Ty.sref t).fine = true)
    (hn : (n = 0 ∧ ad = none ∧ w' = w) ∨ (ad = some ⟨w.heap.size, 0, none⟩ ∧ w' = w.alloc (.cells arr T (0, 0)) ∧ RowOf (rlOf w FB s (tmOf a) ι) t (List.replicate n (zero t)) arr))
    (he : (execOp a.eval o).run P w = .ok (.value (.slice ad n n)) w') (hk : look s.heap (d + 1, 0) = none)
    (hx : Leaves O FB w s ι a (s.app o.dst ⟨.tv [] (.sref t) (some ((d + 1, 0), 0, 0, n)), none, ((d + 1, 0), ⟨⟨.arr 1 n t, List.replicate n (zero t)⟩, []⟩) :: s.heap⟩) next) : o.wp P a w next Q := by
  have hf' := hf
  simp only [Ty.fine, Bool.and_eq_true] at hf'
  have hne : ∀ k : Key, k.1 = 0 → k ≠ (d + 1, 0) := fun k hk' e => by rw [e] at hk'; simp at hk'
  have hkk : ∀ k : Key, k.1 = 0 → (look (((d + 1, 0), ⟨⟨.arr 1 n t, List.replicate n (zero t)⟩, []⟩) :: s.heap) k).map (·.d.t) = (look s.heap k).map (·.d.t) := fun k hk' => by
    rw [look_cons, if_neg (hne k hk')]
  have hist : ∀ arr : Array Value, Hist (ownP w s (tmOf a) ι) w (w.alloc (.cells arr T (0, 0))) := fun arr => hist_alloc _ ⟨rfl, rfl, rfl, rfl⟩ _
  by_cases h0 : n = 0
  · subst h0
    have g : ∀ {w1 : World}, Rel O FB w1 s (tmOf a) ι → Stp O FB w1 s (tmOf a) ι w1 ⟨s.env.set d (.tv [] (.sref t) (some ((d + 1, 0), 0, 0, 0))), ((d + 1, 0), ⟨⟨.arr 1 0 t, []⟩, []⟩) :: s.heap⟩ (setF (tmOf a) s.env.length d (.slice ad 0 0)) ι := by
      intro w1 h1
      have h2 := h1.ghost (γ := 0) (t := t) hf'.2 hk
      refine h2.trans (h2.rel.set d _ _ ?_ fun own t x e p hp => by cases e; cases hp)
      simp only [VR]
      exact VT.sref_mk hf (Nat.le_refl _) (fun _ => rfl) ⟨ι (d + 1, 0), 0, 0, by simp only [rlOf, ktOf, look_cons, if_true]; rfl, Nat.le_refl _, fun _ => ⟨Nat.zero_le _, fun _ => rfl, fun hc => by omega⟩⟩
    rcases hn with ⟨_, _, rfl⟩ | ⟨_, rfl, _⟩
    · refine leaves_stp (r := ⟨.tv [] (.sref t) (some ((d + 1, 0), 0, 0, 0)), none, ((d + 1, 0), ⟨⟨.arr 1 0 t, []⟩, []⟩) :: s.heap⟩) he ?_ hl (Hist.refl _ _) (fun k hk' => ⟨hkk k hk', rfl⟩) hx
      rw [hd]; exact g h
    · refine leaves_stp (r := ⟨.tv [] (.sref t) (some ((d + 1, 0), 0, 0, 0)), none, ((d + 1, 0), ⟨⟨.arr 1 0 t, []⟩, []⟩) :: s.heap⟩) he ((h.alloc (.cells arr T (0, 0))).trans ?_) hl (hist arr) (fun k hk' => ⟨hkk k hk', rfl⟩) hx
      rw [hd]; exact g (h.alloc _).rel
  · rcases hn with ⟨e, _⟩ | ⟨rfl, rfl, hrow⟩
    · exact absurd e h0
    · obtain ⟨hsz, hrv⟩ := hrow
      rw [List.length_replicate] at hsz hrv
      have hv : VT (rlOf w FB s (tmOf a) ι) (.arr 1 n t) (List.replicate n (zero t)) (.agg arr) :=
        ⟨hf'.2, fun _ => ⟨_, rfl⟩, nofun, hsz, by simp, hrv⟩
      have h1 := h.object (k := (d + 1, 0)) (ob := ⟨⟨.arr 1 n t, List.replicate n (zero t)⟩, []⟩) T hk hv (by cases n with | zero => exact absurd rfl h0 | succ m => rfl) nofun nofun
      have hnw := alloc_new w (.cells arr T (0, 0))
      have h2 := h1.rel.set d (.tv [] (.sref t) (some ((d + 1, 0), 0, 0, n))) (.slice (some ⟨w.heap.size, 0, none⟩) n n) (by
        simp only [VR]
        refine VT.sref_mk hf (Nat.le_refl _) nofun ⟨w.heap.size, 0, n, ?_, Nat.le_refl _, fun _ => ⟨by omega, fun e => absurd e h0, fun _ => ⟨by simp, ext_new hnw ?_⟩⟩⟩
        · show ktOf (((d + 1, 0), _) :: s.heap) (fun q => if q = (d + 1, 0) then w.heap.size else ι q) (d + 1, 0) = _
          unfold ktOf
          rw [look_cons, if_pos rfl]
          simp
        · rw [hsz]; simp) (fun own t x e p hp => by cases e; cases hp)
      refine leaves_stp (r := ⟨.tv [] (.sref t) (some ((d + 1, 0), 0, 0, n)), none, ((d + 1, 0), ⟨⟨.arr 1 n t, List.replicate n (zero t)⟩, []⟩) :: s.heap⟩) (ι' := fun q => if q = (d + 1, 0) then w.heap.size else ι q) he (h1.trans ?_) hl (hist arr) (fun k hk' => ⟨hkk k hk', ?_⟩) hx
      · rw [hd]; exact h2
      · simp only [if_neg (hne k hk')]
theorem mkVecL_some {h : Heap} {d : Option Nat} {t : Ty} {l : List (den t)} (e : mkVecL h d t l = some r) : ∃ d', d = some d' ∧ look h (d' + 1, 0) = none ∧ 0 < l.length ∧ r = ⟨.tv [] (.sref t) (some ((d' + 1, 0), 0, 0, l.length)), none, ((d' + 1, 0), ⟨⟨.arr 1 l.length t, l⟩, []⟩) :: h⟩ := by
 unfold mkVecL at e
 split at e
 ·rename_i d'
  split at e
  ·rename_i hc
   simp only [Bool.and_eq_true, Option.isNone_iff_eq_none, decide_eq_true_eq] at hc
   cases e
   exact ⟨d', rfl, hc.1.1, hc.2, rfl⟩
  ·cases e
 ·cases e
theorem leaves_vecL {d : Nat} {t : Ty} {l : List (den t)} {arr : Array Value} {T : TypeId} (h : Rel O FB w s (tmOf a) ι) (hl : s.env.length = a.tmps.size) (hd : o.dst = some d) (hf : (Ty.sref t).fine = true) (h0 : 0 < l.length)
    (hrow : RowOf (rlOf w FB s (tmOf a) ι) t l arr)
    (he : (execOp a.eval o).run P w = .ok (.value (.slice (some ⟨w.heap.size, 0, none⟩) l.length l.length)) (w.alloc (.cells arr T (0, 0)))) (hk : look s.heap (d + 1, 0) = none)
    (hx : Leaves O FB w s ι a (s.app o.dst ⟨.tv [] (.sref t) (some ((d + 1, 0), 0, 0, l.length)), none, ((d + 1, 0), ⟨⟨.arr 1 l.length t, l⟩, []⟩) :: s.heap⟩) next) : o.wp P a w next Q := by
  have hf' := hf
  simp only [Ty.fine, Bool.and_eq_true] at hf'
  have hne : ∀ k : Key, k.1 = 0 → k ≠ (d + 1, 0) := fun k hk' e => by rw [e] at hk'; simp at hk'
  have hkk : ∀ k : Key, k.1 = 0 → (look (((d + 1, 0), ⟨⟨.arr 1 l.length t, l⟩, []⟩) :: s.heap) k).map (·.d.t) = (look s.heap k).map (·.d.t) := fun k hk' => by
    rw [look_cons, if_neg (hne k hk')]
  have hist : ∀ arr : Array Value, Hist (ownP w s (tmOf a) ι) w (w.alloc (.cells arr T (0, 0))) := fun arr => hist_alloc _ ⟨rfl, rfl, rfl, rfl⟩ _
  obtain ⟨hsz, hrv⟩ := hrow
  have hv : VT (rlOf w FB s (tmOf a) ι) (.arr 1 l.length t) l (.agg arr) :=
    ⟨hf'.2, fun _ => ⟨_, rfl⟩, nofun, hsz, rfl, hrv⟩
  have hgh : (Ty.arr 1 l.length t).ghost = false := by
    obtain ⟨m, hm⟩ : ∃ m, l.length = m + 1 := ⟨l.length - 1, by omega⟩
    rw [hm]; rfl
  have h1 := h.object (k := (d + 1, 0)) (ob := ⟨⟨.arr 1 l.length t, l⟩, []⟩) T hk hv hgh nofun nofun
  have hnw := alloc_new w (.cells arr T (0, 0))
  have h2 := h1.rel.set d (.tv [] (.sref t) (some ((d + 1, 0), 0, 0, l.length))) (.slice (some ⟨w.heap.size, 0, none⟩) l.length l.length) (by
    simp only [VR]
    refine VT.sref_mk hf (Nat.le_refl _) nofun ⟨w.heap.size, 0, l.length, ?_, Nat.le_refl _, fun _ => ⟨by omega, fun e => absurd e (by omega), fun _ => ⟨by simp, ext_new hnw ?_⟩⟩⟩
    · show ktOf (((d + 1, 0), _) :: s.heap) (fun q => if q = (d + 1, 0) then w.heap.size else ι q) (d + 1, 0) = _
      unfold ktOf
      rw [look_cons, if_pos rfl]
      simp
    · rw [hsz]; simp) (fun own t x e p hp => by cases e; cases hp)
  refine leaves_stp (r := ⟨.tv [] (.sref t) (some ((d + 1, 0), 0, 0, l.length)), none, ((d + 1, 0), ⟨⟨.arr 1 l.length t, l⟩, []⟩) :: s.heap⟩) (ι' := fun q => if q = (d + 1, 0) then w.heap.size else ι q) he (h1.trans ?_) hl (hist arr) (fun k hk' => ⟨hkk k hk', ?_⟩) hx
  · rw [hd]; exact h2
  · simp only [if_neg (hne k hk')]
theorem makeSlice_exec (hO : OrcOK P O) {T : TypeId} {x y : Operand} (hop : o.op = .makeSlice T x y) : OpMOK P O tk o := by
 intro FB w s ι a r Q next h hl he hn
 simp only [execM, hop] at he
 split at he
 ·rename_i t n n' hT h1 h2
  split at he
  ·rename_i hc
   obtain ⟨rfl, hc1, hc2⟩ := hc
   obtain ⟨d, hd, hk, rfl⟩ := mkVec_some he
   obtain ⟨e, hu, hte, hz, hnr, hfi⟩ := slTy_und hO.ty hT
   obtain ⟨inf, hi, his, hiz, hib⟩ := (hO.ty _ _ hte).info
   obtain ⟨k1, v1⟩ := idxI_some (val0 (slots_of h) x) h1
   obtain ⟨k2, v2⟩ := idxI_some (val0 (slots_of h) y) h2
   have hib' : (inf.bytes : Int) * n ≤ 281474976710656 := by
    have : (inf.bytes : Int) * n ≤ 1024 * 65536 := Int.mul_le_mul (by omega) hc2 hc1 (by omega)
    omega
   have hrun := run_make (P := P) w T e inf (zeroVal t) hu hi hiz k1 k2 n n hc1 (Int.le_refl _) hib' (by omega)
   refine leaves_vec (T := e) (arr := madeCells (zeroVal t).cells (n.toNat * inf.size)) (w' := w.alloc (.cells (madeCells (zeroVal t).cells (n.toNat * inf.size)) e)) h hl hd (by simp [Ty.fine, hnr, hfi]) (.inr ⟨rfl, rfl, ?_⟩) ?_ hk hn
   ·rw [his]
    exact zeroRow (hO.ty _ _ hte).hasZ n.toNat (zeroVal t).cells (zeroVal_cells t)
   ·simp only [execOp, hop, v1, v2]
    simp only [Sem.run_bind, hrun, Result.andThen_ok, Sem.run_pure]
  ·cases he
 ·cases he
theorem nil_exec (hO : OrcOK P O) {x : Operand} (hop : o.op = .move x ∨ o.op = .assign x) : OpMOK P O tk o := by
 intro FB w s ι a r Q next h hl he hn
 have hx : (execOp a.eval o).run P w = .ok (.value (a.eval x)) w := by rcases hop with hop | hop <;> simp [execOp, hop]
 have he' : nilVec (slTy (O.ty o.type)) s.heap o.dst x = some r := by rcases hop with hop | hop <;> simpa only [execM, hop] using he
 unfold nilVec at he'
 split at he'
 ·rename_i t hT
  obtain ⟨d, hd, hk, rfl⟩ := mkVec_some he'
  obtain ⟨e, hu, hte, hz, hnr, hfi⟩ := slTy_und hO.ty hT
  exact leaves_vec (ad := none) (arr := #[]) (T := 0) h hl hd (by simp [Ty.fine, hnr, hfi]) (.inl ⟨rfl, rfl, rfl⟩) (hx.trans rfl) hk hn
 ·cases he'
end Go.Am
namespace Go.Am
variable {P : Program} {O : Orc} {FB : Nat → Nat → Prop} {w w' : World} {s : St} {tm : Nat → Value} {ι : Key → Nat} {o : Oper} {a : Act} {r : Res}
variable {Q : Exit → Act → World → Prop} {next : Act → World → Prop}
theorem vec_cells (h : Rel O FB w s tm ι) {k : Key} {γ N lo len n : Nat} {t : Ty} {l : List (den t)} {own : List (List Nat)} {v : Value} (hk : look s.heap k = some ⟨⟨.arr (γ + 1) n t, l⟩, own⟩) (hN : N = γ)
  (hv : VT (rlOf w FB s tm ι) (.sref t) (some (k, N, lo, len)) v) : ∃ ad cap, v = .slice ad len cap ∧ len ≤ cap ∧ n ≤ lo + cap ∧ (n = 0 → cap = 0) ∧ (ad = none → cap = 0) ∧
   (0 < cap → ad = some ⟨ι k, lo * t.size, none⟩ ∧ ∃ arr T, w.heap[ι k]? = some (.cells arr T (0, 0)) ∧ (lo + cap) * t.size ≤ arr.size ∧ n * t.size ≤ arr.size ∧ List.length l = n ∧ ∀ i, i < n → RV (rlOf w FB s tm ι) t (l.getD i (zero t)) (fun j => arr.getD (i * t.size + j) undef)) := by
 obtain ⟨ad, cap, rfl, g1, g2, b, δ, m, g3, g4, g5⟩ := hv.sref
 have e : (rlOf w FB s tm ι).kt k = some (ι k, .arr (γ + 1) n t) := by simp only [rlOf, ktOf, hk]; rfl
 rw [e] at g3
 simp only [Option.some.injEq, Prod.mk.injEq, Ty.arr.injEq, true_and, and_true, Nat.add_right_cancel_iff] at g3
 obtain ⟨rfl, rfl, rfl⟩ := g3
 obtain ⟨g6, g7, g8⟩ := g5 hN
 refine ⟨ad, cap, rfl, g1, g6, g7, g2, fun hc => ?_⟩
 obtain ⟨g9, g10⟩ := g8 hc
 have hn : 0 < n := by
  rcases Nat.eq_zero_or_pos n with h0 | h0
  ·have := g7 h0; omega
  ·exact h0
 obtain ⟨arr, T, h1, _, h3, h4⟩ := (h.ob k _ hk).2.cells (by intro a c e; cases e) (by cases n with | zero => omega | succ m => rfl)
 refine ⟨g9, arr, T, h1, ?_, h3, h4.1, fun i hi => h4.2 i hi⟩
 rcases Nat.eq_zero_or_pos ((lo + cap) * t.size) with h0 | h0
 ·omega
 ·have : (w.cell? ⟨ι k, (lo + cap) * t.size - 1, none⟩).isSome = true := (g10 ((lo + cap) * t.size - 1) (by omega)).1
  rw [cell_block h1] at this
  rcases Nat.lt_or_ge ((lo + cap) * t.size - 1) arr.size with h | h
  ·omega
  ·rw [Array.getElem?_eq_none h] at this; cases this
theorem getD_cutV {α : Type} (l : List α) (lo len i : Nat) (d : α) (hl : lo + len ≤ l.length) (hi : i < len) : (cut l lo (lo + len)).getD i d = l.getD (lo + i) d := by
 unfold cut
 simp only [List.getD_eq_getElem?_getD, List.getElem?_drop]
 rw [List.getElem?_take_of_lt (by omega)]
theorem length_cutV {α : Type} (l : List α) (lo len : Nat) (hl : lo + len ≤ l.length) : (cut l lo (lo + len)).length = len := by
 unfold cut; simp; omega
theorem vec_first (h : Rel O FB w s tm ι) {k : Key} {γ N lo len n : Nat} {t : Ty} {l : List (den t)} {own : List (List Nat)} {v : Value} (hk : look s.heap k = some ⟨⟨.arr (γ + 1) n t, l⟩, own⟩) (hN : N = γ) (hle : lo + len ≤ n) (hl : List.length l = n)
  (hv : VT (rlOf w FB s tm ι) (.sref t) (some (k, N, lo, len)) v) {w1 : World} (hw : w1.heap = w.heap) : ∃ nc, (Builtin.firstCells t.size len v).run P w1 = .ok nc w1 ∧ RowOf (rlOf w FB s tm ι) t (cut l lo (lo + len)) nc := by
 obtain ⟨ad, cap, rfl, g1, g2, g3, g4, g5⟩ := vec_cells h hk hN hv
 have hlc := length_cutV l lo len (by omega)
 by_cases hm : len = 0
 ·subst hm
  refine ⟨#[], ?_, by rw [hlc]; simp, fun i hi => by rw [hlc] at hi; omega⟩
  cases ad <;> simp [Builtin.firstCells, loadCells, loadCellsFrom]
 ·obtain ⟨rfl, arr, T, h1, h2, h3, _, h5⟩ := g5 (by omega)
  by_cases hs : t.size = 0
  ·refine ⟨#[], ?_, by simp [hs], fun i hi => ?_⟩
   ·simp [Builtin.firstCells, loadCells, hs, loadCellsFrom]
   ·rw [hlc] at hi
    rw [getD_cutV l lo len i _ (by omega) hi]
    exact RV.congr t _ _ _ (fun j hj => by omega) (h5 (lo + i) (by omega))
  ·have hp : 0 < t.size := by omega
   have hle' : (lo + len) * t.size ≤ arr.size := Nat.le_trans (Nat.mul_le_mul_right _ (by omega)) h2
   rw [Nat.add_mul] at hle'
   have key := run_loadCells (P := P) (w := w1) (b := ι k) (o := lo * t.size) (c := fun j => arr.getD (lo * t.size + j) undef) (len * t.size) 0 #[] (fun j hj => by
    rw [Nat.zero_add, cell_block (by rw [hw]; exact h1)]
    have : lo * t.size + j < arr.size := by omega
    simp [Array.getD_eq_getD_getElem?, this])
   refine ⟨_, key, by simp [hlc], fun i hi => ?_⟩
   rw [hlc] at hi
   rw [getD_cutV l lo len i _ (by omega) hi]
   refine RV.congr t _ _ _ (fun j hj => ?_) (h5 (lo + i) (by omega))
   have hlt : i * t.size + j < len * t.size := by
    have : i * t.size + t.size ≤ len * t.size := by rw [← Nat.succ_mul]; exact Nat.mul_le_mul_right _ hi
    omega
   simp [Array.getD_eq_getD_getElem?, hlt, Nat.add_mul, Nat.add_assoc]
end Go.Am
namespace Go.Am
variable {P : Program} {O : Orc} {FB : Nat → Nat → Prop} {w w' : World} {s : St} {tm : Nat → Value} {ι : Key → Nat} {o : Oper} {a : Act} {r : Res}
variable {Q : Exit → Act → World → Prop} {next : Act → World → Prop}
theorem leaves_stpG {v : Value} {w' : World} {ι' : Key → Nat} (he : (execOp a.eval o).run P w = .ok (.value v) w') (hs : Stp O FB w s (tmOf a) ι w' ⟨(takeE s.env r.tk).set (o.dst.getD s.env.length) r.a, r.h⟩ (setF (tmOf a) s.env.length (o.dst.getD s.env.length) v) ι')
  (hl : s.env.length = a.tmps.size) (hh : Hist (ownP w s (tmOf a) ι) w w') (hk : ∀ k, k.1 = 0 → KGo (look s.heap k) (ι k) (look r.h k) (ι' k)) (hn : Leaves O FB w s ι a (s.app o.dst r) next) : o.wp P a w next Q := by
 unfold Oper.wp
 rw [he]
 refine hn _ _ ι' (put_defers' _ _ _) (put_size _ _ _) ⟨?_, hh, fun k hk' => ?_⟩
 ·rw [app_eq, put_eq, ← hl]; exact hs
 ·rw [app_eq]; exact hk k hk'
theorem getD_takeA {α : Type} (l m : List α) (len i : Nat) (d : α) (h : len ≤ l.length) : (l.take len ++ m).getD i d = if i < len then l.getD i d else m.getD (i - len) d := by
 simp only [List.getD_eq_getElem?_getD, List.getElem?_append, List.length_take, Nat.min_eq_left h]
 by_cases h1 : i < len
 ·rw [if_pos h1, if_pos h1, List.getElem?_take_of_lt h1]
 ·rw [if_neg h1, if_neg h1]
theorem appVec_ok (hO : OrcOK P O) (h : Rel O FB w s tm ι) {T U ty e : TypeId} {t : Ty} {k : Key} {γ N len n : Nat} {l m : List (den t)} {own : List (List Nat)} {vx vy : Value} (d : Nat)
  (hk : look s.heap k = some ⟨⟨.arr (γ + 1) n t, l⟩, own⟩) (hN : N = γ) (hle : len ≤ n) (hm : 0 < m.length) (hbig : n + m.length ≤ bigN) (hu : P.underlying T = some (.slice e)) (hte : O.ty e = some t) (hU : P.underlying U = some .string ∨ ∃ e', P.underlying U = some (.slice e'))
  (hv : VT (rlOf w FB s tm ι) (.sref t) (some (k, N, 0, len)) vx) (hlen : (Builtin.lenOf vy).run P w = .ok m.length w)
  (hfc : ∀ w', w'.heap = w.heap → ∃ nc, (Builtin.firstCells t.size m.length vy).run P w' = .ok nc w' ∧ RowOf (rlOf w FB s tm ι) t m nc) (hone : ∀ nc, RowOf (rlOf w FB s tm ι) t m nc → ∀ v ∈ nc.toList, v.oneCell' = true) :
  ∃ w' v' b', (Builtin.append_ #[T, U] ty #[vx, vy]).run P w = .ok v' w' ∧ KtLe (ι k, .arr (γ + 1) n t) (b', .arr (γ + 2) (len + m.length) t) ∧
   Stp O FB w s tm ι w' ⟨s.env.set d (.tv [] (.sref t) (some (k, γ + 1, 0, len + m.length))), over s.heap k ⟨⟨.arr (γ + 2) (len + m.length) t, l.take len ++ m⟩, []⟩⟩ (setF tm s.env.length d v') (fun q => if q = k then b' else ι q) ∧ Hist (ownP w s tm ι) w w' := by
 have hTy := hO.ty e _ hte
 obtain ⟨inf, hinf, hisz, hizero, hbytes⟩ := hTy.info
 have hfs := hv.fine
 have hfs' := hfs
 simp only [Ty.fine, Bool.and_eq_true] at hfs'
 have hob := h.ob k _ hk
 have hll : List.length l = n := by
  rcases hob.2 with h1 | ⟨_, h1⟩ | ⟨_, _, _, _, _, h1⟩
  ·exact h1.elim
  ·exact h1.1
  ·exact h1.1
 obtain ⟨ad, cap, rfl, g1, g2, g3, g4, g5⟩ := vec_cells h hk hN hv
 simp only [Nat.zero_add, Nat.zero_mul] at g2 g5
 have hlp : (l.take len ++ m).length = len + m.length := by rw [List.length_append, List.length_take, Nat.min_eq_left (by omega)]
 have set2 : ∀ {w1 : World} {b' cap' : Nat} {ad' : Option Addr}, Stp O FB w s tm ι w1 ⟨s.env, over s.heap k ⟨⟨.arr (γ + 2) (len + m.length) t, l.take len ++ m⟩, []⟩⟩ tm (fun q => if q = k then b' else ι q) → len + m.length ≤ cap' → ad' = some ⟨b', 0, none⟩ → Ext w1 b' (cap' * t.size) →
   Stp O FB w s tm ι w1 ⟨s.env.set d (.tv [] (.sref t) (some (k, γ + 1, 0, len + m.length))), over s.heap k ⟨⟨.arr (γ + 2) (len + m.length) t, l.take len ++ m⟩, []⟩⟩ (setF tm s.env.length d (.slice ad' (len + m.length) cap')) (fun q => if q = k then b' else ι q) := by
  intro w1 b' cap' ad' st hc ha hx
  refine st.trans (st.rel.set d _ _ ?_ fun own t x e p hp => by cases e; cases hp)
  simp only [VR]
  refine VT.sref_mk hfs (by omega) (fun e => by rw [ha] at e; cases e) ⟨b', γ + 1, len + m.length, ?_, Nat.le_refl _, fun _ => ⟨by omega, fun e => by omega, fun _ => ⟨by rw [ha]; simp, by rw [Nat.zero_add]; exact hx⟩⟩⟩
  simp only [rlOf, ktOf, look_over, hk, if_true]; rfl
 by_cases hneed : len + m.length ≤ cap
 ·obtain ⟨nc, hnc, hrow⟩ := hfc w rfl
  have hrun := append_run1 (P := P) (w := w) (T := T) (U := U) (ty := ty) (a := ad) (n := len) hu hU (hTy.sizeOf w) hlen hnc hneed
  obtain ⟨rfl, arr, T', hb, hx1, hx2, _, hx4⟩ := g5 (by omega)
  have hn : 0 < n := by
   rcases Nat.eq_zero_or_pos n with h0 | h0
   ·have := g3 h0; omega
   ·exact h0
  have hncl : nc.toList.length = m.length * t.size := (Array.length_toList (xs := nc)).trans hrow.1
  have hroom : (len + m.length) * t.size ≤ arr.size := Nat.le_trans (Nat.mul_le_mul_right _ hneed) hx1
  have hroom' := hroom
  rw [Nat.add_mul] at hroom'
  obtain ⟨w', hst, hs⟩ := run_storeCells (P := P) (b := ι k) (o := len * t.size) (T := T') (fz := (0, 0)) nc.toList 0 w arr hb (hone nc hrow) (fun j hj => by
   rw [hncl] at hj
   exact ⟨by omega, frozen_new hb _⟩)
  simp only [Nat.add_zero] at hs
  obtain ⟨arr', q1, q2, q3⟩ := hs.this
  have hownk : owns w s tm ι (.ob k) = some (ι k, 0) := by
   simp only [owns, hk]
   rw [if_neg]
   cases n with
   | zero => omega
   | succ m => simp [Ty.ghost]
  have hmem : ownP w s tm ι (ι k) 0 := ⟨.ob k, hownk⟩
  have hh := hist_stored hs hb (W := ownP w s tm ι) ⟨0, hmem, Nat.zero_le _⟩ (fun lo ⟨lc, hl'⟩ => by
   have := h.dj _ _ _ _ _ hl' hownk
   subst this
   rw [hownk] at hl'
   simp only [Option.some.injEq, Prod.mk.injEq, true_and] at hl'
   omega)
  have st := h.reobj (γ' := γ + 1) (n' := len + m.length) (b' := ι k) (l' := l.take len ++ m) (w' := w') hk (Nat.lt_succ_self γ) (Nat.le_of_eq hs.size.symm) (fun b _ hbk => hs.other b fun e => by have := hbk e; omega) (fun b o' _ => stored_shape hs hb b o') (.inl ⟨rfl, hn, by omega⟩) ⟨arr', T', q1, by
    rw [q2]
    exact hroom, hlp, fun i hi => by
    rw [getD_takeA l m len i _ (by omega)]
    by_cases h1 : i < len
    ·rw [if_pos h1]
     refine RV.congr t _ _ _ (fun j hj => ?_) (hx4 i (by omega))
     have : i * t.size + t.size ≤ len * t.size := by rw [← Nat.succ_mul]; exact Nat.mul_le_mul_right _ h1
     show arr'.getD (i * t.size + j) undef = arr.getD (i * t.size + j) undef
     rw [q3, if_neg (by omega)]
    ·rw [if_neg h1]
     ·have h2 : i < len + m.length := hi
      refine RV.congr t _ _ _ (fun j hj => ?_) (hrow.2 (i - len) (by omega))
      have e1 : i * t.size = len * t.size + (i - len) * t.size := by rw [← Nat.add_mul]; congr 1; omega
      have : (i - len) * t.size + t.size ≤ m.length * t.size := by rw [← Nat.succ_mul]; exact Nat.mul_le_mul_right _ (by omega)
      show arr'.getD (i * t.size + j) undef = nc.getD ((i - len) * t.size + j) undef
      rw [q3, if_pos (by rw [hncl]; omega)]
      rw [show i * t.size + j - len * t.size = (i - len) * t.size + j by omega]
      have hlt : (i - len) * t.size + j < nc.size := by rw [hrow.1]; omega
      simp [List.getD_eq_getElem?_getD, Array.getD_eq_getD_getElem?, hlt]⟩
  refine ⟨w', .slice (some ⟨ι k, 0, none⟩) (len + m.length) cap, ι k, ?_, ?_, set2 st (by omega) rfl (ext_new q1 (by rw [q2]; exact hx1)), hh⟩
  ·rw [hrun]
   simp only [add_plain, Nat.zero_add, hst]
   rfl
  ·exact .inr ⟨γ, γ + 1, n, _, t, rfl, rfl, Nat.lt_succ_self γ⟩
 ·obtain ⟨nc, hnc, hrow⟩ := hfc w.drew rfl
  have hcut : cut l 0 (0 + len) = l.take len := by unfold cut; simp
  obtain ⟨old, hold, hrowo⟩ := vec_first h hk hN (by omega) hll hv (w1 := w.drew) rfl
  rw [hcut] at hrowo
  unfold bigN at hbig
  have hrun := append_run2 (P := P) (w := w) (T := T) (U := U) (ty := ty) (a := ad) (n := len) (k := m.length) (cap := cap) hu hU hlen hinf hisz hizero hbytes hnc hold hneed (by omega)
  have hge := grownCap_ge w (len + m.length) cap e
  have happ := RowOf.app (c := Builtin.zeroCells (zeroVal t).cells (grownCap w (len + m.length) cap e - (len + m.length))) hrowo hrow
  have hzs : (zeroVal t).cells.size = t.size := by rw [zeroVal_cells]; simp [zc_length]
  have htl : (l.take len).length = len := by simp; omega
  have harr : (old ++ nc ++ Builtin.zeroCells (zeroVal t).cells (grownCap w (len + m.length) cap e - (len + m.length))).size = grownCap w (len + m.length) cap e * t.size := by
   have h1 : old.size = len * t.size := by rw [hrowo.1, htl]
   have h2 : nc.size = m.length * t.size := hrow.1
   simp only [Array.size_append, h1, h2, size_zeroCells, hzs]
   rw [← Nat.add_mul, ← Nat.add_mul]
   congr 1; omega
  have hnw := alloc_new w.drew (.cells (old ++ nc ++ Builtin.zeroCells (zeroVal t).cells (grownCap w (len + m.length) cap e - (len + m.length))) e)
  have hd : w.drew.heap = w.heap := rfl
  have st := h.reobj (γ' := γ + 1) (n' := len + m.length) (b' := w.heap.size) (l' := l.take len ++ m) (w' := w.drew.alloc (.cells (old ++ nc ++ Builtin.zeroCells (zeroVal t).cells (grownCap w (len + m.length) cap e - (len + m.length))) e)) hk (Nat.lt_succ_self γ)
   (by rw [alloc_size, hd]; omega) (fun b hb _ => alloc_heap w.drew _ b hb) (fun b o' hb' => ⟨by rw [alloc_cell w.drew _ b o' hb']; rfl, alloc_frozen w.drew _ b o' hb', alloc_shape w.drew _ b hb'⟩) (.inr ⟨Nat.le_refl _, by omega⟩)
   ⟨_, e, hnw, by rw [harr]; exact Nat.mul_le_mul_right _ hge, hlp, fun i hi => by
    exact happ.2 i (by rw [List.length_append, htl]; omega)⟩
  refine ⟨_, _, w.heap.size, hrun, .inr ⟨γ, γ + 1, n, _, t, rfl, rfl, Nat.lt_succ_self γ⟩, set2 st (by omega) rfl (ext_new hnw (by rw [harr]; exact Nat.le_refl _)), hist_alloc _ (w := w) (w0 := w.drew) ⟨rfl, rfl, rfl, rfl⟩ _⟩
end Go.Am
namespace Go.Am
variable {tk : Bool}
variable {P : Program} {O : Orc} {FB : Nat → Nat → Prop} {w w' : World} {s : St} {tm : Nat → Value} {ι : Key → Nat} {o : Oper} {a : Act} {r : Res} {call : CallF} {draw : Bool} {f : FuncId} {rid i : Nat}
variable {Q : Exit → Act → World → Prop} {next : Act → World → Prop}
theorem vec_len (h : Rel O FB w s tm ι) {k : Key} {γ n : Nat} {t : Ty} {l : List (den t)} {own : List (List Nat)} (hk : look s.heap k = some ⟨⟨.arr (γ + 1) n t, l⟩, own⟩) : List.length l = n := by
 rcases (h.ob k _ hk).2 with h1 | ⟨_, h1⟩ | ⟨_, _, _, _, _, h1⟩
 ·exact h1.elim
 ·exact h1.1
 ·exact h1.1
theorem rd_ok (h : Rel O FB w s tm ι) {y : AV} {t : Ty} {own : List (List Nat)} {m : List (den t)} {vy : Value} (hv : VR (rlOf w FB s tm ι) O y vy) (hz : t.size ≠ 0) (e : rdA s.heap y = some (.tv own (.slice t) m)) :
  (Builtin.lenOf vy).run P w = .ok m.length w ∧ ∀ w', w'.heap = w.heap → ∃ nc, (Builtin.firstCells t.size m.length vy).run P w' = .ok nc w' ∧ RowOf (rlOf w FB s tm ι) t m nc := by
 unfold rdA at e
 split at e
 ·rename_i own' u x
  simp only [Option.map_eq_some_iff] at e
  obtain ⟨l, hl, e⟩ := e
  injection e with _ e2 e3
  cases e2
  cases (eq_of_heq e3)
  unfold rdVec at hl
  simp only [VR] at hv
  split at hl
  ·cases hl
   have h1 := hv.one rfl
   have h2 : cellsF vy 0 = .slice none 0 0 := hv.rv
   simp only [cellsF, h1] at h2
   have h3 : vy = .slice none 0 0 := by simpa using h2
   subst h3
   refine ⟨rfl, fun w' _ => ⟨#[], rfl, by simp, fun i hi => by simp at hi⟩⟩
  ·rename_i k N lo len
   split at hl
   ·rename_i γ n u' l' own2 hk
    split at hl
    ·rename_i hu
     subst hu
     split at hl
     ·rename_i hc
      cases hl
      have hll := vec_len h hk
      obtain ⟨ad, cap, hvy, _⟩ := vec_cells h hk hc.1 hv
      have hlc := length_cutV l' lo len (by omega)
      refine ⟨by rw [hvy, hlc]; rfl, fun w' hw => ?_⟩
      rw [hlc]
      exact vec_first h hk hc.1 hc.2 hll hv hw
     ·cases hl
    ·cases hl
   ·cases hl
 ·simp only [Option.some.injEq] at e
  subst e
  simp only [VR] at hv
  obtain ⟨ad, cap, _, _, _, hvs, _⟩ := hv.slice
  exact ⟨by rw [hvs]; rfl, fun w' hw => firstCells_ok (R := rlOf w FB s tm ι) hw.symm hv⟩
theorem bind_slTy {x : Option TypeId} {t : Ty} (h : slTy (x.bind O.ty) = some t) : ∃ T, x = some T ∧ slTy (O.ty T) = some t := by
 cases x with
 | none => cases h
 | some T => exact ⟨T, rfl, h⟩
theorem appR_exec (hO : OrcOK P O) {c : Call} {x y : Operand} (hop : o.op = .call c) (hc : c.callee = .builtin .append) (hxy : c.args.toList = [x, y])
  {FB : Nat → Nat → Prop} {w : World} {s : St} {ι : Key → Nat} {a : Act} {r : Res} {Q : Exit → Act → World → Prop} {next : Act → World → Prop} (h : Rel O FB w s (tmOf a) ι) (hl : s.env.length = a.tmps.size)
  (he : appR (c.argTypes[0]?.bind O.ty) (c.argTypes[1]?.bind O.ty) tk s.get s.heap x (val s.get (c.argTypes[1]?.bind O.ty) y) = some r) (hn : Leaves O FB w s ι a (s.app o.dst r) next) : o.wp P a w next Q := by
 have hx : execOp a.eval o = (do pure (.value (← Builtin.append_ c.argTypes o.type #[a.eval x, a.eval y]))) := by rw [ofValue_builtin hop hc, args2 hxy]; rfl
 have hvy := val_ok (slots_of h) (c.argTypes[1]?.bind O.ty) (bind_fine hO) y
 generalize val s.get (c.argTypes[1]?.bind O.ty) y = ay at he hvy
 unfold appR at he
 split at he
 case h_2 => cases he
 rename_i own' t' m hrd
 simp only [Option.map_eq_some_iff] at he
 obtain ⟨b, hb, rfl⟩ := he
 have hq : ∀ own t l, (takeV tk s.get (c.argTypes[0]?.bind O.ty) x).1 = .tv own (.slice t) l → own = [[]] → VT (rlOf w FB s (tmOf a) ι) (.slice t) l (a.eval x) ∧
   (((takeV tk s.get (c.argTypes[0]?.bind O.ty) x).2 = none ∧ regAt (.slice t) (cellsF (a.eval x)) [] = none) ∨ ∃ t0 own0, (takeV tk s.get (c.argTypes[0]?.bind O.ty) x).2 = some t0 ∧ s.get t0 = .tv own0 (.slice t) l ∧ [] ∈ own0 ∧ tmOf a t0 = a.eval x) := by
  intro own t l e1 e2
  subst e2
  rcases takeV_spec (g := s.get) (tk := tk) (h := c.argTypes[0]?.bind O.ty) (x := x) with ⟨t0, _, rfl, e⟩ | e
  ·rw [e] at e1 ⊢
   have hv := h.vr t0
   simp only at e1
   rw [e1] at hv
   simp only [VR] at hv
   exact ⟨hv, .inr ⟨t0, _, rfl, e1, List.mem_singleton.2 rfl, rfl⟩⟩
  ·rw [e] at e1 ⊢
   have hv := val_ok (slots_of h) (c.argTypes[0]?.bind O.ty) (bind_fine hO) x
   simp only at e1
   rw [e1] at hv
   simp only [VR] at hv
   exact ⟨hv, .inl ⟨rfl, val_own (slots_of h) (bind_fine hO) x _ _ _ e1 [] (List.mem_singleton.2 rfl)⟩⟩
 generalize takeV tk s.get (c.argTypes[0]?.bind O.ty) x = q at hb hq hn
 unfold appV at hb
 split at hb
 ·rename_i own t l own2 t2 m2 e1 e2
  cases e2
  split at hb
  ·rename_i ht
   subst ht
   split at hb
   ·rename_i hcond
    obtain ⟨hT, hU, rfl, hbig⟩ := hcond
    cases hb
    obtain ⟨T, hT1, hT⟩ := Option.bind_eq_some_iff.1 hT
    obtain ⟨U, hU1, hU⟩ := Option.bind_eq_some_iff.1 hU
    obtain ⟨q1, q2⟩ := hq _ _ _ e1 rfl
    obtain ⟨D, hd, e', rfl, he', hz⟩ := (hO.ty T _ hT).und
    obtain ⟨D2, hd2, e2, rfl, he2, hz2⟩ := (hO.ty U _ hU).und
    obtain ⟨r1, r2⟩ := rd_ok (P := P) h hvy hz hrd
    obtain ⟨w', v', c1, c2, c3⟩ := append_ok hO h (ty := o.type) (o.dst.getD s.env.length) hT (.inr ⟨_, hd2⟩) q1 q2 (m := m) (vy := a.eval y) r1 r2 (row_one hz) hbig
    exact leaves_stp (by rw [hx, append_ts hT1 hU1]; simp only [Sem.run_bind, c1, Result.andThen_ok, Sem.run_pure]) c2 hl c3 (fun _ _ => ⟨rfl, rfl⟩) hn
   ·cases hb
  ·cases hb
 ·rename_i e2
  cases e2
 ·cases hb
theorem appE_exec (hO : OrcOK P O) {c : Call} {x y : Operand} (hop : o.op = .call c) (hc : c.callee = .builtin .append) (hxy : c.args.toList = [x, y])
  {FB : Nat → Nat → Prop} {w : World} {s : St} {ι : Key → Nat} {a : Act} {r : Res} {Q : Exit → Act → World → Prop} {next : Act → World → Prop} (h : Rel O FB w s (tmOf a) ι) (hl : s.env.length = a.tmps.size)
  (he : appE (c.argTypes[0]?.bind O.ty) (c.argTypes[1]?.bind O.ty) s.heap (val s.get (c.argTypes[0]?.bind O.ty) x) (val s.get (c.argTypes[1]?.bind O.ty) y) = some r) (hn : Leaves O FB w s ι a (s.app o.dst r) next) : o.wp P a w next Q := by
 have hx : execOp a.eval o = (do pure (.value (← Builtin.append_ c.argTypes o.type #[a.eval x, a.eval y]))) := by rw [ofValue_builtin hop hc, args2 hxy]; rfl
 have hvx := val_ok (slots_of h) (c.argTypes[0]?.bind O.ty) (bind_fine hO) x
 have hvy := val_ok (slots_of h) (c.argTypes[1]?.bind O.ty) (bind_fine hO) y
 generalize val s.get (c.argTypes[0]?.bind O.ty) x = ax at he hvx
 generalize val s.get (c.argTypes[1]?.bind O.ty) y = ay at he hvy
 unfold appE at he
 split at he
 case h_2 => cases he
 rename_i own t q
 split at he
 case h_2 => cases he
 rename_i k N lo len
 split at he
 case h_2 => cases he
 rename_i γ n u l own2 hk
 split at he
 case isFalse => cases he
 rename_i hcond
 obtain ⟨hN, rfl, rfl, rfl, rfl, hu8⟩ := hcond
 split at he
 case h_2 => cases he
 rename_i own' t' m hrd
 simp only [Option.map_eq_some_iff] at he
 obtain ⟨b, hb, rfl⟩ := he
 simp only [VR] at hvx
 have hfine := hvx.fine
 obtain ⟨ad, cap, hvs, g1, g2, bl, γ2, n2, g3, g4, g5⟩ := hvx.sref
 have hkt : (rlOf w FB s (tmOf a) ι).kt k = some (ι k, .arr (γ + 1) 0 u) := by
  simp only [rlOf, ktOf, hk]; rfl
 rw [hkt] at g3
 simp only [Option.some.injEq, Prod.mk.injEq, Ty.arr.injEq] at g3
 obtain ⟨_, e1, e2, _⟩ := g3
 obtain rfl : γ = γ2 := by omega
 have hcap : cap = 0 := (g5 hN).2.1 e2.symm
 subst hcap
 simp only [appV] at hb
 split at hb
 ·rename_i ht
  subst ht
  split at hb
  ·rename_i hcond
   obtain ⟨hT, hU, _, hbig⟩ := hcond
   cases hb
   obtain ⟨T, hT1, hT⟩ := Option.bind_eq_some_iff.1 hT
   obtain ⟨U, hU1, hU⟩ := Option.bind_eq_some_iff.1 hU
   obtain ⟨D, hd, e', rfl, he', hz⟩ := (hO.ty T _ hT).und
   obtain ⟨D2, hd2, e2, rfl, he2, hz2⟩ := (hO.ty U _ hU).und
   obtain ⟨r1, r2⟩ := rd_ok (P := P) h hvy hz hrd
   have q1 : VT (rlOf w FB s (tmOf a) ι) (.slice t') ([] : List (den t')) (a.eval x) := by
    rw [hvs]
    refine ⟨by simpa [Ty.fine] using hfine, nofun, fun _ => rfl, rfl, ad, 0, 0, 0, fun _ _ => undef, ?_, Nat.le_refl _, fun _ => ⟨rfl, rfl⟩, fun q => absurd q (Nat.lt_irrefl _), fun i hi => absurd hi (Nat.not_lt_zero _), fun i hi => absurd hi (Nat.not_lt_zero _)⟩
    rw [cellsF_one (by simp)]; rfl
   have q2 : regAt (.slice t') (cellsF (a.eval x)) [] = none := by
    rw [hvs]
    unfold regAt
    simp only [pTy, pOff]
    rw [cellsF_one (by simp)]
    cases ad with
    | none => rfl
    | some x => simp [Roomy.ne hu8 (Nat.lt_irrefl 0)]
   obtain ⟨w', v', c1, c2, c3⟩ := append_ok hO h (ty := o.type) (src := none) (o.dst.getD s.env.length) hT (.inr ⟨_, hd2⟩) q1 (.inl ⟨rfl, q2⟩) (m := m) (vy := a.eval y) r1 r2 (row_one hz) hbig
   exact leaves_stp (by rw [hx, append_ts hT1 hU1]; simp only [Sem.run_bind, c1, Result.andThen_ok, Sem.run_pure]) c2 hl c3 (fun _ _ => ⟨rfl, rfl⟩) hn
  ·cases hb
 ·cases hb
theorem appM_exec (hO : OrcOK P O) {c : Call} {x y : Operand} (hop : o.op = .call c) (hc : c.callee = .builtin .append) (hxy : c.args.toList = [x, y]) : OpMOK P O tk o := by
 intro FB w s ι a r Q next h hl he hn
 simp only [execM, hop, hc, hxy] at he
 split at he
 case isFalse => exact appR_exec hO hop hc hxy h hl he hn
 split at he
 case isTrue => exact appE_exec hO hop hc hxy h hl he hn
 have hx : execOp a.eval o = (do pure (.value (← Builtin.append_ c.argTypes o.type #[a.eval x, a.eval y]))) := by rw [ofValue_builtin hop hc, args2 hxy]; rfl
 have hvx := val_ok (slots_of h) (c.argTypes[0]?.bind O.ty) (bind_fine hO) x
 have hvy := val_ok (slots_of h) (c.argTypes[1]?.bind O.ty) (bind_fine hO) y
 generalize val s.get (c.argTypes[0]?.bind O.ty) x = ax at he hvx
 generalize val s.get (c.argTypes[1]?.bind O.ty) y = ay at he hvy
 unfold appM at he
 split at he
 ·rename_i own t q
  split at he
  ·rename_i own' t' m hrd
   split at he
   ·rename_i ht
    subst ht
    split at he
    ·rename_i hTU
     obtain ⟨hT, hU⟩ := hTU
     unfold appVec at he
     split at he
     ·rename_i k N lo len
      split at he
      ·rename_i γ n u l own2 hk
       split at he
       ·rename_i hu
        subst hu
        split at he
        ·rename_i hcond
         obtain ⟨hN, rfl, hle, hm, hbig⟩ := hcond
         cases he
         obtain ⟨T, hT1, hT⟩ := bind_slTy hT
         obtain ⟨U, hU1, hU⟩ := bind_slTy hU
         obtain ⟨e, hd, hte, hz, _, _⟩ := slTy_und hO.ty hT
         obtain ⟨e2, hd2, _⟩ := slTy_und hO.ty hU
         simp only [VR] at hvx
         obtain ⟨r1, r2⟩ := rd_ok (P := P) h hvy hz hrd
         obtain ⟨w', v', b', c1, c2, c3, c4⟩ := appVec_ok hO h (T := T) (U := U) (ty := o.type) (o.dst.getD s.env.length) hk hN hle hm hbig hd hte (.inr ⟨_, hd2⟩) hvx r1 r2 (row_one hz)
         refine leaves_stpG (by rw [hx, append_ts hT1 hU1]; simp only [Sem.run_bind, c1, Result.andThen_ok, Sem.run_pure]) c3 hl c4 (fun q _ => ?_) hn
         show KGo _ _ (look (over s.heap k _) q) _
         rw [look_over, hk]
         by_cases e : q = k
         ·subst e
          simp only [if_true, hk, Option.map_some]
          exact c2
         ·simp only [if_neg e]
          exact KGo.of ⟨rfl, rfl⟩
        ·cases he
       ·cases he
      ·cases he
     ·cases he
    ·cases he
   ·cases he
  ·cases he
 ·cases he
theorem nilCmp_exec (hO : OrcOK P O) {op : BinOp} {T U : TypeId} {x y : Operand} (hop : o.op = .binOp op T x y U) : OpMOK P O tk o := by
 intro FB w s ι a r Q next h hl he hn
 simp only [execM, hop] at he
 have hv := val_ok (slots_of h) (O.ty T) (ty_fine hO) x
 generalize val s.get (O.ty T) x = ax at he hv
 unfold nilCmp at he
 split at he
 ·split at he
  ·rename_i own t x'
   rcases x' with _ | ⟨k, N, lo, len⟩
   ·cases he
   ·simp only at he
    split at he
    ·rename_i hc
     obtain ⟨hT, hlen⟩ := hc
     obtain ⟨e, hu, _⟩ := slTy_und hO.ty hT
     simp only [VR] at hv
     obtain ⟨ad, cap, hvx, g1, g2, _⟩ := hv.sref
     have had : ad.isNone = false := by
      cases ad with
      | none => have := g2 rfl; omega
      | some _ => rfl
     have hg : ∀ op', (eqGuard op' T x (.const (.slice none 0 0)) (.slice ad len cap) (.slice none 0 0)).run P w = .ok () w := fun op' => eqGuard_skip (by simp) (.inr (by simp))
     have he1 : (Op.equal T (.slice ad len cap) (.slice none 0 0)).run P w = .ok false w := by
      have key : ∀ n : Nat, (Op.equalIn (n + 1) T (.slice ad len cap) (.slice none 0 0)).run P w = .ok false w := by
       intro n
       cases ad with
       | none => cases had
       | some _ => simp [Op.equalIn, run_und hu]
      exact key 9999
     split at he
     ·cases he
      have hx : execOp a.eval o = (do pure (.value (← (do eqGuard .eql T x (.const (.slice none 0 0)) (a.eval x) (a.eval (.const (.slice none 0 0))); binOp .eql T (a.eval x) (a.eval (.const (.slice none 0 0))))))) := by simp only [execOp, hop]
      refine leaves_gives h hl hx (Gives.of (v := .bool false) ?_ (by simp only [VR]; exact VT.ofBool _) rfl) hn
      rw [hvx]
      show (do eqGuard .eql T x (.const (.slice none 0 0)) (.slice ad len cap) (.slice none 0 0); binOp .eql T (.slice ad len cap) (.slice none 0 0)).run P w = _
      simp only [Sem.run_bind, hg, Result.andThen_ok]
      simp [binOp, he1]
     ·cases he
      have hx : execOp a.eval o = (do pure (.value (← (do eqGuard .neq T x (.const (.slice none 0 0)) (a.eval x) (a.eval (.const (.slice none 0 0))); binOp .neq T (a.eval x) (a.eval (.const (.slice none 0 0))))))) := by simp only [execOp, hop]
      refine leaves_gives h hl hx (Gives.of (v := .bool true) ?_ (by simp only [VR]; exact VT.ofBool _) rfl) hn
      rw [hvx]
      show (do eqGuard .neq T x (.const (.slice none 0 0)) (.slice ad len cap) (.slice none 0 0); binOp .neq T (.slice ad len cap) (.slice none 0 0)).run P w = _
      simp only [Sem.run_bind, hg, Result.andThen_ok]
      simp [binOp, he1]
     ·cases he
    ·cases he
  ·rename_i own t l
   split at he
   ·rename_i hc
    obtain ⟨hT, hlen⟩ := hc
    obtain ⟨D, hu, e, rfl, _⟩ := (hO.ty T _ hT).und
    simp only [VR] at hv
    obtain ⟨ad, cap, b, off, us, hvx, g1, g2, g3, _⟩ := hv.slice
    have had : ad.isNone = false := by rw [g3 hlen]; rfl
    have hg : ∀ op', (eqGuard op' T x (.const (.slice none 0 0)) (.slice ad (List.length l) cap) (.slice none 0 0)).run P w = .ok () w := fun op' => eqGuard_skip (by simp) (.inr (by simp))
    have he1 : (Op.equal T (.slice ad (List.length l) cap) (.slice none 0 0)).run P w = .ok false w := by
     have key : ∀ n : Nat, (Op.equalIn (n + 1) T (.slice ad (List.length l) cap) (.slice none 0 0)).run P w = .ok false w := by
      intro n
      cases ad with
      | none => cases had
      | some _ => simp [Op.equalIn, run_und hu]
     exact key 9999
    split at he
    ·cases he
     have hx : execOp a.eval o = (do pure (.value (← (do eqGuard .eql T x (.const (.slice none 0 0)) (a.eval x) (a.eval (.const (.slice none 0 0))); binOp .eql T (a.eval x) (a.eval (.const (.slice none 0 0))))))) := by simp only [execOp, hop]
     refine leaves_gives h hl hx (Gives.of (v := .bool false) ?_ (by simp only [VR]; exact VT.ofBool _) rfl) hn
     rw [hvx]
     show (do eqGuard .eql T x (.const (.slice none 0 0)) (.slice ad (List.length l) cap) (.slice none 0 0); binOp .eql T (.slice ad (List.length l) cap) (.slice none 0 0)).run P w = _
     simp only [Sem.run_bind, hg, Result.andThen_ok]
     simp [binOp, he1]
    ·cases he
     have hx : execOp a.eval o = (do pure (.value (← (do eqGuard .neq T x (.const (.slice none 0 0)) (a.eval x) (a.eval (.const (.slice none 0 0))); binOp .neq T (a.eval x) (a.eval (.const (.slice none 0 0))))))) := by simp only [execOp, hop]
     refine leaves_gives h hl hx (Gives.of (v := .bool true) ?_ (by simp only [VR]; exact VT.ofBool _) rfl) hn
     rw [hvx]
     show (do eqGuard .neq T x (.const (.slice none 0 0)) (.slice ad (List.length l) cap) (.slice none 0 0); binOp .neq T (.slice ad (List.length l) cap) (.slice none 0 0)).run P w = _
     simp only [Sem.run_bind, hg, Result.andThen_ok]
     simp [binOp, he1]
    ·cases he
   ·cases he
  ·cases he
 ·cases he
end Go.Am
namespace Go.Am
variable {tk : Bool}
variable {P : Program} {O : Orc} {FB : Nat → Nat → Prop} {w w' : World} {s : St} {tm : Nat → Value} {ι : Key → Nat} {o : Oper} {a : Act} {r : Res} {call : CallF} {draw : Bool} {f : FuncId} {rid i : Nat}
variable {Q : Exit → Act → World → Prop} {next : Act → World → Prop}
theorem asD_some {t : Ty} {d : Dat} {x : den t} (h : asD t d = some x) : d = ⟨t, x⟩ := by
 unfold asD at h
 split at h
 ·rename_i e
  obtain ⟨u, y⟩ := d
  simp only at e h
  subst e
  cases h; rfl
 ·cases h
theorem asT_VT {R : Rl} {t : Ty} {b : AV} {x : den t} {v : Value} (h : asT t b = some x) (hv : VR R O b v) : VT R t x v := by
 unfold asT at h
 split at h
 ·split at h
  ·rename_i e
   subst e
   cases h
   simpa only [VR] using hv
  ·cases h
 ·cases h
def Ents (R : Rl) (a c : Ty) (l : List (den a × den c)) (es : List MapEntry) : Prop := es.length = l.length ∧ ∀ i (h : i < es.length), VT R a (l.getD i (zero a, zero c)).1 es[i].key ∧ VT R c (l.getD i (zero a, zero c)).2 es[i].val
theorem Ents.cons {R : Rl} {a c : Ty} {p : den a × den c} {l : List (den a × den c)} {e : MapEntry} {es : List MapEntry} : Ents R a c (p :: l) (e :: es) ↔ (VT R a p.1 e.key ∧ VT R c p.2 e.val) ∧ Ents R a c l es := by
 constructor
 ·rintro ⟨h1, h2⟩
  refine ⟨h2 0 (by simp), by simpa using h1, fun i h => ?_⟩
  have := h2 (i + 1) (by simpa using h)
  simpa using this
 ·rintro ⟨h0, h1, h2⟩
  refine ⟨by simpa using h1, fun i h => ?_⟩
  cases i with
  | zero => exact h0
  | succ i =>
   have := h2 i (by simpa using h)
   simpa using this
theorem Ents.nil {R : Rl} {a c : Ty} {l : List (den a × den c)} : Ents R a c l [] ↔ l = [] := by
 constructor
 ·rintro ⟨h1, _⟩; exact List.length_eq_zero_iff.1 h1.symm
 ·rintro rfl; exact ⟨rfl, fun i h => by simp at h⟩
theorem same_int {R : Rl} {k : IntKind} {x y : Int} {v u : Value} (hx : VT R (.int k) x v) (hy : VT R (.int k) y u) : Instr.sameNow (.int k) v u = some (decide (x = y)) := by
 rw [hx.int, hy.int]; simp only [Instr.sameNow, if_true]; exact congrArg some (beq_dec x y)
theorem bytes_beqI {x y : List Int} (hx : ∀ z ∈ x, isByte z) (hy : ∀ z ∈ y, isByte z) : (bytesOf x == bytesOf y) = decide (x = y) := by
 have h1 : (bytesOf x == bytesOf y) = ((bytesOf x).data == (bytesOf y).data) := rfl
 rw [h1]
 unfold bytesOf
 simp only
 rw [Bool.eq_iff_iff, decide_eq_true_iff, beq_iff_eq]
 exact ⟨fun h => bytesOf_inj hx hy (by simpa using congrArg Array.toList h), fun h => by rw [h]⟩
theorem same_str {R : Rl} {x y : List Int} {v u : Value} (hx : VT R .str x v) (hy : VT R .str y u) : Instr.sameNow .string v u = some (decide (x = y)) := by
 rw [hx.str.1, hy.str.1]
 simp only [Instr.sameNow, Option.some.injEq]
 exact bytes_beqI hx.str.2 hy.str.2
def mfindI {α β : Type} [DecidableEq α] : List (α × β) → α → Nat → Option (Nat × β)
 | [], _, _ => none
 | (a, b) :: l, k, i => if k = a then some (i, b) else mfindI l k (i + 1)
theorem mget_find {α β : Type} [DecidableEq α] (z : β) (k : α) : ∀ (l : List (α × β)) (i : Nat), Pr.mget l k z = ((mfindI l k i).map (·.2)).getD z ∧ Pr.mhas l k = (mfindI l k i).isSome
 | [], i => ⟨rfl, rfl⟩
 | (a, b) :: l, i => by
  simp only [Pr.mget, Pr.mhas, mfindI]
  by_cases e : k = a
  ·simp [e]
  ·simp only [if_neg e]; exact mget_find z k l (i + 1)
theorem mset_find {α β : Type} [DecidableEq α] (k : α) (v : β) : ∀ (l : List (α × β)) (i : Nat), Pr.mset l k v = match mfindI l k i with
  | some (j, _) => l.modify (j - i) fun p => (p.1, v)
  | none => l ++ [(k, v)]
 | [], i => rfl
 | (a, b) :: l, i => by
  simp only [Pr.mset, mfindI]
  by_cases e : k = a
  ·simp [e]
  ·simp only [if_neg e]
   rw [mset_find k v l (i + 1)]
   cases h : mfindI l k (i + 1) with
   | none => simp
   | some q =>
    obtain ⟨j, b'⟩ := q
    have hj : ∀ (l : List (α × β)) (i j : Nat) (b : β), mfindI l k i = some (j, b) → i ≤ j := by
     intro l
     induction l with
     | nil => intro i j b h; cases h
     | cons p l ih =>
      obtain ⟨a, b0⟩ := p
      intro i j b h
      simp only [mfindI] at h
      split at h
      ·cases h; exact Nat.le_refl _
      ·have := ih _ _ _ h; omega
    have := hj _ _ _ _ h
    simp only
    rw [show j - i = (j - (i + 1)) + 1 by omega]
    rfl
theorem find_ents {R : Rl} {a c : Ty} {D : TypeDesc} [DecidableEq (den a)] (hs : ∀ (x y : den a) (v u : Value), VT R a x v → VT R a y u → Instr.sameNow D v u = some (decide (x = y))) {k : den a} {vk : Value} (hk : VT R a k vk) :
  ∀ (l : List (den a × den c)) (es : List MapEntry) (i : Nat), Ents R a c l es → ∃ r, Instr.findNow D vk es i = some r ∧ (match mfindI l k i, r with
   | none, none => True
   | some (j, b), some (j', v) => j = j' ∧ VT R c b v
   | _, _ => False) ∧ (∀ j v, r = some (j, v) → i ≤ j ∧ j < i + es.length ∧ ∀ e, es[j - i]? = some e → VT R a k e.key)
 | [], [], i, _ => ⟨none, rfl, trivial, nofun⟩
 | [], e :: es, i, h => by have := h.1; simp at this
 | p :: l, [], i, h => by have := h.1; simp at this
 | (x, y) :: l, e :: es, i, h => by
  obtain ⟨⟨h1, h2⟩, h3⟩ := Ents.cons.1 h
  simp only at h1 h2
  simp only [Instr.findNow, hs k x vk e.key hk h1, mfindI]
  by_cases hx : k = x
  ·subst hx
   refine ⟨some (i, e.val), by simp, by simp [h2], fun j v hj => ?_⟩
   cases hj
   refine ⟨Nat.le_refl _, by simp, fun e' he => ?_⟩
   simp only [Nat.sub_self, List.getElem?_cons_zero, Option.some.injEq] at he
   subst he; exact h1
  ·obtain ⟨r, r1, r2, r3⟩ := find_ents hs hk l es (i + 1) h3
   refine ⟨r, by simp [hx, r1], by simpa [hx] using r2, fun j v hj => ?_⟩
   obtain ⟨q1, q2, q3⟩ := r3 j v hj
   refine ⟨by omega, by simp only [List.length_cons]; omega, fun e' he => ?_⟩
   rw [show j - i = (j - (i + 1)) + 1 by omega, List.getElem?_cons_succ] at he
   exact q3 e' he
theorem Rel.mapobj (h : Rel O FB w s tm ι) {k : Key} {a c : Ty} (hf : (Ty.mp a c).fine = true) (hk : look s.heap k = none) :
  Stp O FB w s tm ι (w.alloc (.map #[] 0)) ⟨s.env, (k, ⟨⟨.mp a c, ([] : List (den a × den c))⟩, []⟩) :: s.heap⟩ tm (fun q => if q = k then w.heap.size else ι q) := by
 have hsz := alloc_size w (.map #[] 0)
 have hnw := alloc_new w (.map #[] 0)
 have hne : ∀ q o, look s.heap q = some o → q ≠ k := fun q o hq e => by subst e; rw [hk] at hq; cases hq
 have hown' : ∀ l x, owns (w.alloc (.map #[] 0)) ⟨s.env, (k, ⟨⟨.mp a c, ([] : List (den a × den c))⟩, []⟩) :: s.heap⟩ tm (fun q => if q = k then w.heap.size else ι q) l = some x → (l = .ob k ∧ x = (w.heap.size, 0)) ∨ (l ≠ .ob k ∧ owns w s tm ι l = some x) := by
  intro l x hl
  cases l with
  | sl i p => exact .inr ⟨by simp, hl⟩
  | fd q p =>
   simp only [owns, look_cons] at hl ⊢
   by_cases e : q = k
   ·subst e; simp at hl
   ·simp only [if_neg e] at hl
    refine .inr ⟨by simp, ?_⟩
    cases hq : look s.heap q with
    | none => rw [hq] at hl; cases hl
    | some o => rw [hq] at hl; simp only [(h.ob q o hq).2.sameF (alloc_heap w _)] at hl; exact hl
  | ob q =>
   simp only [owns, look_cons] at hl ⊢
   by_cases e : q = k
   ·subst e
    simp only [if_true, Ty.ghost, Bool.false_eq_true, if_false, Option.some.injEq] at hl
    exact .inl ⟨rfl, hl.symm⟩
   ·simp only [if_neg e] at hl
    exact .inr ⟨by simpa using e, hl⟩
 have hrm : ∀ b i, b < w.heap.size → ((w.alloc (.map #[] 0)).cell? ⟨b, i, none⟩).isSome = (w.cell? ⟨b, i, none⟩).isSome ∧ (w.alloc (.map #[] 0)).frozen? ⟨b, i, none⟩ = w.frozen? ⟨b, i, none⟩ ∧ (w.alloc (.map #[] 0)).shape? b = w.shape? b :=
  fun b i hb => ⟨by rw [alloc_cell w _ b i hb], alloc_frozen w _ b i hb, alloc_shape w _ b hb⟩
 have hkt : ∀ q x, (rlOf w FB s tm ι).kt q = some x → KtGo (rlOf w FB s tm ι) (rlOf (w.alloc (.map #[] 0)) FB ⟨s.env, (k, ⟨⟨.mp a c, ([] : List (den a × den c))⟩, []⟩) :: s.heap⟩ tm (fun q => if q = k then w.heap.size else ι q)) q x := by
  intro q x hq
  refine .of ?_ fun _ => Ext.keep hrm
  simp only [rlOf, ktOf, look_cons] at hq ⊢
  cases hl : look s.heap q with
  | none => rw [hl] at hq; cases hq
  | some o => rw [if_neg (hne q o hl), if_neg (hne q o hl)]; rw [hl] at hq; exact hq
 refine h.step (by omega) (fun b i hp => alloc_cell w _ b i hp.1) (fun l b lo hl => ?_) (fun l l' b lo lo' h1 h2 => ?_) (fun hc i => (h.vr i).le ⟨hc, hkt⟩) (fun hc q o hq => ?_)
  (fun i own t x e p hp => room_same hrm (by omega) (h.rs i own t x e p hp)) (fun q o hq p hp => ?_)
 ·rcases hown' l _ hl with ⟨rfl, e⟩ | ⟨_, e⟩
  ·simp only [Prod.mk.injEq] at e; exact .inr (by omega)
  ·exact .inl ⟨l, lo, e, Nat.le_refl _⟩
 ·rcases hown' l _ h1 with ⟨rfl, e1⟩ | ⟨n1, e1⟩ <;> rcases hown' l' _ h2 with ⟨rfl, e2⟩ | ⟨n2, e2⟩
  ·rfl
  ·have := h.own_lt e2; simp only [Prod.mk.injEq] at e1; omega
  ·have := h.own_lt e1; simp only [Prod.mk.injEq] at e2; omega
  ·exact h.dj l l' b lo lo' e1 e2
 ·simp only [look_cons] at hq
  by_cases e : q = k
  ·subst e
   simp only [if_true, Option.some.injEq] at hq
   subst hq
   exact ⟨hf, .inl ⟨#[], 0, by simp only [if_true]; exact hnw, rfl, fun i hi => by simp at hi⟩⟩
  ·rw [if_neg e] at hq
   obtain ⟨h1, h2⟩ := h.ob q o hq
   refine ⟨h1, ?_⟩
   simp only [if_neg e]
   exact h2.keep ⟨hc, hkt⟩ h1 fun hg => alloc_heap w _ _ (h2.lt hg)
 ·simp only [look_cons] at hq
  by_cases e : q = k
  ·subst e
   simp only [if_true, Option.some.injEq] at hq
   subst hq
   cases hp
  ·rw [if_neg e] at hq
   simp only [if_neg e]
   exact (h.ob q o hq).2.sameR (alloc_heap w _) (room_same hrm (by omega) (h.rf q o hq p hp))
theorem Rel.mapset (h : Rel O FB w s tm ι) {k : Key} {a c : Ty} {x y : List (den a × den c)} {own : List (List Nat)} {w' : World} {es0 es : Array MapEntry} {n0 n : Nat} (hk : look s.heap k = some ⟨⟨.mp a c, x⟩, own⟩)
  (h0 : w.heap[ι k]? = some (.map es0 n0)) (hsz : w'.heap.size = w.heap.size) (hoth : ∀ b, b ≠ ι k → w'.heap[b]? = w.heap[b]?) (h1 : w'.heap[ι k]? = some (.map es n)) (he : Ents (rlOf w FB s tm ι) a c y es.toList) :
  Stp O FB w s tm ι w' ⟨s.env, over s.heap k ⟨⟨.mp a c, y⟩, []⟩⟩ tm ι := by
 have hob := h.ob k _ hk
 have hlk : ∀ q, look (over s.heap k ⟨⟨.mp a c, y⟩, []⟩) q = if q = k then some ⟨⟨.mp a c, y⟩, []⟩ else look s.heap q := by
  intro q; rw [look_over, hk]; rfl
 have hcell : ∀ b o, w'.cell? ⟨b, o, none⟩ = w.cell? ⟨b, o, none⟩ := by
  intro b o
  unfold World.cell?
  by_cases e : b = ι k
  ·subst e; simp only [h0, h1]
  ·simp only [hoth b e]
 have hfz : ∀ b o, w'.frozen? ⟨b, o, none⟩ = w.frozen? ⟨b, o, none⟩ := by
  intro b o
  unfold World.frozen?
  by_cases e : b = ι k
  ·subst e; simp only [h0, h1]
  ·simp only [hoth b e]
 have hbf : ∀ b, blockF w' b = blockF w b := by
  intro b; funext j; unfold blockF
  by_cases e : b = ι k
  ·subst e; simp only [h0, h1]
  ·rw [hoth b e]
 have hrm : ∀ b o, b < w.heap.size → (w'.cell? ⟨b, o, none⟩).isSome = (w.cell? ⟨b, o, none⟩).isSome ∧ w'.frozen? ⟨b, o, none⟩ = w.frozen? ⟨b, o, none⟩ ∧ w'.shape? b = w.shape? b := fun b o _ => ⟨by rw [hcell], hfz b o, by
  unfold World.shape?
  by_cases e : b = ι k
  ·subst e; simp only [h0, h1]
  ·rw [hoth b e]⟩
 have hown' : ∀ lc z, owns w' ⟨s.env, over s.heap k ⟨⟨.mp a c, y⟩, []⟩⟩ tm ι lc = some z → owns w s tm ι lc = some z := by
  intro lc z hl
  cases lc with
  | sl i p => exact hl
  | fd q p =>
   simp only [owns, hlk, hbf] at hl ⊢
   by_cases e : q = k
   ·subst e; simp at hl
   ·simpa only [if_neg e] using hl
  | ob q =>
   simp only [owns, hlk] at hl ⊢
   by_cases e : q = k
   ·subst e; simp only [if_true] at hl; rw [hk]; exact hl
   ·simpa only [if_neg e] using hl
 have hkt : ∀ q z, (rlOf w FB s tm ι).kt q = some z → KtGo (rlOf w FB s tm ι) (rlOf w' FB ⟨s.env, over s.heap k ⟨⟨.mp a c, y⟩, []⟩⟩ tm ι) q z := by
  intro q z hq
  refine .of ?_ fun _ => Ext.keep hrm
  simp only [rlOf, ktOf, hlk] at hq ⊢
  by_cases e : q = k
  ·subst e; rw [hk] at hq; simpa using hq
  ·rw [if_neg e]; exact hq
 refine h.step (Nat.le_of_eq hsz.symm) (fun b i _ => hcell b i) (fun l b lo hl => .inl ⟨l, lo, hown' l _ hl, Nat.le_refl _⟩) (fun l l' b lo lo' h1 h2 => h.dj l l' b lo lo' (hown' l _ h1) (hown' l' _ h2)) (fun hc i => (h.vr i).le ⟨hc, hkt⟩) (fun hc q o hq => ?_)
  (fun i own t x e p hp => room_same hrm (Nat.le_of_eq hsz.symm) (h.rs i own t x e p hp)) (fun q o hq p hp => ?_)
 ·rw [hlk] at hq
  by_cases e : q = k
  ·subst e
   simp only [if_true, Option.some.injEq] at hq
   subst hq
   have hm : MapAt (rlOf w FB s tm ι) w' (ι q) (.mp a c) y := ⟨es, n, h1, by simpa using he.1, fun i hi => by have := he.2 i (by simpa using hi); simpa using this⟩
   exact ⟨hob.1, .inl (hm.keep hc rfl hob.1)⟩
  ·rw [if_neg e] at hq
   obtain ⟨g1, g2⟩ := h.ob q o hq
   refine ⟨g1, g2.keep ⟨hc, hkt⟩ g1 fun hg => hoth _ fun e2 => ?_⟩
   have e3 : owns w s tm ι (.ob q) = some (ι q, 0) := by simp [owns, hq, hg]
   have e4 : owns w s tm ι (.ob k) = some (ι q, 0) := by simp [owns, hk, Ty.ghost, e2]
   have := h.dj _ _ _ _ _ e3 e4
   simp only [Loc.ob.injEq] at this
   exact e this
 ·rw [hlk] at hq
  by_cases e : q = k
  ·subst e
   simp only [if_true, Option.some.injEq] at hq
   subst hq
   cases hp
  ·rw [if_neg e] at hq
   rw [hbf]
   exact room_same hrm (Nat.le_of_eq hsz.symm) (h.rf q o hq p hp)
end Go.Am
namespace Go.Am
open Go.MapKept
variable {tk : Bool}
variable {P : Program} {O : Orc} {FB : Nat → Nat → Prop} {w w' : World} {s : St} {tm : Nat → Value} {ι : Key → Nat} {o : Oper} {a : Act} {r : Res} {call : CallF} {draw : Bool} {f : FuncId} {rid i : Nat}
variable {Q : Exit → Act → World → Prop} {next : Act → World → Prop}
theorem VT.mref {R : Rl} {u v : Ty} {x : Option Key} {y : Value} (h : VT R (.mref u v) x y) : match x with
  | none => y = .map none
  | some k => ∃ b, R.kt k = some (b, .mp u v) ∧ y = .map (some b) := by
 have h1 := h.one rfl
 have h2 := h.rv
 cases x with
 | none =>
  simp only [RV, cellsF, h1] at h2
  simpa using h2
 | some k =>
  simp only [RV, cellsF, h1] at h2
  obtain ⟨b, h3, h4⟩ := h2
  exact ⟨b, h3, by simpa using h4⟩
theorem mapAV_VR {R : Rl} {c : Ty} {x : den c} {v : Value} (h : VT R c x v) : VR R O (mapAV c x) v ∧ (mapAV c x).own = [] := by
 cases c with
 | fnc =>
  cases x with
  | none => exact ⟨by simpa only [mapAV, VR] using h, rfl⟩
  | some f =>
   have h1 := h.one rfl
   have h2 := h.rv
   simp only [RV, cellsF, h1] at h2
   refine ⟨?_, rfl⟩
   simp only [mapAV, VR]
   exact ⟨#[], #[], by simpa using h2, rfl, rfl⟩
 | _ => exact ⟨by simpa only [mapAV, VR] using h, rfl⟩
theorem mapRd_ok (h : Rel O FB w s tm ι) {a c : Ty} {x : Option Key} {l : List (den a × den c)} {v : Value} (hv : VT (rlOf w FB s tm ι) (.mref a c) x v) (hl : mapRd s.heap a c x = some l) :
  (v = .map none ∧ l = []) ∨ ∃ b es n, v = .map (some b) ∧ w.heap[b]? = some (.map es n) ∧ Ents (rlOf w FB s tm ι) a c l es.toList := by
 have hm := hv.mref
 cases x with
 | none =>
  simp only [mapRd, Option.some.injEq] at hl
  exact .inl ⟨hm, hl.symm⟩
 | some k =>
  simp only [mapRd, Option.bind_eq_some_iff] at hl
  obtain ⟨b0, hb, hd⟩ := hl
  have hd := asD_some hd
  obtain ⟨b, h1, h2⟩ := hm
  have hob := (h.ob k b0 hb).2
  rw [hd] at hob
  have e : ι k = b := by
   simp only [rlOf, ktOf, hb, Option.map_some, Option.some.injEq, Prod.mk.injEq] at h1
   exact h1.1
  subst e
  rcases hob with ⟨es, n, g1, g2, g3⟩ | ⟨g, _⟩ | ⟨_, _, _, _, _, g⟩
  ·exact .inr ⟨_, es, n, h2, g1, by simpa using g2, fun i hi => by have := g3 i (by simpa using hi); simpa using this⟩
  ·cases g
  ·exact g.elim
structure KeyOK (P : Program) (O : Orc) (T : TypeId) (t : Ty) (R : Rl) (dq : DecidableEq (den t)) where
 D : TypeDesc
 und : P.underlying T = some D
 same : ∀ (x y : den t) (v u : Value), VT R t x v → VT R t y u → Instr.sameNow D v u = some (decide (x = y))
 key : ∀ (x : den t) (v : Value), VT R t x v → IsKey D v
 bits : ∀ (x : den t) (v u : Value), VT R t x v → VT R t x u → v = u
theorem keyInt (hO : OrcOK P O) {T : TypeId} {k : IntKind} (hT : O.ty T = some (.int k)) (R : Rl) : ∃ K : KeyOK P O T (.int k) R (inferInstanceAs (DecidableEq Int)), True := by
 obtain ⟨d, hd, rfl⟩ := (hO.ty T _ hT).und
 exact ⟨⟨_, hd, fun x y v u h1 h2 => same_int h1 h2, fun x v h => by rw [h.int]; rfl, fun x v u h1 h2 => by rw [h1.int, h2.int]⟩, trivial⟩
theorem keyStr (hO : OrcOK P O) {T : TypeId} (hT : O.ty T = some .str) (R : Rl) : ∃ K : KeyOK P O T .str R (inferInstanceAs (DecidableEq (List Int))), True := by
 obtain ⟨d, hd, rfl⟩ := (hO.ty T _ hT).und
 exact ⟨⟨_, hd, fun x y v u h1 h2 => same_str h1 h2, fun x v h => by rw [h.str.1]; trivial, fun x v u h1 h2 => by rw [h1.str.1, h2.str.1]⟩, trivial⟩
theorem look_gen (hO : OrcOK P O) {R : Rl} {T kt et : TypeId} {t c : Ty} {dq : DecidableEq (den t)} (K : KeyOK P O kt t R dq) (hu : P.underlying T = some (.map kt et)) (hc : O.ty et = some c) {l : List (den t × den c)} {vx vk : Value} {k : den t} (hk : VT R t k vk)
  (hx : (vx = .map none ∧ l = []) ∨ ∃ b es n, vx = .map (some b) ∧ w.heap[b]? = some (.map es n) ∧ Ents R t c l es.toList) (ok : Bool) :
  ∃ v, VT R c (Pr.mget l k (zero c)) v ∧ (Instr.lookup T vx vk ok).run P w = .ok (if ok then .tuple #[v, .bool (Pr.mhas l k)] else v) w := by
 have hz := VT.zero R (hO.ty et _ hc).fine (hO.ty et _ hc).hasZ
 rcases hx with ⟨rfl, rfl⟩ | ⟨b, es, n, rfl, h1, he⟩
 ·refine ⟨zeroVal c, hz, ?_⟩
  have r1 : Instr.findNow K.D vk [] 0 = some none := rfl
  simp only [Instr.lookup, Sem.run_bind, run_und hu, Result.andThen_ok, Sem.run_pure, run_checkKey K.und (K.key _ _ hk), run_findKey K.und r1, (hO.ty et _ hc).zeroValue, Pr.mhas]
 ·obtain ⟨r, r1, r2, _⟩ := find_ents K.same hk l es.toList 0 he
  obtain ⟨m1, m2⟩ := mget_find (zero c) k l 0
  simp only [Instr.lookup, Sem.run_bind, run_und hu, Result.andThen_ok, Go.MapKept.run_getObj_map h1, Sem.run_pure, run_checkKey K.und (K.key _ _ hk), run_findKey K.und r1]
  cases hm : mfindI l k 0 with
  | none =>
   rw [hm] at r2 m1 m2
   cases r with
   | none =>
    refine ⟨zeroVal c, by rw [m1]; exact hz, ?_⟩
    simp only [Sem.run_bind, (hO.ty et _ hc).zeroValue, Result.andThen_ok, Sem.run_pure, m2, Option.isSome_none]
   | some q => exact r2.elim
  | some q =>
   rw [hm] at r2 m1 m2
   cases r with
   | none => exact r2.elim
   | some q' =>
    obtain ⟨j, b⟩ := q
    obtain ⟨j', v⟩ := q'
    refine ⟨v, by rw [m1]; exact r2.2, ?_⟩
    simp only [Sem.run_bind, Result.andThen_ok, Sem.run_pure, m2, Option.isSome_some]
theorem lookup_exec (hO : OrcOK P O) {T : TypeId} {x k : Operand} {ok : Bool} (hop : o.op = .lookup T x k ok) : OpMOK P O tk o := by
 intro FB w s ι a r Q next h hl he hn
 simp only [execM, hop, Option.map_eq_some_iff] at he
 obtain ⟨b, hb, rfl⟩ := he
 unfold lookA at hb
 split at hb
 ·rename_i t c hT
  simp only [Option.bind_eq_some_iff, Option.map_eq_some_iff] at hb
  obtain ⟨rx, h1, l, h2, kk, h3, q, h4, rfl⟩ := hb
  rw [hT] at h1 h3
  have hvx := asT_VT h1 (val_ok (slots_of h) _ (fun u hu => by cases hu; exact (hO.ty T _ hT).fine) x)
  have hf := (hO.ty T _ hT).fine
  obtain ⟨D, hu, kt, et, rfl, hkt, het⟩ := (hO.ty T _ hT).und
  have hvk := asT_VT h3 (val_ok (slots_of h) _ (fun u hu => by simp only [Option.bind_some, mapKey, Option.some.injEq] at hu; subst hu; exact (hO.ty kt _ hkt).fine) k)
  have hx := mapRd_ok h hvx h2
  have main : ∃ v, VT (rlOf w FB s (tmOf a) ι) c q.1 v ∧ (Instr.lookup T (a.eval x) (a.eval k) ok).run P w = .ok (if ok then .tuple #[v, .bool q.2] else v) w := by
   cases t with
   | int kd =>
    simp only [mapGet, Option.some.injEq] at h4
    subst h4
    obtain ⟨K, _⟩ := keyInt hO hkt (rlOf w FB s (tmOf a) ι)
    exact look_gen hO K hu het hvk hx ok
   | str =>
    simp only [mapGet, Option.some.injEq] at h4
    subst h4
    obtain ⟨K, _⟩ := keyStr hO hkt (rlOf w FB s (tmOf a) ι)
    exact look_gen hO K hu het hvk hx ok
   | _ => simp [mapGet] at h4
  obtain ⟨v, m1, m2⟩ := main
  have hx : execOp a.eval o = (do pure (.value (← Instr.lookup T (a.eval x) (a.eval k) ok))) := by simp only [execOp, hop]
  cases ok with
  | true => exact leaves_gives h hl hx (Gives.of m2 (by simp only [if_true, VR, VRL]; exact ⟨_, rfl, _, _, rfl, m1, _, _, rfl, VT.ofBool _, rfl⟩) rfl) hn
  | false =>
   obtain ⟨g1, g2⟩ := mapAV_VR (O := O) m1
   exact leaves_gives h hl hx (Gives.of m2 g1 g2) hn
 ·cases hb
theorem makeMap_exec (hO : OrcOK P O) {T : TypeId} (hop : o.op = .makeMap T none) : OpMOK P O tk o := by
 intro FB w s ι a r Q next h hl he hn
 simp only [execM, hop] at he
 unfold mkMap at he
 split at he
 ·rename_i t c d hT hd
  split at he
  ·rename_i hc
   simp only [Bool.and_eq_true, Option.isNone_iff_eq_none] at hc
   cases he
   have hf := (hO.ty T _ hT).fine
   obtain ⟨D, hu, kt, et, rfl, hkt, het⟩ := (hO.ty T _ hT).und
   have hfm : (Ty.mp t c).fine = true := hc.2
   have h1 := h.mapobj hfm hc.1.1
   have h2 := h1.rel.set d (.tv [] (.mref t c) (some (d + 1, 0) : Option Key)) (.map (some w.heap.size)) (by
    simp only [VR]
    refine ⟨rfl, nofun, fun _ => rfl, rfl, w.heap.size, ?_, rfl⟩
    show ktOf (((d + 1, 0), _) :: s.heap) (fun q => if q = (d + 1, 0) then w.heap.size else ι q) (d + 1, 0) = _
    unfold ktOf
    rw [look_cons, if_pos rfl]
    simp) (fun own t x e p hp => by cases e; cases hp)
   refine leaves_stp (r := ⟨.tv [] (.mref t c) (some (d + 1, 0) : Option Key), none, ((d + 1, 0), ⟨⟨.mp t c, ([] : List (den t × den c))⟩, []⟩) :: s.heap⟩) (v := .map (some w.heap.size)) (w' := w.alloc (.map #[] 0)) (ι' := fun q => if q = (d + 1, 0) then w.heap.size else ι q) ?_ (h1.trans ?_) hl (hist_alloc _ ⟨rfl, rfl, rfl, rfl⟩ _) (fun k hk' => ?_) hn
   ·simp only [execOp, hop]
    rfl
   ·rw [hd]; exact h2
   ·have hne : k ≠ (d + 1, 0) := fun e => by rw [e] at hk'; simp at hk'
    refine ⟨?_, ?_⟩
    ·show (look (((d + 1, 0), _) :: s.heap) k).map _ = _
     rw [look_cons, if_neg hne]
    ·simp only [if_neg hne]
  ·cases he
 ·cases he
end Go.Am
namespace Go.Am
open Go.MapKept
variable {tk : Bool}
variable {P : Program} {O : Orc} {FB : Nat → Nat → Prop} {w w' : World} {s : St} {tm : Nat → Value} {ι : Key → Nat} {o : Oper} {a : Act} {r : Res} {call : CallF} {draw : Bool} {f : FuncId} {rid i : Nat}
variable {Q : Exit → Act → World → Prop} {next : Act → World → Prop}
theorem Ents.modify {R : Rl} {t c : Ty} {l : List (den t × den c)} {es : List MapEntry} {j : Nat} {v : den c} {k : Value} {u : Value} (h : Ents R t c l es) (hk : ∀ e, es[j]? = some e → e.key = k) (hv : VT R c v u) :
  Ents R t c (l.modify j fun p => (p.1, v)) (es.modify j fun e => { e with key := k, val := u }) := by
 refine ⟨by simp [h.1], fun i hi => ?_⟩
 have hi' : i < es.length := by simpa using hi
 have hil : i < l.length := by rw [← h.1]; exact hi'
 obtain ⟨h1, h2⟩ := h.2 i hi'
 have e1 : (l.modify j fun p => (p.1, v)).getD i (zero t, zero c) = if j = i then ((l.getD i (zero t, zero c)).1, v) else l.getD i (zero t, zero c) := by
  simp only [List.getD_eq_getElem?_getD, List.getElem?_modify, List.getElem?_eq_getElem hil]
  by_cases e : j = i <;> simp [e]
 rw [e1]
 simp only [List.getElem_modify]
 by_cases e : j = i
 ·subst e
  have := hk _ (List.getElem?_eq_getElem hi')
  simp only [if_true]
  exact ⟨by rw [← this]; exact h1, hv⟩
 ·simp only [if_neg e]; exact ⟨h1, h2⟩
theorem Ents.push {R : Rl} {t c : Ty} {l : List (den t × den c)} {es : List MapEntry} {k : den t} {v : den c} {vk u : Value} {n : Nat} (h : Ents R t c l es) (hk : VT R t k vk) (hv : VT R c v u) :
  Ents R t c (l ++ [(k, v)]) (es ++ [{ key := vk, val := u, born := n }]) := by
 refine ⟨by simp [h.1], fun i hi => ?_⟩
 by_cases e : i < es.length
 ·have hil : i < l.length := by rw [← h.1]; exact e
  have e1 : (l ++ [(k, v)]).getD i (zero t, zero c) = l.getD i (zero t, zero c) := by
   simp only [List.getD_eq_getElem?_getD]; rw [List.getElem?_append_left hil]
  rw [e1, List.getElem_append_left e]
  exact h.2 i e
 ·have hi' : i = es.length := by simp at hi; omega
  subst hi'
  have e1 : (l ++ [(k, v)]).getD es.length (zero t, zero c) = (k, v) := by
   simp only [List.getD_eq_getElem?_getD]; rw [List.getElem?_append_right (by rw [h.1]; exact Nat.le_refl _), h.1]; simp
  rw [e1]
  simp only [List.getElem_append_right (Nat.le_refl _), Nat.sub_self, List.getElem_cons_zero]
  exact ⟨hk, hv⟩
theorem sameBits_refl {n : Nat} {d : TypeDesc} {v : Value} (h : IsKey d v) : Instr.sameBits n v v = true := by
 cases v <;> first | (cases d <;> exact h.elim) | simp [Instr.sameBits, Go.MapKept.bytes_beq]
theorem mapPut_gen (hO : OrcOK P O) (h : Rel O FB w s tm ι) {T kt et : TypeId} {t c : Ty} {dq : DecidableEq (den t)} (K : KeyOK P O kt t (rlOf w FB s tm ι) dq) (hu : P.underlying T = some (.map kt et)) {q : Key} {own : List (List Nat)} {l : List (den t × den c)} {vx vk vv : Value} {k : den t} {v : den c}
    (hq : look s.heap q = some ⟨⟨.mp t c, l⟩, own⟩) (hx : VT (rlOf w FB s tm ι) (.mref t c) (some q : Option Key) vx) (hk : VT (rlOf w FB s tm ι) t k vk) (hv : VT (rlOf w FB s tm ι) c v vv) :
    ∃ w', (Instr.mapUpdate T vx vk vv).run P w = .ok () w' ∧ Stp O FB w s tm ι w' ⟨s.env, over s.heap q ⟨⟨.mp t c, Pr.mset l k v⟩, []⟩⟩ tm ι ∧ Hist (ownP w s tm ι) w w' := by
  have hl : mapRd s.heap t c (some q) = some l := by
    simp only [mapRd, hq, Option.bind_some, asD, dif_pos]
  rcases mapRd_ok h hx hl with ⟨rfl, _⟩ | ⟨b, es, n, rfl, h1, he⟩
  · obtain ⟨b, _, e⟩ := hx.mref; cases e
  · have hb : b = ι q := by
      obtain ⟨b', e1, e2⟩ := hx.mref
      cases e2
      simp only [rlOf, ktOf, hq, Option.map_some, Option.some.injEq, Prod.mk.injEq] at e1
      exact e1.1.symm
    subst hb
    obtain ⟨rr, r1, r2, r3⟩ := find_ents K.same hk l es.toList 0 he
    have hms := mset_find k v l 0
    have fin : ∀ (es' : Array MapEntry) (n' : Nat), Ents (rlOf w FB s tm ι) t c (Pr.mset l k v) es'.toList → (Instr.mapUpdate T (.map (some (ι q))) vk vv).run P w = .ok () { w with heap := w.heap.setIfInBounds (ι q) (.map es' n') } →
        ∃ w', (Instr.mapUpdate T (.map (some (ι q))) vk vv).run P w = .ok () w' ∧ Stp O FB w s tm ι w' ⟨s.env, over s.heap q ⟨⟨.mp t c, Pr.mset l k v⟩, []⟩⟩ tm ι ∧ Hist (ownP w s tm ι) w w' := by
      intro es' n' he' hr
      obtain ⟨g1, g2⟩ := heap_set (o' := .map es' n') h1
      refine ⟨_, hr, h.mapset hq h1 (by simp) (fun b hb => g2 b hb) g1 he', ⟨rfl, rfl, rfl, by simp, fun b hb hn => ?_, fun b lo hb _ i _ => ?_, fun b hb i => ?_⟩⟩
      · refine g2 b fun e => ?_
        subst e
        exact hn 0 ⟨.ob q, by simp [owns, hq, Ty.ghost]⟩
      · unfold World.cell?
        by_cases e : b = ι q
        · subst e; simp only [g1, h1]
        · simp only [g2 b e]
      · unfold World.cell? World.frozen?
        by_cases e : b = ι q
        · subst e; exact ⟨by simp only [g1, h1], .inl (by simp only [g1, h1])⟩
        · exact ⟨by simp only [g2 b e], .inl (by simp only [g2 b e])⟩
    cases hm : mfindI l k 0 with
    | none =>
      rw [hm] at r2 hms
      cases rr with
      | some _ => exact r2.elim
      | none =>
        refine fin (es.push { key := vk, val := vv, born := n }) (n + 1) ?_ ?_
        · rw [hms, Array.toList_push]; exact he.push hk hv
        · simp only [Instr.mapUpdate, Sem.run_bind, run_und hu, Result.andThen_ok, Go.MapKept.run_getObj_map h1, run_checkKey K.und (K.key _ _ hk), run_findKey K.und r1, run_setObj_map _ h1]
    | some p =>
      rw [hm] at r2 hms
      cases rr with
      | none => exact r2.elim
      | some p' =>
        obtain ⟨j, b⟩ := p
        obtain ⟨j', v'⟩ := p'
        obtain ⟨rfl, _⟩ := r2
        obtain ⟨_, q2, q3⟩ := r3 j v' rfl
        simp only [Nat.zero_add, Nat.sub_zero] at q2 q3 hms
        have hkey : ∀ e, es.toList[j]? = some e → e.key = vk := fun e h' => (K.bits _ _ _ hk (q3 e h')).symm
        have hgd : ((es[j]?).map (·.key)).getD vk = vk := by
          cases h' : es[j]? with
          | none => rfl
          | some e => exact hkey e (by simpa using h')
        refine fin (es.modify j fun e => { e with key := vk, val := vv }) n ?_ ?_
        · rw [hms, Array.toList_modify]; exact he.modify hkey hv
        · simp only [Instr.mapUpdate, Sem.run_bind, run_und hu, Result.andThen_ok, Go.MapKept.run_getObj_map h1, run_checkKey K.und (K.key _ _ hk), run_findKey K.und r1, Instr.keyThatStays, hgd, sameBits_refl (K.key _ _ hk), if_true, Sem.run_pure, run_setObj_map _ h1]
theorem leaves_skip {w' : World} {h' : Heap} (he : (execOp a.eval o).run P w = .ok .skip w') (hs : Stp O FB w s (tmOf a) ι w' ⟨s.env, h'⟩ (tmOf a) ι)
  (hl : s.env.length = a.tmps.size) (hh : Hist (ownP w s (tmOf a) ι) w w') (hk : ∀ k, k.1 = 0 → KGo (look s.heap k) (ι k) (look h' k) (ι k)) (hn : Leaves O FB w s ι a (s.app o.dst ⟨.no, none, h'⟩) next) : o.wp P a w next Q := by
 have s2 := hs.rel.set (o.dst.getD s.env.length) .no undef rfl nofun
 unfold Oper.wp
 rw [he]
 refine hn _ _ ι (put_defers' _ _ _) (put_size _ _ _) ⟨?_, hh, fun q hq => ?_⟩
 ·rw [app_eq, put_eq, ← hl]; exact hs.trans s2
 ·rw [app_eq]; exact hk q hq
theorem mapUpd_exec (hO : OrcOK P O) {T : TypeId} {m k x : Operand} (hop : o.op = .mapUpdate T m k x ∨ o.op = .insert T m k x) : OpMOK P O tk o := by
 intro FB w s ι a r Q next h hl he hn
 have he' : (mapUpd (O.ty T) s.heap (val s.get (O.ty T) m) (val s.get ((O.ty T).bind mapKey) k) (val s.get ((O.ty T).bind mapVal) x)).map (fun h' => (⟨.no, none, h'⟩ : Res)) = some r := by
  rcases hop with hop | hop <;> simpa only [execM, hop] using he
 have hx0 : execOp a.eval o = (do Instr.mapUpdate T (a.eval m) (a.eval k) (a.eval x); pure .skip) := by
  rcases hop with hop | hop <;> simp only [execOp, hop]
 simp only [Option.map_eq_some_iff] at he'
 obtain ⟨h', hm, rfl⟩ := he'
 unfold mapUpd at hm
 split at hm
 ·rename_i t c hT
  simp only [Option.bind_eq_some_iff] at hm
  obtain ⟨rx, h1, kk, h2, d, h3, v, h4, h5⟩ := hm
  rw [hT] at h1 h2 h3
  have hvx := asT_VT h1 (val_ok (slots_of h) _ (fun u hu => by cases hu; exact (hO.ty T _ hT).fine) m)
  obtain ⟨D, hu, kt, et, rfl, hkt, het⟩ := (hO.ty T _ hT).und
  have hvk := asT_VT h2 (val_ok (slots_of h) _ (fun u hu => by simp only [Option.bind_some, mapKey, Option.some.injEq] at hu; subst hu; exact (hO.ty kt _ hkt).fine) k)
  have hvv := VT.of_dat (val_ok (slots_of h) _ (fun u hu => by simp only [Option.bind_some, mapVal, Option.some.injEq] at hu; subst hu; exact (hO.ty et _ het).fine) x) h3
  rw [asD_some h4] at hvv
  unfold mapPut at h5
  cases rx with
  | none => cases h5
  | some q =>
   simp only [Option.bind_eq_some_iff, Option.map_eq_some_iff] at h5
   obtain ⟨b, hb, l, hl', l', h6, rfl⟩ := h5
   obtain ⟨bd, bo⟩ := b
   have := asD_some hl'
   simp only at this
   subst this
   have main : ∃ w', (Instr.mapUpdate T (a.eval m) (a.eval k) (a.eval x)).run P w = .ok () w' ∧ Stp O FB w s (tmOf a) ι w' ⟨s.env, over s.heap q ⟨⟨.mp t c, l'⟩, []⟩⟩ (tmOf a) ι ∧ Hist (ownP w s (tmOf a) ι) w w' := by
    cases t with
    | int kd =>
     simp only [mapSet, Option.some.injEq] at h6
     subst h6
     obtain ⟨K, _⟩ := keyInt hO hkt (rlOf w FB s (tmOf a) ι)
     exact mapPut_gen hO h K hu hb hvx hvk hvv
    | str =>
     simp only [mapSet, Option.some.injEq] at h6
     subst h6
     obtain ⟨K, _⟩ := keyStr hO hkt (rlOf w FB s (tmOf a) ι)
     exact mapPut_gen hO h K hu hb hvx hvk hvv
    | _ => simp [mapSet] at h6
   obtain ⟨w', m1, m2, m3⟩ := main
   refine leaves_skip (by rw [hx0]; simp only [Sem.run_bind, m1, Result.andThen_ok, Sem.run_pure]) m2 hl m3 (fun q' _ => KGo.of ⟨?_, rfl⟩) hn
   rw [look_over]
   split
   ·rename_i e; rw [e, hb]; rfl
   ·rfl
 ·cases hm
theorem ghF_pTy : ∀ (t : Ty) {p : List Nat} {u : Ty}, ghF t = some (p, u) → pTy t p = some (.sref u)
 | .sref t, p, u, h => by simp only [ghF, Option.some.injEq, Prod.mk.injEq] at h; obtain ⟨rfl, rfl⟩ := h; rfl
 | .pair a b, p, u, h => by
  simp only [ghF] at h
  split at h
  ·rename_i p' t' e
   simp only [Option.some.injEq, Prod.mk.injEq] at h
   obtain ⟨rfl, rfl⟩ := h
   simp only [pTy]; exact ghF_pTy a e
  ·split at h
   ·rename_i f p' t' e
    simp only [Option.some.injEq, Prod.mk.injEq] at h
    obtain ⟨rfl, rfl⟩ := h
    simp only [pTy]; exact ghF_pTy b e
   ·cases h
 | .int _, _, _, h | .bool, _, _, h | .str, _, _, h | .unit, _, _, h | .ref, _, _, h | .wref, _, _, h | .expr, _, _, h | .fnc, _, _, h | .slice _, _, _, h | .arr _ _ _, _, _, h | .mref _ _, _, _, h | .mp _ _, _, _, h => by simp [ghF] at h
theorem rv_nilS {R : Rl} {u : Ty} {k : Key} {γ : Nat} {b : Nat} {c : Nat → Value} (hk : R.kt k = some (b, .arr (γ + 1) 0 u)) (h0 : c 0 = .slice none 0 0) : RV R (.sref u) (some (k, γ, 0, 0) : Option (Key × Nat × Nat × Nat)) c := by
 simp only [RV]
 exact ⟨none, 0, h0, Nat.le_refl _, fun _ => rfl, b, γ, 0, hk, Nat.le_refl _, fun _ => ⟨Nat.zero_le _, fun _ => rfl, fun e => absurd e (Nat.lt_irrefl 0)⟩⟩
end Go.Am
