/-
  The machine over typed data, part 3: what calls come to, read as typed data, holds of the model.
-/
import Derived.Test.YtgfkdbplahpknaaAm2
import Derived.Orders
import Derived.Control
import Derived.Below
set_option linter.all false
namespace Go.Am
variable {tk : Bool}
variable {P : Program} {O : Orc} {FB : Nat → Nat → Prop} {w w' : World} {s : St} {tm : Nat → Value} {ι : Key → Nat} {o : Oper} {a : Act} {r : Res} {call : CallF} {draw : Bool} {f : FuncId} {rid i : Nat}
variable {Q : Exit → Act → World → Prop} {next : Act → World → Prop}
theorem ghF_zc : ∀ (t : Ty) {p : List Nat} {u : Ty}, ghF t = some (p, u) → (zc t).getD (pOff t p) undef = .slice none 0 0 ∧ pOff t p < t.size
 | .sref t, p, u, h => by
  simp only [ghF, Option.some.injEq, Prod.mk.injEq] at h
  obtain ⟨rfl, rfl⟩ := h
  exact ⟨rfl, by simp [pOff, Ty.size]⟩
 | .pair a b, p, u, h => by
  simp only [ghF] at h
  split at h
  ·rename_i p' t' e
   simp only [Option.some.injEq, Prod.mk.injEq] at h
   obtain ⟨rfl, rfl⟩ := h
   obtain ⟨h1, h2⟩ := ghF_zc a e
   simp only [pOff, zc, Ty.size]
   refine ⟨?_, by omega⟩
   rw [List.getD_eq_getElem?_getD, List.getElem?_append_left (by rw [zc_length]; exact h2), ← List.getD_eq_getElem?_getD]; exact h1
  ·split at h
   ·rename_i f p' t' e
    simp only [Option.some.injEq, Prod.mk.injEq] at h
    obtain ⟨rfl, rfl⟩ := h
    obtain ⟨h1, h2⟩ := ghF_zc b e
    simp only [pOff, zc, Ty.size]
    refine ⟨?_, by omega⟩
    rw [List.getD_eq_getElem?_getD, List.getElem?_append_right (by rw [zc_length]; omega), zc_length, ← List.getD_eq_getElem?_getD, Nat.add_sub_cancel_left]; exact h1
   ·cases h
 | .int _, _, _, h | .bool, _, _, h | .str, _, _, h | .unit, _, _, h | .ref, _, _, h | .wref, _, _, h | .expr, _, _, h | .fnc, _, _, h | .slice _, _, _, h | .arr _ _ _, _, _, h | .mref _ _, _, _, h | .mp _ _, _, _, h => by simp [ghF] at h
theorem VT.zeroG (R : Rl) {t u : Ty} {p : List Nat} {k : Key} {b : Nat} {y : den t} (hf : t.fine = true) (hz : t.hasZ = true) (hg : ghF t = some (p, u)) (hk : R.kt k = some (b, .arr 1 0 u))
  (hy : Am.upd t (Am.zero t) p ⟨.sref u, (some (k, 0, 0, 0) : Option (Key × Nat × Nat × Nat))⟩ = some y) : VT R t y (zeroVal t) := by
 have h0 := VT.zero R hf hz
 refine ⟨hf, h0.agg, h0.one, h0.size, ?_⟩
 have e : ∀ j, cellsF (zeroVal t) j = (zc t).getD j undef := fun j => by simp [cellsF, zeroVal_cells, List.getD_eq_getElem?_getD]
 obtain ⟨g1, g2⟩ := ghF_zc t hg
 obtain ⟨_, h2, h3⟩ := RV.upd t (Am.zero t) p (cellsF (zeroVal t)) (fun j => cellsF (zeroVal t) (pOff t p + j)) ⟨.sref u, (some (k, 0, 0, 0) : Option (Key × Nat × Nat × Nat))⟩ y h0.rv (rv_nilS hk (by rw [e, Nat.add_zero]; exact g1)) hy
 refine RV.congr t _ _ _ (fun j hj => ?_) h2
 unfold ovr
 split
 ·rename_i hc
  congr 1; omega
 ·rfl
theorem allocG_some {h : Heap} {d : Option Nat} {t : Ty} (e : allocG h d t = some r) : ∃ d' p u y, d = some d' ∧ ghF t = some (p, u) ∧ look h (d' + 1, 0) = none ∧ look h (d' + 1, 1) = none ∧ upd t (zero t) p ⟨.sref u, (some ((d' + 1, 1), 0, 0, 0) : Option (Key × Nat × Nat × Nat))⟩ = some y ∧
  r = ⟨.op (d' + 1, 0) [], none, ((d' + 1, 0), ⟨⟨t, y⟩, slPaths t⟩) :: ((d' + 1, 1), ⟨⟨.arr 1 0 u, ([] : List (den u))⟩, []⟩) :: h⟩ := by
 unfold allocG at e
 split at e
 ·rename_i d' p u hg
  split at e
  ·rename_i hc
   simp only [Bool.and_eq_true, Option.isNone_iff_eq_none] at hc
   simp only [Option.map_eq_some_iff] at e
   obtain ⟨y, hy, rfl⟩ := e
   exact ⟨d', p, u, y, rfl, hg, hc.1.1, hc.1.2, hy, rfl⟩
  ·cases e
 ·cases e
theorem allocG_exec (hO : OrcOK P O) {T : TypeId} (hop : o.op = .alloc T) : OpMOK P O tk o := by
 intro FB w s ι a r Q next h hl he hn
 simp only [execM, hop, Option.bind_eq_some_iff] at he
 obtain ⟨t, hT, he⟩ := he
 obtain ⟨d, p, u, y, hd, hg, hk0, hk1, hy, rfl⟩ := allocG_some he
 have hTy := hO.ty T t hT
 have hfu : u.fine = true := by
  have := pTy_fine t p _ hTy.fine (ghF_pTy t hg)
  simp only [Ty.fine, Bool.and_eq_true] at this
  exact this.2
 have s0 := h.ghost (k := (d + 1, 1)) (γ := 0) (t := u) hfu hk1
 have hkt : (rlOf w FB ⟨s.env, ((d + 1, 1), ⟨⟨.arr 1 0 u, ([] : List (den u))⟩, []⟩) :: s.heap⟩ (tmOf a) ι).kt (d + 1, 1) = some (ι (d + 1, 1), .arr 1 0 u) := by
  simp only [rlOf, ktOf, look_cons, if_true]; rfl
 have hv := VT.zeroG _ hTy.fine hTy.hasZ hg hkt hy
 have hk0' : look (((d + 1, 1), (⟨⟨.arr 1 0 u, ([] : List (den u))⟩, []⟩ : Ob)) :: s.heap) (d + 1, 0) = none := by
  rw [look_cons, if_neg (by simp)]; exact hk0
 have h1 := s0.rel.object (k := (d + 1, 0)) (ob := ⟨⟨t, y⟩, slPaths t⟩) T hk0' hv (grow_ghost hTy.grow) hTy.wr (fun p _ => regAt_zero t p _ fun j => by simp [cellsF, zeroVal_cells, List.getD_eq_getElem?_getD])
 have h2 := h1.rel.set d (.op (d + 1, 0) []) (.pointer (some ⟨w.heap.size, 0, none⟩)) (by
  simp only [VR]
  refine ⟨w.heap.size, t, ?_, hTy.grow, ?_⟩
  ·show ktOf (((d + 1, 0), _) :: ((d + 1, 1), _) :: s.heap) (fun q => if q = (d + 1, 0) then w.heap.size else ι q) (d + 1, 0) = _
   unfold ktOf
   rw [look_cons, if_pos rfl]
   simp
  ·have z : ∀ T, pOff T [] = 0 := fun T => by cases T <;> rfl
   rw [z]) nofun
 refine leaves_stp (r := ⟨.op (d + 1, 0) [], none, ((d + 1, 0), ⟨⟨t, y⟩, slPaths t⟩) :: ((d + 1, 1), ⟨⟨.arr 1 0 u, ([] : List (den u))⟩, []⟩) :: s.heap⟩) (v := .pointer (some ⟨w.heap.size, 0, none⟩)) (w' := w.alloc (.cells (zeroVal t).cells T (0, 0))) (ι' := fun q => if q = (d + 1, 0) then w.heap.size else ι q) ?_ ((s0.trans h1).trans ?_) hl (hist_alloc _ ⟨rfl, rfl, rfl, rfl⟩ _) (fun k hk' => ?_) hn
 ·simp only [execOp, hop, Instr.alloc, Sem.run_bind, hTy.zeroValue, Result.andThen_ok]
  rfl
 ·rw [hd]; exact h2
 ·have hne : k ≠ (d + 1, 0) := fun e => by rw [e] at hk'; simp at hk'
  have hne2 : k ≠ (d + 1, 1) := fun e => by rw [e] at hk'; simp at hk'
  refine ⟨?_, ?_⟩
  ·show (look (((d + 1, 0), _) :: ((d + 1, 1), _) :: s.heap) k).map _ = _
   rw [look_cons, if_neg hne, look_cons, if_neg hne2]
  ·simp only [if_neg hne]
theorem buildG_some {h : Heap} {d : Option Nat} {t : Ty} {b : AV} (e : buildG h d t b = some r) : ∃ (d' : Nat) (p : List Nat) (u : Ty) (own : List (List Nat)) (y y' : den t), d = some d' ∧ ghF t = some (p, u) ∧ b = .tv own t y ∧ look h (d' + 1, 1) = none ∧ prj t y p = some ⟨.sref u, (none : Option (Key × Nat × Nat × Nat))⟩ ∧ upd t y p ⟨.sref u, (some ((d' + 1, 1), 0, 0, 0) : Option (Key × Nat × Nat × Nat))⟩ = some y' ∧
  r = ⟨.tv own t y', none, ((d' + 1, 1), ⟨⟨.arr 1 0 u, ([] : List (den u))⟩, []⟩) :: h⟩ := by
 unfold buildG at e
 split at e
 ·rename_i d' p u own t' y hg
  split at e
  ·rename_i ht
   subst ht
   split at e
   ·rename_i hc
    simp only [Bool.and_eq_true, Option.isNone_iff_eq_none] at hc
    simp only [Option.bind_eq_some_iff] at e
    obtain ⟨q, hq, z, hz, e⟩ := e
    have := asD_some hz
    subst this
    split at e
    ·simp only [Option.map_eq_some_iff] at e
     obtain ⟨y', hy, rfl⟩ := e
     exact ⟨d', p, u, own, y, y', rfl, hg, rfl, hc.1, hq, hy, rfl⟩
    ·cases e
   ·cases e
  ·cases e
 ·cases e
theorem ghost_cell {k : Key} {γ : Nat} {u : Ty} : CellLe (rlOf w FB s tm ι) (rlOf w FB ⟨s.env, (k, ⟨⟨.arr (γ + 1) 0 u, ([] : List (den u))⟩, []⟩) :: s.heap⟩ tm ι) := by
 refine rl_le (Nat.le_refl _) (fun l b lo hl _ => ⟨l, lo, ?_, Nat.le_refl _⟩) (fun _ _ _ => rfl)
 cases l with
 | sl i p => exact hl
 | fd q p =>
  simp only [owns, look_cons] at hl ⊢
  by_cases e : q = k
  ·subst e; simp at hl
  ·simpa only [if_neg e] using hl
 | ob q =>
  simp only [owns, look_cons] at hl ⊢
  by_cases e : q = k
  ·subst e; simp [Ty.ghost] at hl
  ·simpa only [if_neg e] using hl
theorem buildG_exec (hO : OrcOK P O) {T : TypeId} {ps : Array (Nat × Operand)} (hop : o.op = .build T ps) : OpMOK P O tk o := by
 intro FB w s ι a r Q next h hl he hn
 simp only [execM, hop, Option.bind_eq_some_iff] at he
 obtain ⟨t, hT, he⟩ := he
 split at he
 ·cases he
 rename_i hag
 simp only [Option.bind_eq_some_iff] at he
 obtain ⟨b, hb, he⟩ := he
 obtain ⟨d, p, u, own, y, y', hd, hg, rfl, hk1, hp, hy, rfl⟩ := buildG_some he
 have hTy := hO.ty T t hT
 have hfu : u.fine = true := by
  have := pTy_fine t p _ hTy.fine (ghF_pTy t hg)
  simp only [Ty.fine, Bool.and_eq_true] at this
  exact this.2
 obtain ⟨v, h1, h2, h3⟩ := build_ok (P := P) (w := w) hO (slots_of h) hT (by simpa using hag) hb
 have s0 := h.ghost (k := (d + 1, 1)) (γ := 0) (t := u) hfu hk1
 have hkt : (rlOf w FB ⟨s.env, ((d + 1, 1), ⟨⟨.arr 1 0 u, ([] : List (den u))⟩, []⟩) :: s.heap⟩ (tmOf a) ι).kt (d + 1, 1) = some (ι (d + 1, 1), .arr 1 0 u) := by
  simp only [rlOf, ktOf, look_cons, if_true]; rfl
 have h2' : VR (rlOf w FB ⟨s.env, ((d + 1, 1), ⟨⟨.arr 1 0 u, ([] : List (den u))⟩, []⟩) :: s.heap⟩ (tmOf a) ι) O (.tv own t y) v := by
  refine VR.le' ghost_cell (fun q _ x hq => .of ?_ fun _ h => h) h2
  simp only [rlOf, ktOf, look_cons] at hq ⊢
  cases hlk : look s.heap q with
  | none => rw [hlk] at hq; cases hq
  | some o' => rw [if_neg (fun e => by subst e; rw [hk1] at hlk; cases hlk)]; rw [hlk] at hq; exact hq
 simp only [VR] at h2'
 have hpj := RV.prj t y p _ _ h2'.rv hp
 have h0 : cellsF v (pOff t p + 0) = .slice none 0 0 := by
  have := hpj.2.1
  simp only [RV] at this
  exact this
 have hv : VT (rlOf w FB ⟨s.env, ((d + 1, 1), ⟨⟨.arr 1 0 u, ([] : List (den u))⟩, []⟩) :: s.heap⟩ (tmOf a) ι) t y' v := by
  refine ⟨h2'.fine, h2'.agg, h2'.one, h2'.size, ?_⟩
  obtain ⟨_, g2, _⟩ := RV.upd t y p (cellsF v) (fun j => cellsF v (pOff t p + j)) ⟨.sref u, (some ((d + 1, 1), 0, 0, 0) : Option (Key × Nat × Nat × Nat))⟩ y' h2'.rv (rv_nilS hkt h0) hy
  refine RV.congr t _ _ _ (fun j hj => ?_) g2
  unfold ovr
  split
  ·rename_i hc
   congr 1; omega
  ·rfl
 have s1 := s0.rel.set d (.tv own t y') v (by simp only [VR]; exact hv) (fun own' t' x e q hq => by
  injection e with e1 e2 _
  subst e1; subst e2
  exact h3 own t y rfl q hq)
 refine leaves_stp (r := ⟨.tv own t y', none, ((d + 1, 1), ⟨⟨.arr 1 0 u, ([] : List (den u))⟩, []⟩) :: s.heap⟩) (v := v) (w' := w) (ι' := ι) (by simp only [execOp, hop, Sem.run_bind, h1, Result.andThen_ok, Sem.run_pure]) (s0.trans ?_) hl (Hist.refl _ _) (fun k hk' => ?_) hn
 ·rw [hd]; exact s1
 ·have hne2 : k ≠ (d + 1, 1) := fun e => by rw [e] at hk'; simp at hk'
  refine ⟨?_, rfl⟩
  show (look (((d + 1, 1), _) :: s.heap) k).map _ = _
  rw [look_cons, if_neg hne2]
theorem takeV_rel (hO : OrcOK P O) {x : Operand} {T : Option Ty} (hT : ∀ t, T = some t → t.fine = true) {tk : Bool} {FB : Nat → Nat → Prop} {w : World} {s : St} {ι : Key → Nat} {a : Act} (h : Rel O FB w s (tmOf a) ι) {d : Dat} (hd : (takeV tk s.get T x).1.dat = some d) :
  VR (rlOf w FB s (tmOf a) ι) O (takeV tk s.get T x).1 (a.eval x) ∧
   ∀ q ∈ (takeV tk s.get T x).1.own, RoomAt w d.t (cellsF (a.eval x)) q ∧ (regAt d.t (cellsF (a.eval x)) q = none ∨ ∃ t, (takeV tk s.get T x).2 = some t ∧ owns w s (tmOf a) ι (.sl t q) = regAt d.t (cellsF (a.eval x)) q) := by
 rcases takeV_spec (g := s.get) (tk := tk) (h := T) (x := x) with ⟨t, _, rfl, e2⟩ | e2
 ·rw [e2] at hd ⊢
  refine ⟨h.vr t, fun q hq => ?_⟩
  cases hg : s.get t with
  | tv own u z =>
   rw [hg] at hd hq
   simp only [AV.dat, Option.some.injEq] at hd
   subst hd
   simp only [AV.own] at hq
   refine ⟨h.rs t own u z hg q hq, .inr ⟨t, rfl, ?_⟩⟩
   simp only [owns, hg, if_pos hq]
   rfl
  | _ => rw [hg] at hq; simp [AV.own] at hq
 ·rw [e2] at hd ⊢
  refine ⟨val_ok (slots_of h) _ hT x, fun q hq => ?_⟩
  cases hg : val s.get T x with
  | tv own u z =>
   rw [hg] at hd hq
   simp only [AV.dat, Option.some.injEq] at hd
   subst hd
   simp only [AV.own] at hq
   have := val_own (slots_of h) hT x own u z hg q hq
   exact ⟨room_none this, .inl this⟩
  | _ => rw [hg] at hq; simp [AV.own] at hq
theorem boxT_exec (hO : OrcOK P O) {T : TypeId} {x : Operand} {tk : Bool} (hop : o.op = .box T x) {FB : Nat → Nat → Prop} {w : World} {s : St} {ι : Key → Nat} {a : Act} {r : Res} {Q : Exit → Act → World → Prop} {next : Act → World → Prop} (h : Rel O FB w s (tmOf a) ι) (hl : s.env.length = a.tmps.size) (he : boxT (O.ty T) tk s.get s.heap o.dst x = some r)
  (hn : Leaves O FB w s ι a (s.app o.dst r) next) : o.wp P a w next Q := by
 simp only [boxT, Option.bind_eq_some_iff] at he
 obtain ⟨d, hd, he⟩ := he
 split at he
 case isFalse => cases he
 rename_i hT
 simp only [Option.map_eq_some_iff] at he
 obtain ⟨r0, he, rfl⟩ := he
 obtain ⟨d', hd', hk, rfl⟩ := allocA_some he
 have hgr := (hO.ty T _ hT).grow
 have hVT := VT.of_dat (takeV_rel hO (ty_fine hO) h hd).1 hd
 have h1 := h.object (ob := ⟨d, []⟩) T hk hVT (grow_ghost hgr) (hO.ty T _ hT).wr nofun
 have hnw := alloc_new w (.cells (a.eval x).cells T (0, 0))
 obtain ⟨q2, q3⟩ := takeV_rel hO (ty_fine hO) h1.rel hd
 have hVT1 := VT.of_dat q2 hd
 have hu : upd d.t d.x [] d = some d.x := by
  obtain ⟨t, x⟩ := d
  cases t <;> simp [upd]
 have z : ∀ T, pOff T [] = 0 := fun T => by cases T <;> rfl
 have h2 := h1.rel.store (k := (d' + 1, 0)) (ob := ⟨d, []⟩) (p := []) (d := d) (y := d.x) (v := a.eval x) (src := (takeV tk s.get (O.ty T) x).2) (w' := w.alloc (.cells (a.eval x).cells T (0, 0))) (arr := (a.eval x).cells) (T := T)
  (by rw [look_cons, if_pos rfl]) hVT1 hu q3 (grow_ghost hgr) (by simpa using hnw)
  ⟨rfl, rfl, rfl, rfl, fun _ _ => rfl, (a.eval x).cells, by simpa using hnw, rfl, fun j => by rw [z]; split <;> simp [Array.getD_eq_getD_getElem?, List.getD_eq_getElem?_getD]⟩
 have eov : over (((d' + 1, 0), (⟨d, []⟩ : Ob)) :: s.heap) (d' + 1, 0) ⟨⟨d.t, d.x⟩, (takeV tk s.get (O.ty T) x).1.own.map ([] ++ ·) ++ ([] : List (List Nat)).filter fun q => !isPre [] q⟩ = ((d' + 1, 0), ⟨d, (takeV tk s.get (O.ty T) x).1.own⟩) :: s.heap := by
  simp [over]
 have h3 := h1.trans h2
 simp only [] at h3
 have h3 := eov ▸ h3
 have hl1 : (takeE s.env (takeV tk s.get (O.ty T) x).2).length = s.env.length := by cases (takeV tk s.get (O.ty T) x).2 <;> simp [takeE]
 have h4 := h3.rel.set d' (.op (d' + 1, 0) []) (.pointer (some ⟨w.heap.size, 0, none⟩)) (by
  simp only [VR]
  refine ⟨w.heap.size, d.t, ?_, hgr, ?_⟩
  ·show ktOf (((d' + 1, 0), _) :: s.heap) (fun q => if q = (d' + 1, 0) then w.heap.size else ι q) (d' + 1, 0) = _
   unfold ktOf
   rw [look_cons, if_pos rfl]
   simp
  ·rw [z]) nofun
 simp only [hl1] at h4
 refine leaves_stp (r := ⟨.op (d' + 1, 0) [], (takeV tk s.get (O.ty T) x).2, ((d' + 1, 0), ⟨d, (takeV tk s.get (O.ty T) x).1.own⟩) :: s.heap⟩) (v := .pointer (some ⟨w.heap.size, 0, none⟩)) (ι' := fun q => if q = (d' + 1, 0) then w.heap.size else ι q) (by simp only [execOp, hop, Instr.box]; rfl) (h3.trans ?_) hl (hist_alloc _ ⟨rfl, rfl, rfl, rfl⟩ _) (fun k hk' => ?_) hn
 ·rw [hd']; exact h4
 ·have hne : k ≠ (d' + 1, 0) := fun e => by rw [e] at hk'; simp at hk'
  refine ⟨?_, ?_⟩
  ·show (look (((d' + 1, 0), _) :: s.heap) k).map _ = _
   rw [look_cons, if_neg hne]
  ·simp only [if_neg hne]
theorem boxR_exec (hO : OrcOK P O) {T : TypeId} {x : Operand} (hop : o.op = .box T x) : OpMOK P O tk o := by
 intro FB w s ι a r Q next h hl he hn
 simp only [execM, hop] at he
 split at he
 case isFalse => exact boxT_exec hO hop h hl he hn
 simp only [Option.bind_eq_some_iff] at he
 obtain ⟨d, hd, he⟩ := he
 split at he
 ·rename_i hT
  cases he
  have hv := VT.of_dat (val_ok (slots_of h) _ (ty_fine hO) x) hd
  have s1 := h.alloc (.cells (a.eval x).cells T (0, 0))
  have hnw := alloc_new w (.cells (a.eval x).cells T (0, 0))
  have hvr : VR (rlOf (w.alloc (.cells (a.eval x).cells T (0, 0))) FB s (tmOf a) ι) O (.sp d.t d.x) (.pointer (some ⟨w.heap.size, 0, none⟩)) := by
   simp only [VR]
   refine ⟨hv.fine, w.heap.size, 0, cellsF (a.eval x), rfl, fun j hj => ?_, RV.le (alloc_le h _) _ _ _ hv.fine hv.rv, hT.2⟩
   have hlt : j < (a.eval x).cells.size := by rw [hv.size]; exact hj
   refine ⟨?_, ?_⟩
   ·show (w.alloc (.cells (a.eval x).cells T (0, 0))).cell? ⟨w.heap.size, 0 + j, none⟩ = _
    rw [cell_block hnw, Nat.zero_add, Array.getElem?_eq_getElem hlt]; simp [cellsF, Array.getD_eq_getD_getElem?, hlt]
   ·refine ⟨by rw [alloc_size]; omega, fun lc lo hl => ?_, fun lo hl => ?_⟩
    ·have : owns w s (tmOf a) ι lc = some (w.heap.size, lo) := by
      rw [← hl]
      cases lc with
      | sl i p => rfl
      | fd q p =>
       simp only [owns]
       cases hq : look s.heap q with
       | none => rfl
       | some o =>
        simp only [(h.ob q o hq).2.sameF (alloc_heap w _)]
      | ob q => rfl
     have := h.own_lt this; omega
    ·have := h.fs _ _ hl; omega
  have s2 := s1.rel.set (o.dst.getD s.env.length) (.sp d.t d.x) (.pointer (some ⟨w.heap.size, 0, none⟩)) hvr nofun
  exact leaves_stp (by simp only [execOp, hop, Instr.box]; rfl) (s1.trans s2) hl (hist_alloc _ ⟨rfl, rfl, rfl, rfl⟩ _) (fun _ _ => ⟨rfl, rfl⟩) hn
 ·cases he
theorem storeNil_exec (hO : OrcOK P O) {T : TypeId} {x y : Operand} (hop : o.op = .store T x y) (hy : isNilS y = true) : OpMOK P O tk o := by
 intro FB w s ι a r Q next h hl he hn
 simp only [execM, hop, if_pos hy] at he
 have hyv : a.eval y = .slice none 0 0 := by
  unfold isNilS at hy
  split at hy
  ·rfl
  ·cases hy
 have hv := val0 (slots_of h) x
 unfold storeNil at he
 split at he
 ·rename_i t q p hT hax
  rw [hax] at hv
  simp only [Option.bind_eq_some_iff] at he
  obtain ⟨b, hb, d, hp, z, hz, he⟩ := he
  have hd := asD_some hz
  subst hd
  split at he
  ·rename_i k N lo len
   split at he
   ·rename_i γ n u l own hk
    split at he
    ·rename_i hc
     obtain ⟨rfl, hkq⟩ := hc
     simp only [Option.map_eq_some_iff] at he
     obtain ⟨y', hu, rfl⟩ := he
     have s0 := h.reghost (γ' := γ + 1) hk (Nat.lt_succ_self γ)
     have hb' : look (over s.heap k ⟨⟨.arr (γ + 1 + 1) 0 u, ([] : List (den u))⟩, []⟩) q = some b := by
      rw [look_over, if_neg (fun e => hkq e.symm)]; exact hb
     simp only [VR] at hv
     obtain ⟨bl, T', hkt, hgr, hpv⟩ := hv
     have hkt' : some (ι q, b.d.t) = some (bl, T') := by
      have : ktOf s.heap ι q = some (bl, T') := hkt
      unfold ktOf at this
      rw [hb] at this; exact this
     cases hkt'
     obtain ⟨hf, hob⟩ := s0.rel.ob q b hb'
     obtain ⟨arr, T0, hblk, _, hsz, hrv⟩ := hob.cells (fun a c e => by
      obtain ⟨⟨t, x⟩, own⟩ := b
      simp only at e hu y'
      subst e
      have := upd_mp hu
      cases this) (grow_ghost hgr)
     have hTy := hO.ty T _ hT
     have hVT : VT (rlOf w FB ⟨s.env, over s.heap k ⟨⟨.arr (γ + 1 + 1) 0 u, ([] : List (den u))⟩, []⟩⟩ (tmOf a) ι) (.sref u) (some (k, γ + 1, 0, 0) : Option (Key × Nat × Nat × Nat)) (.slice none 0 0) := by
      refine ⟨hTy.fine, nofun, fun _ => rfl, rfl, rv_nilS (b := ι k) ?_ rfl⟩
      simp only [rlOf, ktOf, look_over, hk, if_true]; rfl
     obtain ⟨u1, u2, u3⟩ := RV.upd _ _ _ _ (cellsF (.slice none 0 0)) _ _ hrv hVT.rv hu
     obtain ⟨w', r1, r2⟩ := run_storeCells (P := P) (o := pOff b.d.t p) [Value.slice none 0 0] 0 w arr hblk (by intro v hv; simp only [List.mem_singleton] at hv; subst hv; rfl) (fun j hj => ⟨by simp only [List.length_singleton] at hj; simp only [Ty.size] at u3; omega, frozen_new hblk _⟩)
     have st := s0.rel.store (own := []) (src := none) (d := ⟨.sref u, (some (k, γ + 1, 0, 0) : Option (Key × Nat × Nat × Nat))⟩) hb' hVT hu (fun q hq => by cases hq) (grow_ghost hgr) hblk r2
     have hgh := grow_ghost hgr
     refine leaves_skip (w' := w') (h' := over (over s.heap k ⟨⟨.arr (γ + 1 + 1) 0 u, ([] : List (den u))⟩, []⟩) q ⟨⟨b.d.t, y'⟩, b.own.filter fun q => !isPre p q⟩) ?_ (s0.trans st) hl ?_ (fun k' _ => ?_) hn
     ·have hszr := hTy.sizeOf w
      simp only [execOp, hop, Instr.storeAt, hpv, hyv, Instr.sureAddr, storeVar, Sem.run_bind, Sem.run_pure, Result.andThen_ok, hszr, Sem.run_ite]
      have hcs : (Value.slice none 0 0).cells = #[.slice none 0 0] := rfl
      simp only [hcs, Ty.size]
      simp [r1]
     ·exact hist_stored r2 hblk ⟨0, ⟨.ob q, by simp [owns, hb, hgh]⟩, by omega⟩ (fun lo ⟨l, hl'⟩ => by
       have := h.dj l (.ob q) (ι q) lo 0 hl' (by simp [owns, hb, hgh])
       subst this
       simp [owns, hb, hgh] at hl'
       omega)
     ·rw [look_over, hb']
      by_cases e : k' = q
      ·subst e
       rw [if_pos rfl, hb]
       exact KGo.of ⟨rfl, rfl⟩
      ·rw [if_neg e, look_over, hk]
       by_cases e2 : k' = k
       ·subst e2
        rw [if_pos rfl, hk]
        exact .inr ⟨γ, γ + 1, n, 0, u, rfl, rfl, Nat.lt_succ_self γ⟩
       ·rw [if_neg e2]
        exact KGo.of ⟨rfl, rfl⟩
    ·cases he
   ·cases he
  ·cases he
 ·cases he
end Go.Am
namespace Go.Am
variable {tk : Bool}
variable {P : Program} {O : Orc} {FB : Nat → Nat → Prop} {w w' : World} {s : St} {tm : Nat → Value} {ι : Key → Nat} {o : Oper} {a : Act} {r : Res} {call : CallF} {draw : Bool} {f : FuncId} {rid i : Nat}
variable {Q : Exit → Act → World → Prop} {next : Act → World → Prop}
theorem buildX_exec (hO : OrcOK P O) {T : TypeId} {n : Nat} {ps : Array (Nat × Operand)} (hop : o.op = .buildSlice T n ps) : OpMOK P O tk o := by
 intro FB w s ι a r Q next h hl he hn
 simp only [execM, hop] at he
 split at he
 ·rename_i t hT
  split at he
  ·rename_i hc0
   obtain ⟨rfl, rfl⟩ := hc0
   obtain ⟨d, hd, hk, rfl⟩ := mkVec_some he
   obtain ⟨e, hu, hte, hz, hnr, hfi⟩ := slTy_und hO.ty hT
   refine leaves_vec (T := e) (ad := some ⟨w.heap.size, 0, none⟩) (arr := #[]) (w' := w.alloc (.cells #[] e (0, 0))) h hl hd (by simp [Ty.fine, hnr, hfi]) (.inr ⟨rfl, rfl, ?_⟩) ?_ hk hn
   ·exact ⟨by simp, fun i hi => absurd hi (by simp)⟩
   ·simp only [execOp, hop, Instr.buildSlice, Sem.run_bind, run_und hu, Result.andThen_ok, (hO.ty _ _ hte).sizeOf, Sem.run_ite]
    rw [Nat.zero_mul, if_neg (by decide)]
    have r0 : Array.range 0 = #[] := rfl
    simp only [if_true, Sem.run_pure, Result.andThen_ok, r0, Array.map_empty]
    rfl
  split at he
  ·rename_i hsz
   simp only [Option.bind_eq_some_iff] at he
   obtain ⟨l, hb, he⟩ := he
   split at he
   ·obtain ⟨d, hd, hk, h0, rfl⟩ := mkVecL_some he
    obtain ⟨arr, e1, r1, r2, r3⟩ := buildSl_row (P := P) (w := w) (FB := FB) (ι := ι) hO (slots_of h) hT hsz hb
    obtain ⟨e, hu, hte, hz, hnr, hfi⟩ := slTy_und hO.ty hT
    exact leaves_vecL (T := e1) (arr := arr) h hl hd (by simp [Ty.fine, hnr, hfi]) h0 r2 (by simp only [execOp, hop, Sem.run_bind, r1, Result.andThen_ok, Sem.run_pure]; rw [r3]) hk hn
   cases he
   obtain ⟨ob, v, h1, h2, h3, h4⟩ := buildSl_ok hO h (slots_of h) hT hsz hb
   have s1 := h.alloc ob
   have s2 := s1.rel.set (o.dst.getD s.env.length) (.xs t l) v (by
    simp only [VR]
    exact ⟨h2, fun ad len cap e => h4 _ _ _ e⟩) nofun
   exact leaves_stp (by simp only [execOp, hop, Sem.run_bind, h1, Result.andThen_ok, Sem.run_pure]) (s1.trans s2) hl (hist_alloc _ ⟨rfl, rfl, rfl, rfl⟩ _) (fun _ _ => ⟨rfl, rfl⟩) hn
  ·cases he
 ·cases he
theorem ghost_owns {k : Key} {γ γ' n : Nat} {u : Ty} {l : List (den u)} {own : List (List Nat)} (hk : look s.heap k = some ⟨⟨.arr (γ + 1) n u, l⟩, own⟩) :
  (∀ lc x, owns w ⟨s.env, over s.heap k ⟨⟨.arr (γ' + 1) 0 u, []⟩, []⟩⟩ tm ι lc = some x → owns w s tm ι lc = some x) ∧ owns w ⟨s.env, over s.heap k ⟨⟨.arr (γ' + 1) 0 u, []⟩, []⟩⟩ tm ι (.ob k) = none := by
 have hlk : ∀ q, look (over s.heap k ⟨⟨.arr (γ' + 1) 0 u, []⟩, []⟩) q = if q = k then some ⟨⟨.arr (γ' + 1) 0 u, []⟩, []⟩ else look s.heap q := by
  intro q; rw [look_over, hk]; rfl
 refine ⟨fun lc x hl => ?_, ?_⟩
 ·cases lc with
  | sl i p => exact hl
  | fd q p =>
   simp only [owns, hlk] at hl ⊢
   by_cases e : q = k
   ·subst e; simp at hl
   ·simpa only [if_neg e] using hl
  | ob q =>
   simp only [owns, hlk] at hl ⊢
   by_cases e : q = k
   ·subst e; simp [Ty.ghost] at hl
   ·simpa only [if_neg e] using hl
 ·simp only [owns, hlk, if_true]; rfl
theorem fz_vt (h : Rel O FB w s tm ι) {k : Key} {γ n : Nat} {u : Ty} {l : List (den u)} {own : List (List Nat)} (hk : look s.heap k = some ⟨⟨.arr (γ + 1) n u, l⟩, own⟩) (hn : u.noRef = true) (hf : u.fine = true) {v : Value}
  (hv : VT (rlOf w FB s tm ι) (.sref u) (some (k, γ, 0, n) : Option (Key × Nat × Nat × Nat)) v) :
  VT (rlOf w FB ⟨s.env, over s.heap k ⟨⟨.arr (γ + 1 + 1) 0 u, []⟩, []⟩⟩ tm ι) (.slice u) l v := by
 obtain ⟨o1, o2⟩ := ghost_owns (w := w) (tm := tm) (ι := ι) (γ' := γ + 1) hk
 have hc : CellLe (rlOf w FB s tm ι) (rlOf w FB ⟨s.env, over s.heap k ⟨⟨.arr (γ + 1 + 1) 0 u, []⟩, []⟩⟩ tm ι) := fun b o hp v hv => ⟨hv, hp.1, fun lc lo e => hp.2.1 lc lo (o1 _ _ e), hp.2.2⟩
 have hfs : (Ty.slice u).fine = true := by simp [Ty.fine, hn, hf]
 obtain ⟨hfine, hob⟩ := h.ob k _ hk
 refine ⟨hfs, nofun, fun _ => hv.one rfl, hv.size, ?_⟩
 obtain ⟨a, cap, c0, _, han, b, γ2, n2, hkt2, hge, hlast⟩ := hv.rv
 simp only [rlOf] at hkt2
 unfold ktOf at hkt2
 rw [hk] at hkt2
 simp only [Option.map_some, Option.some.injEq, Prod.mk.injEq, Ty.arr.injEq] at hkt2
 obtain ⟨hb, h1, h2, _⟩ := hkt2
 obtain rfl : γ = γ2 := by omega
 subst h2
 obtain ⟨l1, _, l3⟩ := hlast rfl
 have hl : l.length = n := by
  rcases hob with q | ⟨_, q⟩ | ⟨_, _, _, _, _, q⟩
  ·exact q.elim
  ·exact q.1
  ·exact q.1
 by_cases hpos : 0 < n
 ·have hg : (Ty.arr (γ + 1) n u).ghost = false := by
   obtain ⟨m, rfl⟩ : ∃ m, n = m + 1 := ⟨n - 1, by omega⟩
   rfl
  obtain ⟨arr, T, q1, _, q3, q4⟩ := hob.cells (fun a c e => by cases e) hg
  obtain ⟨a1, _⟩ := l3 (by omega)
  have hprt : ∀ j, (rlOf w FB ⟨s.env, over s.heap k ⟨⟨.arr (γ + 1 + 1) 0 u, []⟩, []⟩⟩ tm ι).prot (ι k) j := fun j => by
   have how : owns w s tm ι (.ob k) = some (ι k, 0) := by simp only [owns, hk, hg]; rfl
   refine ⟨h.own_lt how, fun lc lo e => ?_, fun lo e => absurd e (h.fb _ _ _ lo how)⟩
   have := h.dj _ _ _ _ _ (o1 _ _ e) how
   subst this
   rw [o2] at e; cases e
  refine ⟨a, cap, ι k, 0, fun i j => arr.getD (i * u.size + j) undef, by rw [hl]; exact c0, by omega, fun e => (by rw [e] at a1; cases a1), fun _ => (by rw [a1, Nat.zero_mul, hb]), fun i hi j hj => ?_, fun i hi => RV.le0 hc u _ _ hn hf (q4.2 i (by omega))⟩
  have hlt : i * u.size + j < arr.size := by
   have : (i + 1) * u.size ≤ n * u.size := Nat.mul_le_mul_right _ (by omega)
   rw [Nat.add_mul] at this
   have q3' : n * u.size ≤ arr.size := q3
   omega
  refine ⟨?_, hprt _⟩
  simp only [rlOf, World.cell?, q1]
  rw [Nat.zero_add, Array.getElem?_eq_getElem hlt]; simp [Array.getD_eq_getD_getElem?, hlt]
 ·have hl0 : l.length = 0 := by omega
  refine ⟨a, cap, 0, 0, fun _ _ => undef, by rw [hl]; exact c0, by omega, fun e => ⟨hl0, han e⟩, fun q => absurd q (by omega), fun i hi => absurd hi (by omega), fun i hi => absurd hi (by omega)⟩
theorem storeFz_exec (hO : OrcOK P O) {T : TypeId} {x y : Operand} (hop : o.op = .store T x y) (hs : ¬ isNilS y = true) : OpMOK P O tk o := by
 intro FB w s ι a r Q next h hl he hn
 simp only [execM, hop, if_neg hs] at he
 have hv := val0 (slots_of h) x
 have hvy := val_ok (slots_of h) (O.ty T) (ty_fine hO) y
 generalize val s.get (O.ty T) y = ay at he hvy
 unfold storeFz at he
 split at he
 ·rename_i t q p own u z hT hax
  rw [hax] at hv
  split at he
  ·rename_i k N lo len
   split at he
   ·rename_i γ n v l own2 hk
    split at he
    ·rename_i hvt
     subst hvt
     split at he
     ·rename_i hc
      obtain ⟨rfl, hkq, rfl, rfl, rfl⟩ := hc
      simp only [Option.bind_eq_some_iff, Option.map_eq_some_iff] at he
      obtain ⟨b, hb, y', hu, rfl⟩ := he
      have hTy := hO.ty T _ hT
      have hfu : u.noRef = true ∧ u.fine = true := by have := hTy.fine; simp [Ty.fine] at this; exact this
      have s0 := h.reghost (γ' := N + 1) hk (Nat.lt_succ_self N)
      have hb' : look (over s.heap k ⟨⟨.arr (N + 1 + 1) 0 u, ([] : List (den u))⟩, []⟩) q = some b := by
       rw [look_over, if_neg (fun e => hkq e.symm)]; exact hb
      simp only [VR] at hv hvy
      obtain ⟨bl, T', hkt, hgr, hpv⟩ := hv
      have hkt' : some (ι q, b.d.t) = some (bl, T') := by
       have : ktOf s.heap ι q = some (bl, T') := hkt
       unfold ktOf at this
       rw [hb] at this; exact this
      cases hkt'
      obtain ⟨hf, hob⟩ := s0.rel.ob q b hb'
      obtain ⟨arr, T0, hblk, _, hsz, hrv⟩ := hob.cells (fun a c e => by
       obtain ⟨⟨t, x⟩, own⟩ := b
       simp only at e hu y'
       subst e
       have := upd_mp hu
       cases this) (grow_ghost hgr)
      obtain ⟨ad, cap, hvx, _⟩ := hvy.sref
      have hVT := fz_vt h hk hfu.1 hfu.2 hvy
      rw [hvx] at hVT
      obtain ⟨u1, u2, u3⟩ := RV.upd _ _ _ _ (cellsF (.slice ad len cap)) _ _ hrv hVT.rv hu
      obtain ⟨w', r1, r2⟩ := run_storeCells (P := P) (o := pOff b.d.t p) [Value.slice ad len cap] 0 w arr hblk (by intro v hv; simp only [List.mem_singleton] at hv; subst hv; rfl) (fun j hj => ⟨by simp only [List.length_singleton] at hj; simp only [Ty.size] at u3; omega, frozen_new hblk _⟩)
      have st := s0.rel.store (own := []) (src := none) (d := ⟨.slice u, l⟩) hb' hVT hu (fun q hq => by cases hq) (grow_ghost hgr) hblk r2
      have hgh := grow_ghost hgr
      refine leaves_skip (w' := w') (h' := over (over s.heap k ⟨⟨.arr (N + 1 + 1) 0 u, ([] : List (den u))⟩, []⟩) q ⟨⟨b.d.t, y'⟩, b.own.filter fun q => !isPre p q⟩) ?_ (s0.trans st) hl ?_ (fun k' _ => ?_) hn
      ·have hszr := hTy.sizeOf w
       simp only [execOp, hop, Instr.storeAt, hpv, hvx, Instr.sureAddr, storeVar, Sem.run_bind, Sem.run_pure, Result.andThen_ok, hszr, Sem.run_ite]
       have hcs : (Value.slice ad len cap).cells = #[.slice ad len cap] := rfl
       simp only [hcs, Ty.size]
       simp [r1]
      ·exact hist_stored r2 hblk ⟨0, ⟨.ob q, by simp [owns, hb, hgh]⟩, by omega⟩ (fun lo ⟨l, hl'⟩ => by
        have := h.dj l (.ob q) (ι q) lo 0 hl' (by simp [owns, hb, hgh])
        subst this
        simp [owns, hb, hgh] at hl'
        omega)
      ·rw [look_over, hb']
       by_cases e : k' = q
       ·subst e
        rw [if_pos rfl, hb]
        exact KGo.of ⟨rfl, rfl⟩
       ·rw [if_neg e, look_over, hk]
        by_cases e2 : k' = k
        ·subst e2
         rw [if_pos rfl, hk]
         exact .inr ⟨N, N + 1, len, 0, u, rfl, rfl, Nat.lt_succ_self N⟩
        ·rw [if_neg e2]
         exact KGo.of ⟨rfl, rfl⟩
     ·cases he
    ·cases he
   ·cases he
  ·cases he
 ·cases he
theorem over_same : ∀ (h : Heap) (k : Key) (o : Ob), look h k = some o → over h k o = h
 | [], k, o, h => by cases h
 | (q, u) :: r, k, o, h => by
  simp only [look] at h
  simp only [over]
  by_cases e : q = k
  ·rw [if_pos e] at h ⊢
   cases h; rfl
  ·rw [if_neg e] at h ⊢
   rw [over_same r k o h]
theorem length_wipe {α : Type} (l : List α) (lo len : Nat) (z : α) (h : lo + len ≤ l.length) : (wipe l lo len z).length = l.length := by
 unfold wipe; simp; omega
theorem getD_wipe {α : Type} (l : List α) (lo len i : Nat) (z d : α) (h : lo + len ≤ l.length) : (wipe l lo len z).getD i d = if lo ≤ i ∧ i < lo + len then z else l.getD i d := by
 unfold wipe
 simp only [List.getD_eq_getElem?_getD, List.append_assoc, List.getElem?_append, List.length_take, List.length_replicate]
 by_cases h1 : i < min lo l.length
 ·rw [if_pos h1, if_neg (by omega), List.getElem?_take_of_lt (by omega)]
 ·rw [if_neg h1]
  by_cases h2 : i - min lo l.length < len
  ·rw [if_pos h2, if_pos (by omega), List.getElem?_replicate, if_pos h2]; rfl
  ·rw [if_neg h2, if_neg (by omega), List.getElem?_drop]
   congr 2; omega
theorem zeroCells_get (z : Array Value) (n q : Nat) (h : q < n * z.size) : (Builtin.zeroCells z n).toList.getD q undef = z.getD (q % z.size) undef := by
 unfold Builtin.zeroCells
 have hz : 0 < z.size := by
  rcases Nat.eq_zero_or_pos z.size with e | e
  ·rw [e] at h; omega
  ·exact e
 have hq : q % z.size < z.size := Nat.mod_lt _ hz
 simp [List.getD_eq_getElem?_getD, Array.getD_eq_getD_getElem?, h, hq]
theorem clear_exec (hO : OrcOK P O) {c : Call} {x : Operand} (hop : o.op = .call c) (hc : c.callee = .builtin .clear) (hx : c.args.toList = [x]) : OpMOK P O tk o := by
 intro FB w s ι a r Q next h hl he hn
 simp only [execM, hop, hc, hx] at he
 have hvx := val0 (slots_of h) x
 generalize val s.get none x = ax at he hvx
 have he0 : execOp a.eval o = (do pure (.value (← Builtin.clear_ c.argTypes o.type #[a.eval x]))) := by rw [ofValue_builtin hop hc, args1 hx]; rfl
 unfold clearM at he
 split at he
 ·rename_i own t q
  split at he
  ·rename_i k N lo len
   split at he
   ·rename_i γ n u l hk
    split at he
    ·rename_i hu
     subst hu
     split at he
     ·rename_i hcd
      obtain ⟨hT, hN, hle⟩ := hcd
      cases he
      obtain ⟨T, hT1, hT⟩ := bind_slTy hT
      obtain ⟨e, hd, hte, hz, _, _⟩ := slTy_und hO.ty hT
      simp only [VR] at hvx
      have hll := vec_len h hk
      obtain ⟨ad, cap, hvs, g1, g2, g3, g4, g5⟩ := vec_cells h hk hN hvx
      have hTe := hO.ty e _ hte
      have tup : ∀ {w1 : World} {s1 : St}, Rel O FB w1 s1 (tmOf a) ι → Stp O FB w1 s1 (tmOf a) ι w1 ⟨s1.env.set (o.dst.getD s1.env.length) (.tup []), s1.heap⟩ (setF (tmOf a) s1.env.length (o.dst.getD s1.env.length) (.tuple #[])) ι := fun h1 => h1.set _ (.tup []) (.tuple #[]) (by simp only [VR, VRL]; exact ⟨#[], rfl, rfl⟩) nofun
      by_cases h0 : len = 0
      ·subst h0
       have hw : wipe l lo 0 (zero u) = l := by unfold wipe; simp
       have hov : over s.heap k ⟨⟨.arr (γ + 1) n u, wipe l lo 0 (zero u)⟩, []⟩ = s.heap := by rw [hw]; exact over_same _ _ _ hk
       rw [hov] at hn
       refine leaves_stp (r := ⟨.tup [], none, s.heap⟩) (v := .tuple #[]) (w' := w) (ι' := ι) ?_ (tup h) hl (Hist.refl _ _) (fun _ _ => ⟨rfl, rfl⟩) hn
       rw [he0, hvs]
       cases ad <;> simp [Builtin.clear_, hT1, run_und hd]
      ·obtain ⟨had, arr, T0, hb, hx1, hx2, _, hx4⟩ := g5 (by omega)
       subst had
       have hzs : (zeroVal u).cells.size = u.size := by rw [zeroVal_cells]; simp [zc_length]
       have hcl : (Builtin.zeroCells (zeroVal u).cells len).toList.length = len * u.size := by
        rw [Array.length_toList, size_zeroCells, hzs]
       have hroom : (lo + len) * u.size ≤ arr.size := Nat.le_trans (Nat.mul_le_mul_right _ (by omega)) hx1
       have hroom' := hroom
       rw [Nat.add_mul] at hroom'
       have hzg : ∀ q, q < len * u.size → (Builtin.zeroCells (zeroVal u).cells len).toList.getD q undef = (zc u).getD (q % u.size) undef := fun q hq => by
        rw [zeroCells_get _ _ _ (by rw [hzs]; exact hq), hzs, zeroVal_cells]; simp [List.getD_eq_getElem?_getD]
       obtain ⟨w', hst, hs⟩ := run_storeCells (P := P) (b := ι k) (o := lo * u.size) (T := T0) (fz := (0, 0)) (Builtin.zeroCells (zeroVal u).cells len).toList 0 w arr hb (by
        intro v hv
        obtain ⟨j, hj, rfl⟩ := List.mem_iff_getElem.1 hv
        have hj' : j < len * u.size := by rw [← hcl]; exact hj
        have := hzg j hj'
        rw [List.getD_eq_getElem?_getD, List.getElem?_eq_getElem hj, Option.getD_some] at this
        rw [this]
        have h1 := RV.one u (zero u) _ (RV.zero (rlOf w FB s (tmOf a) ι) u hTe.hasZ) (j % u.size) (Nat.mod_lt _ (by omega))
        exact h1) (fun j hj => by
        rw [hcl] at hj
        exact ⟨by omega, frozen_new hb _⟩)
       simp only [Nat.add_zero] at hs
       obtain ⟨arr', q1, q2, q3⟩ := hs.this
       have hgh : (Ty.arr (γ + 1) n u).ghost = false := by
        cases n with
        | zero => omega
        | succ m => rfl
       have hns : n * u.size ≤ arr.size := hx2
       let A : Array Value := (Array.range (n * u.size)).map fun j => arr'.getD j undef
       have hAs : A.size = n * u.size := by simp [A]
       have hAg : ∀ j, j < n * u.size → A.getD j undef = arr'.getD j undef := fun j hj => by
        simp [A, Array.getD_eq_getD_getElem?, hj]
       have hrv : RV (rlOf w FB s (tmOf a) ι) (.arr (γ + 1) n u) (wipe l lo len (zero u)) (cellsF (.agg A)) := by
        refine ⟨by rw [length_wipe l lo len _ (by omega)]; exact hll, fun i hi => ?_⟩
        rw [getD_wipe l lo len i _ _ (by omega)]
        have hsz : i * u.size + u.size ≤ n * u.size := by rw [← Nat.succ_mul]; exact Nat.mul_le_mul_right _ hi
        have hc : ∀ j, j < u.size → cellsF (.agg A) (i * u.size + j) = arr'.getD (i * u.size + j) undef := fun j hj => hAg _ (by omega)
        by_cases hin : lo ≤ i ∧ i < lo + len
        ·rw [if_pos hin]
         refine RV.congr u _ _ _ (fun j hj => ?_) (RV.zero _ u hTe.hasZ)
         have e1 : i * u.size = lo * u.size + (i - lo) * u.size := by rw [← Nat.add_mul]; congr 1; omega
         have e2 : (i - lo) * u.size + u.size ≤ len * u.size := by rw [← Nat.succ_mul]; exact Nat.mul_le_mul_right _ (by omega)
         show cellsF (.agg A) (i * u.size + j) = _
         rw [hc j hj, q3, if_pos (by rw [hcl]; omega), hzg _ (by omega)]
         congr 1
         rw [show i * u.size + j - lo * u.size = j + u.size * (i - lo) by rw [Nat.mul_comm u.size]; omega, Nat.add_mul_mod_self_left, Nat.mod_eq_of_lt hj]
        ·rw [if_neg hin]
         refine RV.congr u _ _ _ (fun j hj => ?_) (hx4 i hi)
         show cellsF (.agg A) (i * u.size + j) = _
         rw [hc j hj, q3, if_neg]
         rw [hcl]
         rcases Nat.lt_or_ge i lo with h1 | h1
         ·have : i * u.size + u.size ≤ lo * u.size := by rw [← Nat.succ_mul]; exact Nat.mul_le_mul_right _ h1
          omega
         ·have : (lo + len) * u.size ≤ i * u.size := Nat.mul_le_mul_right _ (by omega)
          rw [Nat.add_mul] at this
          omega
       have hfine := (h.ob k _ hk).1
       have hVT : VT (rlOf w FB s (tmOf a) ι) (.arr (γ + 1) n u) (wipe l lo len (zero u)) (.agg A) := ⟨hfine, fun _ => ⟨_, rfl⟩, nofun, hAs, hrv⟩
       have hwhole : Stored w w' (ι k) (pOff (.arr (γ + 1) n u) []) T0 (0, 0) arr (Value.agg A).cells.toList := by
        refine ⟨hs.os, hs.tape, hs.output, hs.size, hs.other, arr', q1, q2, fun j => ?_⟩
        have z : pOff (.arr (γ + 1) n u) [] = 0 := rfl
        have hl2 : (Value.agg A).cells.toList.length = n * u.size := by rw [Array.length_toList]; exact hAs
        rw [z, hl2]
        by_cases hj : j < n * u.size
        ·rw [if_pos (by omega)]
         have := hAg j hj
         rw [Nat.sub_zero, ← this]
         show A.getD j undef = A.toList.getD j undef
         simp [List.getD_eq_getElem?_getD, Array.getD_eq_getD_getElem?]
        ·rw [if_neg (by omega), q3, if_neg]
         rw [hcl]
         have : (lo + len) * u.size ≤ n * u.size := Nat.mul_le_mul_right _ hle
         rw [Nat.add_mul] at this
         omega
       have st := h.store (own := []) (src := none) (d := ⟨.arr (γ + 1) n u, wipe l lo len (zero u)⟩) (p := []) (y := wipe l lo len (zero u)) hk hVT (by simp [Am.upd]) (fun q hq => by cases hq) hgh hb hwhole
       have hmem : ownP w s (tmOf a) ι (ι k) 0 := ⟨.ob k, by simp [owns, hk, hgh]⟩
       have hh := hist_stored hs hb (W := ownP w s (tmOf a) ι) ⟨0, hmem, Nat.zero_le _⟩ (fun lo' ⟨lc, hl'⟩ => by
        have hownk : owns w s (tmOf a) ι (.ob k) = some (ι k, 0) := by simp [owns, hk, hgh]
        have := h.dj _ _ _ _ _ hl' hownk
        subst this
        rw [hownk] at hl'
        simp only [Option.some.injEq, Prod.mk.injEq, true_and] at hl'
        omega)
       refine leaves_stp (r := ⟨.tup [], none, over s.heap k ⟨⟨.arr (γ + 1) n u, wipe l lo len (zero u)⟩, []⟩⟩) (v := .tuple #[]) (w' := w') (ι' := ι) ?_ (st.trans (tup st.rel)) hl hh (fun q _ => ⟨?_, rfl⟩) hn
       ·rw [he0, hvs]
        cases len with
        | zero => exact absurd rfl h0
        | succ len =>
         simp [Builtin.clear_, hT1, run_und hd, hTe.zeroValue, hst]
       ·show (look (over s.heap k _) q).map _ = _
        rw [look_over]
        split
        ·rename_i e; rw [e, hk]; rfl
        ·rfl
     ·cases he
    ·cases he
   ·cases he
  ·cases he
 ·cases he
end Go.Am
namespace Go.Am
variable {tk : Bool}
variable {P : Program} {O : Orc} {FB : Nat → Nat → Prop} {w w' : World} {s : St} {tm : Nat → Value} {ι : Key → Nat} {o : Oper} {a : Act} {r : Res} {call : CallF} {draw : Bool} {f : FuncId} {rid i : Nat}
variable {Q : Exit → Act → World → Prop} {next : Act → World → Prop}
theorem execM_ok (hO : OrcOK P O) : OpMOK P O tk o := by
 intro FB w s ι a r Q next h hl he hn
 cases hop : o.op with
 | makeSlice T x y => exact makeSlice_exec hO hop h hl he hn
 | move x => exact nil_exec hO (.inl hop) h hl he hn
 | assign x => exact nil_exec hO (.inr hop) h hl he hn
 | binOp op T x y U => exact nilCmp_exec hO hop h hl he hn
 | makeMap T r => cases r with
  | none => exact makeMap_exec hO hop h hl he hn
  | some _ => simp [execM, hop] at he
 | lookup T x k ok => exact lookup_exec hO hop h hl he hn
 | mapUpdate T m k x => exact mapUpd_exec hO (.inl hop) h hl he hn
 | insert T m k x => exact mapUpd_exec hO (.inr hop) h hl he hn
 | alloc T => exact allocG_exec hO hop h hl he hn
 | build T ps => exact buildG_exec hO hop h hl he hn
 | box T x => exact boxR_exec hO hop h hl he hn
 | buildSlice T n ps => exact buildX_exec hO hop h hl he hn
 | store T x y =>
  by_cases hy : isNilS y = true
  ·exact storeNil_exec hO hop hy h hl he hn
  ·exact storeFz_exec hO hop hy h hl he hn
 | call c =>
  have he0 := he
  simp only [execM, hop] at he
  split at he
  ·rename_i hc
   split at he
   ·rename_i x hxy
    exact clear_exec hO hop hc hxy h hl he0 hn
   ·cases he
  ·rename_i hc
   split at he
   ·rename_i x y hxy
    exact appM_exec hO hop hc hxy h hl he0 hn
   ·cases he
  ·cases he
 | _ => simp [execM, hop] at he
theorem exec_ok (hO : OrcOK P O) (hC : CallOK P O call) {FB : Nat → Nat → Prop} {w : World} {s : St} {ι : Key → Nat} {a : Act} {r : Res} {Q : Exit → Act → World → Prop} {next : Act → World → Prop} (h : Rel O FB w s (tmOf a) ι) (hl : s.env.length = a.tmps.size)
  (he : exec O call draw f rid i o s.get s.heap = some r) (hn : Leaves O FB w s ι a (s.app o.dst r) next) : o.wp P a w next Q := by
 unfold exec at he
 split at he
 ·exact execM_ok hO h hl he hn
 ·exact exec0_ok hO hC h hl he hn
end Go.Am
namespace Go.Am
variable {P : Program} {O : Orc} {FB : Nat → Nat → Prop} {w : World} {s s' : St} {ι : Key → Nat} {call : CallF} {draw : Bool} {f : FuncId} {rid i : Nat} {o : Oper} {a : Act} {r : Res} {ops : Array Oper}
variable {Q : Exit → Act → World → Prop} {next : Act → World → Prop}
theorem app_len (s : St) (d : Option Nat) (r : Res) : (s.app d r).env.length = s.env.length := by
 rw [app_eq]; cases r.tk <;> simp [takeE]
theorem step_len (h : step O call draw f rid ops i s = some s') : s'.env.length = s.env.length := by
 unfold step at h
 split at h
 ·cases h
 ·simp only [Option.map_eq_some_iff] at h
  obtain ⟨r, _, rfl⟩ := h
  exact app_len _ _ _
theorem steps_len : ∀ (l : List Nat) (s s' : St), steps O call draw f rid ops l s = some s' → s'.env.length = s.env.length
 | [], s, s', h => by simp only [steps, Option.some.injEq] at h; rw [h]
 | i :: l, s, s', h => by
  simp only [steps, Option.bind_eq_some_iff] at h
  obtain ⟨s1, h1, h2⟩ := h
  rw [steps_len l s1 s' h2, step_len h1]
theorem tm_get {d : Nat} {b : Bool} (h : tmOf a d = .bool b) : a.tmps[d]? = some (.bool b) := by
 unfold tmOf at h
 rw [Array.getD_eq_getD_getElem?] at h
 cases hd : a.tmps[d]? with
 | some v => rw [hd] at h; simpa using h
 | none => rw [hd] at h; simp [undef] at h
theorem yield_ok (h : Rel O FB w s (tmOf a) ι) {j : Nat} {y : Option Bool} (e : yieldA ops s.get j = some y) : yielded ops a.tmps j = y := by
 unfold yieldA at e
 split at e
 ·rename_i d hd
  unfold yielded
  rw [hd]
  have hv := h.vr d
  split at e
  ·rename_i own x hg
   cases e
   rw [hg] at hv
   simp only [VR] at hv
   have := tm_get hv.bool
   simp [this]
  ·rename_i hg
   cases e
   rw [hg] at hv
   simp only [VR] at hv
   have hv' : a.tmps.getD d undef = undef := hv
   rw [Array.getD_eq_getD_getElem?] at hv'
   simp only [Option.bind_some]
   cases hx : a.tmps[d]? with
   | none => simp
   | some v =>
    rw [hx] at hv'
    simp only [Option.getD_some] at hv'
    rw [hv']
    simp [undef]
  ·cases e
 ·cases e
theorem skip_goes (h : Rel O FB w s (tmOf a) ι) (hl : s.env.length = a.tmps.size) (d : Option Nat) (hn : Leaves O FB w s ι a (s.app d ⟨.no, none, s.heap⟩) next) : next (a.put d undef) w := by
 refine hn _ _ ι (put_defers' _ _ _) (put_size _ _ _) ⟨?_, Hist.refl _ _, fun _ _ => KGo.of ⟨by rw [app_eq], rfl⟩⟩
 rw [app_eq, put_eq, ← hl]
 exact h.set _ .no undef rfl nofun
theorem step_ok (hO : OrcOK P O) (hC : CallOK P O call) (h : Rel O FB w s (tmOf a) ι) (hl : s.env.length = a.tmps.size) (he : step O call draw f rid ops i s = some s') (hn : Leaves O FB w s ι a s' next) : wpOp P ops Q i next a w := by
 unfold step at he
 unfold wpOp
 cases ho : ops[i]? with
 | none => rw [ho] at he; cases he
 | some o =>
  rw [ho] at he
  simp only [Option.map_eq_some_iff] at he
  obtain ⟨r, he, rfl⟩ := he
  simp only
  unfold stepG at he
  cases hg : o.guard with
  | none =>
   rw [hg] at he
   simp only at he
   have hw : Region.wanted o (yielded ops a.tmps) = true := by simp [Region.wanted, hg]
   rw [if_pos hw]
   exact .inl (exec_ok hO hC h hl he hn)
  | some jb =>
   obtain ⟨j, b⟩ := jb
   rw [hg] at he
   simp only at he
   split at he
   ·rename_i x hy
    have hw : Region.wanted o (yielded ops a.tmps) = (x == b) := by
     simp only [Region.wanted, hg, yield_ok h hy]
     cases x <;> cases b <;> rfl
    cases hx : (x == b) with
    | true =>
     rw [hx] at he hw
     rw [if_pos hw]
     exact .inl (exec_ok hO hC h hl he hn)
    | false =>
     rw [hx] at he hw
     simp only [cond_false, Option.some.injEq] at he
     subst he
     rw [if_neg (by rw [hw]; decide)]
     exact skip_goes h hl _ hn
   ·rename_i hy
    cases he
    have hw : Region.wanted o (yielded ops a.tmps) = false := by
     simp only [Region.wanted, hg, yield_ok h hy]
     rfl
    rw [if_neg (by rw [hw]; decide)]
    exact skip_goes h hl _ hn
   ·cases he
theorem Leaves.chain (h : Rel O FB w s (tmOf a) ι) {s1 s2 : St} (hn : Leaves O FB w s ι a s2 next) {a1 : Act} {w1 : World} {ι1 : Key → Nat} (hd : a1.defers = a.defers) (hs : a1.tmps.size = a.tmps.size) (hg : Goes O FB w s (tmOf a) ι w1 s1 (tmOf a1) ι1) : Leaves O FB w1 s1 ι1 a1 s2 next :=
 fun a' w' ι' d' z' g' => hn a' w' ι' (d'.trans hd) (z'.trans hs) (Goes.trans h hg g')
theorem steps_ok (hO : OrcOK P O) (hC : CallOK P O call) : ∀ (l : List Nat) {w : World} {s s' : St} {ι : Key → Nat} {a : Act}, Rel O FB w s (tmOf a) ι → s.env.length = a.tmps.size → steps O call draw f rid ops l s = some s' → Leaves O FB w s ι a s' (Q .normal) → wpOps P ops Q l a w
 | [], w, s, s', ι, a, h, hl, he, hn => by
  simp only [steps, Option.some.injEq] at he
  subst he
  exact hn _ _ ι rfl rfl (Goes.refl h)
 | i :: l, w, s, s', ι, a, h, hl, he, hn => by
  simp only [steps, Option.bind_eq_some_iff] at he
  obtain ⟨s1, h1, h2⟩ := he
  rw [wpOps_cons]
  refine step_ok hO hC h hl h1 fun a1 w1 ι1 hd hs hg => ?_
  exact steps_ok hO hC l hg.stp.rel (by rw [step_len h1, hl, hs]) h2 (hn.chain h hd hs hg)
end Go.Am
namespace Go.Am
variable {P : Program} {O : Orc} {call : CallF} {draw : Bool} {f : FuncId} {rid i : Nat} {o : Oper} {r : Res} {ops : Array Oper} {g g' : Nat → AV} {h h' : Heap}
theorem val_congr {t : Option Ty} {x : Operand} (hx : ∀ k, x = .tmp k → g k = g' k) : val g t x = val g' t x := by
 cases x with
 | tmp k => simp only [val]; rw [hx k rfl]
 | _ => rfl
theorem takeV_congr {tk : Bool} {t : Option Ty} {x : Operand} (hx : ∀ k, x = .tmp k → g k = g' k) : takeV tk g t x = takeV tk g' t x := by
 cases tk with
 | false => simp only [takeV]; rw [val_congr hx]
 | true => cases x with
  | tmp k => simp only [takeV]; rw [hx k rfl]
  | _ => simp only [takeV]; rfl
theorem exec0_congr (hg : ∀ t, Operand.tmp t ∈ o.op.operands → g t = g' t) : exec0 O call draw f rid i o g h = exec0 O call draw f rid i o g' h := by
 have hx : ∀ x, x ∈ o.op.operands → ∀ t : Option Ty, val g t x = val g' t x := fun x hm t => val_congr fun k e => hg k (e ▸ hm)
 have hk : ∀ x, x ∈ o.op.operands → ∀ (b : Bool) (t : Option Ty), takeV b g t x = takeV b g' t x := fun x hm b t => takeV_congr fun k e => hg k (e ▸ hm)
 clear hg
 unfold exec0
 cases hop : o.op with
 | move x => rw [hop] at hk; simp only [hk x (by simp [Op.operands])]
 | assign x => rw [hop] at hk; simp only [hk x (by simp [Op.operands])]
 | pick c a b => rw [hop] at hx; simp only [hx c (by simp [Op.operands]), hx a (by simp [Op.operands]), hx b (by simp [Op.operands])]
 | box T x => rw [hop] at hx; simp only [hx x (by simp [Op.operands])]
 | build T ps =>
  rw [hop] at hx
  have : ∀ t : Ty, (ps.toList.map fun (i, x) => (i, val g (pTy t [i]) x)) = ps.toList.map fun (i, x) => (i, val g' (pTy t [i]) x) := fun t => List.map_congr_left fun p hp => by
   obtain ⟨i, x⟩ := p
   simp only [hx x (by simp [Op.operands]; exact ⟨i, by simpa using hp⟩)]
  simp only [this]
 | buildSlice T n ps =>
  rw [hop] at hx
  have : ∀ t : Ty, (ps.toList.map fun (i, x) => (i, val g (some t) x)) = ps.toList.map fun (i, x) => (i, val g' (some t) x) := fun t => List.map_congr_left fun p hp => by
   obtain ⟨i, x⟩ := p
   simp only [hx x (by simp [Op.operands]; exact ⟨i, by simpa using hp⟩)]
  simp only [this]
 | load T x => rw [hop] at hx; simp only [hx x (by simp [Op.operands])]
 | store T x y => rw [hop] at hx hk; simp only [hx x (by simp [Op.operands]), hk y (by simp [Op.operands])]
 | nilCheck x => rw [hop] at hx; simp only [hx x (by simp [Op.operands])]
 | binOp op T x y U => rw [hop] at hx; simp only [hx x (by simp [Op.operands]), hx y (by simp [Op.operands])]
 | unOp op T x => rw [hop] at hx; simp only [hx x (by simp [Op.operands])]
 | convert T U x => rw [hop] at hx; simp only [hx x (by simp [Op.operands])]
 | makeFunc q first caps =>
  rw [hop] at hx
  cases q with
  | func q =>
   have h1 : first.toList.map (val g none) = first.toList.map (val g' none) := List.map_congr_left fun x hm => hx x (by simp [Op.operands]; exact .inl (by simpa using hm)) none
   have h2 : caps.toList.map (val g none) = caps.toList.map (val g' none) := List.map_congr_left fun x hm => hx x (by simp [Op.operands]; exact .inr (by simpa using hm)) none
   simp only [h1, h2]
  | _ => rfl
 | slice T x lo hi mx =>
  rw [hop] at hx hk
  have h1 : lo.map (val g none) = lo.map (val g' none) := by
   cases lo with
   | none => rfl
   | some y => simp only [Option.map_some, hx y (by simp [Op.operands])]
  have h2 : hi.map (val g none) = hi.map (val g' none) := by
   cases hi with
   | none => rfl
   | some y => simp only [Option.map_some, hx y (by simp [Op.operands])]
  simp only [sliceA, hx x (by simp [Op.operands]), hk x (by simp [Op.operands]), h1, h2]
  cases mx with
  | none => rfl
  | some m =>
   cases hi with
   | none => rfl
   | some y => simp only [hx y (by simp [Op.operands]), hx m (by simp [Op.operands])]
 | fieldAddr T x k => rw [hop] at hx; simp only [hx x (by simp [Op.operands])]
 | field T x k => rw [hop] at hx; simp only [hx x (by simp [Op.operands])]
 | indexAddr T x k => rw [hop] at hx; simp only [hx x (by simp [Op.operands]), hx k (by simp [Op.operands])]
 | index T x k => rw [hop] at hx; simp only [hx x (by simp [Op.operands]), hx k (by simp [Op.operands])]
 | extract x k => rw [hop] at hx; simp only [hx x (by simp [Op.operands])]
 | call c =>
  rw [hop] at hx hk
  have ha : ∀ x ∈ c.args.toList, x ∈ (Op.call c).operands := fun x hm => by simp [Op.operands, Call.operands]; exact .inr (by simpa using hm)
  simp only [callO]
  cases hc : c.callee with
  | builtin b =>
   cases b with
   | len =>
    simp only
    split
    ·rename_i x e; rw [hx x (ha x (by simp [e]))]
    ·rfl
   | max =>
    simp only
    split
    ·rename_i x y e; rw [hx x (ha x (by simp [e])), hx y (ha y (by simp [e]))]
    ·rfl
   | min =>
    simp only
    split
    ·rename_i x y e; rw [hx x (ha x (by simp [e])), hx y (ha y (by simp [e]))]
    ·rfl
   | append =>
    simp only
    split
    ·rename_i x y e; rw [hk x (ha x (by simp [e])), hx y (ha y (by simp [e]))]
    ·rfl
   | _ => rfl
  | value x =>
   have h1 : val g none x = val g' none x := hx x (by simp [Op.operands, Call.operands, hc]) none
   have h2 : (c.args.toList.zipIdx.map fun (x, j) => val g ((c.argTypes[j]?).bind O.ty) x) = c.args.toList.zipIdx.map fun (x, j) => val g' ((c.argTypes[j]?).bind O.ty) x := List.map_congr_left fun p hp => by
    obtain ⟨x, j⟩ := p
    simp only [hx x (ha x (List.fst_mem_of_mem_zipIdx hp))]
   simp only [h1, h2]
  | invoke x n => rfl
 | _ => rfl
theorem execM_congr {tk : Bool} (hg : ∀ t, Operand.tmp t ∈ o.op.operands → g t = g' t) : execM O tk o g h = execM O tk o g' h := by
 have hx : ∀ x, x ∈ o.op.operands → ∀ t : Option Ty, val g t x = val g' t x := fun x hm t => val_congr fun k e => hg k (e ▸ hm)
 have hk : ∀ x, x ∈ o.op.operands → ∀ (b : Bool) (t : Option Ty), takeV b g t x = takeV b g' t x := fun x hm b t => takeV_congr fun k e => hg k (e ▸ hm)
 clear hg
 unfold execM
 cases hop : o.op with
 | makeSlice T l c => rw [hop] at hx; simp only [hx l (by simp [Op.operands]), hx c (by simp [Op.operands])]
 | binOp op T x y U => rw [hop] at hx; simp only [hx x (by simp [Op.operands])]
 | makeMap T r => cases r <;> rfl
 | lookup T x k ok => rw [hop] at hx; simp only [hx x (by simp [Op.operands]), hx k (by simp [Op.operands])]
 | mapUpdate T m k x => rw [hop] at hx; simp only [hx m (by simp [Op.operands]), hx k (by simp [Op.operands]), hx x (by simp [Op.operands])]
 | insert T m k x => rw [hop] at hx; simp only [hx m (by simp [Op.operands]), hx k (by simp [Op.operands]), hx x (by simp [Op.operands])]
 | store T x y => rw [hop] at hx; simp only [hx x (by simp [Op.operands]), hx y (by simp [Op.operands])]
 | box T x => rw [hop] at hx hk; simp only [boxT, hx x (by simp [Op.operands]), hk x (by simp [Op.operands])]
 | build T ps =>
  rw [hop] at hx
  have : ∀ t : Ty, (ps.toList.map fun (i, x) => (i, val g (pTy t [i]) x)) = ps.toList.map fun (i, x) => (i, val g' (pTy t [i]) x) := fun t => List.map_congr_left fun p hp => by
   obtain ⟨i, x⟩ := p
   simp only [hx x (by simp [Op.operands]; exact ⟨i, by simpa using hp⟩)]
  simp only [this]
 | buildSlice T n ps =>
  rw [hop] at hx
  have : ∀ t : Option Ty, (ps.toList.map fun (i, x) => (i, val g t x)) = ps.toList.map fun (i, x) => (i, val g' t x) := fun t => List.map_congr_left fun p hp => by
   obtain ⟨i, x⟩ := p
   simp only [hx x (by simp [Op.operands]; exact ⟨i, by simpa using hp⟩)]
  simp only [this]
 | call c =>
  rw [hop] at hx hk
  have ha : ∀ x ∈ c.args.toList, x ∈ (Op.call c).operands := fun x hm => by simp [Op.operands, Call.operands]; exact .inr (by simpa using hm)
  cases hc : c.callee with
  | builtin b =>
   cases b with
   | clear =>
    simp only [hc]
    split
    ·rename_i x e; simp only [hx x (ha x (by simp [e]))]
    ·rfl
   | append =>
    simp only [hc]
    split
    ·rename_i x y e; simp only [appR, hx x (ha x (by simp [e])), hx y (ha y (by simp [e])), hk x (ha x (by simp [e]))]
    ·rfl
   | _ => simp only [hc]
  | _ => simp only [hc]
 | _ => rfl
theorem exec_congr (hg : ∀ t, Operand.tmp t ∈ o.op.operands → g t = g' t) : exec O call draw f rid i o g h = exec O call draw f rid i o g' h := by
 unfold exec
 rw [execM_congr hg, exec0_congr hg]
end Go.Am
namespace Go.Am
variable {P : Program} {O : Orc} {call : CallF} {draw : Bool} {f : FuncId} {rid i j : Nat} {o : Oper} {r : Res} {ops : Array Oper} {g g' : Nat → AV} {h h' : Heap} {s s1 s2 : St}
theorem takeV_tk {tk : Bool} {t : Option Ty} {x : Operand} {k : Nat} (e : (takeV tk g t x).2 = some k) : tk = true ∧ x = .tmp k := by
 rcases takeV_spec (g := g) (tk := tk) (h := t) (x := x) with ⟨k', h1, h2, h3⟩ | h3
 ·rw [h3] at e; simp only [Option.some.injEq] at e; rw [← e]; exact ⟨h1, h2⟩
 ·rw [h3] at e; cases e
def Calm0 (O : Orc) (call : CallF) (draw : Bool) (f : FuncId) (rid i : Nat) (o : Oper) (g : Nat → AV) (h : Heap) (r : Res) : Prop :=
 (∀ k, r.tk = some k → O.take f rid i = true ∧ Operand.tmp k ∈ o.op.operands) ∧ r.h = h ∧ ∀ h', exec0 O call draw f rid i o g h' = some ⟨r.a, r.tk, h'⟩
theorem callT_A {tk : Bool} {X : List Key} {dst : Option Nat} {q : FuncId} {args : List AV} (he : callT O call draw tk X dst q args h = some r) : callA O call draw dst q args h = some r := by
 unfold callT at he
 split at he
 ·cases he
 ·simp only [Option.bind_eq_some_iff] at he
  obtain ⟨r', h1, h2⟩ := he
  rw [h1, (keepR_some h2).1]
theorem callA_calm {dst : Option Nat} {q : FuncId} {args : List AV} (he : callA O call true dst q args h = some r) : r.tk = none ∧ r.h = h ∧ ∀ h', callA O call true dst q args h' = some ⟨r.a, none, h'⟩ := by
 unfold callA at he
 simp only [forceKs_eq] at he
 split at he
 ·cases he
 ·rename_i hcond
  simp only [Bool.or_eq_true, not_or, Bool.true_and, Bool.not_eq_true'] at hcond
  obtain ⟨⟨⟨hdr, hkeys⟩, _⟩, hnd⟩ := hcond
  obtain ⟨hk0, ho0⟩ := (by simpa using hdr : reach h 50 (keysL (List.map AV.drop args)) [] = [] ∧ O.out q = [])
  rw [hk0] at he hkeys
  have hargs : keysL (List.map AV.drop args) = [] := by
   cases hq : keysL (List.map AV.drop args) with
   | nil => rfl
   | cons a l => rw [hq] at hkeys; simp at hkeys
  simp only [inObs, Option.bind_some, List.all_nil, Bool.not_true, Bool.false_eq_true, if_false, ho0, List.filter_nil, backIn, backOut, Option.bind_eq_some_iff] at he
  obtain ⟨p, hp, he⟩ := he
  split at he
  ·cases he
  ·rename_i hok
   simp only [Option.some.injEq] at he
   subst he
   refine ⟨rfl, rfl, fun h' => ?_⟩
   unfold callA
   simp only [forceKs_eq, hargs, reach, ho0, List.isEmpty_nil, Bool.and_self, Bool.not_true, Bool.and_false, List.all_nil, noDup, Bool.or_self, Bool.false_eq_true, if_false, inObs, Option.bind_some, List.filter_nil, hp, backIn, backOut]
   rw [if_neg hok]
theorem exec0_calm (hc : opClass (O.take f rid i) o.op = 0) (hdr : draw = true) (he : exec0 O call draw f rid i o g h = some r) : Calm0 O call draw f rid i o g h r := by
 subst hdr
 cases hop : o.op with
 | move x =>
  simp only [exec0, hop] at he
  cases he
  exact ⟨fun k hk => by obtain ⟨a, b⟩ := takeV_tk hk; exact ⟨a, by simp [Op.operands, hop, b]⟩, rfl, fun h' => by simp only [exec0, hop]⟩
 | assign x =>
  simp only [exec0, hop] at he
  cases he
  exact ⟨fun k hk => by obtain ⟨a, b⟩ := takeV_tk hk; exact ⟨a, by simp [Op.operands, hop, b]⟩, rfl, fun h' => by simp only [exec0, hop]⟩
 | pick c a b =>
  simp only [exec0, hop] at he
  split at he
  ·rename_i own x e
   cases he
   exact ⟨nofun, rfl, fun h' => by simp only [exec0, hop, e]⟩
  ·cases he
 | build T ps =>
  simp only [exec0, hop, Option.bind_eq_some_iff] at he
  obtain ⟨t, hT, he⟩ := he
  split at he
  ·cases he
  ·rename_i hag
   simp only [Option.map_eq_some_iff] at he
   obtain ⟨b, hb, rfl⟩ := he
   exact ⟨nofun, rfl, fun h' => by simp only [exec0, hop, hT, Option.bind_some, hb, Option.map_some, if_neg hag]⟩
 | buildSlice T n ps =>
  simp only [exec0, hop] at he
  split at he
  ·rename_i t hT
   split at he
   ·rename_i hn
    simp only [Option.map_eq_some_iff] at he
    obtain ⟨b, hb, rfl⟩ := he
    exact ⟨nofun, rfl, fun h' => by simp only [exec0, hop, hT, if_pos hn, hb, Option.map_some]⟩
   ·cases he
  ·cases he
 | nilCheck x =>
  simp only [exec0, hop] at he
  split at he
  ·rename_i k p e; cases he; exact ⟨nofun, rfl, fun h' => by simp only [exec0, hop, e]⟩
  ·rename_i k p e; cases he; exact ⟨nofun, rfl, fun h' => by simp only [exec0, hop, e]⟩
  ·rename_i k p e; cases he; exact ⟨nofun, rfl, fun h' => by simp only [exec0, hop, e]⟩
  ·cases he
 | binOp op T x y U =>
  simp only [exec0, hop, Option.map_eq_some_iff] at he
  obtain ⟨b, hb, rfl⟩ := he
  exact ⟨nofun, rfl, fun h' => by simp only [exec0, hop, hb, Option.map_some]⟩
 | unOp op T x =>
  simp only [exec0, hop, Option.map_eq_some_iff] at he
  obtain ⟨b, hb, rfl⟩ := he
  exact ⟨nofun, rfl, fun h' => by simp only [exec0, hop, hb, Option.map_some]⟩
 | convert T U x =>
  simp only [exec0, hop, Option.map_eq_some_iff] at he
  obtain ⟨b, hb, rfl⟩ := he
  exact ⟨nofun, rfl, fun h' => by simp only [exec0, hop, hb, Option.map_some]⟩
 | makeFunc q first caps =>
  cases q with
  | func q =>
   simp only [exec0, hop] at he
   cases he
   exact ⟨nofun, rfl, fun h' => by simp only [exec0, hop]⟩
  | _ => simp [exec0, hop] at he
 | slice T x lo hi mx =>
  simp only [exec0, hop, sliceA] at he
  cases mx with
  | none =>
   simp only at he
   split at he
   ·rename_i n t hT
    split at he
    ·rename_i q p e
     split at he
     ·rename_i hcd
      simp only [Option.bind_eq_some_iff] at he
      obtain ⟨d, hd, he⟩ := he
      have hd' : ∀ h', loadV O h' (.gp q p) = some d := fun h' => hd
      have hp' : ∀ h', (lo.isNone && hi.isNone && ptsTo O h' T (.gp q p)) = true := fun h' => hcd
      split at he
      ·rename_i n' t' l
       split at he
       ·rename_i ht
        subst ht
        split at he
        ·rename_i hn
         cases he
         exact ⟨nofun, rfl, fun h' => by simp only [exec0, hop, sliceA, hT, e, hp' h', if_true, hd' h', Option.bind_some, dif_pos trivial, if_pos hn]⟩
        ·cases he
       ·cases he
      ·cases he
     ·cases he
    ·cases he
   ·rename_i u hu
    simp only [Option.map_eq_some_iff] at he
    obtain ⟨b, hb, rfl⟩ := he
    refine ⟨fun k hk => by obtain ⟨a, b⟩ := takeV_tk hk; exact ⟨a, by simp [Op.operands, hop, b]⟩, rfl, fun h' => ?_⟩
    simp only [exec0, hop, sliceA]
    cases hT : O.ty T with
    | none => rw [hT] at hb; simp only [hb, Option.map_some]
    | some t =>
     cases t with
     | arr gw n t => exact absurd hT (hu gw n t)
     | _ => rw [hT] at hb; simp only [hb, Option.map_some]
  | some m =>
   cases hi with
   | none => cases he
   | some y =>
    simp only at he
    split at he
    ·rename_i hcd
     split at he
     ·rename_i t hT
      split at he
      ·cases he
      ·rename_i hns
       simp only [Option.map_eq_some_iff] at he
       obtain ⟨b, hb, rfl⟩ := he
       exact ⟨nofun, rfl, fun h' => by simp only [exec0, hop, sliceA, hcd, hT, if_neg hns, hb, Option.map_some]; simp⟩
     ·cases he
    ·cases he
 | field T x k =>
  simp only [exec0, hop] at he
  split at he
  ·rename_i own t y e
   split at he
   ·rename_i hT
    simp only [Option.map_eq_some_iff] at he
    obtain ⟨b, hb, rfl⟩ := he
    exact ⟨nofun, rfl, fun h' => by simp only [exec0, hop, e, if_pos hT, hb, Option.map_some]⟩
   ·cases he
  ·cases he
 | index T x k =>
  simp only [exec0, hop] at he
  split at he
  ·rename_i own t y e
   split at he
   ·rename_i hT
    simp only [Option.map_eq_some_iff] at he
    obtain ⟨b, hb, rfl⟩ := he
    exact ⟨nofun, rfl, fun h' => by simp only [exec0, hop, e, if_pos hT, hb, Option.map_some]⟩
   ·cases he
  ·cases he
 | extract x k =>
  simp only [exec0, hop] at he
  split at he
  ·rename_i l e
   simp only [Option.map_eq_some_iff] at he
   obtain ⟨b, hb, rfl⟩ := he
   exact ⟨nofun, rfl, fun h' => by simp only [exec0, hop, e, hb, Option.map_some]⟩
  ·cases he
 | call c =>
  simp only [exec0, hop, callO] at he
  cases hcl : c.callee with
  | builtin b =>
   rw [hcl] at he
   cases b with
   | len =>
    simp only at he
    split at he
    ·rename_i x e
     simp only [Option.map_eq_some_iff] at he
     obtain ⟨b, hb, rfl⟩ := he
     exact ⟨nofun, rfl, fun h' => by simp only [exec0, hop, callO, hcl, e, hb, Option.map_some]⟩
    ·cases he
   | max =>
    simp only at he
    split at he
    ·rename_i x y e
     simp only [Option.map_eq_some_iff] at he
     obtain ⟨b, hb, rfl⟩ := he
     exact ⟨nofun, rfl, fun h' => by simp only [exec0, hop, callO, hcl, e, hb, Option.map_some]⟩
    ·cases he
   | min =>
    simp only at he
    split at he
    ·rename_i x y e
     simp only [Option.map_eq_some_iff] at he
     obtain ⟨b, hb, rfl⟩ := he
     exact ⟨nofun, rfl, fun h' => by simp only [exec0, hop, callO, hcl, e, hb, Option.map_some]⟩
    ·cases he
   | append =>
    simp only at he
    split at he
    ·rename_i x y e
     simp only [Option.map_eq_some_iff] at he
     obtain ⟨b, hb, rfl⟩ := he
     refine ⟨fun k hk => ?_, rfl, fun h' => by simp only [exec0, hop, callO, hcl, e, hb, Option.map_some]⟩
     obtain ⟨a, b⟩ := takeV_tk hk
     refine ⟨a, ?_⟩
     rw [hop]
     simp only [Op.operands, Call.operands, hcl, Array.mem_append]
     refine .inr ?_
     rw [← Array.mem_toList_iff, e, b]
     exact List.mem_cons_self
    ·cases he
   | _ => simp at he
  | value x =>
   rw [hcl] at he
   simp only at he
   split at he
   ·rename_i q first caps e
    obtain ⟨c1, c2, c3⟩ := callA_calm (callT_A he)
    have htk : O.take f rid i = false := by
     cases htk : O.take f rid i with
     | false => rfl
     | true => rw [htk] at he; simp [callT] at he
    exact ⟨fun k hk => (by rw [c1] at hk; cases hk), c2, fun h' => by simp only [exec0, hop, callO, hcl, e, callT, htk, Bool.false_and, Bool.true_or, Bool.not_true, Bool.or_self, Bool.false_eq_true, if_false, c3 h', c1, Option.bind_some, keepR_same]⟩
   ·cases he
  | invoke x n => rw [hcl] at he; simp at he
 | load T x => rw [hop] at hc; simp only [opClass] at hc; split at hc <;> simp at hc
 | fieldAddr T x k => rw [hop] at hc; simp [opClass] at hc
 | indexAddr T x k => rw [hop] at hc; simp [opClass] at hc
 | store T x y => rw [hop] at hc; simp [opClass] at hc
 | alloc T => rw [hop] at hc; simp [opClass] at hc
 | box T x => rw [hop] at hc; simp [opClass] at hc
 | _ => simp [exec0, hop] at he
def Calm (O : Orc) (call : CallF) (draw : Bool) (f : FuncId) (rid i : Nat) (o : Oper) (g : Nat → AV) (h : Heap) (r : Res) : Prop :=
 (∀ k, r.tk = some k → O.take f rid i = true ∧ Operand.tmp k ∈ o.op.operands) ∧ r.h = h ∧ ∀ h', exec O call draw f rid i o g h' = some ⟨r.a, r.tk, h'⟩
theorem exec_calm (hc : cls O f rid i o = 0) (hdr : draw = true) (he : exec O call draw f rid i o g h = some r) : Calm O call draw f rid i o g h r := by
 unfold cls at hc
 unfold exec at he
 split at hc
 ·cases hc
 ·rename_i hm
  rw [if_neg hm] at he
  obtain ⟨a, b, c⟩ := exec0_calm hc hdr he
  exact ⟨a, b, fun h' => by unfold exec; rw [if_neg hm]; exact c h'⟩
end Go.Am
namespace Go.Am
variable {P : Program} {O : Orc} {call : CallF} {f : FuncId} {rid i j : Nat} {o : Oper} {r : Res} {ops : Array Oper} {g g' : Nat → AV} {h h' : Heap} {s s1 s2 : St}
theorem exec0_reads (hc : opClass (O.take f rid i) o.op = 1) (he : exec0 O call true f rid i o g h = some r) : r.tk = none ∧ r.h = h := by
 cases hop : o.op with
 | load T x =>
  have htk : O.take f rid i = false := by
   rw [hop] at hc; simp only [opClass] at hc
   cases ht : O.take f rid i with
   | false => rfl
   | true => rw [ht] at hc; simp at hc
  simp only [exec0, hop, loadA, htk, Option.bind_eq_some_iff] at he
  obtain ⟨d, _, he⟩ := he
  split at he
  ·simp only [Bool.false_eq_true, if_false] at he; cases he; exact ⟨rfl, rfl⟩
  ·cases he
 | fieldAddr T x k =>
  simp only [exec0, hop] at he
  split at he
  ·simp only [Option.map_eq_some_iff] at he
   obtain ⟨b, _, rfl⟩ := he; exact ⟨rfl, rfl⟩
  ·cases he
 | indexAddr T x k =>
  simp only [exec0, hop] at he
  split at he
  ·split at he
   ·simp only [Option.map_eq_some_iff] at he
    obtain ⟨b, _, rfl⟩ := he; exact ⟨rfl, rfl⟩
   ·cases he
  ·simp only [Option.map_eq_some_iff] at he
   obtain ⟨b, _, rfl⟩ := he; exact ⟨rfl, rfl⟩
 | _ => rw [hop] at hc; simp [opClass] at hc
theorem exec0_tk (he : exec0 O call true f rid i o g h = some r) {k : Nat} (hk : r.tk = some k) : O.take f rid i = true ∧ Operand.tmp k ∈ o.op.operands := by
 rcases Nat.lt_trichotomy (opClass (O.take f rid i) o.op) 1 with hc | hc | hc
 ·exact (exec0_calm (by omega) rfl he).1 k hk
 ·rw [(exec0_reads hc he).1] at hk; cases hk
 ·cases hop : o.op with
  | load T x =>
   simp only [exec0, hop, loadA, Option.bind_eq_some_iff] at he
   obtain ⟨d, _, he⟩ := he
   split at he
   ·split at he
    ·split at he
     ·simp only [Option.bind_eq_some_iff, Option.some.injEq] at he
      obtain ⟨b, _, rfl⟩ := he; cases hk
     ·cases he
    ·cases he; cases hk
   ·cases he
  | store T x y =>
   simp only [exec0, hop, Option.bind_eq_some_iff] at he
   obtain ⟨d, _, he⟩ := he
   split at he
   ·simp only [Option.map_eq_some_iff] at he
    obtain ⟨h', _, rfl⟩ := he
    obtain ⟨a, b⟩ := takeV_tk hk
    exact ⟨a, by simp [Op.operands, b]⟩
   ·cases he
  | alloc T =>
   simp only [exec0, hop, Option.bind_eq_some_iff] at he
   obtain ⟨t, _, he⟩ := he
   obtain ⟨d, _, _, rfl⟩ := allocA_some he
   cases hk
  | box T x =>
   simp only [exec0, hop, Option.bind_eq_some_iff] at he
   obtain ⟨t, _, he⟩ := he
   split at he
   ·obtain ⟨d, _, _, rfl⟩ := allocA_some he
    cases hk
   ·cases he
  | _ => rw [hop] at hc; simp [opClass] at hc
theorem mkVec_tk {d : Option Nat} {t : Ty} {n : Nat} (he : mkVec h d t n = some r) : r.tk = none := by
 unfold mkVec at he
 split at he
 ·split at he
  ·cases he; rfl
  ·cases he
 ·cases he
theorem mkVecL_tk {d : Option Nat} {t : Ty} {l : List (den t)} (he : mkVecL h d t l = some r) : r.tk = none := by
 unfold mkVecL at he
 split at he
 ·split at he
  ·cases he; rfl
  ·cases he
 ·cases he
theorem appE_tk {T U : Option Ty} {x y : AV} (he : appE T U h x y = some r) : r.tk = none := by
 unfold appE at he
 split at he
 ·split at he
  ·split at he
   ·split at he
    ·split at he
     ·simp only [Option.map_eq_some_iff] at he
      obtain ⟨b, _, rfl⟩ := he
      rfl
     ·cases he
    ·cases he
   ·cases he
  ·cases he
 ·cases he
theorem nilVec_tk {T : Option Ty} {d : Option Nat} {x : Operand} (he : nilVec T h d x = some r) : r.tk = none := by
 unfold nilVec at he
 split at he
 ·exact mkVec_tk he
 ·cases he
theorem appVec_tk {t : Ty} {x : SR} {m : List (den t)} (he : appVec h t x m = some r) : r.tk = none := by
 unfold appVec at he
 split at he
 ·split at he
  ·split at he
   ·split at he
    ·cases he; rfl
    ·cases he
   ·cases he
  ·cases he
 ·cases he
theorem appM_tk {T U : Option Ty} {x y : AV} (he : appM T U h x y = some r) : r.tk = none := by
 unfold appM at he
 split at he
 ·split at he
  ·split at he
   ·split at he
    ·exact appVec_tk he
    ·cases he
   ·cases he
  ·cases he
 ·cases he
theorem nilCmp_tk {T : Option Ty} {op : BinOp} {x : AV} {y : Operand} (he : nilCmp T op x y h = some r) : r.tk = none := by
 unfold nilCmp at he
 split at he
 ·split at he
  ·split at he
   ·split at he
    ·split at he
     ·cases he; rfl
     ·cases he; rfl
     ·cases he
    ·cases he
   ·cases he
  ·split at he
   ·split at he
    ·cases he; rfl
    ·cases he; rfl
    ·cases he
   ·cases he
  ·cases he
 ·cases he
theorem mkMap_tk {d : Option Nat} {T : Option Ty} (he : mkMap h d T = some r) : r.tk = none := by
 unfold mkMap at he
 split at he
 ·split at he
  ·cases he; rfl
  ·cases he
 ·cases he
theorem allocG_tk {d : Option Nat} {t : Ty} (he : allocG h d t = some r) : r.tk = none := by
 unfold allocG at he
 split at he
 ·split at he
  ·simp only [Option.map_eq_some_iff] at he
   obtain ⟨y, _, rfl⟩ := he
   rfl
  ·cases he
 ·cases he
theorem buildG_tk {d : Option Nat} {t : Ty} {b : AV} (he : buildG h d t b = some r) : r.tk = none := by
 unfold buildG at he
 split at he
 ·split at he
  ·split at he
   ·simp only [Option.bind_eq_some_iff] at he
    obtain ⟨_, _, _, _, he⟩ := he
    split at he
    ·simp only [Option.map_eq_some_iff] at he
     obtain ⟨y, _, rfl⟩ := he
     rfl
    ·cases he
   ·cases he
  ·cases he
 ·cases he
theorem storeNil_tk {T : Option Ty} {b : AV} (he : storeNil T h b = some r) : r.tk = none := by
 unfold storeNil at he
 split at he
 ·simp only [Option.bind_eq_some_iff] at he
  obtain ⟨_, _, _, _, _, _, he⟩ := he
  split at he
  ·split at he
   ·split at he
    ·simp only [Option.map_eq_some_iff] at he
     obtain ⟨y, _, rfl⟩ := he
     rfl
    ·cases he
   ·cases he
  ·cases he
 ·cases he
theorem storeFz_tk {T : Option Ty} {b x : AV} (he : storeFz T h b x = some r) : r.tk = none := by
 unfold storeFz at he
 split at he
 ·split at he
  ·split at he
   ·split at he
    ·split at he
     ·simp only [Option.bind_eq_some_iff, Option.map_eq_some_iff] at he
      obtain ⟨_, _, y, _, rfl⟩ := he
      rfl
     ·cases he
    ·cases he
   ·cases he
  ·cases he
 ·cases he
theorem clearM_tk {T : Option Ty} {b : AV} (he : clearM T h b = some r) : r.tk = none := by
 unfold clearM at he
 split at he
 ·split at he
  ·split at he
   ·split at he
    ·split at he
     ·cases he; rfl
     ·cases he
    ·cases he
   ·cases he
  ·cases he
 ·cases he
theorem execM_tk {tk : Bool} (he : execM O tk o g h = some r) {k : Nat} (hk : r.tk = some k) : tk = true ∧ Operand.tmp k ∈ o.op.operands := by
 have no : r.tk = none → tk = true ∧ Operand.tmp k ∈ o.op.operands := fun e => by rw [e] at hk; cases hk
 unfold execM at he
 split at he
 ·split at he
  ·split at he
   ·exact no (mkVec_tk he)
   ·cases he
  ·cases he
 ·exact no (nilVec_tk he)
 ·exact no (nilVec_tk he)
 ·exact no (nilCmp_tk he)
 ·exact no (mkMap_tk he)
 ·simp only [Option.map_eq_some_iff] at he
  obtain ⟨b, _, rfl⟩ := he
  exact no rfl
 ·simp only [Option.map_eq_some_iff] at he
  obtain ⟨b, _, rfl⟩ := he
  exact no rfl
 ·simp only [Option.map_eq_some_iff] at he
  obtain ⟨b, _, rfl⟩ := he
  exact no rfl
 ·simp only [Option.bind_eq_some_iff] at he
  obtain ⟨t, _, he⟩ := he
  exact no (allocG_tk he)
 ·simp only [Option.bind_eq_some_iff] at he
  obtain ⟨t, _, he⟩ := he
  split at he
  ·cases he
  ·simp only [Option.bind_eq_some_iff] at he
   obtain ⟨b, _, he⟩ := he
   exact no (buildG_tk he)
 ·rename_i hop
  split at he
  ·simp only [Option.bind_eq_some_iff] at he
   obtain ⟨b, _, he⟩ := he
   split at he
   ·cases he; exact no rfl
   ·cases he
  ·simp only [boxT, Option.bind_eq_some_iff] at he
   obtain ⟨b, _, he⟩ := he
   split at he
   ·simp only [Option.map_eq_some_iff] at he
    obtain ⟨c, _, rfl⟩ := he
    obtain ⟨a, b⟩ := takeV_tk hk
    exact ⟨a, by simp [Op.operands, hop, b]⟩
   ·cases he
 ·split at he
  ·split at he
   ·exact no (mkVec_tk he)
   ·split at he
    ·simp only [Option.bind_eq_some_iff] at he
     obtain ⟨b, _, he⟩ := he
     split at he
     ·exact no (mkVecL_tk he)
     ·cases he; exact no rfl
    ·cases he
  ·cases he
 ·split at he
  ·exact no (storeNil_tk he)
  ·exact no (storeFz_tk he)
 ·rename_i c hop
  split at he
  ·split at he
   ·exact no (clearM_tk he)
   ·cases he
  ·rename_i hc
   split at he
   ·rename_i x y hxy
    split at he
    ·split at he
     ·exact no (appE_tk he)
     ·exact no (appM_tk he)
    ·unfold appR at he
     split at he
     ·simp only [Option.map_eq_some_iff] at he
      obtain ⟨b, hb, rfl⟩ := he
      obtain ⟨a, b⟩ := takeV_tk hk
      refine ⟨a, ?_⟩
      rw [hop]
      simp only [Op.operands, Call.operands, hc, Array.mem_append]
      refine .inr ?_
      rw [← Array.mem_toList_iff, hxy, b]
      exact List.mem_cons_self
     ·cases he
   ·cases he
  ·cases he
 ·cases he
theorem exec_reads (hc : cls O f rid i o = 1) (he : exec O call true f rid i o g h = some r) : r.tk = none ∧ r.h = h := by
 unfold cls at hc
 unfold exec at he
 split at hc
 ·cases hc
 ·rename_i hm
  rw [if_neg hm] at he
  exact exec0_reads hc he
theorem exec_tk (he : exec O call true f rid i o g h = some r) {k : Nat} (hk : r.tk = some k) : O.take f rid i = true ∧ Operand.tmp k ∈ o.op.operands := by
 unfold exec at he
 split at he
 ·exact execM_tk he hk
 ·exact exec0_tk he hk
theorem opReads_op {o : Oper} {t : Nat} (h : Operand.tmp t ∈ o.op.operands) : t ∈ opReads ops o := by
 unfold opReads
 refine List.mem_append_left _ (List.mem_filterMap.2 ⟨.tmp t, by simpa using h, rfl⟩)
theorem yieldA_congr {j : Nat} (hg : ∀ t, (ops[j]?).bind (·.dst) = some t → g t = g' t) : yieldA ops g j = yieldA ops g' j := by
  unfold yieldA
  cases hd : (ops[j]?).bind (·.dst) with
  | none => rfl
  | some d => simp only [hg d hd]
theorem stepG_congr (hg : ∀ t ∈ opReads ops o, g t = g' t) : stepG O call true f rid ops i o g h = stepG O call true f rid ops i o g' h := by
 unfold stepG
 have he := exec_congr (O := O) (call := call) (draw := true) (f := f) (rid := rid) (i := i) (o := o) (h := h) (g := g) (g' := g') fun t ht => hg t (opReads_op ht)
 cases hgd : o.guard with
 | none => simp only [he]
 | some jb =>
  obtain ⟨j, b⟩ := jb
  have hy := yieldA_congr (ops := ops) (g := g) (g' := g') (j := j) fun t ht => hg t (by
   unfold opReads
   refine List.mem_append_right _ ?_
   simp [hgd, ht])
  simp only [he, hy]
theorem stepG_cases (he : stepG O call true f rid ops i o g h = some r) : (exec O call true f rid i o g h = some r ∧ ∀ h', stepG O call true f rid ops i o g h' = exec O call true f rid i o g h') ∨ (r = ⟨.no, none, h⟩ ∧ ∀ h', stepG O call true f rid ops i o g h' = some ⟨.no, none, h'⟩) := by
 unfold stepG at he
 cases hgd : o.guard with
 | none => rw [hgd] at he; exact .inl ⟨he, fun h' => by unfold stepG; rw [hgd]⟩
 | some jb =>
  obtain ⟨j, b⟩ := jb
  rw [hgd] at he
  simp only at he
  cases hy : yieldA ops g j with
  | none => rw [hy] at he; cases he
  | some y =>
   rw [hy] at he
   cases y with
   | none => simp only [Option.some.injEq] at he; exact .inr ⟨he.symm, fun h' => by unfold stepG; rw [hgd]; simp only [hy]⟩
   | some x =>
    simp only at he
    cases hx : (x == b) with
    | true => rw [hx] at he; exact .inl ⟨he, fun h' => by unfold stepG; rw [hgd]; simp only [hy, hx, cond_true]⟩
    | false =>
     rw [hx] at he
     simp only [cond_false, Option.some.injEq] at he
     exact .inr ⟨he.symm, fun h' => by unfold stepG; rw [hgd]; simp only [hy, hx, cond_false]⟩
theorem stepG_calm (hc : cls O f rid i o = 0) (he : stepG O call true f rid ops i o g h = some r) : r.h = h ∧ ∀ h', stepG O call true f rid ops i o g h' = some ⟨r.a, r.tk, h'⟩ := by
 rcases stepG_cases he with ⟨h1, h2⟩ | ⟨rfl, h2⟩
 ·obtain ⟨_, c1, c2⟩ := exec_calm hc rfl h1
  exact ⟨c1, fun h' => (h2 h').trans (c2 h')⟩
 ·exact ⟨rfl, h2⟩
theorem stepG_reads (hc : cls O f rid i o = 1) (he : stepG O call true f rid ops i o g h = some r) : r.h = h := by
 rcases stepG_cases he with ⟨h1, h2⟩ | ⟨rfl, h2⟩
 ·exact (exec_reads hc h1).2
 ·rfl
theorem stepG_tk (he : stepG O call true f rid ops i o g h = some r) {k : Nat} (hk : r.tk = some k) : k ∈ opWrites (O.take f rid i) o := by
 rcases stepG_cases he with ⟨h1, h2⟩ | ⟨rfl, h2⟩
 ·obtain ⟨a, b⟩ := exec_tk h1 hk
  unfold opWrites
  rw [a]
  refine List.mem_append_right _ ?_
  simp only [if_true]
  exact List.mem_filterMap.2 ⟨.tmp k, by simpa using b, rfl⟩
 ·cases hk
theorem dst_writes {o : Oper} {d : Nat} {b : Bool} (h : o.dst = some d) : d ∈ opWrites b o := by
 unfold opWrites; rw [h]; exact List.mem_append_left _ (by simp)
theorem get_app (s : St) (d : Option Nat) (r : Res) (t : Nat) : (s.app d r).get t = if d = some t ∧ t < s.env.length then r.a else if r.tk = some t then (s.get t).drop else s.get t := by
 rw [app_eq]
 show ((takeE s.env r.tk).set (d.getD s.env.length) r.a).getD t .any = _
 rw [getD_set, takeE_get]
 have hl : (takeE s.env r.tk).length = s.env.length := by cases r.tk <;> simp [takeE]
 rw [hl]
 have e : (if some t = r.tk then (s.env.getD t .any).drop else s.env.getD t .any) = if r.tk = some t then (s.get t).drop else s.get t := by
  by_cases hk : r.tk = some t
  ·rw [if_pos hk, if_pos hk.symm]; rfl
  ·rw [if_neg hk, if_neg (fun h => hk h.symm)]; rfl
 rw [e]
 cases d with
 | none => simp only [Option.getD_none]; rw [if_neg (show ¬ (t = s.env.length ∧ s.env.length < s.env.length) by omega), if_neg (show ¬ ((none : Option Nat) = some t ∧ t < s.env.length) by simp)]
 | some d =>
  simp only [Option.getD_some, Option.some.injEq]
  by_cases h1 : t = d
  ·subst h1
   by_cases h2 : t < s.env.length
   ·simp [h2]
   ·simp [h2]
  ·rw [if_neg (show ¬ (t = d ∧ d < s.env.length) from fun h => h1 h.1), if_neg (show ¬ (d = t ∧ t < s.env.length) from fun h => h1 h.1.symm)]
theorem st_ext {s s' : St} (h1 : s.env.length = s'.env.length) (h2 : ∀ t, s.get t = s'.get t) (h3 : s.heap = s'.heap) : s = s' := by
 obtain ⟨e, h⟩ := s
 obtain ⟨e', h'⟩ := s'
 simp only at h1 h3
 subst h3
 congr 1
 refine List.ext_getElem h1 fun n hn hn' => ?_
 have := h2 n
 simp only [St.get, List.getD_eq_getElem?_getD, List.getElem?_eq_getElem hn, List.getElem?_eq_getElem hn', Option.getD_some] at this
 exact this
theorem step_comm (ha : apart O f rid ops i j = true) (h1 : step O call true f rid ops i s = some s1) (h2 : step O call true f rid ops j s1 = some s2) :
  ∃ s1', step O call true f rid ops j s = some s1' ∧ step O call true f rid ops i s1' = some s2 := by
 unfold apart apartS at ha
 unfold step at h1 h2
 cases hi : ops[i]? with
 | none => rw [hi] at h1; cases h1
 | some a =>
  cases hj : ops[j]? with
  | none => rw [hj] at h2; cases h2
  | some b =>
   rw [hi] at h1
   rw [hj] at h2
   rw [hi, hj] at ha
   simp only [Bool.and_eq_true, Bool.or_eq_true, beq_iff_eq, List.all_eq_true, Bool.not_eq_true'] at ha
   obtain ⟨hcl, hw1, hw2⟩ := ha
   simp only [Option.map_eq_some_iff] at h1 h2
   obtain ⟨r1, e1, rfl⟩ := h1
   obtain ⟨r2, e2, rfl⟩ := h2
   have w1 : ∀ d ∈ opWrites (O.take f rid i) a, d ∉ opReads ops b ∧ d ∉ opWrites (O.take f rid j) b := fun d hd => by
    obtain ⟨x, y⟩ := hw1 d hd
    exact ⟨fun hm => (by have := List.contains_iff_mem.2 hm; rw [x] at this; cases this), fun hm => (by have := List.contains_iff_mem.2 hm; rw [y] at this; cases this)⟩
   have w2 : ∀ d ∈ opWrites (O.take f rid j) b, d ∉ opReads ops a := fun d hd hm => by
    have x := hw2 d hd
    have := List.contains_iff_mem.2 hm
    rw [x] at this; cases this
   have k1 : ∀ t, a.dst = some t → t ∈ opWrites (O.take f rid i) a := fun t ht => dst_writes ht
   have k2 : ∀ t, b.dst = some t → t ∈ opWrites (O.take f rid j) b := fun t ht => dst_writes ht
   have g1 : ∀ t ∈ opReads ops b, s.get t = (s.app a.dst r1).get t := by
    intro t ht
    rw [get_app, if_neg, if_neg]
    ·intro hk; exact (w1 t (stepG_tk e1 hk)).1 ht
    ·rintro ⟨hd, _⟩; exact (w1 t (k1 t hd)).1 ht
   have hh : (s.app a.dst r1).heap = r1.h := by rw [app_eq]
   rw [hh] at e2
   have e2' : stepG O call true f rid ops j b s.get r1.h = some r2 := (stepG_congr g1).trans e2
   have fin : ∀ r2' : Res, stepG O call true f rid ops j b s.get s.heap = some r2' → r2'.a = r2.a → r2'.tk = r2.tk → (∀ g', (∀ t ∈ opReads ops a, s.get t = g' t) → ∃ r1', stepG O call true f rid ops i a g' r2'.h = some r1' ∧ r1'.a = r1.a ∧ r1'.tk = r1.tk ∧ r1'.h = r2.h) →
     ∃ s1', step O call true f rid ops j s = some s1' ∧ step O call true f rid ops i s1' = some ((s.app a.dst r1).app b.dst r2) := by
    intro r2' b1 b2 b3 b4
    refine ⟨s.app b.dst r2', ?_, ?_⟩
    ·unfold step; rw [hj]; simp only [b1, Option.map_some]
    ·unfold step; rw [hi]
     have hh' : (s.app b.dst r2').heap = r2'.h := by rw [app_eq]
     obtain ⟨r1', c1, c2, c3, c4⟩ := b4 (s.app b.dst r2').get (fun t ht => by
      rw [get_app, if_neg, if_neg]
      ·intro hk; rw [b3] at hk; exact w2 t (stepG_tk e2' hk) ht
      ·rintro ⟨hd, _⟩; exact w2 t (k2 t hd) ht)
     simp only [hh', c1, Option.map_some, Option.some.injEq]
     refine st_ext (by simp only [app_len]) (fun t => ?_) ?_
     ·simp only [get_app, app_len, c2, c3, b2, b3]
      by_cases ta : t ∈ opWrites (O.take f rid i) a
      ·have tb := (w1 t ta).2
       have n1 : ¬ (b.dst = some t ∧ t < s.env.length) := fun hd => tb (k2 t hd.1)
       have n2 : ¬ r2.tk = some t := fun hk => tb (stepG_tk e2' hk)
       simp only [if_neg n1, if_neg n2]
      ·have n1 : ¬ (a.dst = some t ∧ t < s.env.length) := fun hd => ta (k1 t hd.1)
       have n2 : ¬ r1.tk = some t := fun hk => ta (stepG_tk e1 hk)
       simp only [if_neg n1, if_neg n2]
     ·rw [app_eq, app_eq]; exact c4
   have hcong : ∀ (h' : Heap) (g' : Nat → AV), (∀ t ∈ opReads ops a, s.get t = g' t) → stepG O call true f rid ops i a g' h' = stepG O call true f rid ops i a s.get h' := fun h' g' hg => (stepG_congr hg).symm
   rcases hcl with (hca | hcb) | ⟨hca, hcb⟩
   ·obtain ⟨m1, m2⟩ := stepG_calm hca e1
    rw [m1] at e2'
    refine fin r2 e2' rfl rfl fun g' hg => ⟨⟨r1.a, r1.tk, r2.h⟩, ?_, rfl, rfl, rfl⟩
    rw [hcong _ _ hg]; exact m2 _
   ·obtain ⟨m1, m2⟩ := stepG_calm hcb e2'
    refine fin ⟨r2.a, r2.tk, s.heap⟩ (m2 _) rfl rfl fun g' hg => ⟨r1, ?_, rfl, rfl, m1.symm⟩
    rw [hcong _ _ hg]; exact e1
   ·have m1 := stepG_reads hca e1
    have m2 := stepG_reads hcb e2'
    rw [m1] at e2'
    refine fin r2 e2' rfl rfl fun g' hg => ⟨r1, ?_, rfl, rfl, m2.symm⟩
    rw [hcong _ _ hg, m2, m1]; exact e1
theorem steps_front : ∀ (pre post : List Nat) (s s' : St), (∀ x ∈ pre, apart O f rid ops x i = true) → steps O call true f rid ops (pre ++ i :: post) s = some s' →
  ∃ s1, step O call true f rid ops i s = some s1 ∧ steps O call true f rid ops (pre ++ post) s1 = some s'
 | [], post, s, s', _, h => by
  simp only [List.nil_append, steps, Option.bind_eq_some_iff] at h
  exact h
 | x :: pre, post, s, s', ha, h => by
  simp only [List.cons_append, steps, Option.bind_eq_some_iff] at h
  obtain ⟨sx, h1, h2⟩ := h
  obtain ⟨s2, h3, h4⟩ := steps_front pre post sx s' (fun y hy => ha y (List.mem_cons_of_mem _ hy)) h2
  obtain ⟨s1, h5, h6⟩ := step_comm (ha x List.mem_cons_self) h1 h3
  refine ⟨s1, h5, ?_⟩
  simp only [List.cons_append, steps, h6, Option.bind_some]
  exact h4
end Go.Am
namespace Go.Am
variable {P : Program} {O : Orc} {FB : Nat → Nat → Prop} {call : CallF} {f : FuncId} {rid i j : Nat} {o : Oper} {r : Res} {ops : Array Oper} {Q : Exit → Act → World → Prop}
theorem aheadOf_bit {acc : List Nat} {x : Nat} : ∀ (es : List Edge) (s : Nat), (aheadOf acc es s).testBit x = true → s.testBit x = true ∨ ∃ e ∈ es, Region.binds .any e = true ∧ (x = e.on ∨ (acc.getD e.on 0).testBit x = true)
 | [], s, h => .inl h
 | e :: es, s, h => by
  simp only [aheadOf] at h
  rcases aheadOf_bit es _ h with h | ⟨e', h1, h2⟩
  ·split at h
   ·rename_i hb
    simp only [Nat.testBit_or, Bool.or_eq_true, Nat.testBit_two_pow, decide_eq_true_eq] at h
    rcases h with (h | h) | h
    ·exact .inl h
    ·exact .inr ⟨e, List.mem_cons_self, hb, .inl h.symm⟩
    ·exact .inr ⟨e, List.mem_cons_self, hb, .inr h⟩
   ·exact .inl h
  ·exact .inr ⟨e', List.mem_cons_of_mem _ h1, h2⟩
theorem aheads_spec : ∀ (l : List Oper) (acc : List Nat), ∃ m, aheads l acc = acc ++ m ∧ ∀ k o, l[k]? = some o → (acc ++ m).getD (acc.length + k) 0 = aheadOf ((acc ++ m).take (acc.length + k)) o.after.toList 0
 | [], acc => ⟨[], by simp [aheads], fun k o h => by simp at h⟩
 | o :: l, acc => by
  obtain ⟨m, h1, h2⟩ := aheads_spec l (acc ++ [aheadOf acc o.after.toList 0])
  refine ⟨aheadOf acc o.after.toList 0 :: m, by simp only [aheads, h1]; simp, fun k o' hk => ?_⟩
  have e : acc ++ aheadOf acc o.after.toList 0 :: m = acc ++ [aheadOf acc o.after.toList 0] ++ m := by simp
  cases k with
  | zero =>
   simp only [List.getElem?_cons_zero, Option.some.injEq] at hk
   subst hk
   simp
  | succ k =>
   rw [List.getElem?_cons_succ] at hk
   have := h2 k o' hk
   rw [e, show acc.length + (k + 1) = (acc ++ [aheadOf acc o.after.toList 0]).length + k by simp; omega]
   exact this
def ah (ops : Array Oper) (i : Nat) : Nat := (aheads ops.toList []).getD i 0
theorem ah_bit {x : Nat} (ho : ops[i]? = some o) (h : (ah ops i).testBit x = true) : ∃ e ∈ o.after.toList, Region.binds .any e = true ∧ (x = e.on ∨ (ah ops e.on).testBit x = true) := by
 obtain ⟨m, h1, h2⟩ := aheads_spec ops.toList []
 simp only [List.nil_append, List.length_nil, Nat.zero_add] at h1 h2
 have := h2 i o (by simpa using ho)
 unfold ah at h ⊢
 rw [h1] at h ⊢
 rw [this] at h
 rcases aheadOf_bit _ _ h with h | ⟨e, e1, e2, e3⟩
 ·simp at h
 ·refine ⟨e, e1, e2, ?_⟩
  rcases e3 with e3 | e3
  ·exact .inl e3
  ·refine .inr ?_
   simp only [List.getD_eq_getElem?_getD, List.getElem?_take] at e3 ⊢
   split at e3
   ·exact e3
   ·simp at e3
def Cl (ops : Array Oper) (listed : Array Bool) : Prop := ∀ i o, ops[i]? = some o → listed.getD i false = true → ∀ e ∈ o.after.toList, Region.binds .any e = true → listed.getD e.on false = true
def Rest (ops : Array Oper) (listed : Array Bool) : List Nat := (List.range ops.size).filter fun i => !listed.getD i true
theorem getD_tf {listed : Array Bool} {i : Nat} (h : i < listed.size) (b : Bool) : listed.getD i b = listed.getD i false := by
 simp [Array.getD_eq_getD_getElem?, h]
theorem fwd_lt (hf : fwdOk ops = true) (ho : ops[i]? = some o) {e : Edge} (he : e ∈ o.after.toList) (hb : Region.binds .any e = true) : e.on < i := by
 unfold fwdOk at hf
 have hi : i < ops.size := by
  rcases Nat.lt_or_ge i ops.size with h | h
  ·exact h
  ·rw [Array.getElem?_eq_none h] at ho; cases ho
 have := List.all_eq_true.1 hf i (List.mem_range.2 hi)
 rw [ho] at this
 have := List.all_eq_true.1 this e he
 simpa [hb] using this
theorem Cl.ahead {listed : Array Bool} (hf : fwdOk ops = true) (hs : listed.size = ops.size) (hc : Cl ops listed) : ∀ (n i : Nat), i < n → i < ops.size → listed.getD i false = true → ∀ x, (ah ops i).testBit x = true → listed.getD x false = true
 | 0, _, h, _, _, _, _ => by omega
 | n + 1, i, h, hi, hl, x, hx => by
  obtain ⟨e, e1, e2, e3⟩ := ah_bit (Array.getElem?_eq_getElem hi) hx
  have hle := hc i _ (Array.getElem?_eq_getElem hi) hl e e1 e2
  rcases e3 with rfl | e3
  ·exact hle
  ·have := fwd_lt hf (Array.getElem?_eq_getElem hi) e1 e2
   exact Cl.ahead hf hs hc n e.on (by omega) (by omega) hle x e3
theorem ready_iff {listed : Array Bool} {i : Nat} : i ∈ Region.ready .any ops listed ↔ i < ops.size ∧ listed.getD i true = false ∧ ∀ o, ops[i]? = some o → ∀ e ∈ o.after.toList, Region.binds .any e = true → listed.getD e.on false = true := by
 unfold Region.ready
 rw [List.mem_filter, List.mem_range]
 constructor
 ·rintro ⟨h1, h2⟩
  simp only [Bool.and_eq_true, Bool.not_eq_true'] at h2
  refine ⟨h1, h2.1, fun o ho e he hb => ?_⟩
  have h3 := h2.2
  rw [ho] at h3
  simp only [Option.map_some, Option.getD_some] at h3
  rw [← Array.all_toList, List.all_eq_true] at h3
  have := h3 e he
  simpa [hb] using this
 ·rintro ⟨h1, h2, h3⟩
  refine ⟨h1, ?_⟩
  simp only [Bool.and_eq_true, Bool.not_eq_true']
  refine ⟨h2, ?_⟩
  rw [Array.getElem?_eq_getElem h1]
  simp only [Option.map_some, Option.getD_some]
  rw [← Array.all_toList, List.all_eq_true]
  intro e he
  cases hb : Region.binds .any e with
  | false => simp
  | true => simpa using h3 _ (Array.getElem?_eq_getElem h1) e he hb
theorem mem_rest {listed : Array Bool} {i : Nat} : i ∈ Rest ops listed ↔ i < ops.size ∧ listed.getD i true = false := by
 unfold Rest; rw [List.mem_filter, List.mem_range]; simp
theorem exists_ready (hf : fwdOk ops = true) {listed : Array Bool} (hs : listed.size = ops.size) : ∀ (n k : Nat), k < n → k ∈ Rest ops listed → ∃ i, i ∈ Region.ready .any ops listed
 | 0, _, h, _ => by omega
 | n + 1, k, h, hk => by
  obtain ⟨h1, h2⟩ := mem_rest.1 hk
  by_cases hr : ∀ o, ops[k]? = some o → ∀ e ∈ o.after.toList, Region.binds .any e = true → listed.getD e.on false = true
  ·exact ⟨k, ready_iff.2 ⟨h1, h2, hr⟩⟩
  ·simp only [Classical.not_forall] at hr
   obtain ⟨o, ho, e, he, hb, hn⟩ := hr
   have hlt := fwd_lt hf ho he hb
   refine exists_ready hf hs n e.on (by omega) (mem_rest.2 ⟨by omega, ?_⟩)
   rw [getD_tf (by omega)]
   simpa using hn
theorem range_split {n i : Nat} (h : i < n) : List.range n = List.range i ++ i :: (List.range (n - i - 1)).map (fun x => i + 1 + x) := by
 have : n = i + (1 + (n - i - 1)) := by omega
 conv => lhs; rw [this, List.range_add, List.range_add]
 simp [Nat.add_assoc]
theorem rest_split {listed : Array Bool} {i : Nat} (hs : listed.size = ops.size) (hi : i ∈ Rest ops listed) : ∃ pre post, Rest ops listed = pre ++ i :: post ∧ Rest ops (listed.setIfInBounds i true) = pre ++ post ∧ ∀ x ∈ pre, x < i ∧ x ∈ Rest ops listed := by
 obtain ⟨h1, h2⟩ := mem_rest.1 hi
 have hget : ∀ x, x ≠ i → (listed.setIfInBounds i true).getD x true = listed.getD x true := fun x hx => by
  simp only [Array.getD_eq_getD_getElem?, Array.getElem?_setIfInBounds]
  rw [if_neg (fun e => hx e.symm)]
 have hgi : (listed.setIfInBounds i true).getD i true = true := by
  simp only [Array.getD_eq_getD_getElem?, Array.getElem?_setIfInBounds]
  simp [hs, h1]
 have e1 : ∀ l : List Nat, (∀ x ∈ l, x ≠ i) → l.filter (fun x => !(listed.setIfInBounds i true).getD x true) = l.filter fun x => !listed.getD x true := fun l hl => by
  apply List.filter_congr
  intro x hx
  rw [hget x (hl x hx)]
 refine ⟨(List.range i).filter (fun x => !listed.getD x true), ((List.range (ops.size - i - 1)).map (fun x => i + 1 + x)).filter (fun x => !listed.getD x true), ?_, ?_, fun x hx => ?_⟩
 ·unfold Rest
  rw [range_split h1, List.filter_append, List.filter_cons]
  simp [h2]
 ·unfold Rest
  rw [range_split h1, List.filter_append, List.filter_cons, hgi, e1, e1]
  ·simp
  ·intro x hx
   obtain ⟨y, _, rfl⟩ := List.mem_map.1 hx
   omega
  ·intro x hx
   have := List.mem_range.1 hx
   omega
 ·obtain ⟨hx1, hx2⟩ := List.mem_filter.1 hx
  have := List.mem_range.1 hx1
  exact ⟨this, mem_rest.2 ⟨by omega, by simpa using hx2⟩⟩
theorem wpAny_ok (hO : OrcOK P O) (hC : CallOK P O call) (hd : drawOk O f rid ops = true) : ∀ (fuel : Nat) (listed : Array Bool) {w : World} {s s' : St} {ι : Key → Nat} {a : Act}, listed.size = ops.size → Cl ops listed → (Rest ops listed).length = fuel → Rel O FB w s (tmOf a) ι → s.env.length = a.tmps.size →
  steps O call true f rid ops (Rest ops listed) s = some s' → Leaves O FB w s ι a s' (Q .normal) → wpAny P .any ops Q fuel listed a w := by
 have hf : fwdOk ops = true := by unfold drawOk at hd; simp only [Bool.and_eq_true] at hd; exact hd.1
 have hap : ∀ j x, j < ops.size → x < j → (ah ops j).testBit x = true ∨ apart O f rid ops x j = true := by
  intro j x hj hx
  unfold drawOk at hd
  simp only [Bool.and_eq_true, List.all_eq_true, List.mem_range, Bool.or_eq_true] at hd
  exact hd.2 j hj x hx
 intro fuel
 induction fuel with
 | zero =>
  intro listed w s s' ι a hs hc hn h hl he hq
  have hr : Rest ops listed = [] := List.length_eq_zero_iff.1 hn
  rw [hr] at he
  simp only [steps, Option.some.injEq] at he
  subst he
  refine ⟨?_, hq _ _ ι rfl rfl (Goes.refl h)⟩
  refine List.eq_nil_iff_forall_not_mem.2 fun x hx => ?_
  obtain ⟨x1, x2, _⟩ := ready_iff.1 hx
  have : x ∈ Rest ops listed := mem_rest.2 ⟨x1, x2⟩
  rw [hr] at this; cases this
 | succ fuel ih =>
  intro listed w s s' ι a hs hc hn h hl he hq
  refine ⟨fun hr => ?_, fun i hi => ?_⟩
  ·cases hR : Rest ops listed with
   | nil => rw [hR] at hn; simp at hn
   | cons k l =>
    obtain ⟨i, hi⟩ := exists_ready hf hs (k + 1) k (by omega) (by rw [hR]; exact List.mem_cons_self)
    rw [hr] at hi; cases hi
  ·obtain ⟨i1, i2, i3⟩ := ready_iff.1 hi
   obtain ⟨pre, post, p1, p2, p3⟩ := rest_split hs (mem_rest.2 ⟨i1, i2⟩)
   rw [p1] at he hn
   have hfront : ∀ x ∈ pre, apart O f rid ops x i = true := by
    intro x hx
    obtain ⟨x1, x2⟩ := p3 x hx
    rcases hap i x i1 x1 with hb | hb
    ·exfalso
     obtain ⟨x3, x4⟩ := mem_rest.1 x2
     rw [getD_tf (by omega)] at x4
     obtain ⟨e, e1, e2, e3⟩ := ah_bit (Array.getElem?_eq_getElem i1) hb
     have hle := i3 _ (Array.getElem?_eq_getElem i1) e e1 e2
     rcases e3 with rfl | e3
     ·rw [x4] at hle; cases hle
     ·have hlt := fwd_lt hf (Array.getElem?_eq_getElem i1) e1 e2
      have := Cl.ahead hf hs hc (e.on + 1) e.on (by omega) (by omega) hle x e3
      rw [x4] at this; cases this
    ·exact hb
   obtain ⟨s1, q1, q2⟩ := steps_front pre post s s' hfront he
   refine step_ok hO hC h hl q1 fun a1 w1 ι1 hd1 hs1 hg => ?_
   refine ih (listed.setIfInBounds i true) (by simpa using hs) ?_ (by rw [p2]; simp only [List.length_append, List.length_cons] at hn ⊢; omega) hg.stp.rel (by rw [step_len q1, hl, hs1]) (by rw [p2]; exact q2) (hq.chain h hd1 hs1 hg)
   intro k o ho hk e he' hb
   have hmono : listed.getD e.on false = true → (listed.setIfInBounds i true).getD e.on false = true := fun hx => by
    simp only [Array.getD_eq_getD_getElem?, Array.getElem?_setIfInBounds] at hx ⊢
    split
    ·split <;> simp_all
    ·exact hx
   refine hmono ?_
   by_cases hki : k = i
   ·subst hki; exact i3 o ho e he' hb
   ·refine hc k o ho ?_ e he' hb
    simp only [Array.getD_eq_getD_getElem?, Array.getElem?_setIfInBounds] at hk ⊢
    rw [if_neg (fun e => hki e.symm)] at hk
    exact hk
theorem region_ok (hO : OrcOK P O) (hm : P.follows .mixedOrders = true) (hC : CallOK P O call) {draw : Bool} (hd : draw = true → drawOk O f rid ops = true) {w : World} {s s' : St} {ι : Key → Nat} {a : Act} (h : Rel O FB w s (tmOf a) ι) (hl : s.env.length = a.tmps.size)
  (he : steps O call draw f rid ops (List.range ops.size) s = some s') (hq : Leaves O FB w s ι a s' (Q .normal)) : (Code.region rid ops draw).wp P Q a w := by
 cases draw with
 | false => exact wp_region (steps_ok hO hC _ h hl he hq)
 | true =>
  refine wp_region_any hm ?_
  have h1 : Stp O FB w s (tmOf a) ι { w with drawn := w.drawn + 1 } s (tmOf a) ι := h.heapEq rfl
  have hg : Goes O FB w s (tmOf a) ι { w with drawn := w.drawn + 1 } s (tmOf a) ι := ⟨h1, hist_heap _ ⟨rfl, rfl, rfl, rfl⟩, fun _ _ => KGo.of ⟨rfl, rfl⟩⟩
  have hr : Rest ops (Array.replicate ops.size false) = List.range ops.size := by
   unfold Rest
   rw [List.filter_eq_self]
   intro x hx
   have := List.mem_range.1 hx
   simp [Array.getD_eq_getD_getElem?, this]
  refine wpAny_ok hO hC (hd rfl) ops.size (Array.replicate ops.size false) (by simp) ?_ (by rw [hr]; simp) h1.rel hl (by rw [hr]; exact he) (hq.chain h rfl rfl hg)
  intro i o ho hi
  have : i < ops.size := by
   rcases Nat.lt_or_ge i ops.size with h | h
   ·exact h
   ·rw [Array.getElem?_eq_none h] at ho; cases ho
  simp [Array.getD_eq_getD_getElem?, this] at hi
end Go.Am
namespace Go.Am
variable {P : Program} {O : Orc} {call : CallF} {f : FuncId} {rid i j : Nat} {o : Oper} {r : Res} {ops : Array Oper} {g g' : Nat → AV} {h h' : Heap} {s s1 s2 : St}
def Eff (F : Foot) (h : Heap) (r : Res) (e : Heap → Option Res) : Prop := match F with
  | .zero => r.h = h ∧ ∀ h', e h' = some ⟨r.a, r.tk, h'⟩
  | .ty k => r.h = h ∧ ∀ h', (look h' k).map (·.d.t) = (look h k).map (·.d.t) → e h' = some ⟨r.a, r.tk, h'⟩
  | .rd k => r.h = h ∧ ∀ h', (look h' k).map (·.d) = (look h k).map (·.d) → e h' = some ⟨r.a, r.tk, h'⟩
  | .tk k => ∃ ob ob' : Ob, look h k = some ob ∧ ob'.d = ob.d ∧ r.h = over h k ob' ∧ ∀ h', look h' k = some ob → e h' = some ⟨r.a, r.tk, over h' k ob'⟩
  | .wr k => ∃ ob ob' : Ob, look h k = some ob ∧ ob'.d.t = ob.d.t ∧ r.h = over h k ob' ∧ ∀ h', look h' k = some ob → e h' = some ⟨r.a, r.tk, over h' k ob'⟩
  | .nw k => ∃ ob : Ob, look h k = none ∧ r.h = (k, ob) :: h ∧ ∀ h', look h' k = none → e h' = some ⟨r.a, r.tk, (k, ob) :: h'⟩
  | .ca k => ∃ ob ob' : Ob, look h k = some ob ∧ r.h = over h k ob' ∧ ∀ h', look h' k = some ob → e h' = some ⟨r.a, r.tk, over h' k ob'⟩
  | .cx X => ∀ k, X.contains k = true → look r.h k = look h k ∧ (∀ ob, look h k = none → e ((k, ob) :: h) = some ⟨r.a, r.tk, (k, ob) :: r.h⟩) ∧ ∀ ob ob', look h k = some ob → e (over h k ob') = some ⟨r.a, r.tk, over r.h k ob'⟩
  | .ro => r.h = h
  | .all => True
theorem over_comm : ∀ (h : Heap) (k q : Key) (a b : Ob), k ≠ q → over (over h k a) q b = over (over h q b) k a
 | [], _, _, _, _, _ => rfl
 | (p, u) :: r, k, q, a, b, hn => by
  simp only [over]
  by_cases h1 : p = k
  ·by_cases h2 : p = q
   ·exact absurd (h1.symm.trans h2) hn
   ·simp only [if_pos h1, if_neg h2, over]
  ·by_cases h2 : p = q
   ·simp only [if_neg h1, if_pos h2, over]
   ·simp only [if_neg h1, if_neg h2, over]; rw [over_comm r k q a b hn]
theorem look_over_ne {h : Heap} {k q : Key} {o : Ob} (hn : q ≠ k) : look (over h k o) q = look h q := by rw [look_over, if_neg hn]
theorem look_over_ty {h : Heap} {k q : Key} {o u : Ob} (hk : look h k = some u) (ht : o.d.t = u.d.t) : (look (over h k o) q).map (·.d.t) = (look h q).map (·.d.t) := by
 rw [look_over]
 by_cases e : q = k
 ·rw [if_pos e, e, hk]; simp [ht]
 ·rw [if_neg e]
theorem look_cons_ne {h : Heap} {k q : Key} {o : Ob} (hn : q ≠ k) : look ((k, o) :: h) q = look h q := by rw [look_cons, if_neg hn]
theorem over_cons_ne {h : Heap} {k q : Key} {a b : Ob} (hn : k ≠ q) : over ((k, a) :: h) q b = (k, a) :: over h q b := by simp only [over, if_neg hn]
theorem over_twice : ∀ (h : Heap) (k : Key) (a b : Ob), over (over h k a) k b = over h k b
 | [], _, _, _ => rfl
 | (p, u) :: r, k, a, b => by
  simp only [over]
  by_cases h1 : p = k
  ·simp only [if_pos h1, over]
  ·simp only [if_neg h1, over, over_twice r k a b]
theorem over_back : ∀ {h : Heap} {k : Key} {a : Ob}, look h k = some a → over h k a = h
 | [], _, _, e => by cases e
 | (p, u) :: r, k, a, e => by
  simp only [over, look] at e ⊢
  by_cases h1 : p = k
  ·rw [if_pos h1] at e ⊢; cases e; rfl
  ·rw [if_neg h1] at e ⊢; rw [over_back e]
theorem look_over_at {h : Heap} {k : Key} {a b : Ob} (e : look h k = some a) : look (over h k b) k = some b := by
 induction h with
 | nil => cases e
 | cons q r ih =>
  obtain ⟨p, u⟩ := q
  simp only [over, look] at e ⊢
  by_cases h1 : p = k
  ·simp only [if_pos h1, look]
  ·rw [if_neg h1] at e; simp only [if_neg h1, look]; exact ih e
theorem Eff.comm0 {Fi Fj : Foot} {r1 r2 : Res} {ei ej : Heap → Option Res} (ni : ∀ k, Fi ≠ .tk k) (nj : ∀ k, Fj ≠ .tk k) (hc : compat Fi Fj = true) (hi : Eff Fi h r1 ei) (hj : Eff Fj r1.h r2 ej) (e1 : ei h = some r1) (e2 : ej r1.h = some r2) :
  ∃ r2', ej h = some r2' ∧ r2'.a = r2.a ∧ r2'.tk = r2.tk ∧ ∃ r1', ei r2'.h = some r1' ∧ r1'.a = r1.a ∧ r1'.tk = r1.tk ∧ r1'.h = r2.h := by
 have keep : r1.h = h → (ei r2.h = some ⟨r1.a, r1.tk, r2.h⟩) → ∃ r2', ej h = some r2' ∧ r2'.a = r2.a ∧ r2'.tk = r2.tk ∧ ∃ r1', ei r2'.h = some r1' ∧ r1'.a = r1.a ∧ r1'.tk = r1.tk ∧ r1'.h = r2.h := fun m1 m2 =>
  ⟨r2, m1 ▸ e2, rfl, rfl, _, m2, rfl, rfl, rfl⟩
 have keep2 : r2.h = r1.h → ej h = some ⟨r2.a, r2.tk, h⟩ → ∃ r2', ej h = some r2' ∧ r2'.a = r2.a ∧ r2'.tk = r2.tk ∧ ∃ r1', ei r2'.h = some r1' ∧ r1'.a = r1.a ∧ r1'.tk = r1.tk ∧ r1'.h = r2.h := fun m1 m2 =>
  ⟨_, m2, rfl, rfl, r1, e1, rfl, rfl, m1.symm⟩
 cases Fi with
 | tk q => exact absurd rfl (ni q)
 | all => cases Fj <;> first | (simp [compat] at hc; done) | exact keep2 hj.1 (hj.2 h)
 | zero => exact keep hi.1 (hi.2 _)
 | ty k =>
  obtain ⟨m1, m2⟩ := hi
  rw [m1] at hj
  cases Fj with
  | tk q => exact absurd rfl (nj q)
  | zero => exact keep2 (hj.1.trans m1.symm) (hj.2 h)
  | ty q => exact keep m1 (m2 _ (by rw [hj.1]))
  | rd q => exact keep m1 (m2 _ (by rw [hj.1]))
  | wr q =>
   obtain ⟨ob, ob', a1, a2, a3, a4⟩ := hj
   exact keep m1 (m2 _ (by rw [a3]; exact look_over_ty a1 a2))
  | nw q =>
   obtain ⟨ob, a1, a2, a3⟩ := hj
   have hn : k ≠ q := by simpa [compat] using hc
   exact keep m1 (m2 _ (by rw [a2, look_cons_ne hn]))
  | ca q =>
   obtain ⟨ob, ob', a1, a3, a4⟩ := hj
   have hn : k ≠ q := by simpa [compat] using hc
   exact keep m1 (m2 _ (by rw [a3, look_over_ne hn]))
  | cx X => exact keep m1 (m2 _ (by rw [(hj k hc).1]))
  | ro => exact keep m1 (m2 _ (by rw [hj]))
  | all => simp [compat] at hc
 | rd k =>
  obtain ⟨m1, m2⟩ := hi
  rw [m1] at hj
  cases Fj with
  | tk q => exact absurd rfl (nj q)
  | zero => exact keep2 (hj.1.trans m1.symm) (hj.2 h)
  | ty q => exact keep m1 (m2 _ (by rw [hj.1]))
  | rd q => exact keep m1 (m2 _ (by rw [hj.1]))
  | wr q =>
   obtain ⟨ob, ob', a1, a2, a3, a4⟩ := hj
   have hn : k ≠ q := by simpa [compat] using hc
   exact keep m1 (m2 _ (by rw [a3, look_over_ne hn]))
  | nw q =>
   obtain ⟨ob, a1, a2, a3⟩ := hj
   have hn : k ≠ q := by simpa [compat] using hc
   exact keep m1 (m2 _ (by rw [a2, look_cons_ne hn]))
  | ca q =>
   obtain ⟨ob, ob', a1, a3, a4⟩ := hj
   have hn : k ≠ q := by simpa [compat] using hc
   exact keep m1 (m2 _ (by rw [a3, look_over_ne hn]))
  | cx X => exact keep m1 (m2 _ (by rw [(hj k hc).1]))
  | ro => exact keep m1 (m2 _ (by rw [hj]))
  | all => simp [compat] at hc
 | wr k =>
  obtain ⟨ob, ob', a1, a2, a3, a4⟩ := hi
  cases Fj with
  | tk q => exact absurd rfl (nj q)
  | zero => exact keep2 hj.1 (hj.2 h)
  | ty q => exact keep2 hj.1 (hj.2 h (by rw [a3]; exact (look_over_ty a1 a2).symm))
  | rd q =>
   have hn : k ≠ q := by simpa [compat] using hc
   exact keep2 hj.1 (hj.2 h (by rw [a3, look_over_ne (Ne.symm hn)]))
  | wr q =>
   have hn : k ≠ q := by simpa [compat] using hc
   obtain ⟨u, u', b1, b2, b3, b4⟩ := hj
   rw [a3, look_over_ne (Ne.symm hn)] at b1
   refine ⟨_, b4 h b1, rfl, rfl, _, a4 _ (by rw [look_over_ne hn]; exact a1), rfl, rfl, ?_⟩
   rw [b3, a3]; exact over_comm _ _ _ _ _ (Ne.symm hn)
  | nw q =>
   have hn : k ≠ q := by simpa [compat] using hc
   obtain ⟨u, b1, b2, b3⟩ := hj
   rw [a3, look_over_ne (Ne.symm hn)] at b1
   refine ⟨_, b3 h b1, rfl, rfl, _, a4 _ (by rw [look_cons_ne hn]; exact a1), rfl, rfl, ?_⟩
   rw [b2, a3]; exact over_cons_ne (Ne.symm hn)
  | ca q =>
   have hn : k ≠ q := by simpa [compat] using hc
   obtain ⟨u, u', b1, b3, b4⟩ := hj
   rw [a3, look_over_ne (Ne.symm hn)] at b1
   refine ⟨_, b4 h b1, rfl, rfl, _, a4 _ (by rw [look_over_ne hn]; exact a1), rfl, rfl, ?_⟩
   rw [b3, a3]; exact over_comm _ _ _ _ _ (Ne.symm hn)
  | cx X =>
   obtain ⟨j1, _, j3⟩ := hj k hc
   have l1 : look r1.h k = some ob' := by rw [a3]; exact look_over_at a1
   have e0 : over r1.h k ob = h := by rw [a3, over_twice]; exact over_back a1
   have l2 : look r2.h k = some ob' := j1.trans l1
   have e1 := j3 ob' ob l1
   rw [e0] at e1
   refine ⟨_, e1, rfl, rfl, _, a4 _ (look_over_at l2), rfl, rfl, ?_⟩
   simp only
   rw [over_twice]; exact over_back l2
  | ro => simp [compat] at hc
  | all => simp [compat] at hc
 | nw k =>
  obtain ⟨ob, a1, a2, a3⟩ := hi
  cases Fj with
  | tk q => exact absurd rfl (nj q)
  | zero => exact keep2 hj.1 (hj.2 h)
  | ty q =>
   have hn : k ≠ q := by simpa [compat] using hc
   exact keep2 hj.1 (hj.2 h (by rw [a2, look_cons_ne (Ne.symm hn)]))
  | rd q =>
   have hn : k ≠ q := by simpa [compat] using hc
   exact keep2 hj.1 (hj.2 h (by rw [a2, look_cons_ne (Ne.symm hn)]))
  | wr q =>
   have hn : k ≠ q := by simpa [compat] using hc
   obtain ⟨u, u', b1, b2, b3, b4⟩ := hj
   rw [a2, look_cons_ne (Ne.symm hn)] at b1
   refine ⟨_, b4 h b1, rfl, rfl, _, a3 _ (by rw [look_over_ne hn]; exact a1), rfl, rfl, ?_⟩
   rw [b3, a2]; exact (over_cons_ne hn).symm
  | nw q => simp [compat] at hc
  | ca q => simp [compat] at hc
  | cx X => simp [compat] at hc
  | ro => simp [compat] at hc
  | all => simp [compat] at hc
 | ca k =>
  obtain ⟨ob, ob', a1, a3, a4⟩ := hi
  cases Fj with
  | tk q => exact absurd rfl (nj q)
  | zero => exact keep2 hj.1 (hj.2 h)
  | ty q =>
   have hn : k ≠ q := by simpa [compat] using hc
   exact keep2 hj.1 (hj.2 h (by rw [a3, look_over_ne (Ne.symm hn)]))
  | rd q =>
   have hn : k ≠ q := by simpa [compat] using hc
   exact keep2 hj.1 (hj.2 h (by rw [a3, look_over_ne (Ne.symm hn)]))
  | wr q =>
   have hn : k ≠ q := by simpa [compat] using hc
   obtain ⟨u, u', b1, b2, b3, b4⟩ := hj
   rw [a3, look_over_ne (Ne.symm hn)] at b1
   refine ⟨_, b4 h b1, rfl, rfl, _, a4 _ (by rw [look_over_ne hn]; exact a1), rfl, rfl, ?_⟩
   rw [b3, a3]; exact over_comm _ _ _ _ _ (Ne.symm hn)
  | nw q => simp [compat] at hc
  | ca q =>
   have hn : k ≠ q := by simpa [compat] using hc
   obtain ⟨u, u', b1, b3, b4⟩ := hj
   rw [a3, look_over_ne (Ne.symm hn)] at b1
   refine ⟨_, b4 h b1, rfl, rfl, _, a4 _ (by rw [look_over_ne hn]; exact a1), rfl, rfl, ?_⟩
   rw [b3, a3]; exact over_comm _ _ _ _ _ (Ne.symm hn)
  | cx X => simp [compat] at hc
  | ro => simp [compat] at hc
  | all => simp [compat] at hc
 | ro =>
  have hi' : r1.h = h := hi
  cases Fj with
  | tk q => exact absurd rfl (nj q)
  | zero => exact keep2 hj.1 (hj.2 h)
  | ty q => exact keep2 hj.1 (hj.2 h (by rw [hi']))
  | rd q => exact keep2 hj.1 (hj.2 h (by rw [hi']))
  | _ => simp [compat] at hc
 | cx X =>
  cases Fj with
  | tk q => exact absurd rfl (nj q)
  | zero => exact keep2 hj.1 (hj.2 h)
  | ty q => exact keep2 hj.1 (hj.2 h (by rw [(hi q hc).1]))
  | rd q => exact keep2 hj.1 (hj.2 h (by rw [(hi q hc).1]))
  | nw q =>
   obtain ⟨i1, i2, _⟩ := hi q hc
   obtain ⟨u, b1, b2, b3⟩ := hj
   rw [i1] at b1
   exact ⟨_, b3 h b1, rfl, rfl, _, i2 u b1, rfl, rfl, b2.symm⟩
  | wr q =>
   obtain ⟨i1, _, i3⟩ := hi q hc
   obtain ⟨u, u', b1, b2, b3, b4⟩ := hj
   rw [i1] at b1
   exact ⟨_, b4 h b1, rfl, rfl, _, i3 u u' b1, rfl, rfl, b3.symm⟩
  | _ => simp [compat] at hc
theorem Eff.tk_wr {k : Key} {r : Res} {e : Heap → Option Res} (h1 : Eff (.tk k) h r e) : Eff (.wr k) h r e := by
 obtain ⟨ob, ob', a1, a2, a3, a4⟩ := h1
 exact ⟨ob, ob', a1, by rw [a2], a3, a4⟩
theorem look_over_d {h : Heap} {k q : Key} {o u : Ob} (hk : look h k = some u) (ht : o.d = u.d) : (look (over h k o) q).map (·.d) = (look h q).map (·.d) := by
 rw [look_over]
 by_cases e : q = k
 ·rw [if_pos e, e, hk]; simp [ht]
 ·rw [if_neg e]
theorem Eff.comm {Fi Fj : Foot} {r1 r2 : Res} {ei ej : Heap → Option Res} (hc : compat Fi Fj = true) (hi : Eff Fi h r1 ei) (hj : Eff Fj r1.h r2 ej) (e1 : ei h = some r1) (e2 : ej r1.h = some r2) :
  ∃ r2', ej h = some r2' ∧ r2'.a = r2.a ∧ r2'.tk = r2.tk ∧ ∃ r1', ei r2'.h = some r1' ∧ r1'.a = r1.a ∧ r1'.tk = r1.tk ∧ r1'.h = r2.h := by
 cases Fi with
 | tk k =>
  cases Fj with
  | rd q =>
   obtain ⟨ob, ob', a1, a2, a3, a4⟩ := hi
   exact ⟨_, hj.2 h (by rw [a3]; exact (look_over_d a1 a2).symm), rfl, rfl, r1, e1, rfl, rfl, hj.1.symm⟩
  | tk q => exact Eff.comm0 (Fi := .wr k) (Fj := .wr q) (fun _ e => by cases e) (fun _ e => by cases e) hc hi.tk_wr hj.tk_wr e1 e2
  | zero => exact Eff.comm0 (Fi := .wr k) (Fj := .zero) (fun _ e => by cases e) (fun _ e => by cases e) rfl hi.tk_wr hj e1 e2
  | ty q => exact Eff.comm0 (Fi := .wr k) (Fj := .ty q) (fun _ e => by cases e) (fun _ e => by cases e) rfl hi.tk_wr hj e1 e2
  | wr q => exact Eff.comm0 (Fi := .wr k) (Fj := .wr q) (fun _ e => by cases e) (fun _ e => by cases e) hc hi.tk_wr hj e1 e2
  | nw q => exact Eff.comm0 (Fi := .wr k) (Fj := .nw q) (fun _ e => by cases e) (fun _ e => by cases e) hc hi.tk_wr hj e1 e2
  | ca q => exact Eff.comm0 (Fi := .wr k) (Fj := .ca q) (fun _ e => by cases e) (fun _ e => by cases e) hc hi.tk_wr hj e1 e2
  | cx X => exact Eff.comm0 (Fi := .wr k) (Fj := .cx X) (fun _ e => by cases e) (fun _ e => by cases e) hc hi.tk_wr hj e1 e2
  | ro => simp [compat] at hc
  | all => simp [compat] at hc
 | rd k =>
  cases Fj with
  | tk q =>
   obtain ⟨m1, m2⟩ := hi
   rw [m1] at hj
   obtain ⟨ob, ob', a1, a2, a3, a4⟩ := hj
   refine ⟨r2, m1 ▸ e2, rfl, rfl, _, m2 _ ?_, rfl, rfl, rfl⟩
   rw [a3]; exact look_over_d a1 a2
  | _ => exact Eff.comm0 (fun _ e => by cases e) (fun _ e => by cases e) hc hi hj e1 e2
 | _ =>
  cases Fj with
  | tk q => first
   | exact Eff.comm0 (Fj := .wr q) (fun _ e => by cases e) (fun _ e => by cases e) hc hi hj.tk_wr e1 e2
   | (exact Eff.comm0 (Fj := .wr q) (fun _ e => by cases e) (fun _ e => by cases e) rfl hi hj.tk_wr e1 e2)
   | (simp [compat] at hc; done)
  | _ => exact Eff.comm0 (fun _ e => by cases e) (fun _ e => by cases e) hc hi hj e1 e2
end Go.Am
namespace Go.Am
variable {P : Program} {O : Orc} {call : CallF} {f : FuncId} {rid i j : Nat} {o : Oper} {r : Res} {ops : Array Oper} {g g' : Nat → AV} {h h' : Heap} {s s1 s2 : St}
theorem exec0_draw (hn : ∀ c x, o.op = .call c → c.callee ≠ .value x) : exec0 O call false f rid i o g h = exec0 O call true f rid i o g h := by
 unfold exec0
 cases hop : o.op with
 | call c =>
  simp only [callO]
  cases hc : c.callee with
  | builtin b => cases b <;> rfl
  | value x => exact absurd hc (hn c x hop)
  | invoke x n => rfl
 | makeFunc q first caps => cases q <;> rfl
 | _ => rfl
theorem callA_calm' {dst : Option Nat} {q : FuncId} {args : List AV} (hk : keysL (args.map AV.drop) = []) (ho0 : O.out q = []) (he : callA O call false dst q args h = some r) : r.h = h ∧ ∀ h', callA O call false dst q args h' = some ⟨r.a, r.tk, h'⟩ := by
 have key : ∀ h', callA O call false dst q args h' = callA O call true dst q args h' := by
  intro h'
  unfold callA
  simp only [forceKs_eq, hk, reach, ho0, List.isEmpty_nil, Bool.and_self, Bool.not_true, Bool.and_false]
 rw [key] at he
 obtain ⟨c1, c2, c3⟩ := callA_calm he
 exact ⟨c2, fun h' => by rw [key, c3, c1]⟩
theorem callA_tk {draw : Bool} {dst : Option Nat} {q : FuncId} {args : List AV} (he : callA O call draw dst q args h = some r) : r.tk = none := by
 unfold callA at he
 simp only [forceKs_eq] at he
 split at he
 ·cases he
 ·simp only [Option.bind_eq_some_iff] at he
  obtain ⟨_, _, he⟩ := he
  split at he
  ·cases he
  ·simp only [Option.bind_eq_some_iff] at he
   obtain ⟨_, _, he⟩ := he
   split at he
   ·cases he
   ·simp only [Option.bind_eq_some_iff, Option.some.injEq] at he
    obtain ⟨_, _, _, _, rfl⟩ := he
    rfl
theorem callT_one {X : List Key} {dst : Option Nat} {q : FuncId} {args : List AV} {k : Key} (hk : keysL (args.map AV.drop) = [k]) (he : callT O call false true X dst q args h = some r) :
  ∃ ob ob' : Ob, look h k = some ob ∧ r.h = over h k ob' ∧ ∀ h', look h' k = some ob → callT O call false true X dst q args h' = some ⟨r.a, r.tk, over h' k ob'⟩ := by
 unfold callT at he
 split at he
 ·cases he
 ·rename_i hone
  simp only [Bool.false_or, Bool.true_and, Bool.or_eq_true, not_or, Bool.not_eq_true', Bool.not_eq_false] at hone
  obtain ⟨⟨hone, hro⟩, hfar⟩ := hone
  have hro : roK X = false := by simpa using hro
  simp only [Option.bind_eq_some_iff] at he
  obtain ⟨r0, he, hkp⟩ := he
  obtain rfl := (keepR_some hkp).1
  have hone0 := hone
  unfold oneK at hone
  rw [hk] at hone
  simp only [Bool.and_eq_true, List.isEmpty_iff] at hone
  obtain ⟨hout, hone⟩ := hone
  cases hl : look h k with
  | none => rw [hl] at hone; simp at hone
  | some ob =>
   rw [hl] at hone
   simp only [List.isEmpty_iff] at hone
   have hreach : ∀ h', look h' k = some ob → reach h' 50 [k] [] = [k] := fun h' hl' => by
    simp [reach, hl', hone]
   have key : ∀ h', look h' k = some ob → callA O call false dst q args h' = (call q (renL (inward [k]) (args.map AV.drop)) [((0, 0), renO (inward [k]) ob)]).bind fun p =>
     if !((keysA p.1).all (fun k => (k.1 == 0 && decide (k.2 < 1))) && shut (fun k => (k.1 == 0 && decide (k.2 < 1))) (p.2.filter fun b => (b.1.1 == 0 && decide (b.1.2 < 1)))) then none else
     if !(keysO ob).all [k].contains then none else
     (look p.2 (0, 0)).bind fun o' => some ⟨renA (outward [k] [] (dst.getD 0)) p.1, none, over h' k (renO (outward [k] [] (dst.getD 0)) o')⟩ := fun h' hl' => by
    unfold callA
    simp only [forceKs_eq, hk, hreach h' hl', hout]
    have e1 : (((false && !([k].isEmpty && ([] : List Key).isEmpty)) || !([k].all [k].contains)) || !noDup [k] || !noDup ([] : List Key)) = false := by simp [noDup]
    rw [e1]
    simp only [Bool.false_eq_true, if_false, inObs, hl', Option.bind_some, Option.map_some, List.all_cons, List.all_nil, Bool.and_true, Option.getD_some, List.filter_nil, List.length_cons, List.length_nil, Nat.zero_add, backIn, backOut, List.contains_nil, Bool.or_false]
    cases hko : (keysO ob).all [k].contains with
    | false => simp [hko]
    | true => simp [hko, Option.bind_assoc]
   rw [key h hl] at he
   simp only [Option.bind_eq_some_iff] at he
   obtain ⟨p, hp, he⟩ := he
   split at he
   ·cases he
   ·rename_i hn1
    split at he
    ·cases he
    ·rename_i hn2
     simp only [Option.bind_eq_some_iff, Option.some.injEq] at he
     obtain ⟨o', ho', rfl⟩ := he
     refine ⟨ob, _, rfl, rfl, fun h' hl' => ?_⟩
     unfold callT
     have h1' : oneK O h' q args = true := by
      unfold oneK
      rw [hk]
      simp [hl', hout, hone]
     have h2' : farK O h' q args X = true := by
      rw [← hfar]
      unfold farK
      rw [hk, hreach h' hl', hreach h hl]
     simp only [h1', h2', hro, Bool.not_true, Bool.or_false, Bool.or_true, Bool.and_false, Bool.false_eq_true, if_false]
     rw [key h' hl', hp]
     simp only [Option.bind_some]
     rw [if_neg hn1, if_neg hn2, ho']
     simp only [Option.bind_some, keepR_no hro]
theorem callT_far {tk : Bool} {dst : Option Nat} {q : FuncId} {args : List AV} {X : List Key} (he : callT O call false tk X dst q args h = some r) (hX : X ≠ []) (hro : roK X = false) : O.out q = [] ∧ ∀ k, X.contains k = true → k ∉ reach h 50 (keysL (args.map AV.drop)) [] := by
 unfold callT at he
 split at he
 ·cases he
 ·rename_i hn
  have hf : farK O h q args X = true := by
   cases hf : farK O h q args X with
   | true => rfl
   | false => exact absurd (by simp [hf]) hn
  unfold farK at hf
  split at hf
  ·exact absurd rfl hX
  ·simp only [hro, Bool.false_or, Bool.and_eq_true, List.isEmpty_iff, List.all_eq_true, Bool.not_eq_true'] at hf
   exact ⟨hf.1, fun k hk hm => by rw [hf.2 k hm] at hk; cases hk⟩
theorem callT_far' {dst : Option Nat} {q : FuncId} {args : List AV} {X : List Key} {tk : Bool} {h' : Heap} {r' : Res} (he : callT O call false tk X dst q args h = some r) (hr : reach h' 50 (keysL (args.map AV.drop)) [] = reach h 50 (keysL (args.map AV.drop)) []) (hc : callA O call false dst q args h' = some r') (htk : tk = false := by first | rfl | assumption) (hro : roK X = false := by assumption) : callT O call false tk X dst q args h' = some r' := by
 subst htk
 unfold callT at he ⊢
 split at he
 ·cases he
 ·rename_i hn
  have hf : farK O h' q args X = farK O h q args X := by unfold farK; rw [hr]
  rw [hf, if_neg (by simpa using hn), hc, Option.bind_some, keepR_no hro]
theorem keysD_noRef : ∀ (t : Ty) (x : den t), t.noRef = true → keysD t x = []
 | .pair a b, x, h => by
  simp only [Ty.noRef, Bool.and_eq_true] at h
  simp only [keysD, keysD_noRef a x.1 h.1, keysD_noRef b x.2 h.2, List.append_nil]
 | .arr _ _ t, x, h => by simp only [Ty.noRef] at h; simp only [keysD, h, if_true]
 | .ref, _, h => by simp [Ty.noRef] at h
 | .wref, _, h => by simp [Ty.noRef] at h
 | .mref _ _, _, h => by simp [Ty.noRef] at h
 | .sref _, _, h => by simp [Ty.noRef] at h
 | .int _, _, _ => rfl
 | .bool, _, _ => rfl
 | .str, _, _ => rfl
 | .unit, _, _ => rfl
 | .fnc, _, _ => rfl
 | .mp _ _, _, _ => rfl
 | .expr, _, _ => rfl
 | .slice _, _, _ => rfl
theorem reach_acc {h : Heap} : ∀ (n : Nat) (todo acc : List Key) (q : Key), q ∈ acc → q ∈ reach h n todo acc
 | 0, _, _, _, hq => hq
 | _ + 1, [], _, _, hq => hq
 | n + 1, k :: todo, acc, q, hq => by
  simp only [reach]
  split
  ·exact reach_acc n _ _ q hq
  ·split
   ·exact reach_acc n _ _ q hq
   ·exact reach_acc n _ _ q (List.mem_append_left _ hq)
theorem reach_cons {h : Heap} {k : Key} {ob : Ob} : ∀ (n : Nat) (todo acc : List Key), (∀ q ∈ todo, q ≠ k) → (∀ q o, q ∈ reach h n todo acc → look h q = some o → k ∉ keysD o.d.t o.d.x) → reach ((k, ob) :: h) n todo acc = reach h n todo acc
 | 0, _, _, _, _ => rfl
 | _ + 1, [], _, _, _ => rfl
 | n + 1, p :: todo, acc, ht, hc => by
  have hp : p ≠ k := ht p List.mem_cons_self
  simp only [reach] at hc ⊢
  rw [look_cons_ne hp]
  split
  ·rename_i h1
   rw [if_pos h1] at hc
   exact reach_cons n _ _ (fun q hq => ht q (List.mem_cons_of_mem _ hq)) hc
  ·rename_i h1
   rw [if_neg h1] at hc
   cases hl : look h p with
   | none => rw [hl] at hc; exact reach_cons n _ _ (fun q hq => ht q (List.mem_cons_of_mem _ hq)) hc
   | some o =>
    rw [hl] at hc
    refine reach_cons n _ _ (fun q hq => ?_) hc
    rcases List.mem_append.1 hq with hq | hq
    ·exact ht q (List.mem_cons_of_mem _ hq)
    ·intro e
     exact hc p o (reach_acc n _ _ p (List.mem_append_right _ (List.mem_singleton.2 rfl))) hl (e ▸ hq)
theorem reach_same {h h' : Heap} {k : Key} (hl : ∀ q, q ≠ k → look h' q = look h q) : ∀ (n : Nat) (todo acc : List Key), (∀ q ∈ todo, q ≠ k) → (∀ q o, q ∈ reach h n todo acc → look h q = some o → k ∉ keysD o.d.t o.d.x) → reach h' n todo acc = reach h n todo acc
 | 0, _, _, _, _ => rfl
 | _ + 1, [], _, _, _ => rfl
 | n + 1, p :: todo, acc, ht, hc => by
  have hp : p ≠ k := ht p List.mem_cons_self
  simp only [reach] at hc ⊢
  rw [hl p hp]
  split
  ·rename_i h1
   rw [if_pos h1] at hc
   exact reach_same hl n _ _ (fun q hq => ht q (List.mem_cons_of_mem _ hq)) hc
  ·rename_i h1
   rw [if_neg h1] at hc
   cases hlp : look h p with
   | none => rw [hlp] at hc; exact reach_same hl n _ _ (fun q hq => ht q (List.mem_cons_of_mem _ hq)) hc
   | some o =>
    rw [hlp] at hc
    refine reach_same hl n _ _ (fun q hq => ?_) hc
    rcases List.mem_append.1 hq with hq | hq
    ·exact ht q (List.mem_cons_of_mem _ hq)
    ·intro e
     exact hc p o (reach_acc n _ _ p (List.mem_append_right _ (List.mem_singleton.2 rfl))) hlp (e ▸ hq)
theorem backIn_over {σ : Key → Key} {h1 : Heap} {k : Key} {ob : Ob} : ∀ {ks : List Key} {i : Nat} {h h2 : Heap}, k ∉ ks → backIn σ h1 ks i h = some h2 → backIn σ h1 ks i (over h k ob) = some (over h2 k ob)
 | [], i, h, h2, _, e => by
  simp only [backIn, Option.some.injEq] at e ⊢
  rw [e]
 | q :: r, i, h, h2, hn, e => by
  simp only [backIn, Option.bind_eq_some_iff] at e ⊢
  obtain ⟨o, ho, e⟩ := e
  refine ⟨o, ho, ?_⟩
  rw [over_comm _ _ _ _ _ (fun e : k = q => hn (e ▸ List.mem_cons_self))]
  exact backIn_over (fun hm => hn (List.mem_cons_of_mem _ hm)) e
theorem inObs_same {h h' : Heap} {ρ : Key → Key} : ∀ {ks : List Key} {i : Nat}, (∀ q, q ∈ ks → look h' q = look h q) → inObs h' ρ ks i = inObs h ρ ks i
 | [], _, _ => rfl
 | k :: r, i, hl => by
  simp only [inObs]
  rw [hl k List.mem_cons_self, inObs_same fun q hq => hl q (List.mem_cons_of_mem _ hq)]
theorem List.all_eq_all_same {α : Type} {f g : α → Bool} : ∀ {l : List α}, (∀ q, q ∈ l → f q = g q) → l.all f = l.all g
 | [], _ => rfl
 | a :: l, h => by
  simp only [List.all_cons]
  rw [h a List.mem_cons_self, List.all_eq_all_same fun q hq => h q (List.mem_cons_of_mem _ hq)]
theorem backIn_cons {σ : Key → Key} {h1 : Heap} {k : Key} {ob : Ob} : ∀ {ks : List Key} {i : Nat} {h h2 : Heap}, k ∉ ks → backIn σ h1 ks i h = some h2 → backIn σ h1 ks i ((k, ob) :: h) = some ((k, ob) :: h2)
 | [], i, h, h2, _, e => by
  simp only [backIn, Option.some.injEq] at e ⊢
  rw [e]
 | q :: r, i, h, h2, hn, e => by
  simp only [backIn, Option.bind_eq_some_iff] at e ⊢
  obtain ⟨o, ho, e⟩ := e
  refine ⟨o, ho, ?_⟩
  rw [over_cons_ne (fun e : k = q => hn (e ▸ List.mem_cons_self))]
  exact backIn_cons (fun hm => hn (List.mem_cons_of_mem _ hm)) e
theorem callA_far {dst : Option Nat} {q : FuncId} {args : List AV} {X : List Key} (he : callA O call false dst q args h = some r) (ho : O.out q = []) (hX : ∀ k, X.contains k = true → k ∉ reach h 50 (keysL (args.map AV.drop)) []) : ∀ k, X.contains k = true → look r.h k = look h k ∧ (∀ ob, look h k = none → reach ((k, ob) :: h) 50 (keysL (args.map AV.drop)) [] = reach h 50 (keysL (args.map AV.drop)) [] ∧ callA O call false dst q args ((k, ob) :: h) = some ⟨r.a, r.tk, (k, ob) :: r.h⟩) ∧ ∀ ob : Ob, reach (over h k ob) 50 (keysL (args.map AV.drop)) [] = reach h 50 (keysL (args.map AV.drop)) [] ∧ callA O call false dst q args (over h k ob) = some ⟨r.a, r.tk, over r.h k ob⟩ := by
 intro k hk
 have hkr := hX k hk
 unfold callA at he
 simp only [forceKs_eq, ho] at he
 split at he
 ·cases he
 ·rename_i hcond
  simp only [Bool.or_eq_true, not_or, Bool.not_eq_true', Bool.not_eq_false] at hcond
  simp only [Option.bind_eq_some_iff] at he
  obtain ⟨h0, hin, he⟩ := he
  split at he
  ·cases he
  ·rename_i hclo
   simp only [Option.bind_eq_some_iff] at he
   obtain ⟨p, hp, he⟩ := he
   split at he
   ·cases he
   ·rename_i hn3
    simp only [Option.bind_eq_some_iff, Option.some.injEq, List.filter_nil, backOut] at he
    obtain ⟨h2, e2, h3, e3, rfl⟩ := he
    have e3 : h2 = h3 := by simpa using e3
    subst e3
    have hks : ∀ q ∈ keysL (args.map AV.drop), q ≠ k := fun q hq e => by
     have := List.all_eq_true.1 hcond.1.1.2 q hq
     exact hkr (e ▸ List.contains_iff_mem.1 this)
    have hcl : ∀ q o, q ∈ reach h 50 (keysL (args.map AV.drop)) [] → look h q = some o → k ∉ keysD o.d.t o.d.x := fun q o hq ho hm => by
     simp only [Bool.not_eq_true', Bool.not_eq_false, List.all_eq_true] at hclo
     have h1 := hclo q hq
     rw [ho] at h1
     simp only [Option.map_some, Option.getD_some] at h1
     unfold keysO at h1
     split at h1
     ·rename_i hnr; rw [keysD_noRef _ _ hnr] at hm; cases hm
     ·exact hkr (List.contains_iff_mem.1 (List.all_eq_true.1 h1 k hm))
    refine ⟨(backIn_look hcond.1.2 e2).2 k hkr, fun ob hob => ?_, fun ob => ?_⟩
    rotate_left
    ·have hln : ∀ q, q ≠ k → look (over h k ob) q = look h q := fun q hq => look_over_ne hq
     have hr := reach_same hln 50 _ [] hks hcl
     refine ⟨hr, ?_⟩
     have hlk : ∀ q, q ∈ reach h 50 (keysL (args.map AV.drop)) [] → look (over h k ob) q = look h q := fun q hq => hln q fun e => hkr (e ▸ hq)
     unfold callA
     simp only [forceKs_eq, ho, hr]
     rw [if_neg (by simpa only [Bool.or_eq_true, not_or, Bool.not_eq_true', Bool.not_eq_false] using hcond)]
     rw [inObs_same (fun q hq => hlk q hq), hin]
     simp only [Option.bind_some]
     rw [if_neg (by
      rw [List.all_eq_all_same (fun q hq => by rw [hlk q hq])]
      exact hclo), hp]
     simp only [Option.bind_some]
     rw [if_neg hn3]
     simp only [List.filter_nil, backOut]
     rw [backIn_over (fun e => hkr e) e2]
     rfl
    have hr := reach_cons (ob := ob) 50 _ [] hks hcl
    refine ⟨hr, ?_⟩
    have hlk : ∀ q, q ∈ reach h 50 (keysL (args.map AV.drop)) [] → look ((k, ob) :: h) q = look h q := fun q hq => look_cons_ne fun e => hkr (e ▸ hq)
    unfold callA
    simp only [forceKs_eq, ho, hr]
    rw [if_neg (by simpa only [Bool.or_eq_true, not_or, Bool.not_eq_true', Bool.not_eq_false] using hcond)]
    rw [inObs_same (fun q hq => hlk q hq), hin]
    simp only [Option.bind_some]
    rw [if_neg (by
     rw [List.all_eq_all_same (fun q hq => by rw [hlk q hq])]
     exact hclo), hp]
    simp only [Option.bind_some]
    rw [if_neg hn3]
    simp only [List.filter_nil, backOut]
    rw [backIn_cons (fun e => hkr e) e2]
    rfl
theorem exec0_tk' (he : exec0 O call false f rid i o g h = some r) {k : Nat} (hk : r.tk = some k) : O.take f rid i = true ∧ Operand.tmp k ∈ o.op.operands := by
 by_cases hn : ∀ c x, o.op = .call c → c.callee ≠ .value x
 ·rw [exec0_draw hn] at he; exact exec0_tk he hk
 ·simp only [Classical.not_forall, Classical.not_not] at hn
  obtain ⟨c, x, hop, hc⟩ := hn
  simp only [exec0, hop, callO, hc] at he
  split at he
  ·rw [callA_tk (callT_A he)] at hk; cases hk
  ·cases he
theorem ptsTo_ty {T : TypeId} {k : Key} {p : List Nat} (hl : (look h' k).map (·.d.t) = (look h k).map (·.d.t)) : ptsTo O h' T (.op k p) = ptsTo O h T (.op k p) := by
 unfold ptsTo
 simp only
 cases h1 : look h k with
 | none => rw [h1] at hl; cases h2 : look h' k with
  | none => rfl
  | some u => rw [h2] at hl; cases hl
 | some v => rw [h1] at hl; cases h2 : look h' k with
  | none => rw [h2] at hl; cases hl
  | some u =>
   rw [h2] at hl
   simp only [Option.map_some, Option.some.injEq] at hl
   simp only [hl]
theorem ptsTo_ty2 {T : TypeId} {k : Key} {N : Nat} {p : List Nat} (hl : (look h' k).map (·.d.t) = (look h k).map (·.d.t)) : ptsTo O h' T (.vp k N p) = ptsTo O h T (.vp k N p) := by
 unfold ptsTo
 simp only
 cases h1 : look h k with
 | none => rw [h1] at hl; cases h2 : look h' k with
  | none => rfl
  | some u => rw [h2] at hl; cases hl
 | some v => rw [h1] at hl; cases h2 : look h' k with
  | none => rw [h2] at hl; cases hl
  | some u =>
   rw [h2] at hl
   simp only [Option.map_some, Option.some.injEq] at hl
   simp only [hl]
theorem look_d {h h' : Heap} {k : Key} (hl : (look h' k).map (·.d) = (look h k).map (·.d)) {β : Type} (F : Ob → Option β) (hF : ∀ a b : Ob, a.d = b.d → F a = F b) : (look h' k).bind F = (look h k).bind F := by
 cases h1 : look h k with
 | none => rw [h1] at hl; cases h2 : look h' k with
  | none => rfl
  | some u => rw [h2] at hl; cases hl
 | some v => rw [h1] at hl; cases h2 : look h' k with
  | none => rw [h2] at hl; cases hl
  | some u =>
   rw [h2] at hl
   simp only [Option.map_some, Option.some.injEq] at hl
   exact hF u v hl
theorem exec0_footR (he : exec0 O call false f rid i o g h = some r) : Eff (footR O f rid i o g) h r (fun h' => exec0 O call false f rid i o g h') := by
 have calm : opClass (O.take f rid i) o.op = 0 → (∀ c x, o.op = .call c → c.callee ≠ .value x) → Eff .zero h r (fun h' => exec0 O call false f rid i o g h') := fun hc hn => by
  rw [exec0_draw hn] at he
  obtain ⟨_, c1, c2⟩ := exec0_calm hc rfl he
  exact ⟨c1, fun h' => by show exec0 O call false f rid i o g h' = _; rw [exec0_draw hn]; exact c2 h'⟩
 unfold footR
 cases hop : o.op with
 | load T x =>
  simp only
  cases htk : O.take f rid i with
  | true =>
   simp only [if_true]
   cases hv : val g none x with
   | op k p =>
    simp only [exec0, hop, loadA, htk, if_true, hv, Option.bind_eq_some_iff] at he
    obtain ⟨d, hd, he⟩ := he
    split at he
    ·rename_i hT
     simp only [Option.bind_eq_some_iff, Option.some.injEq] at he
     obtain ⟨ob, hob, rfl⟩ := he
     refine ⟨ob, ⟨ob.d, strip p ob.own⟩, hob, rfl, rfl, fun h' hl => ?_⟩
     have hd' : loadV O h' (.op k p) = some d := by
      simp only [loadV] at hd ⊢
      rw [hl, ← hob]
      exact hd
     simp only [exec0, hop, loadA, htk, if_true, hv, hd', Option.bind_some, if_pos hT, hl]
    ·cases he
   | _ => exact trivial
  | false =>
   simp only [Bool.false_eq_true, if_false]
   simp only [exec0, hop, loadA, htk, Bool.false_eq_true, if_false, Option.bind_eq_some_iff] at he
   obtain ⟨d, hd, he⟩ := he
   split at he
   ·rename_i hT
    cases he
    have fin : ∀ h', loadV O h' (val g none x) = some d → exec0 O call false f rid i o g h' = some ⟨d.av [], none, h'⟩ := fun h' hd' => by
     simp only [exec0, hop, loadA, htk, Bool.false_eq_true, if_false, hd', Option.bind_some, if_pos hT]
    cases hv : val g none x with
    | op k p =>
     rw [hv] at hd
     exact ⟨rfl, fun h' hl => fin h' (by rw [hv]; simp only [loadV] at hd ⊢; rw [← hd]; exact look_d hl _ fun a b e => by (cases a; cases b; dsimp only at e; subst e; rfl))⟩
    | vp k N p =>
     rw [hv] at hd
     exact ⟨rfl, fun h' hl => fin h' (by rw [hv]; simp only [loadV] at hd ⊢; rw [← hd]; exact look_d hl _ fun a b e => by (cases a; cases b; dsimp only at e; subst e; rfl))⟩
    | sp t y => rw [hv] at hd; exact ⟨rfl, fun h' => fin h' (by rw [hv]; exact hd)⟩
    | gp q p => rw [hv] at hd; exact ⟨rfl, fun h' => fin h' (by rw [hv]; exact hd)⟩
    | _ => exact trivial
   ·cases he
 | fieldAddr T x k =>
  simp only [exec0, hop] at he
  split at he
  ·rename_i hc
   simp only [Bool.and_eq_true] at hc
   simp only [Option.map_eq_some_iff] at he
   obtain ⟨b, hb, rfl⟩ := he
   have fin : ∀ h', ptsTo O h' T (val g none x) = true → exec0 O call false f rid i o g h' = some ⟨b, none, h'⟩ := fun h' hp => by
    simp only [exec0, hop, hp, hc.2, Bool.and_self, if_true, hb, Option.map_some]
   simp only
   cases hv : val g none x with
   | op q p => rw [hv] at hc; exact ⟨rfl, fun h' hl => fin h' (by rw [hv, ptsTo_ty hl]; exact hc.1)⟩
   | vp q N p => rw [hv] at hc; exact ⟨rfl, fun h' hl => fin h' (by rw [hv, ptsTo_ty2 hl]; exact hc.1)⟩
   | sp t y => rw [hv] at hc; exact ⟨rfl, fun h' => fin h' (by rw [hv]; exact hc.1)⟩
   | gp q p => rw [hv] at hc; exact ⟨rfl, fun h' => fin h' (by rw [hv]; exact hc.1)⟩
   | _ => exact trivial
  ·cases he
 | indexAddr T x k =>
  simp only [exec0, hop] at he
  simp only
  split at he
  ·rename_i n t hT
   split at he
   ·rename_i hc
    simp only [Option.map_eq_some_iff] at he
    obtain ⟨b, hb, rfl⟩ := he
    have fin : ∀ h', ptsTo O h' T (val g none x) = true → exec0 O call false f rid i o g h' = some ⟨b, none, h'⟩ := fun h' hp => by
     simp only [exec0, hop, hT, hp, if_true, hb, Option.map_some]
    cases hv : val g none x with
    | op q p => rw [hv] at hc; exact ⟨rfl, fun h' hl => fin h' (by rw [hv, ptsTo_ty hl]; exact hc)⟩
    | vp q N p => rw [hv] at hc; exact ⟨rfl, fun h' hl => fin h' (by rw [hv, ptsTo_ty2 hl]; exact hc)⟩
    | gp q p => rw [hv] at hc; exact ⟨rfl, fun h' => fin h' (by rw [hv]; exact hc)⟩
    | tv own u y => rw [hv] at hc; simp [ptsTo] at hc
    | _ => exact trivial
   ·cases he
  ·rename_i u hu
   simp only [Option.map_eq_some_iff] at he
   obtain ⟨b, hb, rfl⟩ := he
   have fin : ∀ h', exec0 O call false f rid i o g h' = some ⟨b, none, h'⟩ := fun h' => by
    simp only [exec0, hop]
    cases hT : O.ty T with
    | none => rw [hT] at hb; simp only [hb, Option.map_some]
    | some t => cases t with
     | arr gw n t => exact absurd hT (hu gw n t)
     | _ => rw [hT] at hb; simp only [hb, Option.map_some]
   cases hv : val g none x with
   | op q p => exact ⟨rfl, fun h' _ => fin h'⟩
   | vp q N p => exact ⟨rfl, fun h' _ => fin h'⟩
   | gp q p => exact ⟨rfl, fun h' => fin h'⟩
   | tv own t y => exact ⟨rfl, fun h' => fin h'⟩
   | _ => exact trivial
 | store T x y =>
  simp only
  simp only [exec0, hop, Option.bind_eq_some_iff] at he
  obtain ⟨d, hd, he⟩ := he
  split at he
  ·rename_i hT
   simp only [Option.map_eq_some_iff] at he
   obtain ⟨h1, hs, rfl⟩ := he
   cases hv : val g none x with
   | op k p =>
    rw [hv] at hs
    simp only [storeV, Option.bind_eq_some_iff, Option.map_eq_some_iff] at hs
    obtain ⟨b, hb, y', hu, rfl⟩ := hs
    refine ⟨b, ⟨⟨b.d.t, y'⟩, _⟩, hb, rfl, rfl, fun h' hl => ?_⟩
    simp only [exec0, hop, hd, Option.bind_some, if_pos hT, hv, storeV, hl, hu, Option.map_some]
   | vp k N p =>
    rw [hv] at hs
    simp only [storeV, Option.bind_eq_some_iff] at hs
    obtain ⟨b, hb, hs⟩ := hs
    split at hs
    ·rename_i hlen
     simp only [Option.map_eq_some_iff] at hs
     obtain ⟨y', hu, rfl⟩ := hs
     refine ⟨b, ⟨⟨b.d.t, y'⟩, _⟩, hb, rfl, rfl, fun h' hl => ?_⟩
     simp only [exec0, hop, hd, Option.bind_some, if_pos hT, hv, storeV, hl, if_pos hlen, hu, Option.map_some]
    ·cases hs
   | _ => exact trivial
  ·cases he
 | alloc T =>
  simp only [exec0, hop, Option.bind_eq_some_iff] at he
  obtain ⟨t, hT, he⟩ := he
  have he0 := he
  obtain ⟨d, hd, hk, rfl⟩ := allocA_some he
  simp only [hd]
  refine ⟨_, hk, rfl, fun h' hl => ?_⟩
  simp only [exec0, hop, hT, Option.bind_some, allocA, hd, hl, Option.isNone_none, Bool.true_and]
  simp only [allocA, hd, hk, Option.isNone_none, Bool.true_and] at he0
  split at he0
  ·rename_i hlt; rw [if_pos hlt]
  ·cases he0
 | box T x =>
  simp only [exec0, hop, Option.bind_eq_some_iff] at he
  obtain ⟨q, hq, he⟩ := he
  split at he
  ·rename_i hT
   have he0 := he
   obtain ⟨d, hd, hk, rfl⟩ := allocA_some he
   simp only [hd]
   refine ⟨_, hk, rfl, fun h' hl => ?_⟩
   simp only [exec0, hop, hq, Option.bind_some, if_pos hT, allocA, hd, hl, Option.isNone_none, Bool.true_and]
   simp only [allocA, hd, hk, Option.isNone_none, Bool.true_and] at he0
   split at he0
   ·rename_i hlt; rw [if_pos hlt]
   ·cases he0
  ·cases he
 | call c =>
  simp only
  cases hc : c.callee with
  | builtin b => exact calm (by rw [hop]; rfl) (fun c' x e => by rw [hop] at e; cases e; rw [hc]; nofun)
  | invoke x n => exact calm (by rw [hop]; rfl) (fun c' x e => by rw [hop] at e; cases e; rw [hc]; nofun)
  | value x =>
   simp only
   cases hv : val g none x with
   | fn q first caps =>
    simp only
    cases htk : O.take f rid i with
    | true =>
     simp only [if_true]
     split
     ·rename_i k hks
      simp only [exec0, hop, callO, hc, hv, htk] at he
      obtain ⟨ob, ob', c1, c2, c3⟩ := callT_one hks he
      exact ⟨ob, ob', c1, c2, fun h' hl => by show exec0 O call false f rid i o g h' = _; simp only [exec0, hop, callO, hc, hv, htk]; exact c3 h' hl⟩
     ·exact trivial
    | false =>
     simp only [Bool.false_eq_true, if_false]
     split
     ·rename_i hcd
      simp only [Bool.and_eq_true, List.isEmpty_iff] at hcd
      have hfar : ∀ h' X, farK O h' q (first ++ argV O g c ++ caps) X = true := fun h' X => by
       unfold farK
       split
       ·rfl
       ·rw [hcd.1, hcd.2]; simp [reach]
      simp only [exec0, hop, callO, hc, hv] at he
      obtain ⟨c1, c2⟩ := callA_calm' hcd.1 hcd.2 (callT_A he)
      refine ⟨c1, fun h' => ?_⟩
      show exec0 O call false f rid i o g h' = _
      simp only [exec0, hop, callO, hc, hv, htk, callT, Bool.false_and, Bool.false_or]
      exact (if_neg (by rw [show farK O h' q (first ++ List.map (fun x => val g ((c.argTypes[x.2]?).bind O.ty) x.1) c.args.toList.zipIdx ++ caps) (O.far f rid i) = true from hfar h' _]; simp)).trans (by
       have := c2 h'
       unfold argV at this
       rw [this, Option.bind_some]; exact keepR_same rfl)
     ·split
      ·exact trivial
      ·rename_i X hne
       simp only [exec0, hop, callO, hc, hv] at he
       have hne' : O.far f rid i ≠ [] := hne
       split
       ·rename_i hro
        unfold callT at he
        split at he
        ·cases he
        ·simp only [Option.bind_eq_some_iff] at he
         obtain ⟨r', h1, h2⟩ := he
         obtain ⟨e1, e2⟩ := keepR_some h2
         subst e1
         exact e2 hro
       rename_i hro
       have hro : roK (O.far f rid i) = false := by simpa using hro
       intro k hk
       obtain ⟨f1, f2⟩ := callT_far he hne' hro
       obtain ⟨c1, c2, c3⟩ := callA_far (callT_A he) f1 f2 k hk
       refine ⟨c1, fun ob hob => ?_, fun ob ob' _ => ?_⟩
       ·obtain ⟨d1, d2⟩ := c2 ob hob
        show exec0 O call false f rid i o g _ = _
        simp only [exec0, hop, callO, hc, hv]
        exact callT_far' he d1 d2
       ·obtain ⟨d1, d2⟩ := c3 ob'
        show exec0 O call false f rid i o g _ = _
        simp only [exec0, hop, callO, hc, hv]
        exact callT_far' he d1 d2
   | _ => exact trivial
 | _ => exact calm (by rw [hop]; rfl) (fun c x e => by rw [hop] at e; cases e)
theorem execM_foot {tk : Bool} (he : execM O tk o g h = some r) : Eff (footM O o g) h r (fun h' => execM O tk o g h') := by
 unfold footM
 split
 ·rename_i T x k ok hop
  simp only [execM, hop, Option.map_eq_some_iff] at he
  obtain ⟨b, hb, rfl⟩ := he
  have key : ∀ h', (∀ a c r, asT (.mref a c) (val g (O.ty T) x) = some r → mapRd h' a c r = mapRd h a c r) → execM O tk o g h' = some ⟨b, none, h'⟩ := by
   intro h' hm
   simp only [execM, hop, Option.map_eq_some_iff]
   refine ⟨b, ?_, rfl⟩
   unfold lookA at hb ⊢
   split at hb
   ·rename_i a c hT
    simp only [Option.bind_eq_some_iff] at hb
    obtain ⟨r, h1, l, h2, h3⟩ := hb
    simp only [h1, Option.bind_some, hm a c r h1, h2]
    simpa only [Option.bind_eq_some_iff] using h3
   ·cases hb
  split
  ·rename_i own a' c' r hv
   cases r with
   | some q =>
    refine ⟨rfl, fun h' hl => key h' fun a c r' hr => ?_⟩
    have hr0 := hr
    unfold asT at hr
    rw [hv] at hr
    simp only at hr
    split at hr
    ·rename_i e
     cases e
     cases hr
     simp only [mapRd]
     exact look_d hl _ fun a b e => by (cases a; cases b; dsimp only at e; subst e; rfl)
    ·cases hr
   | none =>
    refine ⟨rfl, fun h' => key h' fun a c r' hr => ?_⟩
    unfold asT at hr
    rw [hv] at hr
    simp only at hr
    split at hr
    ·rename_i e
     cases e
     cases hr
     simp only [mapRd]
    ·cases hr
  ·exact trivial
 ·exact trivial
theorem exec_foot0 (he : exec O call false f rid i o g h = some r) : Eff (foot0 O f rid i o g) h r (fun h' => exec O call false f rid i o g h') := by
 unfold foot0
 split
 ·rename_i hm
  unfold exec at he ⊢
  rw [if_pos hm] at he
  have := execM_foot he
  simp only [if_pos hm]
  exact this
 ·rename_i hm
  unfold exec at he ⊢
  rw [if_neg hm] at he
  have := exec0_footR he
  simp only [if_neg hm]
  exact this
theorem exec_tk' (he : exec O call false f rid i o g h = some r) {k : Nat} (hk : r.tk = some k) : O.take f rid i = true ∧ Operand.tmp k ∈ o.op.operands := by
 unfold exec at he
 split at he
 ·exact execM_tk he hk
 ·exact exec0_tk' he hk
theorem stepG_foot (he : stepG O call false f rid ops i o g h = some r) : Eff (foot O f rid ops i o g) h r (fun h' => stepG O call false f rid ops i o g h') := by
 unfold stepG foot at *
 cases hg : o.guard with
 | none => rw [hg] at he; exact exec_foot0 he
 | some jb =>
  obtain ⟨j, b⟩ := jb
  rw [hg] at he
  simp only at he ⊢
  cases hy : yieldA ops g j with
  | none => rw [hy] at he; cases he
  | some y =>
   rw [hy] at he
   cases y with
   | none => simp only [Option.some.injEq] at he; subst he; exact ⟨rfl, fun h' => rfl⟩
   | some x =>
    simp only at he ⊢
    cases hx : (x == b) with
    | true => rw [hx] at he; exact exec_foot0 he
    | false => rw [hx] at he; simp only [cond_false, Option.some.injEq] at he; subst he; exact ⟨rfl, fun h' => rfl⟩
end Go.Am
namespace Go.Am
variable {P : Program} {O : Orc} {FB : Nat → Nat → Prop} {call : CallF} {f : FuncId} {rid i j : Nat} {o : Oper} {r : Res} {ops : Array Oper} {g g' : Nat → AV} {h h' : Heap} {s s1 s2 : St} {Q : Exit → Act → World → Prop}
theorem stepG_congr' (hg : ∀ t ∈ opReads ops o, g t = g' t) : stepG O call false f rid ops i o g h = stepG O call false f rid ops i o g' h := by
 unfold stepG
 have he := exec_congr (O := O) (call := call) (draw := false) (f := f) (rid := rid) (i := i) (o := o) (h := h) (g := g) (g' := g') fun t ht => hg t (opReads_op ht)
 cases hgd : o.guard with
 | none => simp only [he]
 | some jb =>
  obtain ⟨j, b⟩ := jb
  have hy := yieldA_congr (ops := ops) (g := g) (g' := g') (j := j) fun t ht => hg t (by
   unfold opReads
   refine List.mem_append_right _ ?_
   simp [hgd, ht])
  simp only [he, hy]
theorem foot_congr (hg : ∀ t ∈ opReads ops o, g t = g' t) : foot O f rid ops i o g = foot O f rid ops i o g' := by
 have hx : ∀ x, x ∈ o.op.operands → ∀ t : Option Ty, val g t x = val g' t x := fun x hm t => val_congr fun k e => hg k (opReads_op (e ▸ hm))
 have hR : footR O f rid i o g = footR O f rid i o g' := by
  unfold footR
  cases hop : o.op with
  | load T x => rw [hop] at hx; simp only [hx x (by simp [Op.operands])]
  | fieldAddr T x k => rw [hop] at hx; simp only [hx x (by simp [Op.operands])]
  | indexAddr T x k => rw [hop] at hx; simp only [hx x (by simp [Op.operands])]
  | store T x y => rw [hop] at hx; simp only [hx x (by simp [Op.operands]), hx y (by simp [Op.operands])]
  | call c =>
   rw [hop] at hx
   simp only
   cases hc : c.callee with
   | value x =>
    have h1 : val g none x = val g' none x := hx x (by simp [Op.operands, Call.operands, hc]) none
    have h2 : argV O g c = argV O g' c := List.map_congr_left fun p hp => by
     obtain ⟨x, j⟩ := p
     simp only [hx x (by simp [Op.operands, Call.operands]; exact .inr (by simpa using List.fst_mem_of_mem_zipIdx hp))]
    simp only [h1, h2]
   | _ => rfl
  | _ => rfl
 have hM : footM O o g = footM O o g' := by
  unfold footM
  cases hop : o.op with
  | lookup T x k ok => rw [hop] at hx; simp only [hx x (by simp [Op.operands])]
  | _ => rfl
 have h0 : foot0 O f rid i o g = foot0 O f rid i o g' := by
  unfold foot0
  rw [hR, hM]
 unfold foot
 cases hgd : o.guard with
 | none => exact h0
 | some jb =>
  obtain ⟨j, b⟩ := jb
  have hy := yieldA_congr (ops := ops) (g := g) (g' := g') (j := j) fun t ht => hg t (by
   unfold opReads
   refine List.mem_append_right _ ?_
   simp [hgd, ht])
  simp only [h0, hy]
theorem stepG_tk' (he : stepG O call false f rid ops i o g h = some r) {k : Nat} (hk : r.tk = some k) : k ∈ opWrites (O.take f rid i) o := by
 have fin : exec O call false f rid i o g h = some r → k ∈ opWrites (O.take f rid i) o := fun h1 => by
  obtain ⟨a, b⟩ := exec_tk' h1 hk
  unfold opWrites
  rw [a]
  refine List.mem_append_right _ ?_
  simp only [if_true]
  exact List.mem_filterMap.2 ⟨.tmp k, by simpa using b, rfl⟩
 unfold stepG at he
 cases hgd : o.guard with
 | none => rw [hgd] at he; exact fin he
 | some jb =>
  obtain ⟨j, b⟩ := jb
  rw [hgd] at he
  simp only at he
  split at he
  ·rename_i x _
   cases hx : (x == b) with
   | true => rw [hx] at he; exact fin he
   | false => rw [hx] at he; simp only [cond_false, Option.some.injEq] at he; subst he; cases hk
  ·cases he; cases hk
  ·cases he
theorem step_commD {a b : Oper} (hi : ops[i]? = some a) (hj : ops[j]? = some b) (ha : apartS O f rid ops i j = true) (hcm : compat (foot O f rid ops i a s.get) (foot O f rid ops j b s1.get) = true) (h1 : step O call false f rid ops i s = some s1) (h2 : step O call false f rid ops j s1 = some s2) :
  ∃ s1', step O call false f rid ops j s = some s1' ∧ step O call false f rid ops i s1' = some s2 ∧ foot O f rid ops j b s.get = foot O f rid ops j b s1.get ∧ foot O f rid ops i a s1'.get = foot O f rid ops i a s.get := by
 unfold apartS at ha
 unfold step at h1 h2
 rw [hi] at h1
 rw [hj] at h2
 rw [hi, hj] at ha
 simp only [Bool.and_eq_true, List.all_eq_true, Bool.not_eq_true'] at ha
 obtain ⟨hw1, hw2⟩ := ha
 simp only [Option.map_eq_some_iff] at h1 h2
 obtain ⟨r1, e1, rfl⟩ := h1
 obtain ⟨r2, e2, rfl⟩ := h2
 have w1 : ∀ d ∈ opWrites (O.take f rid i) a, d ∉ opReads ops b ∧ d ∉ opWrites (O.take f rid j) b := fun d hd => by
  obtain ⟨x, y⟩ := hw1 d hd
  exact ⟨fun hm => (by have := List.contains_iff_mem.2 hm; rw [x] at this; cases this), fun hm => (by have := List.contains_iff_mem.2 hm; rw [y] at this; cases this)⟩
 have w2 : ∀ d ∈ opWrites (O.take f rid j) b, d ∉ opReads ops a := fun d hd hm => by
  have x := hw2 d hd
  have := List.contains_iff_mem.2 hm
  rw [x] at this; cases this
 have k1 : ∀ t, a.dst = some t → t ∈ opWrites (O.take f rid i) a := fun t ht => dst_writes ht
 have k2 : ∀ t, b.dst = some t → t ∈ opWrites (O.take f rid j) b := fun t ht => dst_writes ht
 have g1 : ∀ t ∈ opReads ops b, s.get t = (s.app a.dst r1).get t := by
  intro t ht
  rw [get_app, if_neg, if_neg]
  ·intro hk; exact (w1 t (stepG_tk' e1 hk)).1 ht
  ·rintro ⟨hd, _⟩; exact (w1 t (k1 t hd)).1 ht
 have hh : (s.app a.dst r1).heap = r1.h := by rw [app_eq]
 rw [hh] at e2
 have e2' : stepG O call false f rid ops j b s.get r1.h = some r2 := (stepG_congr' g1).trans e2
 have hfj : foot O f rid ops j b s.get = foot O f rid ops j b (s.app a.dst r1).get := foot_congr g1
 rw [← hfj] at hcm
 obtain ⟨r2', b1, b2, b3, r1', c1, c2, c3, c4⟩ := Eff.comm hcm (stepG_foot e1) (stepG_foot e2') e1 e2'
 have g2 : ∀ t ∈ opReads ops a, s.get t = (s.app b.dst r2').get t := by
  intro t ht
  rw [get_app, if_neg, if_neg]
  ·intro hk; rw [b3] at hk; exact w2 t (stepG_tk' e2' hk) ht
  ·rintro ⟨hd, _⟩; exact w2 t (k2 t hd) ht
 refine ⟨s.app b.dst r2', ?_, ?_, hfj, (foot_congr g2).symm⟩
 ·unfold step; rw [hj]; simp only [b1, Option.map_some]
 ·unfold step; rw [hi]
  have hh' : (s.app b.dst r2').heap = r2'.h := by rw [app_eq]
  have c1' : stepG O call false f rid ops i a (s.app b.dst r2').get r2'.h = some r1' := (stepG_congr' g2).symm.trans c1
  simp only [hh', c1', Option.map_some, Option.some.injEq]
  refine st_ext (by simp only [app_len]) (fun t => ?_) ?_
  ·simp only [get_app, app_len, c2, c3, b2, b3]
   by_cases ta : t ∈ opWrites (O.take f rid i) a
   ·have tb := (w1 t ta).2
    have n1 : ¬ (b.dst = some t ∧ t < s.env.length) := fun hd => tb (k2 t hd.1)
    have n2 : ¬ r2.tk = some t := fun hk => tb (stepG_tk' e2' hk)
    simp only [if_neg n1, if_neg n2]
   ·have n1 : ¬ (a.dst = some t ∧ t < s.env.length) := fun hd => ta (k1 t hd.1)
    have n2 : ¬ r1.tk = some t := fun hk => ta (stepG_tk' e1 hk)
    simp only [if_neg n1, if_neg n2]
  ·rw [app_eq, app_eq]; exact c4
def RunP (O : Orc) (call : CallF) (f : FuncId) (rid : Nat) (ops : Array Oper) : List (Nat × Foot) → St → St → Prop
 | [], s, s' => s = s'
 | p :: l, s, s' => ∃ o s1, ops[p.1]? = some o ∧ foot O f rid ops p.1 o s.get = p.2 ∧ step O call false f rid ops p.1 s = some s1 ∧ RunP O call f rid ops l s1 s'
theorem runP_front : ∀ (pre post : List (Nat × Foot)) (p : Nat × Foot) (s s' : St), (∀ x ∈ pre, apartS O f rid ops x.1 p.1 = true ∧ compat x.2 p.2 = true) → RunP O call f rid ops (pre ++ p :: post) s s' →
  ∃ o s1, ops[p.1]? = some o ∧ foot O f rid ops p.1 o s.get = p.2 ∧ step O call false f rid ops p.1 s = some s1 ∧ RunP O call f rid ops (pre ++ post) s1 s'
 | [], post, p, s, s', _, h => h
 | x :: pre, post, p, s, s', ha, h => by
  simp only [List.cons_append, RunP] at h
  obtain ⟨ox, sx, h1, h2, h3, h4⟩ := h
  obtain ⟨op, s2, q1, q2, q3, q4⟩ := runP_front pre post p sx s' (fun y hy => ha y (List.mem_cons_of_mem _ hy)) h4
  obtain ⟨a1, a2⟩ := ha x List.mem_cons_self
  obtain ⟨s1, c1, c2, c3, c4⟩ := step_commD h1 q1 a1 (by rw [h2, q2]; exact a2) h3 q3
  refine ⟨op, s1, q1, c3.trans q2, c1, ?_⟩
  simp only [List.cons_append, RunP]
  exact ⟨ox, s2, h1, c4.trans h2, c2, q4⟩
def chk (O : Orc) (f : FuncId) (rid : Nat) (ops : Array Oper) (p q : Nat × Foot) : Prop := (ah ops q.1).testBit p.1 = true ∨ (apartS O f rid ops p.1 q.1 = true ∧ compat p.2 q.2 = true)
theorem stepsD_run : ∀ (l : List Nat) (acc : List (Nat × Foot)) (s s' : St), stepsD O call f rid ops (aheads ops.toList []) l acc s = some s' →
  ∃ M, M.map Prod.fst = l ∧ RunP O call f rid ops M s s' ∧ M.Pairwise (chk O f rid ops) ∧ ∀ p ∈ acc, ∀ q ∈ M, chk O f rid ops p q
 | [], acc, s, s', h => by
  simp only [stepsD, Option.some.injEq] at h
  exact ⟨[], rfl, h, List.Pairwise.nil, fun _ _ _ hq => by cases hq⟩
 | j :: l, acc, s, s', h => by
  simp only [stepsD] at h
  split at h
  ·cases h
  ·rename_i o ho
   split at h
   ·rename_i hall
    simp only [Option.bind_eq_some_iff] at h
    obtain ⟨s1, h1, h2⟩ := h
    obtain ⟨M, m1, m2, m3, m4⟩ := stepsD_run l _ s1 s' h2
    simp only [List.all_eq_true, Bool.or_eq_true, Bool.and_eq_true] at hall
    refine ⟨(j, foot O f rid ops j o s.get) :: M, by simp [m1], ⟨o, s1, ho, rfl, h1, m2⟩, ?_, fun p hp q hq => ?_⟩
    ·rw [List.pairwise_cons]
     exact ⟨fun q hq => m4 _ (List.mem_append_right _ (List.mem_singleton.2 rfl)) q hq, m3⟩
    ·rcases List.mem_cons.1 hq with rfl | hq
     ·exact hall p hp
     ·exact m4 p (List.mem_append_left _ hp) q hq
   ·cases h
theorem wpAnyD_ok (hO : OrcOK P O) (hC : CallOK P O call) (hf : fwdOk ops = true) : ∀ (fuel : Nat) (listed : Array Bool) (M : List (Nat × Foot)) {w : World} {s s' : St} {ι : Key → Nat} {a : Act}, listed.size = ops.size → Cl ops listed → M.map Prod.fst = Rest ops listed → M.Pairwise (chk O f rid ops) → M.length = fuel → Rel O FB w s (tmOf a) ι → s.env.length = a.tmps.size →
  RunP O call f rid ops M s s' → Leaves O FB w s ι a s' (Q .normal) → wpAny P .any ops Q fuel listed a w := by
 intro fuel
 induction fuel with
 | zero =>
  intro listed M w s s' ι a hs hc hM hP hn h hl he hq
  have hm : M = [] := List.length_eq_zero_iff.1 hn
  subst hm
  have hr : Rest ops listed = [] := by rw [← hM]; rfl
  simp only [RunP] at he
  subst he
  refine ⟨?_, hq _ _ ι rfl rfl (Goes.refl h)⟩
  refine List.eq_nil_iff_forall_not_mem.2 fun x hx => ?_
  obtain ⟨x1, x2, _⟩ := ready_iff.1 hx
  have : x ∈ Rest ops listed := mem_rest.2 ⟨x1, x2⟩
  rw [hr] at this; cases this
 | succ fuel ih =>
  intro listed M w s s' ι a hs hc hM hP hn h hl he hq
  refine ⟨fun hr => ?_, fun i hi => ?_⟩
  ·cases hR : Rest ops listed with
   | nil => rw [hR] at hM; have := congrArg List.length hM; simp [hn] at this
   | cons k l =>
    obtain ⟨i, hi⟩ := exists_ready hf hs (k + 1) k (by omega) (by rw [hR]; exact List.mem_cons_self)
    rw [hr] at hi; cases hi
  ·obtain ⟨i1, i2, i3⟩ := ready_iff.1 hi
   obtain ⟨pre', post', p1, p2, p3⟩ := rest_split hs (mem_rest.2 ⟨i1, i2⟩)
   rw [p1] at hM
   obtain ⟨pre, tl, rfl, m1, m2⟩ := List.map_eq_append_iff.1 hM
   obtain ⟨p, post, rfl, m3, m4⟩ := List.map_eq_cons_iff.1 m2
   have hfront : ∀ x ∈ pre, apartS O f rid ops x.1 p.1 = true ∧ compat x.2 p.2 = true := by
    intro x hx
    have hxm : x.1 ∈ pre' := by rw [← m1]; exact List.mem_map_of_mem hx
    obtain ⟨x1, x2⟩ := p3 x.1 hxm
    rcases (List.pairwise_append.1 hP).2.2 x hx p List.mem_cons_self with hb | hb
    ·exfalso
     rw [m3] at hb
     obtain ⟨x3, x4⟩ := mem_rest.1 x2
     rw [getD_tf (by omega)] at x4
     obtain ⟨e, e1, e2, e3⟩ := ah_bit (Array.getElem?_eq_getElem i1) hb
     have hle := i3 _ (Array.getElem?_eq_getElem i1) e e1 e2
     rcases e3 with e3 | e3
     ·rw [← e3, x4] at hle; cases hle
     ·have hlt := fwd_lt hf (Array.getElem?_eq_getElem i1) e1 e2
      have := Cl.ahead hf hs hc (e.on + 1) e.on (by omega) (by omega) hle x.1 e3
      rw [x4] at this; cases this
    ·exact hb
   obtain ⟨o, s1, q0, _, q1, q2⟩ := runP_front pre post p s s' hfront he
   rw [m3] at q1
   refine step_ok hO hC h hl q1 fun a1 w1 ι1 hd1 hs1 hg => ?_
   refine ih (listed.setIfInBounds i true) (pre ++ post) (by simpa using hs) ?_ (by rw [List.map_append, m1, m4, p2]) (hP.sublist ((List.Sublist.refl pre).append (List.sublist_cons_self _ _))) (by simp only [List.length_append, List.length_cons] at hn ⊢; omega) hg.stp.rel (by rw [step_len q1, hl, hs1]) q2 (hq.chain h hd1 hs1 hg)
   intro k o' ho hk e he' hb
   have hmono : listed.getD e.on false = true → (listed.setIfInBounds i true).getD e.on false = true := fun hx => by
    simp only [Array.getD_eq_getD_getElem?, Array.getElem?_setIfInBounds] at hx ⊢
    split
    ·split <;> simp_all
    ·exact hx
   refine hmono ?_
   by_cases hki : k = i
   ·subst hki; exact i3 o' ho e he' hb
   ·refine hc k o' ho ?_ e he' hb
    simp only [Array.getD_eq_getD_getElem?, Array.getElem?_setIfInBounds] at hk ⊢
    rw [if_neg (fun e => hki e.symm)] at hk
    exact hk
theorem regionD_ok (hO : OrcOK P O) (hm : P.follows .mixedOrders = true) (hC : CallOK P O call) (hf : fwdOk ops = true) {w : World} {s s' : St} {ι : Key → Nat} {a : Act} (h : Rel O FB w s (tmOf a) ι) (hl : s.env.length = a.tmps.size)
  (he : stepsD O call f rid ops (aheads ops.toList []) (List.range ops.size) [] s = some s') (hq : Leaves O FB w s ι a s' (Q .normal)) : (Code.region rid ops true).wp P Q a w := by
 obtain ⟨M, m1, m2, m3, _⟩ := stepsD_run _ _ _ _ he
 refine wp_region_any hm ?_
 have h1 : Stp O FB w s (tmOf a) ι { w with drawn := w.drawn + 1 } s (tmOf a) ι := h.heapEq rfl
 have hg : Goes O FB w s (tmOf a) ι { w with drawn := w.drawn + 1 } s (tmOf a) ι := ⟨h1, hist_heap _ ⟨rfl, rfl, rfl, rfl⟩, fun _ _ => KGo.of ⟨rfl, rfl⟩⟩
 have hr : Rest ops (Array.replicate ops.size false) = List.range ops.size := by
  unfold Rest
  rw [List.filter_eq_self]
  intro x hx
  have := List.mem_range.1 hx
  simp [Array.getD_eq_getD_getElem?, this]
 have hlen : M.length = ops.size := by have := congrArg List.length m1; simpa using this
 refine wpAnyD_ok hO hC hf ops.size (Array.replicate ops.size false) M (by simp) ?_ (by rw [hr]; exact m1) m3 hlen h1.rel hl m2 (hq.chain h rfl rfl hg)
 intro i o ho hi
 have : i < ops.size := by
  rcases Nat.lt_or_ge i ops.size with h | h
  ·exact h
  ·rw [Array.getElem?_eq_none h] at ho; cases ho
 simp [Array.getD_eq_getD_getElem?, this] at hi
theorem stepsD_len {l : List Nat} {acc : List (Nat × Foot)} {s s' : St} {ah : List Nat} (h : stepsD O call f rid ops ah l acc s = some s') : s'.env.length = s.env.length := by
 induction l generalizing acc s with
 | nil => simp only [stepsD, Option.some.injEq] at h; rw [h]
 | cons j l ih =>
  simp only [stepsD] at h
  split at h
  ·cases h
  ·split at h
   ·simp only [Option.bind_eq_some_iff] at h
    obtain ⟨s1, h1, h2⟩ := h
    rw [ih h2, step_len h1]
   ·cases h
end Go.Am
namespace Go.Am
variable {P : Program} {O : Orc} {FB : Nat → Nat → Prop} {w : World} {s s' : St} {tm : Nat → Value} {ι : Key → Nat}
section
variable {R : Type}
theorem forceN_eq (n : Nat) (k : Nat → R) : forceN n k = k n := by cases n <;> rfl
theorem forceZ_eq (x : Int) (k : Int → R) : forceZ x k = k x := by cases x <;> simp [forceZ, forceN_eq]
theorem forceL_eq {α : Type} {g : α → (α → R) → R} (hg : ∀ a k, g a k = k a) : ∀ (l : List α) (k : List α → R), forceL g l k = k l
 | [], k => rfl
 | a :: l, k => by simp only [forceL, hg]; rw [forceL_eq hg l]
theorem forceB_eq (x : Bool) (k : Bool → R) : forceB x k = k x := by cases x <;> rfl
theorem forceP_eq (x : Key) (k : Key → R) : forceP x k = k x := by obtain ⟨a, b⟩ := x; simp [forceP, forceN_eq]
mutual
theorem forceX_eq : ∀ (x : XT) (k : XT → R), forceX x k = k x
  | .mk a b l, k => by simp only [forceX, forceZ_eq]; rw [forceXL_eq l]
theorem forceXL_eq : ∀ (l : List XT) (k : List XT → R), forceXL l k = k l
  | [], k => rfl
  | x :: l, k => by simp only [forceXL]; rw [forceX_eq x, forceXL_eq l]
end
theorem forceD_eq : ∀ (t : Ty) (x : den t) (k : den t → R), forceD t x k = k x
 | .int _, x, k => by simp only [forceD]; exact forceZ_eq x k
 | .bool, x, k => by simp only [forceD]; exact forceB_eq x k
 | .str, x, k => by simp only [forceD]; exact forceL_eq forceZ_eq x k
 | .unit, x, k => by simp only [forceD]
 | .ref, x, k => by
  simp only [forceD]
  have : ∀ y : Option Key, (match y with | none => k (none : Option Key) | some q => forceP q fun q => k (some q : Option Key)) = k y := fun y => by
   cases y with
   | none => rfl
   | some q => exact forceP_eq q _
  exact this x
 | .wref, x, k => by
  simp only [forceD]
  have : ∀ y : Option Key, (match y with | none => k (none : Option Key) | some q => forceP q fun q => k (some q : Option Key)) = k y := fun y => by
   cases y with
   | none => rfl
   | some q => exact forceP_eq q _
  exact this x
 | .expr, x, k => by simp only [forceD]; exact forceX_eq x k
 | .slice t, x, k => by simp only [forceD]; exact forceL_eq (forceD_eq t) x k
 | .pair a b, x, k => by simp only [forceD]; rw [forceD_eq a, forceD_eq b]
 | .arr _ _ t, x, k => by simp only [forceD]; exact forceL_eq (forceD_eq t) x k
 | .mref _ _, none, k => by simp only [forceD]
 | .mref _ _, some q, k => by simp only [forceD]; exact forceP_eq q _
 | .fnc, none, k => by simp only [forceD]
 | .fnc, some q, k => by simp only [forceD]; exact forceN_eq q _
 | .sref _, none, k => by simp only [forceD]
 | .sref _, some (q, a, b, c), k => by simp only [forceD, forceP_eq, forceN_eq]
 | .mp a b, x, k => by
  simp only [forceD]
  exact forceL_eq (fun y k => by simp only [forceD_eq a, forceD_eq b]) x k
theorem forceOwn_eq (l : List (List Nat)) (k : List (List Nat) → R) : forceL (forceL forceN) l k = k l := forceL_eq (fun a k => forceL_eq forceN_eq a k) l k
mutual
theorem forceA_eq : ∀ (a : AV) (k : AV → R), forceA a k = k a
  | .tv own t x, k => by simp only [forceA, forceOwn_eq, forceD_eq]
  | .sp t x, k => by simp only [forceA, forceD_eq]
  | .op q p, k => by simp only [forceA, forceP_eq, forceL_eq forceN_eq]
  | .vp q N p, k => by simp only [forceA, forceP_eq, forceN_eq, forceL_eq forceN_eq]
  | .fn f a b, k => by simp only [forceA]; rw [forceAL_eq a, forceAL_eq b]
  | .tup l, k => by simp only [forceA]; rw [forceAL_eq l]
  | .gp g p, k => by simp only [forceA, forceL_eq forceN_eq]
  | .xs t x, k => by simp only [forceA, forceL_eq (forceD_eq t)]
  | .no, k => rfl
  | .any, k => rfl
theorem forceAL_eq : ∀ (l : List AV) (k : List AV → R), forceAL l k = k l
  | [], k => rfl
  | a :: l, k => by simp only [forceAL]; rw [forceA_eq a, forceAL_eq l]
end
theorem forceO_eq (o : Key × Ob) (k : Key × Ob → R) : forceO o k = k o := by
 obtain ⟨q, ⟨⟨t, x⟩, own⟩⟩ := o
 simp only [forceO, forceP_eq, forceD_eq, forceOwn_eq]
theorem forceS_eq (s : St) (k : St → R) : forceS s k = k s := by
 obtain ⟨e, h⟩ := s
 simp only [forceS, forceAL_eq, forceL_eq forceO_eq]
end
theorem keep_len (l : List Nat) : ∀ (i : Nat) (e : List AV), (keep l i e).length = e.length
 | _, [] => rfl
 | i, a :: e => by simp [keep, keep_len l (i + 1) e]
theorem keep_get (l : List Nat) : ∀ (i : Nat) (e : List AV) (t : Nat), (keep l i e).getD t .any = e.getD t .any ∨ (keep l i e).getD t .any = .any
 | _, [], t => .inl rfl
 | i, a :: e, 0 => by
  simp only [keep, List.getD_cons_zero]
  split
  ·exact .inl rfl
  ·exact .inr rfl
 | i, a :: e, t + 1 => by simp only [keep, List.getD_cons_succ]; exact keep_get l (i + 1) e t
theorem look_filter' {p : Key → Bool} : ∀ (h : Heap) (k : Key), look (h.filter fun b => p b.1) k = if p k then look h k else none
 | [], k => by simp [look]
 | (q, o) :: r, k => by
  simp only [List.filter_cons]
  by_cases e : q = k
  ·subst e
   by_cases hp : p q = true
   ·simp [hp, look]
   ·simp only [hp, Bool.false_eq_true, if_false]
    rw [look_filter' r q]
    simp [hp]
  ·split
   ·simp only [look, if_neg e]; exact look_filter' r k
   ·simp only [look, if_neg e]; exact look_filter' r k
theorem Rel.cutDown0 (h : Rel O FB w s tm ι) {l : List Nat × List Key} (hr : restrict0 l s = some s') : Goes O FB w s tm ι w s' tm ι := by
 unfold restrict0 at hr
 simp only at hr
 split at hr
 ·rename_i hc
  simp only [Option.some.injEq] at hr
  simp only [Bool.and_eq_true, List.all_eq_true, shut] at hc
  obtain ⟨hk, hsh⟩ := hc
  generalize hp : (fun k : Key => k.1 == 0 || l.2.contains k) = p at *
  have hfil : (s.heap.filter fun q => q.1.1 == 0 || l.2.contains q.1) = s.heap.filter fun b => p b.1 := by rw [← hp]
  rw [hfil] at hr hk hsh
  subst hr
  have hget : ∀ t, St.get ⟨keep l.1 0 s.env, s.heap.filter fun b => p b.1⟩ t = s.get t ∨ St.get ⟨keep l.1 0 s.env, s.heap.filter fun b => p b.1⟩ t = .any := fun t => keep_get l.1 0 s.env t
  have hlook : ∀ k o, look (s.heap.filter fun b => p b.1) k = some o → look s.heap k = some o := fun k o e => by
   rw [look_filter'] at e
   split at e
   ·exact e
   ·cases e
  have hown : ∀ a x, owns w ⟨keep l.1 0 s.env, s.heap.filter fun b => p b.1⟩ tm ι a = some x → owns w s tm ι a = some x := by
   intro a x e
   cases a with
   | sl i q =>
    simp only [owns] at e ⊢
    rcases hget i with hg | hg
    ·rw [hg] at e; exact e
    ·rw [hg] at e; cases e
   | fd k q =>
    simp only [owns] at e ⊢
    cases hl : look (s.heap.filter fun b => p b.1) k with
    | none => rw [hl] at e; cases e
    | some o => rw [hl] at e; rw [hlook k o hl]; exact e
   | ob k =>
    simp only [owns] at e ⊢
    cases hl : look (s.heap.filter fun b => p b.1) k with
    | none => rw [hl] at e; cases e
    | some o => rw [hl] at e; rw [hlook k o hl]; exact e
  have hc : CellLe (rlOf w FB s tm ι) (rlOf w FB ⟨keep l.1 0 s.env, s.heap.filter fun b => p b.1⟩ tm ι) :=
   fun b o ⟨p1, p2, p3⟩ v hv => ⟨hv, p1, fun a lo e => p2 a lo (hown a _ e), p3⟩
  have hkt : ∀ k, (look (s.heap.filter fun b => p b.1) k).isSome = true → ∀ y, (rlOf w FB s tm ι).kt k = some y → (rlOf w FB ⟨keep l.1 0 s.env, s.heap.filter fun b => p b.1⟩ tm ι).kt k = some y := by
   intro k hs y hy
   obtain ⟨o, ho⟩ := Option.isSome_iff_exists.1 hs
   have hy' : (look s.heap k).map (fun o => (ι k, o.d.t)) = some y := hy
   show (look (s.heap.filter fun b => p b.1) k).map (fun o => (ι k, o.d.t)) = some y
   rw [hlook k o ho] at hy'
   rw [ho]; exact hy'
  refine ⟨⟨⟨fun i => ?_, fun k o hl => ?_, fun a a' b lo lo' e1 e2 => h.dj a a' b lo lo' (hown _ _ e1) (hown _ _ e2), fun i own t x hg q hq => ?_, fun k o hl q hq => h.rf k o (hlook k o hl) q hq, fun a b lo lo' e => h.fb a b lo lo' (hown _ _ e), h.fs, h.gl_le hc⟩, fun a b lo e => .inl ⟨a, lo, hown _ _ e, Nat.le_refl _⟩, Nat.le_refl _⟩, Hist.refl _ _, fun k hk0 => KGo.of ⟨?_, rfl⟩⟩
  ·rcases hget i with hg | hg
   ·rw [hg]
    refine VR.le' hc (fun k hk' y hy => .of (hkt k (hk k ?_) y hy) fun _ h => h) (h.vr i)
    rw [← hg] at hk'
    exact keysL_getD _ i k hk'
   ·rw [hg]; simp only [VR]
  ·obtain ⟨q1, q2⟩ := h.ob k o (hlook k o hl)
   refine ⟨q1, ?_⟩
   have := q2.ren (ρ := id) hc (fun q hq y hy => .of (hkt q (hsh (k, o) (look_mem hl) q (by unfold keysO; rw [keysIf _ _ q1]; exact hq)) y hy) fun _ h => h) q1 fun _ => rfl
   rwa [renD_id] at this
  ·rcases hget i with hg' | hg'
   ·rw [hg'] at hg; exact h.rs i own t x hg q hq
   ·rw [hg'] at hg; cases hg
  ·show (look (s.heap.filter fun b => p b.1) k).map _ = _
   rw [look_filter', ← hp]
   simp [hk0]
 ·cases hr
theorem mem_insO {p : List Nat} : ∀ {l : List (List Nat)} {q : List Nat}, q ∈ insO p l → q = p ∨ q ∈ l
 | [], q, h => by simp only [insO, List.mem_singleton] at h; exact .inl h
 | a :: l, q, h => by
  simp only [insO] at h
  split at h
  ·rcases List.mem_cons.1 h with h | h
   ·exact .inl h
   ·exact .inr h
  ·rcases List.mem_cons.1 h with h | h
   ·exact .inr (h ▸ List.mem_cons_self ..)
   ·rcases mem_insO h with h | h
    ·exact .inl h
    ·exact .inr (List.mem_cons_of_mem _ h)
theorem mem_ordO : ∀ {l : List (List Nat)} {q : List Nat}, q ∈ ordO l → q ∈ l
 | [], q, h => h
 | a :: l, q, h => by
  rcases mem_insO (show q ∈ insO a (ordO l) from h) with h | h
  ·exact h ▸ List.mem_cons_self ..
  ·exact List.mem_cons_of_mem _ (mem_ordO h)
theorem look_ordH : ∀ (h : Heap) (k : Key), look (ordH h) k = (look h k).map fun o => ⟨o.d, ordO o.own⟩
 | [], _ => rfl
 | (q, o) :: r, k => by
  show look ((q, (⟨o.d, ordO o.own⟩ : Ob)) :: ordH r) k = _
  simp only [look]
  by_cases e : q = k
  ·simp only [if_pos e, Option.map_some]
  ·simp only [if_neg e]; exact look_ordH r k
theorem Rel.reord (h : Rel O FB w s tm ι) : Goes O FB w s tm ι w (ordS s) tm ι := by
 have hlook : ∀ k o, look (ordH s.heap) k = some o → ∃ o', look s.heap k = some o' ∧ o.d = o'.d ∧ ∀ p ∈ o.own, p ∈ o'.own := fun k o e => by
  rw [look_ordH, Option.map_eq_some_iff] at e
  obtain ⟨o', e1, rfl⟩ := e
  exact ⟨o', e1, rfl, fun p hp => mem_ordO hp⟩
 have hown : ∀ a x, owns w (ordS s) tm ι a = some x → owns w s tm ι a = some x := by
  intro a x e
  cases a with
  | sl i q => exact e
  | fd k q =>
   simp only [owns, ordS] at e ⊢
   cases hl : look (ordH s.heap) k with
   | none => rw [hl] at e; cases e
   | some o =>
    rw [hl] at e
    obtain ⟨o', e1, e2, e3⟩ := hlook k o hl
    simp only at e
    rw [e1]
    simp only
    split at e
    ·rename_i hq
     rw [if_pos (e3 q hq), ← e2]; exact e
    ·cases e
  | ob k =>
   simp only [owns, ordS] at e ⊢
   cases hl : look (ordH s.heap) k with
   | none => rw [hl] at e; cases e
   | some o =>
    rw [hl] at e
    obtain ⟨o', e1, e2, e3⟩ := hlook k o hl
    rw [e1]
    simp only at e ⊢
    rw [← e2]; exact e
 have hc : CellLe (rlOf w FB s tm ι) (rlOf w FB (ordS s) tm ι) :=
  fun b o ⟨p1, p2, p3⟩ v hv => ⟨hv, p1, fun a lo e => p2 a lo (hown a _ e), p3⟩
 have hkt : ∀ k y, (rlOf w FB s tm ι).kt k = some y → (rlOf w FB (ordS s) tm ι).kt k = some y := by
  intro k y hy
  have hy' : (look s.heap k).map (fun o => (ι k, o.d.t)) = some y := hy
  show (look (ordH s.heap) k).map (fun o => (ι k, o.d.t)) = some y
  rw [look_ordH, Option.map_map]; exact hy'
 refine ⟨⟨⟨fun i => VR.le' hc (fun k _ y hy => .of (hkt k y hy) fun _ h => h) (h.vr i), fun k o hl => ?_, fun a a' b lo lo' e1 e2 => h.dj a a' b lo lo' (hown _ _ e1) (hown _ _ e2), h.rs, fun k o hl q hq => ?_, fun a b lo lo' e => h.fb a b lo lo' (hown _ _ e), h.fs, h.gl_le hc⟩, fun a b lo e => .inl ⟨a, lo, hown _ _ e, Nat.le_refl _⟩, Nat.le_refl _⟩, Hist.refl _ _, fun k hk0 => KGo.of ⟨?_, rfl⟩⟩
 ·obtain ⟨o', e1, e2, e3⟩ := hlook k o hl
  obtain ⟨q1, q2⟩ := h.ob k o' e1
  rw [e2]
  refine ⟨q1, ?_⟩
  have := q2.ren (ρ := id) hc (fun q hq y hy => .of (hkt q y hy) fun _ h => h) q1 fun _ => rfl
  rwa [renD_id] at this
 ·obtain ⟨o', e1, e2, e3⟩ := hlook k o hl
  rw [e2]; exact h.rf k o' e1 q (e3 q hq)
 ·show (look (ordH s.heap) k).map _ = _
  rw [look_ordH, Option.map_map]; rfl
theorem Rel.cutDown (h : Rel O FB w s tm ι) {l : List Nat × List Key} (hr : restrict l s = some s') : Goes O FB w s tm ι w s' tm ι := by
 unfold restrict at hr
 simp only [Option.map_eq_some_iff] at hr
 obtain ⟨s0, h0, rfl⟩ := hr
 have g1 := h.cutDown0 h0
 exact Goes.trans h g1 g1.stp.rel.reord
end Go.Am
namespace Go.Am
variable {P : Program} {O : Orc} {FB : Nat → Nat → Prop} {call : CallF} {f : FuncId}
def exOf : Ex → Exit
 | .normal => .normal
 | .exit id => .exit id
 | .ret => .ret
structure ProgOK (P : Program) (O : Orc) : Prop where
 orc : OrcOK P O
 mixed : P.follows .mixedOrders = true
 fns : ∀ f, O.fns f = true → ∀ fn c, P.funcs[f]? = some fn → fn.body = some c → drawsOk O f c = true ∧ (fn.name == "runtime.NumGoroutine") = false
 prim : ∀ f g, O.prim f = some g → ∀ args r, g args = some r → hasBody P f ∧ ∀ (FB : Nat → Nat → Prop) (w : World) (h : Heap) (ι : Key → Nat) (vs : Array Value), args.length = vs.size → Rel O FB w ⟨args, h⟩ (tmArgs vs) ι →
  Calls P f vs w fun e w' => ∃ v ι', e = .returned v ∧ Goes O FB w ⟨args, h⟩ (tmArgs vs) ι w' ⟨[r], h⟩ (fun _ => v) ι'
 hprim : ∀ f g, O.hprim f = some g → ∀ args h n r h', g args h = some (n, r, h') → n ≤ bigN → hasBody P f ∧ ∀ (FB : Nat → Nat → Prop) (w : World) (ι : Key → Nat) (vs : Array Value), args.length = vs.size → Rel O FB w ⟨args, h⟩ (tmArgs vs) ι →
  Calls P f vs w fun e w' => ∃ v ι', e = .returned v ∧ Goes O FB w ⟨args, h⟩ (tmArgs vs) ι w' ⟨[r], h'⟩ (fun _ => v) ι'
theorem least {p : Nat → Prop} : ∀ n, p n → ∃ m, p m ∧ ∀ k, p k → m ≤ k := by
 intro n
 induction n using Nat.strongRecOn with
 | _ n ih =>
  intro hp
  by_cases h : ∃ k, k < n ∧ p k
  ·obtain ⟨k, hk, hpk⟩ := h; exact ih k hk hpk
  ·exact ⟨n, hp, fun k hk => by
    rcases Nat.lt_or_ge k n with hl | hl
    ·exact absurd ⟨k, hl, hk⟩ h
    ·exact hl⟩
theorem wp_loop_n {c : Code} {Q : Exit → Act → World → Prop} (J : Nat → Act → World → Prop) {n : Nat} {a : Act} {w : World} (h0 : J n a w) (round : ∀ n a w, J n a w → c.wp P (Exit.then (fun a' w' => ∃ m, m < n ∧ J m a' w') Q) a w) : (Code.loop c).wp P Q a w := by
 classical
 have hex : ∀ a w, (∃ n, J n a w) → ∃ m, J m a w ∧ ∀ k, J k a w → m ≤ k := fun a w ⟨n, h⟩ => least n h
 let μ : Act → World → Nat := fun a w => if h : ∃ n, J n a w then Classical.choose (hex a w h) else 0
 have hμ : ∀ a w, (∃ n, J n a w) → J (μ a w) a w ∧ ∀ k, J k a w → μ a w ≤ k := by
  intro a w h
  show J (if h : ∃ n, J n a w then Classical.choose (hex a w h) else 0) a w ∧ ∀ k, J k a w → (if h : ∃ n, J n a w then Classical.choose (hex a w h) else 0) ≤ k
  rw [dif_pos h]
  exact Classical.choose_spec (hex a w h)
 refine wp_loop (fun a w => ∃ n, J n a w) μ ⟨n, h0⟩ fun a w h => ?_
 obtain ⟨h1, _⟩ := hμ a w h
 refine wp_mono (round _ a w h1) fun e a' w' hq => ?_
 cases e with
 | normal =>
  obtain ⟨m, hm, hj⟩ := hq
  exact ⟨⟨m, hj⟩, Nat.lt_of_le_of_lt ((hμ a' w' ⟨m, hj⟩).2 m hj) hm⟩
 | _ => exact hq
def LeavesX (O : Orc) (FB : Nat → Nat → Prop) (w : World) (s : St) (ι : Key → Nat) (a : Act) (q : Ex × St) (Q : Exit → Act → World → Prop) : Prop := Leaves O FB w s ι a q.2 (Q (exOf q.1))
theorem restrict_len {l : List Nat × List Key} {s s' : St} (h : restrict l s = some s') : s'.env.length = s.env.length := by
 unfold restrict restrict0 at h
 simp only [Option.map_eq_some_iff] at h
 obtain ⟨s0, h, rfl⟩ := h
 split at h
 ·simp only [Option.some.injEq] at h; subst h; exact keep_len _ _ _
 ·cases h
theorem loopN_len {body : St → Option (Ex × St)} {l : List Nat × List Key} (hb : ∀ s q, body s = some q → q.2.env.length = s.env.length) : ∀ (n : Nat) (s : St) (q : Ex × St), loopN body (restrict l) n s = some q → q.2.env.length = s.env.length
 | 0, _, _, h => by simp [loopN] at h
 | n + 1, s, q, h => by
  simp only [loopN, Option.bind_eq_some_iff] at h
  obtain ⟨s1, h1, ⟨e, s2⟩, h2, h3⟩ := h
  have e1 := restrict_len h1
  have e2 := hb _ _ h2
  simp only at e2
  cases e with
  | normal => simp only at h3; rw [loopN_len hb n s2 q h3, e2, e1]
  | exit id => simp only [Option.some.injEq] at h3; subst h3; rw [e2, e1]
  | ret => simp only [Option.some.injEq] at h3; subst h3; rw [e2, e1]
theorem evalC_len (n : Nat) : ∀ (c : Code) {s : St} {q : Ex × St}, evalC O call n f c s = some q → q.2.env.length = s.env.length
 | .skip, s, q, he => by simp only [evalC, Option.some.injEq] at he; subst he; rfl
 | .region id ops draw, s, q, he => by
  simp only [evalC, Option.bind_eq_some_iff, forceS_eq, Option.some.injEq] at he
  obtain ⟨s', h1, rfl⟩ := he
  split at h1
  ·exact stepsD_len h1
  ·exact steps_len _ _ _ h1
 | .seq x y, s, q, he => by
  simp only [evalC, Option.bind_eq_some_iff] at he
  obtain ⟨⟨e, s1⟩, h1, h2⟩ := he
  have e1 := evalC_len n x h1
  cases e with
  | normal => simp only at h2; rw [evalC_len n y h2, e1]
  | exit id => simp only [Option.some.injEq] at h2; subst h2; exact e1
  | ret => simp only [Option.some.injEq] at h2; subst h2; exact e1
 | .cond c x y, s, q, he => by
  simp only [evalC] at he
  split at he
  ·rename_i b _
   cases b with
   | true => exact evalC_len n x he
   | false => exact evalC_len n y he
  ·cases he
 | .block id x, s, q, he => by
  simp only [evalC, Option.map_eq_some_iff] at he
  obtain ⟨⟨e, s1⟩, h1, rfl⟩ := he
  have e1 := evalC_len n x h1
  simp only
  cases e with
  | exit id' => simp only; split <;> exact e1
  | normal => exact e1
  | ret => exact e1
 | .loop x, s, q, he => by
  simp only [evalC] at he
  exact loopN_len (fun s q h => evalC_len n x h) n s q he
 | .exit id, s, q, he => by simp only [evalC, Option.some.injEq] at he; subst he; rfl
 | .ret, s, q, he => by simp only [evalC, Option.some.injEq] at he; subst he; rfl
 | .label _, s, q, he => by simp [evalC] at he
 | .goto _, s, q, he => by simp [evalC] at he
theorem evalC_ok (hP : ProgOK P O) (hC : CallOK P O call) (n : Nat) : ∀ (c : Code) {w : World} {s : St} {ι : Key → Nat} {a : Act} {q : Ex × St} {Q : Exit → Act → World → Prop}, drawsOk O f c = true → Rel O FB w s (tmOf a) ι → s.env.length = a.tmps.size → evalC O call n f c s = some q →
  LeavesX O FB w s ι a q Q → c.wp P Q a w
 | .skip, w, s, ι, a, q, Q, _, h, hl, he, hq => by
  simp only [evalC, Option.some.injEq] at he
  subst he
  exact wp_skip (hq _ _ ι rfl rfl (Goes.refl h))
 | .region id ops draw, w, s, ι, a, q, Q, hd, h, hl, he, hq => by
  simp only [evalC, Option.bind_eq_some_iff, forceS_eq, Option.some.injEq] at he
  obtain ⟨s', h1, rfl⟩ := he
  simp only [drawsOk] at hd
  split at h1
  ·rename_i hban
   simp only [Bool.and_eq_true] at hban
   obtain ⟨rfl, hban⟩ := hban
   simp only [Bool.not_true, Bool.false_or, hban, if_true] at hd
   exact regionD_ok hP.orc hP.mixed hC hd h hl h1 hq
  ·rename_i hban
   refine region_ok hP.orc hP.mixed hC (fun hdr => ?_) h hl h1 hq
   subst hdr
   have hb : O.ban f id = false := by simpa using hban
   simp only [Bool.not_true, Bool.false_or, hb, Bool.false_eq_true, if_false] at hd
   exact hd
 | .seq x y, w, s, ι, a, q, Q, hd, h, hl, he, hq => by
  simp only [drawsOk, Bool.and_eq_true] at hd
  simp only [evalC, Option.bind_eq_some_iff] at he
  obtain ⟨⟨e, s1⟩, h1, h2⟩ := he
  have hlen : s1.env.length = s.env.length := evalC_len n x h1
  cases e with
  | normal =>
   simp only at h2
   exact wp_seq (evalC_ok hP hC n x hd.1 h hl h1 fun a1 w1 ι1 d1 z1 g1 =>
    evalC_ok hP hC n y hd.2 g1.stp.rel (by rw [hlen, hl, z1]) h2 (Leaves.chain h hq d1 z1 g1))
  | exit id =>
   simp only [Option.some.injEq] at h2
   subst h2
   exact wp_seq (evalC_ok hP hC n x (Q := Exit.then (y.wp P Q) Q) hd.1 h hl h1 fun a1 w1 ι1 d1 z1 g1 => hq a1 w1 ι1 d1 z1 g1)
  | ret =>
   simp only [Option.some.injEq] at h2
   subst h2
   exact wp_seq (evalC_ok hP hC n x (Q := Exit.then (y.wp P Q) Q) hd.1 h hl h1 fun a1 w1 ι1 d1 z1 g1 => hq a1 w1 ι1 d1 z1 g1)
 | .cond c x y, w, s, ι, a, q, Q, hd, h, hl, he, hq => by
  simp only [drawsOk, Bool.and_eq_true] at hd
  simp only [evalC] at he
  split at he
  ·rename_i own b hc
   have hv := val0 (slots_of h) c
   rw [hc] at hv
   simp only [VR] at hv
   refine wp_cond hv.bool ?_
   cases b with
   | true => exact evalC_ok hP hC n x hd.1 h hl he hq
   | false => exact evalC_ok hP hC n y hd.2 h hl he hq
  ·cases he
 | .block id x, w, s, ι, a, q, Q, hd, h, hl, he, hq => by
  simp only [drawsOk] at hd
  simp only [evalC, Option.map_eq_some_iff] at he
  obtain ⟨⟨e, s1⟩, h1, rfl⟩ := he
  refine wp_block (evalC_ok hP hC n x (Q := Exit.inBlock id Q) hd h hl h1 fun a1 w1 ι1 d1 z1 g1 => ?_)
  cases e with
  | normal => exact hq a1 w1 ι1 d1 z1 g1
  | ret => exact hq a1 w1 ι1 d1 z1 g1
  | exit id' =>
   simp only [exOf, Exit.inBlock]
   by_cases hid : id' = id
   ·rw [if_pos hid]
    unfold LeavesX at hq
    simp only [if_pos hid] at hq
    exact hq a1 w1 ι1 d1 z1 g1
   ·rw [if_neg hid]
    unfold LeavesX at hq
    simp only [if_neg hid] at hq
    exact hq a1 w1 ι1 d1 z1 g1
 | .loop x, w, s, ι, a, q, Q, hd, h, hl, he, hq => by
  simp only [drawsOk] at hd
  simp only [evalC] at he
  refine wp_loop_n (fun m a1 w1 => ∃ s1 ι1, a1.defers = a.defers ∧ a1.tmps.size = a.tmps.size ∧ s1.env.length = s.env.length ∧ Goes O FB w s (tmOf a) ι w1 s1 (tmOf a1) ι1 ∧ loopN (evalC O call n f x) (restrict (O.live f (firstReg x))) m s1 = some q) (n := n) ⟨s, ι, rfl, rfl, rfl, Goes.refl h, he⟩ ?_
  rintro m a1 w1 ⟨s1, ι1, d1, z1, l1, g1, e1⟩
  cases m with
  | zero => simp [loopN] at e1
  | succ m =>
   simp only [loopN, Option.bind_eq_some_iff] at e1
   obtain ⟨s2, r1, ⟨e, s3⟩, r2, r3⟩ := e1
   have g2 := g1.stp.rel.cutDown r1
   have g12 := Goes.trans h g1 g2
   have l2 := restrict_len r1
   refine evalC_ok hP hC n x hd g2.stp.rel (by rw [l2, l1, hl, z1]) r2 fun a3 w3 ι3 d3 z3 g3 => ?_
   have g13 := Goes.trans h g12 g3
   have l3 := evalC_len n x r2
   simp only at l3
   cases e with
   | normal => exact ⟨m, Nat.lt_succ_self m, s3, ι3, d3.trans d1, z3.trans z1, by rw [l3, l2, l1], g13, r3⟩
   | exit id =>
    simp only [Option.some.injEq] at r3
    subst r3
    exact hq a3 w3 ι3 (d3.trans d1) (z3.trans z1) g13
   | ret =>
    simp only [Option.some.injEq] at r3
    subst r3
    exact hq a3 w3 ι3 (d3.trans d1) (z3.trans z1) g13
 | .exit id, w, s, ι, a, q, Q, _, h, hl, he, hq => by
  simp only [evalC, Option.some.injEq] at he
  subst he
  exact wp_exit (hq _ _ ι rfl rfl (Goes.refl h))
 | .ret, w, s, ι, a, q, Q, _, h, hl, he, hq => by
  simp only [evalC, Option.some.injEq] at he
  subst he
  exact wp_ret (hq _ _ ι rfl rfl (Goes.refl h))
 | .label _, w, s, ι, a, q, Q, _, h, hl, he, hq => by simp [evalC] at he
 | .goto _, w, s, ι, a, q, Q, _, h, hl, he, hq => by simp [evalC] at he
end Go.Am
namespace Go.Am
variable {P : Program} {O : Orc} {FB : Nat → Nat → Prop} {w : World} {ι : Key → Nat}
theorem look_renH {ρ inv : Key → Key} : ∀ {h : Heap} {q : Key} {o' : Ob}, (∀ b ∈ h, inv (ρ b.1) = b.1) → look (renH ρ h) q = some o' → ∃ k o, look h k = some o ∧ ρ k = q ∧ o' = renO ρ o
 | (k, o) :: r, q, o', hi, e => by
  simp only [renH, List.map_cons, look] at e
  split at e
  ·rename_i hq
   cases e
   exact ⟨k, o, by simp [look], hq, rfl⟩
  ·rename_i hq
   obtain ⟨k2, o2, h1, h2, h3⟩ := look_renH (h := r) (fun b hb => hi b (List.mem_cons_of_mem _ hb)) e
   refine ⟨k2, o2, ?_, h2, h3⟩
   simp only [look]
   rw [if_neg ?_]
   ·exact h1
   ·intro e2; subst e2; exact hq h2
theorem renH_look {ρ inv : Key → Key} : ∀ {h : Heap} {k : Key} {o : Ob}, (∀ b ∈ h, inv (ρ b.1) = b.1) → look h k = some o → look (renH ρ h) (ρ k) = some (renO ρ o)
 | (k', o') :: r, k, o, hi, e => by
  simp only [look] at e
  simp only [renH, List.map_cons, look]
  split at e
  ·rename_i hk; cases e; subst hk; simp
  ·rename_i hk
   rw [if_neg ?_]
   ·exact renH_look (h := r) (fun b hb => hi b (List.mem_cons_of_mem _ hb)) e
   ·intro e2
    have h1 := hi (k', o') (List.mem_cons_self ..)
    have h2 := hi (k, o) (List.mem_cons_of_mem _ (look_mem e))
    simp only at h1 h2
    rw [e2, h2] at h1
    exact hk h1.symm
theorem Rel.rename {a : AV} {h : Heap} {v : Value} (H : Rel O FB w ⟨[a], h⟩ (fun _ => v) ι) {ρ inv : Key → Key} (hi : ∀ b ∈ h, inv (ρ b.1) = b.1) (hz : ∀ k : Key, k.1 = 0 → ρ k = k ∧ inv k = k) :
  Goes O FB w ⟨[a], h⟩ (fun _ => v) ι w ⟨[renA ρ a], renH ρ h⟩ (fun _ => v) (fun q => ι (inv q)) := by
 have hget : ∀ i, St.get ⟨[renA ρ a], renH ρ h⟩ i = if i = 0 then renA ρ a else .any := fun i => by cases i <;> simp [St.get]
 have hget0 : ∀ i, St.get ⟨[a], h⟩ i = if i = 0 then a else .any := fun i => by cases i <;> simp [St.get]
 have hinv : ∀ k o, look h k = some o → inv (ρ k) = k := fun k o e => hi (k, o) (look_mem e)
 have hback : ∀ q o', look (renH ρ h) q = some o' → ∃ o, look h (inv q) = some o ∧ o' = renO ρ o ∧ ρ (inv q) = q := by
  intro q o' e
  obtain ⟨k, o, h1, h2, h3⟩ := look_renH hi e
  have := hinv k o h1
  rw [h2] at this
  rw [this]
  exact ⟨o, h1, h3, h2⟩
 have htv : ∀ own t x, renA ρ a = .tv own t x → ∃ y, a = .tv own t y := by
  intro own t x e
  cases a <;> simp only [renA] at e <;> first | (cases e; exact ⟨_, rfl⟩) | (cases e)
 have hown : ∀ l x, owns w ⟨[renA ρ a], renH ρ h⟩ (fun _ => v) (fun q => ι (inv q)) l = some x →
   owns w ⟨[a], h⟩ (fun _ => v) ι (match l with | .sl i p => .sl i p | .fd k p => .fd (inv k) p | .ob k => .ob (inv k)) = some x ∧ (∀ k p, l = .fd k p → ρ (inv k) = k) ∧ ∀ k, l = .ob k → ρ (inv k) = k := by
  intro l x e
  cases l with
  | sl i p =>
   refine ⟨?_, by simp, by simp⟩
   simp only [owns, hget, hget0] at e ⊢
   by_cases h0 : i = 0
   ·rw [if_pos h0] at e ⊢
    cases ha : renA ρ a with
    | tv own t x' => obtain ⟨y, hy⟩ := htv own t x' ha; rw [ha] at e; rw [hy]; exact e
    | _ => rw [ha] at e; simp at e
   ·rw [if_neg h0] at e; simp at e
  | fd k p =>
   simp only [owns] at e ⊢
   cases hk : look (renH ρ h) k with
   | none => rw [hk] at e; cases e
   | some o' =>
    obtain ⟨o, h1, rfl, h2⟩ := hback k o' hk
    rw [hk] at e
    rw [h1]
    refine ⟨e, fun k' p' e' => by cases e'; exact h2, by simp⟩
  | ob k =>
   simp only [owns] at e ⊢
   cases hk : look (renH ρ h) k with
   | none => rw [hk] at e; cases e
   | some o' =>
    obtain ⟨o, h1, rfl, h2⟩ := hback k o' hk
    rw [hk] at e
    rw [h1]
    refine ⟨e, by simp, fun k' e' => by cases e'; exact h2⟩
 have hc : CellLe (rlOf w FB ⟨[a], h⟩ (fun _ => v) ι) (rlOf w FB ⟨[renA ρ a], renH ρ h⟩ (fun _ => v) (fun q => ι (inv q))) :=
  rl_le (Nat.le_refl _) (fun l b lo hl _ => ⟨_, lo, (hown l _ hl).1, Nat.le_refl _⟩) fun _ _ _ => rfl
 have hkt : ∀ k y, (rlOf w FB ⟨[a], h⟩ (fun _ => v) ι).kt k = some y → (rlOf w FB ⟨[renA ρ a], renH ρ h⟩ (fun _ => v) (fun q => ι (inv q))).kt (ρ k) = some y := by
  intro k y e
  simp only [rlOf, ktOf] at e ⊢
  cases hk : look h k with
  | none => rw [hk] at e; cases e
  | some o =>
   rw [hk] at e
   rw [renH_look hi hk, hinv k o hk]
   exact e
 refine ⟨⟨⟨fun i => ?_, fun q o' hq => ?_, fun l l' b lo lo' e1 e2 => ?_, fun i own t x e p hp => ?_, fun q o' hq p hp => ?_, fun l b lo lo' e => H.fb _ b lo lo' (hown l _ e).1, H.fs, H.gl_le hc⟩, fun l b lo e => .inl ⟨_, lo, (hown l _ e).1, Nat.le_refl _⟩, Nat.le_refl _⟩, Hist.refl _ _, fun k hk => KGo.of ⟨?_, by show ι (inv k) = ι k; rw [(hz k hk).2]⟩⟩
 ·rw [hget]
  split
  ·have := H.vr 0
   rw [hget0, if_pos rfl] at this
   exact VR.ren hc a v (fun k _ y hy => .of (hkt k y hy) fun _ h => h) this
  ·simp only [VR]
 ·obtain ⟨o, h1, rfl, _⟩ := hback q o' hq
  obtain ⟨g1, g2⟩ := H.ob _ o h1
  refine ⟨g1, ?_⟩
  show ObAt _ _ _ o.d.t (if o.d.t.noRef then o.d.x else renD ρ o.d.t o.d.x)
  rw [renIf]
  exact g2.ren hc (fun k _ y hy => .of (hkt k y hy) fun _ h => h) g1 fun _ => rfl
 ·obtain ⟨f1, f2, f3⟩ := hown l _ e1
  obtain ⟨g1, g2, g3⟩ := hown l' _ e2
  have := H.dj _ _ b lo lo' f1 g1
  cases l <;> cases l' <;> simp only [Loc.sl.injEq, Loc.fd.injEq, Loc.ob.injEq, reduceCtorEq] at this ⊢
  ·exact this
  ·refine ⟨?_, this.2⟩
   rw [← f2 _ _ rfl, ← g2 _ _ rfl, this.1]
  ·rw [← f3 _ rfl, ← g3 _ rfl, this]
 ·rw [hget] at e
  by_cases h0 : i = 0
  ·rw [if_pos h0] at e
   obtain ⟨y, hy⟩ := htv own t x e
   exact H.rs 0 own t y (by rw [hget0, if_pos rfl, hy]) p hp
  ·rw [if_neg h0] at e; cases e
 ·obtain ⟨o, h1, rfl, _⟩ := hback q o' hq
  exact H.rf _ o h1 p hp
 ·have e1 := (hz k hk).1
  cases hl : look h k with
  | some o =>
   have := renH_look hi hl
   rw [e1] at this
   show (look (renH ρ h) k).map _ = _
   rw [this]; rfl
  | none =>
   show (look (renH ρ h) k).map _ = _
   cases hl' : look (renH ρ h) k with
   | none => rfl
   | some o' =>
    obtain ⟨o, h1, _, h2⟩ := hback k o' hl'
    rw [(hz k hk).2, hl] at h1
    cases h1
theorem canI_canN {ex : List Key} {k : Key} (h : k.1 = 0 ∨ k ∈ ex) : canI ex (canN ex k) = k := by
 unfold canN
 by_cases h0 : k.1 = 0
 ·rw [if_pos h0]; unfold canI; rw [if_pos h0]
 ·rw [if_neg h0]
  rcases h with h | h
  ·exact absurd h h0
  ·obtain ⟨i, h1, _, h2⟩ := idxOf_mem (ks := ex) (k := k) 0 h
   rw [h1, Nat.zero_add]
   unfold canI
   rw [if_neg (by simp)]
   exact h2
theorem canon_ok {a : AV} {h : Heap} {v : Value} {q : AV × Heap} (H : Rel O FB w ⟨[a], h⟩ (fun _ => v) ι) (e : canon a h = some q) : ∃ ι', Goes O FB w ⟨[a], h⟩ (fun _ => v) ι w ⟨[q.1], q.2⟩ (fun _ => v) ι' := by
 unfold canon at e
 rw [forceKs_eq] at e
 generalize exK a h = ex at e
 split at e
 ·simp only [Option.map_eq_some_iff] at e
  obtain ⟨s, hs, rfl⟩ := e
  have g1 := H.cutDown hs
  have henv : s = ⟨[a], s.heap⟩ ∧ ∀ b ∈ s.heap, b.1.1 = 0 ∨ b.1 ∈ ex := by
   unfold restrict restrict0 at hs
   simp only [Option.map_eq_some_iff] at hs
   obtain ⟨s0, hs, rfl⟩ := hs
   split at hs
   ·simp only [Option.some.injEq] at hs
    rw [← hs]
    refine ⟨rfl, fun b hb => ?_⟩
    obtain ⟨b0, hb0, rfl⟩ := List.mem_map.1 (show b ∈ ordH _ from hb)
    have := (List.mem_filter.1 hb0).2
    simpa using this
   ·cases hs
  have g2 := g1
  rw [henv.1] at g2
  have g3 := g2.stp.rel.rename (ρ := canN ex) (inv := canI ex) (fun b hb => canI_canN (henv.2 b hb)) (fun k hk => ⟨by unfold canN; rw [if_pos hk], by unfold canI; rw [if_pos hk]⟩)
  exact ⟨_, Goes.trans H g2 g3⟩
 ·cases e
end Go.Am
namespace Go.Am
variable {P : Program} {O : Orc} {FB : Nat → Nat → Prop} {w : World} {s : St} {ι : Key → Nat}
def resRun (a : Act) : ResultVar → Sem Value
 | .tmp t => pure (a.tmps.getD t undef)
 | .cell c T => do loadVar T (← asAddr (a.tmps.getD c undef))
theorem resV_ok (hO : OrcOK P O) {a : Act} (h : Rel O FB w s (tmOf a) ι) {x : ResultVar} {b : AV} (he : resV O s x = some b) :
  ∃ v, (resRun a x).run P w = .ok v w ∧ VR (rlOf w FB s (tmOf a) ι) O b v ∧ ((∃ t, b = s.get t ∧ v = tmOf a t) ∨ b.own = []) := by
 cases x with
 | tmp t =>
  simp only [resV, Option.some.injEq] at he
  subst he
  exact ⟨_, (by simp only [resRun, Sem.run_pure]; rfl), h.vr t, .inl ⟨t, rfl, rfl⟩⟩
 | cell c T =>
  simp only [resV, Option.bind_eq_some_iff] at he
  obtain ⟨d, hd, he⟩ := he
  split at he
  ·rename_i hT
   simp only [Option.some.injEq] at he
   subst he
   obtain ⟨b, o, cs, hv, hc, hrv, hf⟩ := loadV_ok h (h.vr c) hd (hO.ty T _ hT).hasZ
   refine ⟨_, ?_, Dat.av_ok (VT.of_cells hf hrv), .inr (Dat.av_own d)⟩
   have hv' : a.tmps.getD c undef = .pointer (some ⟨b, o, none⟩) := hv
   simp only [resRun, hv', asAddr, Sem.run_bind, Sem.run_pure, Result.andThen_ok]
   exact run_loadVar (hO.ty T _ hT) hc size0_agg
  ·cases he
theorem resL_ok (hO : OrcOK P O) {a : Act} (h : Rel O FB w s (tmOf a) ι) : ∀ {rs : List ResultVar} {l : List AV}, resL O s rs = some l →
  ∃ vs : List Value, (rs.mapM (resRun a)).run P w = .ok vs w ∧ VRL (rlOf w FB s (tmOf a) ι) O l vs ∧ l.length = rs.length ∧ vs.length = rs.length ∧ ∀ b v, l = [b] → vs = [v] → (∃ t, b = s.get t ∧ v = tmOf a t) ∨ b.own = []
 | [], l, he => by
  simp only [resL, Option.some.injEq] at he
  subst he
  exact ⟨[], by simp, rfl, rfl, rfl, nofun⟩
 | x :: rs, l, he => by
  simp only [resL, Option.bind_eq_some_iff, Option.map_eq_some_iff] at he
  obtain ⟨b, hb, m, hm, rfl⟩ := he
  obtain ⟨v, h1, h2, h3⟩ := resV_ok hO h hb
  obtain ⟨vs, h4, h5, h6, h7, _⟩ := resL_ok hO h hm
  refine ⟨v :: vs, ?_, ?_, by simp [h6], by simp [h7], fun b' v' e1 e2 => ?_⟩
  ·simp only [List.mapM_cons, Sem.run_bind, h1, h4, Result.andThen_ok, Sem.run_pure]
  ·simp only [VRL]; exact ⟨v, vs, rfl, h2, h5⟩
  ·injection e1 with e1 _
   injection e2 with e2 _
   subst e1; subst e2
   exact h3
def retV : List Value → Value
 | [v] => v
 | vs => .tuple vs.toArray
theorem results_run {fn : Func} {a : Act} {vs : List Value} (h : (fn.results.toList.mapM (resRun a)).run P w = .ok vs w) : (results fn a.tmps).run P w = .ok (retV vs) w := by
 have he : results fn a.tmps = (do let vs ← fn.results.mapM (resRun a); pure (if h : vs.size = 1 then vs[0] else .tuple vs)) := by
  unfold results resRun
  rfl
 rw [he, Array.mapM_eq_mapM_toList]
 simp only [Sem.run_bind, h, Result.andThen_ok, Sem.run_pure, map_eq_pure_bind, bind_assoc, pure_bind]
 congr 1
 match vs with
 | [] => rfl
 | [v] => rfl
 | v :: u :: r => rfl
theorem Rel.ends {tm : Nat → Value} (h : Rel O FB w s tm ι) {r : AV} {v : Value} (hv : VR (rlOf w FB s tm ι) O r v) (ho : (∃ t, r = s.get t ∧ v = tm t) ∨ r.own = []) : Goes O FB w s tm ι w ⟨[r], s.heap⟩ (fun _ => v) ι := by
 have hget : ∀ i, ([r] : List AV).getD i .any = if i = 0 then r else .any := fun i => by cases i <;> simp
 have hown : ∀ i p x, owns w ⟨[r], s.heap⟩ (fun _ => v) ι (.sl i p) = some x → i = 0 ∧ ∃ t, owns w s tm ι (.sl t p) = some x ∧ r = s.get t ∧ v = tm t := by
  intro i p x e
  simp only [owns, St.get, hget] at e
  by_cases hi : i = 0
  ·refine ⟨hi, ?_⟩
   rw [if_pos hi] at e
   rcases ho with ⟨t, h1, h2⟩ | h1
   ·refine ⟨t, ?_, h1, h2⟩
    simp only [owns, ← h1, ← h2]
    exact e
   ·cases r with
    | tv own t y => simp only [AV.own] at h1; subst h1; simp at e
    | _ => simp at e
  ·rw [if_neg hi] at e; cases e
 refine ⟨h.env [r] (fun _ => v) (fun i => ?_) (fun i p x e => ?_) (fun i p i' p' b lo lo' e1 e2 => ?_) (fun i own t x e p hp => ?_), Hist.refl _ _, fun _ _ => KGo.of ⟨rfl, rfl⟩⟩
 ·rw [hget]
  split
  ·exact hv
  ·simp only [VR]
 ·obtain ⟨_, t, e1, _⟩ := hown i p x e; exact ⟨t, p, e1⟩
 ·obtain ⟨rfl, t, f1, g1, g2⟩ := hown i p _ e1
  obtain ⟨rfl, t', f2, g3, g4⟩ := hown i' p' _ e2
  have : owns w s tm ι (.sl t p') = some (b, lo') := by
   simp only [owns] at f2 ⊢
   rw [← g1, ← g2]
   rw [← g3, ← g4] at f2
   exact f2
  have := h.dj _ _ _ _ _ f1 this
  injection this with _ hp
  rw [hp]
 ·rw [hget] at e
  split at e
  ·rcases ho with ⟨k, h1, h2⟩ | h1
   ·rw [h2]; exact h.rs k own t x (h1 ▸ e) p hp
   ·rw [e] at h1; simp only [AV.own] at h1; subst h1; cases hp
  ·cases e
theorem callF_ok (hP : ProgOK P O) : ∀ k, CallOK P O (callF P O k)
 | 0 => fun g args h q e => by simp [callF] at e
 | k + 1 => fun g args h q e => by
  have ih := callF_ok hP k
  simp only [callF] at e
  split at e
  ·rename_i p hp
   simp only [Option.map_eq_some_iff] at e
   obtain ⟨r, hr, rfl⟩ := e
   obtain ⟨h1, h2⟩ := hP.prim g p hp args r hr
   exact ⟨h1, fun FB w ι vs hlen hrel => h2 FB w h ι vs hlen hrel⟩
  ·split at e
   ·rename_i p hp
    simp only [Option.bind_eq_some_iff] at e
    obtain ⟨⟨n, r, h'⟩, e, e2⟩ := e
    split at e2
    case isFalse => cases e2
    rename_i hn
    cases e2
    obtain ⟨h1, h2⟩ := hP.hprim g p hp args h n r h' e hn
    exact ⟨h1, fun FB w ι vs hlen hrel => h2 FB w ι vs hlen hrel⟩
   split at e
   ·cases e
   ·rename_i hfns
    have hfns' : O.fns g = true := by simpa using hfns
    simp only [Option.bind_eq_some_iff] at e
    obtain ⟨fn, hfn, c, hc, ⟨x, s1⟩, he, e⟩ := e
    obtain ⟨hd, hname⟩ := hP.fns g hfns' fn c hfn hc
    refine ⟨⟨fn, hfn, by rw [hc]; rfl, hname⟩, fun FB w ι vs hlen hrel => ?_⟩
    refine calls_of_wp hfn hc ?_
    have htm : tmOf { tmps := vs ++ Array.replicate (fn.ntmps - vs.size) undef, defers := [] } = tmArgs vs := by
     funext i
     simp only [tmOf, tmArgs, Array.getD_eq_getD_getElem?, List.getD_eq_getElem?_getD, Array.getElem?_toList, Array.getElem?_append]
     split
     ·rfl
     ·rename_i hi
      rw [Array.getElem?_replicate, Array.getElem?_eq_none (by omega)]
      split <;> rfl
    have hg0 : Goes O FB w ⟨args, h⟩ (tmArgs vs) ι w ⟨args ++ List.replicate (fn.ntmps - args.length) .no, h⟩ (tmArgs vs) ι := by
     have hget : ∀ i, (args ++ List.replicate (fn.ntmps - args.length) AV.no).getD i .any = args.getD i .any ∨ ((args ++ List.replicate (fn.ntmps - args.length) AV.no).getD i .any = .no ∧ args.length ≤ i) := by
      intro i
      simp only [List.getD_eq_getElem?_getD, List.getElem?_append]
      split
      ·exact .inl rfl
      ·rename_i hi
       rw [List.getElem?_replicate]
       split
       ·exact .inr ⟨rfl, by omega⟩
       ·exact .inl (by rw [List.getElem?_eq_none (by omega)])
     have hown : ∀ i p x, owns w ⟨args ++ List.replicate (fn.ntmps - args.length) .no, h⟩ (tmArgs vs) ι (.sl i p) = some x → owns w ⟨args, h⟩ (tmArgs vs) ι (.sl i p) = some x := by
      intro i p x e
      simp only [owns, St.get] at e ⊢
      rcases hget i with hg | ⟨hg, _⟩
      ·rw [hg] at e; exact e
      ·rw [hg] at e; cases e
     refine ⟨hrel.env _ _ (fun i => ?_) (fun i p x e => ⟨i, p, hown i p x e⟩) (fun i p i' p' b lo lo' e1 e2 => hrel.dj _ _ b lo lo' (hown _ _ _ e1) (hown _ _ _ e2)) (fun i own t x e p hp => ?_), Hist.refl _ _, fun _ _ => KGo.of ⟨rfl, rfl⟩⟩
     ·rcases hget i with hg | ⟨hg, hi⟩
      ·rw [hg]; exact hrel.vr i
      ·rw [hg]
       show tmArgs vs i = undef
       simp [tmArgs, List.getD_eq_getElem?_getD, List.getElem?_eq_none (show vs.toList.length ≤ i by simpa using (by omega : vs.size ≤ i))]
     ·rcases hget i with hg | ⟨hg, _⟩
      ·rw [hg] at e; exact hrel.rs i own t x e p hp
      ·rw [hg] at e; cases e
    have hrel0 := hg0.stp.rel
    have hrel1 := hrel0
    rw [← htm] at hrel1
    refine evalC_ok hP ih k c hd hrel1 (by simp [hlen]) he fun a' w' ι' hd' hz' hg => ?_
    rw [htm] at hg
    have hgg := Goes.trans hrel hg0 hg
    have fin : ∀ l, resL O s1 fn.results.toList = some l → canon (resA l) s1.heap = some q → a'.defers = [] ∧ ∃ v, (results fn a'.tmps).run P w' = .ok v w' ∧ ∃ v' ι'', Ending.returned v = .returned v' ∧ Goes O FB w ⟨args, h⟩ (tmArgs vs) ι w' ⟨[q.1], q.2⟩ (fun _ => v') ι'' := by
     intro l hl hq
     obtain ⟨us, r1, r2, r3, r4, r5⟩ := resL_ok hP.orc hg.stp.rel hl
     have hends : VR (rlOf w' FB s1 (tmOf a') ι') O (resA l) (retV us) → ((∃ t, resA l = s1.get t ∧ (retV us) = tmOf a' t) ∨ (resA l).own = []) →
       ∃ ι'', Goes O FB w ⟨args, h⟩ (tmArgs vs) ι w' ⟨[q.1], q.2⟩ (fun _ => (retV us)) ι'' := fun k1 k2 => by
      have g1 := hg.stp.rel.ends k1 k2
      obtain ⟨ι'', g2⟩ := canon_ok g1.stp.rel hq
      exact ⟨ι'', Goes.trans hrel (Goes.trans hrel hgg g1) g2⟩
     refine Exists.elim (hends ?_ ?_) fun ι'' hfin => ⟨hd', _, results_run r1, _, ι'', rfl, hfin⟩
     ·match l, us, r2, r3, r4, r5 with
      | [], [], r2, _, _, _ => simp only [resA, VR]; exact ⟨_, rfl, VRL_drop _ _ r2⟩
      | [b], [v], r2, _, _, _ =>
       simp only [VRL] at r2
       obtain ⟨v', r, e, h1, _⟩ := r2
       cases e
       exact h1
      | b :: b2 :: m, v :: v2 :: us, r2, _, _, _ => simp only [resA, VR]; exact ⟨_, rfl, VRL_drop _ _ r2⟩
      | [], v :: us, _, r3, r4, _ => simp only [List.length_nil, List.length_cons] at r3 r4; omega
      | b :: m, [], _, r3, r4, _ => simp only [List.length_nil, List.length_cons] at r3 r4; omega
      | [b], v :: v2 :: us, _, r3, r4, _ => simp only [List.length_nil, List.length_cons] at r3 r4; omega
      | b :: b2 :: m, [v], _, r3, r4, _ => simp only [List.length_nil, List.length_cons] at r3 r4; omega
     ·match l, us, r3, r4, r5 with
      | [], [], _, _, _ => exact .inr rfl
      | [b], [v], _, _, r5 => exact r5 b v rfl rfl
      | b :: b2 :: m, v :: v2 :: us, _, _, _ => exact .inr rfl
      | [], v :: us, r3, r4, _ => simp only [List.length_nil, List.length_cons] at r3 r4; omega
      | b :: m, [], r3, r4, _ => simp only [List.length_nil, List.length_cons] at r3 r4; omega
      | [b], v :: v2 :: us, r3, r4, _ => simp only [List.length_nil, List.length_cons] at r3 r4; omega
      | b :: b2 :: m, [v], r3, r4, _ => simp only [List.length_nil, List.length_cons] at r3 r4; omega
    cases x with
    | normal =>
     simp only [Option.bind_eq_some_iff] at e
     obtain ⟨l, hl, hq⟩ := e
     exact fin l hl hq
    | ret =>
     simp only [Option.bind_eq_some_iff] at e
     obtain ⟨l, hl, hq⟩ := e
     exact fin l hl hq
    | exit id => simp at e
end Go.Am
namespace Go.Am
variable {P : Program} {O : Orc}
def zB1 : Value → Value → Bool
 | .int k n, .int k' m => decide (k = k') && decide (n = m)
 | .bool a, .bool b => a == b
 | .string s, .string t => s.size == 0 && t.size == 0
 | .pointer none, .pointer none => true
 | .slice none a b, .slice none c d => a == c && b == d
 | .map none, .map none => true
 | .nilFunc, .nilFunc => true
 | _, _ => false
def zBL : List Value → List Value → Bool
 | [], [] => true
 | a :: l, b :: m => zB1 a b && zBL l m
 | _, _ => false
def zB : Value → Value → Bool
 | .agg a, .agg b => zBL a.toList b.toList
 | a, b => zB1 a b
theorem zB1_eq : ∀ {a b : Value}, zB1 a b = true → a = b := by
 intro a b h
 unfold zB1 at h
 split at h
 ·simp only [Bool.and_eq_true, decide_eq_true_eq] at h; rw [h.1, h.2]
 ·simp only [beq_iff_eq] at h; rw [h]
 ·rename_i s t
  simp only [Bool.and_eq_true, beq_iff_eq] at h
  have : s = t := by
   obtain ⟨⟨s⟩⟩ := s
   obtain ⟨⟨t⟩⟩ := t
   have h1 : s.length = 0 := h.1
   have h2 : t.length = 0 := h.2
   rw [List.length_eq_zero_iff.1 h1, List.length_eq_zero_iff.1 h2]
  rw [this]
 ·rfl
 ·simp only [Bool.and_eq_true, beq_iff_eq] at h; rw [h.1, h.2]
 ·rfl
 ·rfl
 ·cases h
theorem zBL_eq : ∀ {a b : List Value}, zBL a b = true → a = b
 | [], [], _ => rfl
 | a :: l, b :: m, h => by
  simp only [zBL, Bool.and_eq_true] at h
  rw [zB1_eq h.1, zBL_eq h.2]
 | [], _ :: _, h => by simp [zBL] at h
 | _ :: _, [], h => by simp [zBL] at h
theorem zB_eq {a b : Value} (h : zB a b = true) : a = b := by
 unfold zB at h
 split at h
 ·rw [Array.toList_inj.1 (zBL_eq h)]
 ·exact zB1_eq h
def nfl : Ty → Nat
 | .pair _ b => nfl b + 1
 | .expr => 3
 | _ => 0
theorem fldT_none : ∀ (t : Ty) (i : Nat), nfl t ≤ i → fldT t i = none
 | .pair a b, 0, h => by simp [nfl] at h
 | .pair a b, i + 1, h => by simp only [fldT]; exact fldT_none b i (by simp only [nfl] at h; omega)
 | .expr, i, h => by
  simp only [nfl] at h
  obtain ⟨j, rfl⟩ : ∃ j, i = j + 3 := ⟨i - 3, by omega⟩
  rfl
 | .int _, _, _ => rfl
 | .bool, _, _ => rfl
 | .str, _, _ => rfl
 | .unit, _, _ => rfl
 | .ref, _, _ => rfl
 | .wref, _, _ => rfl
 | .slice _, _, _ => rfl
 | .mref _ _, _, _ => rfl
 | .fnc, _, _ => rfl
 | .sref _, _, _ => rfl
 | .mp _ _, _, _ => rfl
 | .arr _ _ _, _, _ => rfl
def fieldsB (O : Orc) (t : Ty) (fs : Array Field) : Bool :=
 decide (nfl t ≤ fs.size) && (List.range fs.size).all fun i => match fs[i]?, fldT t i with
  | some f, some u => decide (O.ty f.type = some u) && decide (f.offset = fldOff t i) && decide (u.size ≠ 0) && decide (f.name ≠ "_")
  | _, _ => false
theorem fieldsB_ok {t : Ty} {fs : Array Field} (h : fieldsB O t fs = true) : FieldsOK O t fs := by
 unfold fieldsB at h
 simp only [Bool.and_eq_true, decide_eq_true_eq, List.all_eq_true, List.mem_range] at h
 refine ⟨fun i f hf => ?_, fun i hi => ?_⟩
 ·have hlt : i < fs.size := by
   rcases Nat.lt_or_ge i fs.size with h | h
   ·exact h
   ·rw [Array.getElem?_eq_none h] at hf; cases hf
  have := h.2 i hlt
  rw [hf] at this
  split at this
  ·rename_i f' u e1 e2
   cases e1
   simp only [Bool.and_eq_true, decide_eq_true_eq] at this
   obtain ⟨⟨⟨a, b⟩, c⟩, d⟩ := this
   exact ⟨u, e2, a, b, c, d⟩
  ·cases this
 ·have hge : fs.size ≤ i := by
   rcases Nat.lt_or_ge i fs.size with h | h
   ·rw [Array.getElem?_eq_getElem h] at hi; cases hi
   ·exact h
  exact fldT_none t i (by omega)
def undB (P : Program) (O : Orc) (t : Ty) (d : TypeDesc) : Bool := match t, d with
 | .int k, .int k' => decide (k' = k)
 | .bool, .bool => true
 | .str, .string => true
 | .ref, .pointer e => P.cellsOf e != 0
 | .wref, .pointer e => P.cellsOf e != 0
 | .slice u, .slice e => decide (O.ty e = some u) && u.size != 0
 | .arr gw n u, .array m e => decide (m = n) && decide (O.ty e = some u) && u.size != 0 && decide (1 < n) && decide (gw = 0)
 | .sref u, .slice e => decide (O.ty e = some u) && u.size != 0
 | .mref a c, .map k e => decide (O.ty k = some a) && decide (O.ty e = some c)
 | .fnc, .func _ _ _ => true
 | .unit, .struct fs => fieldsB O .unit fs
 | .expr, .struct fs => fieldsB O .expr fs
 | .pair a b, .struct fs => fieldsB O (.pair a b) fs && (Ty.pair a b).chain && decide (dpt (.pair a b) ≤ 1000)
 | _, _ => false
theorem undB_ok {t : Ty} {d : TypeDesc} (h : undB P O t d = true) : UndOK P O t d := by
 unfold undB at h
 split at h
 ·simp only [decide_eq_true_eq] at h; rw [h]; rfl
 ·rfl
 ·rfl
 ·rename_i e; exact ⟨e, rfl, by simpa using h⟩
 ·rename_i e; exact ⟨e, rfl, by simpa using h⟩
 ·rename_i u e
  simp only [Bool.and_eq_true, decide_eq_true_eq, bne_iff_ne] at h
  exact ⟨e, rfl, h.1, h.2⟩
 ·rename_i gw n u m e
  simp only [Bool.and_eq_true, decide_eq_true_eq, bne_iff_ne, Bool.not_eq_true'] at h
  obtain ⟨⟨⟨⟨rfl, b⟩, c⟩, d⟩, g⟩ := h
  exact ⟨e, rfl, b, c, d, g⟩
 ·rename_i u e
  simp only [Bool.and_eq_true, decide_eq_true_eq, bne_iff_ne] at h
  exact ⟨e, rfl, h.1, h.2⟩
 ·rename_i a c k e
  simp only [Bool.and_eq_true, decide_eq_true_eq] at h
  exact ⟨k, e, rfl, h.1, h.2⟩
 ·exact ⟨_, _, _, rfl⟩
 ·rename_i fs; exact ⟨fs, rfl, fieldsB_ok h, rfl, by decide⟩
 ·rename_i fs; exact ⟨fs, rfl, fieldsB_ok h, rfl, by decide⟩
 ·rename_i a b fs
  simp only [Bool.and_eq_true, decide_eq_true_eq] at h
  exact ⟨fs, rfl, fieldsB_ok h.1.1, h.1.2, h.2⟩
 ·cases h
def tyB (P : Program) (O : Orc) (T : TypeId) (t : Ty) : Bool :=
 (t.fine && t.hasZ) && (match P.info? T with
  | some i => decide (i.size = t.size) && (match i.zero with | some z => zB z (zeroVal t) | none => false) && decide (i.bytes ≤ 1024)
  | none => false) && (match P.underlying T with
  | some d => undB P O t d
  | none => false) && (!t.agg || (!P.eqGuardType P.depth T && !P.stoodInHeld T)) && (!t.wr || wrT.contains T) && (!decide (t = .int .u8) || byT.contains T)
theorem tyB_ok {T : TypeId} {t : Ty} (h : tyB P O T t = true) : TyOK P O T t := by
 unfold tyB at h
 simp only [Bool.and_eq_true, Bool.or_eq_true, Bool.not_eq_true'] at h
 obtain ⟨⟨⟨⟨⟨h1, h2⟩, h3⟩, h4⟩, h5⟩, h6⟩ := h
 refine ⟨h1.1, h1.2, ?_, ?_, fun ha => ?_, fun ha => ?_, fun ha => ?_⟩
 ·split at h2
  ·rename_i i hi
   simp only [Bool.and_eq_true, decide_eq_true_eq] at h2
   refine ⟨i, hi, h2.1.1, ?_, h2.2⟩
   have := h2.1.2
   split at this
   ·rename_i z hz; rw [hz, zB_eq this]
   ·cases this
  ·cases h2
 ·split at h3
  ·rename_i d hd; exact ⟨d, hd, undB_ok h3⟩
  ·cases h3
 ·rcases h4 with h4 | h4
  ·rw [ha] at h4; cases h4
  ·exact h4
 ·rcases h5 with h5 | h5
  ·rw [ha] at h5; cases h5
  ·simpa using h5
 ·rcases h6 with h6 | h6
  ·simp [ha] at h6
  ·simpa using h6
def orcB (P : Program) (O : Orc) (n : Nat) : Bool := (List.range n).all fun T => match O.ty T with
 | some t => tyB P O T t
 | none => true
theorem orcB_ok {n : Nat} (hn : ∀ T, n ≤ T → O.ty T = none) (h : orcB P O n = true) : OrcOK P O := ⟨fun T t ht => by
 rcases Nat.lt_or_ge T n with hl | hl
 ·have := List.all_eq_true.1 h T (List.mem_range.2 hl)
  rw [ht] at this
  exact tyB_ok this
 ·rw [hn T hl] at ht; cases ht⟩
def fnB (P : Program) (O : Orc) (f : FuncId) : Bool := !O.fns f || match P.funcs[f]? with
 | some fn => fn.name != "runtime.NumGoroutine" && match fn.body with | some c => drawsOk O f c | none => true
 | none => true
def fnsB (P : Program) (O : Orc) (n : Nat) : Bool := (List.range n).all (fnB P O)
theorem fnsB_ok {n : Nat} (hn : ∀ f, n ≤ f → O.fns f = false) (h : fnsB P O n = true) : ∀ f, O.fns f = true → ∀ fn c, P.funcs[f]? = some fn → fn.body = some c → drawsOk O f c = true ∧ (fn.name == "runtime.NumGoroutine") = false := by
 intro f hf fn c h1 h2
 rcases Nat.lt_or_ge f n with hl | hl
 ·have := List.all_eq_true.1 h f (List.mem_range.2 hl)
  unfold fnB at this
  rw [hf, h1] at this
  simp only [h2, Bool.not_true, Bool.false_or, Bool.and_eq_true] at this
  refine ⟨this.2, ?_⟩
  have := this.1
  simpa [bne] using this
 ·rw [hn f hl] at hf; cases hf
end Go.Am
namespace Go.Am
variable {P : Program} {O : Orc} {w : World}
def R0 (w : World) : Rl := ⟨w, fun b _ => b < w.heap.size, fun _ => none⟩
def GlobAt (O : Orc) (w : World) : Prop := ∀ g d, O.glob g = some d → d.t.noRef = true ∧ d.t.fine = true ∧ ∃ us, At (R0 w) g 0 d.t.size us ∧ RV (R0 w) d.t d.x us
theorem law_calls (hP : ProgOK P O) {k : Nat} {f : FuncId} {args : List AV} {vs : Array Value} {own : List (List Nat)} {h' : Heap} (hlen : args.length = vs.size) (hv : VRL (R0 w) O args vs.toList) (ho : ∀ a ∈ args, a.own = []) (hg : GlobAt O w)
  (he : callF P O k f args [] = some (.tv own .bool true, h')) : Calls P f vs w fun e w' => e = .returned (.bool true) ∧ Go.RowKit.Below w.heap.size w w' := by
 have hown0 : ∀ i, (args.getD i .any).own = [] := by
  intro i
  rw [List.getD_eq_getElem?_getD]
  cases hi : args[i]? with
  | none => rfl
  | some a => exact ho a (List.mem_of_getElem? hi)
 have hown : ∀ l x, owns w ⟨args, []⟩ (tmArgs vs) (fun _ => 0) l ≠ some x := by
  intro l x e
  cases l with
  | sl i p =>
   have := hown0 i
   simp only [owns, St.get] at e
   cases hi : args.getD i .any with
   | tv own t y => rw [hi] at e this; simp only [AV.own] at this; subst this; simp at e
   | _ => rw [hi] at e; simp at e
  | fd k p => simp [owns, look] at e
  | ob k => simp [owns, look] at e
 have hc : CellLe (R0 w) (rlOf w (fun _ _ => False) ⟨args, []⟩ (tmArgs vs) fun _ => 0) := fun b o hp v hv => ⟨hv, hp, fun l lo e => absurd e (hown l _), fun lo hf => hf.elim⟩
 have hrel : Rel O (fun _ _ => False) w ⟨args, []⟩ (tmArgs vs) fun _ => 0 := by
  refine ⟨fun i => ?_, fun k o e => by simp [look] at e, fun l l' b lo lo' e => absurd e (hown l _), fun i own t x e p hp => ?_, fun k o e => by simp [look] at e, fun l b lo lo' e => absurd e (hown l _), fun b lo hf => hf.elim, fun g d hd => ?_⟩
  ·exact VR.le' hc (fun k _ y hy => by cases hy) (VRL_getD _ _ hv i)
  ·have := hown0 i
   have e' : args.getD i .any = .tv own t x := e
   rw [e'] at this
   simp only [AV.own] at this
   subst this; cases hp
  ·obtain ⟨h1, h2, us, h3, h4⟩ := hg g d hd
   exact ⟨h1, h2, us, h3.le hc, RV.le0 hc d.t d.x us h1 h2 h4⟩
 refine ((callF_ok hP k f args [] _ he).2 _ w _ vs hlen hrel).mono ?_
 rintro e w' ⟨v, ι', rfl, hg⟩
 have hv := hg.stp.rel.vr 0
 simp only [St.get, List.getD_cons_zero, VR] at hv
 refine ⟨by rw [hv.bool], hg.hist.os, hg.hist.tape, hg.hist.output, hg.hist.size, fun b hb => hg.hist.block b hb fun lo ⟨l, hl⟩ => hown l _ hl⟩
def ofBytes (s : ByteArray) : List Int := s.data.toList.map fun c => (c.toNat : Int)
end Go.Am
namespace Go.Am
inductive It where
 | br (b : Bool) | res (a : AV) (h : Heap) | lp (e : Ex) (s : St)
structure W (α : Type) where
 a : α
 obs : List Prop
def Holds : List Prop → Prop
 | [] => True
 | p :: l => p ∧ Holds l
theorem Holds.append : ∀ (l m : List Prop), Holds (l ++ m) ↔ Holds l ∧ Holds m
 | [], m => by simp [Holds]
 | p :: l, m => by simp [Holds, Holds.append l m, and_assoc]
def FitP : IntKind → Int → Prop
 | .i64, n => -9223372036854775808 ≤ n ∧ n ≤ 9223372036854775807
 | .u8, n => 0 ≤ n ∧ n ≤ 255
 | .u64, n => 0 ≤ n ∧ n ≤ 18446744073709551615
 | .u32, n => 0 ≤ n ∧ n ≤ 4294967295
 | .i32, n => -2147483648 ≤ n ∧ n ≤ 2147483647
 | _, _ => False
theorem FitP.fits {k : IntKind} {n : Int} (h : FitP k n) : fits k n = true := by
 unfold FitP at h
 unfold Am.fits
 split at h <;> simp_all
def numS (w : Bool) (k : IntKind) (n : Int) : W AV := if w then ⟨.tv [] (.int k) (k.wrap n), []⟩ else ⟨.tv [] (.int k) n, [FitP k n]⟩
theorem numS_ok {w : Bool} {k : IntKind} {n : Int} (h : Holds (numS w k n).obs) : num w k n = some (numS w k n).a := by
 unfold numS num at *
 cases w with
 | true => rfl
 | false => simp only [Bool.false_eq_true, if_false, Holds] at h ⊢; rw [if_pos h.1.fits]
def intOpS (w : Bool) (op : BinOp) (k : IntKind) (a b : Int) : Option (W AV) := match op with
 | .add => some (numS w k (a + b)) | .sub => some (numS w k (a - b)) | .mul => some (numS w k (a * b))
 | .quo => some ⟨(numS w k (a.tdiv b)).a, (b ≠ 0) :: (numS w k (a.tdiv b)).obs⟩
 | .rem => some ⟨.tv [] (.int k) (a.tmod b), [b ≠ 0, ¬ (k = .u8 ∧ ¬ (0 ≤ a ∧ a < 256 ∧ 0 < b))]⟩
 | op => (intOp w op k a b).map fun r => ⟨r, []⟩
theorem intOpS_ok {w : Bool} {op : BinOp} {k : IntKind} {a b : Int} {r : W AV} (e : intOpS w op k a b = some r) (h : Holds r.obs) : intOp w op k a b = some r.a := by
 unfold intOpS at e
 split at e
 ·cases e; exact numS_ok h
 ·cases e; exact numS_ok h
 ·cases e; exact numS_ok h
 ·cases e
  simp only [Holds] at h
  simp only [intOp]
  rw [if_neg h.1]; exact numS_ok h.2
 ·cases e
  simp only [Holds] at h
  simp only [intOp]
  rw [if_neg h.1, if_neg h.2.1]
 ·simp only [Option.map_eq_some_iff] at e
  obtain ⟨x, hx, rfl⟩ := e
  exact hx
def binVS (w : Bool) (T : Option Ty) (op : BinOp) (x y : AV) : Option (W AV) := match op, x, y with
 | .shl, .tv _ (.int k) a, .tv _ (.int _) b => some ⟨.tv [] (.int k) (k.wrap (a * 2 ^ (min b.toNat k.bits))), [¬ b < 0]⟩
 | .shr, .tv _ (.int k) a, .tv _ (.int _) b => some ⟨.tv [] (.int k) (a.fdiv (2 ^ (min b.toNat k.bits))), [¬ b < 0, ¬ (k = .u8 ∧ ¬ (0 ≤ a ∧ a < 256))]⟩
 | op, .tv _ (.int k) a, .tv _ (.int k') b => if k = k' then intOpS w op k a b else none
 | .add, .tv _ .str a, .tv _ .str b => some ⟨.tv [] .str (a ++ b), [a.length + b.length ≤ bigN]⟩
 | op, x, y => (binV w T op x y).map fun r => ⟨r, []⟩
theorem binVS_ok {w : Bool} {T : Option Ty} {op : BinOp} {x y : AV} {r : W AV} (e : binVS w T op x y = some r) (h : Holds r.obs) : binV w T op x y = some r.a := by
 unfold binVS at e
 split at e
 ·cases e; simp only [Holds] at h; simp only [binV]; rw [if_neg h.1]
 ·cases e; simp only [Holds] at h; simp only [binV]; rw [if_neg h.1, if_neg h.2.1]
 ·rename_i op _ k a _ k' b h1 h2
  split at e
  ·rename_i hk
   subst hk
   have := intOpS_ok e h
   cases op <;> first | (exact absurd rfl (h1 _ _ _ _ _ _ rfl rfl)) | (exact absurd rfl (h2 _ _ _ _ _ _ rfl rfl)) | (simp only [binV, if_true]; exact this) | (simp [intOp] at this)
  ·cases e
 ·cases e; simp only [Holds] at h; simp only [binV]; rw [if_pos h.1]
 ·simp only [Option.map_eq_some_iff] at e
  obtain ⟨b, hb, rfl⟩ := e
  exact hb
def unVS (w : Bool) (op : UnOp) (x : AV) : Option (W AV) := match op, x with
 | .neg, .tv _ (.int k) a => some (numS w k (0 - a))
 | op, x => (unV w op x).map fun r => ⟨r, []⟩
theorem unVS_ok {w : Bool} {op : UnOp} {x : AV} {r : W AV} (e : unVS w op x = some r) (h : Holds r.obs) : unV w op x = some r.a := by
 unfold unVS at e
 split at e
 ·cases e; exact numS_ok h
 ·simp only [Option.map_eq_some_iff] at e
  obtain ⟨b, hb, rfl⟩ := e
  exact hb
def indexVS (x i : AV) : Option (W AV) := match x, idxI i with
 | .tv _ .str l, some n => some ⟨.tv [] (.int .u8) (l.getD n.toNat 0), [0 ≤ n ∧ n < (l.length : Int)]⟩
 | .tv _ (.arr gw k t) l, some n => some ⟨.tv [] t (l.getD n.toNat (zero t)), [0 ≤ n ∧ n < (k : Int)]⟩
 | _, _ => none
theorem indexVS_ok {x i : AV} {r : W AV} (e : indexVS x i = some r) (h : Holds r.obs) : indexV x i = some r.a := by
 unfold indexVS at e
 split at e
 ·rename_i hn; cases e; simp only [Holds] at h; simp only [indexV, hn]; rw [if_pos h.1]
 ·rename_i hn; cases e; simp only [Holds] at h; simp only [indexV, hn]; rw [if_pos h.1]
 ·cases e
def indexAS (T : Option Ty) (x i : AV) : Option (W AV) := match T, x, idxI i with
 | some (.slice t'), .tv _ (.slice t) l, some n => if t = t' then some ⟨.sp t (l.getD n.toNat (zero t)), [0 ≤ n ∧ n < (l.length : Int)]⟩ else none
 | some (.arr gw k _), .op q p, some n => some ⟨.op q (p ++ [n.toNat]), [0 ≤ n ∧ n < (k : Int)]⟩
 | some (.arr gw k _), .gp g p, some n => some ⟨.gp g (p ++ [n.toNat]), [0 ≤ n ∧ n < (k : Int)]⟩
 | T, .tv _ (.sref t) x, some n => match (x : SR) with
  | some (k, N, lo, len) => if slTy T = some t then some ⟨.vp k N [lo + n.toNat], [0 ≤ n ∧ n < (len : Int)]⟩ else none
  | none => none
 | _, _, _ => none
theorem indexAS_ok {T : Option Ty} {x i : AV} {r : W AV} (e : indexAS T x i = some r) (h : Holds r.obs) : indexA T x i = some r.a := by
 unfold indexAS at e
 split at e
 ·rename_i hn
  split at e
  ·rename_i ht; cases e; simp only [Holds] at h; simp only [indexA, hn]; rw [if_pos ⟨ht, h.1⟩]
  ·cases e
 ·rename_i hn; cases e; simp only [Holds] at h; simp only [indexA, hn]; rw [if_pos h.1]
 ·rename_i hn; cases e; simp only [Holds] at h; simp only [indexA, hn]; rw [if_pos h.1]
 ·rename_i T _ _ _ own t x n hn
  rcases x with _ | ⟨k, N, lo, len⟩
  ·cases e
  ·simp only at e
   split at e
   ·rename_i hT
    cases e
    simp only [Holds] at h
    cases T with
    | none => cases hT
    | some T =>
     cases T with
     | slice _ => simp only [indexA, hn, idxSref]; rw [if_pos ⟨hT, h.1⟩]
     | sref _ => simp only [indexA, hn, idxSref]; rw [if_pos ⟨hT, h.1⟩]
     | _ => cases hT
   ·cases e
 ·cases e
def sliceVS (T : Option Ty) (own : List (List Nat)) (x : AV) (lo hi : Option AV) : Option (W AV) := match x with
 | .tv _ .str l => (bnd lo 0).bind fun a => (bnd hi l.length).bind fun c => if T = some .str then some ⟨.tv [] .str (cut l a.toNat c.toNat), [0 ≤ a ∧ a ≤ c ∧ c ≤ (l.length : Int)]⟩ else none
 | .tv _ (.slice t) l => (bnd lo 0).bind fun a => (bnd hi l.length).bind fun c => if T = some (.slice t) then some ⟨.tv own (.slice t) (cut l a.toNat c.toNat), [0 ≤ a ∧ a ≤ c ∧ c ≤ (l.length : Int)]⟩ else none
 | .tv _ (.sref t) x => match (x : SR) with
  | some (k, N, b, len) => (bnd lo 0).bind fun a => (bnd hi len).bind fun c => if slTy T = some t then some ⟨.tv [] (.sref t) (some (k, N, b + a.toNat, c.toNat - a.toNat)), [0 ≤ a ∧ a ≤ c ∧ c ≤ (len : Int)]⟩ else none
  | none => none
 | _ => none
theorem sliceVS_ok {T : Option Ty} {own : List (List Nat)} {x : AV} {lo hi : Option AV} {r : W AV} (e : sliceVS T own x lo hi = some r) (h : Holds r.obs) : sliceV T own x lo hi = some r.a := by
 unfold sliceVS at e
 split at e
 ·simp only [Option.bind_eq_some_iff] at e
  obtain ⟨a, ha, c, hc, e⟩ := e
  split at e
  ·rename_i hT; cases e; simp only [Holds] at h; simp only [sliceV, ha, hc, Option.bind_some]; rw [if_pos ⟨hT, h.1⟩]
  ·cases e
 ·simp only [Option.bind_eq_some_iff] at e
  obtain ⟨a, ha, c, hc, e⟩ := e
  split at e
  ·rename_i hT; cases e; simp only [Holds] at h; simp only [sliceV, ha, hc, Option.bind_some]; rw [if_pos ⟨hT, h.1⟩]
  ·cases e
 ·rename_i own0 t x
  rcases x with _ | ⟨k, N, b, len⟩
  ·cases e
  ·simp only [Option.bind_eq_some_iff] at e
   obtain ⟨a, ha, c, hc, e⟩ := e
   split at e
   ·rename_i hT; cases e; simp only [Holds] at h; simp only [sliceV, sliceSref, ha, hc, Option.bind_some]; rw [if_pos ⟨hT, h.1⟩]
   ·cases e
 ·cases e
def convVS (w : Bool) (src dst : Option Ty) (x : AV) : Option (W AV) := match src, dst, x with
 | some (.int _), some (.int k), .tv _ (.int _) n => some (numS w k n)
 | src, dst, x => (convV w src dst x).map fun r => ⟨r, []⟩
theorem convVS_ok {w : Bool} {src dst : Option Ty} {x : AV} {r : W AV} (e : convVS w src dst x = some r) (h : Holds r.obs) : convV w src dst x = some r.a := by
 unfold convVS at e
 split at e
 ·cases e; exact numS_ok h
 ·simp only [Option.map_eq_some_iff] at e
  obtain ⟨b, hb, rfl⟩ := e
  exact hb
def lenVS (T : Option Ty) (x : AV) : Option (W AV) := (lenV T x).map fun r => ⟨r, []⟩
theorem lenVS_ok {T : Option Ty} {x : AV} {r : W AV} (e : lenVS T x = some r) (_ : Holds r.obs) : lenV T x = some r.a := by
 simp only [lenVS, Option.map_eq_some_iff] at e
 obtain ⟨b, hb, rfl⟩ := e
 exact hb
def appVS (T U : Option Ty) (x y : AV) : Option (W AV) := match x, y with
 | .tv o (.slice t) l, .tv _ (.slice t') m => if h : t' = t then if T = some (.slice t) ∧ U = some (.slice t) ∧ o = [[]] then some ⟨.tv [[]] (.slice t) (l ++ (h ▸ m : List (den t))), [l.length + m.length ≤ bigN]⟩ else none else none
 | .tv o (.slice (.int .u8)) l, .tv _ .str m => if T = some (.slice (.int .u8)) ∧ U = some .str ∧ o = [[]] then some ⟨.tv [[]] (.slice (.int .u8)) (l ++ m), [l.length + m.length ≤ bigN]⟩ else none
 | _, _ => none
theorem appVS_ok {T U : Option Ty} {x y : AV} {r : W AV} (e : appVS T U x y = some r) (h : Holds r.obs) : appV T U x y = some r.a := by
 unfold appVS at e
 split at e
 ·split at e
  ·rename_i ht
   subst ht
   split at e
   ·rename_i hc; cases e; simp only [Holds] at h; simp only [appV, dif_pos trivial]; rw [if_pos ⟨hc.1, hc.2.1, hc.2.2, h.1⟩]
   ·cases e
  ·cases e
 ·split at e
  ·rename_i hc; cases e; simp only [Holds] at h; simp only [appV]; rw [if_pos ⟨hc.1, hc.2.1, hc.2.2, h.1⟩]
  ·cases e
 ·cases e
end Go.Am
namespace Go.Am
variable {P : Program} {O : Orc} {call : CallF} {f : FuncId} {rid i j : Nat} {o : Oper} {r : Res} {ops : Array Oper} {g : Nat → AV} {h : Heap}
def prjS : (t : Ty) → den t → List Nat → Option (W Dat)
 | .pair a b, x, p => match p with
  | [] => some ⟨⟨.pair a b, x⟩, []⟩
  | i :: p => match i with
   | 0 => prjS a x.1 p
   | f + 1 => prjS b x.2 (f :: p)
 | .arr gw n t, x, p => match p with
  | [] => some ⟨⟨.arr gw n t, x⟩, []⟩
  | i :: p => (prjS t (List.getD x i (zero t)) p).map fun r => ⟨r.a, (i < n) :: r.obs⟩
 | t, x, p => (prj t x p).map fun d => ⟨d, []⟩
theorem prjS_ok : ∀ (t : Ty) (x : den t) (p : List Nat) (r : W Dat), prjS t x p = some r → Holds r.obs → prj t x p = some r.a := by
 intro t x p r e h
 fun_induction prjS t x p generalizing r with
 | case1 => cases e; rfl
 | case2 a b x p ih => simp only [prj]; exact ih r e h
 | case3 a b x f p ih => simp only [prj]; exact ih r e h
 | case4 => cases e; rfl
 | case5 gw n t x i p ih =>
  simp only [Option.map_eq_some_iff] at e
  obtain ⟨q, hq, rfl⟩ := e
  simp only [Holds] at h
  simp only [prj]
  rw [if_pos h.1]; exact ih q hq h.2
 | case6 =>
  simp only [Option.map_eq_some_iff] at e
  obtain ⟨q, hq, rfl⟩ := e
  exact hq
def updS : (t : Ty) → den t → List Nat → Dat → Option (W (den t))
 | .pair a b, x, p, d => match p with
  | [] => (upd (.pair a b) x [] d).map fun y => ⟨y, []⟩
  | i :: p => match i with
   | 0 => (updS a x.1 p d).map fun y => ⟨(y.a, x.2), y.obs⟩
   | f + 1 => (updS b x.2 (f :: p) d).map fun y => ⟨(x.1, y.a), y.obs⟩
 | .arr gw n t, x, p, d => match p with
  | [] => (upd (.arr gw n t) x [] d).map fun y => ⟨y, []⟩
  | i :: p => (updS t (List.getD x i (zero t)) p d).map fun y => ⟨List.set x i y.a, (i < n) :: y.obs⟩
 | t, x, p, d => (upd t x p d).map fun y => ⟨y, []⟩
theorem updS_ok : ∀ (t : Ty) (x : den t) (p : List Nat) (d : Dat) (r : W (den t)), updS t x p d = some r → Holds r.obs → upd t x p d = some r.a := by
 intro t x p d r e h
 fun_induction updS t x p d with
 | case1 =>
  simp only [Option.map_eq_some_iff] at e
  obtain ⟨y, hy, rfl⟩ := e
  exact hy
 | case2 a b x p d ih =>
  simp only [Option.map_eq_some_iff] at e
  obtain ⟨y, hy, rfl⟩ := e
  simp only [upd, ih y hy h, Option.map_some]
 | case3 a b x f p d ih =>
  simp only [Option.map_eq_some_iff] at e
  obtain ⟨y, hy, rfl⟩ := e
  simp only [upd, ih y hy h, Option.map_some]
 | case4 =>
  simp only [Option.map_eq_some_iff] at e
  obtain ⟨y, hy, rfl⟩ := e
  exact hy
 | case5 gw n t x i p d ih =>
  simp only [Option.map_eq_some_iff] at e
  obtain ⟨y, hy, rfl⟩ := e
  simp only [Holds] at h
  simp only [upd]
  rw [if_pos h.1]; simp only [ih y hy h.2, Option.map_some]
 | case6 =>
  simp only [Option.map_eq_some_iff] at e
  obtain ⟨y, hy, rfl⟩ := e
  exact hy
def loadVS (o : Orc) (h : Heap) (a : AV) : Option (W Dat) := match a with
 | .sp t x => some ⟨⟨t, x⟩, []⟩
 | .op k p => (look h k).bind fun b => prjS b.d.t b.d.x p
 | .gp g p => (o.glob g).bind fun d => prjS d.t d.x p
 | .vp k N p => (look h k).bind fun b => match b.d.t.len? with
  | some n => (prjS b.d.t b.d.x p).map fun r => ⟨r.a, (n = N) :: r.obs⟩
  | none => none
 | _ => none
theorem loadVS_ok {a : AV} {r : W Dat} (e : loadVS O h a = some r) (hh : Holds r.obs) : loadV O h a = some r.a := by
 unfold loadVS at e
 split at e
 ·cases e; rfl
 ·simp only [Option.bind_eq_some_iff] at e
  obtain ⟨b, hb, e⟩ := e
  simp only [loadV, hb, Option.bind_some]; exact prjS_ok _ _ _ _ e hh
 ·simp only [Option.bind_eq_some_iff] at e
  obtain ⟨b, hb, e⟩ := e
  simp only [loadV, hb, Option.bind_some]; exact prjS_ok _ _ _ _ e hh
 ·simp only [Option.bind_eq_some_iff] at e
  obtain ⟨b, hb, e⟩ := e
  split at e
  ·rename_i n hn
   simp only [Option.map_eq_some_iff] at e
   obtain ⟨q, hq, rfl⟩ := e
   simp only [Holds] at hh
   simp only [loadV, hb, Option.bind_some]
   rw [if_pos (by rw [hn, hh.1])]; exact prjS_ok _ _ _ _ hq hh.2
  ·cases e
 ·cases e
def storeVS (h : Heap) (a : AV) (own : List (List Nat)) (d : Dat) : Option (W Heap) := match a with
 | .op k p => (look h k).bind fun b => (updS b.d.t b.d.x p d).map fun y => ⟨over h k ⟨⟨b.d.t, y.a⟩, own.map (p ++ ·) ++ b.own.filter fun q => !isPre p q⟩, y.obs⟩
 | .vp k N p => (look h k).bind fun b => match b.d.t.len? with
  | some n => (updS b.d.t b.d.x p d).map fun y => ⟨over h k ⟨⟨b.d.t, y.a⟩, own.map (p ++ ·) ++ b.own.filter fun q => !isPre p q⟩, (n = N) :: y.obs⟩
  | none => none
 | _ => none
theorem storeVS_ok {a : AV} {own : List (List Nat)} {d : Dat} {r : W Heap} (e : storeVS h a own d = some r) (hh : Holds r.obs) : storeV h a own d = some r.a := by
 unfold storeVS at e
 split at e
 ·simp only [Option.bind_eq_some_iff, Option.map_eq_some_iff] at e
  obtain ⟨b, hb, y, hy, rfl⟩ := e
  simp only [storeV, hb, Option.bind_some, updS_ok _ _ _ _ _ hy hh, Option.map_some]
 ·simp only [Option.bind_eq_some_iff] at e
  obtain ⟨b, hb, e⟩ := e
  split at e
  ·rename_i n hn
   simp only [Option.map_eq_some_iff] at e
   obtain ⟨y, hy, rfl⟩ := e
   simp only [Holds] at hh
   simp only [storeV, hb, Option.bind_some]
   rw [if_pos (by rw [hn, hh.1])]
   simp only [updS_ok _ _ _ _ _ hy hh.2, Option.map_some]
  ·cases e
 ·cases e
end Go.Am
namespace Go.Am
variable {P : Program} {O : Orc} {call : CallF} {draw : Bool} {f : FuncId} {rid i j : Nat} {o : Oper} {r : Res} {ops : Array Oper} {g : Nat → AV} {h : Heap}
abbrev Out := Res × List Prop × List It
def outW (w : Option (W AV)) (tk : Option Nat) (h : Heap) (sc : List It) : Option Out := w.map fun w => (⟨w.a, tk, h⟩, w.obs, sc)
theorem outW_ok {w : Option (W AV)} {tk : Option Nat} {sc : List It} {q : Out} (e : outW w tk h sc = some q) : ∃ v, w = some v ∧ q = (⟨v.a, tk, h⟩, v.obs, sc) := by
 unfold outW at e
 simp only [Option.map_eq_some_iff] at e
 obtain ⟨v, h1, h2⟩ := e
 exact ⟨v, h1, h2.symm⟩
def callIn (args0 : List AV) (h : Heap) : Option (List AV × Heap) :=
 let args := args0.map AV.drop
 let ks := reach h 50 (keysL args) []
 (inObs h (inward ks) ks 0).map fun h0 => (renL (inward ks) args, h0)
theorem callA_given {dst : Option Nat} {q : FuncId} {args : List AV} {given : AV × Heap} {p : List AV × Heap} (h1 : callA O (fun _ _ _ => some given) draw dst q args h = some r) (h2 : callIn args h = some p) (h3 : call q p.1 p.2 = some given) : callA O call draw dst q args h = some r := by
 unfold callIn at h2
 simp only [Option.map_eq_some_iff] at h2
 obtain ⟨h0, h4, rfl⟩ := h2
 simp only at h3
 unfold callA at h1 ⊢
 simp only [forceKs_eq] at h1 ⊢
 split at h1
 ·cases h1
 ·rename_i hc
  rw [if_neg hc]
  simp only [h4, Option.bind_some] at h1 ⊢
  split at h1
  ·cases h1
  ·rename_i hc2
   rw [if_neg hc2]
   simp only [h3, Option.bind_some] at h1 ⊢
   exact h1
theorem callT_given {tk : Bool} {X : List Key} {dst : Option Nat} {q : FuncId} {args : List AV} {given : AV × Heap} {p : List AV × Heap} (h1 : callT O (fun _ _ _ => some given) draw tk X dst q args h = some r) (h2 : callIn args h = some p) (h3 : call q p.1 p.2 = some given) : callT O call draw tk X dst q args h = some r := by
 unfold callT at h1 ⊢
 split at h1
 ·cases h1
 ·rename_i hn
  rw [if_neg hn]
  simp only [Option.bind_eq_some_iff] at h1 ⊢
  obtain ⟨r', h4, h5⟩ := h1
  exact ⟨r', callA_given h4 h2 h3, h5⟩
def pickS (x : Bool) (a b : AV) : Option AV := match a, b with
 | .tv o t p, .tv o' t' q => if h : t' = t then if o = o' then some (.tv o t (bif x then p else h ▸ q)) else none else none
 | _, _ => none
theorem pickS_ok {x : Bool} {a b c : AV} (e : pickS x a b = some c) : (bif x then a else b) = c := by
 unfold pickS at e
 split at e
 ·split at e
  ·rename_i ht
   subst ht
   split at e
   ·rename_i ho
    subst ho
    cases e
    cases x <;> rfl
   ·cases e
  ·cases e
 ·cases e
def pTyS : Ty → List Nat → Option (W Ty)
 | .pair a b, p => match p with
  | [] => some ⟨.pair a b, []⟩
  | i :: p => match i with
   | 0 => pTyS a p
   | f + 1 => pTyS b (f :: p)
 | .arr gw n t, p => match p with
  | [] => some ⟨.arr gw n t, []⟩
  | i :: p => (pTyS t p).map fun r => ⟨r.a, (i < n) :: r.obs⟩
 | t, p => (pTy t p).map fun u => ⟨u, []⟩
theorem pTyS_ok : ∀ (t : Ty) (p : List Nat) (r : W Ty), pTyS t p = some r → Holds r.obs → pTy t p = some r.a := by
 intro t p r e hh
 fun_induction pTyS t p generalizing r with
 | case1 => cases e; rfl
 | case2 a b p ih => simp only [pTy]; exact ih r e hh
 | case3 a b f p ih => simp only [pTy]; exact ih r e hh
 | case4 => cases e; rfl
 | case5 gw n t i p ih =>
  simp only [Option.map_eq_some_iff] at e
  obtain ⟨q, hq, rfl⟩ := e
  simp only [Holds] at hh
  simp only [pTy]
  rw [if_pos hh.1]; exact ih q hq hh.2
 | case6 =>
  simp only [Option.map_eq_some_iff] at e
  obtain ⟨q, hq, rfl⟩ := e
  exact hq
def ptsToS (O : Orc) (h : Heap) (T : TypeId) (a : AV) : Option (List Prop) := match a with
 | .op k p => (look h k).bind fun o => (pTyS o.d.t p).bind fun r => if O.ty T = some r.a then some r.obs else none
 | .vp k N p => (look h k).bind fun o => match o.d.t.len? with
  | some n => (pTyS o.d.t p).bind fun r => if O.ty T = some r.a then some ((n = N) :: r.obs) else none
  | none => none
 | a => if ptsTo O h T a then some [] else none
theorem ptsToS_ok {T : TypeId} {a : AV} {l : List Prop} (e : ptsToS O h T a = some l) (hh : Holds l) : ptsTo O h T a = true := by
 unfold ptsToS at e
 split at e
 ·simp only [Option.bind_eq_some_iff] at e
  obtain ⟨o, ho, r, hr, e⟩ := e
  split at e
  ·rename_i hT
   cases e
   simp only [ptsTo, ho, pTyS_ok _ _ _ hr hh, hT]
   simp
  ·cases e
 ·simp only [Option.bind_eq_some_iff] at e
  obtain ⟨o, ho, e⟩ := e
  split at e
  ·rename_i n hn
   simp only [Option.bind_eq_some_iff] at e
   obtain ⟨r, hr, e⟩ := e
   split at e
   ·rename_i hT
    cases e
    simp only [Holds] at hh
    simp only [ptsTo, ho, pTyS_ok _ _ _ hr hh.2, hT, hn, hh.1]
    simp
   ·cases e
  ·cases e
 ·split at e
  ·rename_i hc; exact hc
  ·cases e
def execS0 (O : Orc) (call : CallF) (draw : Bool) (f : FuncId) (rid i : Nat) (o : Oper) (g : Nat → AV) (h : Heap) (sc : List It) : Option Out :=
  let tk := O.take f rid i
  let w := O.wrap f rid i
  match o.op with
  | .pick c a b => match val g none c with
    | .tv _ .bool x => match pickS x (val g (O.ty o.type) a) (val g (O.ty o.type) b) with
      | some v => some (⟨v, none, h⟩, [], sc)
      | none => match sc with
        | .br y :: sc => some (⟨bif y then val g (O.ty o.type) a else val g (O.ty o.type) b, none, h⟩, [x = y], sc)
        | _ => none
    | _ => none
  | .load T x => (loadVS O h (val g none x)).bind fun d => if O.ty T = some d.a.t then
      (if tk then match val g none x with
        | .op k p => (look h k).map fun b => (⟨d.a.av (below p b.own), none, over h k ⟨b.d, strip p b.own⟩⟩, d.obs, sc)
        | _ => none
      else some (⟨d.a.av [], none, h⟩, d.obs, sc)) else none
  | .store T a x => let q := takeV tk g (O.ty T) x
    q.1.dat.bind fun d => if O.ty T = some d.t then (storeVS h (val g none a) q.1.own d).map fun h' => (⟨.no, q.2, h'.a⟩, h'.obs, sc) else none
  | .binOp op T x y U => outW (binVS w (O.ty T) op (val g (O.ty T) x) (val g (O.ty U) y)) none h sc
  | .unOp op T x => outW (unVS w op (val g (O.ty T) x)) none h sc
  | .convert T U x => outW (convVS w (O.ty T) (O.ty U) (val g (O.ty T) x)) none h sc
  | .slice T x lo hi none => match O.ty T with
    | some (.arr gw _ _) => (exec0 O call draw f rid i o g h).map fun r => (r, [], sc)
    | u => let q := takeV tk g u x
      outW (sliceVS u (if tk && (hi.isNone && noU8 u) then q.1.own else []) q.1 (lo.map (val g none)) (hi.map (val g none))) q.2 h sc
  | .slice T x lo (some hv) (some m) => if idxI (val g none hv) = idxI (val g none m) && (idxI (val g none m)).isSome then (match O.ty T with
        | some (.slice t) => if isSref (val g (some (.slice t)) x) then none else outW (sliceVS (some (.slice t)) (ownS t) (val g (some (.slice t)) x) (lo.map (val g none)) (some (val g none hv))) none h sc
        | _ => none) else none
  | .indexAddr T x k => match O.ty T with
    | some (.arr gw n t) => (ptsToS O h T (val g none x)).bind fun l => (outW (indexAS (some (.arr gw n t)) (val g none x) (val g none k)) none h sc).map fun q => (q.1, l ++ q.2.1, q.2.2)
    | u => outW (indexAS u (val g u x) (val g none k)) none h sc
  | .fieldAddr T x k => if ((O.ty T).bind fun t => fldT t k).isSome then (ptsToS O h T (val g none x)).bind fun l => (fieldA (val g none x) k).map fun a => (⟨a, none, h⟩, l, sc) else none
  | .index T x k => match val g (O.ty T) x with
    | .tv _ t y => if O.ty T = some t then outW (indexVS (.tv [] t y) (val g none k)) none h sc else none
    | _ => none
  | .call c => match c.callee with
    | .builtin .len => match c.args.toList with
      | [x] => outW (lenVS (c.argTypes[0]?.bind O.ty) (val g (c.argTypes[0]?.bind O.ty) x)) none h sc
      | _ => none
    | .builtin .append => match c.args.toList with
      | [x, y] => let q := takeV tk g (c.argTypes[0]?.bind O.ty) x
        outW (appVS (c.argTypes[0]?.bind O.ty) (c.argTypes[1]?.bind O.ty) q.1 (val g (c.argTypes[1]?.bind O.ty) y)) q.2 h sc
      | _ => none
    | .value x => match val g none x with
      | .fn q first caps => match sc with
        | .res a h1 :: sc => (callT O (fun _ _ _ => some (a, h1)) draw tk (O.far f rid i) o.dst q (first ++ argV O g c ++ caps) h).bind fun r => (callIn (first ++ argV O g c ++ caps) h).map fun p => (r, [call q p.1 p.2 = some (a, h1)], sc)
        | _ => none
      | _ => none
    | _ => (exec0 O call draw f rid i o g h).map fun r => (r, [], sc)
  | _ => (exec0 O call draw f rid i o g h).map fun r => (r, [], sc)
theorem execS0_ok {sc : List It} {q : Out} (e : execS0 O call draw f rid i o g h sc = some q) (hh : Holds q.2.1) : exec0 O call draw f rid i o g h = some q.1 := by
 have dflt : (exec0 O call draw f rid i o g h).map (fun r => (r, ([] : List Prop), sc)) = some q → exec0 O call draw f rid i o g h = some q.1 := fun e => by
  simp only [Option.map_eq_some_iff] at e
  obtain ⟨r, h1, rfl⟩ := e
  exact h1
 cases hop : o.op with
 | pick c a b =>
  simp only [execS0, hop] at e
  split at e
  ·rename_i own x hv
   split at e
   ·rename_i v h1
    cases e
    simp only [exec0, hop, hv, pickS_ok h1]
   ·split at e
    ·cases e
     simp only [Holds] at hh
     simp only [exec0, hop, hv, hh.1]
    ·cases e
  ·cases e
 | load T x =>
  simp only [execS0, hop, Option.bind_eq_some_iff] at e
  obtain ⟨d, hd, e⟩ := e
  split at e
  ·rename_i hT
   split at e
   ·rename_i htk
    split at e
    ·rename_i k p hv
     simp only [Option.map_eq_some_iff] at e
     obtain ⟨b, hb, rfl⟩ := e
     have hl := loadVS_ok hd hh
     rw [hv] at hl
     simp only [exec0, hop, loadA, hv, hl, Option.bind_some, if_pos hT, htk, if_true, hb]
    ·cases e
   ·rename_i htk
    cases e
    simp only [exec0, hop, loadA, loadVS_ok hd hh, Option.bind_some, if_pos hT, if_neg htk]
  ·cases e
 | store T a x =>
  simp only [execS0, hop, Option.bind_eq_some_iff] at e
  obtain ⟨d, hd, e⟩ := e
  split at e
  ·rename_i hT
   simp only [Option.map_eq_some_iff] at e
   obtain ⟨h', h1, rfl⟩ := e
   simp only [exec0, hop, hd, Option.bind_some, if_pos hT, storeVS_ok h1 hh, Option.map_some]
  ·cases e
 | binOp op T x y U =>
  simp only [execS0, hop] at e
  obtain ⟨v, h1, rfl⟩ := outW_ok e
  simp only [exec0, hop, binVS_ok h1 hh, Option.map_some]
 | unOp op T x =>
  simp only [execS0, hop] at e
  obtain ⟨v, h1, rfl⟩ := outW_ok e
  simp only [exec0, hop, unVS_ok h1 hh, Option.map_some]
 | convert T U x =>
  simp only [execS0, hop] at e
  obtain ⟨v, h1, rfl⟩ := outW_ok e
  simp only [exec0, hop, convVS_ok h1 hh, Option.map_some]
 | slice T x lo hi mx =>
  cases mx with
  | none =>
   simp only [execS0, hop] at e
   split at e
   ·exact dflt e
   ·rename_i u hu
    obtain ⟨v, h1, rfl⟩ := outW_ok e
    have h2 := sliceVS_ok h1 hh
    simp only [exec0, hop, sliceA]
    cases hT : O.ty T with
    | none => rw [hT] at h2; simp only [h2, Option.map_some]
    | some t => cases t with
     | arr gw n t => exact absurd hT (hu gw n t)
     | _ => rw [hT] at h2; simp only [h2, Option.map_some]
  | some m =>
   cases hi with
   | none => simp only [execS0, hop] at e; exact dflt e
   | some hv =>
    simp only [execS0, hop] at e
    split at e
    ·rename_i hc
     split at e
     ·rename_i t hT
      split at e
      ·cases e
      ·rename_i hns
       obtain ⟨v, h1, rfl⟩ := outW_ok e
       simp only [exec0, hop, sliceA, if_pos hc, hT, if_neg hns, sliceVS_ok h1 hh, Option.map_some]
     ·cases e
    ·cases e
 | indexAddr T x k =>
  simp only [execS0, hop] at e
  split at e
  ·rename_i n t hT
   simp only [Option.bind_eq_some_iff, Option.map_eq_some_iff] at e
   obtain ⟨l, hl, q', hq', rfl⟩ := e
   obtain ⟨v, h1, rfl⟩ := outW_ok hq'
   obtain ⟨ha, hb⟩ := (Holds.append _ _).1 hh
   simp only [exec0, hop, hT, if_pos (ptsToS_ok hl ha), indexAS_ok h1 hb, Option.map_some]
  ·rename_i u hu
   obtain ⟨v, h1, rfl⟩ := outW_ok e
   simp only [exec0, hop]
   simp only [indexAS_ok h1 hh, Option.map_some]
 | fieldAddr T x k =>
  simp only [execS0, hop] at e
  split at e
  ·rename_i hf
   simp only [Option.bind_eq_some_iff, Option.map_eq_some_iff] at e
   obtain ⟨l, hl, b, hb, rfl⟩ := e
   simp only [exec0, hop, ptsToS_ok hl hh, hf, Bool.and_self, if_true, hb, Option.map_some]
  ·cases e
 | index T x k =>
  simp only [execS0, hop] at e
  split at e
  ·rename_i own t y hv
   split at e
   ·rename_i hT
    obtain ⟨v, h1, rfl⟩ := outW_ok e
    simp only [exec0, hop, hv, if_pos hT, indexVS_ok h1 hh, Option.map_some]
   ·cases e
  ·cases e
 | call c =>
  simp only [execS0, hop] at e
  cases hc : c.callee with
  | builtin b =>
   rw [hc] at e
   cases b with
   | len =>
    simp only at e
    split at e
    ·rename_i x hx
     obtain ⟨v, h1, rfl⟩ := outW_ok e
     simp only [exec0, hop, callO, hc, hx, lenVS_ok h1 hh, Option.map_some]
    ·cases e
   | append =>
    simp only at e
    split at e
    ·rename_i x y hx
     obtain ⟨v, h1, rfl⟩ := outW_ok e
     simp only [exec0, hop, callO, hc, hx, appVS_ok h1 hh, Option.map_some]
    ·cases e
   | _ => exact dflt e
  | value x =>
   rw [hc] at e
   simp only at e
   split at e
   ·rename_i p first caps hv
    split at e
    ·rename_i a h1 sc'
     simp only [Option.bind_eq_some_iff, Option.map_eq_some_iff] at e
     obtain ⟨r, hr, pp, hp, rfl⟩ := e
     simp only [Holds] at hh
     simp only [exec0, hop, callO, hc, hv]
     exact callT_given hr hp hh.1
    ·cases e
   ·cases e
  | invoke x n => rw [hc] at e; exact dflt e
 | _ => simp only [execS0, hop] at e; exact dflt e
def rdVecS (h : Heap) (t : Ty) (x : SR) : Option (W (List (den t))) := match x with
 | none => some ⟨[], []⟩
 | some (k, N, lo, len) => match look h k with
  | some ⟨⟨.arr (γ + 1) n u, l⟩, _⟩ => if e : u = t then some ⟨cut (e ▸ l : List (den t)) lo (lo + len), [N = γ ∧ lo + len ≤ n]⟩ else none
  | _ => none
theorem rdVecS_ok {t : Ty} {x : SR} {r : W (List (den t))} (e : rdVecS h t x = some r) (hh : Holds r.obs) : rdVec h t x = some r.a := by
 unfold rdVecS at e
 unfold rdVec
 split at e
 ·cases e; rfl
 ·rename_i k N lo len
  simp only
  split at e
  ·rename_i γ n u l own hl
   rw [hl]
   simp only
   split at e
   ·rename_i hu
    subst hu
    cases e
    simp only [Holds] at hh
    rw [dif_pos rfl, if_pos hh.1]
   ·cases e
  ·cases e
def rdAS (h : Heap) (a : AV) : Option (W AV) := match a with
 | .tv _ (.sref t) x => (rdVecS h t x).map fun r => ⟨.tv [] (.slice t) r.a, r.obs⟩
 | a => some ⟨a, []⟩
theorem rdAS_ok {a : AV} {r : W AV} (e : rdAS h a = some r) (hh : Holds r.obs) : rdA h a = some r.a := by
 unfold rdAS at e
 unfold rdA
 split at e
 ·simp only [Option.map_eq_some_iff] at e
  obtain ⟨v, h1, rfl⟩ := e
  simp only
  rw [rdVecS_ok h1 hh]; rfl
 ·rename_i hn
  cases e
  split
  ·exact absurd rfl (hn _ _ _)
  ·rfl
def appVecS (h : Heap) (t : Ty) (x : SR) (m : List (den t)) : Option (W Res) := match x with
 | some (k, N, lo, len) => match look h k with
  | some ⟨⟨.arr (γ + 1) n u, l⟩, _⟩ => if e : u = t then (if lo = 0 then
    some ⟨⟨.tv [] (.sref t) (some (k, Nat.succ γ, 0, len + m.length)), none, over h k ⟨⟨.arr (Nat.succ (Nat.succ γ)) (len + m.length) t, (e ▸ l : List (den t)).take len ++ m⟩, []⟩⟩, [N = γ ∧ len ≤ n ∧ 0 < m.length ∧ n + m.length ≤ bigN]⟩ else none) else none
  | _ => none
 | none => none
theorem appVecS_ok {t : Ty} {x : SR} {m : List (den t)} {r : W Res} (e : appVecS h t x m = some r) (hh : Holds r.obs) : appVec h t x m = some r.a := by
 unfold appVecS at e
 unfold appVec
 split at e
 ·rename_i k N lo len
  simp only
  split at e
  ·rename_i γ n u l own hl
   rw [hl]
   simp only
   split at e
   ·rename_i hu
    subst hu
    split at e
    ·rename_i hlo
     cases e
     simp only [Holds] at hh
     obtain ⟨⟨c1, c2, c3, c4⟩, _⟩ := hh
     rw [dif_pos rfl, if_pos ⟨c1, hlo, c2, c3, c4⟩]
    ·cases e
   ·cases e
  ·cases e
 ·cases e
def appMS (T U : Option Ty) (h : Heap) (x y : AV) : Option (W Res) := match x with
 | .tv _ (.sref t) q => match rdAS h y with
  | some ⟨.tv _ (.slice t') m, ob⟩ => if e : t' = t then (if slTy T = some t ∧ slTy U = some t then (appVecS h t q (e ▸ m : List (den t))).map fun r => ⟨r.a, ob ++ r.obs⟩ else none) else none
  | _ => none
 | _ => none
theorem appMS_ok {T U : Option Ty} {x y : AV} {r : W Res} (e : appMS T U h x y = some r) (hh : Holds r.obs) : appM T U h x y = some r.a := by
 unfold appMS at e
 unfold appM
 split at e
 ·rename_i own t q
  simp only
  split at e
  ·rename_i own' t' m ob hy
   split at e
   ·rename_i ht
    subst ht
    split at e
    ·rename_i hT
     simp only [Option.map_eq_some_iff] at e
     obtain ⟨v, h1, rfl⟩ := e
     obtain ⟨ha, hb⟩ := (Holds.append _ _).1 hh
     rw [rdAS_ok hy ha]
     simp only
     rw [dif_pos trivial, if_pos hT]
     exact appVecS_ok h1 hb
    ·cases e
   ·cases e
  ·cases e
 ·cases e
def appRS (T U : Option Ty) (tk : Bool) (g : Nat → AV) (h : Heap) (x : Operand) (ay : AV) : Option (W Res) := match rdAS h ay with
 | some ⟨.tv own' (.slice t) m, ob⟩ => let q := takeV tk g T x; (appVS T U q.1 (.tv own' (.slice t) m)).map fun b => ⟨⟨b.a, q.2, h⟩, ob ++ b.obs⟩
 | _ => none
theorem appRS_ok {T U : Option Ty} {tk : Bool} {x : Operand} {ay : AV} {r : W Res} (e : appRS T U tk g h x ay = some r) (hh : Holds r.obs) : appR T U tk g h x ay = some r.a := by
 unfold appRS at e
 unfold appR
 split at e
 ·rename_i own' t m ob hy
  simp only [Option.map_eq_some_iff] at e
  obtain ⟨b, h1, rfl⟩ := e
  obtain ⟨ha, hb⟩ := (Holds.append _ _).1 hh
  rw [rdAS_ok hy ha]
  simp only [appVS_ok h1 hb, Option.map_some]
 ·cases e
def nilCmpS (T : Option Ty) (op : BinOp) (x : AV) (y : Operand) (h : Heap) : Option (W Res) := match y with
 | .const (.slice none 0 0) => match x with
  | .tv _ (.sref t) x => match (x : SR) with
   | some (_, _, _, len) => if slTy T = some t then (match op with
    | .eql => some ⟨⟨.tv [] .bool false, none, h⟩, [0 < len]⟩
    | .neq => some ⟨⟨.tv [] .bool true, none, h⟩, [0 < len]⟩
    | _ => none) else none
   | none => none
  | .tv _ (.slice t) l => if T = some (.slice t) then (match op with
    | .eql => some ⟨⟨.tv [] .bool false, none, h⟩, [0 < List.length l]⟩
    | .neq => some ⟨⟨.tv [] .bool true, none, h⟩, [0 < List.length l]⟩
    | _ => none) else none
  | _ => none
 | _ => none
theorem nilCmpS_ok {T : Option Ty} {op : BinOp} {x : AV} {y : Operand} {r : W Res} (e : nilCmpS T op x y h = some r) (hh : Holds r.obs) : nilCmp T op x y h = some r.a := by
 unfold nilCmpS at e
 unfold nilCmp
 split at e
 ·simp only
  split at e
  ·rename_i own t x
   simp only
   split at e
   ·rename_i k N lo len
    simp only
    split at e
    ·rename_i hT
     split at e
     ·cases e; simp only [Holds] at hh; rw [if_pos ⟨hT, hh.1⟩]
     ·cases e; simp only [Holds] at hh; rw [if_pos ⟨hT, hh.1⟩]
     ·cases e
    ·cases e
   ·cases e
  ·rename_i own t l
   simp only
   split at e
   ·rename_i hT
    split at e
    ·cases e; simp only [Holds] at hh; rw [if_pos ⟨hT, hh.1⟩]
    ·cases e; simp only [Holds] at hh; rw [if_pos ⟨hT, hh.1⟩]
    ·cases e
   ·cases e
  ·cases e
 ·cases e
def clearMS (T : Option Ty) (h : Heap) (x : AV) : Option (W Res) := match x with
 | .tv _ (.sref t) q => match (q : SR) with
  | some (k, N, lo, len) => match look h k with
   | some ⟨⟨.arr (γ + 1) n u, l⟩, []⟩ => if e : u = t then (if slTy T = some t then some ⟨⟨.tup [], none, over h k ⟨⟨.arr (Nat.succ γ) n t, wipe (e ▸ l : List (den t)) lo len (zero t)⟩, []⟩⟩, [N = γ ∧ lo + len ≤ n]⟩ else none) else none
   | _ => none
  | none => none
 | _ => none
theorem clearMS_ok {T : Option Ty} {x : AV} {r : W Res} (e : clearMS T h x = some r) (hh : Holds r.obs) : clearM T h x = some r.a := by
 unfold clearMS at e
 unfold clearM
 split at e
 ·simp only
  split at e
  ·simp only
   split at e
   ·rename_i γ n u l hl
    rw [hl]
    simp only
    split at e
    ·rename_i hu
     subst hu
     split at e
     ·rename_i hT
      cases e
      simp only [Holds] at hh
      rw [dif_pos rfl, if_pos ⟨hT, hh.1.1, hh.1.2⟩]
     ·cases e
    ·cases e
   ·cases e
  ·cases e
 ·cases e
def storeFzS (T : Option Ty) (h : Heap) (a x : AV) : Option (W Res) := match T, a, x with
 | some (.slice t), .op q p, .tv _ (.sref u) z => match (z : SR) with
  | some (k, N, lo, len) => match look h k with
   | some ⟨⟨.arr (γ + 1) n v, l⟩, _⟩ => if e : v = t then (if u = t ∧ k ≠ q ∧ lo = 0 then
     (look h q).bind fun b => (updS b.d.t b.d.x p ⟨.slice t, (e ▸ l : List (den t))⟩).map fun y =>
      ⟨⟨.no, none, over (over h k ⟨⟨.arr (Nat.succ (Nat.succ γ)) 0 t, ([] : List (den t))⟩, []⟩) q ⟨⟨b.d.t, y.a⟩, b.own.filter fun q => !isPre p q⟩⟩, (N = γ ∧ len = n) :: y.obs⟩ else none) else none
   | _ => none
  | none => none
 | _, _, _ => none
theorem storeFzS_ok {T : Option Ty} {a x : AV} {r : W Res} (e : storeFzS T h a x = some r) (hh : Holds r.obs) : storeFz T h a x = some r.a := by
 unfold storeFzS at e
 unfold storeFz
 split at e
 ·rename_i t q p own u z
  simp only
  split at e
  ·rename_i k N lo len
   simp only
   split at e
   ·rename_i γ n v l own2 hl
    rw [hl]
    simp only
    split at e
    ·rename_i hv
     subst hv
     split at e
     ·rename_i hc
      simp only [Option.bind_eq_some_iff, Option.map_eq_some_iff] at e
      obtain ⟨b, hb, y, hy, rfl⟩ := e
      simp only [Holds] at hh
      obtain ⟨⟨c1, c2⟩, c3⟩ := hh
      rw [dif_pos rfl, if_pos ⟨hc.1, hc.2.1, hc.2.2, c1, c2⟩]
      simp only [hb, Option.bind_some]
      rw [updS_ok _ _ _ _ _ hy c3]; rfl
     ·cases e
    ·cases e
   ·cases e
  ·cases e
 ·cases e
def execMS (O : Orc) (tk : Bool) (o : Oper) (g : Nat → AV) (h : Heap) (sc : List It) : Option Out := match o.op with
 | .makeSlice T l c => match slTy (O.ty T), idxI (val g none l), idxI (val g none c) with
  | some t, some n, some n' => (mkVec h o.dst t n.toNat).map fun r => (r, [n = n' ∧ 0 ≤ n ∧ n ≤ 65536], sc)
  | _, _, _ => none
 | .move x | .assign x => (nilVec (slTy (O.ty o.type)) h o.dst x).map fun r => (r, [], sc)
 | .binOp op T x y _ => (nilCmpS (O.ty T) op (val g (O.ty T) x) y h).map fun r => (r.a, r.obs, sc)
 | .makeMap T none => (mkMap h o.dst (O.ty T)).map fun r => (r, [], sc)
 | .lookup T x k ok => (lookA (O.ty T) h (val g (O.ty T) x) (val g ((O.ty T).bind mapKey) k) ok).map fun a => (⟨a, none, h⟩, [], sc)
 | .mapUpdate T m k x | .insert T m k x => (mapUpd (O.ty T) h (val g (O.ty T) m) (val g ((O.ty T).bind mapKey) k) (val g ((O.ty T).bind mapVal) x)).map fun h' => (⟨.no, none, h'⟩, [], sc)
 | .alloc T => ((O.ty T).bind fun t => allocG h o.dst t).map fun r => (r, [], sc)
 | .build T ps => ((O.ty T).bind fun t => if !t.agg then none else (build t (ps.toList.map fun (i, x) => (i, val g (pTy t [i]) x)) (slPaths t) (zero t)).bind (buildG h o.dst t)).map fun r => (r, [], sc)
 | .box T x => (if noRefT (O.ty T) = true then (val g (O.ty T) x).dat.bind fun q => if O.ty T = some q.t ∧ q.t.noRef = true then some (⟨.sp q.t q.x, none, h⟩ : Res) else none else boxT (O.ty T) tk g h o.dst x).map fun r => (r, [], sc)
 | .buildSlice T n ps => (match slTy (O.ty T) with
  | some t => if n = 0 ∧ ps = #[] then mkVec h o.dst t 0 else if n * t.size ≤ 10000 then (buildSl t (ps.toList.map fun (i, x) => (i, val g (some t) x)) (List.replicate n (zero t))).bind fun l => if tk then mkVecL h o.dst t l else some (⟨.xs t l, none, h⟩ : Res) else none
  | _ => none).map fun r => (r, [], sc)
 | .store T a x => if isNilS x then (storeNil (O.ty T) h (val g none a)).map fun r => (r, [], sc) else (storeFzS (O.ty T) h (val g none a) (val g (O.ty T) x)).map fun r => (r.a, r.obs, sc)
 | .call c => match c.callee with
  | .builtin .clear => match c.args.toList with
   | [x] => (clearMS (c.argTypes[0]?.bind O.ty) h (val g none x)).map fun r => (r.a, r.obs, sc)
   | _ => none
  | .builtin .append => match c.args.toList with
   | [x, y] => if isSref (val g (c.argTypes[0]?.bind O.ty) x) then if !tk && isSref (val g (c.argTypes[1]?.bind O.ty) y) then (appE (c.argTypes[0]?.bind O.ty) (c.argTypes[1]?.bind O.ty) h (val g (c.argTypes[0]?.bind O.ty) x) (val g (c.argTypes[1]?.bind O.ty) y)).map fun r => (r, [], sc) else (appMS (c.argTypes[0]?.bind O.ty) (c.argTypes[1]?.bind O.ty) h (val g (c.argTypes[0]?.bind O.ty) x) (val g (c.argTypes[1]?.bind O.ty) y)).map fun r => (r.a, r.obs, sc)
    else (appRS (c.argTypes[0]?.bind O.ty) (c.argTypes[1]?.bind O.ty) tk g h x (val g (c.argTypes[1]?.bind O.ty) y)).map fun r => (r.a, r.obs, sc)
   | _ => none
  | _ => none
 | _ => none
theorem execMS_ok {tk : Bool} {sc : List It} {q : Out} (e : execMS O tk o g h sc = some q) (hh : Holds q.2.1) : execM O tk o g h = some q.1 := by
 unfold execMS at e
 unfold execM
 cases hop : o.op with
 | makeSlice T l c =>
  rw [hop] at e
  simp only at e ⊢
  split at e
  ·rename_i t n n' h1 h2 h3
   simp only [Option.map_eq_some_iff] at e
   obtain ⟨r, hr, rfl⟩ := e
   simp only [Holds] at hh
   simp only [h1, h2, h3]
   rw [if_pos hh.1]; exact hr
  ·cases e
 | move x =>
  rw [hop] at e
  simp only [Option.map_eq_some_iff] at e
  obtain ⟨r, hr, rfl⟩ := e
  exact hr
 | build T ps =>
  rw [hop] at e
  simp only [Option.map_eq_some_iff] at e
  obtain ⟨r, hr, rfl⟩ := e
  exact hr
 | buildSlice T n ps =>
  rw [hop] at e
  simp only [Option.map_eq_some_iff] at e
  obtain ⟨r, hr, rfl⟩ := e
  exact hr
 | box T x =>
  rw [hop] at e
  simp only [Option.map_eq_some_iff] at e
  obtain ⟨r, hr, rfl⟩ := e
  exact hr
 | assign x =>
  rw [hop] at e
  simp only [Option.map_eq_some_iff] at e
  obtain ⟨r, hr, rfl⟩ := e
  exact hr
 | binOp op T x y U =>
  rw [hop] at e
  simp only [Option.map_eq_some_iff] at e
  obtain ⟨r, hr, rfl⟩ := e
  exact nilCmpS_ok hr hh
 | makeMap T r => cases r with
  | none =>
   rw [hop] at e
   simp only [Option.map_eq_some_iff] at e
   obtain ⟨r, hr, rfl⟩ := e
   exact hr
  | some _ => rw [hop] at e; cases e
 | lookup T x k ok =>
  rw [hop] at e
  simp only [Option.map_eq_some_iff] at e
  obtain ⟨r, hr, rfl⟩ := e
  simp only [hr, Option.map_some]
 | mapUpdate T m k x =>
  rw [hop] at e
  simp only [Option.map_eq_some_iff] at e
  obtain ⟨r, hr, rfl⟩ := e
  simp only [hr, Option.map_some]
 | insert T m k x =>
  rw [hop] at e
  simp only [Option.map_eq_some_iff] at e
  obtain ⟨r, hr, rfl⟩ := e
  simp only [hr, Option.map_some]
 | alloc T =>
  rw [hop] at e
  simp only [Option.map_eq_some_iff] at e
  obtain ⟨r, hr, rfl⟩ := e
  exact hr
 | store T x y =>
  rw [hop] at e
  simp only at e ⊢
  split at e
  ·rename_i hs
   simp only [Option.map_eq_some_iff] at e
   obtain ⟨r, hr, rfl⟩ := e
   rw [if_pos hs]; exact hr
  ·rename_i hs
   simp only [Option.map_eq_some_iff] at e
   obtain ⟨r, hr, rfl⟩ := e
   rw [if_neg hs]; exact storeFzS_ok hr hh
 | call c =>
  rw [hop] at e
  simp only at e ⊢
  cases hc : c.callee with
  | builtin b =>
   rw [hc] at e
   cases b with
   | clear =>
    simp only at e ⊢
    split at e
    ·rename_i x hx
     simp only [hx]
     simp only [Option.map_eq_some_iff] at e
     obtain ⟨r, hr, rfl⟩ := e
     exact clearMS_ok hr hh
    ·cases e
   | append =>
    simp only at e ⊢
    split at e
    ·rename_i x y hx
     simp only [hx]
     split at e
     ·rename_i hs
      rw [if_pos hs]
      split at e
      ·rename_i hs2
       simp only [Option.map_eq_some_iff] at e
       obtain ⟨r, hr, rfl⟩ := e
       rw [if_pos hs2]
       exact hr
      ·rename_i hs2
       simp only [Option.map_eq_some_iff] at e
       obtain ⟨r, hr, rfl⟩ := e
       rw [if_neg hs2]
       exact appMS_ok hr hh
     ·rename_i hs
      simp only [Option.map_eq_some_iff] at e
      obtain ⟨r, hr, rfl⟩ := e
      rw [if_neg hs]
      exact appRS_ok hr hh
    ·cases e
   | _ => cases e
  | _ => rw [hc] at e; cases e
 | _ => rw [hop] at e; cases e
def execS (O : Orc) (call : CallF) (draw : Bool) (f : FuncId) (rid i : Nat) (o : Oper) (g : Nat → AV) (h : Heap) (sc : List It) : Option Out :=
 if O.mrk f rid i then execMS O (O.take f rid i) o g h sc else execS0 O call draw f rid i o g h sc
theorem execS_ok {sc : List It} {q : Out} (e : execS O call draw f rid i o g h sc = some q) (hh : Holds q.2.1) : exec O call draw f rid i o g h = some q.1 := by
 unfold execS at e
 unfold exec
 split at e
 ·rename_i hm; rw [if_pos hm]; exact execMS_ok e hh
 ·rename_i hm; rw [if_neg hm]; exact execS0_ok e hh
end Go.Am
namespace Go.Am
variable {P : Program} {O : Orc} {call : CallF} {draw : Bool} {f : FuncId} {rid i j : Nat} {o : Oper} {r : Res} {ops : Array Oper} {g : Nat → AV} {h : Heap} {s : St}
end Go.Am
