/-
  The machine over typed data, part 2: what calls come to, read as typed data, holds of the model.
-/
import Derived.Test.YtpbabncglokikaaDoorAm1
import Derived.Orders
import Derived.Control
import Derived.Below
set_option linter.all false
/-
  Each operation is carried out as the machine says.
-/
namespace Go.Am
variable {P : Program} {O : Orc} {FB : Nat → Nat → Prop} {w : World} {s : St} {tm : Nat → Value} {ι : Key → Nat}

def tmOf (a : Act) : Nat → Value := fun t => a.tmps.getD t undef

theorem app_eq (s : St) (d : Option Nat) (r : Res) : s.app d r = ⟨(takeE s.env r.tk).set (d.getD s.env.length) r.a, r.h⟩ := by
  obtain ⟨ra, tk, rh⟩ := r
  have hn : ∀ l : List AV, l.length = s.env.length → l.set s.env.length ra = l := fun l h => List.set_eq_of_length_le (by omega)
  cases tk <;> cases d <;> simp [St.app, takeE, hn, St.get]
theorem put_eq (a : Act) (d : Option Nat) (v : Value) : tmOf (a.put d v) = setF (tmOf a) a.tmps.size (d.getD a.tmps.size) v := by
  funext i
  cases d with
  | none => simp [tmOf, Act.put, setF]
  | some d =>
    simp only [tmOf, Act.put, setF, Option.getD_some, Array.getD_eq_getD_getElem?, Array.getElem?_setIfInBounds]
    by_cases h : d = i
    · subst h
      by_cases h2 : d < a.tmps.size
      · simp [h2]
      · simp [h2]
    · have : ¬ (i = d ∧ d < a.tmps.size) := fun x => h x.1.symm
      simp [h, this]

/-- A stretch of a run: a step, what it may have changed, the objects that came in. -/
structure Goes (O : Orc) (FB : Nat → Nat → Prop) (w : World) (s : St) (tm : Nat → Value) (ι : Key → Nat) (w' : World) (s' : St) (tm' : Nat → Value) (ι' : Key → Nat) : Prop where
  stp : Stp O FB w s tm ι w' s' tm' ι'
  hist : Hist (ownP w s tm ι) w w'
  keys : ∀ k, k.1 = 0 → (look s'.heap k).map (·.d.t) = (look s.heap k).map (·.d.t) ∧ ι' k = ι k

theorem Goes.refl (h : Rel O FB w s tm ι) : Goes O FB w s tm ι w s tm ι := ⟨h.stp, Hist.refl _ _, fun _ _ => ⟨rfl, rfl⟩⟩
theorem Goes.trans {w1 w2 : World} {s1 s2 : St} {tm1 tm2 : Nat → Value} {ι1 ι2 : Key → Nat} (h : Rel O FB w s tm ι) (a : Goes O FB w s tm ι w1 s1 tm1 ι1) (b : Goes O FB w1 s1 tm1 ι1 w2 s2 tm2 ι2) : Goes O FB w s tm ι w2 s2 tm2 ι2 := by
  refine ⟨a.stp.trans b.stp, ?_, fun k hk => ⟨(b.keys k hk).1.trans (a.keys k hk).1, (b.keys k hk).2.trans (a.keys k hk).2⟩⟩
  have hs := a.stp.size
  refine ⟨b.hist.os.trans a.hist.os, b.hist.tape.trans a.hist.tape, b.hist.output.trans a.hist.output, Nat.le_trans a.hist.size b.hist.size, fun x hx hn => ?_, fun x lo hx hW o ho => ?_, fun x hx o => ?_⟩
  · refine (b.hist.block x (by omega) fun lo ⟨l, hl⟩ => ?_).trans (a.hist.block x hx hn)
    rcases a.stp.src l x lo hl with ⟨l0, lo0, e, _⟩ | e
    · exact hn lo0 ⟨l0, e⟩
    · omega
  · refine Eq.trans ?_ (a.hist.cell x lo hx hW o ho)
    by_cases hex : ∃ lo1, ownP w1 s1 tm1 ι1 x lo1
    · obtain ⟨lo1, l1, hl1⟩ := hex
      refine b.hist.cell x lo1 (by omega) ⟨l1, hl1⟩ o ?_
      rcases a.stp.src l1 x lo1 hl1 with ⟨l0, lo0, e, hle⟩ | e
      · obtain ⟨l2, e2⟩ := hW
        have := h.dj _ _ _ _ _ e e2
        subst this
        rw [e] at e2
        simp only [Option.some.injEq, Prod.mk.injEq, true_and] at e2
        omega
      · omega
    · have := b.hist.block x (by omega) fun lo1 hl => hex ⟨lo1, hl⟩
      unfold World.cell?; rw [this]
  · obtain ⟨e1, e2⟩ := a.hist.shape x hx o
    obtain ⟨e3, e4⟩ := b.hist.shape x (by omega) o
    exact ⟨e3.trans e1, e4.trans e2⟩

/-- What an operation leaves, for what comes next. -/
def Leaves (O : Orc) (FB : Nat → Nat → Prop) (w : World) (s : St) (ι : Key → Nat) (a : Act) (s' : St) (next : Act → World → Prop) : Prop :=
  ∀ (a' : Act) (w' : World) (ι' : Key → Nat), a'.defers = a.defers → a'.tmps.size = a.tmps.size → Goes O FB w s (tmOf a) ι w' s' (tmOf a') ι' → next a' w'

theorem slots_of {a : Act} (h : Rel O FB w s (tmOf a) ι) : Slots (rlOf w FB s (tmOf a) ι) O s.get a := ⟨fun t => h.vr t⟩

theorem put_size (a : Act) (d : Option Nat) (v : Value) : (a.put d v).tmps.size = a.tmps.size := by cases d <;> simp [Act.put]
theorem put_defers' (a : Act) (d : Option Nat) (v : Value) : (a.put d v).defers = a.defers := by cases d <;> rfl

/-- A value that does not change the world. -/
theorem leaves_value {a : Act} {o : Oper} {r : AV} {v : Value} {Q : Exit → Act → World → Prop} {next : Act → World → Prop} (h : Rel O FB w s (tmOf a) ι) (hl : s.env.length = a.tmps.size) (he : (execOp a.eval o).run P w = .ok (.value v) w)
    (hv : VR (rlOf w FB s (tmOf a) ι) O r v) (ho : ∀ own t x, r = .tv own t x → ∀ p ∈ own, regAt t (cellsF v) p = none) (hn : Leaves O FB w s ι a (s.app o.dst ⟨r, none, s.heap⟩) next) : o.wp P a w next Q := by
  unfold Oper.wp
  rw [he]
  refine hn _ _ ι (put_defers' _ _ _) (put_size _ _ _) ⟨?_, Hist.refl _ _, fun _ _ => ⟨by rw [app_eq], rfl⟩⟩
  rw [app_eq, put_eq, ← hl]
  exact h.set _ r v hv ho
theorem leaves_gives {a : Act} {o : Oper} {r : AV} {x : Sem Value} {Q : Exit → Act → World → Prop} {next : Act → World → Prop} (h : Rel O FB w s (tmOf a) ι) (hl : s.env.length = a.tmps.size) (he : execOp a.eval o = (do pure (.value (← x))))
    (hg : Gives P (rlOf w FB s (tmOf a) ι) O x w r) (hn : Leaves O FB w s ι a (s.app o.dst ⟨r, none, s.heap⟩) next) : o.wp P a w next Q := by
  obtain ⟨v, h1, h2, h3⟩ := hg
  exact leaves_value h hl (by rw [he]; simp only [Sem.run_bind, h1, Result.andThen_ok, Sem.run_pure]) h2 h3 hn

theorem ty_fine (hO : OrcOK P O) {T : TypeId} : ∀ t, O.ty T = some t → t.fine = true := fun t h => (hO.ty T t h).fine
theorem bind_fine (hO : OrcOK P O) {T : Option TypeId} : ∀ t, T.bind O.ty = some t → t.fine = true := fun t h => by
  cases T with
  | none => cases h
  | some T => exact (hO.ty T t h).fine

/-- What a taken operand is. -/
theorem takeV_spec {g : Nat → AV} {tk : Bool} {h : Option Ty} {x : Operand} : (∃ t, tk = true ∧ x = .tmp t ∧ takeV tk g h x = (g t, some t)) ∨ takeV tk g h x = (val g h x, none) := by
  cases tk with
  | false => exact .inr rfl
  | true => cases x with
    | tmp t => exact .inl ⟨t, rfl, rfl, rfl⟩
    | _ => exact .inr rfl
theorem val_own {R : Rl} {g : Nat → AV} {a : Act} (hs : Slots R O g a) {h : Option Ty} (hf : ∀ t, h = some t → t.fine = true) (x : Operand) : ∀ own t y, val g h x = .tv own t y → ∀ p ∈ own, regAt t (cellsF (a.eval x)) p = none := by
  intro own t y e p hp
  have hv := val_ok hs h hf x
  cases x with
  | tmp i =>
    simp only [val] at e
    have := AV.own_drop (g i)
    rw [e] at this
    simp only [AV.own] at this
    subst this; cases hp
  | const c =>
    simp only [val, cst] at e
    split at e
    · split at e
      · cases e
      · injection e with e1 _ _; subst e1; cases hp
    · injection e with e1 _ _; subst e1; cases hp
    · injection e with e1 _ _; subst e1; cases hp
    · injection e with e1 _ _; subst e1; cases hp
    · split at e
      · injection e with e1 e2 _
        subst e1; subst e2
        simp only [List.mem_singleton] at hp
        subst hp
        simp [Act.eval, regAt, pTy, pOff, cellsF, Value.cells]
      · cases e
    · cases e
  | global g' => simp [val] at e
  | func f => simp [val] at e
end Go.Am

/-
  Each operation is carried out as the machine says: those that give a value.
-/
namespace Go.Am
variable {P : Program} {O : Orc} {FB : Nat → Nat → Prop} {w : World} {s : St} {ι : Key → Nat} {call : CallF} {draw : Bool} {f : FuncId} {rid i : Nat} {o : Oper} {a : Act} {r : Res}
variable {Q : Exit → Act → World → Prop} {next : Act → World → Prop}

/-- What is to be shown of each kind of operation. -/
def OpOK (P : Program) (O : Orc) (call : CallF) (draw : Bool) (f : FuncId) (rid i : Nat) (o : Oper) : Prop :=
  ∀ {FB : Nat → Nat → Prop} {w : World} {s : St} {ι : Key → Nat} {a : Act} {r : Res} {Q : Exit → Act → World → Prop} {next : Act → World → Prop}, Rel O FB w s (tmOf a) ι → s.env.length = a.tmps.size → exec O call draw f rid i o s.get s.heap = some r →
    Leaves O FB w s ι a (s.app o.dst r) next → o.wp P a w next Q

/-- A value, and a step that puts it. -/
theorem leaves_stp {v : Value} {w' : World} {ι' : Key → Nat} (he : (execOp a.eval o).run P w = .ok (.value v) w') (hs : Stp O FB w s (tmOf a) ι w' ⟨(takeE s.env r.tk).set (o.dst.getD s.env.length) r.a, r.h⟩ (setF (tmOf a) s.env.length (o.dst.getD s.env.length) v) ι')
    (hl : s.env.length = a.tmps.size) (hh : Hist (ownP w s (tmOf a) ι) w w') (hk : ∀ k, k.1 = 0 → (look r.h k).map (·.d.t) = (look s.heap k).map (·.d.t) ∧ ι' k = ι k) (hn : Leaves O FB w s ι a (s.app o.dst r) next) : o.wp P a w next Q := by
  unfold Oper.wp
  rw [he]
  refine hn _ _ ι' (put_defers' _ _ _) (put_size _ _ _) ⟨?_, hh, fun k hk' => ?_⟩
  · rw [app_eq, put_eq, ← hl]; exact hs
  · rw [app_eq]; exact hk k hk'

theorem val0 {R : Rl} {g : Nat → AV} (hs : Slots R O g a) (x : Operand) : VR R O (val g none x) (a.eval x) := val_ok hs none (fun _ h => by cases h) x

theorem move_ok (hO : OrcOK P O) {x : Operand} (hop : o.op = .move x ∨ o.op = .assign x) : OpOK P O call draw f rid i o := by
  intro FB w s ι a r Q next h hl he hn
  have he' : some (⟨(takeV (O.take f rid i) s.get (O.ty o.type) x).1, (takeV (O.take f rid i) s.get (O.ty o.type) x).2, s.heap⟩ : Res) = some r := by
    rcases hop with hop | hop <;> simpa only [exec, hop] using he
  have hx : (execOp a.eval o).run P w = .ok (.value (a.eval x)) w := by rcases hop with hop | hop <;> simp [execOp, hop]
  rcases takeV_spec (g := s.get) (tk := O.take f rid i) (h := O.ty o.type) (x := x) with ⟨t, _, rfl, e⟩ | e
  · rw [e] at he'
    cases he'
    refine leaves_stp hx ?_ hl (Hist.refl _ _) (fun _ _ => ⟨rfl, rfl⟩) hn
    exact h.setTake t _ _ _ (h.vr t) fun own T y e => ⟨own, T, y, e, fun p hp => ⟨hp, rfl, h.rs t own T y e p hp⟩⟩
  · rw [e] at he'
    cases he'
    exact leaves_value h hl hx (val_ok (slots_of h) _ (ty_fine hO) x) (val_own (slots_of h) (ty_fine hO) x) hn

theorem pick_ok (hO : OrcOK P O) {c x y : Operand} (hop : o.op = .pick c x y) : OpOK P O call draw f rid i o := by
  intro FB w s ι a r Q next h hl he hn
  simp only [exec, hop] at he
  split at he
  · rename_i own b hc
    cases he
    have hv := val0 (slots_of h) c
    rw [hc] at hv
    simp only [VR] at hv
    have hb := hv.bool
    have hx : (execOp a.eval o).run P w = .ok (.value (if b then a.eval x else a.eval y)) w := by simp [execOp, hop, hb, asBool]
    cases b with
    | true => exact leaves_value h hl hx (val_ok (slots_of h) _ (ty_fine hO) x) (val_own (slots_of h) (ty_fine hO) x) hn
    | false => exact leaves_value h hl hx (val_ok (slots_of h) _ (ty_fine hO) y) (val_own (slots_of h) (ty_fine hO) y) hn
  · cases he

theorem build_exec (hO : OrcOK P O) {T : TypeId} {ps : Array (Nat × Operand)} (hop : o.op = .build T ps) : OpOK P O call draw f rid i o := by
  intro FB w s ι a r Q next h hl he hn
  simp only [exec, hop, Option.bind_eq_some_iff] at he
  obtain ⟨t, hT, he⟩ := he
  split at he
  · cases he
  · rename_i hag
    simp only [Option.map_eq_some_iff] at he
    obtain ⟨b, hb, rfl⟩ := he
    exact leaves_gives h hl (by simp only [execOp, hop]) (build_ok hO (slots_of h) hT (by simpa using hag) hb) hn

theorem nilCheck_ok {x : Operand} (hop : o.op = .nilCheck x) : OpOK P O call draw f rid i o := by
  intro FB w s ι a r Q next h hl he hn
  simp only [exec, hop] at he
  have hv := val0 (slots_of h) x
  have key : ∀ (b : AV) (ad : Addr), val s.get none x = b → a.eval x = .pointer (some ad) → some (⟨b, none, s.heap⟩ : Res) = some r → (∀ own t y, b ≠ .tv own t y) → o.wp P a w next Q := by
    intro b ad e1 e2 e3 hb
    cases e3
    have hx : (execOp a.eval o).run P w = .ok (.value (a.eval x)) w := by simp [execOp, hop, e2]
    exact leaves_value h hl hx (e1 ▸ hv) (fun own t y e => absurd e (hb own t y)) hn
  split at he
  · rename_i k p e
    rw [e] at hv
    simp only [VR] at hv
    obtain ⟨b, T, _, e2⟩ := hv
    exact key _ _ e e2 he nofun
  · rename_i t y e
    rw [e] at hv
    simp only [VR] at hv
    obtain ⟨_, b, o', us, e2, _⟩ := hv
    exact key _ _ e e2 he nofun
  · rename_i g p e
    rw [e] at hv
    simp only [VR] at hv
    exact key _ _ e hv he nofun
  · cases he

theorem binOp_ok (hO : OrcOK P O) {op : BinOp} {T U : TypeId} {x y : Operand} (hop : o.op = .binOp op T x y U) : OpOK P O call draw f rid i o := by
  intro FB w s ι a r Q next h hl he hn
  simp only [exec, hop, Option.map_eq_some_iff] at he
  obtain ⟨b, hb, rfl⟩ := he
  exact leaves_gives h hl (by simp only [execOp, hop]) (binV_ok hO (ox := x) (oy := y) (val_ok (slots_of h) _ (ty_fine hO) x) (val_ok (slots_of h) _ (ty_fine hO) y) hb) hn

theorem unOp_ok (hO : OrcOK P O) {op : UnOp} {T : TypeId} {x : Operand} (hop : o.op = .unOp op T x) : OpOK P O call draw f rid i o := by
  intro FB w s ι a r Q next h hl he hn
  simp only [exec, hop, Option.map_eq_some_iff] at he
  obtain ⟨b, hb, rfl⟩ := he
  exact leaves_gives h hl (by simp only [execOp, hop]) (unV_ok (val_ok (slots_of h) _ (ty_fine hO) x) hb) hn

theorem VRL_map {R : Rl} {g : Nat → AV} (hs : Slots R O g a) : ∀ l : List Operand, VRL R O (l.map (val g none)) (l.map a.eval)
  | [] => rfl
  | x :: l => by simp only [List.map_cons, VRL]; exact ⟨_, _, rfl, val0 hs x, VRL_map hs l⟩

theorem makeFunc_ok {q : FuncId} {first caps : Array Operand} (hop : o.op = .makeFunc (.func q) first caps) : OpOK P O call draw f rid i o := by
  intro FB w s ι a r Q next h hl he hn
  simp only [exec, hop] at he
  cases he
  have hx : (execOp a.eval o).run P w = .ok (.value (.func (.func q) (first.map a.eval) (caps.map a.eval))) w := by simp [execOp, hop, Instr.makeFunc]
  refine leaves_value h hl hx ?_ (fun _ _ _ e => by cases e) hn
  simp only [VR]
  refine ⟨_, _, rfl, ?_, ?_⟩
  · rw [Array.toList_map]; exact VRL_map (slots_of h) _
  · rw [Array.toList_map]; exact VRL_map (slots_of h) _

theorem fieldAddr_ok (hO : OrcOK P O) {T : TypeId} {x : Operand} {k : Nat} (hop : o.op = .fieldAddr T x k) : OpOK P O call draw f rid i o := by
  intro FB w s ι a r Q next h hl he hn
  simp only [exec, hop] at he
  split at he
  · rename_i hc
    simp only [Bool.and_eq_true] at hc
    simp only [Option.map_eq_some_iff] at he
    obtain ⟨b, hb, rfl⟩ := he
    exact leaves_gives h hl (by simp only [execOp, hop]) (fieldA_ok hO (R := rlOf w FB s (tmOf a) ι) rfl (val0 (slots_of h) x) hc.1 hb fun t ht => by have := hc.2; rw [ht] at this; exact this) hn
  · cases he

theorem field_exec (hO : OrcOK P O) {T : TypeId} {x : Operand} {k : Nat} (hop : o.op = .field T x k) : OpOK P O call draw f rid i o := by
  intro FB w s ι a r Q next h hl he hn
  simp only [exec, hop] at he
  split at he
  · rename_i own t y e
    split at he
    · rename_i hT
      simp only [Option.map_eq_some_iff] at he
      obtain ⟨b, hb, rfl⟩ := he
      have hv := val0 (slots_of h) x
      rw [e] at hv
      simp only [VR] at hv
      exact leaves_gives h hl (by simp only [execOp, hop]) (field_ok hO hT hv hb) hn
    · cases he
  · cases he

theorem index_exec (hO : OrcOK P O) {T : TypeId} {x k : Operand} (hop : o.op = .index T x k) : OpOK P O call draw f rid i o := by
  intro FB w s ι a r Q next h hl he hn
  simp only [exec, hop] at he
  split at he
  · rename_i own t y e
    split at he
    · rename_i hT
      simp only [Option.map_eq_some_iff] at he
      obtain ⟨b, hb, rfl⟩ := he
      have hv := val_ok (slots_of h) (O.ty T) (ty_fine hO) x
      rw [e] at hv
      simp only [VR] at hv
      exact leaves_gives h hl (by simp only [execOp, hop]) (index_ok hO hT hv (val0 (slots_of h) k) hb) hn
    · cases he
  · cases he

theorem indexAddr_exec (hO : OrcOK P O) {T : TypeId} {x k : Operand} (hop : o.op = .indexAddr T x k) : OpOK P O call draw f rid i o := by
  intro FB w s ι a r Q next h hl he hn
  simp only [exec, hop] at he
  split at he
  · rename_i n t hT
    split at he
    · rename_i hp
      simp only [Option.map_eq_some_iff] at he
      obtain ⟨b, hb, rfl⟩ := he
      exact leaves_gives h hl (by simp only [execOp, hop]) (indexA_ok hO (R := rlOf w FB s (tmOf a) ι) rfl (val0 (slots_of h) x) (val0 (slots_of h) k) (fun _ _ _ => hp) (by rw [hT]; exact hb)) hn
    · cases he
  · rename_i u hu
    simp only [Option.map_eq_some_iff] at he
    obtain ⟨b, hb, rfl⟩ := he
    exact leaves_gives h hl (by simp only [execOp, hop]) (indexA_ok hO (R := rlOf w FB s (tmOf a) ι) rfl (val_ok (slots_of h) _ (ty_fine hO) x) (val0 (slots_of h) k) (fun n t hT => absurd hT (hu n t)) hb) hn

theorem extract_exec {x : Operand} {k : Nat} (hop : o.op = .extract x k) : OpOK P O call draw f rid i o := by
  intro FB w s ι a r Q next h hl he hn
  simp only [exec, hop] at he
  split at he
  · rename_i l e
    simp only [Option.map_eq_some_iff] at he
    obtain ⟨b, hb, rfl⟩ := he
    have hv := val0 (slots_of h) x
    exact leaves_gives h hl (by simp only [execOp, hop]) (extract_ok (val0 (slots_of h) x) e hb) hn
  · cases he
end Go.Am

/-
  Each operation is carried out as the machine says: those that read and write memory.
-/
namespace Go.Am
variable {P : Program} {O : Orc} {FB : Nat → Nat → Prop} {w : World} {s : St} {ι : Key → Nat} {call : CallF} {draw : Bool} {f : FuncId} {rid i : Nat} {o : Oper} {a : Act} {r : Res}
variable {Q : Exit → Act → World → Prop} {next : Act → World → Prop}

theorem VT.of_dat {R : Rl} {b : AV} {d : Dat} {v : Value} (h : VR R O b v) (hd : b.dat = some d) : VT R d.t d.x v := by
  unfold AV.dat at hd
  split at hd
  · cases hd; simpa only [VR] using h
  · cases hd
    simp only [VR] at h
    obtain ⟨b, T, h3, rfl⟩ := h
    have z : pOff T [] = 0 := by cases T <;> rfl
    rw [z]
    exact ⟨rfl, nofun, fun _ => rfl, rfl, b, T, h3, rfl⟩
  · cases hd

/-- A new object, and a pointer to it. -/
theorem leaves_alloc {v : Value} {ob : Ob} {d : Nat} {T : TypeId} (h : Rel O FB w s (tmOf a) ι) (hl : s.env.length = a.tmps.size) (hd : o.dst = some d) (he : (execOp a.eval o).run P w = .ok (.value (.pointer (some ⟨w.heap.size, 0, none⟩))) (w.alloc (.cells v.cells T (0, 0))))
    (hk : look s.heap (d + 1, 0) = none) (hv : VT (rlOf w FB s (tmOf a) ι) ob.d.t ob.d.x v) (hown : ∀ p ∈ ob.own, regAt ob.d.t (cellsF v) p = none)
    (hn : Leaves O FB w s ι a (s.app o.dst ⟨.op (d + 1, 0) [], none, ((d + 1, 0), ob) :: s.heap⟩) next) : o.wp P a w next Q := by
  have h1 := h.object T hk hv hown
  have h2 := h1.rel.set d (.op (d + 1, 0) []) (.pointer (some ⟨w.heap.size, 0, none⟩)) (by
    simp only [VR]
    refine ⟨w.heap.size, ob.d.t, ?_, ?_⟩
    · show ktOf (((d + 1, 0), ob) :: s.heap) (fun q => if q = (d + 1, 0) then w.heap.size else ι q) (d + 1, 0) = _
      unfold ktOf
      rw [look_cons, if_pos rfl]
      simp
    · have z : ∀ T, pOff T [] = 0 := fun T => by cases T <;> rfl
      rw [z]) nofun
  refine leaves_stp (r := ⟨.op (d + 1, 0) [], none, ((d + 1, 0), ob) :: s.heap⟩) (ι' := fun q => if q = (d + 1, 0) then w.heap.size else ι q) he (h1.trans ?_) hl (hist_alloc _ ⟨rfl, rfl, rfl, rfl⟩ _) (fun k hk' => ?_) hn
  · rw [hd]; exact h2
  · have hne : k ≠ (d + 1, 0) := fun e => by rw [e] at hk'; simp at hk'
    refine ⟨?_, ?_⟩
    · show (look (((d + 1, 0), ob) :: s.heap) k).map _ = _
      rw [look_cons, if_neg hne]
    · simp only [if_neg hne]

theorem allocA_some {h : Heap} {d : Option Nat} {ob : Ob} (e : allocA h d ob = some r) : ∃ d', d = some d' ∧ look h (d' + 1, 0) = none ∧ r = ⟨.op (d' + 1, 0) [], none, ((d' + 1, 0), ob) :: h⟩ := by
  unfold allocA at e
  split at e
  · rename_i d'
    split at e
    · rename_i hc
      simp only [Bool.and_eq_true, Option.isNone_iff_eq_none] at hc
      cases e
      exact ⟨d', rfl, hc.1, rfl⟩
    · cases e
  · cases e

theorem alloc_ok (hO : OrcOK P O) {T : TypeId} (hop : o.op = .alloc T) : OpOK P O call draw f rid i o := by
  intro FB w s ι a r Q next h hl he hn
  simp only [exec, hop, Option.bind_eq_some_iff] at he
  obtain ⟨t, hT, he⟩ := he
  obtain ⟨d, hd, hk, rfl⟩ := allocA_some he
  refine leaves_alloc (v := zeroVal t) (ob := ⟨⟨t, Am.zero t⟩, slPaths t⟩) (T := T) h hl hd ?_ hk (VT.zero _ (hO.ty T t hT).fine) (fun p _ => regAt_zero t p _ fun j => ?_) hn
  · simp only [execOp, hop, Instr.alloc, Sem.run_bind, (hO.ty T t hT).zeroValue, Result.andThen_ok]
    rfl
  · simp [cellsF, zeroVal_cells, List.getD_eq_getElem?_getD]

theorem box_ok (hO : OrcOK P O) {T : TypeId} {x : Operand} (hop : o.op = .box T x) : OpOK P O call draw f rid i o := by
  intro FB w s ι a r Q next h hl he hn
  simp only [exec, hop, Option.bind_eq_some_iff] at he
  obtain ⟨d, hd, he⟩ := he
  split at he
  · obtain ⟨d', hd', hk, rfl⟩ := allocA_some he
    refine leaves_alloc (v := a.eval x) (ob := ⟨d, []⟩) (T := T) h hl hd' ?_ hk (VT.of_dat (val_ok (slots_of h) _ (ty_fine hO) x) hd) nofun hn
    simp only [execOp, hop, Instr.box]
    rfl
  · cases he

theorem buildSlice_ok (hO : OrcOK P O) {T : TypeId} {n : Nat} {ps : Array (Nat × Operand)} (hop : o.op = .buildSlice T n ps) : OpOK P O call draw f rid i o := by
  intro FB w s ι a r Q next h hl he hn
  simp only [exec, hop] at he
  split at he
  · rename_i t hT
    split at he
    · rename_i hsz
      simp only [Option.map_eq_some_iff] at he
      obtain ⟨l, hb, rfl⟩ := he
      obtain ⟨ob, v, h1, h2, h3⟩ := buildSl_ok hO h (slots_of h) hT hsz hb
      have s1 := h.alloc ob
      have s2 := s1.rel.set (o.dst.getD s.env.length) (.tv [[]] (.slice t) l) v (by simp only [VR]; exact h2) (fun own u x e p hp => by
        injection e with e1 e2 _
        subst e1; subst e2
        simp only [List.mem_singleton] at hp
        subst hp; exact h3)
      exact leaves_stp (by simp only [execOp, hop, Sem.run_bind, h1, Result.andThen_ok, Sem.run_pure]) (s1.trans s2) hl (hist_alloc _ ⟨rfl, rfl, rfl, rfl⟩ _) (fun _ _ => ⟨rfl, rfl⟩) hn
    · cases he
  · cases he

theorem bnds_ok {R : Rl} {g : Nat → AV} (hs : Slots R O g a) (lo : Option Operand) : (∀ b, lo.map (val g none) = some b → ∃ v, lo.map a.eval = some v ∧ VR R O b v) ∧ (lo.map (val g none) = none → lo.map a.eval = none) := by
  cases lo with
  | none => exact ⟨nofun, fun _ => rfl⟩
  | some x => exact ⟨fun b e => by cases e; exact ⟨_, rfl, val0 hs x⟩, nofun⟩

theorem convert_exec (hO : OrcOK P O) {T U : TypeId} {x : Operand} (hop : o.op = .convert T U x) : OpOK P O call draw f rid i o := by
  intro FB w s ι a r Q next h hl he hn
  simp only [exec, hop, Option.map_eq_some_iff] at he
  obtain ⟨b, hb, rfl⟩ := he
  have hv := val_ok (slots_of h) (O.ty T) (ty_fine hO) x
  have hx : execOp a.eval o = (do pure (.value (← convert T U (a.eval x)))) := by simp only [execOp, hop]
  unfold convV at hb
  split at hb
  · rename_i k k' own k2 n hT hU e
    rw [e] at hv
    exact leaves_gives h hl hx (convInt_ok hO hT hU hv hb) hn
  · rename_i own l hT hU e
    cases hb
    rw [e] at hv
    simp only [VR] at hv
    exact leaves_gives h hl hx (convBS_ok hO (R := rlOf w FB s (tmOf a) ι) rfl hT hU hv) hn
  · rename_i own l hT hU e
    cases hb
    rw [e] at hv
    simp only [VR] at hv
    obtain ⟨w', v', c1, c2, c3⟩ := convSB_ok hO h (o.dst.getD s.env.length) hT hU hv
    exact leaves_stp (by rw [hx]; simp only [Sem.run_bind, c1, Result.andThen_ok, Sem.run_pure]) c2 hl c3 (fun _ _ => ⟨rfl, rfl⟩) hn
  · rename_i own l hT hU e
    cases hb
    rw [e] at hv
    obtain ⟨d1, e1, f1⟩ := (hO.ty _ _ hT).und
    obtain ⟨d2, e2, f2⟩ := (hO.ty _ _ hU).und
    simp only [UndOK] at f1 f2
    subst f1; subst f2
    exact leaves_gives h hl hx (convSS_ok e1 e2 rfl hv) hn
  · cases hb

theorem load_exec (hO : OrcOK P O) {T : TypeId} {x : Operand} (hop : o.op = .load T x) : OpOK P O call draw f rid i o := by
  intro FB w s ι a r Q next h hl he hn
  simp only [exec, hop, loadA, Option.bind_eq_some_iff] at he
  obtain ⟨d, hd, he⟩ := he
  have hv := val0 (slots_of h) x
  have hx : execOp a.eval o = (do pure (.value (← Instr.loadAt T (a.eval x)))) := by simp only [execOp, hop]
  split at he
  · rename_i hT
    split at he
    · split at he
      · rename_i k p e
        simp only [Option.bind_eq_some_iff, Option.some.injEq] at he
        obtain ⟨b, hb, rfl⟩ := he
        rw [e] at hv hd
        simp only [VR] at hv
        simp only [loadV, Option.bind_eq_some_iff] at hd
        obtain ⟨b', hb', hp⟩ := hd
        rw [hb] at hb'
        cases hb'
        obtain ⟨bl, T', hkt, hpv⟩ := hv
        have hkt' : some (ι k, b.d.t) = some (bl, T') := by
          have : ktOf s.heap ι k = some (bl, T') := hkt
          unfold ktOf at this
          rw [hb] at this; exact this
        cases hkt'
        obtain ⟨hf, arr, T0, hblk, hsz, hrv⟩ := h.ob k b hb
        obtain ⟨p1, p2, p3⟩ := RV.prj _ _ _ _ _ hrv hp
        have hc : ∀ j, j < d.t.size → w.cell? ⟨ι k, pOff b.d.t p + j, none⟩ = some (arr.getD (pOff b.d.t p + j) undef) := by
          intro j hj
          rw [cell_block hblk]
          have : pOff b.d.t p + j < arr.size := by omega
          simp [Array.getElem?_eq_getElem this, Array.getD_eq_getD_getElem?]
        have hrun := run_loadVar (hO.ty T _ hT) hc size0_agg
        have hVT := VT.of_cells (pTy_fine _ _ _ hf p1) p2
        have st := h.loadTake (o.dst.getD s.env.length) hb p1 hVT (fun j hj => by
          have hbf : blockF w (ι k) (pOff b.d.t p + j) = arr.getD (pOff b.d.t p + j) undef := by unfold blockF; rw [hblk]
          rw [hbf]
          by_cases ha : d.t.agg = true
          · simp [ha, cellsF, Value.cells, Array.getD_eq_getD_getElem?, hj]
          · have hs1 := agg_size (by simpa using ha : d.t.agg = false)
            have : j = 0 := by omega
            subst this
            simp only [ha]
            have := hVT.one (by simpa using ha)
            simp only [ha] at this
            unfold cellsF
            simp only [Bool.false_eq_true, if_false] at this ⊢
            rw [this]
            rfl)
        refine leaves_stp (r := ⟨d.av (below p b.own), none, over s.heap k ⟨b.d, strip p b.own⟩⟩) ?_ st hl (Hist.refl _ _) (fun q _ => ⟨?_, rfl⟩) hn
        · rw [hx, hpv]
          simp only [Instr.loadAt, Instr.sureAddr, Sem.run_bind, Sem.run_pure, Result.andThen_ok, hrun]
        · show (look (over s.heap k _) q).map _ = _
          rw [look_over]
          split
          · rename_i e; rw [e, hb]; rfl
          · rfl
      · cases he
    · cases he
      obtain ⟨v, h1, h2⟩ := load_ok hO h hv hd hT
      exact leaves_gives h hl hx (Gives.dat h1 h2) hn
  · cases he

theorem store_exec (hO : OrcOK P O) {T : TypeId} {x y : Operand} (hop : o.op = .store T x y) : OpOK P O call draw f rid i o := by
  intro FB w s ι a r Q next h hl he hn
  simp only [exec, hop, Option.bind_eq_some_iff] at he
  obtain ⟨d, hd, he⟩ := he
  split at he
  · rename_i hT
    simp only [Option.map_eq_some_iff] at he
    obtain ⟨h', hs, rfl⟩ := he
    have hv := val0 (slots_of h) x
    unfold storeV at hs
    split at hs
    · rename_i k p e
      rw [e] at hv
      simp only [VR] at hv
      simp only [Option.bind_eq_some_iff, Option.map_eq_some_iff] at hs
      obtain ⟨b, hb, y', hu, rfl⟩ := hs
      obtain ⟨bl, T', hkt, hpv⟩ := hv
      have hkt' : some (ι k, b.d.t) = some (bl, T') := by
        have : ktOf s.heap ι k = some (bl, T') := hkt
        unfold ktOf at this
        rw [hb] at this; exact this
      cases hkt'
      obtain ⟨hf, arr, T0, hblk, hsz, hrv⟩ := h.ob k b hb
      have hq : ∃ src, (takeV (O.take f rid i) s.get (O.ty T) y).2 = src ∧ VR (rlOf w FB s (tmOf a) ι) O (takeV (O.take f rid i) s.get (O.ty T) y).1 (a.eval y) ∧
          ∀ q ∈ (takeV (O.take f rid i) s.get (O.ty T) y).1.own, RoomAt w d.t (cellsF (a.eval y)) q ∧ (regAt d.t (cellsF (a.eval y)) q = none ∨ ∃ t, src = some t ∧ owns w s (tmOf a) ι (.sl t q) = regAt d.t (cellsF (a.eval y)) q) := by
        rcases takeV_spec (g := s.get) (tk := O.take f rid i) (h := O.ty T) (x := y) with ⟨t, _, rfl, e2⟩ | e2
        · rw [e2] at hd ⊢
          refine ⟨_, rfl, h.vr t, fun q hq => ?_⟩
          cases hg : s.get t with
          | tv own u z =>
            rw [hg] at hd hq
            simp only [AV.dat, Option.some.injEq] at hd
            subst hd
            simp only [AV.own] at hq
            refine ⟨h.rs t own u z hg q hq, .inr ⟨t, rfl, ?_⟩⟩
            simp only [owns, hg, if_pos hq]
            rfl
          | _ => rw [hg] at hq; simp [AV.own] at hq
        · rw [e2] at hd ⊢
          refine ⟨_, rfl, val_ok (slots_of h) _ (ty_fine hO) y, fun q hq => ?_⟩
          cases hg : val s.get (O.ty T) y with
          | tv own u z =>
            rw [hg] at hd hq
            simp only [AV.dat, Option.some.injEq] at hd
            subst hd
            simp only [AV.own] at hq
            have := val_own (slots_of h) (ty_fine hO) y own u z hg q hq
            exact ⟨room_none this, .inl this⟩
          | _ => rw [hg] at hq; simp [AV.own] at hq
      obtain ⟨src, q1, q2, q3⟩ := hq
      have hVT := VT.of_dat q2 hd
      obtain ⟨u1, u2, u3⟩ := RV.upd _ _ _ _ (cellsF (a.eval y)) _ _ hrv hVT.rv hu
      have hsz2 := hVT.size
      have hone : ∀ v ∈ (a.eval y).cells.toList, v.oneCell' = true := by
        intro v hv
        obtain ⟨j, hj, rfl⟩ := List.mem_iff_getElem.1 hv
        have hj' : j < d.t.size := by rw [← hsz2]; simpa using hj
        have := RV.one d.t d.x _ hVT.rv j hj'
        unfold cellsF at this
        have hj2 : j < (a.eval y).cells.size := by rw [hsz2]; exact hj'
        simp only [Array.getD_eq_getD_getElem?, Array.getElem?_eq_getElem hj2, Option.getD_some] at this
        simpa using this
      have hlen : (a.eval y).cells.toList.length = d.t.size := by simpa using hsz2
      obtain ⟨w', r1, r2⟩ := run_storeCells (P := P) (o := pOff b.d.t p) (a.eval y).cells.toList 0 w arr hblk hone (fun j hj => ⟨by omega, frozen_new hblk _⟩)
      have st := h.store (own := (takeV (O.take f rid i) s.get (O.ty T) y).1.own) hb hVT hu q3 hblk (by simpa using r2)
      have hrun : (execOp a.eval o).run P w = .ok .skip w' := by
        have hszr := (hO.ty T _ hT).sizeOf w
        simp only [execOp, hop, Instr.storeAt, hpv, Instr.sureAddr, storeVar, Sem.run_bind, Sem.run_pure, Result.andThen_ok, hszr, Sem.run_ite, hsz2]
        simp [r1]
      have hl1 : (takeE s.env src).length = s.env.length := by cases src <;> simp [takeE]
      have s2 := st.rel.set (o.dst.getD s.env.length) .no undef rfl nofun
      simp only [hl1] at s2
      unfold Oper.wp
      rw [hrun]
      refine hn _ _ ι (put_defers' _ _ _) (put_size _ _ _) ⟨?_, ?_, fun q _ => ⟨?_, rfl⟩⟩
      · rw [app_eq, put_eq, ← hl, q1]; exact st.trans s2
      · exact hist_stored r2 hblk ⟨0, ⟨.ob k, by simp [owns, hb]⟩, by omega⟩ (fun lo ⟨l, hl'⟩ => by
          have := h.dj l (.ob k) (ι k) lo 0 hl' (by simp [owns, hb])
          subst this
          simp [owns, hb] at hl'
          omega)
      · rw [app_eq]
        show (look (over s.heap k _) q).map _ = _
        rw [look_over]
        split
        · rename_i e; rw [e, hb]; rfl
        · rfl
    · cases hs
  · cases he
end Go.Am

/-
  Each operation is carried out as the machine says: parts of slices, builtins.
-/
namespace Go.Am
variable {P : Program} {O : Orc} {FB : Nat → Nat → Prop} {w : World} {s : St} {ι : Key → Nat} {call : CallF} {draw : Bool} {f : FuncId} {rid i : Nat} {o : Oper} {a : Act} {r : Res}
variable {Q : Exit → Act → World → Prop} {next : Act → World → Prop}

theorem slice_exec (hO : OrcOK P O) {T : TypeId} {x : Operand} {lo hi mx : Option Operand} (hop : o.op = .slice T x lo hi mx) : OpOK P O call draw f rid i o := by
  intro FB w s ι a r Q next h hl he hn
  simp only [exec, hop, sliceA] at he
  have hx : execOp a.eval o = (do pure (.value (← Instr.sliceAt T (a.eval x) (lo.map a.eval) (hi.map a.eval) (mx.map a.eval)))) := by simp only [execOp, hop]
  obtain ⟨l1, l2⟩ := bnds_ok (slots_of h) lo
  obtain ⟨i1, i2⟩ := bnds_ok (slots_of h) hi
  cases mx with
  | none =>
    simp only at he
    split at he
    · rename_i n t hT
      split at he
      · rename_i q p e
        split at he
        · rename_i hc
          simp only [Bool.and_eq_true, Option.isNone_iff_eq_none] at hc
          obtain ⟨⟨rfl, rfl⟩, hp⟩ := hc
          simp only [Option.bind_eq_some_iff] at he
          obtain ⟨d, hd, he⟩ := he
          split at he
          · rename_i n' t' l
            split at he
            · rename_i ht
              subst ht
              split at he
              · rename_i hn'
                subst hn'
                cases he
                have hv := val0 (slots_of h) x
                rw [e] at hv
                simp only [VR] at hv
                obtain ⟨D, hgl, hd⟩ := Option.bind_eq_some_iff.1 hd
                obtain ⟨g1, g2, us, g3, g4⟩ := h.gl q D hgl
                obtain ⟨p1, p2, p3⟩ := RV.prj _ _ _ _ _ g4 hd
                simp only [hgl, Option.map_some, Option.getD_some] at hv
                obtain ⟨D', hD, e', rfl, he', hz, hn1⟩ := (hO.ty T _ hT).und
                simp only [RV] at p2
                obtain ⟨p4, p5⟩ := p2
                have hfine : (Ty.slice t').fine = true := by
                  have hnr := pTy_noRef _ _ _ g1 p1
                  have hfi := pTy_fine _ _ _ g2 p1
                  simp only [Ty.noRef, Ty.fine] at hnr hfi ⊢
                  simp [hnr, hfi]
                refine leaves_value (v := .slice (some ⟨q, pOff D.t p, none⟩) n' n') h hl ?_ ?_ (fun own u y e p hp => by injection e with e1 _ _; subst e1; cases hp) hn
                · rw [hx]
                  simp only [Option.map_none, hv, Instr.sliceAt, Sem.run_bind, run_und hD, Result.andThen_ok, Instr.sureAddr, Sem.run_pure, (hO.ty _ _ he').sizeOf]
                  have := run_bounds (P := P) (w := w) (isSlice := false) (len := n') (cap := n') (lo := none) (hi := none) (a := 0) (c := n') (.inr ⟨rfl, rfl⟩) (.inr ⟨rfl, rfl⟩) (by omega) (by omega) (by omega)
                  simp only [this, Result.andThen_ok, Sem.run_pure]
                  simp [add_plain]
                · simp only [VR]
                  have hag : (Ty.slice t').agg = false := rfl
                  refine ⟨hfine, nofun, fun _ => rfl, rfl, ?_⟩
                  simp only [RV]
                  refine ⟨some ⟨q, pOff D.t p, none⟩, n', q, pOff D.t p, fun i j => us (pOff D.t p + (i * t'.size + j)), ?_, by omega, nofun, fun _ => rfl, fun i hi j hj => ?_, fun i hi => ?_⟩
                  · rw [cellsF_one (by simp), p4]
                  · have hi' : i < n' := by rw [← p4]; exact hi
                    have hle : i * t'.size + t'.size ≤ n' * t'.size := by
                      have := Nat.mul_le_mul_right t'.size (show i + 1 ≤ n' by omega)
                      rw [Nat.add_mul] at this; omega
                    have hsz : pOff D.t p + n' * t'.size ≤ D.t.size := p3
                    have := g3 (pOff D.t p + (i * t'.size + j)) (by omega)
                    rw [show 0 + (pOff D.t p + (i * t'.size + j)) = pOff D.t p + i * t'.size + j by omega] at this
                    exact this
                  · exact p5 i (by rw [← p4]; exact hi)
              · cases he
            · cases he
          · cases he
        · cases he
      · cases he
    · rename_i u hu
      simp only [Option.map_eq_some_iff] at he
      obtain ⟨b, hb, rfl⟩ := he
      rcases takeV_spec (g := s.get) (tk := O.take f rid i) (h := O.ty T) (x := x) with ⟨t, htk, rfl, e⟩ | e
      · rw [e] at hb hn
        obtain ⟨⟨v, c1, c2, c3⟩, c4⟩ := sliceV_ok hO (w := w) (h.vr t) l1 l2 i1 i2 hb
        refine leaves_stp (v := v) (r := ⟨b, some t, s.heap⟩) ?_ ?_ hl (Hist.refl _ _) (fun _ _ => ⟨rfl, rfl⟩) hn
        · rw [hx]
          have c1' : (Instr.sliceAt T (a.eval (.tmp t)) (lo.map a.eval) (hi.map a.eval) none).run P w = .ok v w := c1
          simp only [Option.map_none, Sem.run_bind, c1', Result.andThen_ok, Sem.run_pure]
        · refine h.setTake t _ _ _ c2 fun own T' y e2 => ?_
          rcases c4 own T' y e2 with ⟨rfl, rfl⟩ | ⟨u', rfl, rfl, own0, l0, e3⟩
          · cases hg : s.get t with
            | tv own0 t0 x0 => exact ⟨own0, t0, x0, rfl, nofun⟩
            | _ =>
              rw [hg] at hb
              simp [sliceV] at hb
          · refine ⟨own0, _, l0, e3, fun p hp => ?_⟩
            simp only [htk, Bool.true_and] at hp
            split at hp
            · rename_i hno
              rw [e3] at hp
              simp only [AV.own] at hp
              obtain ⟨k1, k2⟩ := c3 (by simpa using hno) _ _ _ e2
              have hroom := h.rs t own0 _ l0 e3 p hp
              cases p with
              | nil => exact ⟨hp, k1, k2 hroom⟩
              | cons z zs => exact ⟨hp, by simp [regAt, pTy], by simp [RoomAt, pTy]⟩
            · cases hp
      · rw [e] at hb hn
        obtain ⟨⟨v, c1, c2, c3⟩, c4⟩ := sliceV_ok hO (w := w) (val_ok (slots_of h) _ (ty_fine hO) x) l1 l2 i1 i2 hb
        refine leaves_value (v := v) h hl ?_ c2 (fun own T' y e2 p hp => ?_) hn
        · rw [hx]
          simp only [Option.map_none, Sem.run_bind, c1, Result.andThen_ok, Sem.run_pure]
        · rcases c4 own T' y e2 with ⟨rfl, rfl⟩ | ⟨u', rfl, rfl, own0, l0, e3⟩
          · cases hp
          · split at hp
            · rename_i hno
              simp only [Bool.and_eq_true] at hno
              rw [e3] at hp
              simp only [AV.own] at hp
              have := val_own (slots_of h) (ty_fine hO) x own0 _ l0 e3 p hp
              cases p with
              | nil => exact (c3 (by simpa using hno.2) _ _ _ e2).1.trans this
              | cons z zs => simp [regAt, pTy]
            · cases hp
  | some m =>
    cases hi with
    | none => cases he
    | some hv =>
      simp only at he
      split at he
      · rename_i hc
        simp only [Bool.and_eq_true, decide_eq_true_eq] at hc
        split at he
        · rename_i t hT
          simp only [Option.map_eq_some_iff] at he
          obtain ⟨b, hb, rfl⟩ := he
          exact leaves_gives h hl hx (slice3_ok hO hT (val_ok (slots_of h) _ (fun u e => by cases e; exact (hO.ty T _ hT).fine) x) l1 l2 (val0 (slots_of h) hv) (val0 (slots_of h) m) hc.1 hc.2 hb) hn
        · cases he
      · cases he

theorem ofValue_builtin {b : Builtin} {c : Call} (hop : o.op = .call c) (hc : c.callee = .builtin b) :
    execOp a.eval o = builtin b c.argTypes o.type (c.args.map fun | .const _ => true | _ => false) (c.args.map a.eval) := by
  simp only [execOp, hop, resolve, hc]
  rfl

theorem len_ts {ts : Array TypeId} {T ty : TypeId} {as : Array Value} (h : ts[0]? = some T) : Builtin.len_ ts ty as = Builtin.len_ #[T] ty as := by
  simp [Builtin.len_, h]
theorem append_ts {ts : Array TypeId} {T U ty : TypeId} {as : Array Value} (h : ts[0]? = some T) (h2 : ts[1]? = some U) : Builtin.append_ ts ty as = Builtin.append_ #[T, U] ty as := by
  simp [Builtin.append_, h, h2]

theorem args1 {c : Call} {x : Operand} (h : c.args.toList = [x]) : c.args.map a.eval = #[a.eval x] := by
  have : c.args = #[x] := by
    apply Array.toList_inj.1; exact h
  rw [this]; simp
theorem args2 {c : Call} {x y : Operand} (h : c.args.toList = [x, y]) : c.args.map a.eval = #[a.eval x, a.eval y] := by
  have : c.args = #[x, y] := by
    apply Array.toList_inj.1; exact h
  rw [this]; simp

theorem row_one {R : Rl} {t : Ty} {m : List (den t)} (hs : t.size ≠ 0) : ∀ nc, RowOf R t m nc → ∀ v ∈ nc.toList, v.oneCell' = true := by
  intro nc ⟨h1, h2⟩ v hv
  obtain ⟨j, hj, rfl⟩ := List.mem_iff_getElem.1 hv
  have hj' : j < m.length * t.size := by rw [← h1]; simpa using hj
  have hpos : 0 < t.size := by omega
  have hdiv : j / t.size < m.length := (Nat.div_lt_iff_lt_mul hpos).2 hj'
  have := RV.one t _ _ (h2 (j / t.size) hdiv) (j % t.size) (Nat.mod_lt _ hpos)
  simp only [Nat.div_add_mod' j t.size] at this
  have hj2 : j < nc.size := by simpa using hj
  simp only [Array.getD_eq_getD_getElem?, Array.getElem?_eq_getElem hj2, Option.getD_some] at this
  simpa using this

theorem append_exec (hO : OrcOK P O) {c : Call} {x y : Operand} (hop : o.op = .call c) (hc : c.callee = .builtin .append) (hxy : c.args.toList = [x, y]) : OpOK P O call draw f rid i o := by
  intro FB w s ι a r Q next h hl he hn
  simp only [exec, hop, callO, hc, hxy, Option.map_eq_some_iff] at he
  obtain ⟨b, hb, rfl⟩ := he
  have hx : execOp a.eval o = (do pure (.value (← Builtin.append_ c.argTypes o.type #[a.eval x, a.eval y]))) := by rw [ofValue_builtin hop hc, args2 hxy]; rfl
  have hvy := val_ok (slots_of h) (c.argTypes[1]?.bind O.ty) (bind_fine hO) y
  generalize val s.get (c.argTypes[1]?.bind O.ty) y = ay at hb hvy
  have hq : ∀ own t l, (takeV (O.take f rid i) s.get (c.argTypes[0]?.bind O.ty) x).1 = .tv own (.slice t) l → own = [[]] → VT (rlOf w FB s (tmOf a) ι) (.slice t) l (a.eval x) ∧
      (((takeV (O.take f rid i) s.get (c.argTypes[0]?.bind O.ty) x).2 = none ∧ regAt (.slice t) (cellsF (a.eval x)) [] = none) ∨ ∃ t0 own0, (takeV (O.take f rid i) s.get (c.argTypes[0]?.bind O.ty) x).2 = some t0 ∧ s.get t0 = .tv own0 (.slice t) l ∧ [] ∈ own0 ∧ tmOf a t0 = a.eval x) := by
    intro own t l e1 e2
    subst e2
    rcases takeV_spec (g := s.get) (tk := O.take f rid i) (h := c.argTypes[0]?.bind O.ty) (x := x) with ⟨t0, _, rfl, e⟩ | e
    · rw [e] at e1 ⊢
      have hv := h.vr t0
      simp only at e1
      rw [e1] at hv
      simp only [VR] at hv
      exact ⟨hv, .inr ⟨t0, _, rfl, e1, List.mem_singleton.2 rfl, rfl⟩⟩
    · rw [e] at e1 ⊢
      have hv := val_ok (slots_of h) (c.argTypes[0]?.bind O.ty) (bind_fine hO) x
      simp only at e1
      rw [e1] at hv
      simp only [VR] at hv
      exact ⟨hv, .inl ⟨rfl, val_own (slots_of h) (bind_fine hO) x _ _ _ e1 [] (List.mem_singleton.2 rfl)⟩⟩
  generalize takeV (O.take f rid i) s.get (c.argTypes[0]?.bind O.ty) x = q at hb hq hn
  unfold appV at hb
  split at hb
  · rename_i own t l own' t' m e1
    split at hb
    · rename_i ht
      subst ht
      split at hb
      · rename_i hcond
        obtain ⟨hT, hU, rfl, hbig⟩ := hcond
        cases hb
        obtain ⟨T, hT1, hT⟩ := Option.bind_eq_some_iff.1 hT
        obtain ⟨U, hU1, hU⟩ := Option.bind_eq_some_iff.1 hU
        obtain ⟨q1, q2⟩ := hq _ _ _ e1 rfl
        simp only [VR] at hvy
        obtain ⟨D, hd, e', rfl, he', hz⟩ := (hO.ty T _ hT).und
        obtain ⟨D2, hd2, e2, rfl, he2, hz2⟩ := (hO.ty U _ hU).und
        obtain ⟨ad, cap, _, _, _, hvs, _⟩ := hvy.slice
        obtain ⟨w', v', c1, c2, c3⟩ := append_ok hO h (ty := o.type) (o.dst.getD s.env.length) hT (.inr ⟨_, hd2⟩) q1 q2 (m := m) (vy := a.eval y) (by rw [hvs]; rfl) (fun w' hw' => firstCells_ok (R := rlOf w FB s (tmOf a) ι) hw'.symm hvy) (row_one hz) hbig
        exact leaves_stp (by rw [hx, append_ts hT1 hU1]; simp only [Sem.run_bind, c1, Result.andThen_ok, Sem.run_pure]) c2 hl c3 (fun _ _ => ⟨rfl, rfl⟩) hn
      · cases hb
    · cases hb
  · rename_i own l own' m e1
    split at hb
    · rename_i hcond
      obtain ⟨hT, hU, rfl, hbig⟩ := hcond
      cases hb
      obtain ⟨T, hT1, hT⟩ := Option.bind_eq_some_iff.1 hT
      obtain ⟨U, hU1, hU⟩ := Option.bind_eq_some_iff.1 hU
      obtain ⟨q1, q2⟩ := hq _ _ _ e1 rfl
      simp only [VR] at hvy
      have hs := hvy.str
      obtain ⟨D2, hd2, f2⟩ := (hO.ty U _ hU).und
      simp only [UndOK] at f2
      subst f2
      obtain ⟨w', v', c1, c2, c3⟩ := append_ok hO h (ty := o.type) (o.dst.getD s.env.length) hT (.inl hd2) q1 q2 (t := .int .u8) (m := (m : List Int)) (vy := a.eval y) (by rw [hs.1]; simp [Builtin.lenOf, bytesOf_size]) (fun w' hw' => by rw [hs.1]; exact strCells_ok hs.2) (row_one (by decide)) hbig
      exact leaves_stp (by rw [hx, append_ts hT1 hU1]; simp only [Sem.run_bind, c1, Result.andThen_ok, Sem.run_pure]) c2 hl c3 (fun _ _ => ⟨rfl, rfl⟩) hn
    · cases hb
  · cases hb

theorem builtin_exec (hO : OrcOK P O) {c : Call} {b : Builtin} (hop : o.op = .call c) (hc : c.callee = .builtin b) : OpOK P O call draw f rid i o := by
  intro FB w s ι a r Q next h hl he hn
  have he0 := he
  simp only [exec, hop, callO, hc] at he
  cases b with
  | len =>
    simp only at he
    split at he
    · rename_i x hxy
      simp only [Option.map_eq_some_iff] at he
      obtain ⟨b, hb, rfl⟩ := he
      have hT : ∃ T, c.argTypes[0]? = some T := by
        cases hT : c.argTypes[0]? with
        | some T => exact ⟨T, rfl⟩
        | none =>
          rw [hT] at hb
          unfold lenV at hb
          split at hb <;> simp at hb
      obtain ⟨T, hT⟩ := hT
      have hx : execOp a.eval o = (do pure (.value (← Builtin.len_ #[T] o.type #[a.eval x]))) := by rw [ofValue_builtin hop hc, args1 hxy, ← len_ts hT]; rfl
      have hv := val_ok (slots_of h) (c.argTypes[0]?.bind O.ty) (bind_fine hO) x
      rw [hT] at hb hv
      exact leaves_gives h hl hx (lenV_ok hO hv hb) hn
    · cases he
  | max =>
    simp only at he
    split at he
    · rename_i x y hxy
      simp only [Option.map_eq_some_iff] at he
      obtain ⟨b, hb, rfl⟩ := he
      have hx : execOp a.eval o = (do pure (.value (← Builtin.max_ c.argTypes o.type #[a.eval x, a.eval y]))) := by rw [ofValue_builtin hop hc, args2 hxy]; rfl
      exact leaves_gives h hl hx (maxV_ok (val0 (slots_of h) x) (val0 (slots_of h) y) hb) hn
    · cases he
  | min =>
    simp only at he
    split at he
    · rename_i x y hxy
      simp only [Option.map_eq_some_iff] at he
      obtain ⟨b, hb, rfl⟩ := he
      have hx : execOp a.eval o = (do pure (.value (← Builtin.min_ c.argTypes o.type #[a.eval x, a.eval y]))) := by rw [ofValue_builtin hop hc, args2 hxy]; rfl
      exact leaves_gives h hl hx (minV_ok (val0 (slots_of h) x) (val0 (slots_of h) y) hb) hn
    · cases he
  | append =>
    simp only at he
    split at he
    · rename_i x y hxy
      exact append_exec hO hop hc hxy h hl he0 hn
    · cases he
  | _ => simp at he
end Go.Am

/-
  What goes into a call: the objects that can be reached, under other names.
-/
namespace Go.Am
variable {P : Program} {O : Orc} {FB : Nat → Nat → Prop} {w : World} {s : St} {tm : Nat → Value} {ι : Key → Nat}

theorem getD_lt {α : Type} {l : List α} {i : Nat} (d : α) (h : i < l.length) : l.getD i d = l[i] := by simp [List.getD_eq_getElem?_getD, h]

theorem noDup_mem : ∀ {l : List Key} {i j : Nat}, noDup l = true → i < l.length → j < l.length → l.getD i (0, 0) = l.getD j (0, 0) → i = j
  | [], _, _, _, h, _, _ => by simp at h
  | k :: r, 0, 0, _, _, _, _ => rfl
  | k :: r, 0, j + 1, h, _, hj, e => by
    simp only [noDup, Bool.and_eq_true, Bool.not_eq_true'] at h
    simp only [List.getD_cons_zero, List.getD_cons_succ] at e
    have hj' : j < r.length := by simpa using hj
    have : k ∈ r := by rw [e, getD_lt _ hj']; exact List.getElem_mem hj'
    have := List.contains_iff_mem.2 this
    rw [h.1] at this; cases this
  | k :: r, i + 1, 0, h, hi, _, e => by
    simp only [noDup, Bool.and_eq_true, Bool.not_eq_true'] at h
    simp only [List.getD_cons_zero, List.getD_cons_succ] at e
    have hi' : i < r.length := by simpa using hi
    have : k ∈ r := by rw [← e, getD_lt _ hi']; exact List.getElem_mem hi'
    have := List.contains_iff_mem.2 this
    rw [h.1] at this; cases this
  | k :: r, i + 1, j + 1, h, hi, hj, e => by
    simp only [noDup, Bool.and_eq_true] at h
    simp only [List.getD_cons_succ] at e
    have := noDup_mem (l := r) (i := i) (j := j) h.2 (by simpa using hi) (by simpa using hj) e
    omega
theorem noDup_filter {p : Key → Bool} : ∀ {l : List Key}, noDup l = true → noDup (l.filter p) = true
  | [], _ => rfl
  | k :: r, h => by
    simp only [noDup, Bool.and_eq_true, Bool.not_eq_true'] at h
    simp only [List.filter_cons]
    split
    · simp only [noDup, Bool.and_eq_true, Bool.not_eq_true']
      refine ⟨?_, noDup_filter h.2⟩
      cases hc : (r.filter p).contains k with
      | false => rfl
      | true =>
        have := List.contains_iff_mem.1 hc
        have := List.contains_iff_mem.2 (List.mem_filter.1 this).1
        rw [h.1] at this; cases this
    · exact noDup_filter h.2

theorem idxOf_mem : ∀ {ks : List Key} {k : Key} (i : Nat), k ∈ ks → ∃ j, idxOf ks k i = some (i + j) ∧ j < ks.length ∧ ks.getD j (0, 0) = k
  | q :: r, k, i, h => by
    simp only [idxOf]
    by_cases e : q = k
    · rw [if_pos e]; exact ⟨0, rfl, by simp, by simpa using e⟩
    · rw [if_neg e]
      have h' : k ∈ r := by
        rcases List.mem_cons.1 h with h | h
        · exact absurd h.symm e
        · exact h
      obtain ⟨j, h1, h2, h3⟩ := idxOf_mem (i + 1) h'
      exact ⟨j + 1, by rw [h1]; congr 1; omega, by simpa using h2, by simpa using h3⟩
theorem inward_mem {ks : List Key} {k : Key} (h : k ∈ ks) : ∃ j, inward ks k = (0, j) ∧ j < ks.length ∧ ks.getD j (0, 0) = k := by
  obtain ⟨j, h1, h2, h3⟩ := idxOf_mem 0 h
  refine ⟨j, ?_, h2, h3⟩
  unfold inward
  rw [h1]
  simp

theorem inObs_look {h : Heap} {ρ : Key → Key} : ∀ {ks : List Key} {i : Nat} {h0 : Heap}, inObs h ρ ks i = some h0 →
    (∀ j, j < ks.length → ∃ o, look h (ks.getD j (0, 0)) = some o ∧ look h0 (0, i + j) = some (renO ρ o)) ∧ ∀ k o, look h0 k = some o → ∃ j, j < ks.length ∧ k = (0, i + j)
  | [], i, h0, e => by
    simp only [inObs, Option.some.injEq] at e
    subst e
    exact ⟨fun j hj => by simp at hj, fun k o e => by simp [look] at e⟩
  | q :: r, i, h0, e => by
    simp only [inObs, Option.bind_eq_some_iff, Option.map_eq_some_iff] at e
    obtain ⟨o, ho, h1, e1, rfl⟩ := e
    obtain ⟨a1, a2⟩ := inObs_look e1
    refine ⟨fun j hj => ?_, fun k u hk => ?_⟩
    · cases j with
      | zero => exact ⟨o, by simpa using ho, by simp [look]⟩
      | succ j =>
        obtain ⟨o', b1, b2⟩ := a1 j (by simpa using hj)
        refine ⟨o', by simpa using b1, ?_⟩
        simp only [look]
        rw [if_neg (by intro h; injection h with _ h; omega)]
        rw [show i + (j + 1) = i + 1 + j by omega]; exact b2
    · simp only [look] at hk
      split at hk
      · rename_i hq; exact ⟨0, by simp, by simp [← hq]⟩
      · obtain ⟨j, hj, rfl⟩ := a2 k u hk
        exact ⟨j + 1, by simpa using hj, by congr 1; omega⟩

/-- Does a place go into the call? -/
def Passed (ks : List Key) : Loc → Prop
  | .sl _ _ => False
  | .fd k _ => k ∈ ks
  | .ob k => k ∈ ks
/-- Who else may write, for the one that is called. -/
def fbIn (FB : Nat → Nat → Prop) (w : World) (s : St) (tm : Nat → Value) (ι : Key → Nat) (ks : List Key) (b lo : Nat) : Prop := FB b lo ∨ ∃ l, ¬ Passed ks l ∧ owns w s tm ι l = some (b, lo)
def iotaIn (ι : Key → Nat) (ks : List Key) (k : Key) : Nat := ι (ks.getD k.2 (0, 0))
/-- A callee's place, in the caller. -/
def locIn (ks : List Key) : Loc → Loc
  | .sl i p => .sl i p
  | .fd k p => .fd (ks.getD k.2 (0, 0)) p
  | .ob k => .ob (ks.getD k.2 (0, 0))

structure InOK (s : St) (ks : List Key) (h0 : Heap) : Prop where
  nd : noDup ks = true
  h0 : inObs s.heap (inward ks) ks 0 = some h0
  shut : ∀ k ∈ ks, ∀ o, look s.heap k = some o → ∀ q ∈ keysO o, q ∈ ks

theorem renO_t (ρ : Key → Key) (o : Ob) : (renO ρ o).d.t = o.d.t := rfl
theorem renO_own (ρ : Key → Key) (o : Ob) : (renO ρ o).own = o.own := rfl
theorem renO_x (ρ : Key → Key) (o : Ob) : (renO ρ o).d.x = renD ρ o.d.t o.d.x := by unfold renO; simp only; exact renIf ρ _ _

theorem InOK.at1 {ks : List Key} {h0 : Heap} (hi : InOK s ks h0) {k : Key} {o : Ob} (h : look h0 k = some o) : ∃ j u, j < ks.length ∧ k = (0, j) ∧ look s.heap (ks.getD j (0, 0)) = some u ∧ o = renO (inward ks) u := by
  obtain ⟨a1, a2⟩ := inObs_look hi.h0
  obtain ⟨j, hj, rfl⟩ := a2 k o h
  obtain ⟨u, b1, b2⟩ := a1 j hj
  rw [h] at b2
  exact ⟨j, u, hj, by congr 1; omega, b1, Option.some.inj b2⟩
theorem InOK.at2 {ks : List Key} {h0 : Heap} (hi : InOK s ks h0) {j : Nat} (hj : j < ks.length) : ∃ u, look s.heap (ks.getD j (0, 0)) = some u ∧ look h0 (0, j) = some (renO (inward ks) u) := by
  obtain ⟨a1, a2⟩ := inObs_look hi.h0
  obtain ⟨u, b1, b2⟩ := a1 j hj
  rw [Nat.zero_add] at b2
  exact ⟨u, b1, b2⟩
theorem getD_mem {ks : List Key} {j : Nat} (hj : j < ks.length) : ks.getD j (0, 0) ∈ ks := by
  rw [getD_lt _ hj]; exact List.getElem_mem hj
theorem mem_getD {ks : List Key} {k : Key} (h : k ∈ ks) : ∃ j, j < ks.length ∧ ks.getD j (0, 0) = k := by
  obtain ⟨j, hj, e⟩ := List.mem_iff_getElem.1 h
  exact ⟨j, hj, by rw [getD_lt _ hj]; exact e⟩

theorem renL_getD (ρ : Key → Key) : ∀ (l : List AV) (i : Nat), (renL ρ l).getD i .any = renA ρ (l.getD i .any)
  | [], i => by simp [renL, renA]
  | a :: l, 0 => by simp [renL]
  | a :: l, i + 1 => by simp only [renL, List.getD_cons_succ]; exact renL_getD ρ l i
theorem keysL_getD : ∀ (l : List AV) (i : Nat), ∀ k ∈ keysA (l.getD i .any), k ∈ keysL l
  | [], i, k, h => by simp [keysA] at h
  | a :: l, 0, k, h => by simp only [List.getD_cons_zero] at h; simp only [keysL, List.mem_append]; exact .inl h
  | a :: l, i + 1, k, h => by simp only [List.getD_cons_succ] at h; simp only [keysL, List.mem_append]; exact .inr (keysL_getD l i k h)
theorem VRL_getD {R : Rl} : ∀ (l : List AV) (vs : List Value), VRL R O l vs → ∀ i, VR R O (l.getD i .any) (vs.getD i undef)
  | [], vs, h, i => by simp [VR]
  | a :: l, vs, h, i => by
    simp only [VRL] at h
    obtain ⟨v, r, rfl, h1, h2⟩ := h
    cases i with
    | zero => simpa using h1
    | succ i => simpa using VRL_getD l r h2 i
theorem drop_own (l : List AV) (i : Nat) : ((l.map AV.drop).getD i .any).own = [] := by
  simp only [List.getD_eq_getElem?_getD, List.getElem?_map]
  cases l[i]? with
  | none => rfl
  | some a => exact AV.own_drop a
theorem renA_own (ρ : Key → Key) (a : AV) : (renA ρ a).own = a.own := by cases a <;> simp [renA, AV.own]
theorem VRL_drop {R : Rl} : ∀ (l : List AV) (vs : List Value), VRL R O l vs → VRL R O (l.map AV.drop) vs
  | [], vs, h => h
  | a :: l, vs, h => by
    simp only [VRL, List.map_cons] at h ⊢
    obtain ⟨v, r, rfl, h1, h2⟩ := h
    exact ⟨v, r, rfl, h1.drop, VRL_drop l r h2⟩

/-- The callee's state is well. -/
theorem Rel.into (h : Rel O FB w s tm ι) {ks : List Key} {h0 : Heap} (hi : InOK s ks h0) {args : List AV} {vs : List Value} (hv : VRL (rlOf w FB s tm ι) O args vs) (hk : ∀ k ∈ keysL (args.map AV.drop), k ∈ ks) :
    Rel O (fbIn FB w s tm ι ks) w ⟨renL (inward ks) (args.map AV.drop), h0⟩ (fun i => vs.getD i undef) (iotaIn ι ks) ∧
    ∀ l x, owns w ⟨renL (inward ks) (args.map AV.drop), h0⟩ (fun i => vs.getD i undef) (iotaIn ι ks) l = some x → Passed ks (locIn ks l) ∧ owns w s tm ι (locIn ks l) = some x ∧ (∀ l', owns w ⟨renL (inward ks) (args.map AV.drop), h0⟩ (fun i => vs.getD i undef) (iotaIn ι ks) l' = some x → locIn ks l = locIn ks l' → l = l') := by
  have hget : ∀ i, (St.get ⟨renL (inward ks) (args.map AV.drop), h0⟩ i) = renA (inward ks) ((args.map AV.drop).getD i .any) := fun i => renL_getD _ _ i
  have hown : ∀ l x, owns w ⟨renL (inward ks) (args.map AV.drop), h0⟩ (fun i => vs.getD i undef) (iotaIn ι ks) l = some x →
      (∃ j p, j < ks.length ∧ l = .fd (0, j) p ∧ owns w s tm ι (.fd (ks.getD j (0, 0)) p) = some x) ∨ (∃ j, j < ks.length ∧ l = .ob (0, j) ∧ owns w s tm ι (.ob (ks.getD j (0, 0))) = some x) := by
    intro l x hl
    cases l with
    | sl i p =>
      simp only [owns, hget] at hl
      have ho := drop_own args i
      rw [← renA_own (inward ks)] at ho
      revert hl ho
      generalize renA (inward ks) ((args.map AV.drop).getD i .any) = a
      intro hl ho
      cases a with
      | tv own t y => simp only [AV.own] at ho; subst ho; simp at hl
      | _ => simp at hl
    | fd k p =>
      simp only [owns] at hl
      cases hlk : look h0 k with
      | none => rw [hlk] at hl; cases hl
      | some o =>
        obtain ⟨j, u, hj, rfl, hu, rfl⟩ := hi.at1 hlk
        rw [hlk] at hl
        refine .inl ⟨j, p, hj, rfl, ?_⟩
        simp only [owns, hu]
        simp only [renO_own, renO_t] at hl
        exact hl
    | ob k =>
      simp only [owns] at hl
      cases hlk : look h0 k with
      | none => rw [hlk] at hl; cases hl
      | some o =>
        obtain ⟨j, u, hj, rfl, hu, rfl⟩ := hi.at1 hlk
        rw [hlk] at hl
        refine .inr ⟨j, hj, rfl, ?_⟩
        simp only [owns, hu]
        exact hl
  have hown2 : ∀ l x, owns w ⟨renL (inward ks) (args.map AV.drop), h0⟩ (fun i => vs.getD i undef) (iotaIn ι ks) l = some x → Passed ks (locIn ks l) ∧ owns w s tm ι (locIn ks l) = some x := by
    intro l x hl
    rcases hown l x hl with ⟨j, p, hj, rfl, e⟩ | ⟨j, hj, rfl, e⟩
    · exact ⟨getD_mem hj, e⟩
    · exact ⟨getD_mem hj, e⟩
  have hinj : ∀ l l' x x', owns w ⟨renL (inward ks) (args.map AV.drop), h0⟩ (fun i => vs.getD i undef) (iotaIn ι ks) l = some x → owns w ⟨renL (inward ks) (args.map AV.drop), h0⟩ (fun i => vs.getD i undef) (iotaIn ι ks) l' = some x' → locIn ks l = locIn ks l' → l = l' := by
    intro l l' x x' hl hl' he
    rcases hown l x hl with ⟨j, p, hj, rfl, e⟩ | ⟨j, hj, rfl, e⟩ <;> rcases hown l' x' hl' with ⟨j', p', hj', rfl, e'⟩ | ⟨j', hj', rfl, e'⟩
    · simp only [locIn, Loc.fd.injEq] at he
      rw [noDup_mem hi.nd hj hj' he.1, he.2]
    · simp [locIn] at he
    · simp [locIn] at he
    · simp only [locIn, Loc.ob.injEq] at he
      rw [noDup_mem hi.nd hj hj' he]
  have hprot : ∀ b o, protOf w FB (owns w s tm ι) b o → protOf w (fbIn FB w s tm ι ks) (owns w ⟨renL (inward ks) (args.map AV.drop), h0⟩ (fun i => vs.getD i undef) (iotaIn ι ks)) b o := by
    intro b o ⟨p1, p2, p3⟩
    refine ⟨p1, fun l lo hl => p2 _ lo (hown2 l _ hl).2, fun lo hf => ?_⟩
    rcases hf with hf | ⟨l, _, hl⟩
    · exact p3 lo hf
    · exact p2 l lo hl
  have hc : CellLe (rlOf w FB s tm ι) (rlOf w (fbIn FB w s tm ι ks) ⟨renL (inward ks) (args.map AV.drop), h0⟩ (fun i => vs.getD i undef) (iotaIn ι ks)) := fun b o hp v hv => ⟨hv, hprot b o hp⟩
  have hkt : ∀ k ∈ ks, ∀ y, (rlOf w FB s tm ι).kt k = some y → (rlOf w (fbIn FB w s tm ι ks) ⟨renL (inward ks) (args.map AV.drop), h0⟩ (fun i => vs.getD i undef) (iotaIn ι ks)).kt (inward ks k) = some y := by
    intro k hk y hy
    obtain ⟨j, e1, e2, e3⟩ := inward_mem hk
    obtain ⟨u, u1, u2⟩ := hi.at2 e2
    have hy' : (look s.heap k).map (fun o => (ι k, o.d.t)) = some y := hy
    rw [e1]
    show (look h0 (0, j)).map (fun o => (iotaIn ι ks (0, j), o.d.t)) = some y
    rw [u2]
    rw [e3] at u1
    rw [u1] at hy'
    simp only [Option.map_some, renO_t, iotaIn, e3] at hy' ⊢
    exact hy'
  refine ⟨⟨fun i => ?_, fun k o hlk => ?_, ?_, ?_, ?_, ?_, ?_, ?_⟩, fun l x hl => ⟨(hown2 l x hl).1, (hown2 l x hl).2, fun l' hl' he => hinj l l' x x hl hl' he⟩⟩
  · rw [hget]
    exact VR.ren hc _ _ (fun k hk' y hy => hkt k (hk k (keysL_getD _ i k hk')) y hy) (VRL_getD _ _ (VRL_drop _ _ hv) i)
  · obtain ⟨j, u, hj, rfl, hu, rfl⟩ := hi.at1 hlk
    obtain ⟨q1, arr, T, q2, q3, q4⟩ := h.ob _ u hu
    refine ⟨q1, arr, T, q2, q3, ?_⟩
    rw [renO_x]
    refine RV.ren hc _ _ _ q1 (fun k hk' y hy => hkt k (hi.shut _ (getD_mem hj) u hu k ?_) y hy) q4
    unfold keysO; rw [keysIf _ _ q1]; exact hk'
  · intro l l' b lo lo' h1 h2
    exact hinj l l' _ _ h1 h2 (h.dj _ _ b lo lo' (hown2 l _ h1).2 (hown2 l' _ h2).2)
  · intro i own t x hg p hp
    rw [hget] at hg
    have ho := drop_own args i
    rw [← renA_own (inward ks), hg] at ho
    simp only [AV.own] at ho
    subst ho; cases hp
  · intro k o hlk p hp
    obtain ⟨j, u, hj, rfl, hu, rfl⟩ := hi.at1 hlk
    exact h.rf _ u hu p hp
  · intro l b lo lo' hl hf
    obtain ⟨p1, p2⟩ := hown2 l _ hl
    rcases hf with hf | ⟨l2, hn, hl2⟩
    · exact h.fb _ b lo lo' p2 hf
    · have := h.dj _ _ b lo lo' p2 hl2
      rw [this] at p1; exact hn p1
  · intro b lo hf
    rcases hf with hf | ⟨l, _, hl⟩
    · exact h.fs b lo hf
    · exact h.own_lt hl
  · intro g d hg
    obtain ⟨h1, h2, us, h3, h4⟩ := h.gl g d hg
    exact ⟨h1, h2, us, h3.le hc, RV.le0 hc d.t d.x us h1 h2 h4⟩
end Go.Am

/-
  What comes back from a call.
-/
namespace Go.Am
variable {P : Program} {O : Orc} {FB : Nat → Nat → Prop} {w w' : World} {s s0 : St} {tm tm0 : Nat → Value} {ι ι0 ι1 ι3 : Key → Nat}

theorem backIn_look {σ : Key → Key} {h1 : Heap} : ∀ {ks : List Key} {i : Nat} {h h2 : Heap}, noDup ks = true → backIn σ h1 ks i h = some h2 →
    (∀ j, j < ks.length → ∃ o, look h1 (0, i + j) = some o ∧ ∀ u, look h (ks.getD j (0, 0)) = some u → look h2 (ks.getD j (0, 0)) = some (renO σ o)) ∧ ∀ k, k ∉ ks → look h2 k = look h k
  | [], i, h, h2, _, e => by
    simp only [backIn, Option.some.injEq] at e
    subst e
    exact ⟨fun j hj => by simp at hj, fun k _ => rfl⟩
  | q :: r, i, h, h2, hn, e => by
    simp only [backIn, Option.bind_eq_some_iff] at e
    obtain ⟨o, ho, e⟩ := e
    simp only [noDup, Bool.and_eq_true, Bool.not_eq_true'] at hn
    have hqr : q ∉ r := fun hm => by have := List.contains_iff_mem.2 hm; rw [hn.1] at this; cases this
    obtain ⟨a1, a2⟩ := backIn_look hn.2 e
    refine ⟨fun j hj => ?_, fun k hk => ?_⟩
    · cases j with
      | zero =>
        refine ⟨o, ho, fun u hu => ?_⟩
        simp only [List.getD_cons_zero] at hu ⊢
        rw [a2 q hqr, look_over, if_pos rfl, hu]; rfl
      | succ j =>
        have hj' : j < r.length := by simpa using hj
        obtain ⟨o', b1, b2⟩ := a1 j hj'
        refine ⟨o', by rw [show i + (j + 1) = i + 1 + j by omega]; exact b1, fun u hu => ?_⟩
        simp only [List.getD_cons_succ] at hu ⊢
        refine b2 u ?_
        rw [look_over, if_neg]
        · exact hu
        · intro he; exact hqr (he ▸ getD_mem hj')
    · rw [a2 k (fun hm => hk (List.mem_cons_of_mem _ hm)), look_over, if_neg]
      intro he; exact hk (he ▸ List.mem_cons_self)

theorem backOut_look {σ : Key → Key} {h1 : Heap} {d : Nat} : ∀ {ex : List Key} {i : Nat} {h h3 : Heap}, (∀ k ∈ ex, (look h1 k).isSome = true) → backOut σ h1 d ex i h = some h3 →
    (∀ j, j < ex.length → look h (d + 1, i + j) = none ∧ ∃ o, look h1 (ex.getD j (0, 0)) = some o ∧ look h3 (d + 1, i + j) = some (renO σ o)) ∧ ∀ k, (∀ j, j < ex.length → k ≠ (d + 1, i + j)) → look h3 k = look h k
  | [], i, h, h3, _, e => by
    simp only [backOut, Option.some.injEq] at e
    subst e
    exact ⟨fun j hj => by simp at hj, fun k _ => rfl⟩
  | q :: r, i, h, h3, hs, e => by
    simp only [backOut] at e
    obtain ⟨o, ho⟩ := Option.isSome_iff_exists.1 (hs q List.mem_cons_self)
    rw [ho] at e
    simp only at e
    split at e
    · rename_i hf
      simp only [Option.isNone_iff_eq_none] at hf
      obtain ⟨a1, a2⟩ := backOut_look (fun k hk => hs k (List.mem_cons_of_mem _ hk)) e
      refine ⟨fun j hj => ?_, fun k hk => ?_⟩
      · cases j with
        | zero =>
          refine ⟨hf, o, by simpa using ho, ?_⟩
          rw [a2, look_cons, if_pos (by rfl)]
          intro j hj he
          injection he with _ he
          omega
        | succ j =>
          have hj' : j < r.length := by simpa using hj
          obtain ⟨b0, o', b1, b2⟩ := a1 j hj'
          rw [show i + 1 + j = i + (j + 1) by omega] at b0 b2
          refine ⟨?_, o', by simpa using b1, b2⟩
          rw [look_cons, if_neg] at b0
          · exact b0
          · intro he; injection he with _ he; omega
      · rw [a2 k (fun j hj he => hk (j + 1) (by simpa using hj) (by rw [he]; congr 1; omega)), look_cons, if_neg]
        intro he
        exact hk 0 (by simp) (by simpa using he)
    · cases e

/-- A callee's place behind the call, in the caller. -/
def locOut (σ : Key → Key) (dd : Nat) : Loc → Loc
  | .sl _ p => .sl dd p
  | .fd k p => .fd (σ k) p
  | .ob k => .ob (σ k)

structure BackOK (s : St) (ι : Key → Nat) (ks : List Key) (r : AV) (h1 : Heap) (ι1 : Key → Nat) (okk : Key → Prop) (σ : Key → Key) (h3 : Heap) (ι3 : Key → Nat) : Prop where
  l1 : ∀ k o, look h3 k = some o → (∃ k1 o1, okk k1 ∧ look h1 k1 = some o1 ∧ σ k1 = k ∧ o = renO σ o1 ∧ ι3 k = ι1 k1) ∨ (k ∉ ks ∧ look s.heap k = some o ∧ ι3 k = ι k)
  l2 : ∀ k1 o1, okk k1 → look h1 k1 = some o1 → ∃ o3, look h3 (σ k1) = some o3 ∧ o3.d.t = o1.d.t ∧ ι3 (σ k1) = ι1 k1
  l3 : ∀ k o, look s.heap k = some o → ∃ o3, look h3 k = some o3 ∧ o3.d.t = o.d.t ∧ ι3 k = ι k
  k1 : ∀ k ∈ keysA r, okk k
  k2 : ∀ k o, okk k → look h1 k = some o → ∀ q ∈ keysO o, okk q

theorem Rel.back (h : Rel O FB w s tm ι) {ks : List Key} {r : AV} {v : Value} {h1 h3 : Heap} {okk : Key → Prop} {σ : Key → Key} (dd : Nat)
    (hown : ∀ l x, owns w s0 tm0 ι0 l = some x → ∃ l', Passed ks l' ∧ owns w s tm ι l' = some x)
    (st : Stp O (fbIn FB w s tm ι ks) w s0 tm0 ι0 w' ⟨[r], h1⟩ (fun _ => v) ι1) (hh : Hist (ownP w s0 tm0 ι0) w w') (hb : BackOK s ι ks r h1 ι1 okk σ h3 ι3) :
    Stp O FB w s tm ι w' ⟨s.env.set dd (renA σ r), h3⟩ (setF tm s.env.length dd v) ι3 ∧ Hist (ownP w s tm ι) w w' := by
  have hsz := st.size
  have hW : ∀ b lo, ownP w s0 tm0 ι0 b lo → ownP w s tm ι b lo := fun b lo ⟨l, hl⟩ => by obtain ⟨l', _, e⟩ := hown l _ hl; exact ⟨l', e⟩
  have hW1 : ∀ b lo lo', ownP w s tm ι b lo → ownP w s tm ι b lo' → lo = lo' := by
    intro b lo lo' ⟨l, hl⟩ ⟨l', hl'⟩
    have := h.dj l l' b lo lo' hl hl'
    subst this
    rw [hl] at hl'
    simpa using hl'
  -- blocks of those that did not go in
  have hsame : ∀ l b lo, owns w s tm ι l = some (b, lo) → ¬ Passed ks l → w'.heap[b]? = w.heap[b]? := by
    intro l b lo hl hp
    refine hh.block b (h.own_lt hl) fun lo' ⟨l0, hl0⟩ => ?_
    obtain ⟨l', p, e⟩ := hown l0 _ hl0
    have := h.dj l l' b lo lo' hl e
    rw [this] at hp; exact hp p
  have hist : Hist (ownP w s tm ι) w w' := by
    refine ⟨hh.os, hh.tape, hh.output, hh.size, fun b hb hn => hh.block b hb fun lo hl => hn lo (hW b lo hl), fun b lo hb hl o ho => ?_, hh.shape⟩
    by_cases hex : ∃ lo', ownP w s0 tm0 ι0 b lo'
    · obtain ⟨lo', hl'⟩ := hex
      have := hW1 b lo lo' hl (hW b lo' hl')
      subst this
      exact hh.cell b _ hb hl' o ho
    · have := hh.block b hb fun lo' hl' => hex ⟨lo', hl'⟩
      unfold World.cell?; rw [this]
  -- who owns what behind the call
  have hcls : ∀ l x, owns w' ⟨s.env.set dd (renA σ r), h3⟩ (setF tm s.env.length dd v) ι3 l = some x →
      (∃ l1, l = locOut σ dd l1 ∧ owns w' ⟨[r], h1⟩ (fun _ => v) ι1 l1 = some x) ∨ (¬ Passed ks l ∧ owns w s tm ι l = some x) := by
    intro l x hl
    cases l with
    | sl i p =>
      simp only [owns, St.get, getD_set, setF] at hl
      by_cases hc : i = dd ∧ dd < s.env.length
      · simp only [if_pos hc] at hl
        refine .inl ⟨.sl 0 p, by simp [locOut, hc.1], ?_⟩
        simp only [owns, St.get, List.getD_cons_zero]
        cases r with
        | tv own t y => simpa only [renA] using hl
        | _ => simp [renA] at hl
      · simp only [if_neg hc] at hl
        exact .inr ⟨fun hp => hp, hl⟩
    | fd k p =>
      simp only [owns] at hl
      cases hlk : look h3 k with
      | none => rw [hlk] at hl; cases hl
      | some o =>
        rw [hlk] at hl
        simp only at hl
        rcases hb.l1 k o hlk with ⟨k1, o1, a1, a2, a3, rfl, a5⟩ | ⟨a1, a2, a3⟩
        · refine .inl ⟨.fd k1 p, by simp [locOut, a3], ?_⟩
          simp only [owns, a2]
          rw [a5] at hl
          exact hl
        · refine .inr ⟨a1, ?_⟩
          simp only [owns, a2]
          have := hsame (.ob k) (ι k) 0 (by simp [owns, a2]) a1
          have hbf : blockF w' (ι3 k) = blockF w (ι k) := by
            funext j; unfold blockF; rw [a3, this]
          rw [hbf] at hl
          exact hl
    | ob k =>
      simp only [owns] at hl
      cases hlk : look h3 k with
      | none => rw [hlk] at hl; cases hl
      | some o =>
        rw [hlk] at hl
        simp only at hl
        rcases hb.l1 k o hlk with ⟨k1, o1, a1, a2, a3, rfl, a5⟩ | ⟨a1, a2, a3⟩
        · refine .inl ⟨.ob k1, by simp [locOut, a3], ?_⟩
          simp only [owns, a2]
          rw [a5] at hl
          exact hl
        · refine .inr ⟨a1, ?_⟩
          simp only [owns, a2]
          rw [a3] at hl
          exact hl
  have hsrc : ∀ l b lo, owns w' ⟨s.env.set dd (renA σ r), h3⟩ (setF tm s.env.length dd v) ι3 l = some (b, lo) → (∃ l0 lo0, owns w s tm ι l0 = some (b, lo0) ∧ lo0 ≤ lo) ∨ w.heap.size ≤ b := by
    intro l b lo hl
    rcases hcls l _ hl with ⟨l1, _, e⟩ | ⟨_, e⟩
    · rcases st.src l1 b lo e with ⟨l0, lo0, e0, hle⟩ | hge
      · obtain ⟨l', _, e'⟩ := hown l0 _ e0
        exact .inl ⟨l', lo0, e', hle⟩
      · exact .inr hge
    · exact .inl ⟨l, lo, e, Nat.le_refl _⟩
  have hcell : ∀ b o, protOf w FB (owns w s tm ι) b o → w'.cell? ⟨b, o, none⟩ = w.cell? ⟨b, o, none⟩ := by
    intro b o ⟨p1, p2, p3⟩
    by_cases hex : ∃ lo, ownP w s tm ι b lo
    · obtain ⟨lo, l, hl⟩ := hex
      exact hist.cell b lo p1 ⟨l, hl⟩ o (p2 l lo hl)
    · have := hist.block b p1 fun lo hl => hex ⟨lo, hl⟩
      unfold World.cell?; rw [this]
  have hc : CellLe (rlOf w FB s tm ι) (rlOf w' FB ⟨s.env.set dd (renA σ r), h3⟩ (setF tm s.env.length dd v) ι3) :=
    rl_le hsz (fun l b lo hl hlt => by
      rcases hsrc l b lo hl with h | h
      · exact h
      · omega) hcell
  have hkt : ∀ k x, (rlOf w FB s tm ι).kt k = some x → (rlOf w' FB ⟨s.env.set dd (renA σ r), h3⟩ (setF tm s.env.length dd v) ι3).kt k = some x := by
    intro k x hx
    have hx' : (look s.heap k).map (fun o => (ι k, o.d.t)) = some x := hx
    show (look h3 k).map (fun o => (ι3 k, o.d.t)) = some x
    cases hlk : look s.heap k with
    | none => rw [hlk] at hx'; cases hx'
    | some o =>
      obtain ⟨o3, b1, b2, b3⟩ := hb.l3 k o hlk
      rw [hlk] at hx'
      rw [b1, ← hx']
      simp only [Option.map_some, b2, b3]
  have hle : (rlOf w FB s tm ι).le (rlOf w' FB ⟨s.env.set dd (renA σ r), h3⟩ (setF tm s.env.length dd v) ι3) := ⟨hc, hkt⟩
  have hc1 : CellLe (rlOf w' (fbIn FB w s tm ι ks) ⟨[r], h1⟩ (fun _ => v) ι1) (rlOf w' FB ⟨s.env.set dd (renA σ r), h3⟩ (setF tm s.env.length dd v) ι3) := by
    intro b o ⟨p1, p2, p3⟩ u hu
    refine ⟨hu, p1, fun l lo hl => ?_, fun lo hf => p3 lo (.inl hf)⟩
    rcases hcls l _ hl with ⟨l1, _, e⟩ | ⟨hn, e⟩
    · exact p2 l1 lo e
    · exact p3 lo (.inr ⟨l, hn, e⟩)
  have hkt1 : ∀ k, okk k → ∀ y, (rlOf w' (fbIn FB w s tm ι ks) ⟨[r], h1⟩ (fun _ => v) ι1).kt k = some y → (rlOf w' FB ⟨s.env.set dd (renA σ r), h3⟩ (setF tm s.env.length dd v) ι3).kt (σ k) = some y := by
    intro k hk y hy
    have hy' : (look h1 k).map (fun o => (ι1 k, o.d.t)) = some y := hy
    show (look h3 (σ k)).map (fun o => (ι3 (σ k), o.d.t)) = some y
    cases hlk : look h1 k with
    | none => rw [hlk] at hy'; cases hy'
    | some o =>
      obtain ⟨o3, b1, b2, b3⟩ := hb.l2 k o hk hlk
      rw [hlk] at hy'
      rw [b1, ← hy']
      simp only [Option.map_some, b2, b3]
  have hroom : ∀ {t : Ty} {c : Nat → Value} {p : List Nat}, RoomAt w t c p → RoomAt w' t c p := fun hr => room_same (fun b o hb' => hist.shape b hb' o) hsz hr
  refine ⟨⟨⟨fun i => ?_, fun k o hlk => ?_, ?_, ?_, ?_, ?_, ?_, ?_⟩, hsrc, hsz⟩, hist⟩
  · show VR _ O ((s.env.set dd (renA σ r)).getD i .any) _
    rw [getD_set]; unfold setF
    split
    · exact VR.ren hc1 _ _ (fun k hk y hy => hkt1 k (hb.k1 k hk) y hy) (st.rel.vr 0)
    · exact (h.vr i).le hle
  · rcases hb.l1 k o hlk with ⟨k1, o1, a1, a2, a3, rfl, a5⟩ | ⟨a1, a2, a3⟩
    · obtain ⟨q1, arr, T, q2, q3, q4⟩ := st.rel.ob k1 o1 a2
      refine ⟨q1, arr, T, by rw [a5]; exact q2, q3, ?_⟩
      rw [renO_x]
      refine RV.ren hc1 _ _ _ q1 (fun k hk' y hy => hkt1 k (hb.k2 k1 o1 a1 a2 k ?_) y hy) q4
      unfold keysO; rw [keysIf _ _ q1]; exact hk'
    · obtain ⟨q1, arr, T, q2, q3, q4⟩ := h.ob k o a2
      refine ⟨q1, arr, T, ?_, q3, RV.le hle _ _ _ q1 q4⟩
      rw [a3, hsame (.ob k) (ι k) 0 (by simp [owns, a2]) a1]; exact q2
  · intro l l' b lo lo' e1 e2
    rcases hcls l _ e1 with ⟨l1, rfl, c1⟩ | ⟨n1, c1⟩ <;> rcases hcls l' _ e2 with ⟨l2, rfl, c2⟩ | ⟨n2, c2⟩
    · rw [st.rel.dj l1 l2 b lo lo' c1 c2]
    · exact absurd (.inr ⟨l', n2, c2⟩) (st.rel.fb l1 b lo lo' c1)
    · exact absurd (.inr ⟨l, n1, c1⟩) (st.rel.fb l2 b lo' lo c2)
    · exact h.dj l l' b lo lo' c1 c2
  · intro i own t x hg p hp
    have hg' : (s.env.set dd (renA σ r)).getD i .any = .tv own t x := hg
    rw [getD_set] at hg'
    unfold setF
    split
    · rename_i hc'
      rw [if_pos hc'] at hg'
      cases r with
      | tv own' t' y =>
        simp only [renA, AV.tv.injEq] at hg'
        obtain ⟨rfl, rfl, _⟩ := hg'
        exact st.rel.rs 0 own' t' y rfl p hp
      | _ => simp [renA] at hg'
    · rename_i hc'
      rw [if_neg hc'] at hg'
      exact hroom (h.rs i own t x hg' p hp)
  · intro k o hlk p hp
    rcases hb.l1 k o hlk with ⟨k1, o1, a1, a2, a3, rfl, a5⟩ | ⟨a1, a2, a3⟩
    · rw [a5]; exact st.rel.rf k1 o1 a2 p hp
    · have := hsame (.ob k) (ι k) 0 (by simp [owns, a2]) a1
      have hbf : blockF w' (ι3 k) = blockF w (ι k) := by
        funext j; unfold blockF; rw [a3, this]
      rw [hbf]
      exact hroom (h.rf k o a2 p hp)
  · intro l b lo lo' hl hf
    rcases hcls l _ hl with ⟨l1, _, e⟩ | ⟨_, e⟩
    · exact st.rel.fb l1 b lo lo' e (.inl hf)
    · exact h.fb l b lo lo' e hf
  · intro b lo hf
    have := h.fs b lo hf
    omega
  · exact h.gl_le hc
end Go.Am

/-
  A call, of a function that is known to do what the machine says.
-/
namespace Go.Am
variable {P : Program} {O : Orc} {FB : Nat → Nat → Prop} {w w' : World} {s : St} {tm : Nat → Value} {ι : Key → Nat}

def hasBody (P : Program) (g : FuncId) : Prop := ∃ fn, P.funcs[g]? = some fn ∧ fn.body.isSome = true ∧ (fn.name == "runtime.NumGoroutine") = false
def tmArgs (vs : Array Value) : Nat → Value := fun i => vs.toList.getD i undef

/-- What the machine says of calls holds. -/
def CallOK (P : Program) (O : Orc) (call : CallF) : Prop := ∀ g args h q, call g args h = some q → hasBody P g ∧
  ∀ (FB : Nat → Nat → Prop) (w : World) (ι : Key → Nat) (vs : Array Value), args.length = vs.size → Rel O FB w ⟨args, h⟩ (tmArgs vs) ι →
    Calls P g vs w fun e w' => ∃ v ι', e = .returned v ∧ Goes O FB w ⟨args, h⟩ (tmArgs vs) ι w' ⟨[q.1], q.2⟩ (fun _ => v) ι'

theorem VRL_len {R : Rl} : ∀ (l : List AV) (vs : List Value), VRL R O l vs → l.length = vs.length
  | [], vs, h => by simp only [VRL] at h; simp [h]
  | a :: l, vs, h => by
    simp only [VRL] at h
    obtain ⟨v, r, rfl, _, h2⟩ := h
    simp [VRL_len l r h2]
theorem renL_len (ρ : Key → Key) : ∀ l : List AV, (renL ρ l).length = l.length
  | [] => rfl
  | a :: l => by simp [renL, renL_len ρ l]

theorem look_filter {p : Key → Bool} : ∀ (h : Heap) (k : Key), p k = true → look (h.filter fun b => p b.1) k = look h k
  | [], _, _ => rfl
  | (q, o) :: r, k, hp => by
    simp only [List.filter_cons]
    by_cases e : q = k
    · subst e
      rw [if_pos hp]
      simp [look]
    · split
      · simp only [look]; rw [if_neg e, if_neg e]; exact look_filter r k hp
      · simp only [look]; rw [if_neg e]; exact look_filter r k hp
theorem look_mem : ∀ {h : Heap} {k : Key} {o : Ob}, look h k = some o → (k, o) ∈ h
  | (q, u) :: r, k, o, e => by
    simp only [look] at e
    split at e
    · rename_i hq; cases e; rw [hq]; exact List.mem_cons_self
    · exact List.mem_cons_of_mem _ (look_mem e)

theorem callA_ok {call : CallF} (hc : CallOK P O call) (h : Rel O FB w s tm ι) {draw : Bool} {dst : Option Nat} {g : FuncId} {args : List AV} {vs : Array Value} {r : Res} (hv : VRL (rlOf w FB s tm ι) O args vs.toList) (he : callA O call draw dst g args s.heap = some r) :
    hasBody P g ∧ r.tk = none ∧ Calls P g vs w fun e w' => ∃ v ι', e = .returned v ∧ Stp O FB w s tm ι w' ⟨s.env.set (dst.getD s.env.length) r.a, r.h⟩ (setF tm s.env.length (dst.getD s.env.length) v) ι' ∧ Hist (ownP w s tm ι) w w' ∧
      ∀ k, k.1 = 0 → (look r.h k).map (·.d.t) = (look s.heap k).map (·.d.t) ∧ ι' k = ι k := by
  unfold callA at he
  simp only [forceKs_eq] at he
  generalize hks : reach s.heap 50 (keysL (args.map AV.drop)) [] = ks at he
  split at he
  · cases he
  · rename_i hcond
    simp only [Bool.or_eq_true, not_or, Bool.not_eq_true, Bool.not_eq_false', List.all_eq_true] at hcond
    obtain ⟨⟨⟨_, hkeys⟩, hnd⟩, hndo⟩ := hcond
    simp only [Option.bind_eq_some_iff] at he
    obtain ⟨h0, hin, he⟩ := he
    split at he
    · cases he
    · rename_i hshut
      simp only [Bool.not_eq_true, Bool.not_eq_false', List.all_eq_true] at hshut
      simp only [Option.bind_eq_some_iff] at he
      obtain ⟨q, hq, he⟩ := he
      generalize hex : List.filter (fun k => (look q.2 k).isSome && k.1 != 0 && (liveK q.2 ks.length q.1).contains k) (O.out g) = ex at he
      split at he
      · cases he
      · rename_i hok
        simp only [Bool.not_eq_true, Bool.not_eq_false', Bool.and_eq_true, List.all_eq_true, shut] at hok
        obtain ⟨hok1, hok2⟩ := hok
        simp only [Option.bind_eq_some_iff, Option.some.injEq] at he
        obtain ⟨h2, hb2, h3, hb3, rfl⟩ := he
        have hI : InOK s ks h0 := ⟨hnd, hin, fun k hk o ho q' hq' => by
          have := hshut k hk
          rw [ho] at this
          simp only [Option.map_some, Option.getD_some, List.all_eq_true] at this
          exact List.contains_iff_mem.1 (this q' hq')⟩
        have hK : ∀ k ∈ keysL (args.map AV.drop), k ∈ ks := fun k hk => List.contains_iff_mem.1 (hkeys k hk)
        obtain ⟨hrel, hown⟩ := h.into hI hv hK
        obtain ⟨hbody, hcalls⟩ := hc g _ _ q hq
        refine ⟨hbody, rfl, ?_⟩
        have hlen : (renL (inward ks) (args.map AV.drop)).length = vs.size := by
          rw [renL_len, List.length_map, VRL_len _ _ hv]; simp
        refine (hcalls _ w _ vs hlen hrel).mono ?_
        rintro e w' ⟨v, ι1, rfl, hg⟩
        -- the objects that come back
        have hexm : ∀ k ∈ ex, (look q.2 k).isSome = true ∧ k.1 ≠ 0 := by
          intro k hk
          rw [← hex] at hk
          have := (List.mem_filter.1 hk).2
          simp only [Bool.and_eq_true, bne_iff_ne] at this
          exact this.1
        have hndx : noDup ex = true := by rw [← hex]; exact noDup_filter hndo
        obtain ⟨b1, b2⟩ := backIn_look hnd hb2
        obtain ⟨c1, c2⟩ := backOut_look (fun k hk => (hexm k hk).1) hb3
        simp only [Nat.zero_add] at b1 c1 c2
        generalize hd : dst.getD 0 = d at *
        -- names behind the call
        have hσ0 : ∀ k : Key, k.1 = 0 → outward ks ex d k = ks.getD k.2 (0, 0) := fun k hk => by unfold outward; rw [if_pos hk]
        have hσ1 : ∀ j, j < ex.length → outward ks ex d (ex.getD j (0, 0)) = (d + 1, j) := by
          intro j hj
          have hm := getD_mem hj
          unfold outward
          rw [if_neg (hexm _ hm).2]
          obtain ⟨j', e1, e2, e3⟩ := idxOf_mem 0 hm
          have := noDup_mem hndx e2 hj e3
          subst this
          rw [e1]; simp
        have hks : ∀ j, j < ks.length → ∃ u, look s.heap (ks.getD j (0, 0)) = some u := fun j hj => by obtain ⟨u, e, _⟩ := hI.at2 hj; exact ⟨u, e⟩
        have hfresh : ∀ j, j < ex.length → look s.heap (d + 1, j) = none := by
          intro j hj
          have e1 := (c1 j hj).1
          by_cases hm : (d + 1, j) ∈ ks
          · obtain ⟨i, hi, hi2⟩ := mem_getD hm
            obtain ⟨u, hu⟩ := hks i hi
            obtain ⟨o, _, f⟩ := b1 i hi
            have := f u hu
            rw [hi2, e1] at this; cases this
          · rw [b2 _ hm] at e1; exact e1
        have hfreshn : ∀ k o, look s.heap k = some o → ∀ j, j < ex.length → k ≠ (d + 1, j) := by
          intro k o hk j hj e
          rw [e, hfresh j hj] at hk; cases hk
        -- where they lie
        let ι3 : Key → Nat := fun k => if k.1 = d + 1 ∧ k.2 < ex.length then ι1 (ex.getD k.2 (0, 0)) else ι k
        have hι3 : ∀ k, (∀ j, j < ex.length → k ≠ (d + 1, j)) → ι3 k = ι k := by
          intro k hk
          show (if k.1 = d + 1 ∧ k.2 < ex.length then _ else _) = _
          rw [if_neg]
          rintro ⟨e1, e2⟩
          exact hk k.2 e2 (by rw [← e1])
        have hι3' : ∀ j, j < ex.length → ι3 (d + 1, j) = ι1 (ex.getD j (0, 0)) := fun j hj => by
          show (if d + 1 = d + 1 ∧ j < ex.length then _ else _) = _
          rw [if_pos ⟨rfl, hj⟩]
        have hkeep : ∀ j, j < ks.length → (look q.2 (0, j)).map (·.d.t) = (look h0 (0, j)).map (·.d.t) ∧ ι1 (0, j) = ι (ks.getD j (0, 0)) := fun j hj => hg.keys (0, j) rfl
        let okk : Key → Prop := fun k => (k.1 = 0 ∧ k.2 < ks.length) ∨ k ∈ ex
        have hokk : ∀ k, ((k.1 == 0 && decide (k.2 < ks.length)) || ex.contains k) = true → okk k := by
          intro k hk
          simp only [Bool.or_eq_true, Bool.and_eq_true, beq_iff_eq, decide_eq_true_eq, List.contains_iff_mem] at hk
          exact hk
        have hokk' : ∀ k, okk k → ((k.1 == 0 && decide (k.2 < ks.length)) || ex.contains k) = true := by
          intro k hk
          simp only [Bool.or_eq_true, Bool.and_eq_true, beq_iff_eq, decide_eq_true_eq, List.contains_iff_mem]
          exact hk
        have l3 : ∀ k o, look s.heap k = some o → ∃ o3, look h3 k = some o3 ∧ o3.d.t = o.d.t ∧ ι3 k = ι k := by
          intro k o hk
          have hn := hfreshn k o hk
          rw [c2 k hn]
          by_cases hm : k ∈ ks
          · obtain ⟨i, hi, rfl⟩ := mem_getD hm
            obtain ⟨o1, f1, f2⟩ := b1 i hi
            refine ⟨_, f2 o hk, ?_, hι3 _ hn⟩
            obtain ⟨u, u1, u2⟩ := hI.at2 hi
            have := (hkeep i hi).1
            rw [f1, u2] at this
            rw [hk] at u1
            cases u1
            simpa [renO_t] using this
          · exact ⟨o, (b2 k hm).trans hk, rfl, hι3 _ hn⟩
        have hB : BackOK s ι ks q.1 q.2 ι1 okk (outward ks ex d) h3 ι3 := by
          refine ⟨fun k o hk => ?_, fun k1 o1 hk1 ho1 => ?_, l3, fun k hk => hokk k (hok1 k hk), fun k o hk ho q' hq' => hokk q' ?_⟩
          · by_cases hx : ∃ j, j < ex.length ∧ k = (d + 1, j)
            · obtain ⟨j, hj, rfl⟩ := hx
              obtain ⟨_, o1, f1, f2⟩ := c1 j hj
              rw [f2] at hk
              cases hk
              exact .inl ⟨_, o1, .inr (getD_mem hj), f1, hσ1 j hj, rfl, hι3' j hj⟩
            · have hn : ∀ j, j < ex.length → k ≠ (d + 1, j) := fun j hj e => hx ⟨j, hj, e⟩
              rw [c2 k hn] at hk
              by_cases hm : k ∈ ks
              · obtain ⟨i, hi, rfl⟩ := mem_getD hm
                obtain ⟨u, hu⟩ := hks i hi
                obtain ⟨o1, f1, f2⟩ := b1 i hi
                rw [f2 u hu] at hk
                cases hk
                exact .inl ⟨(0, i), o1, .inl ⟨rfl, hi⟩, f1, hσ0 (0, i) rfl, rfl, (hι3 _ hn).trans (hkeep i hi).2.symm⟩
              · rw [b2 k hm] at hk
                exact .inr ⟨hm, hk, hι3 _ hn⟩
          · rcases hk1 with ⟨e1, e2⟩ | hm
            · obtain ⟨k1a, i⟩ := k1
              simp only at e1 e2
              subst e1
              rw [hσ0 (0, i) rfl]
              obtain ⟨u, hu⟩ := hks i e2
              obtain ⟨o', f1, f2⟩ := b1 i e2
              rw [f1] at ho1
              cases ho1
              have hn := hfreshn _ u hu
              exact ⟨_, (c2 _ hn).trans (f2 u hu), rfl, (hι3 _ hn).trans (hkeep i e2).2.symm⟩
            · obtain ⟨j, hj, rfl⟩ := mem_getD hm
              rw [hσ1 j hj]
              obtain ⟨_, o', f1, f2⟩ := c1 j hj
              rw [f1] at ho1
              cases ho1
              exact ⟨_, f2, rfl, hι3' j hj⟩
          · have hp := hokk' k hk
            have hl := look_filter (p := fun k => (k.1 == 0 && decide (k.2 < ks.length)) || ex.contains k) q.2 k hp
            exact hok2 (k, o) (look_mem (hl.trans ho)) q' hq'
        obtain ⟨st, hist⟩ := h.back (dst.getD s.env.length) (fun l x hl => ⟨_, (hown l x hl).1, (hown l x hl).2.1⟩) hg.stp hg.hist hB
        refine ⟨v, ι3, rfl, st, hist, fun k hk => ?_⟩
        have hn : ∀ j, j < ex.length → k ≠ (d + 1, j) := fun j _ e => by rw [e] at hk; simp at hk
        refine ⟨?_, hι3 k hn⟩
        show (look h3 k).map _ = _
        cases hlk : look s.heap k with
        | some o =>
          obtain ⟨o3, f1, f2, _⟩ := l3 k o hlk
          rw [f1]; simp [f2]
        | none =>
          have hm : k ∉ ks := fun hm => by
            obtain ⟨i, hi, rfl⟩ := mem_getD hm
            obtain ⟨u, hu⟩ := hks i hi
            rw [hu] at hlk; cases hlk
          rw [c2 k hn, b2 k hm, hlk]
end Go.Am

/-
  Each operation is carried out as the machine says: calls; all of them.
-/
namespace Go.Am
variable {P : Program} {O : Orc} {FB : Nat → Nat → Prop} {w : World} {s : St} {ι : Key → Nat} {call : CallF} {draw : Bool} {f : FuncId} {rid i : Nat} {o : Oper} {a : Act} {r : Res}
variable {Q : Exit → Act → World → Prop} {next : Act → World → Prop}

theorem VRL_append {R : Rl} : ∀ (l m : List AV) (vs us : List Value), VRL R O l vs → VRL R O m us → VRL R O (l ++ m) (vs ++ us)
  | [], m, vs, us, h, h2 => by simp only [VRL] at h; subst h; exact h2
  | a :: l, m, vs, us, h, h2 => by
    simp only [VRL] at h
    obtain ⟨v, r, rfl, h1, h3⟩ := h
    simp only [List.cons_append, VRL]
    exact ⟨v, r ++ us, rfl, h1, VRL_append l m r us h3 h2⟩

theorem VRL_hints (hO : OrcOK P O) {R : Rl} {g : Nat → AV} (hs : Slots R O g a) (ts : Array TypeId) : ∀ (l : List Operand) (k : Nat), VRL R O ((l.zipIdx k).map fun (x, j) => val g ((ts[j]?).bind O.ty) x) (l.map a.eval)
  | [], _ => rfl
  | x :: l, k => by
    simp only [List.zipIdx_cons, List.map_cons, VRL]
    exact ⟨_, _, rfl, val_ok hs _ (bind_fine hO) x, VRL_hints hO hs ts l (k + 1)⟩

theorem run_enter {g : FuncId} (h : hasBody P g) (vs : Array Value) : (callFunc g vs).run P w = .ok (.enter g vs) w := by
  obtain ⟨fn, h1, h2, h3⟩ := h
  obtain ⟨c, hc⟩ := Option.isSome_iff_exists.1 h2
  have h4 : fn.name ≠ "runtime.NumGoroutine" := fun e => by rw [e] at h3; simp at h3
  simp [callFunc, h1, h4, hc]

theorem call_exec (hO : OrcOK P O) (hC : CallOK P O call) {c : Call} {x : Operand} (hop : o.op = .call c) (hc : c.callee = .value x) : OpOK P O call draw f rid i o := by
  intro FB w s ι a r Q next h hl he hn
  simp only [exec, hop, callO, hc] at he
  split at he
  · rename_i g first caps e
    have hv := val0 (slots_of h) x
    rw [e] at hv
    simp only [VR] at hv
    obtain ⟨vs, ws, hx, h1, h2⟩ := hv
    have hargs : VRL (rlOf w FB s (tmOf a) ι) O (first ++ (c.args.toList.zipIdx.map fun (x, j) => val s.get ((c.argTypes[j]?).bind O.ty) x) ++ caps) (vs ++ c.args.map a.eval ++ ws).toList := by
      simp only [Array.toList_append, Array.toList_map]
      exact VRL_append _ _ _ _ (VRL_append _ _ _ _ h1 (VRL_hints hO (slots_of h) _ _ 0)) h2
    obtain ⟨hb, htk, hcall⟩ := callA_ok hC h hargs he
    have hx : (execOp a.eval o).run P w = .ok (.enter g (vs ++ c.args.map a.eval ++ ws)) w := by
      simp only [execOp, hop, resolve, hc, hx, Deferred.ofValue, Sem.run_bind, Sem.run_pure, Result.andThen_ok, invoke]
      exact run_enter hb _
    unfold Oper.wp
    rw [hx, Oper.upon_enter]
    refine hcall.mono ?_
    rintro e w' ⟨v, ι', rfl, st, hist, hk⟩
    refine hn _ _ ι' (put_defers' _ _ _) (put_size _ _ _) ⟨?_, hist, fun k hk' => ?_⟩
    · rw [app_eq, put_eq, ← hl, htk]; exact st
    · rw [app_eq]; exact hk k hk'
  · cases he

/-- One operation. -/
theorem exec_ok (hO : OrcOK P O) (hC : CallOK P O call) : OpOK P O call draw f rid i o := by
  intro FB w s ι a r Q next h hl he hn
  cases hop : o.op with
  | move x => exact move_ok hO (.inl hop) h hl he hn
  | assign x => exact move_ok hO (.inr hop) h hl he hn
  | pick c x y => exact pick_ok hO hop h hl he hn
  | alloc T => exact alloc_ok hO hop h hl he hn
  | box T x => exact box_ok hO hop h hl he hn
  | build T ps => exact build_exec hO hop h hl he hn
  | buildSlice T n ps => exact buildSlice_ok hO hop h hl he hn
  | load T x => exact load_exec hO hop h hl he hn
  | store T x y => exact store_exec hO hop h hl he hn
  | nilCheck x => exact nilCheck_ok hop h hl he hn
  | binOp op T x y U => exact binOp_ok hO hop h hl he hn
  | unOp op T x => exact unOp_ok hO hop h hl he hn
  | convert T U x => exact convert_exec hO hop h hl he hn
  | makeFunc q first caps =>
    cases q with
    | func q => exact makeFunc_ok hop h hl he hn
    | _ => simp [exec, hop] at he
  | slice T x lo hi mx => exact slice_exec hO hop h hl he hn
  | fieldAddr T x k => exact fieldAddr_ok hO hop h hl he hn
  | field T x k => exact field_exec hO hop h hl he hn
  | indexAddr T x k => exact indexAddr_exec hO hop h hl he hn
  | index T x k => exact index_exec hO hop h hl he hn
  | extract x k => exact extract_exec hop h hl he hn
  | call c =>
    cases hc : c.callee with
    | builtin b => exact builtin_exec hO hop hc h hl he hn
    | value x => exact call_exec hO hC hop hc h hl he hn
    | invoke x n => simp [exec, hop, callO, hc] at he
  | _ => simp [exec, hop] at he
end Go.Am

/-
  A region, operation by operation.
-/
namespace Go.Am
variable {P : Program} {O : Orc} {FB : Nat → Nat → Prop} {w : World} {s s' : St} {ι : Key → Nat} {call : CallF} {draw : Bool} {f : FuncId} {rid i : Nat} {o : Oper} {a : Act} {r : Res} {ops : Array Oper}
variable {Q : Exit → Act → World → Prop} {next : Act → World → Prop}

theorem app_len (s : St) (d : Option Nat) (r : Res) : (s.app d r).env.length = s.env.length := by
  rw [app_eq]; cases r.tk <;> simp [takeE]
theorem step_len (h : step O call draw f rid ops i s = some s') : s'.env.length = s.env.length := by
  unfold step at h
  split at h
  · cases h
  · simp only [Option.map_eq_some_iff] at h
    obtain ⟨r, _, rfl⟩ := h
    exact app_len _ _ _
theorem steps_len : ∀ (l : List Nat) (s s' : St), steps O call draw f rid ops l s = some s' → s'.env.length = s.env.length
  | [], s, s', h => by simp only [steps, Option.some.injEq] at h; rw [h]
  | i :: l, s, s', h => by
    simp only [steps, Option.bind_eq_some_iff] at h
    obtain ⟨s1, h1, h2⟩ := h
    rw [steps_len l s1 s' h2, step_len h1]

theorem tm_get {d : Nat} {b : Bool} (h : tmOf a d = .bool b) : a.tmps[d]? = some (.bool b) := by
  unfold tmOf at h
  rw [Array.getD_eq_getD_getElem?] at h
  cases hd : a.tmps[d]? with
  | some v => rw [hd] at h; simpa using h
  | none => rw [hd] at h; simp [undef] at h

theorem yield_ok (h : Rel O FB w s (tmOf a) ι) {j : Nat} {y : Option Bool} (e : yieldA ops s.get j = some y) : yielded ops a.tmps j = y := by
  unfold yieldA at e
  split at e
  · rename_i d hd
    unfold yielded
    rw [hd]
    have hv := h.vr d
    split at e
    · rename_i own x hg
      cases e
      rw [hg] at hv
      simp only [VR] at hv
      have := tm_get hv.bool
      simp [this]
    · rename_i hg
      cases e
      rw [hg] at hv
      simp only [VR] at hv
      have hv' : a.tmps.getD d undef = undef := hv
      rw [Array.getD_eq_getD_getElem?] at hv'
      simp only [Option.bind_some]
      cases hx : a.tmps[d]? with
      | none => simp
      | some v =>
        rw [hx] at hv'
        simp only [Option.getD_some] at hv'
        rw [hv']
        simp [undef]
    · cases e
  · cases e

theorem skip_goes (h : Rel O FB w s (tmOf a) ι) (hl : s.env.length = a.tmps.size) (d : Option Nat) (hn : Leaves O FB w s ι a (s.app d ⟨.no, none, s.heap⟩) next) : next (a.put d undef) w := by
  refine hn _ _ ι (put_defers' _ _ _) (put_size _ _ _) ⟨?_, Hist.refl _ _, fun _ _ => ⟨by rw [app_eq], rfl⟩⟩
  rw [app_eq, put_eq, ← hl]
  exact h.set _ .no undef rfl nofun

/-- One operation of a region. -/
theorem step_ok (hO : OrcOK P O) (hC : CallOK P O call) (h : Rel O FB w s (tmOf a) ι) (hl : s.env.length = a.tmps.size) (he : step O call draw f rid ops i s = some s') (hn : Leaves O FB w s ι a s' next) : wpOp P ops Q i next a w := by
  unfold step at he
  unfold wpOp
  cases ho : ops[i]? with
  | none => rw [ho] at he; cases he
  | some o =>
    rw [ho] at he
    simp only [Option.map_eq_some_iff] at he
    obtain ⟨r, he, rfl⟩ := he
    simp only
    unfold stepG at he
    cases hg : o.guard with
    | none =>
      rw [hg] at he
      simp only at he
      have hw : Region.wanted o (yielded ops a.tmps) = true := by simp [Region.wanted, hg]
      rw [if_pos hw]
      exact .inl (exec_ok hO hC h hl he hn)
    | some jb =>
      obtain ⟨j, b⟩ := jb
      rw [hg] at he
      simp only at he
      split at he
      · rename_i x hy
        have hw : Region.wanted o (yielded ops a.tmps) = (x == b) := by
          simp only [Region.wanted, hg, yield_ok h hy]
          cases x <;> cases b <;> rfl
        cases hx : (x == b) with
        | true =>
          rw [hx] at he hw
          rw [if_pos hw]
          exact .inl (exec_ok hO hC h hl he hn)
        | false =>
          rw [hx] at he hw
          simp only [cond_false, Option.some.injEq] at he
          subst he
          rw [if_neg (by rw [hw]; decide)]
          exact skip_goes h hl _ hn
      · rename_i hy
        cases he
        have hw : Region.wanted o (yielded ops a.tmps) = false := by
          simp only [Region.wanted, hg, yield_ok h hy]
          rfl
        rw [if_neg (by rw [hw]; decide)]
        exact skip_goes h hl _ hn
      · cases he

theorem Leaves.chain (h : Rel O FB w s (tmOf a) ι) {s1 s2 : St} (hn : Leaves O FB w s ι a s2 next) {a1 : Act} {w1 : World} {ι1 : Key → Nat} (hd : a1.defers = a.defers) (hs : a1.tmps.size = a.tmps.size) (hg : Goes O FB w s (tmOf a) ι w1 s1 (tmOf a1) ι1) : Leaves O FB w1 s1 ι1 a1 s2 next :=
  fun a' w' ι' d' z' g' => hn a' w' ι' (d'.trans hd) (z'.trans hs) (Goes.trans h hg g')

/-- Operations, one behind another. -/
theorem steps_ok (hO : OrcOK P O) (hC : CallOK P O call) : ∀ (l : List Nat) {w : World} {s s' : St} {ι : Key → Nat} {a : Act}, Rel O FB w s (tmOf a) ι → s.env.length = a.tmps.size → steps O call draw f rid ops l s = some s' → Leaves O FB w s ι a s' (Q .normal) → wpOps P ops Q l a w
  | [], w, s, s', ι, a, h, hl, he, hn => by
    simp only [steps, Option.some.injEq] at he
    subst he
    exact hn _ _ ι rfl rfl (Goes.refl h)
  | i :: l, w, s, s', ι, a, h, hl, he, hn => by
    simp only [steps, Option.bind_eq_some_iff] at he
    obtain ⟨s1, h1, h2⟩ := he
    rw [wpOps_cons]
    refine step_ok hO hC h hl h1 fun a1 w1 ι1 hd hs hg => ?_
    exact steps_ok hO hC l hg.stp.rel (by rw [step_len h1, hl, hs]) h2 (hn.chain h hd hs hg)
end Go.Am

/-
  What an operation looks at.
-/
namespace Go.Am
variable {P : Program} {O : Orc} {call : CallF} {draw : Bool} {f : FuncId} {rid i : Nat} {o : Oper} {r : Res} {ops : Array Oper} {g g' : Nat → AV} {h h' : Heap}

theorem val_congr {t : Option Ty} {x : Operand} (hx : ∀ k, x = .tmp k → g k = g' k) : val g t x = val g' t x := by
  cases x with
  | tmp k => simp only [val]; rw [hx k rfl]
  | _ => rfl
theorem takeV_congr {tk : Bool} {t : Option Ty} {x : Operand} (hx : ∀ k, x = .tmp k → g k = g' k) : takeV tk g t x = takeV tk g' t x := by
  cases tk with
  | false => simp only [takeV]; rw [val_congr hx]
  | true => cases x with
    | tmp k => simp only [takeV]; rw [hx k rfl]
    | _ => simp only [takeV]; rfl
theorem vals_congr {t : Option Ty} {l : List Operand} (hx : ∀ x ∈ l, ∀ k, x = .tmp k → g k = g' k) : l.map (val g t) = l.map (val g' t) := List.map_congr_left fun x hm => val_congr (hx x hm)
theorem optval_congr {t : Option Ty} {l : Option Operand} (hx : ∀ x, l = some x → ∀ k, x = .tmp k → g k = g' k) : l.map (val g t) = l.map (val g' t) := by
  cases l with
  | none => rfl
  | some x => simp only [Option.map_some]; rw [val_congr (hx x rfl)]

theorem exec_congr (hg : ∀ t, Operand.tmp t ∈ o.op.operands → g t = g' t) : exec O call draw f rid i o g h = exec O call draw f rid i o g' h := by
  have hx : ∀ x, x ∈ o.op.operands → ∀ t : Option Ty, val g t x = val g' t x := fun x hm t => val_congr fun k e => hg k (e ▸ hm)
  have hk : ∀ x, x ∈ o.op.operands → ∀ (b : Bool) (t : Option Ty), takeV b g t x = takeV b g' t x := fun x hm b t => takeV_congr fun k e => hg k (e ▸ hm)
  clear hg
  unfold exec
  cases hop : o.op with
  | move x => rw [hop] at hk; simp only [hk x (by simp [Op.operands])]
  | assign x => rw [hop] at hk; simp only [hk x (by simp [Op.operands])]
  | pick c a b => rw [hop] at hx; simp only [hx c (by simp [Op.operands]), hx a (by simp [Op.operands]), hx b (by simp [Op.operands])]
  | box T x => rw [hop] at hx; simp only [hx x (by simp [Op.operands])]
  | build T ps =>
    rw [hop] at hx
    have : ∀ t : Ty, (ps.toList.map fun (i, x) => (i, val g (pTy t [i]) x)) = ps.toList.map fun (i, x) => (i, val g' (pTy t [i]) x) := fun t => List.map_congr_left fun p hp => by
      obtain ⟨i, x⟩ := p
      simp only [hx x (by simp [Op.operands]; exact ⟨i, by simpa using hp⟩)]
    simp only [this]
  | buildSlice T n ps =>
    rw [hop] at hx
    have : ∀ t : Ty, (ps.toList.map fun (i, x) => (i, val g (some t) x)) = ps.toList.map fun (i, x) => (i, val g' (some t) x) := fun t => List.map_congr_left fun p hp => by
      obtain ⟨i, x⟩ := p
      simp only [hx x (by simp [Op.operands]; exact ⟨i, by simpa using hp⟩)]
    simp only [this]
  | load T x => rw [hop] at hx; simp only [hx x (by simp [Op.operands])]
  | store T x y => rw [hop] at hx hk; simp only [hx x (by simp [Op.operands]), hk y (by simp [Op.operands])]
  | nilCheck x => rw [hop] at hx; simp only [hx x (by simp [Op.operands])]
  | binOp op T x y U => rw [hop] at hx; simp only [hx x (by simp [Op.operands]), hx y (by simp [Op.operands])]
  | unOp op T x => rw [hop] at hx; simp only [hx x (by simp [Op.operands])]
  | convert T U x => rw [hop] at hx; simp only [hx x (by simp [Op.operands])]
  | makeFunc q first caps =>
    rw [hop] at hx
    cases q with
    | func q =>
      have h1 : first.toList.map (val g none) = first.toList.map (val g' none) := List.map_congr_left fun x hm => hx x (by simp [Op.operands]; exact .inl (by simpa using hm)) none
      have h2 : caps.toList.map (val g none) = caps.toList.map (val g' none) := List.map_congr_left fun x hm => hx x (by simp [Op.operands]; exact .inr (by simpa using hm)) none
      simp only [h1, h2]
    | _ => rfl
  | slice T x lo hi mx =>
    rw [hop] at hx hk
    have h1 : lo.map (val g none) = lo.map (val g' none) := by
      cases lo with
      | none => rfl
      | some y => simp only [Option.map_some, hx y (by simp [Op.operands])]
    have h2 : hi.map (val g none) = hi.map (val g' none) := by
      cases hi with
      | none => rfl
      | some y => simp only [Option.map_some, hx y (by simp [Op.operands])]
    simp only [sliceA, hx x (by simp [Op.operands]), hk x (by simp [Op.operands]), h1, h2]
    cases mx with
    | none => rfl
    | some m =>
      cases hi with
      | none => rfl
      | some y => simp only [hx y (by simp [Op.operands]), hx m (by simp [Op.operands])]
  | fieldAddr T x k => rw [hop] at hx; simp only [hx x (by simp [Op.operands])]
  | field T x k => rw [hop] at hx; simp only [hx x (by simp [Op.operands])]
  | indexAddr T x k => rw [hop] at hx; simp only [hx x (by simp [Op.operands]), hx k (by simp [Op.operands])]
  | index T x k => rw [hop] at hx; simp only [hx x (by simp [Op.operands]), hx k (by simp [Op.operands])]
  | extract x k => rw [hop] at hx; simp only [hx x (by simp [Op.operands])]
  | call c =>
    rw [hop] at hx hk
    have ha : ∀ x ∈ c.args.toList, x ∈ (Op.call c).operands := fun x hm => by simp [Op.operands, Call.operands]; exact .inr (by simpa using hm)
    simp only [callO]
    cases hc : c.callee with
    | builtin b =>
      cases b with
      | len =>
        simp only
        split
        · rename_i x e; rw [hx x (ha x (by simp [e]))]
        · rfl
      | max =>
        simp only
        split
        · rename_i x y e; rw [hx x (ha x (by simp [e])), hx y (ha y (by simp [e]))]
        · rfl
      | min =>
        simp only
        split
        · rename_i x y e; rw [hx x (ha x (by simp [e])), hx y (ha y (by simp [e]))]
        · rfl
      | append =>
        simp only
        split
        · rename_i x y e; rw [hk x (ha x (by simp [e])), hx y (ha y (by simp [e]))]
        · rfl
      | _ => rfl
    | value x =>
      have h1 : val g none x = val g' none x := hx x (by simp [Op.operands, Call.operands, hc]) none
      have h2 : (c.args.toList.zipIdx.map fun (x, j) => val g ((c.argTypes[j]?).bind O.ty) x) = c.args.toList.zipIdx.map fun (x, j) => val g' ((c.argTypes[j]?).bind O.ty) x := List.map_congr_left fun p hp => by
        obtain ⟨x, j⟩ := p
        simp only [hx x (ha x (List.fst_mem_of_mem_zipIdx hp))]
      simp only [h1, h2]
    | invoke x n => rfl
  | _ => rfl
end Go.Am

/-
  Two operations that stand apart can change places.
-/
namespace Go.Am
variable {P : Program} {O : Orc} {call : CallF} {draw : Bool} {f : FuncId} {rid i j : Nat} {o : Oper} {r : Res} {ops : Array Oper} {g g' : Nat → AV} {h h' : Heap} {s s1 s2 : St}

theorem takeV_tk {tk : Bool} {t : Option Ty} {x : Operand} {k : Nat} (e : (takeV tk g t x).2 = some k) : tk = true ∧ x = .tmp k := by
  rcases takeV_spec (g := g) (tk := tk) (h := t) (x := x) with ⟨k', h1, h2, h3⟩ | h3
  · rw [h3] at e; simp only [Option.some.injEq] at e; rw [← e]; exact ⟨h1, h2⟩
  · rw [h3] at e; cases e

/-- An operation of class 0: memory is as it was, and makes no difference. -/
def Calm (O : Orc) (call : CallF) (draw : Bool) (f : FuncId) (rid i : Nat) (o : Oper) (g : Nat → AV) (h : Heap) (r : Res) : Prop :=
  (∀ k, r.tk = some k → O.take f rid i = true ∧ Operand.tmp k ∈ o.op.operands) ∧ r.h = h ∧ ∀ h', exec O call draw f rid i o g h' = some ⟨r.a, r.tk, h'⟩

theorem callA_calm {dst : Option Nat} {q : FuncId} {args : List AV} (he : callA O call true dst q args h = some r) : r.tk = none ∧ r.h = h ∧ ∀ h', callA O call true dst q args h' = some ⟨r.a, none, h'⟩ := by
  unfold callA at he
  simp only [forceKs_eq] at he
  split at he
  · cases he
  · rename_i hcond
    simp only [Bool.or_eq_true, not_or, Bool.true_and, Bool.not_eq_true'] at hcond
    obtain ⟨⟨⟨hdr, hkeys⟩, _⟩, hnd⟩ := hcond
    obtain ⟨hk0, ho0⟩ := (by simpa using hdr : reach h 50 (keysL (List.map AV.drop args)) [] = [] ∧ O.out q = [])
    rw [hk0] at he hkeys
    have hargs : keysL (List.map AV.drop args) = [] := by
      cases hq : keysL (List.map AV.drop args) with
      | nil => rfl
      | cons a l => rw [hq] at hkeys; simp at hkeys
    simp only [inObs, Option.bind_some, List.all_nil, Bool.not_true, Bool.false_eq_true, if_false, ho0, List.filter_nil, backIn, backOut, Option.bind_eq_some_iff] at he
    obtain ⟨p, hp, he⟩ := he
    split at he
    · cases he
    · rename_i hok
      simp only [Option.some.injEq] at he
      subst he
      refine ⟨rfl, rfl, fun h' => ?_⟩
      unfold callA
      simp only [forceKs_eq, hargs, reach, ho0, List.isEmpty_nil, Bool.and_self, Bool.not_true, Bool.and_false, List.all_nil, noDup, Bool.or_self, Bool.false_eq_true, if_false, inObs, Option.bind_some, List.filter_nil, hp, backIn, backOut]
      rw [if_neg hok]

theorem exec_calm (hc : opClass (O.take f rid i) o.op = 0) (hdr : draw = true) (he : exec O call draw f rid i o g h = some r) : Calm O call draw f rid i o g h r := by
  subst hdr
  cases hop : o.op with
  | move x =>
    simp only [exec, hop] at he
    cases he
    exact ⟨fun k hk => by obtain ⟨a, b⟩ := takeV_tk hk; exact ⟨a, by simp [Op.operands, hop, b]⟩, rfl, fun h' => by simp only [exec, hop]⟩
  | assign x =>
    simp only [exec, hop] at he
    cases he
    exact ⟨fun k hk => by obtain ⟨a, b⟩ := takeV_tk hk; exact ⟨a, by simp [Op.operands, hop, b]⟩, rfl, fun h' => by simp only [exec, hop]⟩
  | pick c a b =>
    simp only [exec, hop] at he
    split at he
    · rename_i own x e
      cases he
      exact ⟨nofun, rfl, fun h' => by simp only [exec, hop, e]⟩
    · cases he
  | build T ps =>
    simp only [exec, hop, Option.bind_eq_some_iff] at he
    obtain ⟨t, hT, he⟩ := he
    split at he
    · cases he
    · rename_i hag
      simp only [Option.map_eq_some_iff] at he
      obtain ⟨b, hb, rfl⟩ := he
      exact ⟨nofun, rfl, fun h' => by simp only [exec, hop, hT, Option.bind_some, hb, Option.map_some, if_neg hag]⟩
  | buildSlice T n ps =>
    simp only [exec, hop] at he
    split at he
    · rename_i t hT
      split at he
      · rename_i hn
        simp only [Option.map_eq_some_iff] at he
        obtain ⟨b, hb, rfl⟩ := he
        exact ⟨nofun, rfl, fun h' => by simp only [exec, hop, hT, if_pos hn, hb, Option.map_some]⟩
      · cases he
    · cases he
  | nilCheck x =>
    simp only [exec, hop] at he
    split at he
    · rename_i k p e; cases he; exact ⟨nofun, rfl, fun h' => by simp only [exec, hop, e]⟩
    · rename_i k p e; cases he; exact ⟨nofun, rfl, fun h' => by simp only [exec, hop, e]⟩
    · rename_i k p e; cases he; exact ⟨nofun, rfl, fun h' => by simp only [exec, hop, e]⟩
    · cases he
  | binOp op T x y U =>
    simp only [exec, hop, Option.map_eq_some_iff] at he
    obtain ⟨b, hb, rfl⟩ := he
    exact ⟨nofun, rfl, fun h' => by simp only [exec, hop, hb, Option.map_some]⟩
  | unOp op T x =>
    simp only [exec, hop, Option.map_eq_some_iff] at he
    obtain ⟨b, hb, rfl⟩ := he
    exact ⟨nofun, rfl, fun h' => by simp only [exec, hop, hb, Option.map_some]⟩
  | convert T U x =>
    simp only [exec, hop, Option.map_eq_some_iff] at he
    obtain ⟨b, hb, rfl⟩ := he
    exact ⟨nofun, rfl, fun h' => by simp only [exec, hop, hb, Option.map_some]⟩
  | makeFunc q first caps =>
    cases q with
    | func q =>
      simp only [exec, hop] at he
      cases he
      exact ⟨nofun, rfl, fun h' => by simp only [exec, hop]⟩
    | _ => simp [exec, hop] at he
  | slice T x lo hi mx =>
    simp only [exec, hop, sliceA] at he
    cases mx with
    | none =>
      simp only at he
      split at he
      · rename_i n t hT
        split at he
        · rename_i q p e
          split at he
          · rename_i hcd
            simp only [Option.bind_eq_some_iff] at he
            obtain ⟨d, hd, he⟩ := he
            have hd' : ∀ h', loadV O h' (.gp q p) = some d := fun h' => hd
            have hp' : ∀ h', (lo.isNone && hi.isNone && ptsTo O h' T (.gp q p)) = true := fun h' => hcd
            split at he
            · rename_i n' t' l
              split at he
              · rename_i ht
                subst ht
                split at he
                · rename_i hn
                  cases he
                  exact ⟨nofun, rfl, fun h' => by simp only [exec, hop, sliceA, hT, e, hp' h', if_true, hd' h', Option.bind_some, dif_pos trivial, if_pos hn]⟩
                · cases he
              · cases he
            · cases he
          · cases he
        · cases he
      · rename_i u hu
        simp only [Option.map_eq_some_iff] at he
        obtain ⟨b, hb, rfl⟩ := he
        refine ⟨fun k hk => by obtain ⟨a, b⟩ := takeV_tk hk; exact ⟨a, by simp [Op.operands, hop, b]⟩, rfl, fun h' => ?_⟩
        simp only [exec, hop, sliceA]
        cases hT : O.ty T with
        | none => rw [hT] at hb; simp only [hb, Option.map_some]
        | some t =>
          cases t with
          | arr n t => exact absurd hT (hu n t)
          | _ => rw [hT] at hb; simp only [hb, Option.map_some]
    | some m =>
      cases hi with
      | none => cases he
      | some y =>
        simp only at he
        split at he
        · rename_i hcd
          split at he
          · rename_i t hT
            simp only [Option.map_eq_some_iff] at he
            obtain ⟨b, hb, rfl⟩ := he
            exact ⟨nofun, rfl, fun h' => by simp only [exec, hop, sliceA, hcd, hT, hb, Option.map_some]; simp⟩
          · cases he
        · cases he
  | field T x k =>
    simp only [exec, hop] at he
    split at he
    · rename_i own t y e
      split at he
      · rename_i hT
        simp only [Option.map_eq_some_iff] at he
        obtain ⟨b, hb, rfl⟩ := he
        exact ⟨nofun, rfl, fun h' => by simp only [exec, hop, e, if_pos hT, hb, Option.map_some]⟩
      · cases he
    · cases he
  | index T x k =>
    simp only [exec, hop] at he
    split at he
    · rename_i own t y e
      split at he
      · rename_i hT
        simp only [Option.map_eq_some_iff] at he
        obtain ⟨b, hb, rfl⟩ := he
        exact ⟨nofun, rfl, fun h' => by simp only [exec, hop, e, if_pos hT, hb, Option.map_some]⟩
      · cases he
    · cases he
  | extract x k =>
    simp only [exec, hop] at he
    split at he
    · rename_i l e
      simp only [Option.map_eq_some_iff] at he
      obtain ⟨b, hb, rfl⟩ := he
      exact ⟨nofun, rfl, fun h' => by simp only [exec, hop, e, hb, Option.map_some]⟩
    · cases he
  | call c =>
    simp only [exec, hop, callO] at he
    cases hcl : c.callee with
    | builtin b =>
      rw [hcl] at he
      cases b with
      | len =>
        simp only at he
        split at he
        · rename_i x e
          simp only [Option.map_eq_some_iff] at he
          obtain ⟨b, hb, rfl⟩ := he
          exact ⟨nofun, rfl, fun h' => by simp only [exec, hop, callO, hcl, e, hb, Option.map_some]⟩
        · cases he
      | max =>
        simp only at he
        split at he
        · rename_i x y e
          simp only [Option.map_eq_some_iff] at he
          obtain ⟨b, hb, rfl⟩ := he
          exact ⟨nofun, rfl, fun h' => by simp only [exec, hop, callO, hcl, e, hb, Option.map_some]⟩
        · cases he
      | min =>
        simp only at he
        split at he
        · rename_i x y e
          simp only [Option.map_eq_some_iff] at he
          obtain ⟨b, hb, rfl⟩ := he
          exact ⟨nofun, rfl, fun h' => by simp only [exec, hop, callO, hcl, e, hb, Option.map_some]⟩
        · cases he
      | append =>
        simp only at he
        split at he
        · rename_i x y e
          simp only [Option.map_eq_some_iff] at he
          obtain ⟨b, hb, rfl⟩ := he
          refine ⟨fun k hk => ?_, rfl, fun h' => by simp only [exec, hop, callO, hcl, e, hb, Option.map_some]⟩
          obtain ⟨a, b⟩ := takeV_tk hk
          refine ⟨a, ?_⟩
          rw [hop]
          simp only [Op.operands, Call.operands, hcl, Array.mem_append]
          refine .inr ?_
          rw [← Array.mem_toList_iff, e, b]
          exact List.mem_cons_self
        · cases he
      | _ => simp at he
    | value x =>
      rw [hcl] at he
      simp only at he
      split at he
      · rename_i q first caps e
        obtain ⟨c1, c2, c3⟩ := callA_calm he
        exact ⟨fun k hk => (by rw [c1] at hk; cases hk), c2, fun h' => by simp only [exec, hop, callO, hcl, e, c3 h', c1]⟩
      · cases he
    | invoke x n => rw [hcl] at he; simp at he
  | load T x => rw [hop] at hc; simp only [opClass] at hc; split at hc <;> simp at hc
  | fieldAddr T x k => rw [hop] at hc; simp [opClass] at hc
  | indexAddr T x k => rw [hop] at hc; simp [opClass] at hc
  | store T x y => rw [hop] at hc; simp [opClass] at hc
  | alloc T => rw [hop] at hc; simp [opClass] at hc
  | box T x => rw [hop] at hc; simp [opClass] at hc
  | _ => simp [exec, hop] at he
end Go.Am

/-
  Two operations that stand apart change places.
-/
namespace Go.Am
variable {P : Program} {O : Orc} {call : CallF} {f : FuncId} {rid i j : Nat} {o : Oper} {r : Res} {ops : Array Oper} {g g' : Nat → AV} {h h' : Heap} {s s1 s2 : St}

theorem exec_reads (hc : opClass (O.take f rid i) o.op = 1) (he : exec O call true f rid i o g h = some r) : r.tk = none ∧ r.h = h := by
  cases hop : o.op with
  | load T x =>
    have htk : O.take f rid i = false := by
      rw [hop] at hc; simp only [opClass] at hc
      cases ht : O.take f rid i with
      | false => rfl
      | true => rw [ht] at hc; simp at hc
    simp only [exec, hop, loadA, htk, Option.bind_eq_some_iff] at he
    obtain ⟨d, _, he⟩ := he
    split at he
    · simp only [Bool.false_eq_true, if_false] at he; cases he; exact ⟨rfl, rfl⟩
    · cases he
  | fieldAddr T x k =>
    simp only [exec, hop] at he
    split at he
    · simp only [Option.map_eq_some_iff] at he
      obtain ⟨b, _, rfl⟩ := he; exact ⟨rfl, rfl⟩
    · cases he
  | indexAddr T x k =>
    simp only [exec, hop] at he
    split at he
    · split at he
      · simp only [Option.map_eq_some_iff] at he
        obtain ⟨b, _, rfl⟩ := he; exact ⟨rfl, rfl⟩
      · cases he
    · simp only [Option.map_eq_some_iff] at he
      obtain ⟨b, _, rfl⟩ := he; exact ⟨rfl, rfl⟩
  | _ => rw [hop] at hc; simp [opClass] at hc

theorem exec_tk (he : exec O call true f rid i o g h = some r) {k : Nat} (hk : r.tk = some k) : O.take f rid i = true ∧ Operand.tmp k ∈ o.op.operands := by
  rcases Nat.lt_trichotomy (opClass (O.take f rid i) o.op) 1 with hc | hc | hc
  · exact (exec_calm (by omega) rfl he).1 k hk
  · rw [(exec_reads hc he).1] at hk; cases hk
  · cases hop : o.op with
    | load T x =>
      simp only [exec, hop, loadA, Option.bind_eq_some_iff] at he
      obtain ⟨d, _, he⟩ := he
      split at he
      · split at he
        · split at he
          · simp only [Option.bind_eq_some_iff, Option.some.injEq] at he
            obtain ⟨b, _, rfl⟩ := he; cases hk
          · cases he
        · cases he; cases hk
      · cases he
    | store T x y =>
      simp only [exec, hop, Option.bind_eq_some_iff] at he
      obtain ⟨d, _, he⟩ := he
      split at he
      · simp only [Option.map_eq_some_iff] at he
        obtain ⟨h', _, rfl⟩ := he
        obtain ⟨a, b⟩ := takeV_tk hk
        exact ⟨a, by simp [Op.operands, b]⟩
      · cases he
    | alloc T =>
      simp only [exec, hop, Option.bind_eq_some_iff] at he
      obtain ⟨t, _, he⟩ := he
      obtain ⟨d, _, _, rfl⟩ := allocA_some he
      cases hk
    | box T x =>
      simp only [exec, hop, Option.bind_eq_some_iff] at he
      obtain ⟨t, _, he⟩ := he
      split at he
      · obtain ⟨d, _, _, rfl⟩ := allocA_some he
        cases hk
      · cases he
    | _ => rw [hop] at hc; simp [opClass] at hc

def cls (O : Orc) (f : FuncId) (rid i : Nat) (o : Oper) : Nat := opClass (O.take f rid i) o.op

theorem opReads_op {o : Oper} {t : Nat} (h : Operand.tmp t ∈ o.op.operands) : t ∈ opReads ops o := by
  unfold opReads
  refine List.mem_append_left _ (List.mem_filterMap.2 ⟨.tmp t, by simpa using h, rfl⟩)

theorem yieldA_congr {j : Nat} (hg : ∀ t, (ops[j]?).bind (·.dst) = some t → g t = g' t) : yieldA ops g j = yieldA ops g' j := by
  unfold yieldA
  cases hd : (ops[j]?).bind (·.dst) with
  | none => rfl
  | some d => simp only [hg d hd]

theorem stepG_congr (hg : ∀ t ∈ opReads ops o, g t = g' t) : stepG O call true f rid ops i o g h = stepG O call true f rid ops i o g' h := by
  unfold stepG
  have he := exec_congr (O := O) (call := call) (draw := true) (f := f) (rid := rid) (i := i) (o := o) (h := h) (g := g) (g' := g') fun t ht => hg t (opReads_op ht)
  cases hgd : o.guard with
  | none => simp only [he]
  | some jb =>
    obtain ⟨j, b⟩ := jb
    have hy := yieldA_congr (ops := ops) (g := g) (g' := g') (j := j) fun t ht => hg t (by
      unfold opReads
      refine List.mem_append_right _ ?_
      simp [hgd, ht])
    simp only [he, hy]

theorem stepG_cases (he : stepG O call true f rid ops i o g h = some r) : (exec O call true f rid i o g h = some r ∧ ∀ h', stepG O call true f rid ops i o g h' = exec O call true f rid i o g h') ∨ (r = ⟨.no, none, h⟩ ∧ ∀ h', stepG O call true f rid ops i o g h' = some ⟨.no, none, h'⟩) := by
  unfold stepG at he
  cases hgd : o.guard with
  | none => rw [hgd] at he; exact .inl ⟨he, fun h' => by unfold stepG; rw [hgd]⟩
  | some jb =>
    obtain ⟨j, b⟩ := jb
    rw [hgd] at he
    simp only at he
    cases hy : yieldA ops g j with
    | none => rw [hy] at he; cases he
    | some y =>
      rw [hy] at he
      cases y with
      | none => simp only [Option.some.injEq] at he; exact .inr ⟨he.symm, fun h' => by unfold stepG; rw [hgd]; simp only [hy]⟩
      | some x =>
        simp only at he
        cases hx : (x == b) with
        | true => rw [hx] at he; exact .inl ⟨he, fun h' => by unfold stepG; rw [hgd]; simp only [hy, hx, cond_true]⟩
        | false =>
          rw [hx] at he
          simp only [cond_false, Option.some.injEq] at he
          exact .inr ⟨he.symm, fun h' => by unfold stepG; rw [hgd]; simp only [hy, hx, cond_false]⟩

theorem stepG_calm (hc : cls O f rid i o = 0) (he : stepG O call true f rid ops i o g h = some r) : r.h = h ∧ ∀ h', stepG O call true f rid ops i o g h' = some ⟨r.a, r.tk, h'⟩ := by
  rcases stepG_cases he with ⟨h1, h2⟩ | ⟨rfl, h2⟩
  · obtain ⟨_, c1, c2⟩ := exec_calm hc rfl h1
    exact ⟨c1, fun h' => (h2 h').trans (c2 h')⟩
  · exact ⟨rfl, h2⟩
theorem stepG_reads (hc : cls O f rid i o = 1) (he : stepG O call true f rid ops i o g h = some r) : r.h = h := by
  rcases stepG_cases he with ⟨h1, h2⟩ | ⟨rfl, h2⟩
  · exact (exec_reads hc h1).2
  · rfl
theorem stepG_tk (he : stepG O call true f rid ops i o g h = some r) {k : Nat} (hk : r.tk = some k) : k ∈ opWrites (O.take f rid i) o := by
  rcases stepG_cases he with ⟨h1, h2⟩ | ⟨rfl, h2⟩
  · obtain ⟨a, b⟩ := exec_tk h1 hk
    unfold opWrites
    rw [a]
    refine List.mem_append_right _ ?_
    simp only [if_true]
    exact List.mem_filterMap.2 ⟨.tmp k, by simpa using b, rfl⟩
  · cases hk
theorem dst_writes {o : Oper} {d : Nat} {b : Bool} (h : o.dst = some d) : d ∈ opWrites b o := by
  unfold opWrites; rw [h]; exact List.mem_append_left _ (by simp)

theorem get_app (s : St) (d : Option Nat) (r : Res) (t : Nat) : (s.app d r).get t = if d = some t ∧ t < s.env.length then r.a else if r.tk = some t then (s.get t).drop else s.get t := by
  rw [app_eq]
  show ((takeE s.env r.tk).set (d.getD s.env.length) r.a).getD t .any = _
  rw [getD_set, takeE_get]
  have hl : (takeE s.env r.tk).length = s.env.length := by cases r.tk <;> simp [takeE]
  rw [hl]
  have e : (if some t = r.tk then (s.env.getD t .any).drop else s.env.getD t .any) = if r.tk = some t then (s.get t).drop else s.get t := by
    by_cases hk : r.tk = some t
    · rw [if_pos hk, if_pos hk.symm]; rfl
    · rw [if_neg hk, if_neg (fun h => hk h.symm)]; rfl
  rw [e]
  cases d with
  | none => simp only [Option.getD_none]; rw [if_neg (show ¬ (t = s.env.length ∧ s.env.length < s.env.length) by omega), if_neg (show ¬ ((none : Option Nat) = some t ∧ t < s.env.length) by simp)]
  | some d =>
    simp only [Option.getD_some, Option.some.injEq]
    by_cases h1 : t = d
    · subst h1
      by_cases h2 : t < s.env.length
      · simp [h2]
      · simp [h2]
    · rw [if_neg (show ¬ (t = d ∧ d < s.env.length) from fun h => h1 h.1), if_neg (show ¬ (d = t ∧ t < s.env.length) from fun h => h1 h.1.symm)]

theorem st_ext {s s' : St} (h1 : s.env.length = s'.env.length) (h2 : ∀ t, s.get t = s'.get t) (h3 : s.heap = s'.heap) : s = s' := by
  obtain ⟨e, h⟩ := s
  obtain ⟨e', h'⟩ := s'
  simp only at h1 h3
  subst h3
  congr 1
  refine List.ext_getElem h1 fun n hn hn' => ?_
  have := h2 n
  simp only [St.get, List.getD_eq_getElem?_getD, List.getElem?_eq_getElem hn, List.getElem?_eq_getElem hn', Option.getD_some] at this
  exact this

theorem step_comm (ha : apart O f rid ops i j = true) (h1 : step O call true f rid ops i s = some s1) (h2 : step O call true f rid ops j s1 = some s2) :
    ∃ s1', step O call true f rid ops j s = some s1' ∧ step O call true f rid ops i s1' = some s2 := by
  unfold apart apartS at ha
  unfold step at h1 h2
  cases hi : ops[i]? with
  | none => rw [hi] at h1; cases h1
  | some a =>
    cases hj : ops[j]? with
    | none => rw [hj] at h2; cases h2
    | some b =>
      rw [hi] at h1
      rw [hj] at h2
      rw [hi, hj] at ha
      simp only [Bool.and_eq_true, Bool.or_eq_true, beq_iff_eq, List.all_eq_true, Bool.not_eq_true'] at ha
      obtain ⟨hcl, hw1, hw2⟩ := ha
      simp only [Option.map_eq_some_iff] at h1 h2
      obtain ⟨r1, e1, rfl⟩ := h1
      obtain ⟨r2, e2, rfl⟩ := h2
      have w1 : ∀ d ∈ opWrites (O.take f rid i) a, d ∉ opReads ops b ∧ d ∉ opWrites (O.take f rid j) b := fun d hd => by
        obtain ⟨x, y⟩ := hw1 d hd
        exact ⟨fun hm => (by have := List.contains_iff_mem.2 hm; rw [x] at this; cases this), fun hm => (by have := List.contains_iff_mem.2 hm; rw [y] at this; cases this)⟩
      have w2 : ∀ d ∈ opWrites (O.take f rid j) b, d ∉ opReads ops a := fun d hd hm => by
        have x := hw2 d hd
        have := List.contains_iff_mem.2 hm
        rw [x] at this; cases this
      have k1 : ∀ t, a.dst = some t → t ∈ opWrites (O.take f rid i) a := fun t ht => dst_writes ht
      have k2 : ∀ t, b.dst = some t → t ∈ opWrites (O.take f rid j) b := fun t ht => dst_writes ht
      -- what b reads is as it was
      have g1 : ∀ t ∈ opReads ops b, s.get t = (s.app a.dst r1).get t := by
        intro t ht
        rw [get_app, if_neg, if_neg]
        · intro hk; exact (w1 t (stepG_tk e1 hk)).1 ht
        · rintro ⟨hd, _⟩; exact (w1 t (k1 t hd)).1 ht
      have hh : (s.app a.dst r1).heap = r1.h := by rw [app_eq]
      rw [hh] at e2
      have e2' : stepG O call true f rid ops j b s.get r1.h = some r2 := (stepG_congr g1).trans e2
      -- b first
      have fin : ∀ r2' : Res, stepG O call true f rid ops j b s.get s.heap = some r2' → r2'.a = r2.a → r2'.tk = r2.tk → (∀ g', (∀ t ∈ opReads ops a, s.get t = g' t) → ∃ r1', stepG O call true f rid ops i a g' r2'.h = some r1' ∧ r1'.a = r1.a ∧ r1'.tk = r1.tk ∧ r1'.h = r2.h) →
          ∃ s1', step O call true f rid ops j s = some s1' ∧ step O call true f rid ops i s1' = some ((s.app a.dst r1).app b.dst r2) := by
        intro r2' b1 b2 b3 b4
        refine ⟨s.app b.dst r2', ?_, ?_⟩
        · unfold step; rw [hj]; simp only [b1, Option.map_some]
        · unfold step; rw [hi]
          have hh' : (s.app b.dst r2').heap = r2'.h := by rw [app_eq]
          obtain ⟨r1', c1, c2, c3, c4⟩ := b4 (s.app b.dst r2').get (fun t ht => by
            rw [get_app, if_neg, if_neg]
            · intro hk; rw [b3] at hk; exact w2 t (stepG_tk e2' hk) ht
            · rintro ⟨hd, _⟩; exact w2 t (k2 t hd) ht)
          simp only [hh', c1, Option.map_some, Option.some.injEq]
          refine st_ext (by simp only [app_len]) (fun t => ?_) ?_
          · simp only [get_app, app_len, c2, c3, b2, b3]
            by_cases ta : t ∈ opWrites (O.take f rid i) a
            · have tb := (w1 t ta).2
              have n1 : ¬ (b.dst = some t ∧ t < s.env.length) := fun hd => tb (k2 t hd.1)
              have n2 : ¬ r2.tk = some t := fun hk => tb (stepG_tk e2' hk)
              simp only [if_neg n1, if_neg n2]
            · have n1 : ¬ (a.dst = some t ∧ t < s.env.length) := fun hd => ta (k1 t hd.1)
              have n2 : ¬ r1.tk = some t := fun hk => ta (stepG_tk e1 hk)
              simp only [if_neg n1, if_neg n2]
          · rw [app_eq, app_eq]; exact c4
      have hcong : ∀ (h' : Heap) (g' : Nat → AV), (∀ t ∈ opReads ops a, s.get t = g' t) → stepG O call true f rid ops i a g' h' = stepG O call true f rid ops i a s.get h' := fun h' g' hg => (stepG_congr hg).symm
      rcases hcl with (hca | hcb) | ⟨hca, hcb⟩
      · obtain ⟨m1, m2⟩ := stepG_calm hca e1
        rw [m1] at e2'
        refine fin r2 e2' rfl rfl fun g' hg => ⟨⟨r1.a, r1.tk, r2.h⟩, ?_, rfl, rfl, rfl⟩
        rw [hcong _ _ hg]; exact m2 _
      · obtain ⟨m1, m2⟩ := stepG_calm hcb e2'
        refine fin ⟨r2.a, r2.tk, s.heap⟩ (m2 _) rfl rfl fun g' hg => ⟨r1, ?_, rfl, rfl, m1.symm⟩
        rw [hcong _ _ hg]; exact e1
      · have m1 := stepG_reads hca e1
        have m2 := stepG_reads hcb e2'
        rw [m1] at e2'
        refine fin r2 e2' rfl rfl fun g' hg => ⟨r1, ?_, rfl, rfl, m2.symm⟩
        rw [hcong _ _ hg, m2, m1]; exact e1

/-- An operation that stands apart from all ahead of it can be done first. -/
theorem steps_front : ∀ (pre post : List Nat) (s s' : St), (∀ x ∈ pre, apart O f rid ops x i = true) → steps O call true f rid ops (pre ++ i :: post) s = some s' →
    ∃ s1, step O call true f rid ops i s = some s1 ∧ steps O call true f rid ops (pre ++ post) s1 = some s'
  | [], post, s, s', _, h => by
    simp only [List.nil_append, steps, Option.bind_eq_some_iff] at h
    exact h
  | x :: pre, post, s, s', ha, h => by
    simp only [List.cons_append, steps, Option.bind_eq_some_iff] at h
    obtain ⟨sx, h1, h2⟩ := h
    obtain ⟨s2, h3, h4⟩ := steps_front pre post sx s' (fun y hy => ha y (List.mem_cons_of_mem _ hy)) h2
    obtain ⟨s1, h5, h6⟩ := step_comm (ha x List.mem_cons_self) h1 h3
    refine ⟨s1, h5, ?_⟩
    simp only [List.cons_append, steps, h6, Option.bind_some]
    exact h4
end Go.Am

/-
  A region whose order is drawn.
-/
namespace Go.Am
variable {P : Program} {O : Orc} {FB : Nat → Nat → Prop} {call : CallF} {f : FuncId} {rid i j : Nat} {o : Oper} {r : Res} {ops : Array Oper} {Q : Exit → Act → World → Prop}

theorem aheadOf_bit {acc : List Nat} {x : Nat} : ∀ (es : List Edge) (s : Nat), (aheadOf acc es s).testBit x = true → s.testBit x = true ∨ ∃ e ∈ es, Region.binds .any e = true ∧ (x = e.on ∨ (acc.getD e.on 0).testBit x = true)
  | [], s, h => .inl h
  | e :: es, s, h => by
    simp only [aheadOf] at h
    rcases aheadOf_bit es _ h with h | ⟨e', h1, h2⟩
    · split at h
      · rename_i hb
        simp only [Nat.testBit_or, Bool.or_eq_true, Nat.testBit_two_pow, decide_eq_true_eq] at h
        rcases h with (h | h) | h
        · exact .inl h
        · exact .inr ⟨e, List.mem_cons_self, hb, .inl h.symm⟩
        · exact .inr ⟨e, List.mem_cons_self, hb, .inr h⟩
      · exact .inl h
    · exact .inr ⟨e', List.mem_cons_of_mem _ h1, h2⟩

theorem aheads_spec : ∀ (l : List Oper) (acc : List Nat), ∃ m, aheads l acc = acc ++ m ∧ ∀ k o, l[k]? = some o → (acc ++ m).getD (acc.length + k) 0 = aheadOf ((acc ++ m).take (acc.length + k)) o.after.toList 0
  | [], acc => ⟨[], by simp [aheads], fun k o h => by simp at h⟩
  | o :: l, acc => by
    obtain ⟨m, h1, h2⟩ := aheads_spec l (acc ++ [aheadOf acc o.after.toList 0])
    refine ⟨aheadOf acc o.after.toList 0 :: m, by simp only [aheads, h1]; simp, fun k o' hk => ?_⟩
    have e : acc ++ aheadOf acc o.after.toList 0 :: m = acc ++ [aheadOf acc o.after.toList 0] ++ m := by simp
    cases k with
    | zero =>
      simp only [List.getElem?_cons_zero, Option.some.injEq] at hk
      subst hk
      simp
    | succ k =>
      rw [List.getElem?_cons_succ] at hk
      have := h2 k o' hk
      rw [e, show acc.length + (k + 1) = (acc ++ [aheadOf acc o.after.toList 0]).length + k by simp; omega]
      exact this

def ah (ops : Array Oper) (i : Nat) : Nat := (aheads ops.toList []).getD i 0
theorem ah_bit {x : Nat} (ho : ops[i]? = some o) (h : (ah ops i).testBit x = true) : ∃ e ∈ o.after.toList, Region.binds .any e = true ∧ (x = e.on ∨ (ah ops e.on).testBit x = true) := by
  obtain ⟨m, h1, h2⟩ := aheads_spec ops.toList []
  simp only [List.nil_append, List.length_nil, Nat.zero_add] at h1 h2
  have := h2 i o (by simpa using ho)
  unfold ah at h ⊢
  rw [h1] at h ⊢
  rw [this] at h
  rcases aheadOf_bit _ _ h with h | ⟨e, e1, e2, e3⟩
  · simp at h
  · refine ⟨e, e1, e2, ?_⟩
    rcases e3 with e3 | e3
    · exact .inl e3
    · refine .inr ?_
      simp only [List.getD_eq_getElem?_getD, List.getElem?_take] at e3 ⊢
      split at e3
      · exact e3
      · simp at e3

def binding (e : Edge) : Prop := Region.binds .any e = true
/-- What is listed has all listed that it waits for. -/
def Cl (ops : Array Oper) (listed : Array Bool) : Prop := ∀ i o, ops[i]? = some o → listed.getD i false = true → ∀ e ∈ o.after.toList, Region.binds .any e = true → listed.getD e.on false = true
def Rest (ops : Array Oper) (listed : Array Bool) : List Nat := (List.range ops.size).filter fun i => !listed.getD i true

theorem getD_tf {listed : Array Bool} {i : Nat} (h : i < listed.size) (b : Bool) : listed.getD i b = listed.getD i false := by
  simp [Array.getD_eq_getD_getElem?, h]
theorem fwd_lt (hf : fwdOk ops = true) (ho : ops[i]? = some o) {e : Edge} (he : e ∈ o.after.toList) (hb : Region.binds .any e = true) : e.on < i := by
  unfold fwdOk at hf
  have hi : i < ops.size := by
    rcases Nat.lt_or_ge i ops.size with h | h
    · exact h
    · rw [Array.getElem?_eq_none h] at ho; cases ho
  have := List.all_eq_true.1 hf i (List.mem_range.2 hi)
  rw [ho] at this
  have := List.all_eq_true.1 this e he
  simpa [hb] using this
theorem Cl.ahead {listed : Array Bool} (hf : fwdOk ops = true) (hs : listed.size = ops.size) (hc : Cl ops listed) : ∀ (n i : Nat), i < n → i < ops.size → listed.getD i false = true → ∀ x, (ah ops i).testBit x = true → listed.getD x false = true
  | 0, _, h, _, _, _, _ => by omega
  | n + 1, i, h, hi, hl, x, hx => by
    obtain ⟨e, e1, e2, e3⟩ := ah_bit (Array.getElem?_eq_getElem hi) hx
    have hle := hc i _ (Array.getElem?_eq_getElem hi) hl e e1 e2
    rcases e3 with rfl | e3
    · exact hle
    · have := fwd_lt hf (Array.getElem?_eq_getElem hi) e1 e2
      exact Cl.ahead hf hs hc n e.on (by omega) (by omega) hle x e3

theorem ready_iff {listed : Array Bool} {i : Nat} : i ∈ Region.ready .any ops listed ↔ i < ops.size ∧ listed.getD i true = false ∧ ∀ o, ops[i]? = some o → ∀ e ∈ o.after.toList, Region.binds .any e = true → listed.getD e.on false = true := by
  unfold Region.ready
  rw [List.mem_filter, List.mem_range]
  constructor
  · rintro ⟨h1, h2⟩
    simp only [Bool.and_eq_true, Bool.not_eq_true'] at h2
    refine ⟨h1, h2.1, fun o ho e he hb => ?_⟩
    have h3 := h2.2
    rw [ho] at h3
    simp only [Option.map_some, Option.getD_some] at h3
    rw [← Array.all_toList, List.all_eq_true] at h3
    have := h3 e he
    simpa [hb] using this
  · rintro ⟨h1, h2, h3⟩
    refine ⟨h1, ?_⟩
    simp only [Bool.and_eq_true, Bool.not_eq_true']
    refine ⟨h2, ?_⟩
    rw [Array.getElem?_eq_getElem h1]
    simp only [Option.map_some, Option.getD_some]
    rw [← Array.all_toList, List.all_eq_true]
    intro e he
    cases hb : Region.binds .any e with
    | false => simp
    | true => simpa using h3 _ (Array.getElem?_eq_getElem h1) e he hb

theorem mem_rest {listed : Array Bool} {i : Nat} : i ∈ Rest ops listed ↔ i < ops.size ∧ listed.getD i true = false := by
  unfold Rest; rw [List.mem_filter, List.mem_range]; simp

theorem exists_ready (hf : fwdOk ops = true) {listed : Array Bool} (hs : listed.size = ops.size) : ∀ (n k : Nat), k < n → k ∈ Rest ops listed → ∃ i, i ∈ Region.ready .any ops listed
  | 0, _, h, _ => by omega
  | n + 1, k, h, hk => by
    obtain ⟨h1, h2⟩ := mem_rest.1 hk
    by_cases hr : ∀ o, ops[k]? = some o → ∀ e ∈ o.after.toList, Region.binds .any e = true → listed.getD e.on false = true
    · exact ⟨k, ready_iff.2 ⟨h1, h2, hr⟩⟩
    · simp only [Classical.not_forall] at hr
      obtain ⟨o, ho, e, he, hb, hn⟩ := hr
      have hlt := fwd_lt hf ho he hb
      refine exists_ready hf hs n e.on (by omega) (mem_rest.2 ⟨by omega, ?_⟩)
      rw [getD_tf (by omega)]
      simpa using hn

theorem range_split {n i : Nat} (h : i < n) : List.range n = List.range i ++ i :: (List.range (n - i - 1)).map (fun x => i + 1 + x) := by
  have : n = i + (1 + (n - i - 1)) := by omega
  conv => lhs; rw [this, List.range_add, List.range_add]
  simp [Nat.add_assoc]

theorem rest_split {listed : Array Bool} {i : Nat} (hs : listed.size = ops.size) (hi : i ∈ Rest ops listed) : ∃ pre post, Rest ops listed = pre ++ i :: post ∧ Rest ops (listed.setIfInBounds i true) = pre ++ post ∧ ∀ x ∈ pre, x < i ∧ x ∈ Rest ops listed := by
  obtain ⟨h1, h2⟩ := mem_rest.1 hi
  have hget : ∀ x, x ≠ i → (listed.setIfInBounds i true).getD x true = listed.getD x true := fun x hx => by
    simp only [Array.getD_eq_getD_getElem?, Array.getElem?_setIfInBounds]
    rw [if_neg (fun e => hx e.symm)]
  have hgi : (listed.setIfInBounds i true).getD i true = true := by
    simp only [Array.getD_eq_getD_getElem?, Array.getElem?_setIfInBounds]
    simp [hs, h1]
  have e1 : ∀ l : List Nat, (∀ x ∈ l, x ≠ i) → l.filter (fun x => !(listed.setIfInBounds i true).getD x true) = l.filter fun x => !listed.getD x true := fun l hl => by
    apply List.filter_congr
    intro x hx
    rw [hget x (hl x hx)]
  refine ⟨(List.range i).filter (fun x => !listed.getD x true), ((List.range (ops.size - i - 1)).map (fun x => i + 1 + x)).filter (fun x => !listed.getD x true), ?_, ?_, fun x hx => ?_⟩
  · unfold Rest
    rw [range_split h1, List.filter_append, List.filter_cons]
    simp [h2]
  · unfold Rest
    rw [range_split h1, List.filter_append, List.filter_cons, hgi, e1, e1]
    · simp
    · intro x hx
      obtain ⟨y, _, rfl⟩ := List.mem_map.1 hx
      omega
    · intro x hx
      have := List.mem_range.1 hx
      omega
  · obtain ⟨hx1, hx2⟩ := List.mem_filter.1 hx
    have := List.mem_range.1 hx1
    exact ⟨this, mem_rest.2 ⟨by omega, by simpa using hx2⟩⟩

theorem wpAny_ok (hO : OrcOK P O) (hC : CallOK P O call) (hd : drawOk O f rid ops = true) : ∀ (fuel : Nat) (listed : Array Bool) {w : World} {s s' : St} {ι : Key → Nat} {a : Act}, listed.size = ops.size → Cl ops listed → (Rest ops listed).length = fuel → Rel O FB w s (tmOf a) ι → s.env.length = a.tmps.size →
    steps O call true f rid ops (Rest ops listed) s = some s' → Leaves O FB w s ι a s' (Q .normal) → wpAny P .any ops Q fuel listed a w := by
  have hf : fwdOk ops = true := by unfold drawOk at hd; simp only [Bool.and_eq_true] at hd; exact hd.1
  have hap : ∀ j x, j < ops.size → x < j → (ah ops j).testBit x = true ∨ apart O f rid ops x j = true := by
    intro j x hj hx
    unfold drawOk at hd
    simp only [Bool.and_eq_true, List.all_eq_true, List.mem_range, Bool.or_eq_true] at hd
    exact hd.2 j hj x hx
  intro fuel
  induction fuel with
  | zero =>
    intro listed w s s' ι a hs hc hn h hl he hq
    have hr : Rest ops listed = [] := List.length_eq_zero_iff.1 hn
    rw [hr] at he
    simp only [steps, Option.some.injEq] at he
    subst he
    refine ⟨?_, hq _ _ ι rfl rfl (Goes.refl h)⟩
    refine List.eq_nil_iff_forall_not_mem.2 fun x hx => ?_
    obtain ⟨x1, x2, _⟩ := ready_iff.1 hx
    have : x ∈ Rest ops listed := mem_rest.2 ⟨x1, x2⟩
    rw [hr] at this; cases this
  | succ fuel ih =>
    intro listed w s s' ι a hs hc hn h hl he hq
    refine ⟨fun hr => ?_, fun i hi => ?_⟩
    · cases hR : Rest ops listed with
      | nil => rw [hR] at hn; simp at hn
      | cons k l =>
        obtain ⟨i, hi⟩ := exists_ready hf hs (k + 1) k (by omega) (by rw [hR]; exact List.mem_cons_self)
        rw [hr] at hi; cases hi
    · obtain ⟨i1, i2, i3⟩ := ready_iff.1 hi
      obtain ⟨pre, post, p1, p2, p3⟩ := rest_split hs (mem_rest.2 ⟨i1, i2⟩)
      rw [p1] at he hn
      have hfront : ∀ x ∈ pre, apart O f rid ops x i = true := by
        intro x hx
        obtain ⟨x1, x2⟩ := p3 x hx
        rcases hap i x i1 x1 with hb | hb
        · exfalso
          obtain ⟨x3, x4⟩ := mem_rest.1 x2
          rw [getD_tf (by omega)] at x4
          obtain ⟨e, e1, e2, e3⟩ := ah_bit (Array.getElem?_eq_getElem i1) hb
          have hle := i3 _ (Array.getElem?_eq_getElem i1) e e1 e2
          rcases e3 with rfl | e3
          · rw [x4] at hle; cases hle
          · have hlt := fwd_lt hf (Array.getElem?_eq_getElem i1) e1 e2
            have := Cl.ahead hf hs hc (e.on + 1) e.on (by omega) (by omega) hle x e3
            rw [x4] at this; cases this
        · exact hb
      obtain ⟨s1, q1, q2⟩ := steps_front pre post s s' hfront he
      refine step_ok hO hC h hl q1 fun a1 w1 ι1 hd1 hs1 hg => ?_
      refine ih (listed.setIfInBounds i true) (by simpa using hs) ?_ (by rw [p2]; simp only [List.length_append, List.length_cons] at hn ⊢; omega) hg.stp.rel (by rw [step_len q1, hl, hs1]) (by rw [p2]; exact q2) (hq.chain h hd1 hs1 hg)
      intro k o ho hk e he' hb
      have hmono : listed.getD e.on false = true → (listed.setIfInBounds i true).getD e.on false = true := fun hx => by
        simp only [Array.getD_eq_getD_getElem?, Array.getElem?_setIfInBounds] at hx ⊢
        split
        · split <;> simp_all
        · exact hx
      refine hmono ?_
      by_cases hki : k = i
      · subst hki; exact i3 o ho e he' hb
      · refine hc k o ho ?_ e he' hb
        simp only [Array.getD_eq_getD_getElem?, Array.getElem?_setIfInBounds] at hk ⊢
        rw [if_neg (fun e => hki e.symm)] at hk
        exact hk

/-- A region. -/
theorem region_ok (hO : OrcOK P O) (hm : P.follows .mixedOrders = true) (hC : CallOK P O call) {draw : Bool} (hd : draw = true → drawOk O f rid ops = true) {w : World} {s s' : St} {ι : Key → Nat} {a : Act} (h : Rel O FB w s (tmOf a) ι) (hl : s.env.length = a.tmps.size)
    (he : steps O call draw f rid ops (List.range ops.size) s = some s') (hq : Leaves O FB w s ι a s' (Q .normal)) : (Code.region rid ops draw).wp P Q a w := by
  cases draw with
  | false => exact wp_region (steps_ok hO hC _ h hl he hq)
  | true =>
    refine wp_region_any hm ?_
    have h1 : Stp O FB w s (tmOf a) ι { w with drawn := w.drawn + 1 } s (tmOf a) ι := h.heapEq rfl
    have hg : Goes O FB w s (tmOf a) ι { w with drawn := w.drawn + 1 } s (tmOf a) ι := ⟨h1, hist_heap _ ⟨rfl, rfl, rfl, rfl⟩, fun _ _ => ⟨rfl, rfl⟩⟩
    have hr : Rest ops (Array.replicate ops.size false) = List.range ops.size := by
      unfold Rest
      rw [List.filter_eq_self]
      intro x hx
      have := List.mem_range.1 hx
      simp [Array.getD_eq_getD_getElem?, this]
    refine wpAny_ok hO hC (hd rfl) ops.size (Array.replicate ops.size false) (by simp) ?_ (by rw [hr]; simp) h1.rel hl (by rw [hr]; exact he) (hq.chain h rfl rfl hg)
    intro i o ho hi
    have : i < ops.size := by
      rcases Nat.lt_or_ge i ops.size with h | h
      · exact h
      · rw [Array.getElem?_eq_none h] at ho; cases ho
    simp [Array.getD_eq_getD_getElem?, this] at hi
end Go.Am

/-
  Two operations whose footprints do not meet change places.
-/
namespace Go.Am
variable {P : Program} {O : Orc} {call : CallF} {f : FuncId} {rid i j : Nat} {o : Oper} {r : Res} {ops : Array Oper} {g g' : Nat → AV} {h h' : Heap} {s s1 s2 : St}

/-- What a step's footprint says of it: `e h'` is the step, from another memory. -/
def Eff (F : Foot) (h : Heap) (r : Res) (e : Heap → Option Res) : Prop := match F with
  | .zero => r.h = h ∧ ∀ h', e h' = some ⟨r.a, r.tk, h'⟩
  | .ty k => r.h = h ∧ ∀ h', (look h' k).map (·.d.t) = (look h k).map (·.d.t) → e h' = some ⟨r.a, r.tk, h'⟩
  | .rd k => r.h = h ∧ ∀ h', look h' k = look h k → e h' = some ⟨r.a, r.tk, h'⟩
  | .wr k => ∃ ob ob' : Ob, look h k = some ob ∧ ob'.d.t = ob.d.t ∧ r.h = over h k ob' ∧ ∀ h', look h' k = some ob → e h' = some ⟨r.a, r.tk, over h' k ob'⟩
  | .nw k => ∃ ob : Ob, look h k = none ∧ r.h = (k, ob) :: h ∧ ∀ h', look h' k = none → e h' = some ⟨r.a, r.tk, (k, ob) :: h'⟩
  | .all => True

theorem over_comm : ∀ (h : Heap) (k q : Key) (a b : Ob), k ≠ q → over (over h k a) q b = over (over h q b) k a
  | [], _, _, _, _, _ => rfl
  | (p, u) :: r, k, q, a, b, hn => by
    simp only [over]
    by_cases h1 : p = k
    · by_cases h2 : p = q
      · exact absurd (h1.symm.trans h2) hn
      · simp only [if_pos h1, if_neg h2, over]
    · by_cases h2 : p = q
      · simp only [if_neg h1, if_pos h2, over]
      · simp only [if_neg h1, if_neg h2, over]; rw [over_comm r k q a b hn]

theorem look_over_ne {h : Heap} {k q : Key} {o : Ob} (hn : q ≠ k) : look (over h k o) q = look h q := by rw [look_over, if_neg hn]
theorem look_over_ty {h : Heap} {k q : Key} {o u : Ob} (hk : look h k = some u) (ht : o.d.t = u.d.t) : (look (over h k o) q).map (·.d.t) = (look h q).map (·.d.t) := by
  rw [look_over]
  by_cases e : q = k
  · rw [if_pos e, e, hk]; simp [ht]
  · rw [if_neg e]
theorem look_cons_ne {h : Heap} {k q : Key} {o : Ob} (hn : q ≠ k) : look ((k, o) :: h) q = look h q := by rw [look_cons, if_neg hn]
theorem over_cons_ne {h : Heap} {k q : Key} {a b : Ob} (hn : k ≠ q) : over ((k, a) :: h) q b = (k, a) :: over h q b := by simp only [over, if_neg hn]

/-- Two steps, in either order. -/
theorem Eff.comm {Fi Fj : Foot} {r1 r2 : Res} {ei ej : Heap → Option Res} (hc : compat Fi Fj = true) (hi : Eff Fi h r1 ei) (hj : Eff Fj r1.h r2 ej) (e1 : ei h = some r1) (e2 : ej r1.h = some r2) :
    ∃ r2', ej h = some r2' ∧ r2'.a = r2.a ∧ r2'.tk = r2.tk ∧ ∃ r1', ei r2'.h = some r1' ∧ r1'.a = r1.a ∧ r1'.tk = r1.tk ∧ r1'.h = r2.h := by
  have keep : r1.h = h → (ei r2.h = some ⟨r1.a, r1.tk, r2.h⟩) → ∃ r2', ej h = some r2' ∧ r2'.a = r2.a ∧ r2'.tk = r2.tk ∧ ∃ r1', ei r2'.h = some r1' ∧ r1'.a = r1.a ∧ r1'.tk = r1.tk ∧ r1'.h = r2.h := fun m1 m2 =>
    ⟨r2, m1 ▸ e2, rfl, rfl, _, m2, rfl, rfl, rfl⟩
  have keep2 : r2.h = r1.h → ej h = some ⟨r2.a, r2.tk, h⟩ → ∃ r2', ej h = some r2' ∧ r2'.a = r2.a ∧ r2'.tk = r2.tk ∧ ∃ r1', ei r2'.h = some r1' ∧ r1'.a = r1.a ∧ r1'.tk = r1.tk ∧ r1'.h = r2.h := fun m1 m2 =>
    ⟨_, m2, rfl, rfl, r1, e1, rfl, rfl, m1.symm⟩
  cases Fi with
  | all => cases Fj <;> first | (simp [compat] at hc; done) | exact keep2 hj.1 (hj.2 h)
  | zero => exact keep hi.1 (hi.2 _)
  | ty k =>
    obtain ⟨m1, m2⟩ := hi
    rw [m1] at hj
    cases Fj with
    | zero => exact keep2 (hj.1.trans m1.symm) (hj.2 h)
    | ty q => exact keep m1 (m2 _ (by rw [hj.1]))
    | rd q => exact keep m1 (m2 _ (by rw [hj.1]))
    | wr q =>
      obtain ⟨ob, ob', a1, a2, a3, a4⟩ := hj
      exact keep m1 (m2 _ (by rw [a3]; exact look_over_ty a1 a2))
    | nw q =>
      obtain ⟨ob, a1, a2, a3⟩ := hj
      have hn : k ≠ q := by simpa [compat] using hc
      exact keep m1 (m2 _ (by rw [a2, look_cons_ne hn]))
    | all => simp [compat] at hc
  | rd k =>
    obtain ⟨m1, m2⟩ := hi
    rw [m1] at hj
    cases Fj with
    | zero => exact keep2 (hj.1.trans m1.symm) (hj.2 h)
    | ty q => exact keep m1 (m2 _ (by rw [hj.1]))
    | rd q => exact keep m1 (m2 _ (by rw [hj.1]))
    | wr q =>
      obtain ⟨ob, ob', a1, a2, a3, a4⟩ := hj
      have hn : k ≠ q := by simpa [compat] using hc
      exact keep m1 (m2 _ (by rw [a3, look_over_ne hn]))
    | nw q =>
      obtain ⟨ob, a1, a2, a3⟩ := hj
      have hn : k ≠ q := by simpa [compat] using hc
      exact keep m1 (m2 _ (by rw [a2, look_cons_ne hn]))
    | all => simp [compat] at hc
  | wr k =>
    obtain ⟨ob, ob', a1, a2, a3, a4⟩ := hi
    cases Fj with
    | zero => exact keep2 hj.1 (hj.2 h)
    | ty q => exact keep2 hj.1 (hj.2 h (by rw [a3]; exact (look_over_ty a1 a2).symm))
    | rd q =>
      have hn : k ≠ q := by simpa [compat] using hc
      exact keep2 hj.1 (hj.2 h (by rw [a3, look_over_ne (Ne.symm hn)]))
    | wr q =>
      have hn : k ≠ q := by simpa [compat] using hc
      obtain ⟨u, u', b1, b2, b3, b4⟩ := hj
      rw [a3, look_over_ne (Ne.symm hn)] at b1
      refine ⟨_, b4 h b1, rfl, rfl, _, a4 _ (by rw [look_over_ne hn]; exact a1), rfl, rfl, ?_⟩
      rw [b3, a3]; exact over_comm _ _ _ _ _ (Ne.symm hn)
    | nw q =>
      have hn : k ≠ q := by simpa [compat] using hc
      obtain ⟨u, b1, b2, b3⟩ := hj
      rw [a3, look_over_ne (Ne.symm hn)] at b1
      refine ⟨_, b3 h b1, rfl, rfl, _, a4 _ (by rw [look_cons_ne hn]; exact a1), rfl, rfl, ?_⟩
      rw [b2, a3]; exact over_cons_ne (Ne.symm hn)
    | all => simp [compat] at hc
  | nw k =>
    obtain ⟨ob, a1, a2, a3⟩ := hi
    cases Fj with
    | zero => exact keep2 hj.1 (hj.2 h)
    | ty q =>
      have hn : k ≠ q := by simpa [compat] using hc
      exact keep2 hj.1 (hj.2 h (by rw [a2, look_cons_ne (Ne.symm hn)]))
    | rd q =>
      have hn : k ≠ q := by simpa [compat] using hc
      exact keep2 hj.1 (hj.2 h (by rw [a2, look_cons_ne (Ne.symm hn)]))
    | wr q =>
      have hn : k ≠ q := by simpa [compat] using hc
      obtain ⟨u, u', b1, b2, b3, b4⟩ := hj
      rw [a2, look_cons_ne (Ne.symm hn)] at b1
      refine ⟨_, b4 h b1, rfl, rfl, _, a3 _ (by rw [look_over_ne hn]; exact a1), rfl, rfl, ?_⟩
      rw [b3, a2]; exact (over_cons_ne hn).symm
    | nw q => simp [compat] at hc
    | all => simp [compat] at hc
end Go.Am

/-
  Each operation's footprint tells what it touches.
-/
namespace Go.Am
variable {P : Program} {O : Orc} {call : CallF} {f : FuncId} {rid i j : Nat} {o : Oper} {r : Res} {ops : Array Oper} {g g' : Nat → AV} {h h' : Heap} {s s1 s2 : St}

theorem exec_draw (hn : ∀ c x, o.op = .call c → c.callee ≠ .value x) : exec O call false f rid i o g h = exec O call true f rid i o g h := by
  unfold exec
  cases hop : o.op with
  | call c =>
    simp only [callO]
    cases hc : c.callee with
    | builtin b => cases b <;> rfl
    | value x => exact absurd hc (hn c x hop)
    | invoke x n => rfl
  | makeFunc q first caps => cases q <;> rfl
  | _ => rfl

theorem callA_calm' {dst : Option Nat} {q : FuncId} {args : List AV} (hk : keysL (args.map AV.drop) = []) (ho0 : O.out q = []) (he : callA O call false dst q args h = some r) : r.h = h ∧ ∀ h', callA O call false dst q args h' = some ⟨r.a, r.tk, h'⟩ := by
  have key : ∀ h', callA O call false dst q args h' = callA O call true dst q args h' := by
    intro h'
    unfold callA
    simp only [forceKs_eq, hk, reach, ho0, List.isEmpty_nil, Bool.and_self, Bool.not_true, Bool.and_false]
  rw [key] at he
  obtain ⟨c1, c2, c3⟩ := callA_calm he
  exact ⟨c2, fun h' => by rw [key, c3, c1]⟩
theorem callA_tk {draw : Bool} {dst : Option Nat} {q : FuncId} {args : List AV} (he : callA O call draw dst q args h = some r) : r.tk = none := by
  unfold callA at he
  simp only [forceKs_eq] at he
  split at he
  · cases he
  · simp only [Option.bind_eq_some_iff] at he
    obtain ⟨_, _, he⟩ := he
    split at he
    · cases he
    · simp only [Option.bind_eq_some_iff] at he
      obtain ⟨_, _, he⟩ := he
      split at he
      · cases he
      · simp only [Option.bind_eq_some_iff, Option.some.injEq] at he
        obtain ⟨_, _, _, _, rfl⟩ := he
        rfl

theorem exec_tk' (he : exec O call false f rid i o g h = some r) {k : Nat} (hk : r.tk = some k) : O.take f rid i = true ∧ Operand.tmp k ∈ o.op.operands := by
  by_cases hn : ∀ c x, o.op = .call c → c.callee ≠ .value x
  · rw [exec_draw hn] at he; exact exec_tk he hk
  · simp only [Classical.not_forall, Classical.not_not] at hn
    obtain ⟨c, x, hop, hc⟩ := hn
    simp only [exec, hop, callO, hc] at he
    split at he
    · rw [callA_tk he] at hk; cases hk
    · cases he

theorem ptsTo_ty {T : TypeId} {k : Key} {p : List Nat} (hl : (look h' k).map (·.d.t) = (look h k).map (·.d.t)) : ptsTo O h' T (.op k p) = ptsTo O h T (.op k p) := by
  unfold ptsTo
  simp only
  cases h1 : look h k with
  | none => rw [h1] at hl; cases h2 : look h' k with
    | none => rfl
    | some u => rw [h2] at hl; cases hl
  | some v => rw [h1] at hl; cases h2 : look h' k with
    | none => rw [h2] at hl; cases hl
    | some u =>
      rw [h2] at hl
      simp only [Option.map_some, Option.some.injEq] at hl
      simp only [hl]

theorem exec_foot0 (he : exec O call false f rid i o g h = some r) : Eff (foot0 O f rid i o g) h r (fun h' => exec O call false f rid i o g h') := by
  have calm : opClass (O.take f rid i) o.op = 0 → (∀ c x, o.op = .call c → c.callee ≠ .value x) → Eff .zero h r (fun h' => exec O call false f rid i o g h') := fun hc hn => by
    rw [exec_draw hn] at he
    obtain ⟨_, c1, c2⟩ := exec_calm hc rfl he
    exact ⟨c1, fun h' => by show exec O call false f rid i o g h' = _; rw [exec_draw hn]; exact c2 h'⟩
  unfold foot0
  cases hop : o.op with
  | load T x =>
    simp only
    cases htk : O.take f rid i with
    | true => exact trivial
    | false =>
      simp only [Bool.false_eq_true, if_false]
      simp only [exec, hop, loadA, htk, Bool.false_eq_true, if_false, Option.bind_eq_some_iff] at he
      obtain ⟨d, hd, he⟩ := he
      split at he
      · rename_i hT
        cases he
        have fin : ∀ h', loadV O h' (val g none x) = some d → exec O call false f rid i o g h' = some ⟨d.av [], none, h'⟩ := fun h' hd' => by
          simp only [exec, hop, loadA, htk, Bool.false_eq_true, if_false, hd', Option.bind_some, if_pos hT]
        cases hv : val g none x with
        | op k p =>
          rw [hv] at hd
          exact ⟨rfl, fun h' hl => fin h' (by rw [hv]; simp only [loadV] at hd ⊢; rw [hl]; exact hd)⟩
        | sp t y => rw [hv] at hd; exact ⟨rfl, fun h' => fin h' (by rw [hv]; exact hd)⟩
        | gp q p => rw [hv] at hd; exact ⟨rfl, fun h' => fin h' (by rw [hv]; exact hd)⟩
        | _ => exact trivial
      · cases he
  | fieldAddr T x k =>
    simp only [exec, hop] at he
    split at he
    · rename_i hc
      simp only [Bool.and_eq_true] at hc
      simp only [Option.map_eq_some_iff] at he
      obtain ⟨b, hb, rfl⟩ := he
      have fin : ∀ h', ptsTo O h' T (val g none x) = true → exec O call false f rid i o g h' = some ⟨b, none, h'⟩ := fun h' hp => by
        simp only [exec, hop, hp, hc.2, Bool.and_self, if_true, hb, Option.map_some]
      simp only
      cases hv : val g none x with
      | op q p => rw [hv] at hc; exact ⟨rfl, fun h' hl => fin h' (by rw [hv, ptsTo_ty hl]; exact hc.1)⟩
      | sp t y => rw [hv] at hc; exact ⟨rfl, fun h' => fin h' (by rw [hv]; exact hc.1)⟩
      | gp q p => rw [hv] at hc; exact ⟨rfl, fun h' => fin h' (by rw [hv]; exact hc.1)⟩
      | _ => exact trivial
    · cases he
  | indexAddr T x k =>
    simp only [exec, hop] at he
    simp only
    split at he
    · rename_i n t hT
      split at he
      · rename_i hc
        simp only [Option.map_eq_some_iff] at he
        obtain ⟨b, hb, rfl⟩ := he
        have fin : ∀ h', ptsTo O h' T (val g none x) = true → exec O call false f rid i o g h' = some ⟨b, none, h'⟩ := fun h' hp => by
          simp only [exec, hop, hT, hp, if_true, hb, Option.map_some]
        cases hv : val g none x with
        | op q p => rw [hv] at hc; exact ⟨rfl, fun h' hl => fin h' (by rw [hv, ptsTo_ty hl]; exact hc)⟩
        | gp q p => rw [hv] at hc; exact ⟨rfl, fun h' => fin h' (by rw [hv]; exact hc)⟩
        | tv own u y => rw [hv] at hc; simp [ptsTo] at hc
        | _ => exact trivial
      · cases he
    · rename_i u hu
      simp only [Option.map_eq_some_iff] at he
      obtain ⟨b, hb, rfl⟩ := he
      have fin : ∀ h', exec O call false f rid i o g h' = some ⟨b, none, h'⟩ := fun h' => by
        simp only [exec, hop]
        cases hT : O.ty T with
        | none => rw [hT] at hb; simp only [hb, Option.map_some]
        | some t => cases t with
          | arr n t => exact absurd hT (hu n t)
          | _ => rw [hT] at hb; simp only [hb, Option.map_some]
      cases hv : val g none x with
      | op q p => exact ⟨rfl, fun h' _ => fin h'⟩
      | gp q p => exact ⟨rfl, fun h' => fin h'⟩
      | tv own t y => exact ⟨rfl, fun h' => fin h'⟩
      | _ => exact trivial
  | store T x y =>
    simp only
    simp only [exec, hop, Option.bind_eq_some_iff] at he
    obtain ⟨d, hd, he⟩ := he
    split at he
    · rename_i hT
      simp only [Option.map_eq_some_iff] at he
      obtain ⟨h1, hs, rfl⟩ := he
      cases hv : val g none x with
      | op k p =>
        rw [hv] at hs
        simp only [storeV, Option.bind_eq_some_iff, Option.map_eq_some_iff] at hs
        obtain ⟨b, hb, y', hu, rfl⟩ := hs
        refine ⟨b, ⟨⟨b.d.t, y'⟩, _⟩, hb, rfl, rfl, fun h' hl => ?_⟩
        simp only [exec, hop, hd, Option.bind_some, if_pos hT, hv, storeV, hl, hu, Option.map_some]
      | _ => exact trivial
    · cases he
  | alloc T =>
    simp only [exec, hop, Option.bind_eq_some_iff] at he
    obtain ⟨t, hT, he⟩ := he
    have he0 := he
    obtain ⟨d, hd, hk, rfl⟩ := allocA_some he
    simp only [hd]
    refine ⟨_, hk, rfl, fun h' hl => ?_⟩
    simp only [exec, hop, hT, Option.bind_some, allocA, hd, hl, Option.isNone_none, Bool.true_and]
    simp only [allocA, hd, hk, Option.isNone_none, Bool.true_and] at he0
    split at he0
    · rename_i hlt; rw [if_pos hlt]
    · cases he0
  | box T x =>
    simp only [exec, hop, Option.bind_eq_some_iff] at he
    obtain ⟨q, hq, he⟩ := he
    split at he
    · rename_i hT
      have he0 := he
      obtain ⟨d, hd, hk, rfl⟩ := allocA_some he
      simp only [hd]
      refine ⟨_, hk, rfl, fun h' hl => ?_⟩
      simp only [exec, hop, hq, Option.bind_some, if_pos hT, allocA, hd, hl, Option.isNone_none, Bool.true_and]
      simp only [allocA, hd, hk, Option.isNone_none, Bool.true_and] at he0
      split at he0
      · rename_i hlt; rw [if_pos hlt]
      · cases he0
    · cases he
  | call c =>
    simp only
    cases hc : c.callee with
    | builtin b => exact calm (by rw [hop]; rfl) (fun c' x e => by rw [hop] at e; cases e; rw [hc]; nofun)
    | invoke x n => exact calm (by rw [hop]; rfl) (fun c' x e => by rw [hop] at e; cases e; rw [hc]; nofun)
    | value x =>
      simp only
      cases hv : val g none x with
      | fn q first caps =>
        simp only
        split
        · rename_i hcd
          simp only [Bool.and_eq_true, List.isEmpty_iff] at hcd
          simp only [exec, hop, callO, hc, hv] at he
          obtain ⟨c1, c2⟩ := callA_calm' hcd.1 hcd.2 he
          exact ⟨c1, fun h' => by show exec O call false f rid i o g h' = _; simp only [exec, hop, callO, hc, hv]; exact c2 h'⟩
        · exact trivial
      | _ => exact trivial
  | _ => exact calm (by rw [hop]; rfl) (fun c x e => by rw [hop] at e; cases e)

theorem stepG_foot (he : stepG O call false f rid ops i o g h = some r) : Eff (foot O f rid ops i o g) h r (fun h' => stepG O call false f rid ops i o g h') := by
  unfold stepG foot at *
  cases hg : o.guard with
  | none => rw [hg] at he; exact exec_foot0 he
  | some jb =>
    obtain ⟨j, b⟩ := jb
    rw [hg] at he
    simp only at he ⊢
    cases hy : yieldA ops g j with
    | none => rw [hy] at he; cases he
    | some y =>
      rw [hy] at he
      cases y with
      | none => simp only [Option.some.injEq] at he; subst he; exact ⟨rfl, fun h' => rfl⟩
      | some x =>
        simp only at he ⊢
        cases hx : (x == b) with
        | true => rw [hx] at he; exact exec_foot0 he
        | false => rw [hx] at he; simp only [cond_false, Option.some.injEq] at he; subst he; exact ⟨rfl, fun h' => rfl⟩
end Go.Am

/-
  A drawn region whose footprints are looked at.
-/
namespace Go.Am
variable {P : Program} {O : Orc} {FB : Nat → Nat → Prop} {call : CallF} {f : FuncId} {rid i j : Nat} {o : Oper} {r : Res} {ops : Array Oper} {g g' : Nat → AV} {h h' : Heap} {s s1 s2 : St} {Q : Exit → Act → World → Prop}

theorem stepG_congr' (hg : ∀ t ∈ opReads ops o, g t = g' t) : stepG O call false f rid ops i o g h = stepG O call false f rid ops i o g' h := by
  unfold stepG
  have he := exec_congr (O := O) (call := call) (draw := false) (f := f) (rid := rid) (i := i) (o := o) (h := h) (g := g) (g' := g') fun t ht => hg t (opReads_op ht)
  cases hgd : o.guard with
  | none => simp only [he]
  | some jb =>
    obtain ⟨j, b⟩ := jb
    have hy := yieldA_congr (ops := ops) (g := g) (g' := g') (j := j) fun t ht => hg t (by
      unfold opReads
      refine List.mem_append_right _ ?_
      simp [hgd, ht])
    simp only [he, hy]

theorem foot_congr (hg : ∀ t ∈ opReads ops o, g t = g' t) : foot O f rid ops i o g = foot O f rid ops i o g' := by
  have hx : ∀ x, x ∈ o.op.operands → ∀ t : Option Ty, val g t x = val g' t x := fun x hm t => val_congr fun k e => hg k (opReads_op (e ▸ hm))
  have h0 : foot0 O f rid i o g = foot0 O f rid i o g' := by
    unfold foot0
    cases hop : o.op with
    | load T x => rw [hop] at hx; simp only [hx x (by simp [Op.operands])]
    | fieldAddr T x k => rw [hop] at hx; simp only [hx x (by simp [Op.operands])]
    | indexAddr T x k => rw [hop] at hx; simp only [hx x (by simp [Op.operands])]
    | store T x y => rw [hop] at hx; simp only [hx x (by simp [Op.operands])]
    | call c =>
      rw [hop] at hx
      simp only
      cases hc : c.callee with
      | value x =>
        have h1 : val g none x = val g' none x := hx x (by simp [Op.operands, Call.operands, hc]) none
        have h2 : argV O g c = argV O g' c := List.map_congr_left fun p hp => by
          obtain ⟨x, j⟩ := p
          simp only [hx x (by simp [Op.operands, Call.operands]; exact .inr (by simpa using List.fst_mem_of_mem_zipIdx hp))]
        simp only [h1, h2]
      | _ => rfl
    | _ => rfl
  unfold foot
  cases hgd : o.guard with
  | none => exact h0
  | some jb =>
    obtain ⟨j, b⟩ := jb
    have hy := yieldA_congr (ops := ops) (g := g) (g' := g') (j := j) fun t ht => hg t (by
      unfold opReads
      refine List.mem_append_right _ ?_
      simp [hgd, ht])
    simp only [h0, hy]

theorem stepG_tk' (he : stepG O call false f rid ops i o g h = some r) {k : Nat} (hk : r.tk = some k) : k ∈ opWrites (O.take f rid i) o := by
  have fin : exec O call false f rid i o g h = some r → k ∈ opWrites (O.take f rid i) o := fun h1 => by
    obtain ⟨a, b⟩ := exec_tk' h1 hk
    unfold opWrites
    rw [a]
    refine List.mem_append_right _ ?_
    simp only [if_true]
    exact List.mem_filterMap.2 ⟨.tmp k, by simpa using b, rfl⟩
  unfold stepG at he
  cases hgd : o.guard with
  | none => rw [hgd] at he; exact fin he
  | some jb =>
    obtain ⟨j, b⟩ := jb
    rw [hgd] at he
    simp only at he
    split at he
    · rename_i x _
      cases hx : (x == b) with
      | true => rw [hx] at he; exact fin he
      | false => rw [hx] at he; simp only [cond_false, Option.some.injEq] at he; subst he; cases hk
    · cases he; cases hk
    · cases he

theorem step_commD {a b : Oper} (hi : ops[i]? = some a) (hj : ops[j]? = some b) (ha : apartS O f rid ops i j = true) (hcm : compat (foot O f rid ops i a s.get) (foot O f rid ops j b s1.get) = true) (h1 : step O call false f rid ops i s = some s1) (h2 : step O call false f rid ops j s1 = some s2) :
    ∃ s1', step O call false f rid ops j s = some s1' ∧ step O call false f rid ops i s1' = some s2 ∧ foot O f rid ops j b s.get = foot O f rid ops j b s1.get ∧ foot O f rid ops i a s1'.get = foot O f rid ops i a s.get := by
  unfold apartS at ha
  unfold step at h1 h2
  rw [hi] at h1
  rw [hj] at h2
  rw [hi, hj] at ha
  simp only [Bool.and_eq_true, List.all_eq_true, Bool.not_eq_true'] at ha
  obtain ⟨hw1, hw2⟩ := ha
  simp only [Option.map_eq_some_iff] at h1 h2
  obtain ⟨r1, e1, rfl⟩ := h1
  obtain ⟨r2, e2, rfl⟩ := h2
  have w1 : ∀ d ∈ opWrites (O.take f rid i) a, d ∉ opReads ops b ∧ d ∉ opWrites (O.take f rid j) b := fun d hd => by
    obtain ⟨x, y⟩ := hw1 d hd
    exact ⟨fun hm => (by have := List.contains_iff_mem.2 hm; rw [x] at this; cases this), fun hm => (by have := List.contains_iff_mem.2 hm; rw [y] at this; cases this)⟩
  have w2 : ∀ d ∈ opWrites (O.take f rid j) b, d ∉ opReads ops a := fun d hd hm => by
    have x := hw2 d hd
    have := List.contains_iff_mem.2 hm
    rw [x] at this; cases this
  have k1 : ∀ t, a.dst = some t → t ∈ opWrites (O.take f rid i) a := fun t ht => dst_writes ht
  have k2 : ∀ t, b.dst = some t → t ∈ opWrites (O.take f rid j) b := fun t ht => dst_writes ht
  have g1 : ∀ t ∈ opReads ops b, s.get t = (s.app a.dst r1).get t := by
    intro t ht
    rw [get_app, if_neg, if_neg]
    · intro hk; exact (w1 t (stepG_tk' e1 hk)).1 ht
    · rintro ⟨hd, _⟩; exact (w1 t (k1 t hd)).1 ht
  have hh : (s.app a.dst r1).heap = r1.h := by rw [app_eq]
  rw [hh] at e2
  have e2' : stepG O call false f rid ops j b s.get r1.h = some r2 := (stepG_congr' g1).trans e2
  have hfj : foot O f rid ops j b s.get = foot O f rid ops j b (s.app a.dst r1).get := foot_congr g1
  rw [← hfj] at hcm
  obtain ⟨r2', b1, b2, b3, r1', c1, c2, c3, c4⟩ := Eff.comm hcm (stepG_foot e1) (stepG_foot e2') e1 e2'
  have g2 : ∀ t ∈ opReads ops a, s.get t = (s.app b.dst r2').get t := by
    intro t ht
    rw [get_app, if_neg, if_neg]
    · intro hk; rw [b3] at hk; exact w2 t (stepG_tk' e2' hk) ht
    · rintro ⟨hd, _⟩; exact w2 t (k2 t hd) ht
  refine ⟨s.app b.dst r2', ?_, ?_, hfj, (foot_congr g2).symm⟩
  · unfold step; rw [hj]; simp only [b1, Option.map_some]
  · unfold step; rw [hi]
    have hh' : (s.app b.dst r2').heap = r2'.h := by rw [app_eq]
    have c1' : stepG O call false f rid ops i a (s.app b.dst r2').get r2'.h = some r1' := (stepG_congr' g2).symm.trans c1
    simp only [hh', c1', Option.map_some, Option.some.injEq]
    refine st_ext (by simp only [app_len]) (fun t => ?_) ?_
    · simp only [get_app, app_len, c2, c3, b2, b3]
      by_cases ta : t ∈ opWrites (O.take f rid i) a
      · have tb := (w1 t ta).2
        have n1 : ¬ (b.dst = some t ∧ t < s.env.length) := fun hd => tb (k2 t hd.1)
        have n2 : ¬ r2.tk = some t := fun hk => tb (stepG_tk' e2' hk)
        simp only [if_neg n1, if_neg n2]
      · have n1 : ¬ (a.dst = some t ∧ t < s.env.length) := fun hd => ta (k1 t hd.1)
        have n2 : ¬ r1.tk = some t := fun hk => ta (stepG_tk' e1 hk)
        simp only [if_neg n1, if_neg n2]
    · rw [app_eq, app_eq]; exact c4

/-- A run, with its footprints. -/
def RunP (O : Orc) (call : CallF) (f : FuncId) (rid : Nat) (ops : Array Oper) : List (Nat × Foot) → St → St → Prop
  | [], s, s' => s = s'
  | p :: l, s, s' => ∃ o s1, ops[p.1]? = some o ∧ foot O f rid ops p.1 o s.get = p.2 ∧ step O call false f rid ops p.1 s = some s1 ∧ RunP O call f rid ops l s1 s'

theorem runP_front : ∀ (pre post : List (Nat × Foot)) (p : Nat × Foot) (s s' : St), (∀ x ∈ pre, apartS O f rid ops x.1 p.1 = true ∧ compat x.2 p.2 = true) → RunP O call f rid ops (pre ++ p :: post) s s' →
    ∃ o s1, ops[p.1]? = some o ∧ foot O f rid ops p.1 o s.get = p.2 ∧ step O call false f rid ops p.1 s = some s1 ∧ RunP O call f rid ops (pre ++ post) s1 s'
  | [], post, p, s, s', _, h => h
  | x :: pre, post, p, s, s', ha, h => by
    simp only [List.cons_append, RunP] at h
    obtain ⟨ox, sx, h1, h2, h3, h4⟩ := h
    obtain ⟨op, s2, q1, q2, q3, q4⟩ := runP_front pre post p sx s' (fun y hy => ha y (List.mem_cons_of_mem _ hy)) h4
    obtain ⟨a1, a2⟩ := ha x List.mem_cons_self
    obtain ⟨s1, c1, c2, c3, c4⟩ := step_commD h1 q1 a1 (by rw [h2, q2]; exact a2) h3 q3
    refine ⟨op, s1, q1, c3.trans q2, c1, ?_⟩
    simp only [List.cons_append, RunP]
    exact ⟨ox, s2, h1, c4.trans h2, c2, q4⟩

def chk (O : Orc) (f : FuncId) (rid : Nat) (ops : Array Oper) (p q : Nat × Foot) : Prop := (ah ops q.1).testBit p.1 = true ∨ (apartS O f rid ops p.1 q.1 = true ∧ compat p.2 q.2 = true)

theorem stepsD_run : ∀ (l : List Nat) (acc : List (Nat × Foot)) (s s' : St), stepsD O call f rid ops (aheads ops.toList []) l acc s = some s' →
    ∃ M, M.map Prod.fst = l ∧ RunP O call f rid ops M s s' ∧ M.Pairwise (chk O f rid ops) ∧ ∀ p ∈ acc, ∀ q ∈ M, chk O f rid ops p q
  | [], acc, s, s', h => by
    simp only [stepsD, Option.some.injEq] at h
    exact ⟨[], rfl, h, List.Pairwise.nil, fun _ _ _ hq => by cases hq⟩
  | j :: l, acc, s, s', h => by
    simp only [stepsD] at h
    split at h
    · cases h
    · rename_i o ho
      split at h
      · rename_i hall
        simp only [Option.bind_eq_some_iff] at h
        obtain ⟨s1, h1, h2⟩ := h
        obtain ⟨M, m1, m2, m3, m4⟩ := stepsD_run l _ s1 s' h2
        simp only [List.all_eq_true, Bool.or_eq_true, Bool.and_eq_true] at hall
        refine ⟨(j, foot O f rid ops j o s.get) :: M, by simp [m1], ⟨o, s1, ho, rfl, h1, m2⟩, ?_, fun p hp q hq => ?_⟩
        · rw [List.pairwise_cons]
          exact ⟨fun q hq => m4 _ (List.mem_append_right _ (List.mem_singleton.2 rfl)) q hq, m3⟩
        · rcases List.mem_cons.1 hq with rfl | hq
          · exact hall p hp
          · exact m4 p (List.mem_append_left _ hp) q hq
      · cases h

theorem wpAnyD_ok (hO : OrcOK P O) (hC : CallOK P O call) (hf : fwdOk ops = true) : ∀ (fuel : Nat) (listed : Array Bool) (M : List (Nat × Foot)) {w : World} {s s' : St} {ι : Key → Nat} {a : Act}, listed.size = ops.size → Cl ops listed → M.map Prod.fst = Rest ops listed → M.Pairwise (chk O f rid ops) → M.length = fuel → Rel O FB w s (tmOf a) ι → s.env.length = a.tmps.size →
    RunP O call f rid ops M s s' → Leaves O FB w s ι a s' (Q .normal) → wpAny P .any ops Q fuel listed a w := by
  intro fuel
  induction fuel with
  | zero =>
    intro listed M w s s' ι a hs hc hM hP hn h hl he hq
    have hm : M = [] := List.length_eq_zero_iff.1 hn
    subst hm
    have hr : Rest ops listed = [] := by rw [← hM]; rfl
    simp only [RunP] at he
    subst he
    refine ⟨?_, hq _ _ ι rfl rfl (Goes.refl h)⟩
    refine List.eq_nil_iff_forall_not_mem.2 fun x hx => ?_
    obtain ⟨x1, x2, _⟩ := ready_iff.1 hx
    have : x ∈ Rest ops listed := mem_rest.2 ⟨x1, x2⟩
    rw [hr] at this; cases this
  | succ fuel ih =>
    intro listed M w s s' ι a hs hc hM hP hn h hl he hq
    refine ⟨fun hr => ?_, fun i hi => ?_⟩
    · cases hR : Rest ops listed with
      | nil => rw [hR] at hM; have := congrArg List.length hM; simp [hn] at this
      | cons k l =>
        obtain ⟨i, hi⟩ := exists_ready hf hs (k + 1) k (by omega) (by rw [hR]; exact List.mem_cons_self)
        rw [hr] at hi; cases hi
    · obtain ⟨i1, i2, i3⟩ := ready_iff.1 hi
      obtain ⟨pre', post', p1, p2, p3⟩ := rest_split hs (mem_rest.2 ⟨i1, i2⟩)
      rw [p1] at hM
      obtain ⟨pre, tl, rfl, m1, m2⟩ := List.map_eq_append_iff.1 hM
      obtain ⟨p, post, rfl, m3, m4⟩ := List.map_eq_cons_iff.1 m2
      have hfront : ∀ x ∈ pre, apartS O f rid ops x.1 p.1 = true ∧ compat x.2 p.2 = true := by
        intro x hx
        have hxm : x.1 ∈ pre' := by rw [← m1]; exact List.mem_map_of_mem hx
        obtain ⟨x1, x2⟩ := p3 x.1 hxm
        rcases (List.pairwise_append.1 hP).2.2 x hx p List.mem_cons_self with hb | hb
        · exfalso
          rw [m3] at hb
          obtain ⟨x3, x4⟩ := mem_rest.1 x2
          rw [getD_tf (by omega)] at x4
          obtain ⟨e, e1, e2, e3⟩ := ah_bit (Array.getElem?_eq_getElem i1) hb
          have hle := i3 _ (Array.getElem?_eq_getElem i1) e e1 e2
          rcases e3 with e3 | e3
          · rw [← e3, x4] at hle; cases hle
          · have hlt := fwd_lt hf (Array.getElem?_eq_getElem i1) e1 e2
            have := Cl.ahead hf hs hc (e.on + 1) e.on (by omega) (by omega) hle x.1 e3
            rw [x4] at this; cases this
        · exact hb
      obtain ⟨o, s1, q0, _, q1, q2⟩ := runP_front pre post p s s' hfront he
      rw [m3] at q1
      refine step_ok hO hC h hl q1 fun a1 w1 ι1 hd1 hs1 hg => ?_
      refine ih (listed.setIfInBounds i true) (pre ++ post) (by simpa using hs) ?_ (by rw [List.map_append, m1, m4, p2]) (hP.sublist ((List.Sublist.refl pre).append (List.sublist_cons_self _ _))) (by simp only [List.length_append, List.length_cons] at hn ⊢; omega) hg.stp.rel (by rw [step_len q1, hl, hs1]) q2 (hq.chain h hd1 hs1 hg)
      intro k o' ho hk e he' hb
      have hmono : listed.getD e.on false = true → (listed.setIfInBounds i true).getD e.on false = true := fun hx => by
        simp only [Array.getD_eq_getD_getElem?, Array.getElem?_setIfInBounds] at hx ⊢
        split
        · split <;> simp_all
        · exact hx
      refine hmono ?_
      by_cases hki : k = i
      · subst hki; exact i3 o' ho e he' hb
      · refine hc k o' ho ?_ e he' hb
        simp only [Array.getD_eq_getD_getElem?, Array.getElem?_setIfInBounds] at hk ⊢
        rw [if_neg (fun e => hki e.symm)] at hk
        exact hk

theorem regionD_ok (hO : OrcOK P O) (hm : P.follows .mixedOrders = true) (hC : CallOK P O call) (hf : fwdOk ops = true) {w : World} {s s' : St} {ι : Key → Nat} {a : Act} (h : Rel O FB w s (tmOf a) ι) (hl : s.env.length = a.tmps.size)
    (he : stepsD O call f rid ops (aheads ops.toList []) (List.range ops.size) [] s = some s') (hq : Leaves O FB w s ι a s' (Q .normal)) : (Code.region rid ops true).wp P Q a w := by
  obtain ⟨M, m1, m2, m3, _⟩ := stepsD_run _ _ _ _ he
  refine wp_region_any hm ?_
  have h1 : Stp O FB w s (tmOf a) ι { w with drawn := w.drawn + 1 } s (tmOf a) ι := h.heapEq rfl
  have hg : Goes O FB w s (tmOf a) ι { w with drawn := w.drawn + 1 } s (tmOf a) ι := ⟨h1, hist_heap _ ⟨rfl, rfl, rfl, rfl⟩, fun _ _ => ⟨rfl, rfl⟩⟩
  have hr : Rest ops (Array.replicate ops.size false) = List.range ops.size := by
    unfold Rest
    rw [List.filter_eq_self]
    intro x hx
    have := List.mem_range.1 hx
    simp [Array.getD_eq_getD_getElem?, this]
  have hlen : M.length = ops.size := by have := congrArg List.length m1; simpa using this
  refine wpAnyD_ok hO hC hf ops.size (Array.replicate ops.size false) M (by simp) ?_ (by rw [hr]; exact m1) m3 hlen h1.rel hl m2 (hq.chain h rfl rfl hg)
  intro i o ho hi
  have : i < ops.size := by
    rcases Nat.lt_or_ge i ops.size with h | h
    · exact h
    · rw [Array.getElem?_eq_none h] at ho; cases ho
  simp [Array.getD_eq_getD_getElem?, this] at hi

theorem stepsD_len {l : List Nat} {acc : List (Nat × Foot)} {s s' : St} {ah : List Nat} (h : stepsD O call f rid ops ah l acc s = some s') : s'.env.length = s.env.length := by
  induction l generalizing acc s with
  | nil => simp only [stepsD, Option.some.injEq] at h; rw [h]
  | cons j l ih =>
    simp only [stepsD] at h
    split at h
    · cases h
    · split at h
      · simp only [Option.bind_eq_some_iff] at h
        obtain ⟨s1, h1, h2⟩ := h
        rw [ih h2, step_len h1]
      · cases h
end Go.Am

/-
  Laying out changes nothing; what does not live can be left.
-/
namespace Go.Am
variable {P : Program} {O : Orc} {FB : Nat → Nat → Prop} {w : World} {s s' : St} {tm : Nat → Value} {ι : Key → Nat}
section
variable {R : Type}
theorem forceN_eq (n : Nat) (k : Nat → R) : forceN n k = k n := by cases n <;> rfl
theorem forceZ_eq (x : Int) (k : Int → R) : forceZ x k = k x := by cases x <;> simp [forceZ, forceN_eq]
theorem forceL_eq {α : Type} {g : α → (α → R) → R} (hg : ∀ a k, g a k = k a) : ∀ (l : List α) (k : List α → R), forceL g l k = k l
  | [], k => rfl
  | a :: l, k => by simp only [forceL, hg]; rw [forceL_eq hg l]
theorem forceB_eq (x : Bool) (k : Bool → R) : forceB x k = k x := by cases x <;> rfl
theorem forceP_eq (x : Key) (k : Key → R) : forceP x k = k x := by obtain ⟨a, b⟩ := x; simp [forceP, forceN_eq]
mutual
theorem forceX_eq : ∀ (x : XT) (k : XT → R), forceX x k = k x
  | .mk a b l, k => by simp only [forceX, forceZ_eq]; rw [forceXL_eq l]
theorem forceXL_eq : ∀ (l : List XT) (k : List XT → R), forceXL l k = k l
  | [], k => rfl
  | x :: l, k => by simp only [forceXL]; rw [forceX_eq x, forceXL_eq l]
end
theorem forceD_eq : ∀ (t : Ty) (x : den t) (k : den t → R), forceD t x k = k x
  | .int _, x, k => by simp only [forceD]; exact forceZ_eq x k
  | .bool, x, k => by simp only [forceD]; exact forceB_eq x k
  | .str, x, k => by simp only [forceD]; exact forceL_eq forceZ_eq x k
  | .unit, x, k => by simp only [forceD]
  | .ref, x, k => by
    simp only [forceD]
    have : ∀ y : Option Key, (match y with | none => k (none : Option Key) | some q => forceP q fun q => k (some q : Option Key)) = k y := fun y => by
      cases y with
      | none => rfl
      | some q => exact forceP_eq q _
    exact this x
  | .expr, x, k => by simp only [forceD]; exact forceX_eq x k
  | .slice t, x, k => by simp only [forceD]; exact forceL_eq (forceD_eq t) x k
  | .pair a b, x, k => by simp only [forceD]; rw [forceD_eq a, forceD_eq b]
  | .arr _ t, x, k => by simp only [forceD]; exact forceL_eq (forceD_eq t) x k
theorem forceOwn_eq (l : List (List Nat)) (k : List (List Nat) → R) : forceL (forceL forceN) l k = k l := forceL_eq (fun a k => forceL_eq forceN_eq a k) l k
mutual
theorem forceA_eq : ∀ (a : AV) (k : AV → R), forceA a k = k a
  | .tv own t x, k => by simp only [forceA, forceOwn_eq, forceD_eq]
  | .sp t x, k => by simp only [forceA, forceD_eq]
  | .op q p, k => by simp only [forceA, forceP_eq, forceL_eq forceN_eq]
  | .fn f a b, k => by simp only [forceA]; rw [forceAL_eq a, forceAL_eq b]
  | .tup l, k => by simp only [forceA]; rw [forceAL_eq l]
  | .gp g p, k => by simp only [forceA, forceL_eq forceN_eq]
  | .no, k => rfl
  | .any, k => rfl
theorem forceAL_eq : ∀ (l : List AV) (k : List AV → R), forceAL l k = k l
  | [], k => rfl
  | a :: l, k => by simp only [forceAL]; rw [forceA_eq a, forceAL_eq l]
end
theorem forceO_eq (o : Key × Ob) (k : Key × Ob → R) : forceO o k = k o := by
  obtain ⟨q, ⟨⟨t, x⟩, own⟩⟩ := o
  simp only [forceO, forceP_eq, forceD_eq, forceOwn_eq]
theorem forceS_eq (s : St) (k : St → R) : forceS s k = k s := by
  obtain ⟨e, h⟩ := s
  simp only [forceS, forceAL_eq, forceL_eq forceO_eq]
end

theorem keep_len (l : List Nat) : ∀ (i : Nat) (e : List AV), (keep l i e).length = e.length
  | _, [] => rfl
  | i, a :: e => by simp [keep, keep_len l (i + 1) e]
theorem keep_get (l : List Nat) : ∀ (i : Nat) (e : List AV) (t : Nat), (keep l i e).getD t .any = e.getD t .any ∨ (keep l i e).getD t .any = .any
  | _, [], t => .inl rfl
  | i, a :: e, 0 => by
    simp only [keep, List.getD_cons_zero]
    split
    · exact .inl rfl
    · exact .inr rfl
  | i, a :: e, t + 1 => by simp only [keep, List.getD_cons_succ]; exact keep_get l (i + 1) e t

theorem look_filter' {p : Key → Bool} : ∀ (h : Heap) (k : Key), look (h.filter fun b => p b.1) k = if p k then look h k else none
  | [], k => by simp [look]
  | (q, o) :: r, k => by
    simp only [List.filter_cons]
    by_cases e : q = k
    · subst e
      by_cases hp : p q = true
      · simp [hp, look]
      · simp only [hp, Bool.false_eq_true, if_false]
        rw [look_filter' r q]
        simp [hp]
    · split
      · simp only [look, if_neg e]; exact look_filter' r k
      · simp only [look, if_neg e]; exact look_filter' r k

theorem Rel.cutDown (h : Rel O FB w s tm ι) {l : List Nat × List Key} (hr : restrict l s = some s') : Goes O FB w s tm ι w s' tm ι := by
  unfold restrict at hr
  simp only at hr
  split at hr
  · rename_i hc
    simp only [Option.some.injEq] at hr
    simp only [Bool.and_eq_true, List.all_eq_true, shut] at hc
    obtain ⟨hk, hsh⟩ := hc
    generalize hp : (fun k : Key => k.1 == 0 || l.2.contains k) = p at *
    have hfil : (s.heap.filter fun q => q.1.1 == 0 || l.2.contains q.1) = s.heap.filter fun b => p b.1 := by rw [← hp]
    rw [hfil] at hr hk hsh
    subst hr
    have hget : ∀ t, St.get ⟨keep l.1 0 s.env, s.heap.filter fun b => p b.1⟩ t = s.get t ∨ St.get ⟨keep l.1 0 s.env, s.heap.filter fun b => p b.1⟩ t = .any := fun t => keep_get l.1 0 s.env t
    have hlook : ∀ k o, look (s.heap.filter fun b => p b.1) k = some o → look s.heap k = some o := fun k o e => by
      rw [look_filter'] at e
      split at e
      · exact e
      · cases e
    have hown : ∀ a x, owns w ⟨keep l.1 0 s.env, s.heap.filter fun b => p b.1⟩ tm ι a = some x → owns w s tm ι a = some x := by
      intro a x e
      cases a with
      | sl i q =>
        simp only [owns] at e ⊢
        rcases hget i with hg | hg
        · rw [hg] at e; exact e
        · rw [hg] at e; cases e
      | fd k q =>
        simp only [owns] at e ⊢
        cases hl : look (s.heap.filter fun b => p b.1) k with
        | none => rw [hl] at e; cases e
        | some o => rw [hl] at e; rw [hlook k o hl]; exact e
      | ob k =>
        simp only [owns] at e ⊢
        cases hl : look (s.heap.filter fun b => p b.1) k with
        | none => rw [hl] at e; cases e
        | some o => rw [hl] at e; rw [hlook k o hl]; exact e
    have hc : CellLe (rlOf w FB s tm ι) (rlOf w FB ⟨keep l.1 0 s.env, s.heap.filter fun b => p b.1⟩ tm ι) :=
      fun b o ⟨p1, p2, p3⟩ v hv => ⟨hv, p1, fun a lo e => p2 a lo (hown a _ e), p3⟩
    have hkt : ∀ k, (look (s.heap.filter fun b => p b.1) k).isSome = true → ∀ y, (rlOf w FB s tm ι).kt k = some y → (rlOf w FB ⟨keep l.1 0 s.env, s.heap.filter fun b => p b.1⟩ tm ι).kt k = some y := by
      intro k hs y hy
      obtain ⟨o, ho⟩ := Option.isSome_iff_exists.1 hs
      have hy' : (look s.heap k).map (fun o => (ι k, o.d.t)) = some y := hy
      show (look (s.heap.filter fun b => p b.1) k).map (fun o => (ι k, o.d.t)) = some y
      rw [hlook k o ho] at hy'
      rw [ho]; exact hy'
    refine ⟨⟨⟨fun i => ?_, fun k o hl => ?_, fun a a' b lo lo' e1 e2 => h.dj a a' b lo lo' (hown _ _ e1) (hown _ _ e2), fun i own t x hg q hq => ?_, fun k o hl q hq => h.rf k o (hlook k o hl) q hq, fun a b lo lo' e => h.fb a b lo lo' (hown _ _ e), h.fs, h.gl_le hc⟩, fun a b lo e => .inl ⟨a, lo, hown _ _ e, Nat.le_refl _⟩, Nat.le_refl _⟩, Hist.refl _ _, fun k hk0 => ⟨?_, rfl⟩⟩
    · rcases hget i with hg | hg
      · rw [hg]
        refine VR.le' hc (fun k hk' y hy => hkt k (hk k ?_) y hy) (h.vr i)
        rw [← hg] at hk'
        exact keysL_getD _ i k hk'
      · rw [hg]; simp only [VR]
    · obtain ⟨q1, arr, T, q2, q3, q4⟩ := h.ob k o (hlook k o hl)
      refine ⟨q1, arr, T, q2, q3, ?_⟩
      have := RV.ren (ρ := id) hc o.d.t o.d.x _ q1 (fun q hq y hy => hkt q (hsh (k, o) (look_mem hl) q (by unfold keysO; rw [keysIf _ _ q1]; exact hq)) y hy) q4
      rwa [renD_id] at this
    · rcases hget i with hg' | hg'
      · rw [hg'] at hg; exact h.rs i own t x hg q hq
      · rw [hg'] at hg; cases hg
    · show (look (s.heap.filter fun b => p b.1) k).map _ = _
      rw [look_filter', ← hp]
      simp [hk0]
  · cases hr
end Go.Am

/-
  Code is carried out as the machine says.
-/
namespace Go.Am
variable {P : Program} {O : Orc} {FB : Nat → Nat → Prop} {call : CallF} {f : FuncId}

def exOf : Ex → Exit
  | .normal => .normal
  | .exit id => .exit id
  | .ret => .ret

/-- The program is as the tables say. -/
structure ProgOK (P : Program) (O : Orc) : Prop where
  orc : OrcOK P O
  mixed : P.follows .mixedOrders = true
  fns : ∀ f, O.fns f = true → ∀ fn c, P.funcs[f]? = some fn → fn.body = some c → drawsOk O f c = true ∧ (fn.name == "runtime.NumGoroutine") = false
  prim : ∀ f g, O.prim f = some g → ∀ args r, g args = some r → hasBody P f ∧ ∀ (FB : Nat → Nat → Prop) (w : World) (h : Heap) (ι : Key → Nat) (vs : Array Value), args.length = vs.size → Rel O FB w ⟨args, h⟩ (tmArgs vs) ι →
    Calls P f vs w fun e w' => ∃ v ι', e = .returned v ∧ Goes O FB w ⟨args, h⟩ (tmArgs vs) ι w' ⟨[r], h⟩ (fun _ => v) ι'

theorem least {p : Nat → Prop} : ∀ n, p n → ∃ m, p m ∧ ∀ k, p k → m ≤ k := by
  intro n
  induction n using Nat.strongRecOn with
  | _ n ih =>
    intro hp
    by_cases h : ∃ k, k < n ∧ p k
    · obtain ⟨k, hk, hpk⟩ := h; exact ih k hk hpk
    · exact ⟨n, hp, fun k hk => by
        rcases Nat.lt_or_ge k n with hl | hl
        · exact absurd ⟨k, hl, hk⟩ h
        · exact hl⟩

/-- A loop whose rounds are counted. -/
theorem wp_loop_n {c : Code} {Q : Exit → Act → World → Prop} (J : Nat → Act → World → Prop) {n : Nat} {a : Act} {w : World} (h0 : J n a w) (round : ∀ n a w, J n a w → c.wp P (Exit.then (fun a' w' => ∃ m, m < n ∧ J m a' w') Q) a w) : (Code.loop c).wp P Q a w := by
  classical
  have hex : ∀ a w, (∃ n, J n a w) → ∃ m, J m a w ∧ ∀ k, J k a w → m ≤ k := fun a w ⟨n, h⟩ => least n h
  let μ : Act → World → Nat := fun a w => if h : ∃ n, J n a w then Classical.choose (hex a w h) else 0
  have hμ : ∀ a w, (∃ n, J n a w) → J (μ a w) a w ∧ ∀ k, J k a w → μ a w ≤ k := by
    intro a w h
    show J (if h : ∃ n, J n a w then Classical.choose (hex a w h) else 0) a w ∧ ∀ k, J k a w → (if h : ∃ n, J n a w then Classical.choose (hex a w h) else 0) ≤ k
    rw [dif_pos h]
    exact Classical.choose_spec (hex a w h)
  refine wp_loop (fun a w => ∃ n, J n a w) μ ⟨n, h0⟩ fun a w h => ?_
  obtain ⟨h1, _⟩ := hμ a w h
  refine wp_mono (round _ a w h1) fun e a' w' hq => ?_
  cases e with
  | normal =>
    obtain ⟨m, hm, hj⟩ := hq
    exact ⟨⟨m, hj⟩, Nat.lt_of_le_of_lt ((hμ a' w' ⟨m, hj⟩).2 m hj) hm⟩
  | _ => exact hq

/-- What is left behind, by each way out. -/
def LeavesX (O : Orc) (FB : Nat → Nat → Prop) (w : World) (s : St) (ι : Key → Nat) (a : Act) (q : Ex × St) (Q : Exit → Act → World → Prop) : Prop := Leaves O FB w s ι a q.2 (Q (exOf q.1))

theorem restrict_len {l : List Nat × List Key} {s s' : St} (h : restrict l s = some s') : s'.env.length = s.env.length := by
  unfold restrict at h
  simp only at h
  split at h
  · simp only [Option.some.injEq] at h; subst h; exact keep_len _ _ _
  · cases h

theorem loopN_len {body : St → Option (Ex × St)} {l : List Nat × List Key} (hb : ∀ s q, body s = some q → q.2.env.length = s.env.length) : ∀ (n : Nat) (s : St) (q : Ex × St), loopN body (restrict l) n s = some q → q.2.env.length = s.env.length
  | 0, _, _, h => by simp [loopN] at h
  | n + 1, s, q, h => by
    simp only [loopN, Option.bind_eq_some_iff] at h
    obtain ⟨s1, h1, ⟨e, s2⟩, h2, h3⟩ := h
    have e1 := restrict_len h1
    have e2 := hb _ _ h2
    simp only at e2
    cases e with
    | normal => simp only at h3; rw [loopN_len hb n s2 q h3, e2, e1]
    | exit id => simp only [Option.some.injEq] at h3; subst h3; rw [e2, e1]
    | ret => simp only [Option.some.injEq] at h3; subst h3; rw [e2, e1]

theorem evalC_len (n : Nat) : ∀ (c : Code) {s : St} {q : Ex × St}, evalC O call n f c s = some q → q.2.env.length = s.env.length
  | .skip, s, q, he => by simp only [evalC, Option.some.injEq] at he; subst he; rfl
  | .region id ops draw, s, q, he => by
    simp only [evalC, Option.bind_eq_some_iff, forceS_eq, Option.some.injEq] at he
    obtain ⟨s', h1, rfl⟩ := he
    split at h1
    · exact stepsD_len h1
    · exact steps_len _ _ _ h1
  | .seq x y, s, q, he => by
    simp only [evalC, Option.bind_eq_some_iff] at he
    obtain ⟨⟨e, s1⟩, h1, h2⟩ := he
    have e1 := evalC_len n x h1
    cases e with
    | normal => simp only at h2; rw [evalC_len n y h2, e1]
    | exit id => simp only [Option.some.injEq] at h2; subst h2; exact e1
    | ret => simp only [Option.some.injEq] at h2; subst h2; exact e1
  | .cond c x y, s, q, he => by
    simp only [evalC] at he
    split at he
    · rename_i b _
      cases b with
      | true => exact evalC_len n x he
      | false => exact evalC_len n y he
    · cases he
  | .block id x, s, q, he => by
    simp only [evalC, Option.map_eq_some_iff] at he
    obtain ⟨⟨e, s1⟩, h1, rfl⟩ := he
    have e1 := evalC_len n x h1
    simp only
    cases e with
    | exit id' => simp only; split <;> exact e1
    | normal => exact e1
    | ret => exact e1
  | .loop x, s, q, he => by
    simp only [evalC] at he
    exact loopN_len (fun s q h => evalC_len n x h) n s q he
  | .exit id, s, q, he => by simp only [evalC, Option.some.injEq] at he; subst he; rfl
  | .ret, s, q, he => by simp only [evalC, Option.some.injEq] at he; subst he; rfl
  | .label _, s, q, he => by simp [evalC] at he
  | .goto _, s, q, he => by simp [evalC] at he

theorem evalC_ok (hP : ProgOK P O) (hC : CallOK P O call) (n : Nat) : ∀ (c : Code) {w : World} {s : St} {ι : Key → Nat} {a : Act} {q : Ex × St} {Q : Exit → Act → World → Prop}, drawsOk O f c = true → Rel O FB w s (tmOf a) ι → s.env.length = a.tmps.size → evalC O call n f c s = some q →
    LeavesX O FB w s ι a q Q → c.wp P Q a w
  | .skip, w, s, ι, a, q, Q, _, h, hl, he, hq => by
    simp only [evalC, Option.some.injEq] at he
    subst he
    exact wp_skip (hq _ _ ι rfl rfl (Goes.refl h))
  | .region id ops draw, w, s, ι, a, q, Q, hd, h, hl, he, hq => by
    simp only [evalC, Option.bind_eq_some_iff, forceS_eq, Option.some.injEq] at he
    obtain ⟨s', h1, rfl⟩ := he
    simp only [drawsOk] at hd
    split at h1
    · rename_i hban
      simp only [Bool.and_eq_true] at hban
      obtain ⟨rfl, hban⟩ := hban
      simp only [Bool.not_true, Bool.false_or, hban, if_true] at hd
      exact regionD_ok hP.orc hP.mixed hC hd h hl h1 hq
    · rename_i hban
      refine region_ok hP.orc hP.mixed hC (fun hdr => ?_) h hl h1 hq
      subst hdr
      have hb : O.ban f id = false := by simpa using hban
      simp only [Bool.not_true, Bool.false_or, hb, Bool.false_eq_true, if_false] at hd
      exact hd
  | .seq x y, w, s, ι, a, q, Q, hd, h, hl, he, hq => by
    simp only [drawsOk, Bool.and_eq_true] at hd
    simp only [evalC, Option.bind_eq_some_iff] at he
    obtain ⟨⟨e, s1⟩, h1, h2⟩ := he
    have hlen : s1.env.length = s.env.length := evalC_len n x h1
    cases e with
    | normal =>
      simp only at h2
      exact wp_seq (evalC_ok hP hC n x hd.1 h hl h1 fun a1 w1 ι1 d1 z1 g1 =>
        evalC_ok hP hC n y hd.2 g1.stp.rel (by rw [hlen, hl, z1]) h2 (Leaves.chain h hq d1 z1 g1))
    | exit id =>
      simp only [Option.some.injEq] at h2
      subst h2
      exact wp_seq (evalC_ok hP hC n x (Q := Exit.then (y.wp P Q) Q) hd.1 h hl h1 fun a1 w1 ι1 d1 z1 g1 => hq a1 w1 ι1 d1 z1 g1)
    | ret =>
      simp only [Option.some.injEq] at h2
      subst h2
      exact wp_seq (evalC_ok hP hC n x (Q := Exit.then (y.wp P Q) Q) hd.1 h hl h1 fun a1 w1 ι1 d1 z1 g1 => hq a1 w1 ι1 d1 z1 g1)
  | .cond c x y, w, s, ι, a, q, Q, hd, h, hl, he, hq => by
    simp only [drawsOk, Bool.and_eq_true] at hd
    simp only [evalC] at he
    split at he
    · rename_i own b hc
      have hv := val0 (slots_of h) c
      rw [hc] at hv
      simp only [VR] at hv
      refine wp_cond hv.bool ?_
      cases b with
      | true => exact evalC_ok hP hC n x hd.1 h hl he hq
      | false => exact evalC_ok hP hC n y hd.2 h hl he hq
    · cases he
  | .block id x, w, s, ι, a, q, Q, hd, h, hl, he, hq => by
    simp only [drawsOk] at hd
    simp only [evalC, Option.map_eq_some_iff] at he
    obtain ⟨⟨e, s1⟩, h1, rfl⟩ := he
    refine wp_block (evalC_ok hP hC n x (Q := Exit.inBlock id Q) hd h hl h1 fun a1 w1 ι1 d1 z1 g1 => ?_)
    cases e with
    | normal => exact hq a1 w1 ι1 d1 z1 g1
    | ret => exact hq a1 w1 ι1 d1 z1 g1
    | exit id' =>
      simp only [exOf, Exit.inBlock]
      by_cases hid : id' = id
      · rw [if_pos hid]
        unfold LeavesX at hq
        simp only [if_pos hid] at hq
        exact hq a1 w1 ι1 d1 z1 g1
      · rw [if_neg hid]
        unfold LeavesX at hq
        simp only [if_neg hid] at hq
        exact hq a1 w1 ι1 d1 z1 g1
  | .loop x, w, s, ι, a, q, Q, hd, h, hl, he, hq => by
    simp only [drawsOk] at hd
    simp only [evalC] at he
    refine wp_loop_n (fun m a1 w1 => ∃ s1 ι1, a1.defers = a.defers ∧ a1.tmps.size = a.tmps.size ∧ s1.env.length = s.env.length ∧ Goes O FB w s (tmOf a) ι w1 s1 (tmOf a1) ι1 ∧ loopN (evalC O call n f x) (restrict (O.live f (firstReg x))) m s1 = some q) (n := n) ⟨s, ι, rfl, rfl, rfl, Goes.refl h, he⟩ ?_
    rintro m a1 w1 ⟨s1, ι1, d1, z1, l1, g1, e1⟩
    cases m with
    | zero => simp [loopN] at e1
    | succ m =>
      simp only [loopN, Option.bind_eq_some_iff] at e1
      obtain ⟨s2, r1, ⟨e, s3⟩, r2, r3⟩ := e1
      have g2 := g1.stp.rel.cutDown r1
      have g12 := Goes.trans h g1 g2
      have l2 := restrict_len r1
      refine evalC_ok hP hC n x hd g2.stp.rel (by rw [l2, l1, hl, z1]) r2 fun a3 w3 ι3 d3 z3 g3 => ?_
      have g13 := Goes.trans h g12 g3
      have l3 := evalC_len n x r2
      simp only at l3
      cases e with
      | normal => exact ⟨m, Nat.lt_succ_self m, s3, ι3, d3.trans d1, z3.trans z1, by rw [l3, l2, l1], g13, r3⟩
      | exit id =>
        simp only [Option.some.injEq] at r3
        subst r3
        exact hq a3 w3 ι3 (d3.trans d1) (z3.trans z1) g13
      | ret =>
        simp only [Option.some.injEq] at r3
        subst r3
        exact hq a3 w3 ι3 (d3.trans d1) (z3.trans z1) g13
  | .exit id, w, s, ι, a, q, Q, _, h, hl, he, hq => by
    simp only [evalC, Option.some.injEq] at he
    subst he
    exact wp_exit (hq _ _ ι rfl rfl (Goes.refl h))
  | .ret, w, s, ι, a, q, Q, _, h, hl, he, hq => by
    simp only [evalC, Option.some.injEq] at he
    subst he
    exact wp_ret (hq _ _ ι rfl rfl (Goes.refl h))
  | .label _, w, s, ι, a, q, Q, _, h, hl, he, hq => by simp [evalC] at he
  | .goto _, w, s, ι, a, q, Q, _, h, hl, he, hq => by simp [evalC] at he
end Go.Am

/-
  What a call hands out is named by the order in which it is reached.
-/
namespace Go.Am
variable {P : Program} {O : Orc} {FB : Nat → Nat → Prop} {w : World} {ι : Key → Nat}

theorem look_renH {ρ inv : Key → Key} : ∀ {h : Heap} {q : Key} {o' : Ob}, (∀ b ∈ h, inv (ρ b.1) = b.1) → look (renH ρ h) q = some o' → ∃ k o, look h k = some o ∧ ρ k = q ∧ o' = renO ρ o
  | (k, o) :: r, q, o', hi, e => by
    simp only [renH, List.map_cons, look] at e
    split at e
    · rename_i hq
      cases e
      exact ⟨k, o, by simp [look], hq, rfl⟩
    · rename_i hq
      obtain ⟨k2, o2, h1, h2, h3⟩ := look_renH (h := r) (fun b hb => hi b (List.mem_cons_of_mem _ hb)) e
      refine ⟨k2, o2, ?_, h2, h3⟩
      simp only [look]
      rw [if_neg ?_]
      · exact h1
      · intro e2; subst e2; exact hq h2
theorem renH_look {ρ inv : Key → Key} : ∀ {h : Heap} {k : Key} {o : Ob}, (∀ b ∈ h, inv (ρ b.1) = b.1) → look h k = some o → look (renH ρ h) (ρ k) = some (renO ρ o)
  | (k', o') :: r, k, o, hi, e => by
    simp only [look] at e
    simp only [renH, List.map_cons, look]
    split at e
    · rename_i hk; cases e; subst hk; simp
    · rename_i hk
      rw [if_neg ?_]
      · exact renH_look (h := r) (fun b hb => hi b (List.mem_cons_of_mem _ hb)) e
      · intro e2
        have h1 := hi (k', o') (List.mem_cons_self ..)
        have h2 := hi (k, o) (List.mem_cons_of_mem _ (look_mem e))
        simp only at h1 h2
        rw [e2, h2] at h1
        exact hk h1.symm

/-- Objects get other names. -/
theorem Rel.rename {a : AV} {h : Heap} {v : Value} (H : Rel O FB w ⟨[a], h⟩ (fun _ => v) ι) {ρ inv : Key → Key} (hi : ∀ b ∈ h, inv (ρ b.1) = b.1) (hz : ∀ k : Key, k.1 = 0 → ρ k = k ∧ inv k = k) :
    Goes O FB w ⟨[a], h⟩ (fun _ => v) ι w ⟨[renA ρ a], renH ρ h⟩ (fun _ => v) (fun q => ι (inv q)) := by
  have hget : ∀ i, St.get ⟨[renA ρ a], renH ρ h⟩ i = if i = 0 then renA ρ a else .any := fun i => by cases i <;> simp [St.get]
  have hget0 : ∀ i, St.get ⟨[a], h⟩ i = if i = 0 then a else .any := fun i => by cases i <;> simp [St.get]
  have hinv : ∀ k o, look h k = some o → inv (ρ k) = k := fun k o e => hi (k, o) (look_mem e)
  have hback : ∀ q o', look (renH ρ h) q = some o' → ∃ o, look h (inv q) = some o ∧ o' = renO ρ o ∧ ρ (inv q) = q := by
    intro q o' e
    obtain ⟨k, o, h1, h2, h3⟩ := look_renH hi e
    have := hinv k o h1
    rw [h2] at this
    rw [this]
    exact ⟨o, h1, h3, h2⟩
  have htv : ∀ own t x, renA ρ a = .tv own t x → ∃ y, a = .tv own t y := by
    intro own t x e
    cases a <;> simp only [renA] at e <;> first | (cases e; exact ⟨_, rfl⟩) | (cases e)
  have hown : ∀ l x, owns w ⟨[renA ρ a], renH ρ h⟩ (fun _ => v) (fun q => ι (inv q)) l = some x →
      owns w ⟨[a], h⟩ (fun _ => v) ι (match l with | .sl i p => .sl i p | .fd k p => .fd (inv k) p | .ob k => .ob (inv k)) = some x ∧ (∀ k p, l = .fd k p → ρ (inv k) = k) ∧ ∀ k, l = .ob k → ρ (inv k) = k := by
    intro l x e
    cases l with
    | sl i p =>
      refine ⟨?_, by simp, by simp⟩
      simp only [owns, hget, hget0] at e ⊢
      by_cases h0 : i = 0
      · rw [if_pos h0] at e ⊢
        cases ha : renA ρ a with
        | tv own t x' => obtain ⟨y, hy⟩ := htv own t x' ha; rw [ha] at e; rw [hy]; exact e
        | _ => rw [ha] at e; simp at e
      · rw [if_neg h0] at e; simp at e
    | fd k p =>
      simp only [owns] at e ⊢
      cases hk : look (renH ρ h) k with
      | none => rw [hk] at e; cases e
      | some o' =>
        obtain ⟨o, h1, rfl, h2⟩ := hback k o' hk
        rw [hk] at e
        rw [h1]
        refine ⟨e, fun k' p' e' => by cases e'; exact h2, by simp⟩
    | ob k =>
      simp only [owns] at e ⊢
      cases hk : look (renH ρ h) k with
      | none => rw [hk] at e; cases e
      | some o' =>
        obtain ⟨o, h1, rfl, h2⟩ := hback k o' hk
        rw [hk] at e
        rw [h1]
        refine ⟨e, by simp, fun k' e' => by cases e'; exact h2⟩
  have hc : CellLe (rlOf w FB ⟨[a], h⟩ (fun _ => v) ι) (rlOf w FB ⟨[renA ρ a], renH ρ h⟩ (fun _ => v) (fun q => ι (inv q))) :=
    rl_le (Nat.le_refl _) (fun l b lo hl _ => ⟨_, lo, (hown l _ hl).1, Nat.le_refl _⟩) fun _ _ _ => rfl
  have hkt : ∀ k y, (rlOf w FB ⟨[a], h⟩ (fun _ => v) ι).kt k = some y → (rlOf w FB ⟨[renA ρ a], renH ρ h⟩ (fun _ => v) (fun q => ι (inv q))).kt (ρ k) = some y := by
    intro k y e
    simp only [rlOf, ktOf] at e ⊢
    cases hk : look h k with
    | none => rw [hk] at e; cases e
    | some o =>
      rw [hk] at e
      rw [renH_look hi hk, hinv k o hk]
      exact e
  refine ⟨⟨⟨fun i => ?_, fun q o' hq => ?_, fun l l' b lo lo' e1 e2 => ?_, fun i own t x e p hp => ?_, fun q o' hq p hp => ?_, fun l b lo lo' e => H.fb _ b lo lo' (hown l _ e).1, H.fs, H.gl_le hc⟩, fun l b lo e => .inl ⟨_, lo, (hown l _ e).1, Nat.le_refl _⟩, Nat.le_refl _⟩, Hist.refl _ _, fun k hk => ⟨?_, by show ι (inv k) = ι k; rw [(hz k hk).2]⟩⟩
  · rw [hget]
    split
    · have := H.vr 0
      rw [hget0, if_pos rfl] at this
      exact VR.ren hc a v (fun k _ y hy => hkt k y hy) this
    · simp only [VR]
  · obtain ⟨o, h1, rfl, _⟩ := hback q o' hq
    obtain ⟨g1, arr, T, g2, g3, g4⟩ := H.ob _ o h1
    refine ⟨g1, arr, T, g2, g3, ?_⟩
    show RV _ o.d.t (if o.d.t.noRef then o.d.x else renD ρ o.d.t o.d.x) _
    rw [renIf]
    exact RV.ren hc o.d.t o.d.x _ g1 (fun k _ y hy => hkt k y hy) g4
  · obtain ⟨f1, f2, f3⟩ := hown l _ e1
    obtain ⟨g1, g2, g3⟩ := hown l' _ e2
    have := H.dj _ _ b lo lo' f1 g1
    cases l <;> cases l' <;> simp only [Loc.sl.injEq, Loc.fd.injEq, Loc.ob.injEq, reduceCtorEq] at this ⊢
    · exact this
    · refine ⟨?_, this.2⟩
      rw [← f2 _ _ rfl, ← g2 _ _ rfl, this.1]
    · rw [← f3 _ rfl, ← g3 _ rfl, this]
  · rw [hget] at e
    by_cases h0 : i = 0
    · rw [if_pos h0] at e
      obtain ⟨y, hy⟩ := htv own t x e
      exact H.rs 0 own t y (by rw [hget0, if_pos rfl, hy]) p hp
    · rw [if_neg h0] at e; cases e
  · obtain ⟨o, h1, rfl, _⟩ := hback q o' hq
    exact H.rf _ o h1 p hp
  · have e1 := (hz k hk).1
    cases hl : look h k with
    | some o =>
      have := renH_look hi hl
      rw [e1] at this
      show (look (renH ρ h) k).map _ = _
      rw [this]; rfl
    | none =>
      show (look (renH ρ h) k).map _ = _
      cases hl' : look (renH ρ h) k with
      | none => rfl
      | some o' =>
        obtain ⟨o, h1, _, h2⟩ := hback k o' hl'
        rw [(hz k hk).2, hl] at h1
        cases h1
theorem idxOf_at {ks : List Key} {k : Key} : ∀ (n i : Nat), idxOf ks k n = some i → n ≤ i ∧ ks[i - n]? = some k := by
  induction ks with
  | nil => intro n i h; simp [idxOf] at h
  | cons q r ih =>
    intro n i h
    simp only [idxOf] at h
    split at h
    · rename_i hq; cases h; exact ⟨Nat.le_refl _, by simp [hq]⟩
    · obtain ⟨h1, h2⟩ := ih (n + 1) i h
      refine ⟨by omega, ?_⟩
      rw [show i - n = (i - (n + 1)) + 1 by omega]
      simpa using h2
theorem canI_canN {ex : List Key} {k : Key} (h : k.1 = 0 ∨ k ∈ ex) : canI ex (canN ex k) = k := by
  unfold canN
  by_cases h0 : k.1 = 0
  · rw [if_pos h0]; unfold canI; rw [if_pos h0]
  · rw [if_neg h0]
    rcases h with h | h
    · exact absurd h h0
    · obtain ⟨i, h1, _, h2⟩ := idxOf_mem (ks := ex) (k := k) 0 h
      rw [h1, Nat.zero_add]
      unfold canI
      rw [if_neg (by simp)]
      exact h2
theorem canon_ok {a : AV} {h : Heap} {v : Value} {q : AV × Heap} (H : Rel O FB w ⟨[a], h⟩ (fun _ => v) ι) (e : canon a h = some q) : ∃ ι', Goes O FB w ⟨[a], h⟩ (fun _ => v) ι w ⟨[q.1], q.2⟩ (fun _ => v) ι' := by
  unfold canon at e
  rw [forceKs_eq] at e
  generalize exK a h = ex at e
  split at e
  · simp only [Option.map_eq_some_iff] at e
    obtain ⟨s, hs, rfl⟩ := e
    have g1 := H.cutDown hs
    have henv : s = ⟨[a], s.heap⟩ ∧ ∀ b ∈ s.heap, b.1.1 = 0 ∨ b.1 ∈ ex := by
      unfold restrict at hs
      simp only at hs
      split at hs
      · simp only [Option.some.injEq] at hs
        rw [← hs]
        refine ⟨rfl, fun b hb => ?_⟩
        have := (List.mem_filter.1 hb).2
        simpa using this
      · cases hs
    have g2 := g1
    rw [henv.1] at g2
    have g3 := g2.stp.rel.rename (ρ := canN ex) (inv := canI ex) (fun b hb => canI_canN (henv.2 b hb)) (fun k hk => ⟨by unfold canN; rw [if_pos hk], by unfold canI; rw [if_pos hk]⟩)
    exact ⟨_, Goes.trans H g2 g3⟩
  · cases e
end Go.Am

/-
  A function's call comes to what the machine says.
-/
namespace Go.Am
variable {P : Program} {O : Orc} {FB : Nat → Nat → Prop} {w : World} {s : St} {ι : Key → Nat}

def resRun (a : Act) : ResultVar → Sem Value
  | .tmp t => pure (a.tmps.getD t undef)
  | .cell c T => do loadVar T (← asAddr (a.tmps.getD c undef))

theorem resV_ok (hO : OrcOK P O) {a : Act} (h : Rel O FB w s (tmOf a) ι) {x : ResultVar} {b : AV} (he : resV O s x = some b) :
    ∃ v, (resRun a x).run P w = .ok v w ∧ VR (rlOf w FB s (tmOf a) ι) O b v ∧ ((∃ t, b = s.get t ∧ v = tmOf a t) ∨ b.own = []) := by
  cases x with
  | tmp t =>
    simp only [resV, Option.some.injEq] at he
    subst he
    exact ⟨_, (by simp only [resRun, Sem.run_pure]; rfl), h.vr t, .inl ⟨t, rfl, rfl⟩⟩
  | cell c T =>
    simp only [resV, Option.bind_eq_some_iff] at he
    obtain ⟨d, hd, he⟩ := he
    split at he
    · rename_i hT
      simp only [Option.some.injEq] at he
      subst he
      obtain ⟨b, o, cs, hv, hc, hrv, hf⟩ := loadV_ok h (h.vr c) hd
      refine ⟨_, ?_, Dat.av_ok (VT.of_cells hf hrv), .inr (Dat.av_own d)⟩
      have hv' : a.tmps.getD c undef = .pointer (some ⟨b, o, none⟩) := hv
      simp only [resRun, hv', asAddr, Sem.run_bind, Sem.run_pure, Result.andThen_ok]
      exact run_loadVar (hO.ty T _ hT) hc size0_agg
    · cases he

theorem resL_ok (hO : OrcOK P O) {a : Act} (h : Rel O FB w s (tmOf a) ι) : ∀ {rs : List ResultVar} {l : List AV}, resL O s rs = some l →
    ∃ vs : List Value, (rs.mapM (resRun a)).run P w = .ok vs w ∧ VRL (rlOf w FB s (tmOf a) ι) O l vs ∧ l.length = rs.length ∧ vs.length = rs.length ∧ ∀ b v, l = [b] → vs = [v] → (∃ t, b = s.get t ∧ v = tmOf a t) ∨ b.own = []
  | [], l, he => by
    simp only [resL, Option.some.injEq] at he
    subst he
    exact ⟨[], by simp, rfl, rfl, rfl, nofun⟩
  | x :: rs, l, he => by
    simp only [resL, Option.bind_eq_some_iff, Option.map_eq_some_iff] at he
    obtain ⟨b, hb, m, hm, rfl⟩ := he
    obtain ⟨v, h1, h2, h3⟩ := resV_ok hO h hb
    obtain ⟨vs, h4, h5, h6, h7, _⟩ := resL_ok hO h hm
    refine ⟨v :: vs, ?_, ?_, by simp [h6], by simp [h7], fun b' v' e1 e2 => ?_⟩
    · simp only [List.mapM_cons, Sem.run_bind, h1, h4, Result.andThen_ok, Sem.run_pure]
    · simp only [VRL]; exact ⟨v, vs, rfl, h2, h5⟩
    · injection e1 with e1 _
      injection e2 with e2 _
      subst e1; subst e2
      exact h3

def retV : List Value → Value
  | [v] => v
  | vs => .tuple vs.toArray
theorem results_run {fn : Func} {a : Act} {vs : List Value} (h : (fn.results.toList.mapM (resRun a)).run P w = .ok vs w) : (results fn a.tmps).run P w = .ok (retV vs) w := by
  have he : results fn a.tmps = (do let vs ← fn.results.mapM (resRun a); pure (if h : vs.size = 1 then vs[0] else .tuple vs)) := by
    unfold results resRun
    rfl
  rw [he, Array.mapM_eq_mapM_toList]
  simp only [Sem.run_bind, h, Result.andThen_ok, Sem.run_pure, map_eq_pure_bind, bind_assoc, pure_bind]
  congr 1
  match vs with
  | [] => rfl
  | [v] => rfl
  | v :: u :: r => rfl

theorem VRL_dropL {R : Rl} : ∀ (l : List AV) (vs : List Value), VRL R O l vs → VRL R O (l.map AV.drop) vs := VRL_drop

/-- The values that are handed back. -/
theorem Rel.ends {tm : Nat → Value} (h : Rel O FB w s tm ι) {r : AV} {v : Value} (hv : VR (rlOf w FB s tm ι) O r v) (ho : (∃ t, r = s.get t ∧ v = tm t) ∨ r.own = []) : Goes O FB w s tm ι w ⟨[r], s.heap⟩ (fun _ => v) ι := by
  have hget : ∀ i, ([r] : List AV).getD i .any = if i = 0 then r else .any := fun i => by cases i <;> simp
  have hown : ∀ i p x, owns w ⟨[r], s.heap⟩ (fun _ => v) ι (.sl i p) = some x → i = 0 ∧ ∃ t, owns w s tm ι (.sl t p) = some x ∧ r = s.get t ∧ v = tm t := by
    intro i p x e
    simp only [owns, St.get, hget] at e
    by_cases hi : i = 0
    · refine ⟨hi, ?_⟩
      rw [if_pos hi] at e
      rcases ho with ⟨t, h1, h2⟩ | h1
      · refine ⟨t, ?_, h1, h2⟩
        simp only [owns, ← h1, ← h2]
        exact e
      · cases r with
        | tv own t y => simp only [AV.own] at h1; subst h1; simp at e
        | _ => simp at e
    · rw [if_neg hi] at e; cases e
  refine ⟨h.env [r] (fun _ => v) (fun i => ?_) (fun i p x e => ?_) (fun i p i' p' b lo lo' e1 e2 => ?_) (fun i own t x e p hp => ?_), Hist.refl _ _, fun _ _ => ⟨rfl, rfl⟩⟩
  · rw [hget]
    split
    · exact hv
    · simp only [VR]
  · obtain ⟨_, t, e1, _⟩ := hown i p x e; exact ⟨t, p, e1⟩
  · obtain ⟨rfl, t, f1, g1, g2⟩ := hown i p _ e1
    obtain ⟨rfl, t', f2, g3, g4⟩ := hown i' p' _ e2
    have : owns w s tm ι (.sl t p') = some (b, lo') := by
      simp only [owns] at f2 ⊢
      rw [← g1, ← g2]
      rw [← g3, ← g4] at f2
      exact f2
    have := h.dj _ _ _ _ _ f1 this
    injection this with _ hp
    rw [hp]
  · rw [hget] at e
    split at e
    · rcases ho with ⟨k, h1, h2⟩ | h1
      · rw [h2]; exact h.rs k own t x (h1 ▸ e) p hp
      · rw [e] at h1; simp only [AV.own] at h1; subst h1; cases hp
    · cases e

theorem callF_ok (hP : ProgOK P O) : ∀ k, CallOK P O (callF P O k)
  | 0 => fun g args h q e => by simp [callF] at e
  | k + 1 => fun g args h q e => by
    have ih := callF_ok hP k
    simp only [callF] at e
    split at e
    · rename_i p hp
      simp only [Option.map_eq_some_iff] at e
      obtain ⟨r, hr, rfl⟩ := e
      obtain ⟨h1, h2⟩ := hP.prim g p hp args r hr
      exact ⟨h1, fun FB w ι vs hlen hrel => h2 FB w h ι vs hlen hrel⟩
    · split at e
      · cases e
      · rename_i hfns
        have hfns' : O.fns g = true := by simpa using hfns
        simp only [Option.bind_eq_some_iff] at e
        obtain ⟨fn, hfn, c, hc, ⟨x, s1⟩, he, e⟩ := e
        obtain ⟨hd, hname⟩ := hP.fns g hfns' fn c hfn hc
        refine ⟨⟨fn, hfn, by rw [hc]; rfl, hname⟩, fun FB w ι vs hlen hrel => ?_⟩
        refine calls_of_wp hfn hc ?_
        have htm : tmOf { tmps := vs ++ Array.replicate (fn.ntmps - vs.size) undef, defers := [] } = tmArgs vs := by
          funext i
          simp only [tmOf, tmArgs, Array.getD_eq_getD_getElem?, List.getD_eq_getElem?_getD, Array.getElem?_toList, Array.getElem?_append]
          split
          · rfl
          · rename_i hi
            rw [Array.getElem?_replicate, Array.getElem?_eq_none (by omega)]
            split <;> rfl
        have hg0 : Goes O FB w ⟨args, h⟩ (tmArgs vs) ι w ⟨args ++ List.replicate (fn.ntmps - args.length) .no, h⟩ (tmArgs vs) ι := by
          have hget : ∀ i, (args ++ List.replicate (fn.ntmps - args.length) AV.no).getD i .any = args.getD i .any ∨ ((args ++ List.replicate (fn.ntmps - args.length) AV.no).getD i .any = .no ∧ args.length ≤ i) := by
            intro i
            simp only [List.getD_eq_getElem?_getD, List.getElem?_append]
            split
            · exact .inl rfl
            · rename_i hi
              rw [List.getElem?_replicate]
              split
              · exact .inr ⟨rfl, by omega⟩
              · exact .inl (by rw [List.getElem?_eq_none (by omega)])
          have hown : ∀ i p x, owns w ⟨args ++ List.replicate (fn.ntmps - args.length) .no, h⟩ (tmArgs vs) ι (.sl i p) = some x → owns w ⟨args, h⟩ (tmArgs vs) ι (.sl i p) = some x := by
            intro i p x e
            simp only [owns, St.get] at e ⊢
            rcases hget i with hg | ⟨hg, _⟩
            · rw [hg] at e; exact e
            · rw [hg] at e; cases e
          refine ⟨hrel.env _ _ (fun i => ?_) (fun i p x e => ⟨i, p, hown i p x e⟩) (fun i p i' p' b lo lo' e1 e2 => hrel.dj _ _ b lo lo' (hown _ _ _ e1) (hown _ _ _ e2)) (fun i own t x e p hp => ?_), Hist.refl _ _, fun _ _ => ⟨rfl, rfl⟩⟩
          · rcases hget i with hg | ⟨hg, hi⟩
            · rw [hg]; exact hrel.vr i
            · rw [hg]
              show tmArgs vs i = undef
              simp [tmArgs, List.getD_eq_getElem?_getD, List.getElem?_eq_none (show vs.toList.length ≤ i by simpa using (by omega : vs.size ≤ i))]
          · rcases hget i with hg | ⟨hg, _⟩
            · rw [hg] at e; exact hrel.rs i own t x e p hp
            · rw [hg] at e; cases e
        have hrel0 := hg0.stp.rel
        have hrel1 := hrel0
        rw [← htm] at hrel1
        refine evalC_ok hP ih k c hd hrel1 (by simp [hlen]) he fun a' w' ι' hd' hz' hg => ?_
        rw [htm] at hg
        have hgg := Goes.trans hrel hg0 hg
        have fin : ∀ l, resL O s1 fn.results.toList = some l → canon (resA l) s1.heap = some q → a'.defers = [] ∧ ∃ v, (results fn a'.tmps).run P w' = .ok v w' ∧ ∃ v' ι'', Ending.returned v = .returned v' ∧ Goes O FB w ⟨args, h⟩ (tmArgs vs) ι w' ⟨[q.1], q.2⟩ (fun _ => v') ι'' := by
          intro l hl hq
          obtain ⟨us, r1, r2, r3, r4, r5⟩ := resL_ok hP.orc hg.stp.rel hl
          have hends : VR (rlOf w' FB s1 (tmOf a') ι') O (resA l) (retV us) → ((∃ t, resA l = s1.get t ∧ (retV us) = tmOf a' t) ∨ (resA l).own = []) →
              ∃ ι'', Goes O FB w ⟨args, h⟩ (tmArgs vs) ι w' ⟨[q.1], q.2⟩ (fun _ => (retV us)) ι'' := fun k1 k2 => by
            have g1 := hg.stp.rel.ends k1 k2
            obtain ⟨ι'', g2⟩ := canon_ok g1.stp.rel hq
            exact ⟨ι'', Goes.trans hrel (Goes.trans hrel hgg g1) g2⟩
          refine Exists.elim (hends ?_ ?_) fun ι'' hfin => ⟨hd', _, results_run r1, _, ι'', rfl, hfin⟩
          · match l, us, r2, r3, r4, r5 with
            | [], [], r2, _, _, _ => simp only [resA, VR]; exact ⟨_, rfl, VRL_drop _ _ r2⟩
            | [b], [v], r2, _, _, _ =>
              simp only [VRL] at r2
              obtain ⟨v', r, e, h1, _⟩ := r2
              cases e
              exact h1
            | b :: b2 :: m, v :: v2 :: us, r2, _, _, _ => simp only [resA, VR]; exact ⟨_, rfl, VRL_drop _ _ r2⟩
            | [], v :: us, _, r3, r4, _ => simp only [List.length_nil, List.length_cons] at r3 r4; omega
            | b :: m, [], _, r3, r4, _ => simp only [List.length_nil, List.length_cons] at r3 r4; omega
            | [b], v :: v2 :: us, _, r3, r4, _ => simp only [List.length_nil, List.length_cons] at r3 r4; omega
            | b :: b2 :: m, [v], _, r3, r4, _ => simp only [List.length_nil, List.length_cons] at r3 r4; omega
          · match l, us, r3, r4, r5 with
            | [], [], _, _, _ => exact .inr rfl
            | [b], [v], _, _, r5 => exact r5 b v rfl rfl
            | b :: b2 :: m, v :: v2 :: us, _, _, _ => exact .inr rfl
            | [], v :: us, r3, r4, _ => simp only [List.length_nil, List.length_cons] at r3 r4; omega
            | b :: m, [], r3, r4, _ => simp only [List.length_nil, List.length_cons] at r3 r4; omega
            | [b], v :: v2 :: us, r3, r4, _ => simp only [List.length_nil, List.length_cons] at r3 r4; omega
            | b :: b2 :: m, [v], r3, r4, _ => simp only [List.length_nil, List.length_cons] at r3 r4; omega
        cases x with
        | normal =>
          simp only [Option.bind_eq_some_iff] at e
          obtain ⟨l, hl, hq⟩ := e
          exact fin l hl hq
        | ret =>
          simp only [Option.bind_eq_some_iff] at e
          obtain ⟨l, hl, hq⟩ := e
          exact fin l hl hq
        | exit id => simp at e
end Go.Am

/-
  What the tables say of a program can be checked.
-/
namespace Go.Am
variable {P : Program} {O : Orc}

def zB1 : Value → Value → Bool
  | .int k n, .int k' m => decide (k = k') && decide (n = m)
  | .bool a, .bool b => a == b
  | .string s, .string t => s.size == 0 && t.size == 0
  | .pointer none, .pointer none => true
  | .slice none a b, .slice none c d => a == c && b == d
  | _, _ => false
def zBL : List Value → List Value → Bool
  | [], [] => true
  | a :: l, b :: m => zB1 a b && zBL l m
  | _, _ => false
def zB : Value → Value → Bool
  | .agg a, .agg b => zBL a.toList b.toList
  | a, b => zB1 a b
theorem zB1_eq : ∀ {a b : Value}, zB1 a b = true → a = b := by
  intro a b h
  unfold zB1 at h
  split at h
  · simp only [Bool.and_eq_true, decide_eq_true_eq] at h; rw [h.1, h.2]
  · simp only [beq_iff_eq] at h; rw [h]
  · rename_i s t
    simp only [Bool.and_eq_true, beq_iff_eq] at h
    have : s = t := by
      obtain ⟨⟨s⟩⟩ := s
      obtain ⟨⟨t⟩⟩ := t
      have h1 : s.length = 0 := h.1
      have h2 : t.length = 0 := h.2
      rw [List.length_eq_zero_iff.1 h1, List.length_eq_zero_iff.1 h2]
    rw [this]
  · rfl
  · simp only [Bool.and_eq_true, beq_iff_eq] at h; rw [h.1, h.2]
  · cases h
theorem zBL_eq : ∀ {a b : List Value}, zBL a b = true → a = b
  | [], [], _ => rfl
  | a :: l, b :: m, h => by
    simp only [zBL, Bool.and_eq_true] at h
    rw [zB1_eq h.1, zBL_eq h.2]
  | [], _ :: _, h => by simp [zBL] at h
  | _ :: _, [], h => by simp [zBL] at h
theorem zB_eq {a b : Value} (h : zB a b = true) : a = b := by
  unfold zB at h
  split at h
  · rw [Array.toList_inj.1 (zBL_eq h)]
  · exact zB1_eq h

def nfl : Ty → Nat
  | .pair _ b => nfl b + 1
  | .expr => 3
  | _ => 0
theorem fldT_none : ∀ (t : Ty) (i : Nat), nfl t ≤ i → fldT t i = none
  | .pair a b, 0, h => by simp [nfl] at h
  | .pair a b, i + 1, h => by simp only [fldT]; exact fldT_none b i (by simp only [nfl] at h; omega)
  | .expr, i, h => by
    simp only [nfl] at h
    obtain ⟨j, rfl⟩ : ∃ j, i = j + 3 := ⟨i - 3, by omega⟩
    rfl
  | .int _, _, _ => rfl
  | .bool, _, _ => rfl
  | .str, _, _ => rfl
  | .unit, _, _ => rfl
  | .ref, _, _ => rfl
  | .slice _, _, _ => rfl
  | .arr _ _, _, _ => rfl

def fieldsB (O : Orc) (t : Ty) (fs : Array Field) : Bool :=
  decide (nfl t ≤ fs.size) && (List.range fs.size).all fun i => match fs[i]?, fldT t i with
    | some f, some u => decide (O.ty f.type = some u) && decide (f.offset = fldOff t i) && decide (u.size ≠ 0) && decide (f.name ≠ "_")
    | _, _ => false
theorem fieldsB_ok {t : Ty} {fs : Array Field} (h : fieldsB O t fs = true) : FieldsOK O t fs := by
  unfold fieldsB at h
  simp only [Bool.and_eq_true, decide_eq_true_eq, List.all_eq_true, List.mem_range] at h
  refine ⟨fun i f hf => ?_, fun i hi => ?_⟩
  · have hlt : i < fs.size := by
      rcases Nat.lt_or_ge i fs.size with h | h
      · exact h
      · rw [Array.getElem?_eq_none h] at hf; cases hf
    have := h.2 i hlt
    rw [hf] at this
    split at this
    · rename_i f' u e1 e2
      cases e1
      simp only [Bool.and_eq_true, decide_eq_true_eq] at this
      obtain ⟨⟨⟨a, b⟩, c⟩, d⟩ := this
      exact ⟨u, e2, a, b, c, d⟩
    · cases this
  · have hge : fs.size ≤ i := by
      rcases Nat.lt_or_ge i fs.size with h | h
      · rw [Array.getElem?_eq_getElem h] at hi; cases hi
      · exact h
    exact fldT_none t i (by omega)

def undB (P : Program) (O : Orc) (t : Ty) (d : TypeDesc) : Bool := match t, d with
  | .int k, .int k' => decide (k' = k)
  | .bool, .bool => true
  | .str, .string => true
  | .ref, .pointer e => P.cellsOf e != 0
  | .slice u, .slice e => decide (O.ty e = some u) && u.size != 0
  | .arr n u, .array m e => decide (m = n) && decide (O.ty e = some u) && u.size != 0 && decide (1 < n)
  | .unit, .struct fs => fieldsB O .unit fs
  | .expr, .struct fs => fieldsB O .expr fs
  | .pair a b, .struct fs => fieldsB O (.pair a b) fs && (Ty.pair a b).chain && decide (dpt (.pair a b) ≤ 1000)
  | _, _ => false
theorem undB_ok {t : Ty} {d : TypeDesc} (h : undB P O t d = true) : UndOK P O t d := by
  unfold undB at h
  split at h
  · simp only [decide_eq_true_eq] at h; rw [h]; rfl
  · rfl
  · rfl
  · rename_i e; exact ⟨e, rfl, by simpa using h⟩
  · rename_i u e
    simp only [Bool.and_eq_true, decide_eq_true_eq, bne_iff_ne] at h
    exact ⟨e, rfl, h.1, h.2⟩
  · rename_i n u m e
    simp only [Bool.and_eq_true, decide_eq_true_eq, bne_iff_ne] at h
    obtain ⟨⟨⟨rfl, b⟩, c⟩, d⟩ := h
    exact ⟨e, rfl, b, c, d⟩
  · rename_i fs; exact ⟨fs, rfl, fieldsB_ok h, rfl, by decide⟩
  · rename_i fs; exact ⟨fs, rfl, fieldsB_ok h, rfl, by decide⟩
  · rename_i a b fs
    simp only [Bool.and_eq_true, decide_eq_true_eq] at h
    exact ⟨fs, rfl, fieldsB_ok h.1.1, h.1.2, h.2⟩
  · cases h

def tyB (P : Program) (O : Orc) (T : TypeId) (t : Ty) : Bool :=
  t.fine && (match P.info? T with
    | some i => decide (i.size = t.size) && (match i.zero with | some z => zB z (zeroVal t) | none => false) && decide (i.bytes ≤ 1024)
    | none => false) && (match P.underlying T with
    | some d => undB P O t d
    | none => false) && (!t.agg || (!P.eqGuardType P.depth T && !P.stoodInHeld T))
theorem tyB_ok {T : TypeId} {t : Ty} (h : tyB P O T t = true) : TyOK P O T t := by
  unfold tyB at h
  simp only [Bool.and_eq_true, Bool.or_eq_true, Bool.not_eq_true'] at h
  obtain ⟨⟨⟨h1, h2⟩, h3⟩, h4⟩ := h
  refine ⟨h1, ?_, ?_, fun ha => ?_⟩
  · split at h2
    · rename_i i hi
      simp only [Bool.and_eq_true, decide_eq_true_eq] at h2
      refine ⟨i, hi, h2.1.1, ?_, h2.2⟩
      have := h2.1.2
      split at this
      · rename_i z hz; rw [hz, zB_eq this]
      · cases this
    · cases h2
  · split at h3
    · rename_i d hd; exact ⟨d, hd, undB_ok h3⟩
    · cases h3
  · rcases h4 with h4 | h4
    · rw [ha] at h4; cases h4
    · exact h4

def orcB (P : Program) (O : Orc) (n : Nat) : Bool := (List.range n).all fun T => match O.ty T with
  | some t => tyB P O T t
  | none => true
theorem orcB_ok {n : Nat} (hn : ∀ T, n ≤ T → O.ty T = none) (h : orcB P O n = true) : OrcOK P O := ⟨fun T t ht => by
  rcases Nat.lt_or_ge T n with hl | hl
  · have := List.all_eq_true.1 h T (List.mem_range.2 hl)
    rw [ht] at this
    exact tyB_ok this
  · rw [hn T hl] at ht; cases ht⟩
def fnB (P : Program) (O : Orc) (f : FuncId) : Bool := !O.fns f || match P.funcs[f]? with
  | some fn => fn.name != "runtime.NumGoroutine" && match fn.body with | some c => drawsOk O f c | none => true
  | none => true
def fnsB (P : Program) (O : Orc) (n : Nat) : Bool := (List.range n).all (fnB P O)
theorem fnsB_ok {n : Nat} (hn : ∀ f, n ≤ f → O.fns f = false) (h : fnsB P O n = true) : ∀ f, O.fns f = true → ∀ fn c, P.funcs[f]? = some fn → fn.body = some c → drawsOk O f c = true ∧ (fn.name == "runtime.NumGoroutine") = false := by
  intro f hf fn c h1 h2
  rcases Nat.lt_or_ge f n with hl | hl
  · have := List.all_eq_true.1 h f (List.mem_range.2 hl)
    unfold fnB at this
    rw [hf, h1] at this
    simp only [h2, Bool.not_true, Bool.false_or, Bool.and_eq_true] at this
    refine ⟨this.2, ?_⟩
    have := this.1
    simpa [bne] using this
  · rw [hn f hl] at hf; cases hf
end Go.Am

/-
  What the machine says of a law's call, said of the model.
-/
namespace Go.Am
variable {P : Program} {O : Orc} {w : World}

/-- Reading from without: every cell that is there stays. -/
def R0 (w : World) : Rl := ⟨w, fun b _ => b < w.heap.size, fun _ => none⟩
def GlobAt (O : Orc) (w : World) : Prop := ∀ g d, O.glob g = some d → d.t.noRef = true ∧ d.t.fine = true ∧ ∃ us, At (R0 w) g 0 d.t.size us ∧ RV (R0 w) d.t d.x us

theorem law_calls (hP : ProgOK P O) {k : Nat} {f : FuncId} {args : List AV} {vs : Array Value} {own : List (List Nat)} {h' : Heap} (hlen : args.length = vs.size) (hv : VRL (R0 w) O args vs.toList) (ho : ∀ a ∈ args, a.own = []) (hg : GlobAt O w)
    (he : callF P O k f args [] = some (.tv own .bool true, h')) : Calls P f vs w fun e w' => e = .returned (.bool true) ∧ Go.RowKit.Below w.heap.size w w' := by
  have hown0 : ∀ i, (args.getD i .any).own = [] := by
    intro i
    rw [List.getD_eq_getElem?_getD]
    cases hi : args[i]? with
    | none => rfl
    | some a => exact ho a (List.mem_of_getElem? hi)
  have hown : ∀ l x, owns w ⟨args, []⟩ (tmArgs vs) (fun _ => 0) l ≠ some x := by
    intro l x e
    cases l with
    | sl i p =>
      have := hown0 i
      simp only [owns, St.get] at e
      cases hi : args.getD i .any with
      | tv own t y => rw [hi] at e this; simp only [AV.own] at this; subst this; simp at e
      | _ => rw [hi] at e; simp at e
    | fd k p => simp [owns, look] at e
    | ob k => simp [owns, look] at e
  have hc : CellLe (R0 w) (rlOf w (fun _ _ => False) ⟨args, []⟩ (tmArgs vs) fun _ => 0) := fun b o hp v hv => ⟨hv, hp, fun l lo e => absurd e (hown l _), fun lo hf => hf.elim⟩
  have hrel : Rel O (fun _ _ => False) w ⟨args, []⟩ (tmArgs vs) fun _ => 0 := by
    refine ⟨fun i => ?_, fun k o e => by simp [look] at e, fun l l' b lo lo' e => absurd e (hown l _), fun i own t x e p hp => ?_, fun k o e => by simp [look] at e, fun l b lo lo' e => absurd e (hown l _), fun b lo hf => hf.elim, fun g d hd => ?_⟩
    · exact VR.le' hc (fun k _ y hy => by cases hy) (VRL_getD _ _ hv i)
    · have := hown0 i
      have e' : args.getD i .any = .tv own t x := e
      rw [e'] at this
      simp only [AV.own] at this
      subst this; cases hp
    · obtain ⟨h1, h2, us, h3, h4⟩ := hg g d hd
      exact ⟨h1, h2, us, h3.le hc, RV.le0 hc d.t d.x us h1 h2 h4⟩
  refine ((callF_ok hP k f args [] _ he).2 _ w _ vs hlen hrel).mono ?_
  rintro e w' ⟨v, ι', rfl, hg⟩
  have hv := hg.stp.rel.vr 0
  simp only [St.get, List.getD_cons_zero, VR] at hv
  refine ⟨by rw [hv.bool], hg.hist.os, hg.hist.tape, hg.hist.output, hg.hist.size, fun b hb => hg.hist.block b hb fun lo ⟨l, hl⟩ => hown l _ hl⟩

theorem VR.of_int (n : Int) : VR (R0 w) O (.tv [] (.int .i64) n) (.int .i64 n) := by
  simp only [VR]; exact VT.ofInt _ _ nofun
theorem VR.of_bool (b : Bool) : VR (R0 w) O (.tv [] .bool b) (.bool b) := by
  simp only [VR]; exact VT.ofBool _
def ofBytes (s : ByteArray) : List Int := s.data.toList.map fun c => (c.toNat : Int)
theorem VR.of_string (s : ByteArray) : VR (R0 w) O (.tv [] .str (ofBytes s)) (.string s) := by
  have h : VT (R0 w) .str (ofBytes s) (.string (bytesOf (ofBytes s))) := VT.ofStr _ fun z hz => by
    obtain ⟨c, _, rfl⟩ := List.mem_map.1 hz
    exact ⟨by omega, by have := c.toNat_lt; omega⟩
  have e : bytesOf (ofBytes s) = s := by
    unfold bytesOf ofBytes
    obtain ⟨⟨l⟩⟩ := s
    congr 2
    simp only [List.map_map]
    conv => rhs; rw [← List.map_id l]
    apply List.map_congr_left
    intro c _
    simp
  rw [e] at h
  simp only [VR]; exact h
/-- A slice whose elements are read one by one. -/
theorem VR.of_slice {t : Ty} {l : List (den t)} {a : Option Addr} {b off cap : Nat} {us : Nat → Nat → Value} (hf : (Ty.slice t).fine = true) (h1 : l.length ≤ cap) (h2 : a = none → l.length = 0 ∧ cap = 0) (h3 : 0 < l.length → a = some ⟨b, off, none⟩)
    (h4 : ∀ i, i < l.length → ∀ j, j < t.size → w.cell? ⟨b, off + i * t.size + j, none⟩ = some (us i j)) (h5 : ∀ i, i < l.length → RV (R0 w) t (l.getD i (zero t)) (us i)) : VR (R0 w) O (.tv [] (.slice t) l) (.slice a l.length cap) := by
  simp only [VR]
  refine ⟨hf, nofun, fun _ => rfl, rfl, ?_⟩
  simp only [RV]
  refine ⟨a, cap, b, off, us, cellsF_one (by simp), h1, h2, h3, fun i hi j hj => ⟨h4 i hi j hj, ?_⟩, h5⟩
  have := h4 i hi j hj
  show b < w.heap.size
  unfold World.cell? at this
  rcases Nat.lt_or_ge b w.heap.size with h | h
  · exact h
  · simp [Array.getElem?_eq_none h] at this
end Go.Am

/-
  The machine run on open data: what must hold of the data is listed, not asked.
-/
namespace Go.Am

/-- What a run is told: which way a test goes, what a call or a loop comes to. -/
inductive It where
  | br (b : Bool) | res (a : AV) (h : Heap) | lp (e : Ex) (s : St)

/-- A result with what must hold. -/
structure W (α : Type) where
  a : α
  obs : List Prop
def Holds : List Prop → Prop
  | [] => True
  | p :: l => p ∧ Holds l
theorem Holds.append : ∀ (l m : List Prop), Holds (l ++ m) ↔ Holds l ∧ Holds m
  | [], m => by simp [Holds]
  | p :: l, m => by simp [Holds, Holds.append l m, and_assoc]

def FitP : IntKind → Int → Prop
  | .i64, n => -9223372036854775808 ≤ n ∧ n ≤ 9223372036854775807
  | .u8, n => 0 ≤ n ∧ n ≤ 255
  | .u64, n => 0 ≤ n ∧ n ≤ 18446744073709551615
  | .u32, n => 0 ≤ n ∧ n ≤ 4294967295
  | .i32, n => -2147483648 ≤ n ∧ n ≤ 2147483647
  | _, _ => False
theorem FitP.fits {k : IntKind} {n : Int} (h : FitP k n) : fits k n = true := by
  unfold FitP at h
  unfold Am.fits
  split at h <;> simp_all
def numS (w : Bool) (k : IntKind) (n : Int) : W AV := if w then ⟨.tv [] (.int k) (k.wrap n), []⟩ else ⟨.tv [] (.int k) n, [FitP k n]⟩
theorem numS_ok {w : Bool} {k : IntKind} {n : Int} (h : Holds (numS w k n).obs) : num w k n = some (numS w k n).a := by
  unfold numS num at *
  cases w with
  | true => rfl
  | false => simp only [Bool.false_eq_true, if_false, Holds] at h ⊢; rw [if_pos h.1.fits]

def intOpS (w : Bool) (op : BinOp) (k : IntKind) (a b : Int) : Option (W AV) := match op with
  | .add => some (numS w k (a + b)) | .sub => some (numS w k (a - b)) | .mul => some (numS w k (a * b))
  | .quo => some ⟨(numS w k (a.tdiv b)).a, (b ≠ 0) :: (numS w k (a.tdiv b)).obs⟩
  | .rem => some ⟨.tv [] (.int k) (a.tmod b), [b ≠ 0, ¬ (k = .u8 ∧ ¬ (0 ≤ a ∧ a < 256 ∧ 0 < b))]⟩
  | op => (intOp w op k a b).map fun r => ⟨r, []⟩
theorem intOpS_ok {w : Bool} {op : BinOp} {k : IntKind} {a b : Int} {r : W AV} (e : intOpS w op k a b = some r) (h : Holds r.obs) : intOp w op k a b = some r.a := by
  unfold intOpS at e
  split at e
  · cases e; exact numS_ok h
  · cases e; exact numS_ok h
  · cases e; exact numS_ok h
  · cases e
    simp only [Holds] at h
    simp only [intOp]
    rw [if_neg h.1]; exact numS_ok h.2
  · cases e
    simp only [Holds] at h
    simp only [intOp]
    rw [if_neg h.1, if_neg h.2.1]
  · simp only [Option.map_eq_some_iff] at e
    obtain ⟨x, hx, rfl⟩ := e
    exact hx

def binVS (w : Bool) (T : Option Ty) (op : BinOp) (x y : AV) : Option (W AV) := match op, x, y with
  | .shl, .tv _ (.int k) a, .tv _ (.int _) b => some ⟨.tv [] (.int k) (k.wrap (a * 2 ^ (min b.toNat k.bits))), [¬ b < 0]⟩
  | .shr, .tv _ (.int k) a, .tv _ (.int _) b => some ⟨.tv [] (.int k) (a.fdiv (2 ^ (min b.toNat k.bits))), [¬ b < 0, ¬ (k = .u8 ∧ ¬ (0 ≤ a ∧ a < 256))]⟩
  | op, .tv _ (.int k) a, .tv _ (.int k') b => if k = k' then intOpS w op k a b else none
  | .add, .tv _ .str a, .tv _ .str b => some ⟨.tv [] .str (a ++ b), [a.length + b.length ≤ bigN]⟩
  | op, x, y => (binV w T op x y).map fun r => ⟨r, []⟩
theorem binVS_ok {w : Bool} {T : Option Ty} {op : BinOp} {x y : AV} {r : W AV} (e : binVS w T op x y = some r) (h : Holds r.obs) : binV w T op x y = some r.a := by
  unfold binVS at e
  split at e
  · cases e; simp only [Holds] at h; simp only [binV]; rw [if_neg h.1]
  · cases e; simp only [Holds] at h; simp only [binV]; rw [if_neg h.1, if_neg h.2.1]
  · rename_i op _ k a _ k' b h1 h2
    split at e
    · rename_i hk
      subst hk
      have := intOpS_ok e h
      cases op <;> first | (exact absurd rfl (h1 _ _ _ _ _ _ rfl rfl)) | (exact absurd rfl (h2 _ _ _ _ _ _ rfl rfl)) | (simp only [binV, if_true]; exact this) | (simp [intOp] at this)
    · cases e
  · cases e; simp only [Holds] at h; simp only [binV]; rw [if_pos h.1]
  · simp only [Option.map_eq_some_iff] at e
    obtain ⟨b, hb, rfl⟩ := e
    exact hb

def unVS (w : Bool) (op : UnOp) (x : AV) : Option (W AV) := match op, x with
  | .neg, .tv _ (.int k) a => some (numS w k (0 - a))
  | op, x => (unV w op x).map fun r => ⟨r, []⟩
theorem unVS_ok {w : Bool} {op : UnOp} {x : AV} {r : W AV} (e : unVS w op x = some r) (h : Holds r.obs) : unV w op x = some r.a := by
  unfold unVS at e
  split at e
  · cases e; exact numS_ok h
  · simp only [Option.map_eq_some_iff] at e
    obtain ⟨b, hb, rfl⟩ := e
    exact hb

def indexVS (x i : AV) : Option (W AV) := match x, idxI i with
  | .tv _ .str l, some n => some ⟨.tv [] (.int .u8) (l.getD n.toNat 0), [0 ≤ n ∧ n < (l.length : Int)]⟩
  | .tv _ (.arr k t) l, some n => some ⟨.tv [] t (l.getD n.toNat (zero t)), [0 ≤ n ∧ n < (k : Int)]⟩
  | _, _ => none
theorem indexVS_ok {x i : AV} {r : W AV} (e : indexVS x i = some r) (h : Holds r.obs) : indexV x i = some r.a := by
  unfold indexVS at e
  split at e
  · rename_i hn; cases e; simp only [Holds] at h; simp only [indexV, hn]; rw [if_pos h.1]
  · rename_i hn; cases e; simp only [Holds] at h; simp only [indexV, hn]; rw [if_pos h.1]
  · cases e

def indexAS (T : Option Ty) (x i : AV) : Option (W AV) := match T, x, idxI i with
  | some (.slice t'), .tv _ (.slice t) l, some n => if t = t' then some ⟨.sp t (l.getD n.toNat (zero t)), [0 ≤ n ∧ n < (l.length : Int)]⟩ else none
  | some (.arr k _), .op q p, some n => some ⟨.op q (p ++ [n.toNat]), [0 ≤ n ∧ n < (k : Int)]⟩
  | some (.arr k _), .gp g p, some n => some ⟨.gp g (p ++ [n.toNat]), [0 ≤ n ∧ n < (k : Int)]⟩
  | _, _, _ => none
theorem indexAS_ok {T : Option Ty} {x i : AV} {r : W AV} (e : indexAS T x i = some r) (h : Holds r.obs) : indexA T x i = some r.a := by
  unfold indexAS at e
  split at e
  · rename_i hn
    split at e
    · rename_i ht; cases e; simp only [Holds] at h; simp only [indexA, hn]; rw [if_pos ⟨ht, h.1⟩]
    · cases e
  · rename_i hn; cases e; simp only [Holds] at h; simp only [indexA, hn]; rw [if_pos h.1]
  · rename_i hn; cases e; simp only [Holds] at h; simp only [indexA, hn]; rw [if_pos h.1]
  · cases e

def sliceVS (T : Option Ty) (own : List (List Nat)) (x : AV) (lo hi : Option AV) : Option (W AV) := match x with
  | .tv _ .str l => (bnd lo 0).bind fun a => (bnd hi l.length).bind fun c => if T = some .str then some ⟨.tv [] .str (cut l a.toNat c.toNat), [0 ≤ a ∧ a ≤ c ∧ c ≤ (l.length : Int)]⟩ else none
  | .tv _ (.slice t) l => (bnd lo 0).bind fun a => (bnd hi l.length).bind fun c => if T = some (.slice t) then some ⟨.tv own (.slice t) (cut l a.toNat c.toNat), [0 ≤ a ∧ a ≤ c ∧ c ≤ (l.length : Int)]⟩ else none
  | _ => none
theorem sliceVS_ok {T : Option Ty} {own : List (List Nat)} {x : AV} {lo hi : Option AV} {r : W AV} (e : sliceVS T own x lo hi = some r) (h : Holds r.obs) : sliceV T own x lo hi = some r.a := by
  unfold sliceVS at e
  split at e
  · simp only [Option.bind_eq_some_iff] at e
    obtain ⟨a, ha, c, hc, e⟩ := e
    split at e
    · rename_i hT; cases e; simp only [Holds] at h; simp only [sliceV, ha, hc, Option.bind_some]; rw [if_pos ⟨hT, h.1⟩]
    · cases e
  · simp only [Option.bind_eq_some_iff] at e
    obtain ⟨a, ha, c, hc, e⟩ := e
    split at e
    · rename_i hT; cases e; simp only [Holds] at h; simp only [sliceV, ha, hc, Option.bind_some]; rw [if_pos ⟨hT, h.1⟩]
    · cases e
  · cases e

def convVS (w : Bool) (src dst : Option Ty) (x : AV) : Option (W AV) := match src, dst, x with
  | some (.int _), some (.int k), .tv _ (.int _) n => some (numS w k n)
  | src, dst, x => (convV w src dst x).map fun r => ⟨r, []⟩
theorem convVS_ok {w : Bool} {src dst : Option Ty} {x : AV} {r : W AV} (e : convVS w src dst x = some r) (h : Holds r.obs) : convV w src dst x = some r.a := by
  unfold convVS at e
  split at e
  · cases e; exact numS_ok h
  · simp only [Option.map_eq_some_iff] at e
    obtain ⟨b, hb, rfl⟩ := e
    exact hb

def lenVS (T : Option Ty) (x : AV) : Option (W AV) := (lenV T x).map fun r => ⟨r, []⟩
theorem lenVS_ok {T : Option Ty} {x : AV} {r : W AV} (e : lenVS T x = some r) (_ : Holds r.obs) : lenV T x = some r.a := by
  simp only [lenVS, Option.map_eq_some_iff] at e
  obtain ⟨b, hb, rfl⟩ := e
  exact hb

def appVS (T U : Option Ty) (x y : AV) : Option (W AV) := match x, y with
  | .tv o (.slice t) l, .tv _ (.slice t') m => if h : t' = t then if T = some (.slice t) ∧ U = some (.slice t) ∧ o = [[]] then some ⟨.tv [[]] (.slice t) (l ++ (h ▸ m : List (den t))), [l.length + m.length ≤ bigN]⟩ else none else none
  | .tv o (.slice (.int .u8)) l, .tv _ .str m => if T = some (.slice (.int .u8)) ∧ U = some .str ∧ o = [[]] then some ⟨.tv [[]] (.slice (.int .u8)) (l ++ m), [l.length + m.length ≤ bigN]⟩ else none
  | _, _ => none
theorem appVS_ok {T U : Option Ty} {x y : AV} {r : W AV} (e : appVS T U x y = some r) (h : Holds r.obs) : appV T U x y = some r.a := by
  unfold appVS at e
  split at e
  · split at e
    · rename_i ht
      subst ht
      split at e
      · rename_i hc; cases e; simp only [Holds] at h; simp only [appV, dif_pos trivial]; rw [if_pos ⟨hc.1, hc.2.1, hc.2.2, h.1⟩]
      · cases e
    · cases e
  · split at e
    · rename_i hc; cases e; simp only [Holds] at h; simp only [appV]; rw [if_pos ⟨hc.1, hc.2.1, hc.2.2, h.1⟩]
    · cases e
  · cases e
end Go.Am

/-
  The machine run on open data: memory, operations.
-/
namespace Go.Am
variable {P : Program} {O : Orc} {call : CallF} {f : FuncId} {rid i j : Nat} {o : Oper} {r : Res} {ops : Array Oper} {g : Nat → AV} {h : Heap}

def prjS : (t : Ty) → den t → List Nat → Option (W Dat)
  | .pair a b, x, p => match p with
    | [] => some ⟨⟨.pair a b, x⟩, []⟩
    | i :: p => match i with
      | 0 => prjS a x.1 p
      | f + 1 => prjS b x.2 (f :: p)
  | .arr n t, x, p => match p with
    | [] => some ⟨⟨.arr n t, x⟩, []⟩
    | i :: p => (prjS t (List.getD x i (zero t)) p).map fun r => ⟨r.a, (i < n) :: r.obs⟩
  | t, x, p => (prj t x p).map fun d => ⟨d, []⟩
theorem prjS_ok : ∀ (t : Ty) (x : den t) (p : List Nat) (r : W Dat), prjS t x p = some r → Holds r.obs → prj t x p = some r.a := by
  intro t x p r e h
  fun_induction prjS t x p generalizing r with
  | case1 => cases e; rfl
  | case2 a b x p ih => simp only [prj]; exact ih r e h
  | case3 a b x f p ih => simp only [prj]; exact ih r e h
  | case4 => cases e; rfl
  | case5 n t x i p ih =>
    simp only [Option.map_eq_some_iff] at e
    obtain ⟨q, hq, rfl⟩ := e
    simp only [Holds] at h
    simp only [prj]
    rw [if_pos h.1]; exact ih q hq h.2
  | case6 =>
    simp only [Option.map_eq_some_iff] at e
    obtain ⟨q, hq, rfl⟩ := e
    exact hq

def updS : (t : Ty) → den t → List Nat → Dat → Option (W (den t))
  | .pair a b, x, p, d => match p with
    | [] => (upd (.pair a b) x [] d).map fun y => ⟨y, []⟩
    | i :: p => match i with
      | 0 => (updS a x.1 p d).map fun y => ⟨(y.a, x.2), y.obs⟩
      | f + 1 => (updS b x.2 (f :: p) d).map fun y => ⟨(x.1, y.a), y.obs⟩
  | .arr n t, x, p, d => match p with
    | [] => (upd (.arr n t) x [] d).map fun y => ⟨y, []⟩
    | i :: p => (updS t (List.getD x i (zero t)) p d).map fun y => ⟨List.set x i y.a, (i < n) :: y.obs⟩
  | t, x, p, d => (upd t x p d).map fun y => ⟨y, []⟩
theorem updS_ok : ∀ (t : Ty) (x : den t) (p : List Nat) (d : Dat) (r : W (den t)), updS t x p d = some r → Holds r.obs → upd t x p d = some r.a := by
  intro t x p d r e h
  fun_induction updS t x p d with
  | case1 =>
    simp only [Option.map_eq_some_iff] at e
    obtain ⟨y, hy, rfl⟩ := e
    exact hy
  | case2 a b x p d ih =>
    simp only [Option.map_eq_some_iff] at e
    obtain ⟨y, hy, rfl⟩ := e
    simp only [upd, ih y hy h, Option.map_some]
  | case3 a b x f p d ih =>
    simp only [Option.map_eq_some_iff] at e
    obtain ⟨y, hy, rfl⟩ := e
    simp only [upd, ih y hy h, Option.map_some]
  | case4 =>
    simp only [Option.map_eq_some_iff] at e
    obtain ⟨y, hy, rfl⟩ := e
    exact hy
  | case5 n t x i p d ih =>
    simp only [Option.map_eq_some_iff] at e
    obtain ⟨y, hy, rfl⟩ := e
    simp only [Holds] at h
    simp only [upd]
    rw [if_pos h.1]; simp only [ih y hy h.2, Option.map_some]
  | case6 =>
    simp only [Option.map_eq_some_iff] at e
    obtain ⟨y, hy, rfl⟩ := e
    exact hy

def loadVS (o : Orc) (h : Heap) (a : AV) : Option (W Dat) := match a with
  | .sp t x => some ⟨⟨t, x⟩, []⟩
  | .op k p => (look h k).bind fun b => prjS b.d.t b.d.x p
  | .gp g p => (o.glob g).bind fun d => prjS d.t d.x p
  | _ => none
theorem loadVS_ok {a : AV} {r : W Dat} (e : loadVS O h a = some r) (hh : Holds r.obs) : loadV O h a = some r.a := by
  unfold loadVS at e
  split at e
  · cases e; rfl
  · simp only [Option.bind_eq_some_iff] at e
    obtain ⟨b, hb, e⟩ := e
    simp only [loadV, hb, Option.bind_some]; exact prjS_ok _ _ _ _ e hh
  · simp only [Option.bind_eq_some_iff] at e
    obtain ⟨b, hb, e⟩ := e
    simp only [loadV, hb, Option.bind_some]; exact prjS_ok _ _ _ _ e hh
  · cases e
def storeVS (h : Heap) (a : AV) (own : List (List Nat)) (d : Dat) : Option (W Heap) := match a with
  | .op k p => (look h k).bind fun b => (updS b.d.t b.d.x p d).map fun y => ⟨over h k ⟨⟨b.d.t, y.a⟩, own.map (p ++ ·) ++ b.own.filter fun q => !isPre p q⟩, y.obs⟩
  | _ => none
theorem storeVS_ok {a : AV} {own : List (List Nat)} {d : Dat} {r : W Heap} (e : storeVS h a own d = some r) (hh : Holds r.obs) : storeV h a own d = some r.a := by
  unfold storeVS at e
  split at e
  · simp only [Option.bind_eq_some_iff, Option.map_eq_some_iff] at e
    obtain ⟨b, hb, y, hy, rfl⟩ := e
    simp only [storeV, hb, Option.bind_some, updS_ok _ _ _ _ _ hy hh, Option.map_some]
  · cases e
end Go.Am

/-
  The machine run on open data: operations.
-/
namespace Go.Am
variable {P : Program} {O : Orc} {call : CallF} {draw : Bool} {f : FuncId} {rid i j : Nat} {o : Oper} {r : Res} {ops : Array Oper} {g : Nat → AV} {h : Heap}

abbrev Out := Res × List Prop × List It
def outW (w : Option (W AV)) (tk : Option Nat) (h : Heap) (sc : List It) : Option Out := w.map fun w => (⟨w.a, tk, h⟩, w.obs, sc)
theorem outW_ok {w : Option (W AV)} {tk : Option Nat} {sc : List It} {q : Out} (e : outW w tk h sc = some q) : ∃ v, w = some v ∧ q = (⟨v.a, tk, h⟩, v.obs, sc) := by
  unfold outW at e
  simp only [Option.map_eq_some_iff] at e
  obtain ⟨v, h1, h2⟩ := e
  exact ⟨v, h1, h2.symm⟩

/-- What a call is handed. -/
def callIn (args0 : List AV) (h : Heap) : Option (List AV × Heap) :=
  let args := args0.map AV.drop
  let ks := reach h 50 (keysL args) []
  (inObs h (inward ks) ks 0).map fun h0 => (renL (inward ks) args, h0)
theorem callA_given {dst : Option Nat} {q : FuncId} {args : List AV} {given : AV × Heap} {p : List AV × Heap} (h1 : callA O (fun _ _ _ => some given) draw dst q args h = some r) (h2 : callIn args h = some p) (h3 : call q p.1 p.2 = some given) : callA O call draw dst q args h = some r := by
  unfold callIn at h2
  simp only [Option.map_eq_some_iff] at h2
  obtain ⟨h0, h4, rfl⟩ := h2
  simp only at h3
  unfold callA at h1 ⊢
  simp only [forceKs_eq] at h1 ⊢
  split at h1
  · cases h1
  · rename_i hc
    rw [if_neg hc]
    simp only [h4, Option.bind_some] at h1 ⊢
    split at h1
    · cases h1
    · rename_i hc2
      rw [if_neg hc2]
      simp only [h3, Option.bind_some] at h1 ⊢
      exact h1

def pickS (x : Bool) (a b : AV) : Option AV := match a, b with
  | .tv o t p, .tv o' t' q => if h : t' = t then if o = o' then some (.tv o t (bif x then p else h ▸ q)) else none else none
  | _, _ => none
theorem pickS_ok {x : Bool} {a b c : AV} (e : pickS x a b = some c) : (bif x then a else b) = c := by
  unfold pickS at e
  split at e
  · split at e
    · rename_i ht
      subst ht
      split at e
      · rename_i ho
        subst ho
        cases e
        cases x <;> rfl
      · cases e
    · cases e
  · cases e

def execS (O : Orc) (call : CallF) (draw : Bool) (f : FuncId) (rid i : Nat) (o : Oper) (g : Nat → AV) (h : Heap) (sc : List It) : Option Out :=
  let tk := O.take f rid i
  let w := O.wrap f rid i
  match o.op with
  | .pick c a b => match val g none c with
    | .tv _ .bool x => match pickS x (val g (O.ty o.type) a) (val g (O.ty o.type) b) with
      | some v => some (⟨v, none, h⟩, [], sc)
      | none => match sc with
        | .br y :: sc => some (⟨bif y then val g (O.ty o.type) a else val g (O.ty o.type) b, none, h⟩, [x = y], sc)
        | _ => none
    | _ => none
  | .load T x => (loadVS O h (val g none x)).bind fun d => if O.ty T = some d.a.t then
      (if tk then match val g none x with
        | .op k p => (look h k).map fun b => (⟨d.a.av (below p b.own), none, over h k ⟨b.d, strip p b.own⟩⟩, d.obs, sc)
        | _ => none
      else some (⟨d.a.av [], none, h⟩, d.obs, sc)) else none
  | .store T a x => let q := takeV tk g (O.ty T) x
    q.1.dat.bind fun d => if O.ty T = some d.t then (storeVS h (val g none a) q.1.own d).map fun h' => (⟨.no, q.2, h'.a⟩, h'.obs, sc) else none
  | .binOp op T x y U => outW (binVS w (O.ty T) op (val g (O.ty T) x) (val g (O.ty U) y)) none h sc
  | .unOp op T x => outW (unVS w op (val g (O.ty T) x)) none h sc
  | .convert T U x => outW (convVS w (O.ty T) (O.ty U) (val g (O.ty T) x)) none h sc
  | .slice T x lo hi none => match O.ty T with
    | some (.arr _ _) => (exec O call draw f rid i o g h).map fun r => (r, [], sc)
    | u => let q := takeV tk g u x
      outW (sliceVS u (if tk && hi.isNone then q.1.own else []) q.1 (lo.map (val g none)) (hi.map (val g none))) q.2 h sc
  | .slice T x lo (some hv) (some m) => if idxI (val g none hv) = idxI (val g none m) && (idxI (val g none m)).isSome then (match O.ty T with
        | some (.slice t) => outW (sliceVS (some (.slice t)) [[]] (val g (some (.slice t)) x) (lo.map (val g none)) (some (val g none hv))) none h sc
        | _ => none) else none
  | .indexAddr T x k => match O.ty T with
    | some (.arr n t) => if ptsTo O h T (val g none x) then outW (indexAS (some (.arr n t)) (val g none x) (val g none k)) none h sc else none
    | u => outW (indexAS u (val g u x) (val g none k)) none h sc
  | .index T x k => match val g (O.ty T) x with
    | .tv _ t y => if O.ty T = some t then outW (indexVS (.tv [] t y) (val g none k)) none h sc else none
    | _ => none
  | .call c => match c.callee with
    | .builtin .len => match c.args.toList with
      | [x] => outW (lenVS (c.argTypes[0]?.bind O.ty) (val g (c.argTypes[0]?.bind O.ty) x)) none h sc
      | _ => none
    | .builtin .append => match c.args.toList with
      | [x, y] => let q := takeV tk g (c.argTypes[0]?.bind O.ty) x
        outW (appVS (c.argTypes[0]?.bind O.ty) (c.argTypes[1]?.bind O.ty) q.1 (val g (c.argTypes[1]?.bind O.ty) y)) q.2 h sc
      | _ => none
    | .value x => match val g none x with
      | .fn q first caps => match sc with
        | .res a h1 :: sc => (callA O (fun _ _ _ => some (a, h1)) draw o.dst q (first ++ argV O g c ++ caps) h).bind fun r => (callIn (first ++ argV O g c ++ caps) h).map fun p => (r, [call q p.1 p.2 = some (a, h1)], sc)
        | _ => none
      | _ => none
    | _ => (exec O call draw f rid i o g h).map fun r => (r, [], sc)
  | _ => (exec O call draw f rid i o g h).map fun r => (r, [], sc)

theorem execS_ok {sc : List It} {q : Out} (e : execS O call draw f rid i o g h sc = some q) (hh : Holds q.2.1) : exec O call draw f rid i o g h = some q.1 := by
  have dflt : (exec O call draw f rid i o g h).map (fun r => (r, ([] : List Prop), sc)) = some q → exec O call draw f rid i o g h = some q.1 := fun e => by
    simp only [Option.map_eq_some_iff] at e
    obtain ⟨r, h1, rfl⟩ := e
    exact h1
  cases hop : o.op with
  | pick c a b =>
    simp only [execS, hop] at e
    split at e
    · rename_i own x hv
      split at e
      · rename_i v h1
        cases e
        simp only [exec, hop, hv, pickS_ok h1]
      · split at e
        · cases e
          simp only [Holds] at hh
          simp only [exec, hop, hv, hh.1]
        · cases e
    · cases e
  | load T x =>
    simp only [execS, hop, Option.bind_eq_some_iff] at e
    obtain ⟨d, hd, e⟩ := e
    split at e
    · rename_i hT
      split at e
      · rename_i htk
        split at e
        · rename_i k p hv
          simp only [Option.map_eq_some_iff] at e
          obtain ⟨b, hb, rfl⟩ := e
          have hl := loadVS_ok hd hh
          rw [hv] at hl
          simp only [exec, hop, loadA, hv, hl, Option.bind_some, if_pos hT, htk, if_true, hb]
        · cases e
      · rename_i htk
        cases e
        simp only [exec, hop, loadA, loadVS_ok hd hh, Option.bind_some, if_pos hT, if_neg htk]
    · cases e
  | store T a x =>
    simp only [execS, hop, Option.bind_eq_some_iff] at e
    obtain ⟨d, hd, e⟩ := e
    split at e
    · rename_i hT
      simp only [Option.map_eq_some_iff] at e
      obtain ⟨h', h1, rfl⟩ := e
      simp only [exec, hop, hd, Option.bind_some, if_pos hT, storeVS_ok h1 hh, Option.map_some]
    · cases e
  | binOp op T x y U =>
    simp only [execS, hop] at e
    obtain ⟨v, h1, rfl⟩ := outW_ok e
    simp only [exec, hop, binVS_ok h1 hh, Option.map_some]
  | unOp op T x =>
    simp only [execS, hop] at e
    obtain ⟨v, h1, rfl⟩ := outW_ok e
    simp only [exec, hop, unVS_ok h1 hh, Option.map_some]
  | convert T U x =>
    simp only [execS, hop] at e
    obtain ⟨v, h1, rfl⟩ := outW_ok e
    simp only [exec, hop, convVS_ok h1 hh, Option.map_some]
  | slice T x lo hi mx =>
    cases mx with
    | none =>
      simp only [execS, hop] at e
      split at e
      · exact dflt e
      · rename_i u hu
        obtain ⟨v, h1, rfl⟩ := outW_ok e
        have h2 := sliceVS_ok h1 hh
        simp only [exec, hop, sliceA]
        cases hT : O.ty T with
        | none => rw [hT] at h2; simp only [h2, Option.map_some]
        | some t => cases t with
          | arr n t => exact absurd hT (hu n t)
          | _ => rw [hT] at h2; simp only [h2, Option.map_some]
    | some m =>
      cases hi with
      | none => simp only [execS, hop] at e; exact dflt e
      | some hv =>
        simp only [execS, hop] at e
        split at e
        · rename_i hc
          split at e
          · rename_i t hT
            obtain ⟨v, h1, rfl⟩ := outW_ok e
            simp only [exec, hop, sliceA, if_pos hc, hT, sliceVS_ok h1 hh, Option.map_some]
          · cases e
        · cases e
  | indexAddr T x k =>
    simp only [execS, hop] at e
    split at e
    · rename_i n t hT
      split at e
      · rename_i hc
        obtain ⟨v, h1, rfl⟩ := outW_ok e
        simp only [exec, hop, hT, if_pos hc, indexAS_ok h1 hh, Option.map_some]
      · cases e
    · rename_i u hu
      obtain ⟨v, h1, rfl⟩ := outW_ok e
      simp only [exec, hop]
      simp only [indexAS_ok h1 hh, Option.map_some]
  | index T x k =>
    simp only [execS, hop] at e
    split at e
    · rename_i own t y hv
      split at e
      · rename_i hT
        obtain ⟨v, h1, rfl⟩ := outW_ok e
        simp only [exec, hop, hv, if_pos hT, indexVS_ok h1 hh, Option.map_some]
      · cases e
    · cases e
  | call c =>
    simp only [execS, hop] at e
    cases hc : c.callee with
    | builtin b =>
      rw [hc] at e
      cases b with
      | len =>
        simp only at e
        split at e
        · rename_i x hx
          obtain ⟨v, h1, rfl⟩ := outW_ok e
          simp only [exec, hop, callO, hc, hx, lenVS_ok h1 hh, Option.map_some]
        · cases e
      | append =>
        simp only at e
        split at e
        · rename_i x y hx
          obtain ⟨v, h1, rfl⟩ := outW_ok e
          simp only [exec, hop, callO, hc, hx, appVS_ok h1 hh, Option.map_some]
        · cases e
      | _ => exact dflt e
    | value x =>
      rw [hc] at e
      simp only at e
      split at e
      · rename_i p first caps hv
        split at e
        · rename_i a h1 sc'
          simp only [Option.bind_eq_some_iff, Option.map_eq_some_iff] at e
          obtain ⟨r, hr, pp, hp, rfl⟩ := e
          simp only [Holds] at hh
          simp only [exec, hop, callO, hc, hv]
          exact callA_given hr hp hh.1
        · cases e
      · cases e
    | invoke x n => rw [hc] at e; exact dflt e
  | _ => simp only [execS, hop] at e; exact dflt e
end Go.Am

/-
  The machine run on open data: regions, code.
-/
namespace Go.Am
variable {P : Program} {O : Orc} {call : CallF} {draw : Bool} {f : FuncId} {rid i j : Nat} {o : Oper} {r : Res} {ops : Array Oper} {g : Nat → AV} {h : Heap} {s : St}

/-- One operation, if its guard lets it; and its footprint. -/
def stepGS (O : Orc) (call : CallF) (draw : Bool) (f : FuncId) (rid : Nat) (ops : Array Oper) (i : Nat) (o : Oper) (g : Nat → AV) (h : Heap) (sc : List It) : Option (Out × Foot) := match o.guard with
  | none => (execS O call draw f rid i o g h sc).map fun q => (q, foot0 O f rid i o g)
  | some (j, b) => match yieldA ops g j with
    | some (some x) => match sc with
      | .br y :: sc => if y = b then (execS O call draw f rid i o g h sc).map fun q => ((q.1, (x = y) :: q.2.1, q.2.2), foot0 O f rid i o g) else some ((⟨.no, none, h⟩, [x = y], sc), .zero)
      | _ => none
    | some none => some ((⟨.no, none, h⟩, [], sc), .zero)
    | none => none
theorem stepGS_ok {sc : List It} {q : Out × Foot} (e : stepGS O call draw f rid ops i o g h sc = some q) (hh : Holds q.1.2.1) : stepG O call draw f rid ops i o g h = some q.1.1 ∧ foot O f rid ops i o g = q.2 := by
  unfold stepGS at e
  unfold stepG foot
  cases hg : o.guard with
  | none =>
    rw [hg] at e
    simp only [Option.map_eq_some_iff] at e
    obtain ⟨v, h1, rfl⟩ := e
    exact ⟨execS_ok h1 hh, rfl⟩
  | some jb =>
    obtain ⟨j, b⟩ := jb
    rw [hg] at e
    simp only at e ⊢
    split at e
    · rename_i x hy
      rw [hy]
      simp only
      split at e
      · rename_i y sc'
        split at e
        · rename_i hyb
          simp only [Option.map_eq_some_iff] at e
          obtain ⟨v, h1, rfl⟩ := e
          simp only [Holds] at hh
          obtain ⟨h2, h3⟩ := hh
          subst h2; subst hyb
          simp only [beq_self_eq_true, cond_true]
          exact ⟨execS_ok h1 h3, trivial⟩
        · rename_i hyb
          cases e
          simp only [Holds] at hh
          obtain ⟨h2, _⟩ := hh
          subst h2
          have : (x == b) = false := by simpa using hyb
          simp only [this, cond_false]
          exact ⟨trivial, trivial⟩
      · cases e
    · rename_i hy
      rw [hy]
      cases e
      exact ⟨rfl, rfl⟩
    · cases e

def stepsS (O : Orc) (call : CallF) (f : FuncId) (rid : Nat) (ops : Array Oper) (draw : Bool) : List Nat → St → List It → Option (St × List Prop × List It)
  | [], s, sc => some (s, [], sc)
  | i :: r, s, sc => match ops[i]? with
    | none => none
    | some o => (stepGS O call draw f rid ops i o s.get s.heap sc).bind fun q => (stepsS O call f rid ops draw r (s.app o.dst q.1.1) q.1.2.2).map fun t => (t.1, q.1.2.1 ++ t.2.1, t.2.2)
theorem stepsS_ok : ∀ (l : List Nat) (s : St) (sc : List It) (q : St × List Prop × List It), stepsS O call f rid ops draw l s sc = some q → Holds q.2.1 → steps O call draw f rid ops l s = some q.1
  | [], s, sc, q, e, _ => by simp only [stepsS, Option.some.injEq] at e; subst e; rfl
  | i :: l, s, sc, q, e, hh => by
    simp only [stepsS] at e
    split at e
    · cases e
    · rename_i o ho
      simp only [Option.bind_eq_some_iff, Option.map_eq_some_iff] at e
      obtain ⟨p, h1, t, h2, rfl⟩ := e
      obtain ⟨ha, hb⟩ := (Holds.append _ _).1 hh
      simp only [steps, step, ho, (stepGS_ok h1 ha).1, Option.map_some, Option.bind_some]
      exact stepsS_ok l _ _ _ h2 hb

def stepsDS (O : Orc) (call : CallF) (f : FuncId) (rid : Nat) (ops : Array Oper) (ah : List Nat) : List Nat → List (Nat × Foot) → St → List It → Option (St × List Prop × List It)
  | [], _, s, sc => some (s, [], sc)
  | j :: r, acc, s, sc => match ops[j]? with
    | none => none
    | some o => (stepGS O call false f rid ops j o s.get s.heap sc).bind fun q => 
      if acc.all fun p => (ah.getD j 0).testBit p.1 || (apartS O f rid ops p.1 j && compat p.2 q.2) then
        (stepsDS O call f rid ops ah r (acc ++ [(j, q.2)]) (s.app o.dst q.1.1) q.1.2.2).map fun t => (t.1, q.1.2.1 ++ t.2.1, t.2.2) else none
theorem stepsDS_ok {ah : List Nat} : ∀ (l : List Nat) (acc : List (Nat × Foot)) (s : St) (sc : List It) (q : St × List Prop × List It), stepsDS O call f rid ops ah l acc s sc = some q → Holds q.2.1 → stepsD O call f rid ops ah l acc s = some q.1
  | [], acc, s, sc, q, e, _ => by simp only [stepsDS, Option.some.injEq] at e; subst e; rfl
  | j :: l, acc, s, sc, q, e, hh => by
    simp only [stepsDS] at e
    split at e
    · cases e
    · rename_i o ho
      simp only [Option.bind_eq_some_iff] at e
      obtain ⟨p, h1, e⟩ := e
      split at e
      · rename_i hall
        simp only [Option.map_eq_some_iff] at e
        obtain ⟨t, h2, rfl⟩ := e
        obtain ⟨ha, hb⟩ := (Holds.append _ _).1 hh
        obtain ⟨g1, g2⟩ := stepGS_ok h1 ha
        simp only [stepsD, ho, g2]
        rw [if_pos hall]
        simp only [step, ho, g1, Option.map_some, Option.bind_some]
        exact stepsDS_ok l _ _ _ _ h2 hb
      · cases e

def evalS (O : Orc) (call : CallF) (n : Nat) (f : FuncId) : Code → St → List It → Option ((Ex × St) × List Prop × List It)
  | .skip, s, sc => some ((.normal, s), [], sc)
  | .region id ops draw, s, sc => (if draw && O.ban f id then stepsDS O call f id ops (aheads ops.toList []) (List.range ops.size) [] s sc else stepsS O call f id ops draw (List.range ops.size) s sc).map fun q => ((.normal, q.1), q.2.1, q.2.2)
  | .seq a b, s, sc => (evalS O call n f a s sc).bind fun q => match q.1.1 with
    | .normal => (evalS O call n f b q.1.2 q.2.2).map fun t => (t.1, q.2.1 ++ t.2.1, t.2.2)
    | _ => some q
  | .cond c a b, s, sc => match val s.get none c, sc with
    | .tv _ .bool x, .br y :: sc => (bif y then evalS O call n f a s sc else evalS O call n f b s sc).map fun t => (t.1, (x = y) :: t.2.1, t.2.2)
    | _, _ => none
  | .block id a, s, sc => (evalS O call n f a s sc).map fun q => ((match q.1.1 with
    | .exit id' => if id' = id then (.normal, q.1.2) else (.exit id', q.1.2)
    | e => (e, q.1.2)), q.2.1, q.2.2)
  | .loop a, s, sc => match sc with
    | .lp e s' :: sc => some ((e, s'), [loopN (evalC O call n f a) (restrict (O.live f (firstReg a))) n s = some (e, s')], sc)
    | _ => none
  | .exit id, s, sc => some ((.exit id, s), [], sc)
  | .ret, s, sc => some ((.ret, s), [], sc)
  | _, _, _ => none
theorem evalS_ok (n : Nat) : ∀ (c : Code) (s : St) (sc : List It) (q : (Ex × St) × List Prop × List It), evalS O call n f c s sc = some q → Holds q.2.1 → evalC O call n f c s = some q.1
  | .skip, s, sc, q, e, _ => by simp only [evalS, Option.some.injEq] at e; subst e; rfl
  | .region id ops draw, s, sc, q, e, hh => by
    simp only [evalS, Option.map_eq_some_iff] at e
    obtain ⟨t, h1, rfl⟩ := e
    simp only [evalC, Option.bind_eq_some_iff, forceS_eq, Option.some.injEq]
    refine ⟨t.1, ?_, rfl⟩
    split at h1
    · rename_i hc; rw [if_pos hc]; exact stepsDS_ok _ _ _ _ _ h1 hh
    · rename_i hc; rw [if_neg hc]; exact stepsS_ok _ _ _ _ h1 hh
  | .seq a b, s, sc, q, e, hh => by
    simp only [evalS, Option.bind_eq_some_iff] at e
    obtain ⟨⟨⟨x, s1⟩, ob, sc1⟩, h1, e⟩ := e
    cases x with
    | normal =>
      simp only [Option.map_eq_some_iff] at e
      obtain ⟨t, h2, rfl⟩ := e
      obtain ⟨ha, hb⟩ := (Holds.append _ _).1 hh
      simp only [evalC, evalS_ok n a s sc _ h1 ha, Option.bind_some]
      exact evalS_ok n b s1 sc1 _ h2 hb
    | exit id =>
      simp only [Option.some.injEq] at e
      subst e
      simp only [evalC, evalS_ok n a s sc _ h1 hh, Option.bind_some]
    | ret =>
      simp only [Option.some.injEq] at e
      subst e
      simp only [evalC, evalS_ok n a s sc _ h1 hh, Option.bind_some]
  | .cond c a b, s, sc, q, e, hh => by
    simp only [evalS] at e
    split at e
    · rename_i own x y sc' hv
      simp only [Option.map_eq_some_iff] at e
      obtain ⟨t, h1, rfl⟩ := e
      simp only [Holds] at hh
      obtain ⟨rfl, h2⟩ := hh
      simp only [evalC, hv]
      cases x with
      | true => exact evalS_ok n a s sc' _ h1 h2
      | false => exact evalS_ok n b s sc' _ h1 h2
    · cases e
  | .block id a, s, sc, q, e, hh => by
    simp only [evalS, Option.map_eq_some_iff] at e
    obtain ⟨t, h1, rfl⟩ := e
    simp only [evalC, evalS_ok n a s sc _ h1 hh, Option.map_some]
    obtain ⟨⟨x, s1⟩, ob, sc1⟩ := t
    cases x <;> rfl
  | .loop a, s, sc, q, e, hh => by
    simp only [evalS] at e
    split at e
    · cases e
      simp only [Holds] at hh
      simp only [evalC]
      exact hh.1
    · cases e
  | .exit id, s, sc, q, e, _ => by simp only [evalS, Option.some.injEq] at e; subst e; rfl
  | .ret, s, sc, q, e, _ => by simp only [evalS, Option.some.injEq] at e; subst e; rfl
  | .label _, s, sc, q, e, _ => by simp [evalS] at e
  | .goto _, s, sc, q, e, _ => by simp [evalS] at e
end Go.Am

/-
  What must hold of a run's data, laid out as one statement.
-/
namespace Go.Am
variable {P : Program} {O : Orc}

structure Need (p : Prop) : Prop where
  out : p
def needs : List Prop → Prop → Prop
  | [], k => k
  | p :: l, k => Need p ∧ needs l k
theorem needs_ok : ∀ {l : List Prop} {k : Prop}, needs l k → Holds l ∧ k
  | [], _, h => ⟨trivial, h⟩
  | _ :: _, _, h => ⟨⟨h.1.out, (needs_ok h.2).1⟩, (needs_ok h.2).2⟩

/-- From some depth on a call comes to this. -/
def Ev (P : Program) (O : Orc) (g : FuncId) (args : List AV) (h : Heap) (a : AV) (h' : Heap) : Prop := ∃ K, ∀ k, K ≤ k → callF P O k g args h = some (a, h')
def EvF (P : Program) (O : Orc) (f : FuncId) (args : List AV) (h : Heap) (Q : AV → Heap → Prop) : Prop := ∃ a h', Ev P O f args h a h' ∧ Q a h'

abbrev Kn := List (Nat × Bool)
def knGet : Kn → Nat → Option Bool
  | [], _ => none
  | (a, b) :: l, t => if a = t then some b else knGet l t
def litO (kn : Kn) : Operand → Option Bool
  | .const (.bool b) => some b
  | .tmp t => knGet kn t
  | _ => none
def litR (kn : Kn) : Op → Option Bool
  | .move x | .assign x => litO kn x
  | .pick c a b => (litO kn c).bind fun y => litO kn (bif y then a else b)
  | .unOp .not _ x => (litO kn x).map fun y => bif y then false else true
  | _ => none
def knDel : Kn → Nat → Kn
  | [], _ => []
  | (a, b) :: l, t => if a = t then knDel l t else (a, b) :: knDel l t
def knSet (kn : Kn) (d : Option Nat) (v : Option Bool) : Kn := match d with
  | none => kn
  | some d => match v with
    | some b => (d, b) :: knDel kn d
    | none => knDel kn d

/-! Values laid out now and then. -/
section
variable {R : Type}
def forceV (a : AV) (k : AV → R) : R := match a with
  | .tv own t x => forceL (forceL forceN) own fun own => k (.tv own t x)
  | .sp t x => k (.sp t x)
  | .op q p => k (.op q p)
  | .fn f a b => k (.fn f a b)
  | .tup l => k (.tup l)
  | .gp g p => k (.gp g p)
  | .no => k .no
  | .any => k .any
def forceVL : List AV → (List AV → R) → R
  | [], k => k []
  | a :: l, k => forceV a fun a => forceVL l fun l => k (a :: l)
def forceVO (o : Key × Ob) (k : Key × Ob → R) : R := match o with
  | (q, ⟨⟨t, x⟩, own⟩) => forceP q fun q => forceL (forceL forceN) own fun own => k (q, ⟨⟨t, x⟩, own⟩)
def forceVS (s : St) (k : St → R) : R := match s with
  | ⟨e, h⟩ => forceVL e fun e => forceL forceVO h fun h => k ⟨e, h⟩
end
theorem forceV_eq {R : Type} (a : AV) (k : AV → R) : forceV a k = k a := by
  cases a <;> simp only [forceV]
  exact forceL_eq' (fun a k => forceL_eq' forceN_eq' a k) _ _
theorem forceVL_eq {R : Type} : ∀ (l : List AV) (k : List AV → R), forceVL l k = k l
  | [], _ => rfl
  | a :: l, k => by simp only [forceVL, forceV_eq, forceVL_eq l]
theorem forceVO_eq {R : Type} (o : Key × Ob) (k : Key × Ob → R) : forceVO o k = k o := by
  obtain ⟨q, ⟨⟨t, x⟩, own⟩⟩ := o
  simp only [forceVO, forceP_eq']
  exact forceL_eq' (fun a k => forceL_eq' forceN_eq' a k) _ _
theorem forceVS_eq {R : Type} (s : St) (k : St → R) : forceVS s k = k s := by
  obtain ⟨e, h⟩ := s
  simp only [forceVS, forceVL_eq]
  exact forceL_eq' (fun a k => forceVO_eq a k) _ _

/-! A test. -/
def setB (s : St) (t : Nat) (own : List (List Nat)) (y : Bool) : St := ⟨s.env.set t (.tv own .bool y), s.heap⟩
theorem setB_same {s : St} {t : Nat} {own : List (List Nat)} {y : Bool} (h : s.get t = .tv own .bool y) : setB s t own y = s := by
  obtain ⟨e, hp⟩ := s
  simp only [St.get, List.getD_eq_getElem?_getD] at h
  cases he : e[t]? with
  | none => rw [he] at h; cases h
  | some a =>
    rw [he] at h
    simp only [Option.getD_some] at h
    subst h
    obtain ⟨hl, hg⟩ := List.getElem?_eq_some_iff.1 he
    simp only [setB, ← hg, List.set_getElem_self]

def brS (kn : Kn) (s : St) (x : Operand) (K : Kn → St → Bool → Prop) : Prop := match x with
  | .tmp t => match s.get t with
    | .tv own .bool b => match knGet kn t with
      | some _ => match b with
        | true => K kn s true
        | false => K kn s false
      | none => (b = true → K ((t, true) :: kn) (setB s t own true) true) ∧ (b = false → K ((t, false) :: kn) (setB s t own false) false)
    | _ => False
  | .const (.bool b) => K kn s b
  | _ => False
theorem brS_ok {kn : Kn} {s : St} {x : Operand} {K : Kn → St → Bool → Prop} (h : brS kn s x K) : ∃ kn' b, val s.get none x = .tv [] .bool b ∧ K kn' s b := by
  unfold brS at h
  split at h
  · rename_i t
    split at h
    · rename_i own b hg
      split at h
      · cases b with
        | true => exact ⟨kn, true, by simp only [val, hg, AV.drop], h⟩
        | false => exact ⟨kn, false, by simp only [val, hg, AV.drop], h⟩
      · cases b with
        | true => exact ⟨_, true, by simp only [val, hg, AV.drop], by have := h.1 rfl; rwa [setB_same hg] at this⟩
        | false => exact ⟨_, false, by simp only [val, hg, AV.drop], by have := h.2 rfl; rwa [setB_same hg] at this⟩
    · exact h.elim
  · exact ⟨kn, _, rfl, h⟩
  · exact h.elim

/-! Data that are told by their shape alone. -/
def exD : (t : Ty) → den t → (den t → Prop) → Prop
  | .pair a b, x, k => exD a x.1 fun p => exD b x.2 fun q => k (p, q)
  | .unit, _, k => k ()
  | .ref, x, k => k x
  | .int _, _, k => ∃ y : Int, k y
  | .bool, _, k => ∃ y : Bool, k y
  | .str, _, k => ∃ y : List Int, k y
  | .expr, _, k => ∃ y : XT, k y
  | .slice t, _, k => ∃ y : List (den t), k y
  | .arr _ t, _, k => ∃ y : List (den t), k y
theorem exD_ok : ∀ {t : Ty} {x : den t} {k : den t → Prop}, exD t x k → ∃ y, k y
  | .pair a b, x, k, h => by
    obtain ⟨p, h⟩ := exD_ok (t := a) h
    obtain ⟨q, h⟩ := exD_ok (t := b) h
    exact ⟨_, h⟩
  | .unit, _, _, h => ⟨_, h⟩
  | .ref, _, _, h => ⟨_, h⟩
  | .int _, _, _, h => h
  | .bool, _, _, h => h
  | .str, _, _, h => h
  | .expr, _, _, h => h
  | .slice _, _, _, h => h
  | .arr _ _, _, _, h => h
mutual
def exA : AV → (AV → Prop) → Prop
  | .tv own t x, k => exD t x fun y => k (.tv own t y)
  | .tup l, k => exAL l fun l => k (.tup l)
  | .fn f a b, k => exAL a fun a => exAL b fun b => k (.fn f a b)
  | .sp t x, k => exD t x fun y => k (.sp t y)
  | a, k => k a
def exAL : List AV → (List AV → Prop) → Prop
  | [], k => k []
  | a :: l, k => exA a fun a => exAL l fun l => k (a :: l)
end
mutual
theorem exA_ok : ∀ {a : AV} {k : AV → Prop}, exA a k → ∃ b, k b
  | .tv own t x, k, h => by simp only [exA] at h; obtain ⟨y, h⟩ := exD_ok h; exact ⟨_, h⟩
  | .tup l, k, h => by simp only [exA] at h; obtain ⟨y, h⟩ := exAL_ok h; exact ⟨_, h⟩
  | .fn f a b, k, h => by
    simp only [exA] at h; obtain ⟨y, h⟩ := exAL_ok h; obtain ⟨z, h⟩ := exAL_ok h; exact ⟨_, h⟩
  | .sp t x, k, h => by simp only [exA] at h; obtain ⟨y, h⟩ := exD_ok h; exact ⟨_, h⟩
  | .op .., k, h => by simp only [exA] at h; exact ⟨_, h⟩
  | .gp .., k, h => by simp only [exA] at h; exact ⟨_, h⟩
  | .no, k, h => by simp only [exA] at h; exact ⟨_, h⟩
  | .any, k, h => by simp only [exA] at h; exact ⟨_, h⟩
theorem exAL_ok : ∀ {l : List AV} {k : List AV → Prop}, exAL l k → ∃ b, k b
  | [], k, h => by simp only [exAL] at h; exact ⟨_, h⟩
  | a :: l, k, h => by simp only [exAL] at h; obtain ⟨y, h⟩ := exA_ok h; obtain ⟨z, h⟩ := exAL_ok h; exact ⟨_, h⟩
end
def exH : Heap → (Heap → Prop) → Prop
  | [], k => k []
  | (q, ⟨⟨t, x⟩, own⟩) :: r, k => exD t x fun y => exH r fun r => k ((q, ⟨⟨t, y⟩, own⟩) :: r)
theorem exH_ok : ∀ {l : Heap} {k : Heap → Prop}, exH l k → ∃ b, k b
  | [], k, h => ⟨_, h⟩
  | (q, ⟨⟨t, x⟩, own⟩) :: r, k, h => by
    obtain ⟨y, h⟩ := exD_ok (t := t) h; obtain ⟨z, h⟩ := exH_ok h; exact ⟨_, h⟩

abbrev Alt := AV × Heap
def altV : List Alt → (AV → Heap → Prop) → Prop
  | [], _ => False
  | [q], k => exA q.1 fun a => exH q.2 fun h => k a h
  | q :: r, k => (exA q.1 fun a => exH q.2 fun h => k a h) ∨ altV r k
theorem altV_ok : ∀ {l : List Alt} {k : AV → Heap → Prop}, altV l k → ∃ a h, k a h
  | [], _, h => h.elim
  | [q], k, h => by
    simp only [altV] at h
    obtain ⟨a, h⟩ := exA_ok h; obtain ⟨b, h⟩ := exH_ok h; exact ⟨a, b, h⟩
  | q :: q' :: r, k, h => by
    simp only [altV] at h
    rcases h with h | h
    · obtain ⟨a, h⟩ := exA_ok h; obtain ⟨b, h⟩ := exH_ok h; exact ⟨a, b, h⟩
    · exact altV_ok h

/-- What calls may come to, by their shapes; which objects a function's loops leave alone. -/
structure Sig where
  alts : FuncId → List Alt
  fz : FuncId → List Key

/-! One operation. -/
def noCall : CallF := fun _ _ _ => none
def finV (O : Orc) (f : FuncId) (rid i : Nat) (o : Oper) (kn : Kn) (s : St) (r : Res) (K : Kn → St → Foot → Prop) : Prop :=
  forceV r.a fun a => K (knSet kn o.dst (litR kn o.op)) (s.app o.dst ⟨a, r.tk, r.h⟩) (foot0 O f rid i o s.get)
theorem finV_ok {f : FuncId} {rid i : Nat} {o : Oper} {kn : Kn} {s : St} {r : Res} {K : Kn → St → Foot → Prop} (h : finV O f rid i o kn s r K) : ∃ kn', K kn' (s.app o.dst r) (foot0 O f rid i o s.get) := by
  unfold finV at h; rw [forceV_eq] at h; exact ⟨_, h⟩

def callV (P : Program) (O : Orc) (sg : Sig) (draw : Bool) (dst : Option Nat) (q : FuncId) (args : List AV) (h : Heap) (K : Res → Prop) : Prop := match callIn args h with
  | some p => altV (sg.alts q) fun a h1 => Need (Ev P O q p.1 p.2 a h1) ∧ match callA O (fun _ _ _ => some (a, h1)) draw dst q args h with
    | some r => K r
    | none => False
  | none => False

def execV (P : Program) (O : Orc) (sg : Sig) (draw : Bool) (f : FuncId) (rid i : Nat) (o : Oper) (kn : Kn) (s : St) (K : Kn → St → Foot → Prop) : Prop := match o.op with
  | .pick c a b => match val s.get none c with
    | .tv _ .bool x => match litO kn c with
      | some _ => match x with
        | true => finV O f rid i o kn s ⟨val s.get (O.ty o.type) a, none, s.heap⟩ K
        | false => finV O f rid i o kn s ⟨val s.get (O.ty o.type) b, none, s.heap⟩ K
      | none => match pickS x (val s.get (O.ty o.type) a) (val s.get (O.ty o.type) b) with
        | some v => finV O f rid i o kn s ⟨v, none, s.heap⟩ K
        | none => brS kn s c fun kn s y => finV O f rid i o kn s ⟨bif y then val s.get (O.ty o.type) a else val s.get (O.ty o.type) b, none, s.heap⟩ K
    | _ => False
  | .call ⟨.value x, as, tys⟩ => match val s.get none x with
    | .fn q first caps => callV P O sg draw o.dst q (first ++ argV O s.get ⟨.value x, as, tys⟩ ++ caps) s.heap fun r => finV O f rid i o kn s r K
    | _ => False
  | _ => match execS O noCall draw f rid i o s.get s.heap [] with
    | some q => needs q.2.1 (finV O f rid i o kn s q.1 K)
    | none => False
end Go.Am

/-
  What must hold of a run's data: soundness; code; loops; functions.
-/
namespace Go.Am
variable {P : Program} {O : Orc} {sg : Sig} {draw : Bool} {f : FuncId} {rid i : Nat} {o : Oper} {kn : Kn} {s : St} {ops : Array Oper}

theorem exec_indep {c1 c2 : CallF} {g : Nat → AV} {h : Heap} (hn : ∀ x as tys, o.op ≠ .call ⟨.value x, as, tys⟩) : exec O c1 draw f rid i o g h = exec O c2 draw f rid i o g h := by
  unfold exec
  cases hop : o.op with
  | call c =>
    obtain ⟨callee, as, tys⟩ := c
    cases callee with
    | value x => exact absurd hop (hn _ _ _)
    | builtin b => cases b <;> rfl
    | invoke r m => rfl
  | makeFunc fn first caps => cases fn <;> rfl
  | slice T x lo hi mx => cases mx <;> rfl
  | _ => rfl

/-- An operation's outcome, from some depth on. -/
def ExE (P : Program) (O : Orc) (draw : Bool) (f : FuncId) (rid i : Nat) (o : Oper) (s : St) (r : Res) : Prop := ∃ K, ∀ k, K ≤ k → exec O (callF P O k) draw f rid i o s.get s.heap = some r

theorem execV_ok {K : Kn → St → Foot → Prop} (h : execV P O sg draw f rid i o kn s K) : ∃ r kn', ExE P O draw f rid i o s r ∧ K kn' (s.app o.dst r) (foot0 O f rid i o s.get) := by
  have dflt : (∀ x as tys, o.op ≠ .call ⟨.value x, as, tys⟩) → (match execS O noCall draw f rid i o s.get s.heap [] with
    | some q => needs q.2.1 (finV O f rid i o kn s q.1 K)
    | none => False) → ∃ r kn', ExE P O draw f rid i o s r ∧ K kn' (s.app o.dst r) (foot0 O f rid i o s.get) := by
    intro hn h
    split at h
    · rename_i q hq
      obtain ⟨h1, h2⟩ := needs_ok h
      obtain ⟨kn', h3⟩ := finV_ok h2
      refine ⟨q.1, kn', ⟨0, fun k _ => ?_⟩, h3⟩
      rw [exec_indep (c2 := noCall) hn]
      exact execS_ok hq h1
    · exact h.elim
  unfold execV at h
  split at h
  · rename_i c a b hop
    have hx : ∀ (x : Bool), val s.get none c = .tv [] .bool x → exec O (callF P O 0) draw f rid i o s.get s.heap = some ⟨bif x then val s.get (O.ty o.type) a else val s.get (O.ty o.type) b, none, s.heap⟩ := by
      intro x hx; simp only [exec, hop, hx]
    have hi : ∀ k, exec O (callF P O k) draw f rid i o s.get s.heap = exec O (callF P O 0) draw f rid i o s.get s.heap := fun k => exec_indep (by intro x as tys e; rw [hop] at e; cases e)
    split at h
    · rename_i own x hv
      have hx' : exec O (callF P O 0) draw f rid i o s.get s.heap = some ⟨bif x then val s.get (O.ty o.type) a else val s.get (O.ty o.type) b, none, s.heap⟩ := by
        simp only [exec, hop, hv]
      split at h
      · cases x with
        | true => obtain ⟨kn', h3⟩ := finV_ok h; exact ⟨_, kn', ⟨0, fun k _ => (hi k).trans hx'⟩, h3⟩
        | false => obtain ⟨kn', h3⟩ := finV_ok h; exact ⟨_, kn', ⟨0, fun k _ => (hi k).trans hx'⟩, h3⟩
      · split at h
        · rename_i v hp
          obtain ⟨kn', h3⟩ := finV_ok h
          rw [pickS_ok hp] at hx'
          exact ⟨_, kn', ⟨0, fun k _ => (hi k).trans hx'⟩, h3⟩
        · obtain ⟨kn1, y, hy, h2⟩ := brS_ok h
          obtain ⟨kn', h3⟩ := finV_ok h2
          rw [hv] at hy
          simp only [AV.tv.injEq, heq_eq_eq, true_and] at hy
          obtain ⟨_, rfl⟩ := hy
          exact ⟨_, kn', ⟨0, fun k _ => (hi k).trans hx'⟩, h3⟩
    · exact h.elim
  · rename_i x as tys hop
    split at h
    · rename_i q first caps hv
      unfold callV at h
      split at h
      · rename_i p hp
        obtain ⟨a, h1, he, h⟩ := altV_ok h
        split at h
        · rename_i r hr
          obtain ⟨kn', h3⟩ := finV_ok h
          obtain ⟨N, hN⟩ := he.out
          refine ⟨r, kn', ⟨N, fun k hk => ?_⟩, h3⟩
          simp only [exec, hop, callO, hv]
          exact callA_given hr hp (hN k hk)
        · exact h.elim
      · exact h.elim
    · exact h.elim
  · rename_i h1 h2
    exact dflt (fun x as tys e => h2 x as tys e) h

/-- One operation, if its guard lets it. -/
def stepV (P : Program) (O : Orc) (sg : Sig) (draw : Bool) (f : FuncId) (rid : Nat) (ops : Array Oper) (i : Nat) (o : Oper) (kn : Kn) (s : St) (K : Kn → St → Foot → Prop) : Prop := match o.guard with
  | none => execV P O sg draw f rid i o kn s K
  | some (j, b) => match (ops[j]?).bind (·.dst) with
    | some d => match s.get d with
      | .tv _ .bool _ => brS kn s (.tmp d) fun kn s y => bif y == b then execV P O sg draw f rid i o kn s K else K (knSet kn o.dst none) (s.app o.dst ⟨.no, none, s.heap⟩) .zero
      | .no => K (knSet kn o.dst none) (s.app o.dst ⟨.no, none, s.heap⟩) .zero
      | _ => False
    | none => False
def StE (P : Program) (O : Orc) (draw : Bool) (f : FuncId) (rid : Nat) (ops : Array Oper) (i : Nat) (o : Oper) (s : St) (r : Res) : Prop := ∃ K, ∀ k, K ≤ k → stepG O (callF P O k) draw f rid ops i o s.get s.heap = some r
theorem stepV_ok {K : Kn → St → Foot → Prop} (h : stepV P O sg draw f rid ops i o kn s K) : ∃ r kn', StE P O draw f rid ops i o s r ∧ K kn' (s.app o.dst r) (foot O f rid ops i o s.get) := by
  unfold stepV at h
  unfold StE stepG foot
  cases hg : o.guard with
  | none => rw [hg] at h; exact execV_ok h
  | some jb =>
    obtain ⟨j, b⟩ := jb
    rw [hg] at h
    simp only at h ⊢
    split at h
    · rename_i d hd
      unfold yieldA
      rw [hd]
      simp only
      split at h
      · rename_i own x hx
        obtain ⟨kn', y, hy, h2⟩ := brS_ok h
        simp only [val, hx, AV.drop, AV.tv.injEq, heq_eq_eq, true_and] at hy
        subst hy
        simp only [hx]
        cases hb : x == b with
        | true =>
          rw [hb] at h2
          simp only [cond_true] at h2 ⊢
          exact execV_ok h2
        | false =>
          rw [hb] at h2
          simp only [cond_false] at h2 ⊢
          exact ⟨_, _, ⟨0, fun _ _ => rfl⟩, h2⟩
      · rename_i hx; simp only [hx]
        exact ⟨_, _, ⟨0, fun _ _ => rfl⟩, h⟩
      · exact h.elim
    · exact h.elim

def stepsV (P : Program) (O : Orc) (sg : Sig) (f : FuncId) (rid : Nat) (ops : Array Oper) (draw : Bool) : List Nat → Kn → St → (Kn → St → Prop) → Prop
  | [], kn, s, K => forceVS s fun s => K kn s
  | i :: r, kn, s, K => match ops[i]? with
    | none => False
    | some o => stepV P O sg draw f rid ops i o kn s fun kn s _ => stepsV P O sg f rid ops draw r kn s K
theorem stepsV_ok : ∀ (l : List Nat) (kn : Kn) (s : St) (K : Kn → St → Prop), stepsV P O sg f rid ops draw l kn s K → ∃ s' kn', (∃ N, ∀ k, N ≤ k → steps O (callF P O k) draw f rid ops l s = some s') ∧ K kn' s'
  | [], kn, s, K, h => by simp only [stepsV, forceVS_eq] at h; exact ⟨s, kn, ⟨0, fun _ _ => rfl⟩, h⟩
  | i :: l, kn, s, K, h => by
    simp only [stepsV] at h
    split at h
    · exact h.elim
    · rename_i o ho
      obtain ⟨r, kn1, ⟨N1, h1⟩, h2⟩ := stepV_ok h
      obtain ⟨s', kn', ⟨N2, h3⟩, h4⟩ := stepsV_ok l _ _ _ h2
      refine ⟨s', kn', ⟨max N1 N2, fun k hk => ?_⟩, h4⟩
      simp only [steps, step, ho, h1 k (by omega), Option.map_some, Option.bind_some]
      exact h3 k (by omega)
def stepsDV (P : Program) (O : Orc) (sg : Sig) (f : FuncId) (rid : Nat) (ops : Array Oper) (ah : List Nat) : List Nat → List (Nat × Foot) → Kn → St → (Kn → St → Prop) → Prop
  | [], _, kn, s, K => forceVS s fun s => K kn s
  | j :: r, acc, kn, s, K => match ops[j]? with
    | none => False
    | some o => stepV P O sg false f rid ops j o kn s fun kn s fj => 
      if acc.all fun p => (ah.getD j 0).testBit p.1 || (apartS O f rid ops p.1 j && compat p.2 fj) then stepsDV P O sg f rid ops ah r (acc ++ [(j, fj)]) kn s K else False
theorem stepsDV_ok {ah : List Nat} : ∀ (l : List Nat) (acc : List (Nat × Foot)) (kn : Kn) (s : St) (K : Kn → St → Prop), stepsDV P O sg f rid ops ah l acc kn s K → ∃ s' kn', (∃ N, ∀ k, N ≤ k → stepsD O (callF P O k) f rid ops ah l acc s = some s') ∧ K kn' s'
  | [], acc, kn, s, K, h => by simp only [stepsDV, forceVS_eq] at h; exact ⟨s, kn, ⟨0, fun _ _ => rfl⟩, h⟩
  | j :: l, acc, kn, s, K, h => by
    simp only [stepsDV] at h
    split at h
    · exact h.elim
    · rename_i o ho
      obtain ⟨r, kn1, ⟨N1, h1⟩, h2⟩ := stepV_ok h
      split at h2
      · rename_i hc
        obtain ⟨s', kn', ⟨N2, h3⟩, h4⟩ := stepsDV_ok l _ _ _ _ h2
        refine ⟨s', kn', ⟨max N1 N2, fun k hk => ?_⟩, h4⟩
        simp only [stepsD, ho]
        rw [if_pos hc]
        simp only [step, ho, h1 k (by omega), Option.map_some, Option.bind_some]
        exact h3 k (by omega)
      · exact h2.elim
end Go.Am

/-
  Slots that a code does not write stay.
-/
namespace Go.Am
variable {P : Program} {O : Orc} {f : FuncId} {call : CallF}

def writesO : List Oper → List Nat → List Nat
  | [], acc => acc
  | o :: r, acc => writesO r (match o.dst with | some d => d :: acc | none => acc)
def writesC : Code → List Nat → List Nat
  | .region _ ops _, acc => writesO ops.toList acc
  | .seq a b, acc => writesC b (writesC a acc)
  | .cond _ a b, acc => writesC b (writesC a acc)
  | .block _ a, acc => writesC a acc
  | .loop a, acc => writesC a acc
  | _, acc => acc

def Kp (i : Nat) (s s' : St) : Prop := s'.get i = s.get i ∨ s'.get i = (s.get i).drop ∨ s'.get i = .any
theorem Kp.refl (i : Nat) (s : St) : Kp i s s := .inl rfl
theorem Kp.trans {i : Nat} {a b c : St} (h : Kp i a b) (g : Kp i b c) : Kp i a c := by
  rcases g with g | g | g
  · rcases h with h | h | h
    · exact .inl (g.trans h)
    · exact .inr (.inl (g.trans h))
    · exact .inr (.inr (g.trans h))
  · rcases h with h | h | h
    · exact .inr (.inl (by rw [g, h]))
    · exact .inr (.inl (by rw [g, h, AV.drop_drop]))
    · exact .inr (.inr (by rw [g, h]; rfl))
  · exact .inr (.inr g)

theorem writesO_acc : ∀ {l : List Oper} {acc : List Nat} {i : Nat}, i ∉ writesO l acc → i ∉ acc
  | [], _, _, h => h
  | o :: r, acc, i, h => by
    have := writesO_acc (l := r) h
    cases ho : o.dst with
    | none => rw [ho] at this; exact this
    | some d => rw [ho] at this; exact fun x => this (List.mem_cons_of_mem _ x)
theorem writesO_mem : ∀ {l : List Oper} {acc : List Nat} {i : Nat}, i ∉ writesO l acc → ∀ o ∈ l, o.dst ≠ some i
  | [], _, _, _, o, ho => by cases ho
  | o :: r, acc, i, h, q, hq => by
    rcases List.mem_cons.1 hq with rfl | hq
    · intro e
      have := writesO_acc (l := r) h
      rw [e] at this
      exact this (List.mem_cons_self ..)
    · exact writesO_mem (l := r) h q hq
theorem writesC_acc : ∀ {c : Code} {acc : List Nat} {i : Nat}, i ∉ writesC c acc → i ∉ acc
  | .region _ ops _, _, _, h => writesO_acc h
  | .seq a b, _, _, h => writesC_acc (c := a) (writesC_acc (c := b) h)
  | .cond _ a b, _, _, h => writesC_acc (c := a) (writesC_acc (c := b) h)
  | .block _ a, _, _, h => writesC_acc (c := a) h
  | .loop a, _, _, h => writesC_acc (c := a) h
  | .skip, _, _, h => h
  | .exit _, _, _, h => h
  | .ret, _, _, h => h
  | .label _, _, _, h => h
  | .goto _, _, _, h => h
  | .rangeFunc .., _, _, h => h
  | .scope _, _, _, h => h
  | .refuse _, _, _, h => h

theorem app_keep {s : St} {d : Option Nat} {r : Res} {i : Nat} (h : d ≠ some i) : Kp i s (s.app d r) := by
  have g : ∀ (e : List AV), (∀ j, e.getD j .any = s.get j ∨ e.getD j .any = (s.get j).drop) → ∀ h', Kp i s ⟨match d with | some d => e.set d r.a | none => e, h'⟩ := by
    intro e he h'
    cases d with
    | none => rcases he i with x | x
              · exact .inl x
              · exact .inr (.inl x)
    | some d =>
      have hd : ¬ (i = d ∧ d < e.length) := fun x => h (by rw [x.1])
      have : (e.set d r.a).getD i .any = e.getD i .any := by rw [getD_set, if_neg hd]
      rcases he i with x | x
      · exact .inl (this.trans x)
      · exact .inr (.inl (this.trans x))
  unfold St.app
  cases r.tk with
  | none => exact g _ (fun j => .inl rfl) _
  | some t =>
    refine g _ (fun j => ?_) _
    show (s.env.set t (s.env.getD t .any).drop).getD j .any = _ ∨ _
    rw [getD_set]
    split
    · rename_i hc; rw [hc.1]; exact .inr rfl
    · exact .inl rfl
theorem steps_keep {rid : Nat} {ops : Array Oper} {draw : Bool} {i : Nat} (h : ∀ o ∈ ops.toList, o.dst ≠ some i) : ∀ (l : List Nat) (s s' : St), steps O call draw f rid ops l s = some s' → Kp i s s'
  | [], s, s', e => by simp only [steps, Option.some.injEq] at e; subst e; exact Kp.refl _ _
  | j :: l, s, s', e => by
    simp only [steps, Option.bind_eq_some_iff] at e
    obtain ⟨s1, h1, h2⟩ := e
    unfold step at h1
    split at h1
    · cases h1
    · rename_i o ho
      simp only [Option.map_eq_some_iff] at h1
      obtain ⟨r, _, rfl⟩ := h1
      have hm : o ∈ ops.toList := by
        obtain ⟨hl, he⟩ := Array.getElem?_eq_some_iff.1 ho
        rw [← he]; exact Array.getElem_mem_toList hl
      exact (app_keep (h o hm)).trans (steps_keep h l _ _ h2)
theorem stepsD_keep {rid : Nat} {ops : Array Oper} {ah : List Nat} {i : Nat} (h : ∀ o ∈ ops.toList, o.dst ≠ some i) : ∀ (l : List Nat) (acc : List (Nat × Foot)) (s s' : St), stepsD O call f rid ops ah l acc s = some s' → Kp i s s'
  | [], acc, s, s', e => by simp only [stepsD, Option.some.injEq] at e; subst e; exact Kp.refl _ _
  | j :: l, acc, s, s', e => by
    simp only [stepsD] at e
    split at e
    · cases e
    · rename_i o ho
      split at e
      · simp only [Option.bind_eq_some_iff] at e
        obtain ⟨s1, h1, h2⟩ := e
        unfold step at h1
        rw [ho] at h1
        simp only [Option.map_eq_some_iff] at h1
        obtain ⟨r, _, rfl⟩ := h1
        have hm : o ∈ ops.toList := by
          obtain ⟨hl, he⟩ := Array.getElem?_eq_some_iff.1 ho
          rw [← he]; exact Array.getElem_mem_toList hl
        exact (app_keep (h o hm)).trans (stepsD_keep h l _ _ _ h2)
      · cases e
theorem keep_getD (l : List Nat) : ∀ (e : List AV) (n i : Nat), (keep l n e).getD i .any = if l.contains (n + i) then e.getD i .any else .any
  | [], n, i => by simp [keep]
  | a :: r, n, 0 => by simp only [keep, List.getD_cons_zero, Nat.add_zero]
  | a :: r, n, i + 1 => by
    simp only [keep, List.getD_cons_succ]
    rw [keep_getD l r (n + 1) i, show n + 1 + i = n + (i + 1) by omega]
theorem restrict_keep {l : List Nat × List Key} {s s' : St} {i : Nat} (h : restrict l s = some s') : Kp i s s' := by
  unfold restrict at h
  simp only at h
  split at h
  · cases h
    show (keep l.1 0 s.env).getD i .any = _ ∨ _
    rw [keep_getD]
    by_cases hc : l.1.contains (0 + i) = true
    · rw [if_pos hc]; exact .inl rfl
    · right; right
      show (keep l.1 0 s.env).getD i .any = _
      rw [keep_getD, if_neg hc]
  · cases h
theorem loopN_keep {body : St → Option (Ex × St)} {cut : St → Option St} {i : Nat} (hb : ∀ s q, body s = some q → Kp i s q.2) (hc : ∀ s s', cut s = some s' → Kp i s s') : ∀ (n : Nat) (s : St) (q : Ex × St), loopN body cut n s = some q → Kp i s q.2
  | 0, s, q, e => by simp [loopN] at e
  | n + 1, s, q, e => by
    simp only [loopN, Option.bind_eq_some_iff] at e
    obtain ⟨s1, h1, ⟨x, s2⟩, h2, e⟩ := e
    have k1 := (hc _ _ h1).trans (hb _ _ h2)
    cases x with
    | normal => exact k1.trans (loopN_keep hb hc n _ _ e)
    | exit id => simp only [Option.some.injEq] at e; subst e; exact k1
    | ret => simp only [Option.some.injEq] at e; subst e; exact k1
theorem evalC_keep {n i : Nat} : ∀ (c : Code) (acc : List Nat), i ∉ writesC c acc → ∀ (s : St) (q : Ex × St), evalC O call n f c s = some q → Kp i s q.2
  | .skip, acc, hw, s, q, e => by simp only [evalC, Option.some.injEq] at e; subst e; exact Kp.refl _ _
  | .region id ops draw, acc, hw, s, q, e => by
    simp only [evalC, Option.bind_eq_some_iff, forceS_eq, Option.some.injEq] at e
    obtain ⟨s', h1, rfl⟩ := e
    split at h1
    · exact stepsD_keep (writesO_mem hw) _ _ _ _ h1
    · exact steps_keep (writesO_mem hw) _ _ _ h1
  | .seq a b, acc, hw, s, q, e => by
    simp only [evalC, Option.bind_eq_some_iff] at e
    obtain ⟨⟨x, s1⟩, h1, e⟩ := e
    have k1 := evalC_keep a acc (writesC_acc hw) _ _ h1
    cases x with
    | normal => exact k1.trans (evalC_keep b _ hw _ _ e)
    | exit id => simp only [Option.some.injEq] at e; subst e; exact k1
    | ret => simp only [Option.some.injEq] at e; subst e; exact k1
  | .cond c a b, acc, hw, s, q, e => by
    simp only [evalC] at e
    split at e
    · rename_i own x hv
      cases x with
      | true => exact evalC_keep a acc (writesC_acc hw) _ _ e
      | false => exact evalC_keep b _ hw _ _ e
    · cases e
  | .block id a, acc, hw, s, q, e => by
    simp only [evalC, Option.map_eq_some_iff] at e
    obtain ⟨⟨x, s1⟩, h1, rfl⟩ := e
    have k1 := evalC_keep a acc hw _ _ h1
    cases x with
    | normal => exact k1
    | exit id' =>
      simp only at k1 ⊢
      split <;> exact k1
    | ret => exact k1
  | .loop a, acc, hw, s, q, e => by
    simp only [evalC] at e
    exact loopN_keep (fun s q => evalC_keep a acc hw s q) (fun s s' h => restrict_keep h) n s q e
  | .exit id, acc, hw, s, q, e => by simp only [evalC, Option.some.injEq] at e; subst e; exact Kp.refl _ _
  | .ret, acc, hw, s, q, e => by simp only [evalC, Option.some.injEq] at e; subst e; exact Kp.refl _ _
  | .label _, acc, hw, s, q, e => by simp [evalC] at e
  | .goto _, acc, hw, s, q, e => by simp [evalC] at e
  | .rangeFunc .., acc, hw, s, q, e => by simp [evalC] at e
  | .scope _, acc, hw, s, q, e => by simp [evalC] at e
  | .refuse _, acc, hw, s, q, e => by simp [evalC] at e
end Go.Am

