/-
  The machine over typed data, part 4: what calls come to, read as typed data, holds of the model.
-/
import Derived.Test.YtcggbplapaeedaaDoorAm3
import Derived.RowKit
import Derived.OpenShut
import Derived.ShutString
import Derived.Deep.Slices
import Derived.DataReads
import Derived.WalkKit
import Derived.ProofKit
import Derived.ChangeSame
import Derived.JoinedOf
import Derived.LaidLaws
import GoSem.ClaimJoined
import Derived.Lib.Bytealg
import Derived.Tactics
import Derived.Lib.Join
import Derived.Below
set_option linter.all false
namespace Go.Am
variable {P : Program} {O : Orc} {c1 c2 : CallF} {draw : Bool} {f : FuncId} {rid i : Nat} {o : Oper} {ops : Array Oper}
end Go.Am
namespace Go.Am
theorem tvE {own : List (List Nat)} {t : Ty} {x y : den t} (h : x = y) : AV.tv own t x = AV.tv own t y := by rw [h]
theorem take_snoc {α : Type} {l : List α} {n : Nat} (d : α) (h : n < l.length) : l.take (n + 1) = l.take n ++ [l.getD n d] := by
 rw [List.take_succ_eq_append_getElem h]; simp [List.getD, h]
theorem getD_mem' {α : Type} {l : List α} {n : Nat} (d : α) (h : n < l.length) : l.getD n d ∈ l := by
 simp [List.getD, h]
theorem drop_cons {α : Type} {l : List α} {n : Nat} (d : α) (h : n < l.length) : l.drop n = l.getD n d :: l.drop (n + 1) := by
 rw [List.drop_eq_getElem_cons h]; simp [List.getD, h]
end Go.Am
namespace Go.Am
theorem tvI {own : List (List Nat)} {k : IntKind} {x y : Int} (h : x = y) : AV.tv own (.int k) x = AV.tv own (.int k) y := by rw [h]
theorem tvB {own : List (List Nat)} {x y : Bool} (h : x = y) : AV.tv own .bool x = AV.tv own .bool y := by rw [h]
theorem tvS {own : List (List Nat)} {x y : List Int} (h : x = y) : AV.tv own .str x = AV.tv own .str y := by rw [h]
theorem tvX {own : List (List Nat)} {x y : XT} (h : x = y) : AV.tv own .expr x = AV.tv own .expr y := by rw [h]
end Go.Am
namespace Go.Am
end Go.Am
namespace Go.Am
end Go.Am
namespace Go.Am
variable {P : Program} {O : Orc} {w : World} {H : Type} {enc : TypeId × Value → H} {held : Bool}
inductive InX : XT → Prop
 | mk (x : XT) (h1 : -9223372036854775808 ≤ x.kind ∧ x.kind ≤ 9223372036854775807) (h2 : -9223372036854775808 ≤ x.num ∧ x.num ≤ 9223372036854775807) (h3 : x.kids.length ≤ maxLen) (h4 : ∀ y ∈ x.kids, InX y) : InX x
def InR : (t : Ty) → den t → Prop
 | .int k, x => (Lit.int k x).wf = true
 | .str, x => List.length x ≤ maxLen ∧ ∀ z ∈ (x : List Int), 0 ≤ z ∧ z < 256
 | .slice t, x => List.length x ≤ maxLen ∧ ∀ i, i < List.length x → InR t (List.getD x i (zero t))
 | .arr gw n t, x => ∀ i, i < n → InR t (List.getD x i (zero t))
 | .pair a b, x => InR a x.1 ∧ InR b x.2
 | .expr, x => InX x
 | _, _ => True
def RdW : (t : Ty) → den t → DataW H → Prop
 | .int k, x, d => d = .lit (.int k x)
 | .bool, x, d => d = .lit (.bool x)
 | .str, x, d => ∃ s : List UInt8, d = .lit (.string s) ∧ x = s.map fun c => (c.toNat : Int)
 | .arr gw n t, x, d => ∃ ds : List (DataW H), d = .agg ds ∧ ds.length = n ∧ ∀ i, i < n → ∀ e, ds[i]? = some e → RdW t (List.getD x i (zero t)) e
 | _, _, _ => True
def Ty.opn : Ty → Bool
 | .ref | .mref _ _ | .sref _ | .fnc | .mp _ _ => false
 | .pair a b => a.opn && b.opn
 | .arr _ _ t => t.opn
 | .slice t => t.opn
 | _ => true
theorem opn_noRef : ∀ (t : Ty), t.opn = true → t.noRef = true
 | .int _, _ | .bool, _ | .str, _ | .unit, _ | .expr, _ | .slice _, _ => rfl
 | .ref, h | .mref _ _, h | .sref _, h | .fnc, h | .mp _ _, h => by simp [Ty.opn] at h
 | .pair a b, h => by
  simp [Ty.opn] at h
  simp [Ty.noRef, opn_noRef a h.1, opn_noRef b h.2]
 | .arr _ _ t, h => by simp only [Ty.opn] at h; simp only [Ty.noRef, opn_noRef t h]
theorem i64_wf {n : Int} (h : (Lit.int .i64 n).wf = true) : -9223372036854775808 ≤ n ∧ n ≤ 9223372036854775807 := by
 simpa [Lit.wf, IntKind.min, IntKind.max, IntKind.signed, IntKind.bits] using h
theorem u8_wf {n : Int} (h : (Lit.int .u8 n).wf = true) : isByte n := by
 have : 0 ≤ n ∧ n ≤ 255 := by simpa [Lit.wf, IntKind.min, IntKind.max, IntKind.signed, IntKind.bits] using h
 unfold isByte; omega
theorem bytesOf_bytes (s : ByteArray) : bytesOf (ofBytes s) = s := by
 unfold bytesOf ofBytes
 obtain ⟨⟨l⟩⟩ := s
 congr 2
 simp only [List.map_map]
 conv => rhs; rw [← List.map_id l]
 apply List.map_congr_left
 intro c _
 simp
theorem ofBytes_byte (s : ByteArray) : ∀ z ∈ ofBytes s, 0 ≤ z ∧ z < 256 := by
 intro z hz
 obtain ⟨c, _, rfl⟩ := List.mem_map.1 hz
 exact ⟨by omega, by have := c.toNat_lt; omega⟩
theorem ofBytes_len (s : ByteArray) : (ofBytes s).length = s.size := by
 unfold ofBytes; rw [List.length_map]; rfl
theorem pair_build {R : Rl} : ∀ (t : Ty) (c : Nat → Value), t.chain = true → (∀ i u, fldT t i = some u → ∃ y : den u, RV R u y (fun j => c (fldOff t i + j)) ∧ InR u y) → ∃ x : den t, RV R t x c ∧ InR t x
 | .unit, c, _, _ => ⟨(), trivial, trivial⟩
 | .pair a b, c, hc, h => by
  obtain ⟨p, p1, p2⟩ := h 0 a rfl
  obtain ⟨q, q1, q2⟩ := pair_build b (fun j => c (a.size + j)) (by simpa [Ty.chain] using hc) fun i u hu => by
   obtain ⟨y, y1, y2⟩ := h (i + 1) u hu
   refine ⟨y, ?_, y2⟩
   simp only [fldOff] at y1
   simpa [Nat.add_assoc] using y1
  refine ⟨(p, q), ⟨?_, q1⟩, p2, q2⟩
  simpa [fldOff] using p1
 | .expr, c, _, h => by
  obtain ⟨k, k1, k2⟩ := h 0 (.int .i64) rfl
  obtain ⟨n, n1, n2⟩ := h 1 (.int .i64) rfl
  obtain ⟨l, l1, l2⟩ := h 2 (.slice .expr) rfl
  obtain ⟨a, cap, b, off, us, g0, g1, g2, g3, g4, g5⟩ := l1
  have hk : ∀ i (h : i < List.length l), List.getD l i (zero .expr) = (l : List XT)[i] := fun i h => by simp [List.getD, h]
  refine ⟨XT.mk k n l, .mk k n l c a cap b off us (by simpa [fldOff] using k1.1) (by simpa [fldOff] using n1.1) (by simpa [fldOff] using g0) g1 g2 g3 (fun i hi => by simpa [Ty.size] using g4 i hi) (fun i hi => by have := g5 i hi; rw [hk i hi] at this; exact this), ?_⟩
  refine .mk _ (i64_wf k2) (i64_wf n2) l2.1 fun y hy => ?_
  obtain ⟨i, hi, rfl⟩ := List.mem_iff_getElem.1 hy
  have := l2.2 i hi
  rw [hk i hi] at this
  exact this
 | .int _, _, h, _ => by simp [Ty.chain] at h
 | .bool, _, h, _ => by simp [Ty.chain] at h
 | .str, _, h, _ => by simp [Ty.chain] at h
 | .ref, _, h, _ => by simp [Ty.chain] at h
 | .slice _, _, h, _ => by simp [Ty.chain] at h
 | .mref _ _, _, h, _ => by simp [Ty.chain] at h
 | .fnc, _, h, _ => by simp [Ty.chain] at h
 | .sref _, _, h, _ => by simp [Ty.chain] at h
 | .mp _ _, _, h, _ => by simp [Ty.chain] at h
 | .arr gw _ _, _, h, _ => by simp [Ty.chain] at h
theorem TyOK.cellsOf {T : TypeId} {t : Ty} (h : TyOK P O T t) : P.cellsOf T = t.size := by
 obtain ⟨i, h1, h2, _⟩ := h.info
 simp [Program.cellsOf, h1, h2]
theorem list_build {α : Type} (z : α) {p : Nat → α → Prop} : ∀ n, (∀ i, i < n → ∃ y, p i y) → ∃ l : List α, l.length = n ∧ ∀ i, i < n → p i (l.getD i z)
 | 0, _ => ⟨[], rfl, fun i h => by omega⟩
 | n + 1, h => by
  obtain ⟨l, h1, h2⟩ := list_build z n fun i hi => h i (by omega)
  obtain ⟨y, hy⟩ := h n (by omega)
  refine ⟨l ++ [y], by simp [h1], fun i hi => ?_⟩
  rcases Nat.lt_or_ge i n with hl | hl
  ·have : (l ++ [y]).getD i z = l.getD i z := by simp [List.getD_eq_getElem?_getD, List.getElem?_append_left (h1 ▸ hl)]
   rw [this]; exact h2 i hl
  ·have e : i = n := by omega
   subst e
   have : (l ++ [y]).getD i z = y := by simp [List.getD_eq_getElem?_getD, h1]
   rw [this]; exact hy
theorem trod_open (hO : OrcOK P O) : ∀ (n : Nat) (T : TypeId) (t : Ty) (cs : List Value) (d : DataW H) (ps : List MemPlace), O.ty T = some t → t.opn = true → DataW.trod enc P w 0 (fun _ => true) held n T cs = some (d, ps) →
    ∃ x : den t, RV (R0 w) t x (fun j => cs.getD j undef) ∧ InR t x ∧ RdW t x d ∧ cs.length = t.size
  | 0, _, _, _, _, _, _, _, h => by simp [DataW.trod] at h
  | n + 1, T, t, cs, d, ps, hT, hn, h => by
    have hTy := hO.ty T t hT
    obtain ⟨D, hD, hU⟩ := hTy.und
    have hsz := hTy.cellsOf
    have hfine := hTy.fine
    cases t with
    | int k =>
      simp only [UndOK] at hU
      subst hU
      simp only [DataW.trod, hD] at h
      split at h <;> simp only [Option.some.injEq, TypeDesc.int.injEq, reduceCtorEq] at *
      rename_i k0 k' x e1
      subst e1
      split at h
      · rename_i hc
        obtain ⟨rfl, hw⟩ := hc
        simp only [Option.some.injEq, Prod.mk.injEq] at h
        exact ⟨x, ⟨rfl, fun e => by subst e; exact u8_wf hw⟩, hw, h.1.symm, rfl⟩
      · cases h
    | bool =>
      simp only [UndOK] at hU
      subst hU
      simp only [DataW.trod, hD] at h
      split at h <;> simp only [Option.some.injEq, Prod.mk.injEq, reduceCtorEq] at *
      rename_i b _
      exact ⟨b, rfl, trivial, h.1.symm, rfl⟩
    | str =>
      simp only [UndOK] at hU
      subst hU
      simp only [DataW.trod, hD] at h
      split at h <;> simp only [Option.some.injEq, reduceCtorEq] at *
      rename_i s _
      split at h
      · rename_i hs
        simp only [Option.some.injEq, Prod.mk.injEq] at h
        refine ⟨ofBytes s, ⟨by rw [bytesOf_bytes]; rfl, ofBytes_byte s⟩, ⟨by rw [ofBytes_len]; exact hs, ofBytes_byte s⟩, ⟨s.data.toList, h.1.symm, rfl⟩, rfl⟩
      · cases h
    | ref => simp [Ty.opn] at hn
    | sref _ => simp [Ty.opn] at hn
    | mref _ _ => simp [Ty.opn] at hn
    | fnc => simp [Ty.opn] at hn
    | mp _ _ => simp [Ty.opn] at hn
    | slice u =>
      obtain ⟨e, rfl, he, hz⟩ := hU
      have hce := (hO.ty e u he).cellsOf
      simp [Ty.fine] at hfine
      simp [Ty.opn] at hn
      simp only [DataW.trod, hD] at h
      split at h <;> simp only [Option.some.injEq, TypeDesc.slice.injEq, reduceCtorEq] at *
      · simp only [Option.some.injEq, Prod.mk.injEq] at h
        refine ⟨[], ⟨none, 0, 0, 0, fun _ _ => undef, rfl, Nat.le_refl _, fun _ => ⟨rfl, rfl⟩, fun h => absurd h (Nat.lt_irrefl 0), fun i h => absurd h (Nat.not_lt_zero i), fun i h => absurd h (Nat.not_lt_zero i)⟩, ⟨by simp, fun i hi => absurd hi (Nat.not_lt_zero i)⟩, trivial, rfl⟩
      · rename_i e0 a len cap e1
        subst e1
        split at h
        · rename_i hb
          obtain ⟨_, hlc, hcm⟩ := hb
          simp only [Option.bind_eq_some_iff, Option.map_eq_some_iff] at h
          obtain ⟨elems, hel, rest, _, hd⟩ := h
          have hsp : 0 < len → a = ⟨a.block, a.off, none⟩ := by
            intro h0
            obtain ⟨z, hz1⟩ := mapM_some_get hel 0 h0
            simp only [Option.bind_eq_some_iff] at hz1
            obtain ⟨cs', hc1, hc2⟩ := hz1
            rw [hce] at hc1
            obtain ⟨_, hlen, hcell⟩ := World.cells?_some hc1
            have h1 := hcell 0 (by omega)
            rw [List.getElem?_eq_getElem (by omega)] at h1
            have hs : a.spot = none := by simpa [Addr.add] using World.cell?_spot h1
            obtain ⟨ab, ao, asp⟩ := a
            simp only at hs
            subst hs; rfl
          have hx : ∀ i, i < len → ∃ y : den u, (∃ us : Nat → Value, (∀ j, j < u.size → w.cell? ⟨a.block, a.off + i * u.size + j, none⟩ = some (us j)) ∧ RV (R0 w) u y us) ∧ InR u y := by
            intro i hi
            obtain ⟨z, hz1⟩ := mapM_some_get hel i hi
            simp only [Option.bind_eq_some_iff] at hz1
            obtain ⟨cs', hc1, hc2⟩ := hz1
            obtain ⟨y, y1, y2, _, y4⟩ := trod_open hO n e u cs' z.1 z.2 he hn hc2
            rw [hce] at hc1
            obtain ⟨_, hlen, hcell⟩ := World.cells?_some hc1
            refine ⟨y, ⟨fun j => cs'.getD j undef, fun j hj => ?_, y1⟩, y2⟩
            have h1 := hcell j hj
            rw [List.getElem?_eq_getElem (by omega)] at h1
            have h1' : w.cell? (((⟨a.block, a.off, none⟩ : Addr).add (i * u.size)).add j) = some cs'[j] := by rw [← hsp (by omega)]; exact h1
            simp only [Go.WideShapes.add_plain] at h1'
            rw [h1']
            simp [List.getD, show j < cs'.length by omega]
          obtain ⟨l, hl1, hl2⟩ := list_build (zero u) len hx
          subst hl1
          obtain ⟨us, hus⟩ : ∃ us : Nat → Nat → Value, ∀ i, i < l.length → (∀ j, j < u.size → w.cell? ⟨a.block, a.off + i * u.size + j, none⟩ = some (us i j)) ∧ RV (R0 w) u (l.getD i (zero u)) (us i) := by
            have : ∀ i, ∃ us : Nat → Value, i < l.length → (∀ j, j < u.size → w.cell? ⟨a.block, a.off + i * u.size + j, none⟩ = some (us j)) ∧ RV (R0 w) u (l.getD i (zero u)) us := by
              intro i
              by_cases hi : i < l.length
              · obtain ⟨⟨us, h1, h2⟩, _⟩ := hl2 i hi; exact ⟨us, fun _ => ⟨h1, h2⟩⟩
              · exact ⟨fun _ => undef, fun h => absurd h hi⟩
            exact ⟨fun i => Classical.choose (this i), fun i => Classical.choose_spec (this i)⟩
          refine ⟨l, ⟨some a, cap, a.block, a.off, us, rfl, hlc, nofun, fun h0 => by rw [← hsp h0], fun i hi j hj => ⟨(hus i hi).1 j hj, ?_⟩, fun i hi => (hus i hi).2⟩, ⟨by omega, fun i hi => (hl2 i hi).2⟩, trivial, rfl⟩
          have := (hus i hi).1 j hj
          show a.block < w.heap.size
          unfold World.cell? at this
          rcases Nat.lt_or_ge a.block w.heap.size with h | h
          · exact h
          · simp [Array.getElem?_eq_none h] at this
        · cases h
    | arr gw k u =>
      obtain ⟨e, rfl, he, hz, _⟩ := hU
      have hce := (hO.ty e u he).cellsOf
      simp [Ty.fine] at hfine
      simp [Ty.opn] at hn
      simp only [DataW.trod, hD] at h
      split at h
      · rename_i hl
        rw [hsz] at hl
        simp only [Option.map_eq_some_iff] at h
        obtain ⟨xs, hxs, hd⟩ := h
        have hlen := mapM_some_length hxs
        simp only [List.length_range] at hlen
        simp only [Ty.size] at hl
        have hx : ∀ i, i < k → ∃ y : den u, RV (R0 w) u y (fun j => cs.getD (i * u.size + j) undef) ∧ InR u y ∧ ∀ z, xs[i]? = some z → RdW u y z.1 := by
          intro i hi
          obtain ⟨z, hz1⟩ := mapM_some_get hxs i hi
          have hz2 := hz1
          rw [hce] at hz1
          obtain ⟨y, y1, y2, y3, _⟩ := trod_open hO n e u _ z.1 z.2 he hn hz1
          refine ⟨y, RV.congr u _ _ _ (fun j hj => ?_) y1, y2, fun z' hz' => ?_⟩
          · simp only [List.getD_eq_getElem?_getD, List.getElem?_take, List.getElem?_drop, if_pos hj]
          · have := mapM_some_at hxs i hi z' hz'
            rw [this] at hz2
            cases hz2
            exact y3
        obtain ⟨l, hl1, hl2⟩ := list_build (zero u) k hx
        simp only [Option.some.injEq, Prod.mk.injEq] at hd
        refine ⟨l, ⟨hl1, fun i hi => (hl2 i hi).1⟩, fun i hi => (hl2 i hi).2.1, ⟨xs.map (·.1), hd.1.symm, by simp [hlen], fun i hi e' he' => ?_⟩, by simp only [Ty.size]; exact hl⟩
        simp only [List.getElem?_map, Option.map_eq_some_iff] at he'
        obtain ⟨z, hz1, rfl⟩ := he'
        exact (hl2 i hi).2.2 z hz1
      · cases h
    | unit =>
      obtain ⟨fs, rfl, hf, _⟩ := hU
      simp only [DataW.trod, hD] at h
      split at h
      · rename_i hl
        rw [hsz] at hl
        exact ⟨(), trivial, trivial, trivial, hl⟩
      · cases h
    | pair a b =>
      obtain ⟨fs, rfl, hf, hch, _⟩ := hU
      exact struct_case hO hf hch (fun i u hu => noRef_fld (.pair a b) i u hn hu) hD hsz h (fun T' t' cs' d' ps' => trod_open hO n T' t' cs' d' ps')
    | expr =>
      obtain ⟨fs, rfl, hf, hch, _⟩ := hU
      exact struct_case hO hf hch (fun i u hu => noRef_fld .expr i u hn hu) hD hsz h (fun T' t' cs' d' ps' => trod_open hO n T' t' cs' d' ps')
  where
  mapM_some_length {α β : Type} {f : α → Option β} : ∀ {l : List α} {r : List β}, l.mapM f = some r → r.length = l.length
    | [], r, h => by simp at h; subst h; rfl
    | a :: l, r, h => by
      simp only [List.mapM_cons, Option.pure_def, Option.bind_eq_bind, Option.bind_eq_some_iff] at h
      obtain ⟨b, _, m, hm, e⟩ := h
      cases e
      simp [mapM_some_length hm]
  mapM_get {α β : Type} {f : α → Option β} : ∀ {l : List α} {r : List β} (i : Nat) (a : α), l.mapM f = some r → l[i]? = some a → ∃ b, f a = some b ∧ r[i]? = some b
    | [], r, i, a, h, g => by simp at g
    | x :: l, r, 0, a, h, g => by
      simp only [List.mapM_cons, Option.pure_def, Option.bind_eq_bind, Option.bind_eq_some_iff] at h
      obtain ⟨b, hb, m, hm, e⟩ := h
      cases e
      simp at g
      subst g
      exact ⟨b, hb, rfl⟩
    | x :: l, r, i + 1, a, h, g => by
      simp only [List.mapM_cons, Option.pure_def, Option.bind_eq_bind, Option.bind_eq_some_iff] at h
      obtain ⟨b, hb, m, hm, e⟩ := h
      cases e
      exact mapM_get i a hm (by simpa using g)
  mapM_some_get {β : Type} {f : Nat → Option β} {n : Nat} {r : List β} (h : (List.range n).mapM f = some r) (i : Nat) (hi : i < n) : ∃ b, f i = some b := by
    obtain ⟨b, hb, _⟩ := mapM_get i i h (by simp [hi])
    exact ⟨b, hb⟩
  mapM_some_at {β : Type} {f : Nat → Option β} {n : Nat} {r : List β} (h : (List.range n).mapM f = some r) (i : Nat) (hi : i < n) (b : β) (hb : r[i]? = some b) : f i = some b := by
    obtain ⟨b', h1, h2⟩ := mapM_get i i h (by simp [hi])
    rw [hb] at h2; cases h2; exact h1
  noRef_fld : ∀ (t : Ty) (i : Nat) (u : Ty), t.opn = true → fldT t i = some u → u.opn = true
    | .pair a b, 0, u, h, e => by simp [Ty.opn] at h; simp only [fldT, Option.some.injEq] at e; subst e; exact h.1
    | .pair a b, i + 1, u, h, e => by simp [Ty.opn] at h; simp only [fldT] at e; exact noRef_fld b i u h.2 e
    | .expr, 0, u, h, e => by simp [fldT] at e; subst e; rfl
    | .expr, 1, u, h, e => by simp [fldT] at e; subst e; rfl
    | .expr, 2, u, h, e => by simp [fldT] at e; subst e; rfl
    | .expr, i + 3, u, h, e => by simp [fldT] at e
    | .int _, _, u, h, e => by simp [fldT] at e
    | .bool, _, u, h, e => by simp [fldT] at e
    | .str, _, u, h, e => by simp [fldT] at e
    | .unit, _, u, h, e => by simp [fldT] at e
    | .ref, _, u, h, e => by simp [fldT] at e
    | .slice _, _, u, h, e => by simp [fldT] at e
    | .arr gw _ _, _, u, h, e => by simp [fldT] at e
  struct_case (hO : OrcOK P O) {n : Nat} {T : TypeId} {t : Ty} {fs : Array Field} {cs : List Value} {d : DataW H} {ps : List MemPlace} (hf : FieldsOK O t fs) (hch : t.chain = true) (hnr : ∀ i u, fldT t i = some u → u.opn = true) (hD : P.underlying T = some (.struct fs)) (hsz : P.cellsOf T = t.size)
      (h : DataW.trod enc P w 0 (fun _ => true) held (n + 1) T cs = some (d, ps)) (ih : ∀ (T' : TypeId) (t' : Ty) (cs' : List Value) (d' : DataW H) (ps' : List MemPlace), O.ty T' = some t' → t'.opn = true → DataW.trod enc P w 0 (fun _ => true) held n T' cs' = some (d', ps') → ∃ x : den t', RV (R0 w) t' x (fun j => cs'.getD j undef) ∧ InR t' x ∧ RdW t' x d' ∧ cs'.length = t'.size) :
      ∃ x : den t, RV (R0 w) t x (fun j => cs.getD j undef) ∧ InR t x ∧ RdW t x d ∧ cs.length = t.size := by
    simp only [DataW.trod, hD] at h
    split at h
    · rename_i hl
      rw [hsz] at hl
      simp only [Option.map_eq_some_iff] at h
      obtain ⟨xs, hxs, hd⟩ := h
      obtain ⟨x, x1, x2⟩ := pair_build (R := R0 w) t (fun j => cs.getD j undef) hch fun i u hu => by
        cases hfi : fs[i]? with
        | none => rw [hf.2 i hfi] at hu; cases hu
        | some f =>
          obtain ⟨u', g1, g2, g3, _⟩ := hf.1 i f hfi
          rw [hu] at g1
          cases g1
          obtain ⟨z, hz, _⟩ := mapM_get i f hxs (by simpa using hfi)
          have hce := (hO.ty _ _ g2).cellsOf
          rw [hce, g3] at hz
          obtain ⟨y, y1, y2, _⟩ := ih f.type u _ z.1 z.2 g2 (hnr i u hu) hz
          refine ⟨y, RV.congr u _ _ _ (fun j hj => ?_) y1, y2⟩
          simp only [List.getD_eq_getElem?_getD, List.getElem?_take, List.getElem?_drop, if_pos hj]
      refine ⟨x, x1, x2, ?_, hl⟩
      cases t <;> first | trivial | (simp [Ty.chain] at hch)
    · cases h
end Go.Am
namespace Go.Am
variable {P : Program} {O : Orc} {w : World} {H : Type} {enc : TypeId × Value → H} {held : Bool}
theorem okWide_one {T : TypeId} {t : Ty} (hTy : TyOK P O T t) (ha : t.agg = false) {r : Reach} {base : Nat} {v : Value} (hn : t.opn = true) (h : Value.okWide P w r base T v) : v.cells = #[v] := by
 obtain ⟨D, hD, hU⟩ := hTy.und
 cases t with
 | int k =>
  simp only [UndOK] at hU; subst hU
  simp only [Value.okWide, hD, Cell.okWide, Cell.ok] at h
  cases v <;> first | rfl | (simp at h)
 | bool =>
  simp only [UndOK] at hU; subst hU
  simp only [Value.okWide, hD, Cell.okWide, Cell.ok] at h
  cases v <;> first | rfl | (simp at h)
 | str =>
  simp only [UndOK] at hU; subst hU
  simp only [Value.okWide, hD, Cell.okWide, Cell.ok] at h
  cases v <;> first | rfl | (simp at h)
 | slice u =>
  obtain ⟨e, rfl, _⟩ := hU
  simp only [Value.okWide, hD, Cell.okWide, Cell.ok] at h
  cases v <;> first | rfl | (simp at h)
 | ref => simp [Ty.opn] at hn
 | sref _ => simp [Ty.opn] at hn
 | mref _ _ => simp [Ty.opn] at hn
 | fnc => simp [Ty.opn] at hn
 | mp _ _ => simp [Ty.opn] at hn
 | _ => simp [Ty.agg] at ha
theorem okWide_agg {T : TypeId} {t : Ty} (hTy : TyOK P O T t) (ha : t.agg = true) {r : Reach} {base : Nat} {v : Value} (h : Value.okWide P w r base T v) : ∃ cs, v = .agg cs := by
 obtain ⟨D, hD, hU⟩ := hTy.und
 cases t with
 | unit => obtain ⟨fs, rfl, _⟩ := hU; simp only [Value.okWide, hD] at h; obtain ⟨cs, h, _⟩ := h; exact ⟨cs, h⟩
 | pair a b => obtain ⟨fs, rfl, _⟩ := hU; simp only [Value.okWide, hD] at h; obtain ⟨cs, h, _⟩ := h; exact ⟨cs, h⟩
 | expr => obtain ⟨fs, rfl, _⟩ := hU; simp only [Value.okWide, hD] at h; obtain ⟨cs, h, _⟩ := h; exact ⟨cs, h⟩
 | arr n u => obtain ⟨e, rfl, _⟩ := hU; simp only [Value.okWide, hD] at h; obtain ⟨cs, h, _⟩ := h; exact ⟨cs, h⟩
 | _ => simp [Ty.agg] at ha
theorem open_arg (hO : OrcOK P O) {T : TypeId} {t : Ty} {r : Reach} {base : Nat} {v : Value} {d : DataW H} {ps : List MemPlace} (hT : O.ty T = some t) (hn : t.opn = true) (hval : Value.okWide P w r base T v) (h : DataW.Trod enc P w 0 (fun _ => true) true T v d ps) :
  ∃ x : den t, VR (R0 w) O (.tv [] t x) v ∧ InR t x := by
 obtain ⟨n, h⟩ := h
 obtain ⟨x, h1, h2, _, h4⟩ := trod_open hO n T t _ d ps hT hn h
 have hTy := hO.ty T t hT
 refine ⟨x, ?_, h2⟩
 simp only [VR]
 refine ⟨hTy.fine, fun ha => okWide_agg hTy ha hval, fun ha => okWide_one hTy ha hn hval, by simpa using h4, ?_⟩
 refine RV.congr t _ _ _ (fun j _ => ?_) h1
 simp [cellsF, List.getD_eq_getElem?_getD, Array.getD_eq_getD_getElem?]
def ofW : (t : Ty) → DataW H → Option (den t)
 | .int k, .lit (.int k' x) => if k' = k then some x else none
 | .bool, .lit (.bool x) => some x
 | .str, .lit (.string s) => some (s.map fun c => (c.toNat : Int))
 | .arr gw n t, .agg ds => if ds.length = n then ds.mapM (ofW t) else none
 | _, _ => none
theorem mapM_get' {α β : Type} {f : α → Option β} : ∀ {l : List α} {r : List β}, l.mapM f = some r → r.length = l.length ∧ ∀ (i : Nat) (a : α), l[i]? = some a → ∃ b, f a = some b ∧ r[i]? = some b
 | [], r, h => by simp at h; subst h; exact ⟨rfl, fun i a g => by simp at g⟩
 | x :: l, r, h => by
  simp only [List.mapM_cons, Option.pure_def, Option.bind_eq_bind, Option.bind_eq_some_iff] at h
  obtain ⟨b, hb, m, hm, e⟩ := h
  cases e
  obtain ⟨h1, h2⟩ := mapM_get' hm
  refine ⟨by simp [h1], fun i a g => ?_⟩
  cases i with
  | zero => simp at g; subst g; exact ⟨b, hb, rfl⟩
  | succ i => exact h2 i a (by simpa using g)
theorem ofW_eq {R : Rl} : ∀ (t : Ty) (x y : den t) (d : DataW H) (c : Nat → Value), RdW t x d → RV R t x c → ofW t d = some y → x = y
 | .int k, x, y, d, c, h, _, e => by
  simp only [RdW] at h
  subst h
  simp only [ofW, if_true, Option.some.injEq] at e
  exact e
 | .bool, x, y, d, c, h, _, e => by
  simp only [RdW] at h
  subst h
  simp only [ofW, Option.some.injEq] at e
  exact e
 | .str, x, y, d, c, h, _, e => by
  obtain ⟨s, rfl, rfl⟩ := h
  simp only [ofW, Option.some.injEq] at e
  exact e
 | .arr gw n t, x, y, d, c, h, hv, e => by
  obtain ⟨ds, rfl, h1, h2⟩ := h
  simp only [ofW, h1, if_true] at e
  obtain ⟨g1, g2⟩ := mapM_get' e
  obtain ⟨v1, v2⟩ := hv
  refine List.ext_getElem (by rw [v1, g1, h1]) fun i hx hy => ?_
  have hi : i < n := by rw [← v1]; exact hx
  have hd : ds[i]? = some (ds[i]'(by omega)) := List.getElem?_eq_getElem _
  obtain ⟨b, b1, b2⟩ := g2 i _ hd
  have e1 : List.getD x i (zero t) = (x : List (den t))[i] := by simp [List.getD, hx]
  have := ofW_eq t _ b _ _ (h2 i hi _ hd) (v2 i hi) b1
  rw [e1] at this
  rw [this]
  rw [List.getElem?_eq_getElem hy] at b2
  exact (Option.some.inj b2).symm
 | .unit, _, _, d, _, _, _, e => by simp [ofW] at e
 | .ref, _, _, d, _, _, _, e => by simp [ofW] at e
 | .expr, _, _, d, _, _, _, e => by simp [ofW] at e
 | .slice _, _, _, d, _, _, _, e => by simp [ofW] at e
 | .mref _ _, _, _, d, _, _, _, e => by simp [ofW] at e
 | .fnc, _, _, d, _, _, _, e => by simp [ofW] at e
 | .sref _, _, _, d, _, _, _, e => by simp [ofW] at e
 | .mp _ _, _, _, d, _, _, _, e => by simp [ofW] at e
 | .pair _ _, _, _, d, _, _, _, e => by simp [ofW] at e
theorem glob_open (hO : OrcOK P O) {T : TypeId} {t : Ty} {g n : Nat} {cs : Array Value} {d : DataW H} {ps : List MemPlace} {x : den t} (hT : O.ty T = some t) (hn : t.opn = true) (hc : ∀ j, w.cell? ⟨g, j, none⟩ = cs[j]?)
  (h : DataW.trod enc P w 0 (fun _ => true) held n T cs.toList = some (d, ps)) (hx : ofW t d = some x) : t.noRef = true ∧ t.fine = true ∧ ∃ us, At (R0 w) g 0 t.size us ∧ RV (R0 w) t x us := by
 obtain ⟨y, h1, h2, h3, h4⟩ := trod_open hO n T t _ d ps hT hn h
 have := ofW_eq t y x d _ h3 h1 hx
 subst this
 refine ⟨opn_noRef _ hn, (hO.ty T t hT).fine, _, fun j hj => ?_, h1⟩
 have hj' : j < cs.size := by rw [← h4] at hj; simpa using hj
 have e : w.cell? ⟨g, j, none⟩ = some cs[j] := by rw [hc, Array.getElem?_eq_getElem hj']
 refine ⟨by simp [R0, hc, List.getD_eq_getElem?_getD, hj'], ?_⟩
 rw [Nat.zero_add]
 exact World.block_lt_of_cell? w ⟨g, j, none⟩ e
end Go.Am
namespace Go.Am
open Go.ChangeShapes Go.WideShapes Go.ChangeAt Go.RowKit
theorem trodAll_below {H : Type} {enc : TypeId × Value → H} {P : Program} (hl : laidOutB P = true) {W W' : World} (hb : Below W.heap.size W W') :
  ∀ (ts : List TypeId) (vs : List Value) (ds : List (DataW H)) (ps : List MemPlace), (∀ t ∈ ts, P.readableRec t = true ∧ t < P.types.size) →
   DataW.TrodAll enc P W 0 (fun _ => true) true ts vs ds ps → (∀ x ∈ ps, x.block < W.heap.size) →
   DataW.TrodAll enc P W' 0 (fun b => decide (b < W.heap.size)) true ts vs ds ps
 | [], [], [], _, _, h, _ => h
 | t :: ts, v :: vs, d :: ds, ps, hr, h, hlt => by
  obtain ⟨p, q, h1, h2, rfl⟩ := h
  have hlt1 : ∀ x ∈ p, x.block < W.heap.size := fun x hx => hlt x (List.mem_append.2 (.inl hx))
  have hlt2 : ∀ x ∈ q, x.block < W.heap.size := fun x hx => hlt x (List.mem_append.2 (.inr hx))
  exact ⟨p, q, Below.trod hl (hr t (List.mem_cons_self ..)).1 (hr t (List.mem_cons_self ..)).2 h1 hb hlt1,
   trodAll_below hl hb ts vs ds q (fun t ht => hr t (List.mem_cons_of_mem _ ht)) h2 hlt2, rfl⟩
 | [], _ :: _, _, _, _, h, _ => by cases h
 | [], [], _ :: _, _, _, h, _ => by cases h
 | _ :: _, [], _, _, _, h, _ => by cases h
 | _ :: _, _ :: _, [], _, _, h, _ => by cases h
theorem law_post {H : Type} {enc : TypeId × Value → H} {P : Program} (hl : laidOutB P = true) {f : Func} {s : ChangeSpec} {tb : TypeId} (htb : P.underlying tb = some .bool) (hres : f.resultTypes = #[tb])
  (hv : s.vars = []) (hr : ∀ t ∈ f.params.toList, P.readableRec t = true ∧ t < P.types.size) {W W' : World} {args : Array Value} {ds gs : List (DataW H)} {before : List MemPlace}
  (hW : DataW.Whole enc P f.params.toList s.vars false W args.toList ds gs before)
  (hs : s.fn H (ds ++ gs) = { results := [.lit (.bool true)], args := ds }) (hb : Below W.heap.size W W') :
  s.post enc P f false true false false W args (.bool true) W' := by
 have hW0 := hW
 obtain ⟨p, q, hA, hV, rfl, _, _⟩ := hW
 have hlt : ∀ x ∈ p, x.block < W.heap.size := fun x hx => hW0.lt x (List.mem_append.2 (.inl hx))
 refine ⟨ds, gs, p ++ q, [], p, [], hW0, ?_, ?_, ?_, hb.frame _, fun h => by cases h⟩
 ·rw [hs, hres]
  exact ⟨[], [], shut_bool htb true, rfl, rfl⟩
 ·rw [hs]
  exact trodAll_below hl hb _ _ _ _ hr hA hlt
 ·rw [hs, hv]
  exact rfl
def ArgsAre (P : Program) (O : Orc) (W : World) : List TypeId → List Value → List AV → Prop
 | [], [], [] => True
 | T :: ts, v :: vs, a :: l => (∃ t x, O.ty T = some t ∧ a = .tv [] t x ∧ InR t x ∧ VR (R0 W) O a v) ∧ ArgsAre P O W ts vs l
 | _, _, _ => False
theorem args_open {H : Type} {enc : TypeId × Value → H} {P : Program} {O : Orc} {W : World} (hO : OrcOK P O) : ∀ (ts : List TypeId) (vs : List Value) (ds : List (DataW H)) (ps : List MemPlace), (∀ T ∈ ts, ∃ t, O.ty T = some t ∧ t.opn = true) →
  (∀ (j : Nat) t v, ts[j]? = some t → vs[j]? = some v → ∃ base r, Value.okWide P W r base t v) → DataW.TrodAll enc P W 0 (fun _ => true) true ts vs ds ps → ∃ l, ArgsAre P O W ts vs l ∧ ds.length = ts.length
 | [], [], [], _, _, _, _ => ⟨[], trivial, rfl⟩
 | T :: ts, v :: vs, d :: ds, ps, hn, hv, h => by
  obtain ⟨p, q, h1, h2, rfl⟩ := h
  obtain ⟨t, ht, hnr⟩ := hn T (List.mem_cons_self ..)
  obtain ⟨base, r, hok⟩ := hv 0 T v rfl rfl
  obtain ⟨x, hx, hi⟩ := open_arg hO ht hnr hok h1
  obtain ⟨l, hl, hd⟩ := args_open hO ts vs ds q (fun T hT => hn T (List.mem_cons_of_mem _ hT)) (fun j t v h1 h2 => hv (j + 1) t v (by simpa using h1) (by simpa using h2)) h2
  exact ⟨_ :: l, ⟨⟨t, x, ht, rfl, hi, hx⟩, hl⟩, by simp [hd]⟩
 | [], _ :: _, _, _, _, _, h => by cases h
 | [], [], _ :: _, _, _, _, h => by cases h
 | _ :: _, [], _, _, _, _, h => by cases h
 | _ :: _, _ :: _, [], _, _, _, h => by cases h
theorem ArgsAre.vrl {P : Program} {O : Orc} {W : World} : ∀ {ts : List TypeId} {vs : List Value} {l : List AV}, ArgsAre P O W ts vs l → VRL (R0 W) O l vs ∧ (∀ a ∈ l, a.own = []) ∧ l.length = vs.length
 | [], [], [], _ => ⟨rfl, nofun, rfl⟩
 | _ :: ts, v :: vs, a :: l, h => by
  obtain ⟨⟨t, x, _, ha, _, hv⟩, h2⟩ := h
  obtain ⟨g1, g2, g3⟩ := h2.vrl
  refine ⟨by simp only [VRL]; exact ⟨v, vs, rfl, hv, g1⟩, fun b hb => ?_, by simp [g3]⟩
  rcases List.mem_cons.1 hb with rfl | hb
  ·rw [ha]; rfl
  ·exact g2 b hb
 | [], [], _ :: _, h => by cases h
 | [], _ :: _, _, h => by cases h
 | _ :: _, [], _, h => by cases h
 | _ :: _, _ :: _, [], h => by cases h
theorem ArgsAre.cons {P : Program} {O : Orc} {W : World} {T : TypeId} {ts : List TypeId} {vs : List Value} {l : List AV} (h : ArgsAre P O W (T :: ts) vs l) : ∃ t x l' vs', O.ty T = some t ∧ l = .tv [] t x :: l' ∧ InR t x ∧ ArgsAre P O W ts vs' l' := by
 match vs, l, h with
 | v :: vs, a :: l, ⟨⟨t, x, ht, ha, hi, _⟩, h2⟩ => exact ⟨t, x, l, vs, ht, by rw [ha], hi, h2⟩
theorem ArgsAre.nil {P : Program} {O : Orc} {W : World} {vs : List Value} {l : List AV} (h : ArgsAre P O W [] vs l) : l = [] := by
 match vs, l, h with
 | [], [], _ => rfl
theorem row_contract {H : Type} {enc : TypeId × Value → H} {P : Program} {O : Orc} (hP : ProgOK P O) (hl : laidOutB P = true) {f : FuncId} {fn : Func} {s : ChangeSpec} {tb : TypeId} (htb : P.underlying tb = some .bool) (hres : fn.resultTypes = #[tb])
  (hv : s.vars = []) (hr : ∀ t ∈ fn.params.toList, P.readableRec t = true ∧ t < P.types.size) (hts : ∀ T ∈ fn.params.toList, ∃ t, O.ty T = some t ∧ t.opn = true)
  (hfn : ∀ ds : List (DataW H), ds.length = fn.params.size → s.fn H ds = { results := [.lit (.bool true)], args := ds })
  (hall : ∀ (W : World) (vs : List Value) (l : List AV), ArgsAre P O W fn.params.toList vs l → ∃ k own h', callF P O k f l [] = some (.tv own .bool true, h'))
  (W : World) (base : Nat) (args : Array Value) (ds gs : List (DataW H)) (before : List MemPlace) (hg : GlobAt O W)
  (hval : ∀ (j : Nat) t v, fn.params[j]? = some t → args[j]? = some v → Value.okWide P W .any base t v)
  (hW : DataW.Whole enc P fn.params.toList s.vars false W args.toList ds gs before) :
  Calls P f args W fun e W' => ∃ v, e = .returned v ∧ s.post enc P fn false true false false W args v W' := by
 have hW' := hW
 obtain ⟨p, q, hA, hV, rfl, hfz, hnd⟩ := hW
 rw [hv] at hV
 obtain ⟨l, hl1, hd⟩ := args_open hP.orc _ _ _ _ hts (fun j t v h1 h2 => ⟨base, .any, hval j t v (by simpa using h1) (by simpa using h2)⟩) hA
 obtain ⟨g1, g2, g3⟩ := hl1.vrl
 obtain ⟨k, own, h', he⟩ := hall W _ l hl1
 have hgs : gs = [] := by
  cases gs with
  | nil => rfl
  | cons g r => exact absurd hV (by intro h; cases h)
 subst hgs
 refine (law_calls hP (by rw [g3]; simp) g1 g2 hg he).mono fun e W' h => ?_
 obtain ⟨he', hb⟩ := h
 exact ⟨_, he', law_post hl htb hres hv hr hW' (by rw [List.append_nil]; exact hfn ds (by simpa using hd)) hb⟩
end Go.Am
namespace Go.Am.Pr
def idxB : List Int → Int → Int
 | [], _ => -1
 | a :: l, c => if a = c then 0 else if idxB l c < 0 then -1 else idxB l c + 1
def cntB : List Int → Int → Int
 | [], _ => 0
 | a :: l, c => if a = c then cntB l c + 1 else cntB l c
end Go.Am.Pr
namespace Go.Am
open Go.Am.Pr
def idxPrim : List AV → Option AV
 | [.tv _ .str l, .tv _ (.int .u8) c] => some (.tv [] (.int .i64) (idxB l c))
 | _ => none
def joinPrim : List AV → Option AV
 | [.tv _ (.slice .str) l, .tv _ .str sep] => if List.length (l : List (List Int)) ≤ bigN ∧ List.length (List.intercalate (sep : List Int) (l : List (List Int))) ≤ 140737488355328 then some (.tv [] .str (List.intercalate (sep : List Int) (l : List (List Int)))) else none
 | _ => none
def cntPrim : List AV → Option AV
 | [.tv _ .str l, .tv _ .str m] => match m with
  | [c] => some (.tv [] (.int .i64) (cntB l c))
  | _ => none
 | _ => none
end Go.Am
namespace Go.Am
variable {P : Program} {O : Orc} {FB : Nat → Nat → Prop} {w : World} {ι : Key → Nat}
theorem prim_same {f : FuncId} {vs : Array Value} {h : Heap} {args : List AV} {r : AV} {v : Value} (H : Rel O FB w ⟨args, h⟩ (tmArgs vs) ι) (c : Calls P f vs w fun e w' => e = .returned v ∧ w' = w) (hr : VR (rlOf w FB ⟨args, h⟩ (tmArgs vs) ι) O r v) (ho : r.own = []) :
  Calls P f vs w fun e w' => ∃ v ι', e = .returned v ∧ Goes O FB w ⟨args, h⟩ (tmArgs vs) ι w' ⟨[r], h⟩ (fun _ => v) ι' :=
 c.mono fun e w' hq => by
  obtain ⟨rfl, rfl⟩ := hq
  exact ⟨v, ι, rfl, H.ends hr (.inr ho)⟩
open Go.Am.Pr
theorem idxB_lib : ∀ (x : List Int) (c : Int), (∀ z ∈ x, isByte z) → isByte c → idxB x c = Lib.indexByte (x.map fun z => z.toNat.toUInt8) c.toNat.toUInt8
 | [], _, _, _ => rfl
 | a :: l, c, h, hc => by
  have ha := h a (List.mem_cons_self ..)
  have ih := idxB_lib l c (fun z hz => h z (List.mem_cons_of_mem _ hz)) hc
  have e : (a.toNat.toUInt8 == c.toNat.toUInt8) = decide (a = c) := by
   unfold isByte at ha hc
   rw [Bool.eq_iff_iff]
   simp only [beq_iff_eq, decide_eq_true_eq]
   constructor
   ·intro h
    have := congrArg UInt8.toNat h
    simp only [Nat.toUInt8, UInt8.toNat_ofNat'] at this
    omega
   ·rintro rfl; rfl
  have hge := Lib.indexByte_ge (l.map fun z => z.toNat.toUInt8) c.toNat.toUInt8
  simp only [idxB, List.map_cons, Lib.indexByte, e, ih]
  by_cases h1 : a = c
  ·simp [h1]
  ·simp only [h1, decide_false, if_false, Bool.false_eq_true]
   by_cases h2 : Lib.indexByte (l.map fun z => z.toNat.toUInt8) c.toNat.toUInt8 = -1
   ·rw [h2]; rfl
   ·rw [if_neg (by omega), if_neg (by simpa using h2)]
theorem byte_eq {a c : Int} (ha : isByte a) (hc : isByte c) : (a.toNat.toUInt8 == c.toNat.toUInt8) = decide (a = c) := by
 unfold isByte at ha hc
 rw [Bool.eq_iff_iff]
 simp only [beq_iff_eq, decide_eq_true_eq]
 constructor
 ·intro h
  have := congrArg UInt8.toNat h
  simp only [Nat.toUInt8, UInt8.toNat_ofNat'] at this
  omega
 ·rintro rfl; rfl
theorem cntB_lib : ∀ (x : List Int) (c : Int), (∀ z ∈ x, isByte z) → isByte c → cntB x c = (Lib.countByte (x.map fun z => z.toNat.toUInt8) c.toNat.toUInt8 : Nat)
 | [], _, _, _ => rfl
 | a :: l, c, h, hc => by
  have ih := cntB_lib l c (fun z hz => h z (List.mem_cons_of_mem _ hz)) hc
  have e := byte_eq (h a (List.mem_cons_self ..)) hc
  unfold Lib.countByte at ih ⊢
  simp only [cntB, List.map_cons, List.count_cons, e, ih]
  by_cases h1 : a = c
  ·simp [h1]
  ·simp [h1]
end Go.Am
namespace Go.Am
variable {P : Program} {O : Orc}
structure CloneTab (O : Orc) (f : FuncId) : Prop where
 tk : O.take f 3 1 = false ∧ O.take f 3 2 = true ∧ O.take f 3 3 = true
 mks : ∀ i, O.mrk f 3 i = false
end Go.Am
namespace Go.Am
open Go.RowKit (Below)
variable {P : Program} {O : Orc} {FB : Nat → Nat → Prop} {w w' : World} {s : St} {tm : Nat → Value} {ι : Key → Nat}
theorem Rel.below (h : Rel O FB w s tm ι) (hb : Below w.heap.size w w') : Stp O FB w s tm ι w' s tm ι := by
 have hsz := hb.size
 have hheap : ∀ b, b < w.heap.size → w'.heap[b]? = w.heap[b]? := hb.block
 have hcell : ∀ b i, b < w.heap.size → w'.cell? ⟨b, i, none⟩ = w.cell? ⟨b, i, none⟩ := fun b i hlt => hb.cell (p := ⟨b, i, none⟩) hlt
 have hfrz : ∀ b i, b < w.heap.size → w'.frozen? ⟨b, i, none⟩ = w.frozen? ⟨b, i, none⟩ := fun b i hlt => hb.frozen (p := ⟨b, i, none⟩) hlt
 have hown : ∀ l, owns w' s tm ι l = owns w s tm ι l := by
  intro l
  cases l with
  | sl i p => rfl
  | fd k p =>
   simp only [owns]
   cases hk : look s.heap k with
   | none => rfl
   | some ob => simp only [(h.ob k ob hk).2.sameF hheap]
  | ob k => rfl
 have hc : CellLe (rlOf w FB s tm ι) (rlOf w' FB s tm ι) :=
  rl_le (by omega) (fun l b lo hl _ => ⟨l, lo, by rw [← hown l]; exact hl, Nat.le_refl _⟩) fun b i hp => hcell b i hp.1
 have hrm : ∀ b i, b < w.heap.size → (w'.cell? ⟨b, i, none⟩).isSome = (w.cell? ⟨b, i, none⟩).isSome ∧ w'.frozen? ⟨b, i, none⟩ = w.frozen? ⟨b, i, none⟩ :=
  fun b i hb => ⟨by rw [hcell b i hb], hfrz b i hb⟩
 have hle : (rlOf w FB s tm ι).le (rlOf w' FB s tm ι) := ⟨hc, fun k x hk => .of hk fun _ => Ext.keep hrm⟩
 refine ⟨⟨fun i => (h.vr i).le hle, fun k ob hk => ?_, fun l l' b lo lo' h1 h2 => ?_, fun i own t x e p hp => room_same hrm (by omega) (h.rs i own t x e p hp), fun k ob hk p hp => ?_, fun l b lo lo' hl => ?_, fun b lo hb => by have := h.fs b lo hb; omega, h.gl_le hc⟩, fun l b lo hl => .inl ⟨l, lo, by rw [← hown l]; exact hl, Nat.le_refl _⟩, by omega⟩
 ·obtain ⟨h1, h2⟩ := h.ob k ob hk
  exact ⟨h1, h2.keep hle h1 fun hg => hheap _ (h2.lt hg)⟩
 ·rw [hown] at h1 h2; exact h.dj l l' b lo lo' h1 h2
 ·exact (h.ob k ob hk).2.sameR hheap (room_same hrm (by omega) (h.rf k ob hk p hp))
 ·rw [hown] at hl; exact h.fb l b lo lo' hl
theorem Rel.goesBelow (h : Rel O FB w s tm ι) (hb : Below w.heap.size w w') : Goes O FB w s tm ι w' s tm ι where
 stp := h.below hb
 hist := ⟨hb.os, hb.tape, hb.output, hb.size, fun b hlt _ => hb.block b hlt, fun b lo hlt _ o _ => hb.cell (p := ⟨b, o, none⟩) hlt, fun b hlt o => ⟨by rw [hb.cell (p := ⟨b, o, none⟩) hlt], hb.frozen (p := ⟨b, o, none⟩) hlt⟩⟩
 keys := fun _ _ => KGo.of ⟨rfl, rfl⟩
theorem prim_below {f : FuncId} {vs : Array Value} {h : Heap} {args : List AV} {r : AV} {v : Value} (H : Rel O FB w ⟨args, h⟩ (tmArgs vs) ι) (c : Calls P f vs w fun e w' => e = .returned v ∧ Below w.heap.size w w') (hr : ∀ R, VR R O r v) (ho : r.own = []) :
  Calls P f vs w fun e w' => ∃ v ι', e = .returned v ∧ Goes O FB w ⟨args, h⟩ (tmArgs vs) ι w' ⟨[r], h⟩ (fun _ => v) ι' :=
 c.mono fun e w' hq => by
  obtain ⟨rfl, hb⟩ := hq
  have g := H.goesBelow hb
  exact ⟨v, ι, rfl, Goes.trans H g (g.stp.rel.ends (hr _) (.inr ho))⟩
theorem bytes_join (sep : List Int) (l : List (List Int)) : Lib.join ((l.map bytesOf).map (·.data.toList)) (bytesOf sep).data.toList = (List.intercalate sep l).map fun z => UInt8.ofNat z.toNat := by
  have e : ((l.map bytesOf).map (·.data.toList)) = l.map fun x => x.map fun z => UInt8.ofNat z.toNat := by
    rw [List.map_map]
    refine List.map_congr_left fun x _ => ?_
    simp [bytesOf]
  have e2 : (bytesOf sep).data.toList = sep.map fun z => UInt8.ofNat z.toNat := by simp [bytesOf]
  rw [e, e2]
  unfold Lib.join List.intercalate
  rw [List.map_flatten]
  congr 1
  clear e e2
  induction l with
  | nil => rfl
  | cons a l ih =>
    cases l with
    | nil => rfl
    | cons b l => simpa using ih
theorem inter_mem {sep : List Int} {z : Int} : ∀ {l : List (List Int)}, z ∈ List.intercalate sep l → z ∈ sep ∨ ∃ x ∈ l, z ∈ x
 | [], h => by simp [List.intercalate] at h
 | [a], h => by simp [List.intercalate] at h; exact .inr ⟨a, by simp, h⟩
 | a :: b :: l, h => by
  have e : List.intercalate sep (a :: b :: l) = a ++ (sep ++ List.intercalate sep (b :: l)) := by simp [List.intercalate]
  rw [e] at h
  rcases List.mem_append.1 h with h | h
  ·exact .inr ⟨a, by simp, h⟩
  ·rcases List.mem_append.1 h with h | h
   ·exact .inl h
   ·rcases inter_mem h with h | ⟨x, hx, h⟩
    ·exact .inl h
    ·exact .inr ⟨x, List.mem_cons_of_mem _ hx, h⟩
theorem join_ok {f : FuncId} (hb : hasBody P f)
    (hn : ∀ (a : Option Addr) (c : Nat) (sep : ByteArray) (w : World), Calls P f #[.slice a 0 c, .string sep] w fun e w' => e = .returned (.string ⟨#[]⟩) ∧ w' = w)
    (hj : ∀ (bk o c : Nat) (xs : List ByteArray) (sep : ByteArray) (w : World), (∀ (j : Nat) x, xs[j]? = some x → w.cell? ⟨bk, o + j, none⟩ = some (.string x)) → bk < w.heap.size → xs.length ≤ 140737488355328 → xs.length ≤ c →
      (Lib.join (xs.map (·.data.toList)) sep.data.toList).length ≤ 140737488355328 →
      Calls P f #[.slice (some ⟨bk, o, none⟩) xs.length c, .string sep] w fun e w' => e = .returned (.string ⟨(Lib.join (xs.map (·.data.toList)) sep.data.toList).toArray⟩) ∧ Below w.heap.size w w')
    (args : List AV) (r : AV) (hg : joinPrim args = some r) : hasBody P f ∧ ∀ (FB : Nat → Nat → Prop) (w : World) (h : Heap) (ι : Key → Nat) (vs : Array Value), args.length = vs.size → Rel O FB w ⟨args, h⟩ (tmArgs vs) ι →
    Calls P f vs w fun e w' => ∃ v ι', e = .returned v ∧ Goes O FB w ⟨args, h⟩ (tmArgs vs) ι w' ⟨[r], h⟩ (fun _ => v) ι' := by
  unfold joinPrim at hg
  split at hg
  · rename_i o1 l o2 sep
    split at hg
    · rename_i hlen
      obtain ⟨hl1, hl2⟩ := hlen
      cases hg
      refine ⟨hb, fun FB w h ι vs hl H => ?_⟩
      obtain ⟨vs⟩ := vs
      match vs, hl with
      | [v1, v2], _ => ?_
      have h0 := H.vr 0
      have h1 := H.vr 1
      have g0 : (⟨[AV.tv o1 (.slice .str) l, AV.tv o2 .str sep], h⟩ : St).get 0 = AV.tv o1 (.slice .str) l := rfl
      have g1 : (⟨[AV.tv o1 (.slice .str) l, AV.tv o2 .str sep], h⟩ : St).get 1 = AV.tv o2 .str sep := rfl
      rw [g0] at h0
      rw [g1] at h1
      simp only [VR] at h0 h1
      have h0' : VT (rlOf w FB ⟨[AV.tv o1 (.slice .str) l, AV.tv o2 .str sep], h⟩ (tmArgs ⟨[v1, v2]⟩) ι) (.slice .str) l v1 := h0
      have h1' : VT (rlOf w FB ⟨[AV.tv o1 (.slice .str) l, AV.tv o2 .str sep], h⟩ (tmArgs ⟨[v1, v2]⟩) ι) .str sep v2 := h1
      obtain ⟨rfl, hsep⟩ := h1'.str
      obtain ⟨a, cap, b, off, us, rfl, k2, k3, k4, k5, k6⟩ := h0'.slice
      have hel : ∀ i (hi : i < List.length (l : List (List Int))), us i 0 = .string (bytesOf ((l : List (List Int))[i]'hi)) ∧ ∀ z ∈ (l : List (List Int))[i]'hi, isByte z := fun i hi => by
        have := k6 i hi
        have e : (List.getD l i (Am.zero .str) : List Int) = (l : List (List Int))[i]'hi := by
          rw [List.getD_eq_getElem?_getD, List.getElem?_eq_getElem hi]; rfl
        simp only [RV] at this
        rw [e] at this
        exact this
      have hout : ∀ z ∈ List.intercalate (sep : List Int) (l : List (List Int)), isByte z := fun z hz => by
        rcases inter_mem hz with h | ⟨x, hx, h⟩
        · exact hsep z h
        · obtain ⟨i, hi, rfl⟩ := List.mem_iff_getElem.1 hx
          exact (hel i hi).2 z h
      have hVR : ∀ R, VR R O (.tv [] .str (List.intercalate (sep : List Int) (l : List (List Int)))) (.string (bytesOf (List.intercalate (sep : List Int) (l : List (List Int))))) := fun R => by
        simp only [VR]
        exact ⟨rfl, nofun, fun _ => rfl, rfl, by simp only [RV, cellsF, Value.cells]; exact ⟨rfl, hout⟩⟩
      by_cases hnil : List.length (l : List (List Int)) = 0
      · have hl0 : (l : List (List Int)) = [] := List.length_eq_zero_iff.1 hnil
        refine prim_below H ?_ hVR rfl
        have e : bytesOf (List.intercalate (sep : List Int) (l : List (List Int))) = ⟨#[]⟩ := by rw [hl0]; rfl
        rw [e, hnil]
        exact (hn a cap _ w).mono fun e w' hq => ⟨hq.1, by rw [hq.2]; exact Below.refl _ _⟩
      · obtain rfl := k4 (by omega)
        refine prim_below H ?_ hVR rfl
        have hcl : ∀ (j : Nat) x, (List.map bytesOf (l : List (List Int)))[j]? = some x → w.cell? ⟨b, off + j, none⟩ = some (.string x) := fun j x hx => by
          rw [List.getElem?_map] at hx
          obtain ⟨y, hy, rfl⟩ := Option.map_eq_some_iff.1 hx
          obtain ⟨hj, rfl⟩ := List.getElem?_eq_some_iff.1 hy
          have := (k5 j hj 0 (by simp [Ty.size])).1
          rw [(hel j hj).1] at this
          simp only [Ty.size, Nat.mul_one, Nat.add_zero] at this
          exact this
        have hbk : b < w.heap.size := by
          have := hcl 0 (bytesOf ((l : List (List Int))[0]'(by omega))) (by rw [List.getElem?_map, List.getElem?_eq_getElem (by omega)]; rfl)
          exact World.block_lt_of_cell? w ⟨b, off + 0, none⟩ this
        have hbj := bytes_join (sep : List Int) (l : List (List Int))
        have := hj b off cap (List.map bytesOf (l : List (List Int))) (bytesOf sep) w hcl hbk (by rw [List.length_map]; exact Nat.le_trans hl1 (by unfold bigN; omega)) (by rw [List.length_map]; exact k2) (by rw [hbj, List.length_map]; exact hl2)
        rw [List.length_map] at this
        refine this.mono fun e w' hq => ⟨?_, hq.2⟩
        rw [hq.1, hbj]
        rfl
    · cases hg
  · cases hg
end Go.Am
