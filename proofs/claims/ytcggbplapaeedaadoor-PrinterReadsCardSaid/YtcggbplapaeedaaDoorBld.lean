/-
  A part of the proof of a law: see the text that states it.
-/
import Derived.Test.YtcggbplapaeedaaDoorShelf
import Derived.Test.YtcggbplapaeedaaDoorAm4
import Derived.Test.YtcggbplapaeedaaDoorOrc
set_option linter.all false
namespace Go.Proofs
open Go Go.Shelf Go.RowKit
set_option linter.all false
def Tryd.laysB:Lays.n240 Tryd.prog Tryd.lays156_ren:={ Tryd.lays156 with }
def Tryd.laysS:Lays.n169 Tryd.prog Tryd.lays156_ren:={ Tryd.lays156 with }
theorem Tryd.copy_used (b:Nat) (w:World) (h0:w.cell? ⟨b,0,none⟩=some (.pointer (some ⟨b,0,none⟩))) :
  Calls Tryd.prog 79 #[.pointer (some ⟨b,0,none⟩)] w fun e w'=>e=.returned (.tuple #[])∧w'=w :=
 Any.Builder_copyCheck_used Tryd.laysB Tryd.Builder_Extra_156.toX72 b w h0
theorem Tryd.lies72:liesAt Tryd.prog Tryd.prog.depth 72 (2 / Tryd.prog.cellsOf 72) 0 72 1=true:=by kernel_rfl
theorem Tryd.lies74:liesAt Tryd.prog Tryd.prog.depth 74 (2 / Tryd.prog.cellsOf 74) 0 72 1=true:=by kernel_rfl
theorem Tryd.lies (T:TypeId) (hT:T∈Am.wrT):liesAt Tryd.prog Tryd.prog.depth T (2 / Tryd.prog.cellsOf T) 0 72 1=true:=by
 have:T=72∨T=74:=by simpa [Am.wrT] using hT
 rcases this with rfl | rfl
 ·exact Tryd.lies72
 ·exact Tryd.lies74
set_option maxHeartbeats 1000000 in
set_option maxRecDepth 100000 in
theorem copy_first {P:Program} {ρ:Ren} (L:Lays.n240 P ρ) (X:Builder.X72 P ρ) (T:TypeId) (b:Nat) (w:World) (hl:liesAt P P.depth T (2 / P.cellsOf T) 0 (ρ.t 72) 1=true) (hsh:w.shape? b=some (T,2)) (h0:w.cell? ⟨b,0,none⟩=some (.pointer none)) (hfz:w.frozen? ⟨b,0,none⟩=false) :
  Calls P (ρ.f 240) #[.pointer (some ⟨b,0,none⟩)] w fun e w'=>e=.returned (.tuple #[])∧w'=w.setCell ⟨b,0,none⟩ (.pointer (some ⟨b,0,none⟩)):=by
 obtain ⟨j,hj,hjs⟩:=Option.map_eq_some_iff.1 X.sizeBuilder
 have mixed:=L.mixed
 have t72:=L.t72;have a72:=L.a72;have z72:=L.z72;have v72:=L.v72;have u72:=run_underlying L.t72
 have t70:=L.t70;have a70:=L.a70;have z70:=L.z70;have v70:=L.v70;have u70:=run_underlying L.t70
 have t9:=L.t9;have a9:=L.a9;have z9:=L.z9;have v9:=L.v9;have u9:=run_underlying L.t9
 have t4:=L.t4;have a4:=L.a4;have z4:=L.z4;have v4:=L.v4;have u4:=run_underlying L.t4
 have t164:=L.t164;have a164:=L.a164;have z164:=L.z164;have v164:=L.v164;have u164:=run_underlying L.t164
 go_enter L.f240,Body.n240_ntmps ρ
 go_wp2
 rw [Lib.run_to_unsafe w ⟨b,0,none⟩ L.t70 L.t164 hj (by rw [hjs];decide) hsh (Nat.zero_lt_succ 1)]
 simp only [Result.andThen]
 rw [Oper.upon_value]
 go_wp2
 rw [run_callFunc_extern L.f276 (by kernel_rfl) (by kernel_rfl) (by kernel_rfl) (e:=Extern.AbiNoEscape.same) (by kernel_rfl),Lib.run_noEscape]
 simp only [Result.andThen]
 rw [Oper.upon_value]
 go_wp2
 rw [Lib.run_from_unsafe w ⟨b,0,none⟩ L.t164 L.t70 hj hsh hl]
 simp only [Result.andThen]
 rw [Oper.upon_value]
 go_wp2
 go_end0
 exact ⟨rfl,rfl⟩
theorem Tryd.copy_fresh (b:Nat) (T:TypeId) (w:World) (hT:T∈Am.wrT) (hsh:w.shape? b=some (T,2)) (h0:w.cell? ⟨b,0,none⟩=some (.pointer none)) (hfz:w.frozen? ⟨b,0,none⟩=false) :
  Calls Tryd.prog 79 #[.pointer (some ⟨b,0,none⟩)] w fun e w'=>e=.returned (.tuple #[])∧w'=w.setCell ⟨b,0,none⟩ (.pointer (some ⟨b,0,none⟩)) :=
 copy_first Tryd.laysB Tryd.Builder_Extra_156.toX72 T b w (Tryd.lies T hT) hsh h0 hfz
set_option maxHeartbeats 1000000 in
set_option maxRecDepth 100000 in
theorem str_full {P:Program} {ρ:Ren} (L:Lays.n169 P ρ) (X:Builder.Extra P ρ) (b g cap m:Nat) (l:List UInt8) (w:World) (h0:l≠[]) (hc:l.length≤cap) (hb:l.length≤4294967296) (hsh:w.shape? g=some (ρ.t 5,m)) (h1:w.cell? ⟨b,1,none⟩=some (.slice (some ⟨g,0,none⟩) l.length cap)) (hm:l.length≤m) (hcell:∀ (j:Nat) x,l[j]?=some x→w.cell? ⟨g,j,none⟩=some (.int .u8 x.toNat)) :
  Calls P (ρ.f 169) #[.pointer (some ⟨b,0,none⟩)] w fun e w'=>e=.returned (.string ⟨l.toArray⟩)∧w'.os=w.os∧w'.tape=w.tape∧w'.output=w.output∧w'.heap=(w.freeze ⟨g,0,none⟩ l.length).heap:=by
 have hl0:l.length≠0:=by simpa using h0
 have c1:w.drew.cell? ⟨b,1,none⟩=some (.slice (some ⟨g,0,none⟩) l.length cap):=h1
 have hSD:(Builtin.unsafeSliceData_ #[(ρ.t 37)] (ρ.t 127) #[.slice (some ⟨g,0,none⟩) l.length cap]).run P w.drew=.ok (.pointer (some ⟨g,0,none⟩)) w.drew :=
  Lib.run_unsafeSliceData_row _ _ _ _ _ _ (by omega)
 have hUS:(Builtin.unsafeString_ #[(ρ.t 127),(ρ.t 3)] (ρ.t 9) #[.pointer (some ⟨g,0,none⟩),.int .i64 l.length]).run P w.drew=.ok (.string ⟨l.toArray⟩) (w.drew.freeze ⟨g,0,none⟩ l.length) :=
  Lib.run_unsafeString_row w.drew (ρ.t 127) (ρ.t 3) (ρ.t 9) (ρ.t 5) L.t127 X.cellsByte g m hsh l h0 hm (by omega) (fun j x hx=>by
   have:=hcell j x hx
   rw [show ((⟨g,0,none⟩:Addr).add j)=⟨g,j,none⟩ by simp [Addr.add];intro e;exact e.symm ▸ rfl]
   exact this)
 have mixed:=L.mixed
 have t72:=L.t72;have a72:=L.a72;have z72:=L.z72;have v72:=L.v72;have u72:=run_underlying L.t72
 have t70:=L.t70;have a70:=L.a70;have z70:=L.z70;have v70:=L.v70;have u70:=run_underlying L.t70
 have t37:=L.t37;have a37:=L.a37;have z37:=L.z37;have v37:=L.v37;have u37:=run_underlying L.t37
 have t127:=L.t127;have a127:=L.a127;have z127:=L.z127;have v127:=L.v127;have u127:=run_underlying L.t127
 have t3:=L.t3;have a3:=L.a3;have z3:=L.z3;have v3:=L.v3;have u3:=run_underlying L.t3
 have t9:=L.t9;have a9:=L.a9;have z9:=L.z9;have v9:=L.v9;have u9:=run_underlying L.t9
 have t5:=X.t5;have a5:=X.a5;have z5:=X.z5;have v5:=X.v5;have u5:=run_underlying X.t5
 go_enter L.f169,Body.n169_ntmps ρ
 go_wp2
 go_region_o
 all_goals (go_wp2;go_ret;exact ⟨rfl,by unfold World.freeze;rw [if_neg hl0];rfl,by unfold World.freeze;rw [if_neg hl0];rfl,by unfold World.freeze;rw [if_neg hl0];rfl,by unfold World.freeze;rw [if_neg hl0,if_neg hl0];rfl⟩)
set_option maxHeartbeats 1000000 in
set_option maxRecDepth 100000 in
theorem str_none {P:Program} {ρ:Ren} (L:Lays.n169 P ρ) (X:Builder.Extra P ρ) (b cap:Nat) (a:Option Addr) (w w2:World) (p:Option Addr) (h1:w.cell? ⟨b,1,none⟩=some (.slice a 0 cap)) (hSD:(Builtin.unsafeSliceData_ #[(ρ.t 37)] (ρ.t 127) #[.slice a 0 cap]).run P w.drew=.ok (.pointer p) w2) (h2:w2.cell? ⟨b,1,none⟩=some (.slice a 0 cap))
  (hB:Below w.heap.size w w2) (h3:w2=w.drew∨∃ o,w2=w.drew.alloc o) :
  Calls P (ρ.f 169) #[.pointer (some ⟨b,0,none⟩)] w fun e w'=>e=.returned (.string ⟨#[]⟩)∧Below w.heap.size w w':=by
 have hUS:=fun W q=>Lib.run_unsafeString_none (P:=P) (w:=W) (ρ.t 127) (ρ.t 3) (ρ.t 9) q
 have c1:w.drew.cell? ⟨b,1,none⟩=some (.slice a 0 cap):=h1
 have mixed:=L.mixed
 have t72:=L.t72;have a72:=L.a72;have z72:=L.z72;have v72:=L.v72;have u72:=run_underlying L.t72
 have t70:=L.t70;have a70:=L.a70;have z70:=L.z70;have v70:=L.v70;have u70:=run_underlying L.t70
 have t37:=L.t37;have a37:=L.a37;have z37:=L.z37;have v37:=L.v37;have u37:=run_underlying L.t37
 have t127:=L.t127;have a127:=L.a127;have z127:=L.z127;have v127:=L.v127;have u127:=run_underlying L.t127
 have t3:=L.t3;have a3:=L.a3;have z3:=L.z3;have v3:=L.v3;have u3:=run_underlying L.t3
 have t9:=L.t9;have a9:=L.a9;have z9:=L.z9;have v9:=L.v9;have u9:=run_underlying L.t9
 have t5:=X.t5;have a5:=X.a5;have z5:=X.z5;have v5:=X.v5;have u5:=run_underlying X.t5
 go_enter L.f169,Body.n169_ntmps ρ
 go_wp2
 go_region_o
 all_goals (go_wp2;go_ret;exact ⟨rfl,hB⟩)
theorem Tryd.str_empty (b cap:Nat) (a:Option Addr) (w:World) (ha:a=none→cap=0) (hx:∀ x,a=some x→x.spot=none∧∃ T m,w.shape? x.block=some (T,m)∧T∈Am.byT) (h1:w.cell? ⟨b,1,none⟩=some (.slice a 0 cap)) :
  Calls Tryd.prog 34 #[.pointer (some ⟨b,0,none⟩)] w fun e w'=>e=.returned (.string ⟨#[]⟩)∧Below w.heap.size w w':=by
 have hd:Below w.heap.size w w.drew:=Below.drew (Below.refl _ w)
 cases a with
 | none =>
  obtain rfl:=ha rfl
  exact str_none Tryd.laysS Tryd.Builder_Extra_156 b 0 none w w.drew none h1 (Lib.run_unsafeSliceData_nil _ _ _ _ _) h1 hd (.inl rfl)
 | some x =>
  by_cases hc:cap=0
  ·subst hc
   obtain ⟨_,T,m,hs,_⟩:=hx x rfl
   have hlt:b<w.heap.size:=World.block_lt_of_cell? _ _ h1
   exact str_none Tryd.laysS Tryd.Builder_Extra_156 b 0 (some x) w (w.drew.alloc (.view x _)) (some ⟨w.drew.heap.size,0,none⟩) h1 (Lib.run_unsafeSliceData_zero (w:=w.drew) _ _ _ Tryd.laysS.t127 x 0 (T,m) hs) (by rw [Am.alloc_cell w.drew _ b 1 hlt];exact h1) (hd.alloc (Nat.le_refl _) _) (.inr ⟨_,rfl⟩)
  ·exact str_none Tryd.laysS Tryd.Builder_Extra_156 b cap (some x) w w.drew (some x) h1 (Lib.run_unsafeSliceData_row _ _ _ _ _ _ hc) h1 hd (.inl rfl)
theorem Tryd.str_bytes (b g cap m:Nat) (T:TypeId) (us:List UInt8) (w:World) (h0:us≠[]) (hc:us.length≤cap) (hb:us.length≤Am.bigN) (hT:T∈Am.byT) (hsh:w.shape? g=some (T,m)) (h1:w.cell? ⟨b,1,none⟩=some (.slice (some ⟨g,0,none⟩) us.length cap)) (hm:us.length≤m) (hcell:∀ (j:Nat) x,us[j]?=some x→w.cell? ⟨g,j,none⟩=some (.int .u8 x.toNat)) :
  Calls Tryd.prog 34 #[.pointer (some ⟨b,0,none⟩)] w fun e w'=>e=.returned (.string ⟨us.toArray⟩)∧w'.os=w.os∧w'.tape=w.tape∧w'.output=w.output∧w'.heap=(w.freeze ⟨g,0,none⟩ us.length).heap:=by
 obtain rfl:T=5:=by simpa [Am.byT] using hT
 exact str_full Tryd.laysS Tryd.Builder_Extra_156 b g cap m us w h0 hc hb hsh h1 hm hcell
end Go.Proofs
namespace Go.Am.R
open Go Go.Proofs
theorem hprim79 (args:List AV) (h:Heap) (n:Nat) (r:AV) (h':Heap) (hg:copyPrim args h=some (n,r,h')) (hn:n≤bigN):hasBody Tryd.prog 79∧∀ (FB:Nat→Nat→Prop) (w:World) (ι:Key→Nat) (vs:Array Value),args.length=vs.size→Rel orc FB w ⟨args,h⟩ (tmArgs vs) ι →
  Calls Tryd.prog 79 vs w fun e w'=>∃ v ι',e=.returned v∧Goes orc FB w ⟨args,h⟩ (tmArgs vs) ι w' ⟨[r],h'⟩ (fun _=>v) ι' :=
 copy_ok ⟨Tryd.f79,Tryd.func79,by kernel_rfl,by kernel_rfl⟩ Tryd.copy_used (fun b T w hT hs h0 hf=>Tryd.copy_fresh b T w hT hs h0 hf) args h n r h' hg hn
theorem hprim34 (args:List AV) (h:Heap) (n:Nat) (r:AV) (h':Heap) (hg:strPrim args h=some (n,r,h')) (hn:n≤bigN):hasBody Tryd.prog 34∧∀ (FB:Nat→Nat→Prop) (w:World) (ι:Key→Nat) (vs:Array Value),args.length=vs.size→Rel orc FB w ⟨args,h⟩ (tmArgs vs) ι →
  Calls Tryd.prog 34 vs w fun e w'=>∃ v ι',e=.returned v∧Goes orc FB w ⟨args,h⟩ (tmArgs vs) ι w' ⟨[r],h'⟩ (fun _=>v) ι' :=
 str_ok ⟨Tryd.f34,Tryd.func34,by kernel_rfl,by kernel_rfl⟩ Tryd.str_bytes Tryd.str_empty args h n r h' hg hn
end Go.Am.R
