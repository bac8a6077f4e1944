/-
  A part of the proof of a law: see the text that states it.
-/
import Derived.Test.YtfnnapgpcndcjaaGreatDoorVE
import Derived.Test.YtfnnapgpcndcjaaGreatDoorP
import Derived.Test.YtfnnapgpcndcjaaGreatDoorAm4
import Derived.Test.YtfnnapgpcndcjaaGreatDoorRows
import Derived.Test.YtfnnapgpcndcjaaGreatDoorTie
import Derived.Test.YtfnnapgpcndcjaaGreatDoorCards
import Derived.SevenTiedAt
set_option linter.all false
namespace Go.Am.Z
open Go Go.Proofs Go.Proofs.YtfnnapgpcndcjaaGreatDoor
open Go.ChangeShapes Go.WideShapes Go.ChangeAt Go.RowKit
set_option maxRecDepth 100000
theorem orc_types:orcB PP orc 202=true:=by decide +kernel
theorem orc_fns:fnsB PP orc 151=true:=by decide +kernel
theorem progOK:ProgOK PP orc where
 orc:=orcB_ok (fun T h=>by
  show tyTab.getD T none=none
  rw [List.getD_eq_getElem?_getD,List.getElem?_eq_none (by simpa [tyTab] using h)];rfl) orc_types
 mixed:=by kernel_rfl
 fns:=fnsB_ok (fun f h=>by
  show fnsTab.getD f false=false
  rw [List.getD_eq_getElem?_getD,List.getElem?_eq_none (by simpa [fnsTab] using h)];rfl) orc_fns
 prim:=fun f g h=>by
  have e:(if f=69 then some (clonePrim (.int .i64)) else none)=some g:=h
  split at e
  ·rename_i e1;subst e1;cases e;exact prim69 (orcB_ok (fun T h=>by
    show tyTab.getD T none=none
    rw [List.getD_eq_getElem?_getD,List.getElem?_eq_none (by simpa [tyTab] using h)];rfl) orc_types)
  ·cases e
theorem own:ownKnob Tryz.prog.godebug=none:=by kernel_rfl
theorem laidOut:laidOutB Tryz.prog=true:=by kernel_rfl
theorem typ4:Tryz.prog.underlying 4=some .bool:=by kernel_rfl
theorem glob0:Tryz.prog.globalNamed "unicode/utf8.acceptRanges"=some 2:=by kernel_rfl
theorem gtyp0:(Tryz.prog.globals[2]?).map (·.type)=some 182:=by kernel_rfl
theorem glob1:Tryz.prog.globalNamed "tronage/code.takes"=some 0:=by kernel_rfl
theorem gtyp1:(Tryz.prog.globals[0]?).map (·.type)=some 159:=by kernel_rfl
theorem glob2:Tryz.prog.globalNamed "unicode/utf8.first"=some 1:=by kernel_rfl
theorem gtyp2:(Tryz.prog.globals[1]?).map (·.type)=some 178:=by kernel_rfl
theorem globAt {W:World} (h:laidMetH Tryz.prog [("unicode/utf8.acceptRanges",Rows.laid_unicode_utf8_acceptRanges),("tronage/code.takes",Rows.laid_tronage_code_takes),("unicode/utf8.first",Rows.laid_unicode_utf8_first)] W):GlobAt orc W:=by
 have h':laidMet Tryz.prog [("unicode/utf8.acceptRanges",Rows.laid_unicode_utf8_acceptRanges),("tronage/code.takes",Rows.laid_tronage_code_takes),("unicode/utf8.first",Rows.laid_unicode_utf8_first)] W:=h
 obtain ⟨ps,⟨g0,t0,cs0,fuel0,p0,q0,hg0,ht0,hvar0,hd0,⟨g1,t1,cs1,fuel1,p1,q1,hg1,ht1,hvar1,hd1,⟨g2,t2,cs2,fuel2,p2,q2,hg2,ht2,hvar2,hd2,hlast,hps2⟩,hps1⟩,hps0⟩,hnd⟩:=h'
 obtain rfl:=Option.some.inj (glob0.symm.trans hg0)
 obtain rfl:=Option.some.inj (gtyp0.symm.trans ht0)
 obtain rfl:=Option.some.inj (glob1.symm.trans hg1)
 obtain rfl:=Option.some.inj (gtyp1.symm.trans ht1)
 obtain rfl:=Option.some.inj (glob2.symm.trans hg2)
 obtain rfl:=Option.some.inj (gtyp2.symm.trans ht2)
 intro g d hgd
 have e:(if g=0 then some (⟨.arr 0 10 (.int .i64),takesL⟩:Dat) else none)=some d:=hgd
 split at e
 ·rename_i eg;subst eg;cases e
  exact glob_open progOK.orc (T:=159) rfl rfl (fun j=>World.var?_cell hg1 hvar1 j) hd1 rfl
 ·skip
  cases e
def cells0:Array Value:=#[.int .u8 128,.int .u8 191,.int .u8 160,.int .u8 191,.int .u8 128,.int .u8 159,.int .u8 144,.int .u8 191,.int .u8 128,.int .u8 143,.int .u8 0,.int .u8 0,.int .u8 0,.int .u8 0,.int .u8 0,.int .u8 0,.int .u8 0,.int .u8 0,.int .u8 0,.int .u8 0,.int .u8 0,.int .u8 0,.int .u8 0,.int .u8 0,.int .u8 0,.int .u8 0,.int .u8 0,.int .u8 0,.int .u8 0,.int .u8 0,.int .u8 0,.int .u8 0]
def cells1:Array Value:=#[.int .i64 0,.int .i64 0,.int .i64 0,.int .i64 0,.int .i64 1,.int .i64 2,.int .i64 2,.int .i64 2,.int .i64 2,.int .i64 2]
def cells2:Array Value:=(Go.Pinned.utf8FirstZ.map fun n:Nat=>Value.int .u8 (Int.ofNat n)).toArray
def putC (cs:Array Value):Obj→Obj
 | .cells _ t frozen=>.cells cs t frozen
 | o=>o
noncomputable def laidWorld (os:Os):World :=
 { World.holding Tryz.prog os ⟨#[],#[],[]⟩ with heap:=((((World.holding Tryz.prog os ⟨#[],#[],[]⟩).heap.modify 2 (putC cells0)).modify 0 (putC cells1)).modify 1 (putC cells2)) }
theorem laidRow0 (os:Os) (args:Array Value):((laidWorld os).forCall (fun _ _=>0) ⟨#[],args,[]⟩).memory.heap[2]?=some (.cells cells0 182 (0,0)):=by kernel_rfl
theorem laidRow1 (os:Os) (args:Array Value):((laidWorld os).forCall (fun _ _=>0) ⟨#[],args,[]⟩).memory.heap[0]?=some (.cells cells1 159 (0,0)):=by kernel_rfl
theorem laidRow2 (os:Os) (args:Array Value):((laidWorld os).forCall (fun _ _=>0) ⟨#[],args,[]⟩).memory.heap[1]?=some (.cells cells2 178 (0,0)):=by kernel_rfl
theorem no_iface (l:List Value) (h:l.all (fun v=>match v with | .iface ..=>false | _=>true)=true) (o:Nat) (u:TypeId) (v:Value):l[o]?≠some (.iface u v):=by
 intro he
 have:=List.all_eq_true.1 h _ (List.mem_of_getElem? he)
 cases this
def laidPlaces:List MemPlace:=MemPlace.row ⟨2,0,none⟩ 32++[]++(MemPlace.row ⟨0,0,none⟩ 10++[]++(MemPlace.row ⟨1,0,none⟩ 256++[]++([])))
theorem places_in:∀ m∈laidPlaces,(match m with | .cell b _=>b == 2||b == 0||b == 1 | _=>true)=true:=List.all_eq_true.1 (by decide +kernel)
theorem laidWorld_met (os:Os) (args:Array Value):laidMetH Tryz.prog [("unicode/utf8.acceptRanges",Rows.laid_unicode_utf8_acceptRanges),("tronage/code.takes",Rows.laid_tronage_code_takes),("unicode/utf8.first",Rows.laid_unicode_utf8_first)] ((laidWorld os).forCall (fun _ _=>0) ⟨#[],args,[]⟩).memory:=by
 show laidMet _ _ _
 refine ⟨laidPlaces,⟨2,182,cells0,8,[],_,by kernel_rfl,by kernel_rfl,by kernel_rfl,by kernel_rfl,⟨0,159,cells1,8,[],_,by kernel_rfl,by kernel_rfl,by kernel_rfl,by kernel_rfl,⟨1,178,cells2,8,[],[],by kernel_rfl,by kernel_rfl,by kernel_rfl,by kernel_rfl,rfl,rfl⟩,rfl⟩,by kernel_rfl⟩,by decide +kernel,fun b off h=>?_⟩
 have hb:b=2∨b=0∨b=1:=by
  have:=places_in _ h
  simpa [or_assoc] using this
 rcases hb with rfl | rfl | rfl
 ·refine ⟨⟨_,_,laidRow0 os args⟩,fun u v hc=>?_⟩
  simp only [World.cell?,laidRow0 os args] at hc
  exact absurd (by simpa [cells0] using hc) (no_iface cells0.toList (by decide +kernel) off u v)
 ·refine ⟨⟨_,_,laidRow1 os args⟩,fun u v hc=>?_⟩
  simp only [World.cell?,laidRow1 os args] at hc
  exact absurd (by simpa [cells1] using hc) (no_iface cells1.toList (by decide +kernel) off u v)
 ·refine ⟨⟨_,_,laidRow2 os args⟩,fun u v hc=>?_⟩
  simp only [World.cell?,laidRow2 os args] at hc
  exact absurd (by simpa [cells2] using hc) (no_iface cells2.toList (by decide +kernel) off u v)
theorem of_E {f:FuncId} {l:List AV} (h:E f l [] (.tv [] .bool true) []):∃ k own h',callF PP orc k f l []=some (.tv own .bool true,h'):=by
 obtain ⟨K,hK⟩:=h
 exact ⟨K,_,_,hK K (Nat.le_refl _)⟩
end Go.Am.Z
