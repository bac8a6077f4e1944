/-
  A part of the proof of a law: see the text that states it.
-/
import Derived.Test.YtggaihkjnomflaaGreatDoorLM
import Derived.Test.YtggaihkjnomflaaGreatDoorP
import Derived.Test.YtggaihkjnomflaaGreatDoorAm4
import Derived.Test.YtggaihkjnomflaaGreatDoorRows
import Derived.Test.YtggaihkjnomflaaGreatDoorTie
import Derived.Test.YtggaihkjnomflaaGreatDoorCards
import Derived.SevenTiedAt
set_option linter.all false
namespace Go.Am.N
open Go Go.Proofs Go.Proofs.YtggaihkjnomflaaGreatDoor
open Go.ChangeShapes Go.WideShapes Go.ChangeAt Go.RowKit
set_option maxRecDepth 100000
theorem gSZ:ueZ PP orc 171=true:=by decide +kernel
theorem k6Z:uqZ PP orc 143=true:=by decide +kernel
theorem progOK:ProgOK PP orc where
 orc:=oHZ (fun T h=>by
  show tyTab.getD T none=none
  rw [List.getD_eq_getElem?_getD,List.getElem?_eq_none (by simpa [tyTab] using h)];rfl) gSZ
 mixed:=by kernel_rfl
 fns:=o9Z (fun f h=>by
  show fnsTab.getD f false=false
  rw [List.getD_eq_getElem?_getD,List.getElem?_eq_none (by simpa [fnsTab] using h)];rfl) k6Z
 prim:=fun f g h=>by
  have h':(if f=91 then some iAZ else if f=81 then some iTZ else if f=36 then some dZZ else if f=33 then some Go.Am.K.gramPrim else none)=some g:=h
  split at h'
  ·rename_i e;subst e;cases h';exact tJZ
  ·split at h'
   ·rename_i e;subst e;cases h';exact tcZ
   ·split at h'
    ·rename_i e;subst e;cases h';exact tRZ
    ·split at h'
     ·rename_i e;subst e;cases h';exact fun args r hg=>Go.Am.K.gram_prim (hb:=⟨Tryz.f33,Tryz.func33,by kernel_rfl,by kernel_rfl⟩) args r hg
     ·cases h'
 hprim:=fun f g h=>by cases h
theorem own:ownKnob Tryz.prog.godebug=none:=by kernel_rfl
theorem laidOut:laidOutB Tryz.prog=true:=by kernel_rfl
theorem typ4:Tryz.prog.underlying 4=some .bool:=by kernel_rfl
theorem words_global:Tryz.prog.globalNamed "tronage/lexer.words"=some 0:=by kernel_rfl
theorem words_type:(Tryz.prog.globals[0]?).map (·.type)=some 129:=by kernel_rfl
theorem escapes_global:Tryz.prog.globalNamed "tronage/lexer.escapes"=some 1:=by kernel_rfl
theorem escapes_type:(Tryz.prog.globals[1]?).map (·.type)=some 149:=by kernel_rfl
theorem globAt {W:World} (h:laidMetH Tryz.prog [("tronage/lexer.words",Rows.laid_tronage_lexer_words),("tronage/lexer.escapes",Rows.laid_tronage_lexer_escapes)] W):pAZ orc W:=by
 have h':laidMet Tryz.prog [("tronage/lexer.words",Rows.laid_tronage_lexer_words),("tronage/lexer.escapes",Rows.laid_tronage_lexer_escapes)] W:=h
 obtain ⟨ps,⟨g,t,cs,fuel,p,q,hg,ht,hvar,hd,⟨g',t',cs',fuel',p',q',hg',ht',hvar',hd',_,_⟩,_⟩,_⟩:=h'
 obtain rfl:=Option.some.inj (words_global.symm.trans hg)
 obtain rfl:=Option.some.inj (words_type.symm.trans ht)
 obtain rfl:=Option.some.inj (escapes_global.symm.trans hg')
 obtain rfl:=Option.some.inj (escapes_type.symm.trans ht')
 intro g d hgd
 have e:(if g=0 then some (⟨.arr 0 8 .str,wordsL⟩:Dat) else if g=1 then some ⟨.arr 0 6 (.arr 0 2 (.int .u8)),escapesL⟩ else none)=some d:=hgd
 split at e
 ·rename_i eg;subst eg;cases e
  exact khZ progOK.orc (T:=129) rfl rfl (fun j=>World.var?_cell hg hvar j) hd rfl
 ·split at e
  ·rename_i eg;subst eg;cases e
   exact khZ progOK.orc (T:=149) rfl rfl (fun j=>World.var?_cell hg' hvar' j) hd' rfl
  ·cases e
def cellsW:Array Value:=#[.string ⟨#[116,111,107,101,110]⟩,.string ⟨#[115,107,105,112]⟩,.string ⟨#[108,101,102,116]⟩,.string ⟨#[114,105,103,104,116]⟩,.string ⟨#[110,111,110,97,115,115,111,99]⟩,.string ⟨#[115,116,97,114,116]⟩,.string ⟨#[112,114,101,99]⟩,.string ⟨#[37]⟩]
def cellsE:Array Value:=#[.int .u8 92,.int .u8 92,.int .u8 34,.int .u8 34,.int .u8 93,.int .u8 93,.int .u8 45,.int .u8 45,.int .u8 110,.int .u8 10,.int .u8 116,.int .u8 9]
def uFZ (cs:Array Value):Obj→Obj
 | .cells _ t frozen=>.cells cs t frozen
 | o=>o
noncomputable def laidWorld (os:Os):World :=
 { World.holding Tryz.prog os ⟨#[],#[],[]⟩ with heap:=((World.holding Tryz.prog os ⟨#[],#[],[]⟩).heap.modify 0 (uFZ cellsW)).modify 1 (uFZ cellsE) }
theorem eGZ (os:Os) (args:Array Value):((laidWorld os).forCall (fun _ _=>0) ⟨#[],args,[]⟩).memory.heap[0]?=some (.cells cellsW 129 (0,0)):=by kernel_rfl
theorem eaZ (os:Os) (args:Array Value):((laidWorld os).forCall (fun _ _=>0) ⟨#[],args,[]⟩).memory.heap[1]?=some (.cells cellsE 149 (0,0)):=by kernel_rfl
theorem msZ (l:List Value) (h:l.all (fun v=>match v with | .iface ..=>false | _=>true)=true) (o:Nat) (u:TypeId) (v:Value):l[o]?≠some (.iface u v):=by
 intro he
 have:=List.all_eq_true.1 h _ (List.mem_of_getElem? he)
 cases this
theorem laidWorld_met (os:Os) (args:Array Value):laidMetH Tryz.prog [("tronage/lexer.words",Rows.laid_tronage_lexer_words),("tronage/lexer.escapes",Rows.laid_tronage_lexer_escapes)] ((laidWorld os).forCall (fun _ _=>0) ⟨#[],args,[]⟩).memory:=by
 show laidMet _ _ _
 refine ⟨_,⟨0,129,cellsW,8,[],_,by kernel_rfl,by kernel_rfl,by kernel_rfl,by kernel_rfl,⟨1,149,cellsE,8,[],[],by kernel_rfl,by kernel_rfl,by kernel_rfl,by kernel_rfl,rfl,rfl⟩,rfl⟩,by decide +kernel,fun b off h=>?_⟩
 have h':MemPlace.cell b off∈[MemPlace.cell 0 0,.cell 0 1,.cell 0 2,.cell 0 3,.cell 0 4,.cell 0 5,.cell 0 6,.cell 0 7,.cell 1 0,.cell 1 1,.cell 1 2,.cell 1 3,.cell 1 4,.cell 1 5,.cell 1 6,.cell 1 7,.cell 1 8,.cell 1 9,.cell 1 10,.cell 1 11]:=h
 have hb:b=0∨b=1:=by
  simp at h'
  omega
 rcases hb with rfl | rfl
 ·refine ⟨⟨_,_,eGZ os args⟩,fun u v hc=>?_⟩
  simp only [World.cell?,eGZ os args] at hc
  exact absurd (by simpa [cellsW] using hc) (msZ cellsW.toList (by decide +kernel) off u v)
 ·refine ⟨⟨_,_,eaZ os args⟩,fun u v hc=>?_⟩
  simp only [World.cell?,eaZ os args] at hc
  exact absurd (by simpa [cellsE] using hc) (msZ cellsE.toList (by decide +kernel) off u v)
theorem of_E {f:FuncId} {l:List AV} (h:E f l [] (.tv [] .bool true) []):∃ k own h',callF PP orc k f l []=some (.tv own .bool true,h'):=by
 obtain ⟨K,hK⟩:=h
 exact ⟨K,_,_,hK K (Nat.le_refl _)⟩
end Go.Am.N
