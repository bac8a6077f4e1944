/-
  A part of the proof of a law: see the text that states it.
-/
import Derived.Test.YtggaihkjnomflaaDoorLM
import Derived.Test.YtggaihkjnomflaaDoorP
import Derived.Test.YtggaihkjnomflaaDoorAm4
import Derived.Test.YtggaihkjnomflaaDoorRows
import Derived.Test.YtggaihkjnomflaaDoorTie
import Derived.Test.YtggaihkjnomflaaDoorCards
import Derived.SevenTiedAt
set_option linter.all false
namespace Go.Am.D
open Go Go.Proofs Go.Proofs.YtggaihkjnomflaaDoor
open Go.ChangeShapes Go.WideShapes Go.ChangeAt Go.RowKit
set_option maxRecDepth 100000
theorem orc_types:orcB PP orc 169=true:=by decide +kernel
theorem orc_fns:fnsB PP orc 128=true:=by decide +kernel
theorem progOK:ProgOK PP orc where
 orc:=orcB_ok (fun T h=>by
  show tyTab.getD T none=none
  rw [List.getD_eq_getElem?_getD,List.getElem?_eq_none (by simpa [tyTab] using h)];rfl) orc_types
 mixed:=by kernel_rfl
 fns:=fnsB_ok (fun f h=>by
  show fnsTab.getD f false=false
  rw [List.getD_eq_getElem?_getD,List.getElem?_eq_none (by simpa [fnsTab] using h)];rfl) orc_fns
 prim:=fun f g h=>by
  have h':(if f=78 then some idxPrim else if f=70 then some cntPrim else if f=27 then some joinPrim else if f=16 then some Go.Am.G.gramPrim else none)=some g:=h
  split at h'
  ·rename_i e;subst e;cases h';exact prim78
  ·split at h'
   ·rename_i e;subst e;cases h';exact prim70
   ·split at h'
    ·rename_i e;subst e;cases h';exact prim27
    ·split at h'
     ·rename_i e;subst e;cases h';exact fun args r hg=>Go.Am.G.gram_prim (hb:=⟨Tryd.f16,Tryd.func16,by kernel_rfl,by kernel_rfl⟩) args r hg
     ·cases h'
 hprim:=fun f g h=>by cases h
theorem own:ownKnob Tryd.prog.godebug=none:=by kernel_rfl
theorem laidOut:laidOutB Tryd.prog=true:=by kernel_rfl
theorem typ4:Tryd.prog.underlying 4=some .bool:=by kernel_rfl
theorem words_global:Tryd.prog.globalNamed "tronage/lexer.words"=some 0:=by kernel_rfl
theorem words_type:(Tryd.prog.globals[0]?).map (·.type)=some 130:=by kernel_rfl
theorem escapes_global:Tryd.prog.globalNamed "tronage/lexer.escapes"=some 2:=by kernel_rfl
theorem escapes_type:(Tryd.prog.globals[2]?).map (·.type)=some 147:=by kernel_rfl
theorem globAt {W:World} (h:laidMetH Tryd.prog [("tronage/lexer.words",Rows.laid_tronage_lexer_words),("tronage/lexer.escapes",Rows.laid_tronage_lexer_escapes)] W):GlobAt orc W:=by
 have h':laidMet Tryd.prog [("tronage/lexer.words",Rows.laid_tronage_lexer_words),("tronage/lexer.escapes",Rows.laid_tronage_lexer_escapes)] W:=h
 obtain ⟨ps,⟨g,t,cs,fuel,p,q,hg,ht,hvar,hd,⟨g',t',cs',fuel',p',q',hg',ht',hvar',hd',_,_⟩,_⟩,_⟩:=h'
 obtain rfl:=Option.some.inj (words_global.symm.trans hg)
 obtain rfl:=Option.some.inj (words_type.symm.trans ht)
 obtain rfl:=Option.some.inj (escapes_global.symm.trans hg')
 obtain rfl:=Option.some.inj (escapes_type.symm.trans ht')
 intro g d hgd
 have e:(if g=0 then some (⟨.arr 0 8 .str,wordsL⟩:Dat) else if g=2 then some ⟨.arr 0 6 (.arr 0 2 (.int .u8)),escapesL⟩ else none)=some d:=hgd
 split at e
 ·rename_i eg;subst eg;cases e
  exact glob_open progOK.orc (T:=130) rfl rfl (fun j=>World.var?_cell hg hvar j) hd rfl
 ·split at e
  ·rename_i eg;subst eg;cases e
   exact glob_open progOK.orc (T:=147) rfl rfl (fun j=>World.var?_cell hg' hvar' j) hd' rfl
  ·cases e
def cellsW:Array Value:=#[.string ⟨#[116,111,107,101,110]⟩,.string ⟨#[115,107,105,112]⟩,.string ⟨#[108,101,102,116]⟩,.string ⟨#[114,105,103,104,116]⟩,.string ⟨#[110,111,110,97,115,115,111,99]⟩,.string ⟨#[115,116,97,114,116]⟩,.string ⟨#[112,114,101,99]⟩,.string ⟨#[37]⟩]
def cellsE:Array Value:=#[.int .u8 92,.int .u8 92,.int .u8 34,.int .u8 34,.int .u8 93,.int .u8 93,.int .u8 45,.int .u8 45,.int .u8 110,.int .u8 10,.int .u8 116,.int .u8 9]
def putC (cs:Array Value):Obj→Obj
 | .cells _ t frozen=>.cells cs t frozen
 | o=>o
noncomputable def laidWorld (os:Os):World :=
 { World.holding Tryd.prog os ⟨#[],#[],[]⟩ with heap:=((World.holding Tryd.prog os ⟨#[],#[],[]⟩).heap.modify 0 (putC cellsW)).modify 2 (putC cellsE) }
theorem laidWorld_row (os:Os) (args:Array Value):((laidWorld os).forCall (fun _ _=>0) ⟨#[],args,[]⟩).memory.heap[0]?=some (.cells cellsW 130 (0,0)):=by kernel_rfl
theorem laidWorld_row2 (os:Os) (args:Array Value):((laidWorld os).forCall (fun _ _=>0) ⟨#[],args,[]⟩).memory.heap[2]?=some (.cells cellsE 147 (0,0)):=by kernel_rfl
theorem no_iface (l:List Value) (h:l.all (fun v=>match v with | .iface ..=>false | _=>true)=true) (o:Nat) (u:TypeId) (v:Value):l[o]?≠some (.iface u v):=by
 intro he
 have:=List.all_eq_true.1 h _ (List.mem_of_getElem? he)
 cases this
theorem laidWorld_met (os:Os) (args:Array Value):laidMetH Tryd.prog [("tronage/lexer.words",Rows.laid_tronage_lexer_words),("tronage/lexer.escapes",Rows.laid_tronage_lexer_escapes)] ((laidWorld os).forCall (fun _ _=>0) ⟨#[],args,[]⟩).memory:=by
 show laidMet _ _ _
 refine ⟨_,⟨0,130,cellsW,8,[],_,by kernel_rfl,by kernel_rfl,by kernel_rfl,by kernel_rfl,⟨2,147,cellsE,8,[],[],by kernel_rfl,by kernel_rfl,by kernel_rfl,by kernel_rfl,rfl,rfl⟩,rfl⟩,by decide +kernel,fun b off h=>?_⟩
 have h':MemPlace.cell b off∈[MemPlace.cell 0 0,.cell 0 1,.cell 0 2,.cell 0 3,.cell 0 4,.cell 0 5,.cell 0 6,.cell 0 7,.cell 2 0,.cell 2 1,.cell 2 2,.cell 2 3,.cell 2 4,.cell 2 5,.cell 2 6,.cell 2 7,.cell 2 8,.cell 2 9,.cell 2 10,.cell 2 11]:=h
 have hb:b=0∨b=2:=by
  simp at h'
  omega
 rcases hb with rfl | rfl
 ·refine ⟨⟨_,_,laidWorld_row os args⟩,fun u v hc=>?_⟩
  simp only [World.cell?,laidWorld_row os args] at hc
  exact absurd (by simpa [cellsW] using hc) (no_iface cellsW.toList (by decide +kernel) off u v)
 ·refine ⟨⟨_,_,laidWorld_row2 os args⟩,fun u v hc=>?_⟩
  simp only [World.cell?,laidWorld_row2 os args] at hc
  exact absurd (by simpa [cellsE] using hc) (no_iface cellsE.toList (by decide +kernel) off u v)
theorem of_E {f:FuncId} {l:List AV} (h:E f l [] (.tv [] .bool true) []):∃ k own h',callF PP orc k f l []=some (.tv own .bool true,h'):=by
 obtain ⟨K,hK⟩:=h
 exact ⟨K,_,_,hK K (Nat.le_refl _)⟩
end Go.Am.D
