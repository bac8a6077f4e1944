/-
  A part of the proof of a law: see the text that states it.
-/
import Derived.Test.YtggaihkjnomflaaGreatDoorPrim
import Derived.Test.YtggaihkjnomflaaGreatDoorShelf
import Derived.Test.YtggaihkjnomflaaGreatDoorAm4
set_option linter.all false
namespace Go.Am.N
open Go Go.Am.Pr Go.Proofs
set_option maxRecDepth 100000
theorem get0 {a b:AV} {h:Heap}:(⟨[a,b],h⟩:St).get 0=a:=rfl
theorem get1 {a b:AV} {h:Heap}:(⟨[a,b],h⟩:St).get 1=b:=rfl
theorem bytes_list (l:List Int):(bytesOf l).data.toList=l.map fun z=>z.toNat.toUInt8:=by
 simp [bytesOf]
theorem prim91 (args:List AV) (r:AV) (hg:idxPrim args=some r):hasBody PP 91∧∀ (FB:Nat→Nat→Prop) (w:World) (h:Heap) (ι:Key→Nat) (vs:Array Value),args.length=vs.size→Rel orc FB w ⟨args,h⟩ (tmArgs vs) ι →
  Calls PP 91 vs w fun e w'=>∃ v ι',e=.returned v∧Goes orc FB w ⟨args,h⟩ (tmArgs vs) ι w' ⟨[r],h⟩ (fun _=>v) ι':=by
 unfold idxPrim at hg
 split at hg
 ·rename_i l _ c
  cases hg
  refine ⟨⟨Tryz.f91,Tryz.func91,by kernel_rfl,by kernel_rfl⟩,fun FB w h ι vs hl H=>?_⟩
  obtain ⟨vs⟩:=vs
  match vs,hl with
  | [v1,v2],_=>?_
  have h0:=H.vr 0
  have h1:=H.vr 1
  rw [get0] at h0
  rw [get1] at h1
  simp only [VR] at h0 h1
  have e0:v1=_∧_:=VT.str h0
  have e1:v2=_:=VT.int h1
  have hc:isByte c:=h1.rv.2 rfl
  obtain ⟨rfl,hb⟩:=e0
  subst e1
  refine prim_same H ((Tryz.amIndex _ _ w).mono fun e w' hq=>hq) ?_ rfl
  show VR _ _ (.tv [] (.int .i64) (idxB l c)) _
  rw [idxB_lib l c hb hc,bytes_list]
  exact VT.ofInt _ _ nofun
 ·cases hg
theorem prim81 (args:List AV) (r:AV) (hg:cntPrim args=some r):hasBody PP 81∧∀ (FB:Nat→Nat→Prop) (w:World) (h:Heap) (ι:Key→Nat) (vs:Array Value),args.length=vs.size→Rel orc FB w ⟨args,h⟩ (tmArgs vs) ι →
  Calls PP 81 vs w fun e w'=>∃ v ι',e=.returned v∧Goes orc FB w ⟨args,h⟩ (tmArgs vs) ι w' ⟨[r],h⟩ (fun _=>v) ι':=by
 unfold cntPrim at hg
 split at hg
 ·rename_i l _ m
  split at hg
  ·rename_i c
   cases hg
   refine ⟨⟨Tryz.f81,Tryz.func81,by kernel_rfl,by kernel_rfl⟩,fun FB w h ι vs hl H=>?_⟩
   obtain ⟨vs⟩:=vs
   match vs,hl with
   | [v1,v2],_=>?_
   have h0:=H.vr 0
   have h1:=H.vr 1
   rw [get0] at h0
   rw [get1] at h1
   simp only [VR] at h0 h1
   have e0:v1=_∧_:=VT.str h0
   have e1:v2=_∧_:=VT.str h1
   obtain ⟨rfl,hb⟩:=e0
   obtain ⟨rfl,hc⟩:=e1
   have hc:isByte c:=hc c (List.mem_cons_self ..)
   refine prim_same H ((Tryz.amCount _ c.toNat.toUInt8 w).mono fun e w' hq=>hq) ?_ rfl
   show VR _ _ (.tv [] (.int .i64) (cntB l c)) _
   rw [cntB_lib l c hb hc,bytes_list]
   exact VT.ofInt _ _ nofun
  ·cases hg
 ·cases hg
theorem prim36 (args:List AV) (r:AV) (hg:joinPrim args=some r):hasBody PP 36∧∀ (FB:Nat→Nat→Prop) (w:World) (h:Heap) (ι:Key→Nat) (vs:Array Value),args.length=vs.size→Rel orc FB w ⟨args,h⟩ (tmArgs vs) ι →
  Calls PP 36 vs w fun e w'=>∃ v ι',e=.returned v∧Goes orc FB w ⟨args,h⟩ (tmArgs vs) ι w' ⟨[r],h⟩ (fun _=>v) ι' :=
 join_ok ⟨Tryz.f36,Tryz.func36,by kernel_rfl,by kernel_rfl⟩ Tryz.strings_Join_none Tryz.strings_Join args r hg
end Go.Am.N
