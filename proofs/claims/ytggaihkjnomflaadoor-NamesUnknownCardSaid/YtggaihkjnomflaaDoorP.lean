/-
  A part of the proof of a law: see the text that states it.
-/
import Derived.Test.YtggaihkjnomflaaDoorPrim
import Derived.Test.YtggaihkjnomflaaDoorShelf
import Derived.Test.YtggaihkjnomflaaDoorAm4
set_option linter.all false
namespace Go.Am.D
open Go Go.Am.Pr Go.Proofs
set_option maxRecDepth 100000
theorem get0 {a b:AV} {h:Heap}:(⟨[a,b],h⟩:St).get 0=a:=rfl
theorem get1 {a b:AV} {h:Heap}:(⟨[a,b],h⟩:St).get 1=b:=rfl
theorem bytes_list (l:List Int):(bytesOf l).data.toList=l.map fun z=>z.toNat.toUInt8:=by
 simp [bytesOf]
theorem prim78 (args:List AV) (r:AV) (hg:idxPrim args=some r):hasBody PP 78∧∀ (FB:Nat→Nat→Prop) (w:World) (h:Heap) (ι:Key→Nat) (vs:Array Value),args.length=vs.size→Rel orc FB w ⟨args,h⟩ (tmArgs vs) ι →
  Calls PP 78 vs w fun e w'=>∃ v ι',e=.returned v∧Goes orc FB w ⟨args,h⟩ (tmArgs vs) ι w' ⟨[r],h⟩ (fun _=>v) ι':=by
 unfold idxPrim at hg
 split at hg
 ·rename_i l _ c
  cases hg
  refine ⟨⟨Tryd.f78,Tryd.func78,by kernel_rfl,by kernel_rfl⟩,fun FB w h ι vs hl H=>?_⟩
  obtain ⟨vs⟩:=vs
  match vs,hl with
  | [v1,v2],_=>?_
  have h0:=H.vr 0
  have h1:=H.vr 1
  rw [get0] at h0
  rw [get1] at h1
  simp only [VR] at h0 h1
  have e0:v1=_∧_:=VT.str h0
  have e1:v2=_:=VT.int h1
  have hc:isByte c:=h1.rv.2 rfl
  obtain ⟨rfl,hb⟩:=e0
  subst e1
  refine prim_same H ((Tryd.amIndex _ _ w).mono fun e w' hq=>hq) ?_ rfl
  show VR _ _ (.tv [] (.int .i64) (idxB l c)) _
  rw [idxB_lib l c hb hc,bytes_list]
  exact VT.ofInt _ _ nofun
 ·cases hg
theorem prim70 (args:List AV) (r:AV) (hg:cntPrim args=some r):hasBody PP 70∧∀ (FB:Nat→Nat→Prop) (w:World) (h:Heap) (ι:Key→Nat) (vs:Array Value),args.length=vs.size→Rel orc FB w ⟨args,h⟩ (tmArgs vs) ι →
  Calls PP 70 vs w fun e w'=>∃ v ι',e=.returned v∧Goes orc FB w ⟨args,h⟩ (tmArgs vs) ι w' ⟨[r],h⟩ (fun _=>v) ι':=by
 unfold cntPrim at hg
 split at hg
 ·rename_i l _ m
  split at hg
  ·rename_i c
   cases hg
   refine ⟨⟨Tryd.f70,Tryd.func70,by kernel_rfl,by kernel_rfl⟩,fun FB w h ι vs hl H=>?_⟩
   obtain ⟨vs⟩:=vs
   match vs,hl with
   | [v1,v2],_=>?_
   have h0:=H.vr 0
   have h1:=H.vr 1
   rw [get0] at h0
   rw [get1] at h1
   simp only [VR] at h0 h1
   have e0:v1=_∧_:=VT.str h0
   have e1:v2=_∧_:=VT.str h1
   obtain ⟨rfl,hb⟩:=e0
   obtain ⟨rfl,hc⟩:=e1
   have hc:isByte c:=hc c (List.mem_cons_self ..)
   refine prim_same H ((Tryd.amCount _ c.toNat.toUInt8 w).mono fun e w' hq=>hq) ?_ rfl
   show VR _ _ (.tv [] (.int .i64) (cntB l c)) _
   rw [cntB_lib l c hb hc,bytes_list]
   exact VT.ofInt _ _ nofun
  ·cases hg
 ·cases hg
theorem prim27 (args:List AV) (r:AV) (hg:joinPrim args=some r):hasBody PP 27∧∀ (FB:Nat→Nat→Prop) (w:World) (h:Heap) (ι:Key→Nat) (vs:Array Value),args.length=vs.size→Rel orc FB w ⟨args,h⟩ (tmArgs vs) ι →
  Calls PP 27 vs w fun e w'=>∃ v ι',e=.returned v∧Goes orc FB w ⟨args,h⟩ (tmArgs vs) ι w' ⟨[r],h⟩ (fun _=>v) ι' :=
 join_ok ⟨Tryd.f27,Tryd.func27,by kernel_rfl,by kernel_rfl⟩ Tryd.strings_Join_none Tryd.strings_Join args r hg
end Go.Am.D
