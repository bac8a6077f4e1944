/-
  A part of the proof of a law: see the text that states it.
-/
import Derived.Test.YtggaihkjnomflaaGreatDoorPrim
import Derived.Test.YtggaihkjnomflaaGreatDoorShelf
import Derived.Test.YtggaihkjnomflaaGreatDoorAm4
set_option linter.all false
namespace Go.Am.N
open Go Go.Am.Pr Go.Proofs
set_option maxRecDepth 100000
theorem uzZ {a b:AV} {h:adZ}:(⟨[a,b],h⟩:St).get 0=a:=rfl
theorem uxZ {a b:AV} {h:adZ}:(⟨[a,b],h⟩:St).get 1=b:=rfl
theorem hsZ (l:List Int):(agZ l).data.toList=l.map fun z=>z.toNat.toUInt8:=by
 simp [agZ]
theorem tJZ (args:List AV) (r:AV) (hg:iAZ args=some r):cqZ PP 91∧∀ (FB:Nat→Nat→Prop) (w:World) (h:adZ) (ι:Key→Nat) (vs:Array Value),args.length=vs.size→Rel orc FB w ⟨args,h⟩ (aCZ vs) ι →
  Calls PP 91 vs w fun e w'=>∃ v ι',e=.returned v∧Goes orc FB w ⟨args,h⟩ (aCZ vs) ι w' ⟨[r],h⟩ (fun _=>v) ι':=by
 unfold iAZ at hg
 split at hg
 ·rename_i l _ c
  cases hg
  refine ⟨⟨Tryz.f91,Tryz.func91,by kernel_rfl,by kernel_rfl⟩,fun FB w h ι vs hl H=>?_⟩
  obtain ⟨vs⟩:=vs
  match vs,hl with
  | [v1,v2],_=>?_
  have h0:=H.vr 0
  have h1:=H.vr 1
  rw [uzZ] at h0
  rw [uxZ] at h1
  simp only [VR] at h0 h1
  have e0:v1=_∧_:=VT.str h0
  have e1:v2=_:=VT.int h1
  have hc:avZ c:=h1.rv.2 rfl
  obtain ⟨rfl,hb⟩:=e0
  subst e1
  refine jPZ H ((Tryz.amIndex _ _ w).mono fun e w' hq=>hq) ?_ rfl
  show VR _ _ (.tv [] (.int .i64) (idxB l c)) _
  rw [l7Z l c hb hc,hsZ]
  exact VT.ofInt _ _ nofun
 ·cases hg
theorem tcZ (args:List AV) (r:AV) (hg:iTZ args=some r):cqZ PP 81∧∀ (FB:Nat→Nat→Prop) (w:World) (h:adZ) (ι:Key→Nat) (vs:Array Value),args.length=vs.size→Rel orc FB w ⟨args,h⟩ (aCZ vs) ι →
  Calls PP 81 vs w fun e w'=>∃ v ι',e=.returned v∧Goes orc FB w ⟨args,h⟩ (aCZ vs) ι w' ⟨[r],h⟩ (fun _=>v) ι':=by
 unfold iTZ at hg
 split at hg
 ·rename_i l _ m
  split at hg
  ·rename_i c
   cases hg
   refine ⟨⟨Tryz.f81,Tryz.func81,by kernel_rfl,by kernel_rfl⟩,fun FB w h ι vs hl H=>?_⟩
   obtain ⟨vs⟩:=vs
   match vs,hl with
   | [v1,v2],_=>?_
   have h0:=H.vr 0
   have h1:=H.vr 1
   rw [uzZ] at h0
   rw [uxZ] at h1
   simp only [VR] at h0 h1
   have e0:v1=_∧_:=VT.str h0
   have e1:v2=_∧_:=VT.str h1
   obtain ⟨rfl,hb⟩:=e0
   obtain ⟨rfl,hc⟩:=e1
   have hc:avZ c:=hc c (List.mem_cons_self ..)
   refine jPZ H ((Tryz.amCount _ c.toNat.toUInt8 w).mono fun e w' hq=>hq) ?_ rfl
   show VR _ _ (.tv [] (.int .i64) (cntB l c)) _
   rw [mlZ l c hb hc,hsZ]
   exact VT.ofInt _ _ nofun
  ·cases hg
 ·cases hg
theorem tRZ (args:List AV) (r:AV) (hg:dZZ args=some r):cqZ PP 36∧∀ (FB:Nat→Nat→Prop) (w:World) (h:adZ) (ι:Key→Nat) (vs:Array Value),args.length=vs.size→Rel orc FB w ⟨args,h⟩ (aCZ vs) ι →
  Calls PP 36 vs w fun e w'=>∃ v ι',e=.returned v∧Goes orc FB w ⟨args,h⟩ (aCZ vs) ι w' ⟨[r],h⟩ (fun _=>v) ι' :=
 rAZ ⟨Tryz.f36,Tryz.func36,by kernel_rfl,by kernel_rfl⟩ Tryz.strings_Join_none Tryz.strings_Join args r hg
end Go.Am.N
