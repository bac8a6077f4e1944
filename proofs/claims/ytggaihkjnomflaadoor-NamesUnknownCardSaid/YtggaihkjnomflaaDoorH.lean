/-
  A part of the proof of a law: see the text that states it.
-/
import Derived.Test.YtggaihkjnomflaaDoorG
set_option linter.all false
namespace Go.Am.D
open Go Go.Am.Pr Go.Am.D.L
set_option maxRecDepth 100000
structure J (s:G):Prop where
  tkN:s.tk.length≤20
  tkD:(s.tk.map (·.1)).Nodup
  tkM:∀ n∈s.tk.map (·.1),Pr.mget s.tm n false=true
  skN:s.sk.length≤4
  lvN:s.lv.length≤10
  lvA:∀ x∈s.lv,x.2.1≠[]∧1≤x.1∧x.1≤3
  lvD:(s.lv.flatMap (·.2.1)).Nodup
  lvM:∀ n∈s.lv.flatMap (·.2.1),Pr.mget s.lm n false=true
  rlN:s.rl.length≤40
  rlL:∀ x∈s.rl,x.1≠[]
  st:s.on=true→s.st≠[]
  lvS:∀ x∈s.lv,x.2.1.length≤5000
structure Mk0 (P:Pos→Prop) (l:List L.Mark):Prop where
 at_:∀ m∈l,P m.2.2.1
 nm:∀ m∈l,m.1=1→m.2.1≠[]
 en:∃ l0 e,l=l0++[e]∧e.1=0
 len:l.length≤5000
def Good (l r:List L.Mark):Prop:=r <:+ l∧r≠[]
section
variable {P:Pos→Prop} {l r:List L.Mark} {s:G} (H:Mk0 P l)
include H
theorem Good.mem (h:Good l r):hd r∈l:=by
 obtain ⟨h1,h2⟩:=h
 cases r with
 | nil=>exact absurd rfl h2
 | cons m r=>rw [hd_cons];exact h1.subset List.mem_cons_self
theorem Good.tail (h:Good l r) (h0:(hd r).1≠0):Good l r.tail:=by
 obtain ⟨h1,h2⟩:=h
 refine ⟨sfx_tl h1,fun e=>?_⟩
 cases r with
 | nil=>exact absurd rfl h2
 | cons m r =>
  simp only [List.tail_cons] at e
  subst e
  obtain ⟨l0,e,rfl,he⟩:=H.en
  obtain ⟨t,ht⟩:=h1
  have:=(List.append_inj' ht rfl).2
  rw [hd_cons] at h0
  cases this
  exact h0 he
end
end Go.Am.D
