/-
  A part of the proof of a law: see the text that states it.
-/
import Derived.Test.YtggaihkjnomflaaDoorF
import Derived.Test.YtggaihkjnomflaaDoorLM
import Derived.Test.YtggaihkjnomflaaDoorVcI
set_option linter.all false
namespace Go.Am.D
open Go Go.Am.Pr Go.Am.D.L
set_option maxRecDepth 100000
theorem texts_ev (l:List qT0) (hl:l.length≤1000000):E 17 [.tv [] qt9 l,.tv [] qt9 l] [] (bv true) []:=by
 refine ev_of (vc17 l l _ ⟨fun h=>by (simp only [decide_eq_true_eq,decide_eq_false_iff_not,Bool.not_eq_true',Bool.not_eq_false'] at h);exact (h rfl).elim,fun _=>?_⟩)
 refine ⟨fun z=>∃ k:Nat,z=(k:Int)∧k≤l.length,fun z=>l.length-z.toNat,⟨0,rfl,Nat.zero_le _⟩,?_⟩
 rintro z ⟨k,rfl,hk⟩
 refine ⟨fun h=>⟨⟨?_⟩,⟨?_⟩,fun q=>by simp at q,fun _=>⟨⟨?_⟩,⟨k+1,rfl,?_⟩,⟨?_⟩⟩⟩,fun h=>⟨rfl,rfl⟩⟩
 all_goals ((simp only [decide_eq_true_eq,decide_eq_false_iff_not,Bool.not_eq_true',Bool.not_eq_false'] at h);(try simp only [Int.toNat_natCast]);(try omega))
structure Fit (a:Gr):Prop where
 tk:a.1.length≤1000000
 sk:a.2.1.length≤1000000
 lv:a.2.2.1.length≤1000000
 rl:a.2.2.2.2.1.length≤1000000
 ln:∀ x∈a.2.2.1,x.2.1.length≤1000000
 rn:∀ x∈a.2.2.2.2.1,x.2.1.length≤1000000
theorem getD_mem' {α:Type} (d:α) (l:List α) (i:Nat) (h:i<l.length):l.getD i d∈l:=by
 rw [List.getD_eq_getElem?_getD,List.getElem?_eq_getElem h,Option.getD_some];exact List.getElem_mem h
end Go.Am.D
