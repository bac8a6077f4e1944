/-
  A part of the proof of a law: see the text that states it.
-/
import Derived.Test.YtcggbplapaeedaaDoorF
import Derived.Test.YtcggbplapaeedaaDoorLM
import Derived.Test.YtcggbplapaeedaaDoorVcG
set_option linter.all false
namespace Go.Am.R
open Go Go.Am.Pr Go.Am.R.L
set_option maxRecDepth 100000
theorem texts_ev (l:List qT0) (hl:l.length≤1000000):E 31 [.tv [] qt10 l,.tv [] qt10 l] [] (bv true) []:=by
 refine ev_of (vc31 l l _ ⟨fun h=>by (simp only [decide_eq_true_eq,decide_eq_false_iff_not,Bool.not_eq_true',Bool.not_eq_false'] at h);exact (h rfl).elim,fun _=>?_⟩)
 refine ⟨fun z=>∃ k:Nat,z=(k:Int)∧k≤l.length,fun z=>l.length-z.toNat,⟨0,rfl,Nat.zero_le _⟩,?_⟩
 rintro z ⟨k,rfl,hk⟩
 refine ⟨fun h=>⟨⟨?_⟩,⟨?_⟩,fun q=>by simp at q,fun _=>⟨⟨?_⟩,⟨k+1,rfl,?_⟩,⟨?_⟩⟩⟩,fun h=>⟨rfl,rfl⟩⟩
 all_goals ((simp only [decide_eq_true_eq,decide_eq_false_iff_not,Bool.not_eq_true',Bool.not_eq_false'] at h);(try simp only [Int.toNat_natCast]);(try omega))
structure Fit (a:Gr):Prop where
 tk:a.1.length≤1000000
 sk:a.2.1.length≤1000000
 lv:a.2.2.1.length≤1000000
 rl:a.2.2.2.2.1.length≤1000000
 ln:∀ x∈a.2.2.1,x.2.1.length≤1000000
 rn:∀ x∈a.2.2.2.2.1,x.2.1.length≤1000000
theorem getD_mem' {α:Type} (d:α) (l:List α) (i:Nat) (h:i<l.length):l.getD i d∈l:=by
 rw [List.getD_eq_getElem?_getD,List.getElem?_eq_getElem h,Option.getD_some];exact List.getElem_mem h
theorem same_ev (a:Gr) (f:Fit a):E 17 [.tv [] tGr a,.tv [] tGr a] [] (bv true) []:=by
 obtain ⟨tk,sk,lv,st,rl,u⟩:=a
 obtain ⟨h1,h2,h3,h4,h5,h6⟩:=f
 simp only at h1 h2 h3 h4 h5 h6
 refine ev_of (vc17 tk sk lv st rl tk sk lv st rl _ ?_)
 refine ⟨fun h=>by (simp only [decide_eq_true_eq,decide_eq_false_iff_not,Bool.not_eq_true',Bool.not_eq_false'] at h);exact (h rfl).elim,fun _=>⟨fun h=>by (simp only [decide_eq_true_eq,decide_eq_false_iff_not,Bool.not_eq_true',Bool.not_eq_false'] at h);exact (h rfl).elim,fun _=>⟨fun h=>by (simp only [decide_eq_true_eq,decide_eq_false_iff_not,Bool.not_eq_true',Bool.not_eq_false'] at h);exact (h rfl).elim,fun _=>⟨fun h=>by simp at h,fun _=>⟨fun h=>by (simp only [decide_eq_true_eq,decide_eq_false_iff_not,Bool.not_eq_true',Bool.not_eq_false'] at h);exact (h rfl).elim,fun _=>?_⟩⟩⟩⟩⟩
 refine ⟨fun z=>∃ k:Nat,z=(k:Int)∧k≤tk.length,fun z=>tk.length-z.toNat,⟨0,rfl,Nat.zero_le _⟩,?_⟩
 rintro z ⟨k,rfl,hk⟩
 refine ⟨fun h=>⟨⟨?_⟩,⟨?_⟩,fun q=>by simp at q,fun _=>⟨⟨?_⟩,⟨k+1,rfl,?_⟩,⟨?_⟩⟩⟩,fun _=>?_⟩
 iterate 5 (first | ((simp only [decide_eq_true_eq,decide_eq_false_iff_not,Bool.not_eq_true',Bool.not_eq_false'] at h);(try simp only [Int.toNat_natCast]);omega) | skip)
 refine ⟨fun z=>∃ k:Nat,z=(k:Int)∧k≤sk.length,fun z=>sk.length-z.toNat,⟨0,rfl,Nat.zero_le _⟩,?_⟩
 rintro z ⟨k,rfl,hk⟩
 refine ⟨fun h=>⟨⟨?_⟩,⟨?_⟩,fun q=>by simp at q,fun _=>⟨⟨?_⟩,⟨k+1,rfl,?_⟩,⟨?_⟩⟩⟩,fun _=>?_⟩
 iterate 5 (first | ((simp only [decide_eq_true_eq,decide_eq_false_iff_not,Bool.not_eq_true',Bool.not_eq_false'] at h);(try simp only [Int.toNat_natCast]);omega) | skip)
 refine ⟨fun z=>∃ k:Nat,z=(k:Int)∧k≤lv.length,fun z=>lv.length-z.toNat,⟨0,rfl,Nat.zero_le _⟩,?_⟩
 rintro z ⟨k,rfl,hk⟩
 refine ⟨fun h=>⟨⟨?_⟩,⟨?_⟩,fun q=>by simp at q,fun _=>⟨⟨?_⟩,⟨?_⟩,true,⟨?_⟩,fun q=>by simp at q,fun _=>⟨⟨?_⟩,⟨k+1,rfl,?_⟩,⟨?_⟩⟩⟩⟩,fun _=>?_⟩
 iterate 4 (first | ((simp only [decide_eq_true_eq,decide_eq_false_iff_not,Bool.not_eq_true',Bool.not_eq_false'] at h);(try simp only [Int.toNat_natCast]);omega) | skip)
 ·(simp only [decide_eq_true_eq,decide_eq_false_iff_not,Bool.not_eq_true',Bool.not_eq_false'] at h);exact texts_ev _ (h5 _ (getD_mem' _ _ _ (by simp only [Int.toNat_natCast];omega)))
 iterate 3 (first | ((simp only [decide_eq_true_eq,decide_eq_false_iff_not,Bool.not_eq_true',Bool.not_eq_false'] at h);(try simp only [Int.toNat_natCast]);omega) | skip)
 refine ⟨fun z=>∃ k:Nat,z=(k:Int)∧k≤rl.length,fun z=>rl.length-z.toNat,⟨0,rfl,Nat.zero_le _⟩,?_⟩
 rintro z ⟨k,rfl,hk⟩
 refine ⟨fun h=>⟨⟨?_⟩,⟨?_⟩,fun q=>by simp at q,fun _=>⟨fun q=>by simp at q,fun _=>⟨fun q=>by simp at q,fun _=>⟨true,⟨?_⟩,fun q=>by simp at q,fun _=>⟨⟨?_⟩,⟨k+1,rfl,?_⟩,⟨?_⟩⟩⟩⟩⟩⟩,fun _=>⟨rfl,rfl⟩⟩
 iterate 2 (first | ((simp only [decide_eq_true_eq,decide_eq_false_iff_not,Bool.not_eq_true',Bool.not_eq_false'] at h);(try simp only [Int.toNat_natCast]);omega) | skip)
 ·(simp only [decide_eq_true_eq,decide_eq_false_iff_not,Bool.not_eq_true',Bool.not_eq_false'] at h);exact texts_ev _ (h6 _ (getD_mem' _ _ _ (by simp only [Int.toNat_natCast];omega)))
 all_goals ((simp only [decide_eq_true_eq,decide_eq_false_iff_not,Bool.not_eq_true',Bool.not_eq_false'] at h);(try simp only [Int.toNat_natCast]);omega)
end Go.Am.R
