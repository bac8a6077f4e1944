/-
  A part of the proof of a law: see the text that states it.
-/
import Derived.Test.YtggaihkjnomflaaDoorPU
set_option linter.all false
namespace Go.Am.D
open Go Go.Am.Pr Go.Am.D.L
open Go.Am.G (GoodG toks vrs lvs tSm Sml SmOK gramOf gramOf_good gramOf_good7 isBy)
set_option maxRecDepth 100000
theorem unknown (s:Sml) (a:Int) (tok:Bool) (hi:InR tSm s) (ha:0≤a∧a<256):E 6 [.tv [] tSm s,.tv [] (.int .u8) a,bv tok] [] (bv true) []:=by
  have hf:=fewS_ev s 20 7 (sm_lenu hi)
  cases hb:fewS s 20 7 with
  | false =>
    rw [hb] at hf
    obtain ⟨x0,x1,a2,a3,a4,a5,a6,⟨⟩⟩:=s
    exact ev_of (vc6 x0 x1 a2 a3 a4 a5 a6 a tok _ ⟨true,⟨awake8_ev⟩,_,⟨hf⟩,fun _=>⟨rfl,rfl⟩,fun q=>absurd q (by decide)⟩)
  | true =>
  rw [hb] at hf
  obtain ⟨f1,f2,f3⟩:=fewS_u hb
  have hok:=smOKu hi ⟨f1,f2,fun x hx=>Nat.le_trans (f3 x hx) (by decide)⟩
  have hg:=gram_is hok
  obtain ⟨t,l,r,e,h,h7⟩:=gramOf_good7 s hok
  have h8:∀ x∈r,x.2.1.length≤7:=h7 f3
  rw [e] at hg
  clear e hok hb hi h7 f1 f2 f3
  obtain ⟨x0,x1,a2,a3,a4,a5,a6,⟨⟩⟩:=s
  have hn1:=h.rn.1
  have hn2:=h.rn.2
  have ht5:=h.tn
  have hbn:1000000<bigN:=by decide
  have hz:=Go.Am.G.tm (x:=a) (n:=(r.length:Int)) ha.1 (by omega)
  refine ev_of (vc6 x0 x1 a2 a3 a4 a5 a6 a tok _ ⟨true,⟨awake8_ev⟩,_,⟨hf⟩,fun q=>absurd q (by decide),fun _=>⟨t,[],l,[83],r,⟨hg⟩,?_⟩⟩)
  clear hf hg
  generalize Int.tmod a (r.length:Int)=z at hz ⊢
  obtain ⟨k,rfl⟩:∃ k:Nat,z=k:=⟨z.toNat,by omega⟩
  have hk:k<r.length:=by omega
  have hm:=getD_mem' rl0 r k hk
  refine ⟨⟨by omega⟩,⟨by omega⟩,⟨fun q=>absurd q.1 (by decide)⟩,fun _=>?_,fun _=>?_⟩
  · have hmm:(r.getD k rl0).1∈r.map (·.1):=List.mem_map.2 ⟨_,hm,rfl⟩
    have O:=of_ev _ (few_dup h hmm)
    rw [of_dup h hmm] at O
    rw [Int.toNat_natCast]
    refine ⟨⟨by omega⟩,⟨by omega⟩,⟨?_⟩,[],[],[],[],[],[],15,(r.getD k rl0).1,⟨O⟩,fun _=>⟨fun _=>⟨⟨by omega⟩,tvB (decide_eq_true rfl),rfl⟩,fun q=>absurd q (by decide)⟩,fun q=>absurd q (by decide)⟩
    rw [List.nil_append,List.length_singleton];omega
  · have hl7:=h8 _ hm
    have O:=of_ev _ (few_zz h hk)
    rw [of_zz h hk hl7] at O
    have T:=texts_ev [] (Nat.zero_le _)
    simp only [Int.toNat_natCast,List.take_nil,List.nil_append,Nat.zero_add]
    refine ⟨⟨by exact ⟨trivial,Nat.le_refl _,by omega,by omega⟩⟩,⟨by omega⟩,⟨trivial⟩,⟨by omega⟩,⟨trivial⟩,⟨by omega⟩,⟨?_⟩,⟨?_⟩,⟨by omega⟩,⟨trivial⟩,⟨by omega⟩,⟨trivial⟩,⟨by omega⟩,⟨by simp⟩,[],[],[],[],[],[],16,zzN,⟨O⟩,fun _=>⟨fun _=>⟨fun _=>⟨true,⟨T⟩,rfl,trivial⟩,fun q=>absurd q (by decide)⟩,fun q=>absurd q (by decide)⟩,fun q=>absurd q (by decide)⟩
    · have:(List.getD r k ([],[],[],[],())).2.1.length≤7:=hl7
      omega
    · have:(List.getD r k ([],[],[],[],())).2.1.length≤7:=hl7
      omega
end Go.Am.D
