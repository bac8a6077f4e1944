/-
  A part of the proof of a law: see the text that states it.
-/
import Derived.Test.YtcggbplapaeedaaDoorZH
import Derived.Test.YtcggbplapaeedaaDoorVcN
set_option linter.all false
namespace Go.Am.R
open Go Go.Am.Pr Go.Am.R.L
set_option maxRecDepth 100000
theorem rightO_iff (g:Gr):rightO g=true↔((∀ t∈g.1,patO t.2.1=true)∧g.1.length≤20∧onceO (g.1.map (·.1))=true)∧((∀ x∈g.2.2.1,lvO1 x=true)∧g.2.2.1.length≤10∧onceO (g.2.2.1.flatMap (·.2.1))=true)∧g.2.1.length≤4∧(∀ p∈g.2.1,patO p=true)∧nameO g.2.2.2.1=true∧0<g.2.2.2.2.1.length∧g.2.2.2.2.1.length≤40∧∀ r∈g.2.2.2.2.1,rulO r=true:=by
 simp only [rightO,tokO,lvO,Bool.and_eq_true,decide_eq_true_eq,List.all_eq_true]
theorem rright_ev (g:Gr) (hg:Bd g 1048576) (hb:ByG g):E 27 [.tv [] tGr g] [] (bv (rightO g)) []:=by
  have hR:=rightO_iff g
  obtain ⟨tk,sk,lv,st,rl,⟨⟩⟩:=g
  have f1:=hg.tk
  have f2:=hg.tks
  have f3:=hg.sk
  have f4:=hg.sks
  have f5:=hg.lv
  have f6:=hg.lvs
  have f7:=hg.rl
  have b1:=hb.tk
  have b3:=hb.lv
  have b4:=hb.st
  have b5:=hb.rl
  dsimp only at f1 f2 f3 f4 f5 f6 f7 b1 b3 b4 b5 hR
  generalize hRv:rightO (tk,(sk,(lv,(st,(rl,())))))=R at hR
  clear hRv hg hb
  have no:(R=true→False)→R=false:=fun h=>by cases R with | false=>rfl | true=>exact (h rfl).elim
  have hbig:(1000000000:Nat)≤bigN:=by decide
  refine ev_of (vc27 tk sk lv st rl _ ?_)
  generalize bigN=big at hbig ⊢
  refine ⟨fun h=>⟨tvB (no fun q=>?_).symm,rfl⟩,fun h=>⟨fun h'=>⟨tvB (no fun q=>?_).symm,rfl⟩,fun h'=>⟨fun h''=>⟨tvB (no fun q=>?_).symm,rfl⟩,fun h''=>⟨fun h3=>⟨tvB (no fun q=>?_).symm,rfl⟩,fun h3=>⟨fun h4=>⟨tvB (no fun q=>?_).symm,rfl⟩,fun h4=>⟨_,⟨rnameO_ev st b4⟩,fun h5=>⟨tvB (no fun q=>?_).symm,rfl⟩,fun h5=>?_⟩⟩⟩⟩⟩⟩
  · (simp only [decide_eq_true_eq,decide_eq_false_iff_not,Bool.not_eq_true',Bool.not_eq_false'] at h);have:=hR.1 q;omega
  · (simp only [decide_eq_true_eq,decide_eq_false_iff_not,Bool.not_eq_true',Bool.not_eq_false'] at h');have:=hR.1 q;omega
  · (simp only [decide_eq_true_eq,decide_eq_false_iff_not,Bool.not_eq_true',Bool.not_eq_false'] at h'');have:=hR.1 q;omega
  · (simp only [decide_eq_true_eq,decide_eq_false_iff_not,Bool.not_eq_true',Bool.not_eq_false'] at h3);have:=hR.1 q;omega
  · (simp only [decide_eq_true_eq,decide_eq_false_iff_not,Bool.not_eq_true',Bool.not_eq_false'] at h4);have:=hR.1 q;omega
  · (simp only [decide_eq_true_eq,decide_eq_false_iff_not,Bool.not_eq_true',Bool.not_eq_false'] at h5);have:=(hR.1 q).2.2.2.2.1;rw [h5] at this;cases this
  (simp only [decide_eq_true_eq,decide_eq_false_iff_not,Bool.not_eq_true',Bool.not_eq_false'] at h h' h'' h3 h4 h5)
  refine ⟨fun ns z=>∃ k:Nat,z=k∧k≤tk.length∧ns=(tk.take k).map (·.1)∧(tk.take k).all (fun t=>patO t.2.1)=true,fun _ z=>((tk.length:Int)-z).toNat,⟨0,rfl,by omega,rfl,rfl⟩,?_⟩
  rintro ns z ⟨k,rfl,hk,rfl,hv⟩
  have hlen:((tk.take k).map (·.1)).length=k:=by rw [List.length_map,List.length_take];omega
  refine ⟨fun g1=>?_,fun g1=>?_⟩
  · (simp only [decide_eq_true_eq,decide_eq_false_iff_not,Bool.not_eq_true',Bool.not_eq_false'] at g1)
    have hk':k<tk.length:=by omega
    have hm:=getD_mem' (([]:List Int),(([],([],(false,()))),())) tk _ hk'
    have q0:=sumM_mem fTk hm
    unfold fTk at q0
    have q1:(tk.getD k (([]:List Int),(([],([],(false,()))),()))).2.1.2.1.length≤1048576:=by unfold fTk at f2;omega
    rw [Int.toNat_natCast]
    refine ⟨⟨by omega⟩,⟨by rw [hlen,List.length_singleton];omega⟩,⟨by omega⟩,_,⟨rpatO_ev _ (by omega)⟩,fun g2=>⟨tvB (no fun q=>?_).symm,rfl⟩,fun g2=>⟨⟨by omega⟩,⟨k+1,by omega,by omega,?_,?_⟩,⟨by ((try dsimp only);omega)⟩⟩⟩
    · (simp only [decide_eq_true_eq,decide_eq_false_iff_not,Bool.not_eq_true',Bool.not_eq_false'] at g2)
      have:=(hR.1 q).1.1 _ hm;rw [g2] at this;cases this
    · rw [take_snoc (([]:List Int),(([],([],(false,()))),())) hk',List.map_append];rfl
    · (simp only [decide_eq_true_eq,decide_eq_false_iff_not,Bool.not_eq_true',Bool.not_eq_false'] at g2)
      rw [take_snoc (([]:List Int),(([],([],(false,()))),())) hk',all_snoc,hv,g2];rfl
  (simp only [decide_eq_true_eq,decide_eq_false_iff_not,Bool.not_eq_true',Bool.not_eq_false'] at g1)
  rw [show tk.take k=tk from List.take_of_length_le (by omega)] at hv hlen ⊢
  have t1:=List.all_eq_true.1 hv
  clear hv g1 hk hlen k
  refine ⟨fun z=>∃ k:Nat,z=k∧k≤sk.length∧(sk.take k).all patO=true,fun z=>((sk.length:Int)-z).toNat,⟨0,rfl,by omega,rfl⟩,?_⟩
  rintro z ⟨k,rfl,hk,hv⟩
  refine ⟨fun g1=>?_,fun g1=>?_⟩
  · (simp only [decide_eq_true_eq,decide_eq_false_iff_not,Bool.not_eq_true',Bool.not_eq_false'] at g1)
    have hk':k<sk.length:=by omega
    have hm:=getD_mem' (([]:List Int),(([]:List Int),(false,()))) sk _ hk'
    have q0:=sumM_mem fSk hm
    unfold fSk at q0
    have q1:(sk.getD k (([]:List Int),(([]:List Int),(false,())))).2.1.length≤1048576:=by unfold fSk at f4;omega
    rw [Int.toNat_natCast]
    refine ⟨⟨by omega⟩,_,⟨rpatO_ev _ (by omega)⟩,fun g2=>⟨tvB (no fun q=>?_).symm,rfl⟩,fun g2=>⟨⟨by omega⟩,⟨k+1,by omega,by omega,?_⟩,⟨by ((try dsimp only);omega)⟩⟩⟩
    · (simp only [decide_eq_true_eq,decide_eq_false_iff_not,Bool.not_eq_true',Bool.not_eq_false'] at g2)
      have:=(hR.1 q).2.2.2.1 _ hm;rw [g2] at this;cases this
    · (simp only [decide_eq_true_eq,decide_eq_false_iff_not,Bool.not_eq_true',Bool.not_eq_false'] at g2)
      rw [take_snoc (([]:List Int),(([]:List Int),(false,()))) hk',all_snoc,hv,g2];rfl
  (simp only [decide_eq_true_eq,decide_eq_false_iff_not,Bool.not_eq_true',Bool.not_eq_false'] at g1)
  rw [show sk.take k=sk from List.take_of_length_le (by omega)] at hv
  have t2:=List.all_eq_true.1 hv
  clear hv g1 hk k
  have hlen:∀ j,((lv.take j).flatMap (·.2.1)).length≤1048576:=by
    intro j
    have key:∀ l:List Lv,(l.flatMap (·.2.1)).length≤sumM fLv l:=by
      intro l
      induction l with
      | nil=>exact Nat.zero_le _
      | cons x l ih =>
        have:x.2.1.length≤nmW x.2.1:=sumM_len (fun x:List Int=>x.length+1) x.2.1 fun _ _=>by omega
        rw [List.flatMap_cons,List.length_append,sumM_cons]
        have fe:fLv x=nmW x.2.1:=rfl
        omega
    have:=key (lv.take j)
    have:=sumM_take fLv lv j
    omega
  refine ⟨fun ns z=>∃ k:Nat,z=k∧k≤lv.length∧ns=(lv.take k).flatMap (·.2.1)∧(lv.take k).all lvO1=true,fun _ z=>((lv.length:Int)-z).toNat,⟨0,rfl,by omega,rfl,rfl⟩,?_⟩
  rintro ns z ⟨k,rfl,hk,rfl,hv⟩
  refine ⟨fun g1=>?_,fun g1=>?_⟩
  · (simp only [decide_eq_true_eq,decide_eq_false_iff_not,Bool.not_eq_true',Bool.not_eq_false'] at g1)
    have hk':k<lv.length:=by omega
    have hm:=getD_mem' ((0:Int),(([]:List qT0),())) lv _ hk'
    have es:((lv.take (k+1)).flatMap (·.2.1))=(lv.take k).flatMap (·.2.1)++(lv.getD k ((0:Int),(([]:List qT0),()))).2.1:=by
      rw [take_snoc ((0:Int),(([]:List qT0),())) hk',List.flatMap_append];simp
    have hs:=hlen (k+1)
    rw [es,List.length_append] at hs
    rw [Int.toNat_natCast]
    refine ⟨⟨by omega⟩,⟨by omega⟩,fun g2=>⟨tvB (no fun q=>?_).symm,rfl⟩,fun g2=>⟨fun g3=>⟨tvB (no fun q=>?_).symm,rfl⟩,fun g3=>⟨fun g4=>⟨tvB (no fun q=>?_).symm,rfl⟩,fun g4=>⟨⟨by omega⟩,⟨k+1,by omega,by omega,es.symm,?_⟩,⟨by ((try dsimp only);omega)⟩⟩⟩⟩⟩
    · (simp only [decide_eq_true_eq,decide_eq_false_iff_not,Bool.not_eq_true',Bool.not_eq_false'] at g2)
      have:=(hR.1 q).2.1.1 _ hm
      simp only [lvO1,Bool.and_eq_true,decide_eq_true_eq] at this
      omega
    · (simp only [decide_eq_true_eq,decide_eq_false_iff_not,Bool.not_eq_true',Bool.not_eq_false'] at g3)
      have:=(hR.1 q).2.1.1 _ hm
      simp only [lvO1,Bool.and_eq_true,decide_eq_true_eq] at this
      omega
    · (simp only [decide_eq_true_eq,decide_eq_false_iff_not,Bool.not_eq_true',Bool.not_eq_false'] at g4)
      have:=(hR.1 q).2.1.1 _ hm
      simp only [lvO1,Bool.and_eq_true,decide_eq_true_eq,Bool.not_eq_true',decide_eq_false_iff_not] at this
      exact this.2 (List.length_eq_zero_iff.1 (by omega))
    · (simp only [decide_eq_true_eq,decide_eq_false_iff_not,Bool.not_eq_true',Bool.not_eq_false'] at g2 g3 g4)
      have h5:(lv.getD k ((0:Int),(([]:List qT0),()))).2.1≠[]:=fun q=>g4 (by rw [q];rfl)
      rw [take_snoc ((0:Int),(([]:List qT0),())) hk',all_snoc,hv,lvO1,decide_eq_true (by omega),decide_eq_true (p:=_≤3) (by omega),decide_eq_false h5];rfl
  (simp only [decide_eq_true_eq,decide_eq_false_iff_not,Bool.not_eq_true',Bool.not_eq_false'] at g1)
  have hlv:=hlen k
  rw [show lv.take k=lv from List.take_of_length_le (by omega)] at hv hlv ⊢
  have t3:=List.all_eq_true.1 hv
  clear hv g1 hk k hlen
  refine ⟨fun z=>∃ k:Nat,z=k∧k≤rl.length∧(rl.take k).all rulO=true,fun z=>((rl.length:Int)-z).toNat,⟨0,rfl,by omega,rfl⟩,?_⟩
  rintro z ⟨k,rfl,hk,hv⟩
  refine ⟨fun g1=>?_,fun g1=>?_⟩
  · (simp only [decide_eq_true_eq,decide_eq_false_iff_not,Bool.not_eq_true',Bool.not_eq_false'] at g1)
    have hk':k<rl.length:=by omega
    rw [Int.toNat_natCast]
    have hm:=getD_mem' (([]:List Int),(([]:List qT0),(([]:List Int),(([]:List Int),())))) rl _ hk'
    have hbr:=b5 _ hm
    generalize hr:rl.getD k (([]:List Int),(([]:List qT0),(([]:List Int),(([]:List Int),()))))=r at hm hbr ⊢
    have bad:((∀ r∈rl,rulO r=true)→False)→R=false:=fun h=>no fun q=>h (hR.1 q).2.2.2.2.2.2.2
    refine ⟨⟨by omega⟩,_,⟨rnameO_ev _ hbr.1⟩,fun g2=>⟨tvB ?_,rfl⟩,fun g2=>⟨fun g3=>⟨tvB ?_,rfl⟩,fun g3=>⟨fun g4=>⟨_,⟨rnameO_ev _ hbr.2.2.1⟩,fun g5=>⟨tvB ?_,rfl⟩,fun g5=>⟨_,⟨ractO_ev _⟩,fun g6=>⟨tvB ?_,rfl⟩,fun g6=>?_⟩⟩,fun g4=>⟨_,⟨ractO_ev _⟩,fun g6=>⟨tvB ?_,rfl⟩,fun g6=>?_⟩⟩⟩⟩
    · (simp only [decide_eq_true_eq,decide_eq_false_iff_not,Bool.not_eq_true',Bool.not_eq_false'] at g2)
      refine (bad fun q=>?_).symm
      have:=(rulO_split (q r hm)).1
      rw [g2] at this;cases this
    · (simp only [decide_eq_true_eq,decide_eq_false_iff_not,Bool.not_eq_true',Bool.not_eq_false'] at g3)
      refine (bad fun q=>?_).symm
      have:=(rulO_split (q r hm)).2.1
      omega
    · (simp only [decide_eq_true_eq,decide_eq_false_iff_not,Bool.not_eq_true',Bool.not_eq_false'] at g5)
      simp only [Bool.not_eq_true',decide_eq_false_iff_not] at g4
      refine (bad fun q=>?_).symm
      have:=(rulO_split (q r hm)).2.2.2.1
      rcases this with q1 | q1
      · exact g4 q1
      · rw [g5] at q1;cases q1
    · (simp only [decide_eq_true_eq,decide_eq_false_iff_not,Bool.not_eq_true',Bool.not_eq_false'] at g6)
      refine (bad fun q=>?_).symm
      have:=(rulO_split (q r hm)).2.2.2.2
      rw [g6] at this;cases this
    · (simp only [decide_eq_true_eq,decide_eq_false_iff_not,Bool.not_eq_true',Bool.not_eq_false'] at g2 g3 g5 g6)
      simp only [Bool.not_eq_true',decide_eq_false_iff_not] at g4
      have h1:=g2
      have h2n:r.2.1.length≤8:=by omega
      have h2:decide (r.2.1.length≤8)=true:=decide_eq_true h2n
      have h5:=g6
      have h4:(decide (r.2.2.1=[])||nameO r.2.2.1)=true:=by rw [g5,Bool.or_true]
      clear g2 g3 g6
      refine ⟨fun j a b c d=>∃ i:Nat,j=i∧i≤r.2.1.length∧b=r.2.1∧(r.2.1.take i).all nameO=true,fun j _ _ _ _=>((r.2.1.length:Int)-j).toNat,⟨0,rfl,by omega,rfl,rfl⟩,?_⟩
      rintro j a b c d ⟨i,rfl,hi,rfl,hi2⟩
      refine ⟨fun g1=>?_,fun g1=>?_⟩
      · (simp only [decide_eq_true_eq,decide_eq_false_iff_not,Bool.not_eq_true',Bool.not_eq_false'] at g1)
        have hi':i<r.2.1.length:=by omega
        rw [Int.toNat_natCast]
        refine ⟨⟨by omega⟩,_,⟨rnameO_ev _ (hbr.2.1 _ (getD_mem' _ _ _ hi'))⟩,fun g2=>⟨tvB ?_,rfl⟩,fun g2=>⟨⟨by omega⟩,⟨i+1,by omega,by omega,rfl,?_⟩,⟨by ((try dsimp only);omega)⟩⟩⟩
        · (simp only [decide_eq_true_eq,decide_eq_false_iff_not,Bool.not_eq_true',Bool.not_eq_false'] at g2)
          refine (bad fun q=>?_).symm
          have:=(rulO_split (q r hm)).2.2.1
          rw [all_take_false hi' g2] at this
          cases this
        · (simp only [decide_eq_true_eq,decide_eq_false_iff_not,Bool.not_eq_true',Bool.not_eq_false'] at g2)
          rw [take_snoc ([]:List Int) hi',all_snoc,hi2,g2];rfl
      · (simp only [decide_eq_true_eq,decide_eq_false_iff_not,Bool.not_eq_true',Bool.not_eq_false'] at g1)
        rw [List.take_of_length_le (by omega)] at hi2
        refine ⟨⟨by omega⟩,⟨k+1,by omega,by omega,?_⟩,⟨by ((try dsimp only);omega)⟩⟩
        rw [take_snoc (([]:List Int),(([]:List qT0),(([]:List Int),(([]:List Int),())))) hk',all_snoc,hv,hr]
        unfold rulO
        rw [h1,h2,hi2,h4,h5];rfl
    · (simp only [decide_eq_true_eq,decide_eq_false_iff_not,Bool.not_eq_true',Bool.not_eq_false'] at g6)
      refine (bad fun q=>?_).symm
      have:=(rulO_split (q r hm)).2.2.2.2
      rw [g6] at this;cases this
    · (simp only [decide_eq_true_eq,decide_eq_false_iff_not,Bool.not_eq_true',Bool.not_eq_false'] at g2 g3 g6)
      simp only [Bool.not_eq_false',decide_eq_true_eq] at g4
      have h1:=g2
      have h2n:r.2.1.length≤8:=by omega
      have h2:decide (r.2.1.length≤8)=true:=decide_eq_true h2n
      have h5:=g6
      have h4:(decide (r.2.2.1=[])||nameO r.2.2.1)=true:=by rw [decide_eq_true g4,Bool.true_or]
      clear g2 g3 g6
      refine ⟨fun j a b c d=>∃ i:Nat,j=i∧i≤r.2.1.length∧b=r.2.1∧(r.2.1.take i).all nameO=true,fun j _ _ _ _=>((r.2.1.length:Int)-j).toNat,⟨0,rfl,by omega,rfl,rfl⟩,?_⟩
      rintro j a b c d ⟨i,rfl,hi,rfl,hi2⟩
      refine ⟨fun g1=>?_,fun g1=>?_⟩
      · (simp only [decide_eq_true_eq,decide_eq_false_iff_not,Bool.not_eq_true',Bool.not_eq_false'] at g1)
        have hi':i<r.2.1.length:=by omega
        rw [Int.toNat_natCast]
        refine ⟨⟨by omega⟩,_,⟨rnameO_ev _ (hbr.2.1 _ (getD_mem' _ _ _ hi'))⟩,fun g2=>⟨tvB ?_,rfl⟩,fun g2=>⟨⟨by omega⟩,⟨i+1,by omega,by omega,rfl,?_⟩,⟨by ((try dsimp only);omega)⟩⟩⟩
        · (simp only [decide_eq_true_eq,decide_eq_false_iff_not,Bool.not_eq_true',Bool.not_eq_false'] at g2)
          refine (bad fun q=>?_).symm
          have:=(rulO_split (q r hm)).2.2.1
          rw [all_take_false hi' g2] at this
          cases this
        · (simp only [decide_eq_true_eq,decide_eq_false_iff_not,Bool.not_eq_true',Bool.not_eq_false'] at g2)
          rw [take_snoc ([]:List Int) hi',all_snoc,hi2,g2];rfl
      · (simp only [decide_eq_true_eq,decide_eq_false_iff_not,Bool.not_eq_true',Bool.not_eq_false'] at g1)
        rw [List.take_of_length_le (by omega)] at hi2
        refine ⟨⟨by omega⟩,⟨k+1,by omega,by omega,?_⟩,⟨by ((try dsimp only);omega)⟩⟩
        rw [take_snoc (([]:List Int),(([]:List qT0),(([]:List Int),(([]:List Int),())))) hk',all_snoc,hv,hr]
        unfold rulO
        rw [h1,h2,hi2,h4,h5];rfl
  (simp only [decide_eq_true_eq,decide_eq_false_iff_not,Bool.not_eq_true',Bool.not_eq_false'] at g1)
  rw [show rl.take k=rl from List.take_of_length_le (by omega)] at hv
  have t4:=List.all_eq_true.1 hv
  have n1:ByN (tk.map (·.1)):=fun s hs=>by
    obtain ⟨t,ht,rfl⟩:=List.mem_map.1 hs
    exact b1 t ht
  have n2:ByN (lv.flatMap (·.2.1)):=fun s hs=>by
    obtain ⟨x,hx,hs⟩:=List.mem_flatMap.1 hs
    exact b3 x hx s hs
  refine ⟨_,⟨ronce_ev _ (by rw [List.length_map];omega) n1⟩,fun g2=>⟨_,⟨ronce_ev _ (by omega) n2⟩,tvB ?_,rfl⟩,fun g2=>⟨tvB (no fun q=>?_).symm,rfl⟩⟩
  · cases ho:onceO (lv.flatMap (·.2.1)) with
    | false=>exact (no fun q=>by have:=(hR.1 q).2.1.2.2;rw [ho] at this;cases this).symm
    | true=>exact (hR.2 ⟨⟨t1,by omega,g2⟩,⟨t3,by omega,ho⟩,by omega,t2,h5,by omega,by omega,t4⟩).symm
  · have:=(hR.1 q).1.2.2;rw [g2] at this;cases this
end Go.Am.R
namespace Go.Am.R
open Go Go.Am.Pr Go.Am.R.L
set_option maxRecDepth 100000
theorem tkLine_eq (t:Tk):tkLine t=[37,116,111,107,101,110,32]++t.1++[32]++patT t.2.1++[10]:=by
 unfold tkLine;rw [joinL_cons,joinL_cons,joinL_one];simp
theorem skLine_eq (p:Pat):skLine p=[37,115,107,105,112,32]++patT p++[10]:=by
 unfold skLine;rw [joinL_cons,joinL_one];simp
theorem lvLine_eq (x:Lv):lvLine x=lvW x.1++spW x.2.1++[10]:=by
 unfold lvLine;rw [List.cons_append,List.nil_append,join_sp]
theorem stLine_eq (s:List Int):stLine s++twoLine=[37,115,116,97,114,116,32]++s++[10,37,37,10]:=by
 unfold stLine twoLine;rw [joinL_cons,joinL_one,joinL_one];simp
theorem rlLine_eq (r:Rl):rlLine r=ruleT r++[10]:=by
 unfold rlLine;rw [joinL_one]
theorem right_lines {g:Gr} (hg:Few g) (h:rightO g=true):(∀ t∈g.1,(tkLine t).length≤100000)∧(∀ p∈g.2.1,(skLine p).length≤100000)∧(∀ x∈g.2.2.1,x.2.1.length≤10000∧(lvLine x).length≤400000)∧g.2.2.2.1.length≤32∧∀ r∈g.2.2.2.2.1,(rlLine r).length≤3001:=by
  obtain ⟨⟨ht1,ht2,ht3⟩,⟨hl1,hl2,hl3⟩,hs1,hs2,hst,hr1,hr2,hr3⟩:=(rightO_iff g).1 h
  have f6:=hg.lvn
  refine ⟨fun t ht=>?_,fun p ht=>?_,fun x hx=>?_,nameO_le hst,fun r hx=>?_⟩
  · have q:=hg.tks t ht
    have q1:=patT_len t.2.1
    have q2:=line3 [37,116,111,107,101,110] t.1 (patT t.2.1)
    unfold tkLine
    simp only [List.length_append,List.length_cons,List.length_nil] at q2 ⊢;omega
  · have q:=hg.sks p ht
    have q1:=patT_len p
    have q2:=line2 [37,115,107,105,112] (patT p)
    unfold skLine
    simp only [List.length_append,List.length_cons,List.length_nil] at q2 ⊢;omega
  · have q : x.2.1.length ≤ (g.2.2.1.flatMap (·.2.1)).length := by
      obtain ⟨a,b,e⟩:=List.append_of_mem hx
      rw [e]
      simp only [List.flatMap_append,List.flatMap_cons,List.length_append];omega
    have qn:∀ s∈x.2.1,nameO s=true:=fun s hs=>by
      simp only [onceO,Bool.and_eq_true,List.all_eq_true] at hl3
      exact hl3.1 s (List.mem_flatMap.2 ⟨x,hx,hs⟩)
    have q2:=joinL_le 32 ([lvW x.1]++x.2.1) (fun s hs=>by
      simp only [List.mem_append,List.mem_singleton] at hs
      rcases hs with rfl | hs
      · have:=lvW_le x.1;omega
      · exact nameO_le (qn s hs))
    unfold lvLine
    simp only [List.length_append,List.length_cons,List.length_nil] at q2 ⊢;omega
  · have:=rule_len (hr3 r hx)
    unfold rlLine
    rw [joinL_one,List.length_append,List.length_singleton];omega
theorem rprint_ev (g:Gr) (hw:wT tGr g≤1048576) (hg:Few g) (hb:ByG g):E 21 [.tv [] tGr g] [] (.tup [sv (printO g).1,iv (printO g).2]) []:=by
 have hr:=rright_ev g (Bd.of hw) hb
 have hLn:=fun h=>right_lines hg h
 have hRi:=rightO_iff g
 rw [w_gr] at hw
 obtain ⟨tk,sk,lv,st,rl,⟨⟩⟩:=g
 have f1:=hg.tk
 have f2:=hg.tks
 have f3:=hg.sk
 have f4:=hg.sks
 have f5:=hg.lv
 have f7:=hg.rl
 dsimp only at f1 f2 f3 f4 f5 f7 hw
 have hpo:printO (tk,(sk,(lv,(st,(rl,())))))=printO (tk,(sk,(lv,(st,(rl,()))))):=rfl
 conv at hpo=>rhs;unfold printO
 have hbig:(1000000000:Nat)≤bigN:=by decide
 refine ev_of (vc21 tk sk lv st rl _ ⟨_,⟨hr⟩,?_⟩)
 generalize bigN=big at hbig ⊢
 refine ⟨fun h=>?_,fun h=>?_⟩
 ·simp only [Bool.not_eq_true'] at h
  rw [if_pos h] at hpo
  rw [hpo];exact ⟨rfl,rfl⟩
 simp only [Bool.not_eq_false'] at h
 rw [if_neg (by rw [h];decide)] at hpo
 obtain ⟨b1,b2,b3,b4,b5⟩:=hLn h
 obtain ⟨⟨ht1,ht2,ht3⟩,⟨hl1,hl2,hl3⟩,hs1,hs2,hst,hr1,hr2,hr3⟩:=hRi.1 h
 dsimp only at b1 b2 b3 b4 b5 ht2 hl2 hs1 hr2 hl1
 clear hLn hRi h ht1 ht3 hl3 hs2 hst hr1 hr3
 refine ⟨fun b z=>∃ k:Nat,z=k∧k≤tk.length∧b=(tk.take k).flatMap tkLine,fun _ z=>((tk.length:Int)-z).toNat,⟨0,rfl,by omega,rfl⟩,?_⟩
 rintro b z ⟨k,rfl,hk,rfl⟩
 have c1:∀ k,((tk.take k).flatMap tkLine).length≤20 * 100000:=fun k=>Nat.le_trans (flat_take_le tkLine 100000 tk k b1) (Nat.mul_le_mul_right _ ht2)
 refine ⟨fun h=>?_,fun h=>?_⟩
 ·(simp only [decide_eq_true_eq,decide_eq_false_iff_not,Bool.not_eq_true',Bool.not_eq_false'] at h)
  have hk':k<tk.length:=by omega
  rw [Int.toNat_natCast]
  have hm:=getD_mem' (([]:List Int),(([],([],(false,()))),())) tk _ hk'
  have q:=f2 _ hm
  have q1:=b1 _ hm
  have q2:=c1 k
  have es:=flat_snoc tkLine (([]:List Int),(([],([],(false,()))),())) hk'
  rw [tkLine_eq] at q1 es
  simp only [List.length_append,List.length_cons,List.length_nil] at q1
  refine ⟨⟨by omega⟩,⟨by omega⟩,⟨by simp only [List.length_append,List.length_cons,List.length_nil];omega⟩,⟨by simp only [List.length_append,List.length_cons,List.length_nil];omega⟩,⟨by omega⟩,_,⟨refpat_ev _ (by omega) (by omega)⟩,⟨by simp only [List.length_append,List.length_cons,List.length_nil];omega⟩,⟨by simp only [List.length_append,List.length_cons,List.length_nil];omega⟩,⟨by omega⟩,⟨k+1,by omega,by omega,?_⟩,⟨by ((try dsimp only);omega)⟩⟩
  rw [es];simp only [List.append_assoc]
 (simp only [decide_eq_true_eq,decide_eq_false_iff_not,Bool.not_eq_true',Bool.not_eq_false'] at h)
 rw [show tk.take k=tk from List.take_of_length_le (by omega)]
 have c1:(tk.flatMap tkLine).length≤20 * 100000:=Nat.le_trans (flat_le tkLine 100000 tk b1) (Nat.mul_le_mul_right _ ht2)
 generalize hT1:tk.flatMap tkLine=T1 at c1 ⊢
 refine ⟨fun b z=>∃ k:Nat,z=k∧k≤sk.length∧b=T1++(sk.take k).flatMap skLine,fun _ z=>((sk.length:Int)-z).toNat,⟨0,rfl,by omega,by simp⟩,?_⟩
 clear hk h k
 rintro b z ⟨k,rfl,hk,rfl⟩
 have c2:∀ k,((sk.take k).flatMap skLine).length≤4 * 100000:=fun k=>Nat.le_trans (flat_take_le skLine 100000 sk k b2) (Nat.mul_le_mul_right _ hs1)
 refine ⟨fun h=>?_,fun h=>?_⟩
 ·(simp only [decide_eq_true_eq,decide_eq_false_iff_not,Bool.not_eq_true',Bool.not_eq_false'] at h)
  have hk':k<sk.length:=by omega
  rw [Int.toNat_natCast]
  have hm:=getD_mem' (([]:List Int),(([]:List Int),(false,()))) sk _ hk'
  have q:=f4 _ hm
  have q1:=b2 _ hm
  have q2:=c2 k
  have es:=flat_snoc skLine (([]:List Int),(([]:List Int),(false,()))) hk'
  rw [skLine_eq] at q1 es
  simp only [List.length_append,List.length_cons,List.length_nil] at q1
  refine ⟨⟨by simp only [List.length_append,List.length_cons,List.length_nil];omega⟩,⟨by omega⟩,_,⟨refpat_ev _ (by omega) (by omega)⟩,⟨by simp only [List.length_append,List.length_cons,List.length_nil];omega⟩,⟨by simp only [List.length_append,List.length_cons,List.length_nil];omega⟩,⟨by omega⟩,⟨k+1,by omega,by omega,?_⟩,⟨by ((try dsimp only);omega)⟩⟩
  rw [es];simp only [List.append_assoc]
 (simp only [decide_eq_true_eq,decide_eq_false_iff_not,Bool.not_eq_true',Bool.not_eq_false'] at h)
 rw [show sk.take k=sk from List.take_of_length_le (by omega)]
 have c2:(T1++sk.flatMap skLine).length≤3000000:=by
  have:=flat_le skLine 100000 sk b2
  have:=Nat.mul_le_mul_right 100000 hs1
  rw [List.length_append];omega
 generalize hT2:T1++sk.flatMap skLine=T2 at c2 ⊢
 refine ⟨fun b z=>∃ k:Nat,z=k∧k≤lv.length∧b=T2++(lv.take k).flatMap lvLine,fun _ z=>((lv.length:Int)-z).toNat,⟨0,rfl,by omega,by simp⟩,?_⟩
 clear hk h k
 rintro b z ⟨k,rfl,hk,rfl⟩
 have c3:∀ k,((lv.take k).flatMap lvLine).length≤10 * 400000:=fun k=>Nat.le_trans (flat_take_le lvLine 400000 lv k fun x hx=>(b3 x hx).2) (Nat.mul_le_mul_right _ hl2)
 refine ⟨fun h=>?_,fun h=>?_⟩
 ·(simp only [decide_eq_true_eq,decide_eq_false_iff_not,Bool.not_eq_true',Bool.not_eq_false'] at h)
  have hk':k<lv.length:=by omega
  rw [Int.toNat_natCast]
  have hm:=getD_mem' ((0:Int),(([]:List qT0),())) lv _ hk'
  have q:=b3 _ hm
  have q0:=hl1 _ hm
  simp only [lvO1,Bool.and_eq_true,decide_eq_true_eq] at q0
  have q1:=q.2
  have q2:=c3 k
  have es:T2++(lv.take (k+1)).flatMap lvLine=(T2++(lv.take k).flatMap lvLine)++lvLine (lv.getD k ((0:Int),(([]:List qT0),()))):=by rw [flat_snoc lvLine ((0:Int),(([]:List qT0),())) hk',List.append_assoc]
  have hT:(T2++(lv.take k).flatMap lvLine).length≤8000000:=by rw [List.length_append];omega
  generalize T2++(lv.take k).flatMap lvLine=T at es hT ⊢
  generalize hx:lv.getD k ((0:Int),(([]:List qT0),()))=x at q q0 q1 es ⊢
  rw [lvLine_eq] at q1
  simp only [List.length_append,List.length_cons,List.length_nil] at q1
  have hsp:∀ j,(spW (x.2.1.take j)).length≤(spW x.2.1).length:=fun j=>by rw [spW_len,spW_len];exact sumM_take _ _ _
  have hxl:=q.1
  refine ⟨⟨by omega⟩,fun h2=>⟨⟨by omega⟩,fun h3=>?_,fun h3=>?_⟩,fun h2=>⟨⟨by omega⟩,fun h3=>?_,fun h3=>?_⟩⟩
  ·(simp only [decide_eq_true_eq,decide_eq_false_iff_not,Bool.not_eq_true',Bool.not_eq_false'] at h2 h3);omega
  ·(simp only [decide_eq_true_eq,decide_eq_false_iff_not,Bool.not_eq_true',Bool.not_eq_false'] at h2 h3)
   have hw:lvW x.1=[37,114,105,103,104,116]:=by rw [h2];rfl
   refine ⟨⟨by omega⟩,fun b z=>∃ j:Nat,z=j∧j≤x.2.1.length∧b=(T++[37,114,105,103,104,116])++spW (x.2.1.take j),fun _ z=>((x.2.1.length:Int)-z).toNat,⟨0,rfl,by omega,by simp [spW]⟩,?_⟩
   rintro b z ⟨j,rfl,hj,rfl⟩
   have hs1:=hsp j
   refine ⟨⟨by omega⟩,fun g1=>?_,fun g1=>?_⟩
   ·(simp only [decide_eq_true_eq,decide_eq_false_iff_not,Bool.not_eq_true',Bool.not_eq_false'] at g1)
    have hj':j<x.2.1.length:=by omega
    have e:=spW_snoc hj'
    have hs2:=hsp (j+1)
    rw [e] at hs2
    simp only [List.length_append,List.length_singleton] at hs2
    rw [Int.toNat_natCast]
    refine ⟨⟨by simp only [List.length_append,List.length_cons,List.length_nil];omega⟩,⟨by omega⟩,⟨by omega⟩,⟨by simp only [List.length_append,List.length_cons,List.length_nil];omega⟩,⟨by omega⟩,⟨j+1,by omega,by omega,?_⟩,⟨by ((try dsimp only);omega)⟩⟩
    rw [e];simp only [List.append_assoc]
   ·(simp only [decide_eq_true_eq,decide_eq_false_iff_not,Bool.not_eq_true',Bool.not_eq_false'] at g1)
    rw [show x.2.1.take j=x.2.1 from List.take_of_length_le (by omega)] at hs1 ⊢
    refine ⟨⟨by simp only [List.length_append,List.length_cons,List.length_nil];omega⟩,⟨by omega⟩,⟨k+1,by omega,by omega,?_⟩,⟨by ((try dsimp only);omega)⟩⟩
    rw [es,lvLine_eq,hw];simp only [List.append_assoc]
  ·(simp only [decide_eq_true_eq,decide_eq_false_iff_not,Bool.not_eq_true',Bool.not_eq_false'] at h2 h3)
   have hw:lvW x.1=[37,110,111,110,97,115,115,111,99]:=by rw [h3];rfl
   refine ⟨⟨by omega⟩,fun b z=>∃ j:Nat,z=j∧j≤x.2.1.length∧b=(T++[37,110,111,110,97,115,115,111,99])++spW (x.2.1.take j),fun _ z=>((x.2.1.length:Int)-z).toNat,⟨0,rfl,by omega,by simp [spW]⟩,?_⟩
   rintro b z ⟨j,rfl,hj,rfl⟩
   have hs1:=hsp j
   refine ⟨⟨by omega⟩,fun g1=>?_,fun g1=>?_⟩
   ·(simp only [decide_eq_true_eq,decide_eq_false_iff_not,Bool.not_eq_true',Bool.not_eq_false'] at g1)
    have hj':j<x.2.1.length:=by omega
    have e:=spW_snoc hj'
    have hs2:=hsp (j+1)
    rw [e] at hs2
    simp only [List.length_append,List.length_singleton] at hs2
    rw [Int.toNat_natCast]
    refine ⟨⟨by simp only [List.length_append,List.length_cons,List.length_nil];omega⟩,⟨by omega⟩,⟨by omega⟩,⟨by simp only [List.length_append,List.length_cons,List.length_nil];omega⟩,⟨by omega⟩,⟨j+1,by omega,by omega,?_⟩,⟨by ((try dsimp only);omega)⟩⟩
    rw [e];simp only [List.append_assoc]
   ·(simp only [decide_eq_true_eq,decide_eq_false_iff_not,Bool.not_eq_true',Bool.not_eq_false'] at g1)
    rw [show x.2.1.take j=x.2.1 from List.take_of_length_le (by omega)] at hs1 ⊢
    refine ⟨⟨by simp only [List.length_append,List.length_cons,List.length_nil];omega⟩,⟨by omega⟩,⟨k+1,by omega,by omega,?_⟩,⟨by ((try dsimp only);omega)⟩⟩
    rw [es,lvLine_eq,hw];simp only [List.append_assoc]
  ·(simp only [decide_eq_true_eq,decide_eq_false_iff_not,Bool.not_eq_true',Bool.not_eq_false'] at h2 h3)
   have hw:lvW x.1=[37,108,101,102,116]:=by rw [show x.1=1 by omega];rfl
   refine ⟨⟨by omega⟩,fun b z=>∃ j:Nat,z=j∧j≤x.2.1.length∧b=(T++[37,108,101,102,116])++spW (x.2.1.take j),fun _ z=>((x.2.1.length:Int)-z).toNat,⟨0,rfl,by omega,by simp [spW]⟩,?_⟩
   rintro b z ⟨j,rfl,hj,rfl⟩
   have hs1:=hsp j
   refine ⟨⟨by omega⟩,fun g1=>?_,fun g1=>?_⟩
   ·(simp only [decide_eq_true_eq,decide_eq_false_iff_not,Bool.not_eq_true',Bool.not_eq_false'] at g1)
    have hj':j<x.2.1.length:=by omega
    have e:=spW_snoc hj'
    have hs2:=hsp (j+1)
    rw [e] at hs2
    simp only [List.length_append,List.length_singleton] at hs2
    rw [Int.toNat_natCast]
    refine ⟨⟨by simp only [List.length_append,List.length_cons,List.length_nil];omega⟩,⟨by omega⟩,⟨by omega⟩,⟨by simp only [List.length_append,List.length_cons,List.length_nil];omega⟩,⟨by omega⟩,⟨j+1,by omega,by omega,?_⟩,⟨by ((try dsimp only);omega)⟩⟩
    rw [e];simp only [List.append_assoc]
   ·(simp only [decide_eq_true_eq,decide_eq_false_iff_not,Bool.not_eq_true',Bool.not_eq_false'] at g1)
    rw [show x.2.1.take j=x.2.1 from List.take_of_length_le (by omega)] at hs1 ⊢
    refine ⟨⟨by simp only [List.length_append,List.length_cons,List.length_nil];omega⟩,⟨by omega⟩,⟨k+1,by omega,by omega,?_⟩,⟨by ((try dsimp only);omega)⟩⟩
    rw [es,lvLine_eq,hw];simp only [List.append_assoc]
 (simp only [decide_eq_true_eq,decide_eq_false_iff_not,Bool.not_eq_true',Bool.not_eq_false'] at h)
 rw [show lv.take k=lv from List.take_of_length_le (by omega)]
 have c3:(T2++lv.flatMap lvLine).length≤8000000:=by
  have:=flat_le lvLine 400000 lv fun x hx=>(b3 x hx).2
  have:=Nat.mul_le_mul_right 400000 hl2
  rw [List.length_append];omega
 generalize hT3:T2++lv.flatMap lvLine=T3 at c3 ⊢
 have c4:(((T3++[37,115,116,97,114,116,32])++st)++[10,37,37,10]).length≤8001000:=by
  simp only [List.length_append,List.length_cons,List.length_nil];omega
 have e4:(T3++stLine st)++twoLine=((T3++[37,115,116,97,114,116,32])++st)++[10,37,37,10]:=by
  rw [List.append_assoc,stLine_eq];simp only [List.append_assoc]
 refine ⟨⟨by omega⟩,⟨by simp only [List.length_append,List.length_cons,List.length_nil];omega⟩,⟨by simp only [List.length_append,List.length_cons,List.length_nil];omega⟩,?_⟩
 rw [← e4] at c4 ⊢
 generalize hT4:(T3++stLine st)++twoLine=T4 at c4 ⊢
 refine ⟨fun b z=>∃ k:Nat,z=k∧k≤rl.length∧b=T4++(rl.take k).flatMap rlLine,fun _ z=>((rl.length:Int)-z).toNat,⟨0,rfl,by omega,by simp⟩,?_⟩
 clear hk h k
 rintro b z ⟨k,rfl,hk,rfl⟩
 have c5:∀ k,((rl.take k).flatMap rlLine).length≤40 * 3001:=fun k=>Nat.le_trans (flat_take_le rlLine 3001 rl k b5) (Nat.mul_le_mul_right _ hr2)
 refine ⟨fun h=>?_,fun h=>?_⟩
 ·(simp only [decide_eq_true_eq,decide_eq_false_iff_not,Bool.not_eq_true',Bool.not_eq_false'] at h)
  have hk':k<rl.length:=by omega
  rw [Int.toNat_natCast]
  have hm:=getD_mem' (([]:List Int),(([]:List qT0),(([]:List Int),(([]:List Int),())))) rl _ hk'
  have q1:=b5 _ hm
  have q2:=c5 k
  have q3:=sumM_mem (wT tRl) hm
  have es:=flat_snoc rlLine (([]:List Int),(([]:List qT0),(([]:List Int),(([]:List Int),())))) hk'
  rw [rlLine_eq] at q1 es
  simp only [List.length_append,List.length_cons,List.length_nil] at q1
  refine ⟨⟨by omega⟩,_,⟨rrule_ev _ (by omega)⟩,⟨by simp only [List.length_append,List.length_cons,List.length_nil];omega⟩,⟨by simp only [List.length_append,List.length_cons,List.length_nil];omega⟩,⟨by omega⟩,⟨k+1,by omega,by omega,?_⟩,⟨by ((try dsimp only);omega)⟩⟩
  rw [es];simp only [List.append_assoc]
 (simp only [decide_eq_true_eq,decide_eq_false_iff_not,Bool.not_eq_true',Bool.not_eq_false'] at h)
 rw [show rl.take k=rl from List.take_of_length_le (by omega)]
 have hT5:grT (tk,(sk,(lv,(st,(rl,())))))=T4++rl.flatMap rlLine:=by
  unfold grT;dsimp only
  rw [hT1,hT2,hT3,hT4]
 rw [hT5] at hpo
 generalize T4++rl.flatMap rlLine=T5 at hpo ⊢
 refine ⟨fun h2=>?_,fun h2=>?_⟩
 ·(simp only [decide_eq_true_eq,decide_eq_false_iff_not,Bool.not_eq_true',Bool.not_eq_false'] at h2)
  rw [if_pos (by omega)] at hpo
  rw [hpo];exact ⟨rfl,rfl⟩
 ·(simp only [decide_eq_true_eq,decide_eq_false_iff_not,Bool.not_eq_true',Bool.not_eq_false'] at h2)
  rw [if_neg (by omega)] at hpo
  rw [hpo];exact ⟨rfl,rfl⟩
end Go.Am.R
