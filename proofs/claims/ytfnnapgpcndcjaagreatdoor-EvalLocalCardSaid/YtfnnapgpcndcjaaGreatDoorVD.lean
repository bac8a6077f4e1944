/-
  A part of the proof of a law: see the text that states it.
-/
import Derived.Test.YtfnnapgpcndcjaaGreatDoorVC
import Derived.Test.YtfnnapgpcndcjaaGreatDoorVc5
import Derived.Test.YtfnnapgpcndcjaaGreatDoorVc9
import Derived.Test.YtfnnapgpcndcjaaGreatDoorVcB
import Derived.Test.YtfnnapgpcndcjaaGreatDoorVcC
import Derived.Test.YtfnnapgpcndcjaaGreatDoorVcD
set_option linter.all false
namespace Go.Am.Z.V
open Go
set_option maxRecDepth 100000
def isD (c:Int):Bool:=decide (48≤c)&&decide (c≤57)
def digs:List Int:=[48,49,50,51,52,53,54,55,56,57]
def setD (l:List Int):List Bool:=l.foldl (fun s c=>s.set c.toNat true) (List.replicate 256 false)
abbrev tSet:Ty:=.arr 0 256 .bool
abbrev hSet:Heap:=[((0,0),⟨⟨tSet,setD digs⟩,[]⟩)]
theorem setD_all:∀ n:Fin 256,(setD digs).getD n.1 false=isD n.1:=by decide +kernel
theorem setD_get {c:Int} (h:0≤c∧c<256):(setD digs).getD c.toNat false=isD c:=by
 have:=setD_all ⟨c.toNat,by omega⟩
 rw [this];simp only;congr 1;omega
theorem cont_ev {c:Int} (h:0≤c∧c<256):E 107 [.op (0,0) [],.tv [] (.int .u8) c] hSet (.tv [] .bool (isD c)) hSet:=by
 refine ev_of (vc107 c (setD digs) _ ⟨⟨h⟩,⟨by omega⟩,?_⟩)
 rw [setD_get h];exact ⟨rfl,rfl⟩
theorem mkset_ev:E 91 [.tv [] .str digs] [] (.tup [.tv [] tSet (setD digs),.tv [] .bool true]) []:=by
 refine ev_of (vc91 digs _ ⟨fun i s=>∃ k:Nat,i=k∧k≤10∧s=setD (digs.take k),fun i _=>(10-i).toNat,⟨0,rfl,by omega,rfl⟩,?_⟩)
 rintro _ s ⟨k,rfl,hk,rfl⟩
 have hl:digs.length=10:=rfl
 refine ⟨fun h=>?_,fun h=>?_⟩
 ·(simp only [dq1,dq2,dq3,dq4] at h)
  rw [hl] at h
  have hk':k<10:=by omega
  have hts:=take_snoc (0:Int) (show k<digs.length by omega)
  have hc:48≤digs.getD (Int.toNat (k:Int)) 0∧digs.getD (Int.toNat (k:Int)) 0≤57:=by
   rw [Int.toNat_natCast]
   have:∀ j:Fin 10,48≤digs.getD j.1 0∧digs.getD j.1 0≤57:=by decide +kernel
   exact this ⟨k,hk'⟩
  rw [← Int.toNat_natCast k] at hts
  generalize digs.getD (Int.toNat (k:Int)) 0=c at hc hts
  rw [Int.toNat_natCast] at hts
  refine ⟨⟨by omega⟩,fun g=>?_,fun g=>⟨⟨by omega⟩,⟨by omega⟩,⟨by omega⟩,⟨k+1,by omega,by omega,?_⟩,⟨by ((try dsimp only);omega)⟩⟩⟩
  ·exfalso;(simp only [dq1,dq2,dq3,dq4] at g);omega
  ·rw [hts];unfold setD;rw [List.foldl_append];rfl
 ·(simp only [dq1,dq2,dq3,dq4] at h)
  rw [hl] at h
  have:k=10:=by omega
  subst this
  exact ⟨rfl,rfl⟩
abbrev Byts (l:List Int):Prop:=∀ c∈l,0≤c∧c<256
def trimR (x:List Int):List Int:=(x.reverse.dropWhile isD).reverse
theorem trimR_snoc (l:List Int) (c:Int):trimR (l++[c])=if isD c then trimR l else l++[c]:=by
 unfold trimR
 rw [List.reverse_append]
 simp only [List.reverse_cons,List.reverse_nil,List.nil_append,List.singleton_append,List.dropWhile_cons]
 split <;> simp
theorem snoc_of {l:List Int} (h:0<l.length):l=l.take (l.length-1)++[l.getD (l.length-1) 0]:=by
 have:=take_snoc (0:Int) (show l.length-1<l.length by omega)
 rw [← this,List.take_of_length_le (by omega)]
theorem tright_ev (x:List Int) (hx:Byts x) (hl:x.length≤1000):E 93 [.tv [] .str x,.op (0,0) []] hSet (.tv [] .str (trimR x)) hSet:=by
 refine ev_of (vc93 x (setD digs) _ ⟨fun y s=>s=setD digs∧Byts y∧y.length≤1000∧trimR y=trimR x,fun y _=>y.length,⟨rfl,hx,hl,rfl⟩,?_⟩)
 rintro y _ ⟨rfl,hy,hyl,ht⟩
 refine ⟨fun h=>?_,fun h=>?_⟩
 ·(simp only [dq1,dq2,dq3,dq4] at h)
  have hn:0<y.length:=by omega
  have hs:=snoc_of hn
  have hb:=hy (y.getD (y.length-1) 0) (getD_mem' 0 (by omega))
  have e:Int.toNat (((y.length:Nat):Int)-1)=y.length-1:=by omega
  have hcut:cut y 0 (y.length-1)=y.take (y.length-1):=by unfold cut;rw [List.drop_zero]
  rw [e,hcut]
  generalize hc:y.getD (y.length-1) 0=c at hs hb
  have ht2:trimR y=if isD c then trimR (y.take (y.length-1)) else y:=by
   have:=trimR_snoc (y.take (y.length-1)) c
   rw [← hs] at this;exact this
  refine ⟨⟨by omega⟩,⟨by omega⟩,_,_,⟨cont_ev hb⟩,fun g=>?_,fun g=>?_⟩
  ·simp only [Bool.not_eq_true'] at g
   rw [g] at ht2
   exact ⟨by rw [← ht,ht2];simp,rfl⟩
  ·simp only [Bool.not_eq_false'] at g
   rw [g] at ht2
   refine ⟨⟨by omega⟩,⟨by omega⟩,⟨rfl,fun z hz=>hy z (List.mem_of_mem_take hz),by rw [List.length_take];omega,?_⟩,⟨by dsimp only;rw [List.length_take];omega⟩⟩
   rw [← ht,ht2];simp
 ·(simp only [dq1,dq2,dq3,dq4] at h)
  have:y=[]:=List.eq_nil_of_length_eq_zero (by omega)
  subst this
  exact ⟨by rw [← ht];rfl,rfl⟩
theorem tleft_ev (x:List Int) (hx:Byts x) (hl:x.length≤1000):E 92 [.tv [] .str x,.op (0,0) []] hSet (.tv [] .str (x.dropWhile isD)) hSet:=by
 refine ev_of (vc92 x (setD digs) _ ⟨fun y s=>s=setD digs∧Byts y∧y.length≤1000∧y.dropWhile isD=x.dropWhile isD,fun y _=>y.length,⟨rfl,hx,hl,rfl⟩,?_⟩)
 rintro y _ ⟨rfl,hy,hyl,ht⟩
 refine ⟨fun h=>?_,fun h=>?_⟩
 ·(simp only [dq1,dq2,dq3,dq4] at h)
  cases y with
  | nil=>simp at h
  | cons c l =>
   have hb:=hy c (List.mem_cons_self ..)
   rw [List.dropWhile_cons] at ht
   have hg:(c::l).getD 0 0=c:=rfl
   rw [hg]
   have hcut:cut (c::l) 1 (Int.toNat (((c::l).length:Nat):Int))=l:=by unfold cut;rw [Int.toNat_natCast,List.take_length];rfl
   rw [hcut]
   refine ⟨⟨by omega⟩,_,_,⟨cont_ev hb⟩,fun g=>?_,fun g=>?_⟩
   ·simp only [Bool.not_eq_true'] at g
    rw [g] at ht
    exact ⟨by rw [← ht];simp,rfl⟩
   ·simp only [Bool.not_eq_false'] at g
    rw [g] at ht
    simp only [List.length_cons] at hyl
    refine ⟨⟨by simp only [List.length_cons];omega⟩,⟨rfl,fun z hz=>hy z (List.mem_cons_of_mem _ hz),by omega,?_⟩,⟨by simp only [List.length_cons];omega⟩⟩
    rw [← ht];simp
 ·(simp only [dq1,dq2,dq3,dq4] at h)
  have:y=[]:=List.eq_nil_of_length_eq_zero (by omega)
  subst this
  exact ⟨by rw [← ht];rfl,rfl⟩
def trimK (x:List Int):List Int:=(trimR x).dropWhile isD
theorem trimR_sub (x:List Int):∀ c∈trimR x,c∈x:=by
 intro c hc
 unfold trimR at hc
 rw [List.mem_reverse] at hc
 exact List.mem_reverse.1 ((List.dropWhile_sublist _).subset hc)
theorem trimR_len (x:List Int):(trimR x).length≤x.length:=by
 unfold trimR
 rw [List.length_reverse]
 have:=(List.dropWhile_sublist isD (l:=x.reverse)).length_le
 rw [List.length_reverse] at this;exact this
theorem trim_ev (x:List Int) (hx:Byts x) (hl:x.length≤1000) (h0:x≠[]):E 60 [.tv [] .str x,.tv [] .str digs] [] (.tv [] .str (trimK x)) []:=by
 refine ev_of (vc60 x digs _ ⟨fun h=>?_,fun _=>⟨fun h=>?_,fun _=>⟨fun h=>?_,fun _=>⟨_,_,⟨mkset_ev⟩,fun _=>⟨_,_,⟨tright_ev x hx hl⟩,_,_,⟨tleft_ev (trimR x) (fun c hc=>hx c (trimR_sub x c hc)) (by have:=trimR_len x;omega)⟩,rfl,rfl⟩,fun h=>by cases h⟩⟩⟩⟩)
 ·exact absurd (of_decide_eq_true h) h0
 ·have:=of_decide_eq_true h;cases this
 ·exact absurd (of_decide_eq_true h) (by decide)
theorem dw_nil {p:Int→Bool}:∀ {l:List Int},l.dropWhile p=[]↔l.all p=true
 | []=>by simp
 | c::l=>by
  rw [List.dropWhile_cons,List.all_cons]
  cases h:p c
  ·simp
  ·simp only [if_true,Bool.true_and];exact dw_nil
theorem trimK_nil (x:List Int):trimK x=[]↔x.all isD=true:=by
 unfold trimK
 rw [dw_nil]
 unfold trimR
 rw [List.all_reverse]
 have h2:∀ l:List Int,(l.dropWhile isD).all isD=true↔l.all isD=true:=by
  intro l
  induction l with
  | nil=>simp
  | cons c l ih =>
   rw [List.dropWhile_cons]
   cases h:isD c
   ·simp
   ·simp [h,ih]
 rw [h2,List.all_reverse]
def numF (x:List Int):Int:=x.foldl (fun n c=>n * 10+(c-48)) 0
def leafK (x:List Int):Val:=if x.all isD then (1,w64 (numF x),()) else (1,(x.length:Int),())
theorem numF_snoc (l:List Int) (c:Int):numF (l++[c])=numF l * 10+(c-48):=by unfold numF;rw [List.foldl_append];rfl
theorem w64_mod (n:Int):w64 n % 18446744073709551616=n % 18446744073709551616:=by unfold w64;rw [i64_eq];split <;> omega
theorem isD_iff (c:Int):isD c=true↔48≤c∧c≤57:=by simp [isD]
theorem leaf_ev (x:List Int) (hx:Byts x) (hl:x.length≤1000):E 29 [.tv [] .str x] [] (.tv [] tV (leafK x)) []:=by
 refine ev_of (vc29 x _ ⟨fun h=>⟨_,_,⟨num_ev _⟩,?_⟩,fun h=>?_⟩)
 ·have:=of_decide_eq_true h;subst this;exact ⟨tvV (show ((1:Int),(0:Int),())=leafK [] by decide +kernel),rfl⟩
 have h0:x≠[]:=of_decide_eq_false h
 refine ⟨_,⟨trim_ev x hx hl h0⟩,fun g=>⟨_,_,⟨num_ev _⟩,?_⟩,fun g=>?_⟩
 ·have:¬ x.all isD=true:=fun h=>by rw [decide_eq_true ((trimK_nil x).2 h)] at g;simp at g
  unfold leafK;rw [if_neg this];exact ⟨rfl,rfl⟩
 have ha:x.all isD=true:=by
  simp only [Bool.not_eq_false',decide_eq_true_eq] at g
  exact (trimK_nil x).1 g
 have hd:∀ c∈x,48≤c∧c≤57:=fun c hc=>(isD_iff c).1 (List.all_eq_true.1 ha c hc)
 refine ⟨fun n i=>∃ k:Nat,i=k∧k≤x.length∧n=w64 (numF (x.take k)),fun _ i=>(x.length-i).toNat,⟨0,rfl,by omega,rfl⟩,?_⟩
 rintro _ _ ⟨k,rfl,hk,rfl⟩
 refine ⟨fun h=>?_,fun h=>?_⟩
 ·(simp only [dq1,dq2,dq3,dq4] at h)
  have hk':k<x.length:=by omega
  have hts:=take_snoc (0:Int) hk'
  have hc:=hd _ (getD_mem' 0 hk')
  rw [Int.toNat_natCast]
  generalize x.getD k 0=c at hts hc
  refine ⟨⟨by omega⟩,⟨by omega⟩,⟨by omega⟩,⟨by omega⟩,⟨rfl⟩,⟨k+1,by omega,by omega,?_⟩,⟨by ((try dsimp only);omega)⟩⟩
  rw [hts,numF_snoc]
  have h1:=w64_mod (numF (x.take k))
  refine w64_of ?_
  have h2:=w64_mod (w64 (numF (x.take k)) * 10)
  change (w64 (w64 (numF (x.take k)) * 10)+(c-48)) % _=_
  omega
 ·(simp only [dq1,dq2,dq3,dq4] at h)
  have:k=x.length:=by omega
  subst this
  refine ⟨_,_,⟨num_ev _⟩,?_⟩
  unfold leafK;rw [if_pos ha,List.take_length];exact ⟨rfl,rfl⟩
end Go.Am.Z.V
