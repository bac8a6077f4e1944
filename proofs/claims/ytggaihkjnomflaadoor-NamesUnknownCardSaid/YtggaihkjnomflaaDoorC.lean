/-
  A part of the proof of a law: see the text that states it.
-/
import Derived.Test.YtggaihkjnomflaaDoorB
import Derived.Test.YtggaihkjnomflaaDoorVc6
set_option linter.all false
namespace Go.Am.D
open Go Go.Am.Pr Go.Am.D.L
set_option maxRecDepth 100000
def assocK (t:List Int):Int:=if t=[108,101,102,116] then 1 else if t=[114,105,103,104,116] then 2 else 3
abbrev Ns:=List qT0
def namesK:List L.Mark→Ns→Mp→Er×List L.Mark×Mp×Ns
 | [],ns,lm=>if ns=[] then (some (14,mk0.2.2.1),[],lm,ns) else (none,[],lm,ns)
 | m::r,ns,lm=>if m.1≠1 then (if ns=[] then (some (14,m.2.2.1),m::r,lm,ns) else (none,m::r,lm,ns))
  else if Pr.mget lm m.2.1 false=true then (some (15,m.2.2.1),r,lm,ns)
  else namesK r (ns++[m.2.1]) (Pr.mset lm m.2.1 true)
theorem namesK_stop {r:List L.Mark} {ns:Ns} {lm:Mp} (h:(hd r).1≠1):namesK r ns lm=if ns=[] then (some (14,(hd r).2.2.1),r,lm,ns) else (none,r,lm,ns):=by
 cases r with
 | nil=>rw [hd_nil,namesK]
 | cons m r=>rw [hd_cons] at h;rw [hd_cons,namesK,if_pos h]
theorem namesK_twice {r:List L.Mark} {ns:Ns} {lm:Mp} (h:(hd r).1=1) (h2:Pr.mget lm (hd r).2.1 false=true):namesK r ns lm=(some (15,(hd r).2.2.1),r.tail,lm,ns):=by
 cases r with
 | nil=>rw [hd_nil] at h;exact absurd h (by decide)
 | cons m r=>rw [hd_cons] at h h2;rw [hd_cons,namesK,if_neg (not_not_intro h),if_pos h2];rfl
theorem namesK_go {r:List L.Mark} {ns:Ns} {lm:Mp} (h:(hd r).1=1) (h2:Pr.mget lm (hd r).2.1 false=false):namesK r ns lm=namesK r.tail (ns++[(hd r).2.1]) (Pr.mset lm (hd r).2.1 true):=by
 cases r with
 | nil=>rw [hd_nil] at h;exact absurd h (by decide)
 | cons m r=>rw [hd_cons] at h h2;rw [hd_cons,namesK,if_neg (not_not_intro h),if_neg (by rw [h2];decide)];rfl
def levelK (w:L.Mark) (r:List L.Mark) (s:G):Out :=
 if 10≤s.lv.length then (some (3,w.2.2.1),r,s)
 else match namesK r [] s.lm with
  | (some e,r',lm,_)=>(some e,r',{ s with lm:=lm })
  | (none,r',lm,ns)=>(none,r',{ s with lm:=lm,lv:=s.lv++[(assocK w.2.1,(ns,()))] })
section
variable {l r:List L.Mark} (w:L.Mark) (s:G) (h:r <:+ l) (hl:l.length≤100000)
include h hl
theorem levelR:E 96 [.op (0,0) [],.tv [] TMark w] (hR l r s) (erA (levelK w r s).1) (erH l (levelK w r s)):=by
 refine ev_of (vc96 w.1 w.2.1 w.2.2.1.1 w.2.2.1.2.1 l _ s.tk s.sk s.lv s.st s.rl s.on s.tm s.lm _ ⟨fun h1=>?_,fun h1=>?_⟩)
 ·(simp only [decide_eq_true_eq,decide_eq_false_iff_not,Bool.not_eq_true',Bool.not_eq_false'] at h1)
  rw [levelK,if_pos (by omega)];exact ⟨rfl,rfl⟩
 ·(simp only [decide_eq_true_eq,decide_eq_false_iff_not,Bool.not_eq_true',Bool.not_eq_false'] at h1)
  rw [levelK,if_neg (by omega)]
  ((repeat apply Exists.intro);refine And.intro (Need.mk (assoc_ev w.2.1)) ?_)
  refine ⟨fun a ns l' i tk sk lv st rl on tm lm=>∃ r',a=assocK w.2.1∧l'=l∧i=((l.length-r'.length:Nat):Int)∧tk=s.tk∧sk=s.sk∧lv=s.lv∧st=s.st∧rl=s.rl∧on=s.on∧tm=s.tm∧r' <:+ l∧ns.length+r'.length≤100000∧namesK r' ns lm=namesK r [] s.lm,
   fun _ _ _ i _ _ _ _ _ _ _ _=>l.length-i.toNat,⟨r,rfl,rfl,rfl,rfl,rfl,rfl,rfl,rfl,rfl,rfl,h,?_,rfl⟩,?_⟩
  ·have:=h.length_le;simp only [List.length_nil];omega
  intro a ns l' i tk sk lv st rl on tm lm ⟨r',e1,e2,e3,e4,e5,e6,e7,e8,e9,e10,hs,hn,hT⟩
  subst a l' i tk sk lv st rl on tm
  have hle:=hs.length_le
  have hsh:=sfx_tl hs
  refine ⟨fun h2=>?_,fun h2=>?_⟩
  ·(simp only [decide_eq_true_eq,decide_eq_false_iff_not,Bool.not_eq_true',Bool.not_eq_false'] at h2)
   have h2:ns=[]:=List.eq_nil_of_length_eq_zero (by omega)
   subst h2
   ((repeat apply Exists.intro);refine And.intro (Need.mk (nowR { s with lm:=lm } hs)) ?_)
   by_cases h3:(hd r').1=1
   ·have hpos:=hd_ne (r:=r') (by rw [h3];decide)
    have hsl:=sfx_len hs (by rw [h3];decide)
    refine .inr ?_
    ((repeat apply Exists.intro);refine And.intro (Need.mk (takeR { s with lm:=lm } hs (by decide) h3 hl)) ?_)
    refine ⟨fun h4=>?_,fun h4=>?_⟩
    ·rw [← hT,namesK_twice h3 h4];exact ⟨rfl,rfl⟩
    ·refine ⟨⟨by simp only [List.length_cons,List.length_nil,bigN];omega⟩,⟨r'.tail,rfl,rfl,rfl,rfl,rfl,rfl,rfl,rfl,rfl,rfl,hsh,?_,?_⟩,⟨?_⟩⟩
     ·simp only [List.length_append,List.length_cons,List.length_nil,List.length_tail] at hn ⊢;omega
     ·rw [← hT,← namesK_go h3 h4]
     ·simp only [hsl,Int.toNat_natCast];omega
   ·refine .inl ?_
    ((repeat apply Exists.intro);refine And.intro (Need.mk (takeN { s with lm:=lm } hs h3)) ?_)
    rw [← hT,namesK_stop h3,if_pos rfl];exact ⟨rfl,rfl⟩
  ·(simp only [decide_eq_true_eq,decide_eq_false_iff_not,Bool.not_eq_true',Bool.not_eq_false'] at h2)
   have h2':ns≠[]:=fun e=>h2 (by rw [e];rfl)
   ((repeat apply Exists.intro);refine And.intro (Need.mk (isR { s with lm:=lm } hs 1 (by decide))) ?_)
   refine ⟨fun h3=>?_,fun h3=>?_⟩
   ·(simp only [decide_eq_true_eq,decide_eq_false_iff_not,Bool.not_eq_true',Bool.not_eq_false'] at h3)
    ((repeat apply Exists.intro);refine And.intro (Need.mk (nowR { s with lm:=lm } hs)) ?_)
    have hpos:=hd_ne (r:=r') (by rw [h3];decide)
    have hsl:=sfx_len hs (by rw [h3];decide)
    refine .inr ?_
    ((repeat apply Exists.intro);refine And.intro (Need.mk (takeR { s with lm:=lm } hs (by decide) h3 hl)) ?_)
    refine ⟨fun h4=>?_,fun h4=>?_⟩
    ·rw [← hT,namesK_twice h3 h4];exact ⟨rfl,rfl⟩
    ·refine ⟨⟨by simp only [List.length_cons,List.length_nil,bigN];omega⟩,⟨r'.tail,rfl,rfl,rfl,rfl,rfl,rfl,rfl,rfl,rfl,rfl,hsh,?_,?_⟩,⟨?_⟩⟩
     ·simp only [List.length_append,List.length_cons,List.length_nil,List.length_tail] at hn ⊢;omega
     ·rw [← hT,← namesK_go h3 h4]
     ·simp only [hsl,Int.toNat_natCast];omega
   ·(simp only [decide_eq_true_eq,decide_eq_false_iff_not,Bool.not_eq_true',Bool.not_eq_false'] at h3)
    rw [← hT,namesK_stop h3,if_neg h2']
    exact ⟨⟨by simp only [List.length_cons,List.length_nil,bigN];omega⟩,rfl,rfl⟩
end
def rightK:List L.Mark→Ns→Er×List L.Mark×Ns
 | [],ns=>(none,[],ns)
 | m::r,ns=>if m.1≠1 then (none,m::r,ns) else if 8≤ns.length then (some (3,m.2.2.1),m::r,ns) else rightK r (ns++[m.2.1])
theorem rightK_stop {r:List L.Mark} {ns:Ns} (h:(hd r).1≠1):rightK r ns=(none,r,ns):=by
 cases r with
 | nil=>rw [rightK]
 | cons m r=>rw [hd_cons] at h;rw [rightK,if_pos h]
theorem rightK_full {r:List L.Mark} {ns:Ns} (h:(hd r).1=1) (h2:8≤ns.length):rightK r ns=(some (3,(hd r).2.2.1),r,ns):=by
 cases r with
 | nil=>rw [hd_nil] at h;exact absurd h (by decide)
 | cons m r=>rw [hd_cons] at h;rw [hd_cons,rightK,if_neg (not_not_intro h),if_pos h2]
theorem rightK_go {r:List L.Mark} {ns:Ns} (h:(hd r).1=1) (h2:¬ 8≤ns.length):rightK r ns=rightK r.tail (ns++[(hd r).2.1]):=by
 cases r with
 | nil=>rw [hd_nil] at h;exact absurd h (by decide)
 | cons m r=>rw [hd_cons] at h;rw [hd_cons,rightK,if_neg (not_not_intro h),if_neg h2];rfl
abbrev precT:List Int:=[112,114,101,99]
def actK (r:List L.Mark):List Int×List L.Mark:=if (hd r).1=9 then ((hd r).2.1,r.tail) else ([],r)
def altE (left:List Int) (ns:Ns) (pc:List Int) (r:List L.Mark) (s:G):Out:=(none,(actK r).2,{ s with rl:=s.rl++[(left,(ns,(pc,((actK r).1,()))))] })
def altF (left:List Int) (ns:Ns) (r:List L.Mark) (s:G):Out :=
 if (hd r).1=2∧(hd r).2.1=precT then (if (hd r.tail).1=1 then altE left ns (hd r.tail).2.1 r.tail.tail s else (some (14,(hd r.tail).2.2.1),r.tail,s))
 else altE left ns [] r s
def altK (left:List Int) (r:List L.Mark) (s:G):Out :=
 if 40≤s.rl.length then (some (3,(hd r).2.2.1),r,s)
 else match rightK r [] with
  | (some e,r',_)=>(some e,r',s)
  | (none,r',ns)=>altF left ns r' s
theorem actK_y {r:List L.Mark} (h:(hd r).1=9):actK r=((hd r).2.1,r.tail):=if_pos h
theorem actK_n {r:List L.Mark} (h:(hd r).1≠9):actK r=([],r):=if_neg h
section
variable {l r:List L.Mark} (left:List Int) (s:G) (h:r <:+ l) (hl:l.length≤100000)
include h hl
theorem altR:E 90 [.op (0,0) [],.tv [] .str left] (hR l r s) (erA (altK left r s).1) (erH l (altK left r s)):=by
 refine ev_of (vc90 left l _ s.tk s.sk s.lv s.st s.rl s.on s.tm s.lm _ ⟨fun h1=>?_,fun h1=>?_⟩)
 ·(simp only [decide_eq_true_eq,decide_eq_false_iff_not,Bool.not_eq_true',Bool.not_eq_false'] at h1)
  rw [altK,if_pos (by omega)]
  ((repeat apply Exists.intro);refine And.intro (Need.mk (wrongR s h 3)) ?_)
  exact ⟨rfl,rfl⟩
 ·(simp only [decide_eq_true_eq,decide_eq_false_iff_not,Bool.not_eq_true',Bool.not_eq_false'] at h1)
  rw [altK,if_neg (by omega)]
  refine ⟨fun lf ns p a l' i tk sk lv st rl on tm lm=>∃ r',lf=left∧p=[]∧a=[]∧l'=l∧i=((l.length-r'.length:Nat):Int)∧tk=s.tk∧sk=s.sk∧lv=s.lv∧st=s.st∧rl=s.rl∧on=s.on∧tm=s.tm∧lm=s.lm∧r' <:+ l∧ns.length≤8∧rightK r' ns=rightK r [],
   fun _ _ _ _ _ i _ _ _ _ _ _ _ _=>l.length-i.toNat,⟨r,rfl,rfl,rfl,rfl,rfl,rfl,rfl,rfl,rfl,rfl,rfl,rfl,rfl,h,by decide,rfl⟩,?_⟩
  intro lf ns p a l' i tk sk lv st rl on tm lm ⟨r',e1,e2,e3,e4,e5,e6,e7,e8,e9,e10,e11,e12,e13,hs,hn,hT⟩
  subst lf p a l' i tk sk lv st rl on tm lm
  have hle:=hs.length_le
  have hsh:=sfx_tl hs
  have hle2:=hsh.length_le
  have hbig:s.rl.length+1≤bigN:=by simp only [bigN];omega
  ((repeat apply Exists.intro);refine And.intro (Need.mk (isR s hs 1 (by decide))) ?_)
  refine ⟨fun h2=>⟨fun h3=>?_,fun h3=>?_⟩,fun h2=>?_⟩
  ·(simp only [decide_eq_true_eq,decide_eq_false_iff_not,Bool.not_eq_true',Bool.not_eq_false'] at h2);(simp only [decide_eq_true_eq,decide_eq_false_iff_not,Bool.not_eq_true',Bool.not_eq_false'] at h3)
   ((repeat apply Exists.intro);refine And.intro (Need.mk (wrongR s hs 3)) ?_)
   rw [← hT,rightK_full h2 (by omega)]
   exact ⟨rfl,rfl⟩
  ·(simp only [decide_eq_true_eq,decide_eq_false_iff_not,Bool.not_eq_true',Bool.not_eq_false'] at h2);(simp only [decide_eq_true_eq,decide_eq_false_iff_not,Bool.not_eq_true',Bool.not_eq_false'] at h3)
   ((repeat apply Exists.intro);refine And.intro (Need.mk (nowR s hs)) ?_)
   have hpos:=hd_ne (r:=r') (by rw [h2];decide)
   have hsl:=sfx_len hs (by rw [h2];decide)
   refine ⟨⟨by simp only [List.length_cons,List.length_nil,bigN];omega⟩,⟨by omega⟩,⟨r'.tail,rfl,rfl,rfl,rfl,?_,rfl,rfl,rfl,rfl,rfl,rfl,rfl,rfl,hsh,?_,?_⟩,⟨?_⟩⟩
   ·rw [hsl];rfl
   ·simp only [List.length_append,List.length_cons,List.length_nil];omega
   ·rw [← hT,rightK_go h2 (by omega)]
   ·simp only [Int.toNat_natCast];omega
  ·(simp only [decide_eq_true_eq,decide_eq_false_iff_not,Bool.not_eq_true',Bool.not_eq_false'] at h2)
   rw [← hT,rightK_stop h2]
   dsimp only
   ((repeat apply Exists.intro);refine And.intro (Need.mk (isR s hs 2 (by decide))) ?_)
   refine ⟨fun h3=>?_,fun h3=>?_⟩
   ·(simp only [decide_eq_true_eq,decide_eq_false_iff_not,Bool.not_eq_true',Bool.not_eq_false'] at h3)
    ((repeat apply Exists.intro);refine And.intro (Need.mk (nowR s hs)) ?_)
    have hsl:=sfx_len hs (by rw [h3];decide)
    have hpos:=hd_ne (r:=r') (by rw [h3];decide)
    refine ⟨fun h4=>?_,fun h4=>?_⟩
    ·(simp only [decide_eq_true_eq,decide_eq_false_iff_not,Bool.not_eq_true',Bool.not_eq_false'] at h4)
     rw [altF,if_pos ⟨h3,h4⟩]
     refine ⟨⟨by omega⟩,?_⟩
     have em:=mvR s hs (by rw [h3];decide)
     by_cases h5:(hd r'.tail).1=1
     ·rw [if_pos h5]
      have hst:=sfx_tl hsh
      refine .inr ?_
      ((repeat apply Exists.intro);refine And.intro (Need.mk ((em ▸ takeR s hsh (by decide) h5 hl:E 89 [.op (0,0) [],iv 1] (hRd l (((l.length-r'.length:Nat):Int)+1) s) (.tup [.tv [] .str (hd r'.tail).2.1,noE]) (hR l r'.tail.tail s)))) ?_)
      ((repeat apply Exists.intro);refine And.intro (Need.mk (isR s hst 9 (by decide))) ?_)
      refine ⟨fun h6=>?_,fun h6=>?_⟩
      ·(simp only [decide_eq_true_eq,decide_eq_false_iff_not,Bool.not_eq_true',Bool.not_eq_false'] at h6)
       ((repeat apply Exists.intro);refine And.intro (Need.mk (nowR s hst)) ?_)
       rw [altE,actK_y h6]
       exact ⟨⟨by omega⟩,⟨by simp only [List.length_cons,List.length_nil];omega⟩,rfl,mvR { s with rl:=s.rl++[(left,(ns,((hd r'.tail).2.1,((hd r'.tail.tail).2.1,()))))] } hst (by rw [h6];decide)⟩
      ·(simp only [decide_eq_true_eq,decide_eq_false_iff_not,Bool.not_eq_true',Bool.not_eq_false'] at h6)
       rw [altE,actK_n h6]
       exact ⟨⟨by simp only [List.length_cons,List.length_nil];omega⟩,rfl,rfl⟩
     ·rw [if_neg h5]
      refine .inl ?_
      ((repeat apply Exists.intro);refine And.intro (Need.mk ((em ▸ takeN s hsh h5:E 89 [.op (0,0) [],iv 1] (hRd l (((l.length-r'.length:Nat):Int)+1) s) (.tup [.tv [] .str [],.op (1,0) []]) (oDg (1,0) 14 (hd r'.tail).2.2.1::hRd l (((l.length-r'.length:Nat):Int)+1) s)))) ?_)
      exact ⟨rfl,congrArg (oDg (1,0) 14 (hd r'.tail).2.2.1::·) em⟩
    ·(simp only [decide_eq_true_eq,decide_eq_false_iff_not,Bool.not_eq_true',Bool.not_eq_false'] at h4)
     rw [altF,if_neg (fun q=>h4 q.2)]
     ((repeat apply Exists.intro);refine And.intro (Need.mk (isR s hs 9 (by decide))) ?_)
     refine ⟨fun h6=>?_,fun h6=>?_⟩
     ·(simp only [decide_eq_true_eq,decide_eq_false_iff_not,Bool.not_eq_true',Bool.not_eq_false'] at h6);rw [h6] at h3;exact absurd h3 (by decide)
     ·(simp only [decide_eq_true_eq,decide_eq_false_iff_not,Bool.not_eq_true',Bool.not_eq_false'] at h6)
      rw [altE,actK_n h6]
      exact ⟨⟨by simp only [List.length_cons,List.length_nil];omega⟩,rfl,rfl⟩
   ·(simp only [decide_eq_true_eq,decide_eq_false_iff_not,Bool.not_eq_true',Bool.not_eq_false'] at h3)
    rw [altF,if_neg (fun q=>h3 q.1)]
    ((repeat apply Exists.intro);refine And.intro (Need.mk (isR s hs 9 (by decide))) ?_)
    refine ⟨fun h6=>?_,fun h6=>?_⟩
    ·(simp only [decide_eq_true_eq,decide_eq_false_iff_not,Bool.not_eq_true',Bool.not_eq_false'] at h6)
     ((repeat apply Exists.intro);refine And.intro (Need.mk (nowR s hs)) ?_)
     rw [altE,actK_y h6]
     exact ⟨⟨by omega⟩,⟨by simp only [List.length_cons,List.length_nil];omega⟩,rfl,mvR { s with rl:=s.rl++[(left,(ns,([],((hd r').2.1,()))))] } hs (by rw [h6];decide)⟩
    ·(simp only [decide_eq_true_eq,decide_eq_false_iff_not,Bool.not_eq_true',Bool.not_eq_false'] at h6)
     rw [altE,actK_n h6]
     exact ⟨⟨by simp only [List.length_cons,List.length_nil];omega⟩,rfl,rfl⟩
end
end Go.Am.D
