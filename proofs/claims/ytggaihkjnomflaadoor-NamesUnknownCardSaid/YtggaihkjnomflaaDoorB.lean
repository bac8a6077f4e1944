/-
  A part of the proof of a law: see the text that states it.
-/
import Derived.Test.YtggaihkjnomflaaDoorA
import Derived.Test.YtggaihkjnomflaaDoorVc6
set_option linter.all false
namespace Go.Am.D
open Go Go.Am.Pr Go.Am.D.L
set_option maxRecDepth 100000
abbrev hR (l r:List L.Mark) (s:G):Heap:=hRd l ((l.length-r.length:Nat):Int) s
theorem sfx {l r:List L.Mark} (h:r <:+ l):l.drop (l.length-r.length)=r:=(List.suffix_iff_eq_drop.1 h).symm
theorem sfx_tl {l r:List L.Mark} (h:r <:+ l):r.tail <:+ l:=(List.tail_suffix r).trans h
theorem hd_ne {r:List L.Mark} (h:(hd r).1≠0):0<r.length:=by
 cases r with
 | nil=>rw [hd_nil] at h;exact absurd rfl h
 | cons _ _=>exact Nat.succ_pos _
theorem sfx_len {l r:List L.Mark} (h:r <:+ l) (h0:(hd r).1≠0):l.length-r.tail.length=l.length-r.length+1:=by
 have:=hd_ne h0
 have:=h.length_le
 rw [List.length_tail];omega
abbrev noE:AV:=.tv [] .ref (none:Option Key)
section
variable {l r:List L.Mark} (s:G) (h:r <:+ l)
include h
theorem nowR:E 73 [.op (0,0) []] (hR l r s) (.tv [] TMark (hd r)) (hR l r s):=by
 have:=now_ev l (l.length-r.length) s;rwa [sfx h] at this
theorem wrongR (c:Int):E 88 [.op (0,0) [],iv c] (hR l r s) (.op (1,0) []) (oDg (1,0) c (hd r).2.2.1::hR l r s):=by
 have:=wrong_ev l (l.length-r.length) s c;rwa [sfx h] at this
theorem isR (k:Int) (hk:k≠0):E 91 [.op (0,0) [],iv k] (hR l r s) (bv (decide ((hd r).1=k))) (hR l r s):=by
 have:=is_ev l (l.length-r.length) s k hk;rwa [sfx h] at this
theorem takeR {k:Int} (hk:k≠0) (hh:(hd r).1=k) (hl:l.length≤100000):E 89 [.op (0,0) [],iv k] (hR l r s) (.tup [.tv [] .str (hd r).2.1,noE]) (hR l r.tail s):=by
 have:=take_ok l (l.length-r.length) s hk (by rw [sfx h];exact hh) hl
 rw [sfx h] at this
 unfold hR;rw [sfx_len h (by rw [hh];exact hk)];exact this
theorem takeN {k:Int} (hh:(hd r).1≠k):E 89 [.op (0,0) [],iv k] (hR l r s) (.tup [.tv [] .str [],.op (1,0) []]) (oDg (1,0) 14 (hd r).2.2.1::hR l r s):=by
 have:=take_no l (l.length-r.length) s (k:=k) (by rw [sfx h];exact hh)
 rwa [sfx h] at this
end
theorem mvR {l r:List L.Mark} (s:G) (h:r <:+ l) (h0:(hd r).1≠0):hRd l (((l.length-r.length:Nat):Int)+1) s=hR l r.tail s:=by
 unfold hR;rw [sfx_len h h0];rfl
def patK (r:List L.Mark):Except Pos (Pat×List L.Mark) :=
 if (hd r).1=3 then .ok (((hd r).2.1,([],(false,()))),r.tail)
 else if (hd r).1=4 then (if (hd r.tail).1=5 then .ok (([],((hd r).2.1,(true,()))),r.tail.tail) else .ok (([],((hd r).2.1,(false,()))),r.tail))
 else .error (hd r).2.2.1
theorem patR {l r:List L.Mark} (s:G) (h:r <:+ l) (hl:l.length≤100000) {p:Pat} {r':List L.Mark} (hp:patK r=.ok (p,r')):E 101 [.op (0,0) []] (hR l r s) (.tup [.tv [] tPat p,noE]) (hR l r' s):=by
 refine ev_of (vc101 l _ s.tk s.sk s.lv s.st s.rl s.on s.tm s.lm _ ?_)
 have hle:=h.length_le
 ((repeat apply Exists.intro);refine And.intro (Need.mk (isR s h 3 (by decide))) ?_)
 refine ⟨fun h3=>?_,fun h3=>?_⟩
 ·(simp only [decide_eq_true_eq,decide_eq_false_iff_not,Bool.not_eq_true',Bool.not_eq_false'] at h3)
  rw [patK,if_pos h3] at hp;cases hp
  refine .inr ?_
  ((repeat apply Exists.intro);refine And.intro (Need.mk (takeR s h (by decide) h3 hl)) ?_)
  exact ⟨rfl,rfl⟩
 ·(simp only [decide_eq_true_eq,decide_eq_false_iff_not,Bool.not_eq_true',Bool.not_eq_false'] at h3)
  rw [patK,if_neg h3] at hp
  by_cases h4:(hd r).1=4
  ·rw [if_pos h4] at hp
   refine .inr ?_
   ((repeat apply Exists.intro);refine And.intro (Need.mk (takeR s h (by decide) h4 hl)) ?_)
   ((repeat apply Exists.intro);refine And.intro (Need.mk (isR s (sfx_tl h) 5 (by decide))) ?_)
   refine ⟨fun h5=>?_,fun h5=>?_⟩
   ·(simp only [decide_eq_true_eq,decide_eq_false_iff_not,Bool.not_eq_true',Bool.not_eq_false'] at h5)
    rw [if_pos h5] at hp;cases hp
    refine ⟨⟨by omega⟩,?_,mvR s (sfx_tl h) (by rw [h5];decide)⟩
    rw [decide_eq_true h5]
   ·(simp only [decide_eq_true_eq,decide_eq_false_iff_not,Bool.not_eq_true',Bool.not_eq_false'] at h5)
    rw [if_neg h5] at hp;cases hp
    refine ⟨?_,rfl⟩
    rw [decide_eq_false h5]
  ·rw [if_neg h4] at hp;cases hp
theorem patN {l r:List L.Mark} (s:G) (h:r <:+ l) {p:Pos} (hp:patK r=.error p):E 101 [.op (0,0) []] (hR l r s) (.tup [.tv [] tPat ([],([],(false,()))),.op (1,0) []]) (oDg (1,0) 14 p::hR l r s):=by
 refine ev_of (vc101 l _ s.tk s.sk s.lv s.st s.rl s.on s.tm s.lm _ ?_)
 ((repeat apply Exists.intro);refine And.intro (Need.mk (isR s h 3 (by decide))) ?_)
 refine ⟨fun h3=>?_,fun h3=>?_⟩
 ·(simp only [decide_eq_true_eq,decide_eq_false_iff_not,Bool.not_eq_true',Bool.not_eq_false'] at h3)
  rw [patK,if_pos h3] at hp;cases hp
 ·(simp only [decide_eq_true_eq,decide_eq_false_iff_not,Bool.not_eq_true',Bool.not_eq_false'] at h3)
  rw [patK,if_neg h3] at hp
  by_cases h4:(hd r).1=4
  ·rw [if_pos h4] at hp;split at hp <;> cases hp
  ·rw [if_neg h4] at hp;cases hp
   refine .inl ?_
   ((repeat apply Exists.intro);refine And.intro (Need.mk (takeN s h h4)) ?_)
   exact ⟨rfl,rfl⟩
theorem patK_sfx {r r':List L.Mark} {p:Pat} (hp:patK r=.ok (p,r')):r' <:+ r∧r'≠r:=by
 have key:∀ r:List L.Mark,(hd r).1≠0→r.tail.length<r.length:=fun r h=>by have:=hd_ne h;rw [List.length_tail];omega
 unfold patK at hp
 split at hp
 ·rename_i h3;cases hp
  exact ⟨List.tail_suffix r,fun e=>by have:=key r (by rw [h3];decide);rw [e] at this;omega⟩
 ·split at hp
  ·rename_i h4
   have h1:=key r (by rw [h4];decide)
   split at hp
   ·cases hp
    exact ⟨(List.tail_suffix _).trans (List.tail_suffix r),fun e=>by have h2:=List.length_tail (l:=r.tail);rw [e] at h2;omega⟩
   ·cases hp
    exact ⟨List.tail_suffix r,fun e=>by rw [e] at h1;omega⟩
  ·cases hp
abbrev Er:=Option (Int×Pos)
abbrev Out:=Er×List L.Mark×G
def erA:Er→AV
 | none=>noE
 | some _=>.op (1,0) []
def erH (l:List L.Mark):Out→Heap
 | (none,r,s)=>hR l r s
 | (some (c,p),r,s)=>oDg (1,0) c p::hR l r s
def tokenK (r:List L.Mark) (s:G):Out :=
 if (hd r).1≠1 then (some (14,(hd r).2.2.1),r,s)
 else if Pr.mget s.tm (hd r).2.1 false=true then (some (15,(hd r).2.2.1),r.tail,s)
 else if 20≤s.tk.length then (some (3,(hd r).2.2.1),r.tail,s)
 else match patK r.tail with
  | .error p=>(some (14,p),r.tail,s)
  | .ok (p,r')=>(none,r',{ s with tm:=Pr.mset s.tm (hd r).2.1 true,tk:=s.tk++[((hd r).2.1,(p,()))] })
def skipK (w:L.Mark) (r:List L.Mark) (s:G):Out :=
 if 4≤s.sk.length then (some (3,w.2.2.1),r,s)
 else match patK r with
  | .error p=>(some (14,p),r,s)
  | .ok (p,r')=>(none,r',{ s with sk:=s.sk++[p] })
def startK (w:L.Mark) (r:List L.Mark) (s:G):Out :=
 if s.on=true then (some (15,w.2.2.1),r,s)
 else if (hd r).1=1 then (none,r.tail,{ s with on:=true,st:=(hd r).2.1 })
 else (some (14,(hd r).2.2.1),r,{ s with on:=true,st:=[] })
section
variable {l r:List L.Mark} (w:L.Mark) (s:G) (h:r <:+ l) (hl:l.length≤100000)
include h hl
theorem tokenR:E 94 [.op (0,0) [],.tv [] TMark w] (hR l r s) (erA (tokenK r s).1) (erH l (tokenK r s)):=by
 refine ev_of (vc94 w.1 w.2.1 w.2.2.1.1 w.2.2.1.2.1 l _ s.tk s.sk s.lv s.st s.rl s.on s.tm s.lm _ ?_)
 ((repeat apply Exists.intro);refine And.intro (Need.mk (nowR s h)) ?_)
 by_cases h1:(hd r).1=1
 ·refine .inr ?_
  ((repeat apply Exists.intro);refine And.intro (Need.mk (takeR s h (by decide) h1 hl)) ?_)
  refine ⟨fun h2=>?_,fun h2=>⟨fun h3=>?_,fun h3=>?_⟩⟩
  ·rw [tokenK,if_neg (not_not_intro h1),if_pos h2];exact ⟨rfl,rfl⟩
  ·(simp only [decide_eq_true_eq,decide_eq_false_iff_not,Bool.not_eq_true',Bool.not_eq_false'] at h3)
   rw [tokenK,if_neg (not_not_intro h1),if_neg (by rw [h2];decide),if_pos (by omega)];exact ⟨rfl,rfl⟩
  ·(simp only [decide_eq_true_eq,decide_eq_false_iff_not,Bool.not_eq_true',Bool.not_eq_false'] at h3)
   rw [tokenK,if_neg (not_not_intro h1),if_neg (by rw [h2];decide),if_neg (by omega)]
   cases hp:patK r.tail with
   | error p =>
    refine .inl ?_
    ((repeat apply Exists.intro);refine And.intro (Need.mk (patN s (sfx_tl h) hp)) ?_)
    exact ⟨rfl,rfl⟩
   | ok q =>
    obtain ⟨p,r'⟩:=q
    refine .inr ?_
    ((repeat apply Exists.intro);refine And.intro (Need.mk (patR s (sfx_tl h) hl hp)) ?_)
    exact ⟨⟨by simp only [List.length_cons,List.length_nil,bigN];omega⟩,rfl,rfl⟩
 ·refine .inl ?_
  ((repeat apply Exists.intro);refine And.intro (Need.mk (takeN s h h1)) ?_)
  rw [tokenK,if_pos h1];exact ⟨rfl,rfl⟩
theorem skipR:E 95 [.op (0,0) [],.tv [] TMark w] (hR l r s) (erA (skipK w r s).1) (erH l (skipK w r s)):=by
 refine ev_of (vc95 w.1 w.2.1 w.2.2.1.1 w.2.2.1.2.1 l _ s.tk s.sk s.lv s.st s.rl s.on s.tm s.lm _ ⟨fun h1=>?_,fun h1=>?_⟩)
 ·(simp only [decide_eq_true_eq,decide_eq_false_iff_not,Bool.not_eq_true',Bool.not_eq_false'] at h1)
  rw [skipK,if_pos (by omega)];exact ⟨rfl,rfl⟩
 ·(simp only [decide_eq_true_eq,decide_eq_false_iff_not,Bool.not_eq_true',Bool.not_eq_false'] at h1)
  rw [skipK,if_neg (by omega)]
  cases hp:patK r with
  | error p =>
   refine .inl ?_
   ((repeat apply Exists.intro);refine And.intro (Need.mk (patN s h hp)) ?_)
   exact ⟨rfl,rfl⟩
  | ok q =>
   obtain ⟨p,r'⟩:=q
   refine .inr ?_
   ((repeat apply Exists.intro);refine And.intro (Need.mk (patR s h hl hp)) ?_)
   exact ⟨⟨by simp only [List.length_cons,List.length_nil,bigN];omega⟩,rfl,rfl⟩
theorem startR:E 97 [.op (0,0) [],.tv [] TMark w] (hR l r s) (erA (startK w r s).1) (erH l (startK w r s)):=by
 refine ev_of (vc97 w.1 w.2.1 w.2.2.1.1 w.2.2.1.2.1 l _ s.tk s.sk s.lv s.st s.rl s.on s.tm s.lm _ ⟨fun h1=>?_,fun h1=>?_⟩)
 ·rw [startK,if_pos h1];exact ⟨rfl,rfl⟩
 ·rw [startK,if_neg (by rw [h1];decide)]
  by_cases h2:(hd r).1=1
  ·rw [if_pos h2]
   refine .inr ?_
   ((repeat apply Exists.intro);refine And.intro (Need.mk (takeR s h (by decide) h2 hl)) ?_)
   exact ⟨rfl,rfl⟩
  ·rw [if_neg h2]
   refine .inl ?_
   ((repeat apply Exists.intro);refine And.intro (Need.mk (takeN s h h2)) ?_)
   exact ⟨rfl,rfl⟩
end
end Go.Am.D
