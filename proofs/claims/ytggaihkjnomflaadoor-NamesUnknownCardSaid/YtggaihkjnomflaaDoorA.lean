/-
  A part of the proof of a law: see the text that states it.
-/
import Derived.Test.YtggaihkjnomflaaDoorLL1
import Derived.Test.YtggaihkjnomflaaDoorVc3
set_option linter.all false
namespace Go.Am.D
open Go Go.Am.Pr Go.Am.D.L
set_option maxRecDepth 100000
abbrev iv (n:Int):AV:=.tv [] (.int .i64) n
abbrev bv (b:Bool):AV:=.tv [] .bool b
abbrev Pos:=Int×Int×Unit
abbrev tPat:Ty:=.pair .str (.pair .str qt4)
abbrev tTk:Ty:=.pair .str (.pair tPat .unit)
abbrev tLv:Ty:=.pair (.int .i64) (.pair qt9 .unit)
abbrev tRl:Ty:=.pair .str (.pair qt9 (.pair .str (.pair .str .unit)))
abbrev tGr:Ty:=.pair (.slice tTk) (.pair (.slice tPat) (.pair (.slice tLv) (.pair .str (.pair (.slice tRl) .unit))))
abbrev tRd:Ty:=.pair (.slice TMark) (.pair (.int .i64) (.pair tGr (.pair (.mref .str .bool) (.pair (.mref .str .bool) qt4))))
abbrev Pat:=List Int×List Int×Bool×Unit
abbrev Tk:=List Int×Pat×Unit
abbrev Lv:=Int×List qT0×Unit
abbrev Rl:=List Int×List qT0×List Int×List Int×Unit
abbrev Gr:=List Tk×List Pat×List Lv×List Int×List Rl×Unit
abbrev Mp:=List (List Int×Bool)
structure G where
 tk:List Tk
 sk:List Pat
 lv:List Lv
 st:List Int
 rl:List Rl
 on:Bool
 tm:Mp
 lm:Mp
abbrev G.gr (s:G):Gr:=(s.tk,(s.sk,(s.lv,(s.st,(s.rl,())))))
abbrev mk0:L.Mark:=((0:Int),(([]:List Int),(((0:Int),((0:Int),())),())))
def hd:List L.Mark→L.Mark
 | []=>mk0
 | m::_=>m
abbrev oRd (l:List L.Mark) (i:Int) (s:G):Key×Ob:=((0,0),⟨⟨tRd,(l,(i,(s.gr,((some (0,1):Option Key),((some (0,2):Option Key),(s.on,()))))))⟩,[[2,0],[2,1],[2,2],[2,4]]⟩)
abbrev hRd (l:List L.Mark) (i:Int) (s:G):Heap:=[oRd l i s,((0,1),⟨⟨.mp .str .bool,s.tm⟩,[]⟩),((0,2),⟨⟨.mp .str .bool,s.lm⟩,[]⟩)]
abbrev oDg (k:Key) (c:Int) (p:Pos):Key×Ob:=(k,⟨⟨TDiag,(c,(p,()))⟩,[]⟩)
theorem drop_hd {l:List L.Mark} {i:Nat} (h:i<l.length):hd (l.drop i)=l.getD i mk0:=by rw [drop_cons mk0 h];rfl
theorem drop_no {l:List L.Mark} {i:Nat} (h:l.length≤i):hd (l.drop i)=mk0:=by rw [List.drop_eq_nil_of_le h];rfl
theorem hd_lt {l:List L.Mark} {i:Nat} (h:(hd (l.drop i)).1≠0):i<l.length:=by
 apply Classical.byContradiction;intro hn
 rw [drop_no (by omega)] at h;exact h rfl
section
variable (l:List L.Mark) (i:Nat) (s:G)
theorem now_ev:E 73 [.op (0,0) []] (hRd l i s) (.tv [] TMark (hd (l.drop i))) (hRd l i s):=by
 refine ev_of (vc73 l i s.tk s.sk s.lv s.st s.rl s.on s.tm s.lm _ ⟨fun h=>?_,fun h=>⟨?_,?_⟩⟩)
 ·(simp only [decide_eq_true_eq,decide_eq_false_iff_not,Bool.not_eq_true',Bool.not_eq_false'] at h);rw [drop_no (by omega)];exact ⟨rfl,rfl⟩
 ·(simp only [decide_eq_true_eq,decide_eq_false_iff_not,Bool.not_eq_true',Bool.not_eq_false'] at h);exact ⟨by omega⟩
 ·(simp only [decide_eq_true_eq,decide_eq_false_iff_not,Bool.not_eq_true',Bool.not_eq_false'] at h);rw [drop_hd (by omega),Int.toNat_natCast];exact ⟨rfl,rfl⟩
theorem wrong_ev (c:Int):E 88 [.op (0,0) [],iv c] (hRd l i s) (.op (1,0) []) (oDg (1,0) c (hd (l.drop i)).2.2.1::hRd l i s):=by
 refine ev_of (vc88 c l i s.tk s.sk s.lv s.st s.rl s.on s.tm s.lm _ ?_)
 ((repeat apply Exists.intro);refine And.intro (Need.mk (now_ev l i s)) ?_)
 exact ⟨rfl,rfl⟩
theorem is_ev (k:Int) (hk:k≠0):E 91 [.op (0,0) [],iv k] (hRd l i s) (bv (decide ((hd (l.drop i)).1=k))) (hRd l i s):=by
 refine ev_of (vc91 k l i s.tk s.sk s.lv s.st s.rl s.on s.tm s.lm _ ⟨fun h=>?_,fun h=>?_⟩)
 ·((repeat apply Exists.intro);refine And.intro (Need.mk (now_ev l i s)) ?_)
  exact ⟨rfl,rfl⟩
 ·(simp only [decide_eq_true_eq,decide_eq_false_iff_not,Bool.not_eq_true',Bool.not_eq_false'] at h)
  rw [drop_no (by omega)]
  have:decide ((mk0:L.Mark).1=k)=false:=decide_eq_false (Ne.symm hk)
  rw [this];exact ⟨rfl,rfl⟩
theorem take_ok {k:Int} (hk:k≠0) (h:(hd (l.drop i)).1=k) (hl:l.length≤100000):E 89 [.op (0,0) [],iv k] (hRd l i s) (.tup [.tv [] .str (hd (l.drop i)).2.1,.tv [] .ref (none:Option Key)]) (hRd l ((i+1:Nat):Int) s):=by
 have hi:=hd_lt (l:=l) (i:=i) (by rw [h];exact hk)
 refine ev_of (vc89 k l i s.tk s.sk s.lv s.st s.rl s.on s.tm s.lm _ ?_)
 ((repeat apply Exists.intro);refine And.intro (Need.mk (now_ev l i s)) ?_)
 refine ⟨fun q=>by (simp only [decide_eq_true_eq,decide_eq_false_iff_not,Bool.not_eq_true',Bool.not_eq_false'] at q);exact absurd h q,fun _=>⟨⟨by omega⟩,?_⟩⟩
 exact ⟨rfl,rfl⟩
theorem take_no {k:Int} (h:(hd (l.drop i)).1≠k):E 89 [.op (0,0) [],iv k] (hRd l i s) (.tup [.tv [] .str [],.op (1,0) []]) (oDg (1,0) 14 (hd (l.drop i)).2.2.1::hRd l i s):=by
 refine ev_of (vc89 k l i s.tk s.sk s.lv s.st s.rl s.on s.tm s.lm _ ?_)
 ((repeat apply Exists.intro);refine And.intro (Need.mk (now_ev l i s)) ?_)
 refine ⟨fun _=>?_,fun q=>by (simp only [decide_eq_true_eq,decide_eq_false_iff_not,Bool.not_eq_true',Bool.not_eq_false'] at q);exact (q h).elim⟩
 ((repeat apply Exists.intro);refine And.intro (Need.mk (wrong_ev l i s 14)) ?_)
 exact ⟨rfl,rfl⟩
end
theorem assoc_ev (t:List Int):E 102 [.tv [] .str t] [] (iv (if t=[108,101,102,116] then 1 else if t=[114,105,103,104,116] then 2 else 3)) []:=by
 refine ev_of (vc102 t _ ⟨fun h=>?_,fun h=>⟨fun h2=>?_,fun h2=>?_⟩⟩)
 ·(simp only [decide_eq_true_eq,decide_eq_false_iff_not,Bool.not_eq_true',Bool.not_eq_false'] at h);rw [if_pos h];exact ⟨rfl,rfl⟩
 ·(simp only [decide_eq_true_eq,decide_eq_false_iff_not,Bool.not_eq_true',Bool.not_eq_false'] at h);(simp only [decide_eq_true_eq,decide_eq_false_iff_not,Bool.not_eq_true',Bool.not_eq_false'] at h2);rw [if_neg h,if_pos h2];exact ⟨rfl,rfl⟩
 ·(simp only [decide_eq_true_eq,decide_eq_false_iff_not,Bool.not_eq_true',Bool.not_eq_false'] at h);(simp only [decide_eq_true_eq,decide_eq_false_iff_not,Bool.not_eq_true',Bool.not_eq_false'] at h2);rw [if_neg h,if_neg h2];exact ⟨rfl,rfl⟩
theorem hd_nil:hd []=mk0:=rfl
theorem hd_cons (m:L.Mark) (r:List L.Mark):hd (m::r)=m:=rfl
attribute [irreducible] hd
end Go.Am.D
