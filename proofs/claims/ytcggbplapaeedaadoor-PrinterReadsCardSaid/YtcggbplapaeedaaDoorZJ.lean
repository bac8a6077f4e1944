/-
  A part of the proof of a law: see the text that states it.
-/
import Derived.Test.YtcggbplapaeedaaDoorZH
import Derived.Test.YtcggbplapaeedaaDoorVcT
set_option linter.all false
namespace Go.Am.R
open Go Go.Am.Pr Go.Am.R.L
set_option maxRecDepth 100000
theorem rightO_iff (g:Gr):rightO g=true↔((∀ t∈g.1,patO t.2.1=true)∧g.1.length≤20∧onceO (g.1.map (·.1))=true)∧((∀ x∈g.2.2.1,lvO1 x=true)∧g.2.2.1.length≤10∧onceO (g.2.2.1.flatMap (·.2.1))=true)∧g.2.1.length≤4∧(∀ p∈g.2.1,patO p=true)∧nameO g.2.2.2.1=true∧0<g.2.2.2.2.1.length∧g.2.2.2.2.1.length≤40∧∀ r∈g.2.2.2.2.1,rulO r=true:=by
 simp only [rightO,tokO,lvO,Bool.and_eq_true,decide_eq_true_eq,List.all_eq_true]
end Go.Am.R
namespace Go.Am.R
open Go Go.Am.Pr Go.Am.R.L
set_option maxRecDepth 100000
theorem tkLine_eq (t:Tk):tkLine t=[37,116,111,107,101,110,32]++t.1++[32]++patT t.2.1++[10]:=by
 unfold tkLine;rw [joinL_cons,joinL_cons,joinL_one];simp
theorem skLine_eq (p:Pat):skLine p=[37,115,107,105,112,32]++patT p++[10]:=by
 unfold skLine;rw [joinL_cons,joinL_one];simp
theorem lvLine_eq (x:Lv):lvLine x=lvW x.1++spW x.2.1++[10]:=by
 unfold lvLine;rw [List.cons_append,List.nil_append,join_sp]
theorem stLine_eq (s:List Int):stLine s++twoLine=[37,115,116,97,114,116,32]++s++[10,37,37,10]:=by
 unfold stLine twoLine;rw [joinL_cons,joinL_one,joinL_one];simp
theorem rlLine_eq (r:Rl):rlLine r=ruleT r++[10]:=by
 unfold rlLine;rw [joinL_one]
end Go.Am.R
