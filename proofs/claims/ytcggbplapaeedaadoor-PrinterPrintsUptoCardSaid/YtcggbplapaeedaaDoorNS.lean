/-
  A part of the proof of a law: see the text that states it.
-/
import Derived.Test.YtcggbplapaeedaaDoorNT
set_option linter.all false
namespace Go.Am.R.L
open Go Go.Am.Pr
set_option maxRecDepth 100000
def tks:Nat→List Int→Except Int (List (Int×List Int))
 | 0,_=>.ok []
 | f+1,r=>match r with
  | []=>.ok []
  | _::_=>match tokK r with
   | .error (e,_)=>.error e
   | .ok (kd,t,m,ok)=>match tks f (r.drop m) with
    | .error e=>.error e
    | .ok l=>.ok (if ok then (kd,t)::l else l)
theorem tks_cons (f : Nat) (c : Int) (r : List Int) : tks (f + 1) (c :: r) = match tokK (c :: r) with
      | .error (e,_)=>.error e
      | .ok (kd,t,m,ok)=>match tks f ((c::r).drop m) with
        | .error e=>.error e
        | .ok l=>.ok (if ok then (kd,t)::l else l):=by
  rw [tks.eq_def]
def strip:Except (Int×Nat) (List Mk)→Except Int (List (Int×List Int))
 | .error (e,_)=>.error e
 | .ok l=>.ok (l.map fun q=>(q.1,q.2.1))
def kt (q:Mark):Int×List Int:=(q.1,q.2.1)
end Go.Am.R.L
