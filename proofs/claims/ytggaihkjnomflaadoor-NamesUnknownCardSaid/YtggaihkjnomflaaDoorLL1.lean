/-
  A part of the proof of a law: see the text that states it.
-/
import Derived.Test.YtggaihkjnomflaaDoorLK1
set_option linter.all false
namespace Go.Am.D.L
open Go Go.Am.Pr
set_option maxRecDepth 100000
abbrev TMark:Ty:=.pair (.int .i64) (.pair .str (.pair W3 .unit))
abbrev TDiag:Ty:=.pair (.int .i64) (.pair W3 .unit)
abbrev Mk:=Int×List Int×Nat
def lexS:Nat→Nat→List Int→Except (Int×Nat) (List Mk)
 | 0,_,_=>.ok []
 | f+1,k,r=>match r with
  | []=>.ok []
  | _::_=>match tokK r with
   | .error (e,d)=>.error (e,k+d)
   | .ok (kd,t,m,ok)=>match lexS f (k+m) (r.drop m) with
    | .error e=>.error e
    | .ok l=>.ok (if ok then (kd,t,k)::l else l)
theorem lexS_cons (f k : Nat) (c : Int) (r : List Int) : lexS (f + 1) k (c :: r) = match tokK (c :: r) with
      | .error (e,d)=>.error (e,k+d)
      | .ok (kd,t,m,ok)=>match lexS f (k+m) ((c::r).drop m) with
        | .error e=>.error e
        | .ok l=>.ok (if ok then (kd,t,k)::l else l):=by
  rw [lexS.eq_def]
abbrev Mark:=Int×List Int×(Int×Int×Unit)×Unit
def markOf (s:List Int) (q:Mk):Mark:=(q.1,q.2.1,posK (s.take q.2.2),())
def lexOut (s:List Int):Except (Int×Nat) (List Mark)→AV×Heap
 | .error (e,k)=>(.tup [.tv [] (.slice TMark) [],.tv [] TDiag (e,posK (s.take k),())],[])
 | .ok l=>(.tup [.tv [] (.slice TMark) (l++[(0,[],posK s,())]),.tv [] TDiag (0,(0,0,()),())],[])
def glue (s:List Int) (out:List Mark):Except (Int×Nat) (List Mk)→Except (Int×Nat) (List Mark)
 | .error e=>.error e
 | .ok l=>.ok (out++l.map (markOf s))
theorem at_nat (s:List Int) (i:Int) (k:Nat) (e:i=k) (hk:k≤s.length) (hl:s.length≤1000000):E 47 [.tv [] .str s,.tv [] (.int .i64) i] [] (.tv [] W3 (posK (s.take k))) []:=by
 have:=at_ev s i hl
 have h2:(max 0 (min i (s.length:Int))).toNat=k:=by omega
 rwa [h2] at this
end Go.Am.D.L
