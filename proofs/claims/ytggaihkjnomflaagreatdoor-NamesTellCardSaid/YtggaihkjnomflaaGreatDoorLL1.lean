/-
  A part of the proof of a law: see the text that states it.
-/
import Derived.Test.YtggaihkjnomflaaGreatDoorLK1
set_option linter.all false
namespace Go.Am.N.L
open Go Go.Am.Pr
set_option maxRecDepth 100000
abbrev d5Z:Ty:=.pair (.int .i64) (.pair .str (.pair W3 .unit))
abbrev qiZ:Ty:=.pair (.int .i64) (.pair W3 .unit)
abbrev Mk:=Int×List Int×Nat
def lexS:Nat→Nat→List Int→Except (Int×Nat) (List Mk)
 | 0,_,_=>.ok []
 | f+1,k,r=>match r with
  | []=>.ok []
  | _::_=>match dVZ r with
   | .error (e,d)=>.error (e,k+d)
   | .ok (kd,t,m,ok)=>match lexS f (k+m) (r.drop m) with
    | .error e=>.error e
    | .ok l=>.ok (if ok then (kd,t,k)::l else l)
theorem cMZ (f k : Nat) (c : Int) (r : List Int) : lexS (f + 1) k (c :: r) = match dVZ (c :: r) with
      | .error (e,d)=>.error (e,k+d)
      | .ok (kd,t,m,ok)=>match lexS f (k+m) ((c::r).drop m) with
        | .error e=>.error e
        | .ok l=>.ok (if ok then (kd,t,k)::l else l):=by
  rw [lexS.eq_def]
abbrev Mark:=Int×List Int×(Int×Int×Unit)×Unit
def oBZ (s:List Int) (q:Mk):Mark:=(q.1,q.2.1,jBZ (s.take q.2.2),())
def mAZ (s:List Int):Except (Int×Nat) (List Mark)→AV×adZ
 | .error (e,k)=>(.tup [.tv [] (.slice d5Z) [],.tv [] qiZ (e,jBZ (s.take k),())],[])
 | .ok l=>(.tup [.tv [] (.slice d5Z) (l++[(0,[],jBZ s,())]),.tv [] qiZ (0,(0,0,()),())],[])
def qXZ (s:List Int) (out:List Mark):Except (Int×Nat) (List Mk)→Except (Int×Nat) (List Mark)
 | .error e=>.error e
 | .ok l=>.ok (out++l.map (oBZ s))
theorem roZ (s:List Int) (i:Int) (k:Nat) (e:i=k) (hk:k≤s.length) (hl:s.length≤1000000):E 56 [.tv [] .str s,.tv [] (.int .i64) i] [] (.tv [] W3 (jBZ (s.take k))) []:=by
 have:=tKZ s i hl
 have h2:(max 0 (min i (s.length:Int))).toNat=k:=by omega
 rwa [h2] at this
end Go.Am.N.L
