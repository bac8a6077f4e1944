/-
  A part of the proof of a law: see the text that states it.
-/
import Derived.Test.YtfnnapgpcndcjaaGreatDoorVB
import Derived.Test.YtfnnapgpcndcjaaGreatDoorVc9
import Derived.Test.YtfnnapgpcndcjaaGreatDoorVcC
import Derived.Test.YtfnnapgpcndcjaaGreatDoorVcD
set_option linter.all false
namespace Go.Am.Z.V
open Go
set_option maxRecDepth 100000
theorem i64_eq (n:Int):IntKind.wrap .i64 n=if n % 18446744073709551616 ≥ 9223372036854775808 then n % 18446744073709551616-18446744073709551616 else n % 18446744073709551616:=by
 show (if (true&&decide (n % 18446744073709551616 ≥ 9223372036854775808))=true then n % 18446744073709551616-18446744073709551616 else n % 18446744073709551616)=_
 simp
theorem w64_of {a b:Int} (h:a % 18446744073709551616=b % 18446744073709551616):w64 a=w64 b:=by
 unfold w64;rw [i64_eq,i64_eq,h]
def twoK (k:Int) (a b:Val):Val:=if a.1=3 then a else if b.1=3 then b else if a.1≠1 then (3,33,()) else if b.1≠1 then (3,33,()) else signK k a.2.1 b.2.1
theorem tvV {a b:Val} (h:a=b):AV.tv [] tV a=AV.tv [] tV b:=by rw [h]
theorem n1 {a b:Int} (h:a=b):((1:Int),a,())=(1,b,()):=by rw [h]
def neg1 (a:Val):Val:=if a.1=3 then a else if a.1≠1 then (3,33,()) else (1,w64 (0-a.2.1),())
def partK (vals:List Val) (nodes:List Int) (k n:Int) (m:List Val):Val :=
 if k=1 then (1,n,()) else if k=2 then vals.getD (n-1).toNat V0 else if k=3 then (2,nodes.getD (n-1).toNat 0,())
 else if k=4 then neg1 (m.getD 0 V0) else twoK k (m.getD 0 V0) (m.getD 1 V0)
mutual
def meanK (vals:List Val) (nodes:List Int):XT→Val
  | .mk k n l=>partK vals nodes k n (meanL vals nodes l)
def meanL (vals:List Val) (nodes:List Int):List XT→List Val
  | []=>[]
  | x::l=>meanK vals nodes x::meanL vals nodes l
end
inductive FitX (a:Int):XT→Prop
 | mk (x:XT) (h:fitsK x.kind x.num a=true) (t:(x.kids.length:Int)=manyK x.kind) (k:∀ y∈x.kids,FitX a y):FitX a x
theorem FitX.kid {a:Int} {x:XT} (h:FitX a x):∀ y∈x.kids,FitX a y:=by cases h;assumption
theorem map_getD {α β:Type} (f:α→β) (l:List α) (i:Nat) (d:α) (e:β) (h:i<l.length):(l.map f).getD i e=f (l.getD i d):=by
 simp [List.getD_eq_getElem?_getD,List.getElem?_eq_getElem h]
end Go.Am.Z.V
