/-
  A part of the proof of a law: see the text that states it.
-/
import Derived.Test.YtfnnapgpcndcjaaGreatDoorHead
set_option linter.all false
namespace Go.Am.Z
open Go
set_option maxRecDepth 100000
set_option maxHeartbeats 4000000
theorem vc27 (x0:List ((Int×(Int×Unit)))) (x1:List ((Int×(Int×Unit)))) (x2:List (Int)) (Q:AV→Heap→Prop) (h :
(∃ y0 y1:Int,
 (Need (E 55 [(.tv [] qt21 x0),(.tv [] (.int .i64) (x1.length:Int))] [] (.tup [(.tv [] (.int .i64) y0),(.tv [] (.int .i64) y1)]) []) ∧
 ((((decide (y1≠(0:Int)))=true) →
 (∃ y3 y4:Int,
 (Need (E 56 [(.tv [] (.int .i64) (31:Int))] [] (.tv [] qt1 (y3,(y4,()))) []) ∧
 (Q (.tv [] qt1 (y3,(y4,()))) [])))) ∧
 (((decide (y1≠(0:Int)))=false) →
 ((((decide ((x0.length:Int)=(0:Int)))=true) →
 (∃ y7 y8:Int,
 (Need (E 56 [(.tv [] (.int .i64) (31:Int))] [] (.tv [] qt1 (y7,(y8,()))) []) ∧
 (Q (.tv [] qt1 (y7,(y8,()))) [])))) ∧
 (((decide ((x0.length:Int)=(0:Int)))=false) →
 ((((decide ((x1.length:Int)≠(x2.length:Int)))=true) →
 (∃ y11 y12:Int,
 (Need (E 56 [(.tv [] (.int .i64) (31:Int))] [] (.tv [] qt1 (y11,(y12,()))) []) ∧
 (Q (.tv [] qt1 (y11,(y12,()))) [])))) ∧
 (((decide ((x1.length:Int)≠(x2.length:Int)))=false) →
 (Need (E 57 [] [] (.tv [] (.mref (.int .i64) .fnc) (some (1,0))) [((1,0),⟨⟨(.mp (.int .i64) .fnc),[((5:Int),(some 84)),((6:Int),(some 85)),((7:Int),(some 86)),((8:Int),(some 87)),((9:Int),(some 88))]⟩,[]⟩)]) ∧
 (∃ y14:(Int→(Int→(Int→(Int→((List qT4)→Prop))))),
 (∃ y15:(Int→(Int→(Int→(Int→((List qT4)→Nat))))),
 (Need (0=0) ∧
 ((y14 ((0:Nat):Int) ((0:Nat):Int) (0:Int) ((0:Nat):Int) []) ∧
 (∀ z16 z17 z18 z19:Int,
 (∀ z20:(List qT4),
 ((y14 z16 z17 z18 z19 z20) →
 ((((decide (z18<(x0.length:Int)))=true) →
 (Need ((0≤z18)∧(z18<(x0.length:Int))) ∧
 ((((decide ((List.getD x0 z18.toNat ((0:Int),((0:Int),()))).1=(1:Int)))=true) →
 (∃ y24 y25:Int,
 (Need (E 58 [(.tv [] (.int .i64) (List.getD x0 z18.toNat ((0:Int),((0:Int),()))).2.1)] [] (.tv [] qt1 (y24,(y25,()))) []) ∧
 (Need ((z16.toNat=z19.toNat)∧((z17.toNat≤z20.length)∧((0<(List.length [(y24,(y25,()))]))∧((z20.length+(List.length [(y24,(y25,()))]))≤bigN)))) ∧
 (Need ((-9223372036854775808≤(z18+1))∧((z18+1)≤9223372036854775807)) ∧
 (Need (([((5:Int),(some 84)),((6:Int),(some 85)),((7:Int),(some 86)),((8:Int),(some 87)),((9:Int),(some 88))]=[((5:Int),(some 84)),((6:Int),(some 85)),((7:Int),(some 86)),((8:Int),(some 87)),((9:Int),(some 88))])∧((((0:Int),((0:Int),()))=((0:Int),((0:Int),())))∧((z17.toNat+(List.length [(y24,(y25,()))]))=(List.length ((List.take z17.toNat z20)++[(y24,(y25,()))]))))) ∧
 ((y14 (((Nat.succ z19.toNat):Nat):Int) (((z17.toNat+(List.length [(y24,(y25,()))])):Nat):Int) (z18+1) (((Nat.succ z19.toNat):Nat):Int) ((List.take z17.toNat z20)++[(y24,(y25,()))])) ∧
   Need ((y15 (((Nat.succ z19.toNat):Nat):Int) (((z17.toNat+(List.length [(y24,(y25,()))])):Nat):Int) (z18+1) (((Nat.succ z19.toNat):Nat):Int) ((List.take z17.toNat z20)++[(y24,(y25,()))]))<(y15 z16 z17 z18 z19 z20))))))))) ∧
 (((decide ((List.getD x0 z18.toNat ((0:Int),((0:Int),()))).1=(1:Int)))=false) →
 ((((decide ((List.getD x0 z18.toNat ((0:Int),((0:Int),()))).1=(2:Int)))=true) →
 (Need ((-9223372036854775808≤((List.getD x0 z18.toNat ((0:Int),((0:Int),()))).2.1-(1:Int)))∧(((List.getD x0 z18.toNat ((0:Int),((0:Int),()))).2.1-(1:Int))≤9223372036854775807)) ∧
 (Need (((0:Int)≤((List.getD x0 z18.toNat ((0:Int),((0:Int),()))).2.1-(1:Int)))∧(((List.getD x0 z18.toNat ((0:Int),((0:Int),()))).2.1-(1:Int))<(x1.length:Int))) ∧
 (Need ((z16.toNat=z19.toNat)∧((z17.toNat≤z20.length)∧((0<(List.length [(List.getD x1 (Int.toNat ((List.getD x0 z18.toNat ((0:Int),((0:Int),()))).2.1-(1:Int))) ((0:Int),((0:Int),())))]))∧((z20.length+(List.length [(List.getD x1 (Int.toNat ((List.getD x0 z18.toNat ((0:Int),((0:Int),()))).2.1-(1:Int))) ((0:Int),((0:Int),())))]))≤bigN)))) ∧
 (Need ((-9223372036854775808≤(z18+1))∧((z18+1)≤9223372036854775807)) ∧
 (Need (([((5:Int),(some 84)),((6:Int),(some 85)),((7:Int),(some 86)),((8:Int),(some 87)),((9:Int),(some 88))]=[((5:Int),(some 84)),((6:Int),(some 85)),((7:Int),(some 86)),((8:Int),(some 87)),((9:Int),(some 88))])∧((((0:Int),((0:Int),()))=((0:Int),((0:Int),())))∧((z17.toNat+(List.length [(List.getD x1 (Int.toNat ((List.getD x0 z18.toNat ((0:Int),((0:Int),()))).2.1-(1:Int))) ((0:Int),((0:Int),())))]))=(List.length ((List.take z17.toNat z20)++[(List.getD x1 (Int.toNat ((List.getD x0 z18.toNat ((0:Int),((0:Int),()))).2.1-(1:Int))) ((0:Int),((0:Int),())))]))))) ∧
 ((y14 (((Nat.succ z19.toNat):Nat):Int) (((z17.toNat+(List.length [(List.getD x1 (Int.toNat ((List.getD x0 z18.toNat ((0:Int),((0:Int),()))).2.1-(1:Int))) ((0:Int),((0:Int),())))])):Nat):Int) (z18+1) (((Nat.succ z19.toNat):Nat):Int) ((List.take z17.toNat z20)++[(List.getD x1 (Int.toNat ((List.getD x0 z18.toNat ((0:Int),((0:Int),()))).2.1-(1:Int))) ((0:Int),((0:Int),())))])) ∧
   Need ((y15 (((Nat.succ z19.toNat):Nat):Int) (((z17.toNat+(List.length [(List.getD x1 (Int.toNat ((List.getD x0 z18.toNat ((0:Int),((0:Int),()))).2.1-(1:Int))) ((0:Int),((0:Int),())))])):Nat):Int) (z18+1) (((Nat.succ z19.toNat):Nat):Int) ((List.take z17.toNat z20)++[(List.getD x1 (Int.toNat ((List.getD x0 z18.toNat ((0:Int),((0:Int),()))).2.1-(1:Int))) ((0:Int),((0:Int),())))]))<(y15 z16 z17 z18 z19 z20))))))))) ∧
 (((decide ((List.getD x0 z18.toNat ((0:Int),((0:Int),()))).1=(2:Int)))=false) →
 ((((decide ((List.getD x0 z18.toNat ((0:Int),((0:Int),()))).1=(3:Int)))=true) →
 (Need ((-9223372036854775808≤((List.getD x0 z18.toNat ((0:Int),((0:Int),()))).2.1-(1:Int)))∧(((List.getD x0 z18.toNat ((0:Int),((0:Int),()))).2.1-(1:Int))≤9223372036854775807)) ∧
 (Need (((0:Int)≤((List.getD x0 z18.toNat ((0:Int),((0:Int),()))).2.1-(1:Int)))∧(((List.getD x0 z18.toNat ((0:Int),((0:Int),()))).2.1-(1:Int))<(x2.length:Int))) ∧
 (Need ((z16.toNat=z19.toNat)∧((z17.toNat≤z20.length)∧((0<(List.length [((2:Int),((List.getD x2 (Int.toNat ((List.getD x0 z18.toNat ((0:Int),((0:Int),()))).2.1-(1:Int))) (0:Int)),()))]))∧((z20.length+(List.length [((2:Int),((List.getD x2 (Int.toNat ((List.getD x0 z18.toNat ((0:Int),((0:Int),()))).2.1-(1:Int))) (0:Int)),()))]))≤bigN)))) ∧
 (Need ((-9223372036854775808≤(z18+1))∧((z18+1)≤9223372036854775807)) ∧
 (Need (([((5:Int),(some 84)),((6:Int),(some 85)),((7:Int),(some 86)),((8:Int),(some 87)),((9:Int),(some 88))]=[((5:Int),(some 84)),((6:Int),(some 85)),((7:Int),(some 86)),((8:Int),(some 87)),((9:Int),(some 88))])∧((((0:Int),((0:Int),()))=((0:Int),((0:Int),())))∧((z17.toNat+(List.length [((2:Int),((List.getD x2 (Int.toNat ((List.getD x0 z18.toNat ((0:Int),((0:Int),()))).2.1-(1:Int))) (0:Int)),()))]))=(List.length ((List.take z17.toNat z20)++[((2:Int),((List.getD x2 (Int.toNat ((List.getD x0 z18.toNat ((0:Int),((0:Int),()))).2.1-(1:Int))) (0:Int)),()))]))))) ∧
 ((y14 (((Nat.succ z19.toNat):Nat):Int) (((z17.toNat+(List.length [((2:Int),((List.getD x2 (Int.toNat ((List.getD x0 z18.toNat ((0:Int),((0:Int),()))).2.1-(1:Int))) (0:Int)),()))])):Nat):Int) (z18+1) (((Nat.succ z19.toNat):Nat):Int) ((List.take z17.toNat z20)++[((2:Int),((List.getD x2 (Int.toNat ((List.getD x0 z18.toNat ((0:Int),((0:Int),()))).2.1-(1:Int))) (0:Int)),()))])) ∧
   Need ((y15 (((Nat.succ z19.toNat):Nat):Int) (((z17.toNat+(List.length [((2:Int),((List.getD x2 (Int.toNat ((List.getD x0 z18.toNat ((0:Int),((0:Int),()))).2.1-(1:Int))) (0:Int)),()))])):Nat):Int) (z18+1) (((Nat.succ z19.toNat):Nat):Int) ((List.take z17.toNat z20)++[((2:Int),((List.getD x2 (Int.toNat ((List.getD x0 z18.toNat ((0:Int),((0:Int),()))).2.1-(1:Int))) (0:Int)),()))]))<(y15 z16 z17 z18 z19 z20))))))))) ∧
 (((decide ((List.getD x0 z18.toNat ((0:Int),((0:Int),()))).1=(3:Int)))=false) →
 ((((decide ((List.getD x0 z18.toNat ((0:Int),((0:Int),()))).1=(4:Int)))=true) →
 (Need ((-9223372036854775808≤((z17.toNat:Int)-(1:Int)))∧(((z17.toNat:Int)-(1:Int))≤9223372036854775807)) ∧
 (Need (((0:Int)≤((z17.toNat:Int)-(1:Int)))∧((((z17.toNat:Int)-(1:Int))≤(z17.toNat:Int))∧((z17.toNat:Int)≤(z17.toNat:Int)))) ∧
 (∃ y32 y33:Int,
 (∃ y34:Bool,
 (∃ y35:Nat,
 (∃ y36:(List qT4),
 (Need (E 59 [(.tv [] (.sref qt1) (some ((0,0),(z16.toNat,((0+(Int.toNat ((z17.toNat:Int)-(1:Int)))),((Int.toNat (z17.toNat:Int))-(Int.toNat ((z17.toNat:Int)-(1:Int)))))))))] (hq15 z19.toNat z20) (.tup [(.tv [] qt1 (y32,(y33,()))),(.tv [] .bool y34)]) (hq15 y35 y36)) ∧
 ((((!y34)=true) →
 (Need ((-9223372036854775808≤((z17.toNat:Int)-(1:Int)))∧(((z17.toNat:Int)-(1:Int))≤9223372036854775807)) ∧
 (Need (((0:Int)≤((z17.toNat:Int)-(1:Int)))∧(((z17.toNat:Int)-(1:Int))<(z17.toNat:Int))) ∧
 (Need (y35=z16.toNat) ∧
 (Need ((0+(Int.toNat ((z17.toNat:Int)-(1:Int))))<y36.length) ∧
 (Need (y35=z16.toNat) ∧
 (Need ((0+(Int.toNat ((z17.toNat:Int)-(1:Int))))<y36.length) ∧
 (∃ y38 y39:Int,
 (Need (E 58 [(.tv [] (.int .i64) (IntKind.wrap .i64 ((0:Int)-(List.getD y36 (0+(Int.toNat ((z17.toNat:Int)-(1:Int)))) ((0:Int),((0:Int),()))).2.1)))] [] (.tv [] qt1 (y38,(y39,()))) []) ∧
 (Need ((-9223372036854775808≤((z17.toNat:Int)-(1:Int)))∧(((z17.toNat:Int)-(1:Int))≤9223372036854775807)) ∧
 (Need (((0:Int)≤((z17.toNat:Int)-(1:Int)))∧(((z17.toNat:Int)-(1:Int))<(z17.toNat:Int))) ∧
 (Need (y35=z16.toNat) ∧
 (Need ((0+(Int.toNat ((z17.toNat:Int)-(1:Int))))<y36.length) ∧
 (Need ((-9223372036854775808≤(z18+1))∧((z18+1)≤9223372036854775807)) ∧
 (Need (([((5:Int),(some 84)),((6:Int),(some 85)),((7:Int),(some 86)),((8:Int),(some 87)),((9:Int),(some 88))]=[((5:Int),(some 84)),((6:Int),(some 85)),((7:Int),(some 86)),((8:Int),(some 87)),((9:Int),(some 88))])∧((((0:Int),((0:Int),()))=((0:Int),((0:Int),())))∧(y36.length=(List.length (List.set y36 (0+(Int.toNat ((z17.toNat:Int)-(1:Int)))) (y38,(y39,()))))))) ∧
 ((y14 (z16.toNat : Int) (z17.toNat : Int) (z18 + 1) (y35 : Int) (List.set y36 (0 + (Int.toNat ((z17.toNat : Int) - (1 : Int)))) (y38, (y39, ())))) ∧
    Need ((y15 (z16.toNat:Int) (z17.toNat:Int) (z18+1) (y35:Int) (List.set y36 (0+(Int.toNat ((z17.toNat:Int)-(1:Int)))) (y38,(y39,()))))<(y15 z16 z17 z18 z19 z20)))))))))))))))))) ∧
 (((!y34)=false) →
 (Need ((-9223372036854775808≤((z17.toNat:Int)-(1:Int)))∧(((z17.toNat:Int)-(1:Int))≤9223372036854775807)) ∧
 (Need (((0:Int)≤((z17.toNat:Int)-(1:Int)))∧(((z17.toNat:Int)-(1:Int))<(z17.toNat:Int))) ∧
 (Need (y35=z16.toNat) ∧
 (Need ((0+(Int.toNat ((z17.toNat:Int)-(1:Int))))<y36.length) ∧
 (Need ((-9223372036854775808≤(z18+1))∧((z18+1)≤9223372036854775807)) ∧
 (Need (([((5:Int),(some 84)),((6:Int),(some 85)),((7:Int),(some 86)),((8:Int),(some 87)),((9:Int),(some 88))]=[((5:Int),(some 84)),((6:Int),(some 85)),((7:Int),(some 86)),((8:Int),(some 87)),((9:Int),(some 88))])∧((((0:Int),((0:Int),()))=((0:Int),((0:Int),())))∧(y36.length=(List.length (List.set y36 (0+(Int.toNat ((z17.toNat:Int)-(1:Int)))) (y32,(y33,()))))))) ∧
 ((y14 (z16.toNat:Int) (z17.toNat:Int) (z18+1) (y35:Int) (List.set y36 (0+(Int.toNat ((z17.toNat:Int)-(1:Int)))) (y32,(y33,())))) ∧
   Need ((y15 (z16.toNat:Int) (z17.toNat:Int) (z18+1) (y35:Int) (List.set y36 (0+(Int.toNat ((z17.toNat:Int)-(1:Int)))) (y32,(y33,()))))<(y15 z16 z17 z18 z19 z20))))))))))))))))))) ∧
 (((decide ((List.getD x0 z18.toNat ((0:Int),((0:Int),()))).1=(4:Int)))=false) →
 (Need ((-9223372036854775808≤((z17.toNat:Int)-(2:Int)))∧(((z17.toNat:Int)-(2:Int))≤9223372036854775807)) ∧
 (Need (((0:Int)≤((z17.toNat:Int)-(2:Int)))∧((((z17.toNat:Int)-(2:Int))≤(z17.toNat:Int))∧((z17.toNat:Int)≤(z17.toNat:Int)))) ∧
 (∃ y42 y43:Int,
 (∃ y44:Bool,
 (∃ y45:Nat,
 (∃ y46:(List qT4),
 (Need (E 59 [(.tv [] (.sref qt1) (some ((0,0),(z16.toNat,((0+(Int.toNat ((z17.toNat:Int)-(2:Int)))),((Int.toNat (z17.toNat:Int))-(Int.toNat ((z17.toNat:Int)-(2:Int)))))))))] (hq15 z19.toNat z20) (.tup [(.tv [] qt1 (y42,(y43,()))),(.tv [] .bool y44)]) (hq15 y45 y46)) ∧
 ((((!y44)=true) →
 ((((List.getD x0 z18.toNat ((0:Int),((0:Int),()))).1=(5:Int)) →
 (Need ((-9223372036854775808≤((z17.toNat:Int)-(2:Int)))∧(((z17.toNat:Int)-(2:Int))≤9223372036854775807)) ∧
 (Need (((0:Int)≤((z17.toNat:Int)-(2:Int)))∧(((z17.toNat:Int)-(2:Int))<(z17.toNat:Int))) ∧
 (Need (y45=z16.toNat) ∧
 (Need ((0+(Int.toNat ((z17.toNat:Int)-(2:Int))))<y46.length) ∧
 (Need (y45=z16.toNat) ∧
 (Need ((0+(Int.toNat ((z17.toNat:Int)-(2:Int))))<y46.length) ∧
 (Need ((-9223372036854775808≤((z17.toNat:Int)-(1:Int)))∧(((z17.toNat:Int)-(1:Int))≤9223372036854775807)) ∧
 (Need (((0:Int)≤((z17.toNat:Int)-(1:Int)))∧(((z17.toNat:Int)-(1:Int))<(z17.toNat:Int))) ∧
 (Need (y45=z16.toNat) ∧
 (Need ((0+(Int.toNat ((z17.toNat:Int)-(1:Int))))<y46.length) ∧
 (Need (y45=z16.toNat) ∧
 (Need ((0+(Int.toNat ((z17.toNat:Int)-(1:Int))))<y46.length) ∧
 (∃ y49 y50:Int,
 (Need (E 84 [(.tv [] (.int .i64) (List.getD y46 (0+(Int.toNat ((z17.toNat:Int)-(2:Int)))) ((0:Int),((0:Int),()))).2.1),(.tv [] (.int .i64) (List.getD y46 (0+(Int.toNat ((z17.toNat:Int)-(1:Int)))) ((0:Int),((0:Int),()))).2.1)] [] (.tv [] qt1 (y49,(y50,()))) []) ∧
 (Need ((-9223372036854775808≤((z17.toNat:Int)-(2:Int)))∧(((z17.toNat:Int)-(2:Int))≤9223372036854775807)) ∧
 (Need (((0:Int)≤(0:Int))∧(((0:Int)≤((z17.toNat:Int)-(2:Int)))∧(((z17.toNat:Int)-(2:Int))≤(z17.toNat:Int)))) ∧
 (Need ((z16.toNat=y45)∧((((Int.toNat ((z17.toNat:Int)-(2:Int)))-0)≤y46.length)∧((0<(List.length [(y49,(y50,()))]))∧((y46.length+(List.length [(y49,(y50,()))]))≤bigN)))) ∧
 (Need ((-9223372036854775808≤(z18+1))∧((z18+1)≤9223372036854775807)) ∧
 (Need (([((5:Int),(some 84)),((6:Int),(some 85)),((7:Int),(some 86)),((8:Int),(some 87)),((9:Int),(some 88))]=[((5:Int),(some 84)),((6:Int),(some 85)),((7:Int),(some 86)),((8:Int),(some 87)),((9:Int),(some 88))])∧((((0:Int),((0:Int),()))=((0:Int),((0:Int),())))∧((((Int.toNat ((z17.toNat:Int)-(2:Int)))-0)+(List.length [(y49,(y50,()))]))=(List.length ((List.take ((Int.toNat ((z17.toNat:Int)-(2:Int)))-0) y46)++[(y49,(y50,()))]))))) ∧
 ((y14 (((Nat.succ y45) : Nat) : Int) (((((Int.toNat ((z17.toNat : Int) - (2 : Int))) - 0) + (List.length [(y49, (y50, ()))])) : Nat) : Int) (z18 + 1) (((Nat.succ y45) : Nat) : Int) ((List.take ((Int.toNat ((z17.toNat : Int) - (2 : Int))) - 0) y46) ++ [(y49, (y50, ()))])) ∧
    Need ((y15 (((Nat.succ y45):Nat):Int) (((((Int.toNat ((z17.toNat:Int)-(2:Int)))-0)+(List.length [(y49,(y50,()))])):Nat):Int) (z18+1) (((Nat.succ y45):Nat):Int) ((List.take ((Int.toNat ((z17.toNat:Int)-(2:Int)))-0) y46)++[(y49,(y50,()))]))<(y15 z16 z17 z18 z19 z20))))))))))))))))))))))) ∧
 (((List.getD x0 z18.toNat ((0:Int),((0:Int),()))).1≠(5:Int)) →
 ((((List.getD x0 z18.toNat ((0:Int),((0:Int),()))).1=(6:Int)) →
 (Need ((-9223372036854775808≤((z17.toNat:Int)-(2:Int)))∧(((z17.toNat:Int)-(2:Int))≤9223372036854775807)) ∧
 (Need (((0:Int)≤((z17.toNat:Int)-(2:Int)))∧(((z17.toNat:Int)-(2:Int))<(z17.toNat:Int))) ∧
 (Need (y45=z16.toNat) ∧
 (Need ((0+(Int.toNat ((z17.toNat:Int)-(2:Int))))<y46.length) ∧
 (Need (y45=z16.toNat) ∧
 (Need ((0+(Int.toNat ((z17.toNat:Int)-(2:Int))))<y46.length) ∧
 (Need ((-9223372036854775808≤((z17.toNat:Int)-(1:Int)))∧(((z17.toNat:Int)-(1:Int))≤9223372036854775807)) ∧
 (Need (((0:Int)≤((z17.toNat:Int)-(1:Int)))∧(((z17.toNat:Int)-(1:Int))<(z17.toNat:Int))) ∧
 (Need (y45=z16.toNat) ∧
 (Need ((0+(Int.toNat ((z17.toNat:Int)-(1:Int))))<y46.length) ∧
 (Need (y45=z16.toNat) ∧
 (Need ((0+(Int.toNat ((z17.toNat:Int)-(1:Int))))<y46.length) ∧
 (∃ y53 y54:Int,
 (Need (E 85 [(.tv [] (.int .i64) (List.getD y46 (0+(Int.toNat ((z17.toNat:Int)-(2:Int)))) ((0:Int),((0:Int),()))).2.1),(.tv [] (.int .i64) (List.getD y46 (0+(Int.toNat ((z17.toNat:Int)-(1:Int)))) ((0:Int),((0:Int),()))).2.1)] [] (.tv [] qt1 (y53,(y54,()))) []) ∧
 (Need ((-9223372036854775808≤((z17.toNat:Int)-(2:Int)))∧(((z17.toNat:Int)-(2:Int))≤9223372036854775807)) ∧
 (Need (((0:Int)≤(0:Int))∧(((0:Int)≤((z17.toNat:Int)-(2:Int)))∧(((z17.toNat:Int)-(2:Int))≤(z17.toNat:Int)))) ∧
 (Need ((z16.toNat=y45)∧((((Int.toNat ((z17.toNat:Int)-(2:Int)))-0)≤y46.length)∧((0<(List.length [(y53,(y54,()))]))∧((y46.length+(List.length [(y53,(y54,()))]))≤bigN)))) ∧
 (Need ((-9223372036854775808≤(z18+1))∧((z18+1)≤9223372036854775807)) ∧
 (Need (([((5:Int),(some 84)),((6:Int),(some 85)),((7:Int),(some 86)),((8:Int),(some 87)),((9:Int),(some 88))]=[((5:Int),(some 84)),((6:Int),(some 85)),((7:Int),(some 86)),((8:Int),(some 87)),((9:Int),(some 88))])∧((((0:Int),((0:Int),()))=((0:Int),((0:Int),())))∧((((Int.toNat ((z17.toNat:Int)-(2:Int)))-0)+(List.length [(y53,(y54,()))]))=(List.length ((List.take ((Int.toNat ((z17.toNat:Int)-(2:Int)))-0) y46)++[(y53,(y54,()))]))))) ∧
 ((y14 (((Nat.succ y45) : Nat) : Int) (((((Int.toNat ((z17.toNat : Int) - (2 : Int))) - 0) + (List.length [(y53, (y54, ()))])) : Nat) : Int) (z18 + 1) (((Nat.succ y45) : Nat) : Int) ((List.take ((Int.toNat ((z17.toNat : Int) - (2 : Int))) - 0) y46) ++ [(y53, (y54, ()))])) ∧
    Need ((y15 (((Nat.succ y45):Nat):Int) (((((Int.toNat ((z17.toNat:Int)-(2:Int)))-0)+(List.length [(y53,(y54,()))])):Nat):Int) (z18+1) (((Nat.succ y45):Nat):Int) ((List.take ((Int.toNat ((z17.toNat:Int)-(2:Int)))-0) y46)++[(y53,(y54,()))]))<(y15 z16 z17 z18 z19 z20))))))))))))))))))))))) ∧
 (((List.getD x0 z18.toNat ((0:Int),((0:Int),()))).1≠(6:Int)) →
 ((((List.getD x0 z18.toNat ((0:Int),((0:Int),()))).1=(7:Int)) →
 (Need ((-9223372036854775808≤((z17.toNat:Int)-(2:Int)))∧(((z17.toNat:Int)-(2:Int))≤9223372036854775807)) ∧
 (Need (((0:Int)≤((z17.toNat:Int)-(2:Int)))∧(((z17.toNat:Int)-(2:Int))<(z17.toNat:Int))) ∧
 (Need (y45=z16.toNat) ∧
 (Need ((0+(Int.toNat ((z17.toNat:Int)-(2:Int))))<y46.length) ∧
 (Need (y45=z16.toNat) ∧
 (Need ((0+(Int.toNat ((z17.toNat:Int)-(2:Int))))<y46.length) ∧
 (Need ((-9223372036854775808≤((z17.toNat:Int)-(1:Int)))∧(((z17.toNat:Int)-(1:Int))≤9223372036854775807)) ∧
 (Need (((0:Int)≤((z17.toNat:Int)-(1:Int)))∧(((z17.toNat:Int)-(1:Int))<(z17.toNat:Int))) ∧
 (Need (y45=z16.toNat) ∧
 (Need ((0+(Int.toNat ((z17.toNat:Int)-(1:Int))))<y46.length) ∧
 (Need (y45=z16.toNat) ∧
 (Need ((0+(Int.toNat ((z17.toNat:Int)-(1:Int))))<y46.length) ∧
 (∃ y57 y58:Int,
 (Need (E 86 [(.tv [] (.int .i64) (List.getD y46 (0+(Int.toNat ((z17.toNat:Int)-(2:Int)))) ((0:Int),((0:Int),()))).2.1),(.tv [] (.int .i64) (List.getD y46 (0+(Int.toNat ((z17.toNat:Int)-(1:Int)))) ((0:Int),((0:Int),()))).2.1)] [] (.tv [] qt1 (y57,(y58,()))) []) ∧
 (Need ((-9223372036854775808≤((z17.toNat:Int)-(2:Int)))∧(((z17.toNat:Int)-(2:Int))≤9223372036854775807)) ∧
 (Need (((0:Int)≤(0:Int))∧(((0:Int)≤((z17.toNat:Int)-(2:Int)))∧(((z17.toNat:Int)-(2:Int))≤(z17.toNat:Int)))) ∧
 (Need ((z16.toNat=y45)∧((((Int.toNat ((z17.toNat:Int)-(2:Int)))-0)≤y46.length)∧((0<(List.length [(y57,(y58,()))]))∧((y46.length+(List.length [(y57,(y58,()))]))≤bigN)))) ∧
 (Need ((-9223372036854775808≤(z18+1))∧((z18+1)≤9223372036854775807)) ∧
 (Need (([((5:Int),(some 84)),((6:Int),(some 85)),((7:Int),(some 86)),((8:Int),(some 87)),((9:Int),(some 88))]=[((5:Int),(some 84)),((6:Int),(some 85)),((7:Int),(some 86)),((8:Int),(some 87)),((9:Int),(some 88))])∧((((0:Int),((0:Int),()))=((0:Int),((0:Int),())))∧((((Int.toNat ((z17.toNat:Int)-(2:Int)))-0)+(List.length [(y57,(y58,()))]))=(List.length ((List.take ((Int.toNat ((z17.toNat:Int)-(2:Int)))-0) y46)++[(y57,(y58,()))]))))) ∧
 ((y14 (((Nat.succ y45) : Nat) : Int) (((((Int.toNat ((z17.toNat : Int) - (2 : Int))) - 0) + (List.length [(y57, (y58, ()))])) : Nat) : Int) (z18 + 1) (((Nat.succ y45) : Nat) : Int) ((List.take ((Int.toNat ((z17.toNat : Int) - (2 : Int))) - 0) y46) ++ [(y57, (y58, ()))])) ∧
    Need ((y15 (((Nat.succ y45):Nat):Int) (((((Int.toNat ((z17.toNat:Int)-(2:Int)))-0)+(List.length [(y57,(y58,()))])):Nat):Int) (z18+1) (((Nat.succ y45):Nat):Int) ((List.take ((Int.toNat ((z17.toNat:Int)-(2:Int)))-0) y46)++[(y57,(y58,()))]))<(y15 z16 z17 z18 z19 z20))))))))))))))))))))))) ∧
 (((List.getD x0 z18.toNat ((0:Int),((0:Int),()))).1≠(7:Int)) →
 ((((List.getD x0 z18.toNat ((0:Int),((0:Int),()))).1=(8:Int)) →
 (Need ((-9223372036854775808≤((z17.toNat:Int)-(2:Int)))∧(((z17.toNat:Int)-(2:Int))≤9223372036854775807)) ∧
 (Need (((0:Int)≤((z17.toNat:Int)-(2:Int)))∧(((z17.toNat:Int)-(2:Int))<(z17.toNat:Int))) ∧
 (Need (y45=z16.toNat) ∧
 (Need ((0+(Int.toNat ((z17.toNat:Int)-(2:Int))))<y46.length) ∧
 (Need (y45=z16.toNat) ∧
 (Need ((0+(Int.toNat ((z17.toNat:Int)-(2:Int))))<y46.length) ∧
 (Need ((-9223372036854775808≤((z17.toNat:Int)-(1:Int)))∧(((z17.toNat:Int)-(1:Int))≤9223372036854775807)) ∧
 (Need (((0:Int)≤((z17.toNat:Int)-(1:Int)))∧(((z17.toNat:Int)-(1:Int))<(z17.toNat:Int))) ∧
 (Need (y45=z16.toNat) ∧
 (Need ((0+(Int.toNat ((z17.toNat:Int)-(1:Int))))<y46.length) ∧
 (Need (y45=z16.toNat) ∧
 (Need ((0+(Int.toNat ((z17.toNat:Int)-(1:Int))))<y46.length) ∧
 (∃ y61 y62:Int,
 (Need (E 87 [(.tv [] (.int .i64) (List.getD y46 (0+(Int.toNat ((z17.toNat:Int)-(2:Int)))) ((0:Int),((0:Int),()))).2.1),(.tv [] (.int .i64) (List.getD y46 (0+(Int.toNat ((z17.toNat:Int)-(1:Int)))) ((0:Int),((0:Int),()))).2.1)] [] (.tv [] qt1 (y61,(y62,()))) []) ∧
 (Need ((-9223372036854775808≤((z17.toNat:Int)-(2:Int)))∧(((z17.toNat:Int)-(2:Int))≤9223372036854775807)) ∧
 (Need (((0:Int)≤(0:Int))∧(((0:Int)≤((z17.toNat:Int)-(2:Int)))∧(((z17.toNat:Int)-(2:Int))≤(z17.toNat:Int)))) ∧
 (Need ((z16.toNat=y45)∧((((Int.toNat ((z17.toNat:Int)-(2:Int)))-0)≤y46.length)∧((0<(List.length [(y61,(y62,()))]))∧((y46.length+(List.length [(y61,(y62,()))]))≤bigN)))) ∧
 (Need ((-9223372036854775808≤(z18+1))∧((z18+1)≤9223372036854775807)) ∧
 (Need (([((5:Int),(some 84)),((6:Int),(some 85)),((7:Int),(some 86)),((8:Int),(some 87)),((9:Int),(some 88))]=[((5:Int),(some 84)),((6:Int),(some 85)),((7:Int),(some 86)),((8:Int),(some 87)),((9:Int),(some 88))])∧((((0:Int),((0:Int),()))=((0:Int),((0:Int),())))∧((((Int.toNat ((z17.toNat:Int)-(2:Int)))-0)+(List.length [(y61,(y62,()))]))=(List.length ((List.take ((Int.toNat ((z17.toNat:Int)-(2:Int)))-0) y46)++[(y61,(y62,()))]))))) ∧
 ((y14 (((Nat.succ y45) : Nat) : Int) (((((Int.toNat ((z17.toNat : Int) - (2 : Int))) - 0) + (List.length [(y61, (y62, ()))])) : Nat) : Int) (z18 + 1) (((Nat.succ y45) : Nat) : Int) ((List.take ((Int.toNat ((z17.toNat : Int) - (2 : Int))) - 0) y46) ++ [(y61, (y62, ()))])) ∧
    Need ((y15 (((Nat.succ y45):Nat):Int) (((((Int.toNat ((z17.toNat:Int)-(2:Int)))-0)+(List.length [(y61,(y62,()))])):Nat):Int) (z18+1) (((Nat.succ y45):Nat):Int) ((List.take ((Int.toNat ((z17.toNat:Int)-(2:Int)))-0) y46)++[(y61,(y62,()))]))<(y15 z16 z17 z18 z19 z20))))))))))))))))))))))) ∧
 (((List.getD x0 z18.toNat ((0:Int),((0:Int),()))).1≠(8:Int)) →
 ((((List.getD x0 z18.toNat ((0:Int),((0:Int),()))).1=(9:Int)) →
 (Need ((-9223372036854775808≤((z17.toNat:Int)-(2:Int)))∧(((z17.toNat:Int)-(2:Int))≤9223372036854775807)) ∧
 (Need (((0:Int)≤((z17.toNat:Int)-(2:Int)))∧(((z17.toNat:Int)-(2:Int))<(z17.toNat:Int))) ∧
 (Need (y45=z16.toNat) ∧
 (Need ((0+(Int.toNat ((z17.toNat:Int)-(2:Int))))<y46.length) ∧
 (Need (y45=z16.toNat) ∧
 (Need ((0+(Int.toNat ((z17.toNat:Int)-(2:Int))))<y46.length) ∧
 (Need ((-9223372036854775808≤((z17.toNat:Int)-(1:Int)))∧(((z17.toNat:Int)-(1:Int))≤9223372036854775807)) ∧
 (Need (((0:Int)≤((z17.toNat:Int)-(1:Int)))∧(((z17.toNat:Int)-(1:Int))<(z17.toNat:Int))) ∧
 (Need (y45=z16.toNat) ∧
 (Need ((0+(Int.toNat ((z17.toNat:Int)-(1:Int))))<y46.length) ∧
 (Need (y45=z16.toNat) ∧
 (Need ((0+(Int.toNat ((z17.toNat:Int)-(1:Int))))<y46.length) ∧
 (∃ y65 y66:Int,
 (Need (E 88 [(.tv [] (.int .i64) (List.getD y46 (0+(Int.toNat ((z17.toNat:Int)-(2:Int)))) ((0:Int),((0:Int),()))).2.1),(.tv [] (.int .i64) (List.getD y46 (0+(Int.toNat ((z17.toNat:Int)-(1:Int)))) ((0:Int),((0:Int),()))).2.1)] [] (.tv [] qt1 (y65,(y66,()))) []) ∧
 (Need ((-9223372036854775808≤((z17.toNat:Int)-(2:Int)))∧(((z17.toNat:Int)-(2:Int))≤9223372036854775807)) ∧
 (Need (((0:Int)≤(0:Int))∧(((0:Int)≤((z17.toNat:Int)-(2:Int)))∧(((z17.toNat:Int)-(2:Int))≤(z17.toNat:Int)))) ∧
 (Need ((z16.toNat=y45)∧((((Int.toNat ((z17.toNat:Int)-(2:Int)))-0)≤y46.length)∧((0<(List.length [(y65,(y66,()))]))∧((y46.length+(List.length [(y65,(y66,()))]))≤bigN)))) ∧
 (Need ((-9223372036854775808≤(z18+1))∧((z18+1)≤9223372036854775807)) ∧
 (Need (([((5:Int),(some 84)),((6:Int),(some 85)),((7:Int),(some 86)),((8:Int),(some 87)),((9:Int),(some 88))]=[((5:Int),(some 84)),((6:Int),(some 85)),((7:Int),(some 86)),((8:Int),(some 87)),((9:Int),(some 88))])∧((((0:Int),((0:Int),()))=((0:Int),((0:Int),())))∧((((Int.toNat ((z17.toNat:Int)-(2:Int)))-0)+(List.length [(y65,(y66,()))]))=(List.length ((List.take ((Int.toNat ((z17.toNat:Int)-(2:Int)))-0) y46)++[(y65,(y66,()))]))))) ∧
 ((y14 (((Nat.succ y45) : Nat) : Int) (((((Int.toNat ((z17.toNat : Int) - (2 : Int))) - 0) + (List.length [(y65, (y66, ()))])) : Nat) : Int) (z18 + 1) (((Nat.succ y45) : Nat) : Int) ((List.take ((Int.toNat ((z17.toNat : Int) - (2 : Int))) - 0) y46) ++ [(y65, (y66, ()))])) ∧
    Need ((y15 (((Nat.succ y45):Nat):Int) (((((Int.toNat ((z17.toNat:Int)-(2:Int)))-0)+(List.length [(y65,(y66,()))])):Nat):Int) (z18+1) (((Nat.succ y45):Nat):Int) ((List.take ((Int.toNat ((z17.toNat:Int)-(2:Int)))-0) y46)++[(y65,(y66,()))]))<(y15 z16 z17 z18 z19 z20))))))))))))))))))))))) ∧
 (((List.getD x0 z18.toNat ((0:Int),((0:Int),()))).1≠(9:Int)) →
 (Need ((-9223372036854775808≤((z17.toNat:Int)-(2:Int)))∧(((z17.toNat:Int)-(2:Int))≤9223372036854775807)) ∧
 (Need (((0:Int)≤((z17.toNat:Int)-(2:Int)))∧(((z17.toNat:Int)-(2:Int))<(z17.toNat:Int))) ∧
 (Need (y45=z16.toNat) ∧
 (Need ((0+(Int.toNat ((z17.toNat:Int)-(2:Int))))<y46.length) ∧
 (Need (y45=z16.toNat) ∧
 (Need ((0+(Int.toNat ((z17.toNat:Int)-(2:Int))))<y46.length) ∧
 (Need ((-9223372036854775808≤((z17.toNat:Int)-(1:Int)))∧(((z17.toNat:Int)-(1:Int))≤9223372036854775807)) ∧
 (Need (((0:Int)≤((z17.toNat:Int)-(1:Int)))∧(((z17.toNat:Int)-(1:Int))<(z17.toNat:Int))) ∧
 (Need (y45=z16.toNat) ∧
 (Need ((0+(Int.toNat ((z17.toNat:Int)-(1:Int))))<y46.length) ∧
 (Need (y45=z16.toNat) ∧
 (Need ((0+(Int.toNat ((z17.toNat:Int)-(1:Int))))<y46.length) ∧
   False))))))))))))))))))))))) ∧
 (((!y44)=false) →
 (Need ((-9223372036854775808≤((z17.toNat:Int)-(2:Int)))∧(((z17.toNat:Int)-(2:Int))≤9223372036854775807)) ∧
 (Need (((0:Int)≤(0:Int))∧(((0:Int)≤((z17.toNat:Int)-(2:Int)))∧(((z17.toNat:Int)-(2:Int))≤(z17.toNat:Int)))) ∧
 (Need ((z16.toNat=y45)∧((((Int.toNat ((z17.toNat:Int)-(2:Int)))-0)≤y46.length)∧((0<(List.length [(y42,(y43,()))]))∧((y46.length+(List.length [(y42,(y43,()))]))≤bigN)))) ∧
 (Need ((-9223372036854775808≤(z18+1))∧((z18+1)≤9223372036854775807)) ∧
 (Need (([((5:Int),(some 84)),((6:Int),(some 85)),((7:Int),(some 86)),((8:Int),(some 87)),((9:Int),(some 88))]=[((5:Int),(some 84)),((6:Int),(some 85)),((7:Int),(some 86)),((8:Int),(some 87)),((9:Int),(some 88))])∧((((0:Int),((0:Int),()))=((0:Int),((0:Int),())))∧((((Int.toNat ((z17.toNat:Int)-(2:Int)))-0)+(List.length [(y42,(y43,()))]))=(List.length ((List.take ((Int.toNat ((z17.toNat:Int)-(2:Int)))-0) y46)++[(y42,(y43,()))]))))) ∧
 ((y14 (((Nat.succ y45):Nat):Int) (((((Int.toNat ((z17.toNat:Int)-(2:Int)))-0)+(List.length [(y42,(y43,()))])):Nat):Int) (z18+1) (((Nat.succ y45):Nat):Int) ((List.take ((Int.toNat ((z17.toNat:Int)-(2:Int)))-0) y46)++[(y42,(y43,()))])) ∧
  Need ((y15 (((Nat.succ y45):Nat):Int) (((((Int.toNat ((z17.toNat:Int)-(2:Int)))-0)+(List.length [(y42,(y43,()))])):Nat):Int) (z18+1) (((Nat.succ y45):Nat):Int) ((List.take ((Int.toNat ((z17.toNat:Int)-(2:Int)))-0) y46)++[(y42,(y43,()))]))<(y15 z16 z17 z18 z19 z20))))))))))))))))))))))))))) ∧
 (((decide (z18<(x0.length:Int)))=false) →
 (Need (((0:Int)≤(0:Int))∧((0:Int)<(z17.toNat:Int))) ∧
 (Need (z19.toNat=z16.toNat) ∧
 (Need (0<z20.length) ∧
 (Q (.tv [] qt1 (List.getD z20 0 ((0:Int),((0:Int),())))) []))))))))))))))))))))))):EvF PP orc 27 [.tv [] qt21 x0,.tv [] qt21 x1,.tv [] qt7 x2] [] Q:=vc_of (by kernel_rfl) h
theorem vc28 (x0:Int) (Q:AV→Heap→Prop) (h :
(Q (.tv [] qt1 ((1:Int),(x0,()))) [])):EvF PP orc 28 [.tv [] (.int .i64) x0] [] Q:=vc_of (by kernel_rfl) h
theorem vc29 (x0:List Int) (Q:AV→Heap→Prop) (h :
((((decide (x0=[]))=true) →
 (∃ y1 y2:Int,
 (Need (E 58 [(.tv [] (.int .i64) (x0.length:Int))] [] (.tv [] qt1 (y1,(y2,()))) []) ∧
 (Q (.tv [] qt1 (y1,(y2,()))) [])))) ∧
 (((decide (x0=[]))=false) →
 (∃ y4:qT3,
 (Need (E 60 [(.tv [] .str x0),(.tv [] .str (List.map (fun v5=>(((BitVec.toNat (UInt8.toBitVec v5)):Nat):Int)) [(48:UInt8),(49:UInt8),(50:UInt8),(51:UInt8),(52:UInt8),(53:UInt8),(54:UInt8),(55:UInt8),(56:UInt8),(57:UInt8)]))] [] (.tv [] .str y4) []) ∧
 ((((!(decide (y4=[])))=true) →
 (∃ y7 y8:Int,
 (Need (E 58 [(.tv [] (.int .i64) (x0.length:Int))] [] (.tv [] qt1 (y7,(y8,()))) []) ∧
 (Q (.tv [] qt1 (y7,(y8,()))) [])))) ∧
 (((!(decide (y4=[])))=false) →
 (∃ y10:(Int→(Int→Prop)),
 (∃ y11:(Int→(Int→Nat)),
 ((y10 (0:Int) (0:Int)) ∧
 (∀ z12 z13:Int,
 ((y10 z12 z13) →
 ((((decide (z13<(x0.length:Int)))=true) →
 (Need ((0≤z13)∧(z13<(x0.length:Int))) ∧
 (Need (((0:Int)≤((List.getD x0 z13.toNat (0:Int))-(48:Int)))∧(((List.getD x0 z13.toNat (0:Int))-(48:Int))≤(255:Int))) ∧
 (Need ((-9223372036854775808≤((List.getD x0 z13.toNat (0:Int))-(48:Int)))∧(((List.getD x0 z13.toNat (0:Int))-(48:Int))≤9223372036854775807)) ∧
 (Need ((-9223372036854775808≤(z13+1))∧((z13+1)≤9223372036854775807)) ∧
 (Need (((0:Int),((0:Int),()))=((0:Int),((0:Int),()))) ∧
 ((y10 (IntKind.wrap .i64 ((IntKind.wrap .i64 (z12 * (10:Int)))+((List.getD x0 z13.toNat (0:Int))-(48:Int)))) (z13+1)) ∧
  Need ((y11 (IntKind.wrap .i64 ((IntKind.wrap .i64 (z12 * (10:Int)))+((List.getD x0 z13.toNat (0:Int))-(48:Int)))) (z13+1))<(y11 z12 z13))))))))) ∧
 (((decide (z13<(x0.length:Int)))=false) →
 (∃ y17 y18:Int,
 (Need (E 58 [(.tv [] (.int .i64) z12)] [] (.tv [] qt1 (y17,(y18,()))) []) ∧
 (Q (.tv [] qt1 (y17,(y18,()))) []))))))))))))))))):EvF PP orc 29 [.tv [] .str x0] [] Q:=vc_of (by kernel_rfl) h
theorem vc30 (x0:XT) (x1:Int) (x2:Int) (Q:AV→Heap→Prop) (h :
((((decide (x1≤0))=true) →
 (Q (.tv [] (.int .i64) (-(1:Int))) [])) ∧
 (((decide (x1≤0))=false) →
 ((((decide (x2≤0))=true) →
 (Q (.tv [] (.int .i64) (-(1:Int))) [])) ∧
 (((decide (x2≤0))=false) →
 (Need ((-9223372036854775808≤(x1-1))∧((x1-1)≤9223372036854775807)) ∧
 (∃ y4:(Int→(Int→Prop)),
 (∃ y5:(Int→(Int→Nat)),
 ((y4 (x1-1) (0:Int)) ∧
 (∀ z6 z7:Int,
 ((y4 z6 z7) →
 ((((decide (z7<((List.length (XT.kids x0)):Int)))=true) →
 (Need ((0≤z7)∧(z7<((List.length (XT.kids x0)):Int))) ∧
 (Need ((-9223372036854775808≤(x2-1))∧((x2-1)≤9223372036854775807)) ∧
 (∃ y10:Int,
 (Need (E 30 [(.tv [] .expr (List.getD (XT.kids x0) z7.toNat (XT.mk (0:Int) (0:Int) []))),(.tv [] (.int .i64) z6),(.tv [] (.int .i64) (x2-1))] [] (.tv [] (.int .i64) y10) []) ∧
 ((((decide (y10<0))=true) →
 (Q (.tv [] (.int .i64) (-(1:Int))) [])) ∧
 (((decide (y10<0))=false) →
 (Need ((-9223372036854775808≤(z7+1))∧((z7+1)≤9223372036854775807)) ∧
 (Need (x0=x0) ∧
 ((y4 y10 (z7+1)) ∧
  Need ((y5 y10 (z7+1))<(y5 z6 z7)))))))))))) ∧
 (((decide (z7<((List.length (XT.kids x0)):Int)))=false) →
 (Q (.tv [] (.int .i64) z6) [])))))))))))))):EvF PP orc 30 [.tv [] .expr x0,.tv [] (.int .i64) x1,.tv [] (.int .i64) x2] [] Q:=vc_of (by kernel_rfl) h
end Go.Am.Z
