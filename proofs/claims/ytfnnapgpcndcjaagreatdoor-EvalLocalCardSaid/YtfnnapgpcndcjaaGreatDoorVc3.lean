/-
  A part of the proof of a law: see the text that states it.
-/
import Derived.Test.YtfnnapgpcndcjaaGreatDoorHead
set_option linter.all false
namespace Go.Am.Z
open Go
set_option maxRecDepth 100000
set_option maxHeartbeats 4000000
theorem vc21 (x1:Int) (g3:Nat) (l3:List (((Int×(Int×((Int×(Int×(Int×Unit)))×(List (Int)×(Bool×(Bool×Unit))))))×(Int×Unit)))) (n3:Nat) (o0_0_2:Int) (o0_0_0_0:Int) (o0_0_0_1:Int) (o0_0_0_2:Int) (Q:AV→Heap→Prop) (h :
(∃ y0 y1 y2 y3 y4:Int,
 (∃ y5:qT3,
 (∃ y6 y7 y8:Bool,
 (Need (E 47 [(.op (0,0) []),(.tv [] (.int .i64) x1)] (hq5 g3 n3 o0_0_2 o0_0_0_0 o0_0_0_1 o0_0_0_2 l3) (.tup [(.tv [] qt14 (y0,(y1,((y2,(y3,(y4,()))),(y5,(y6,(y7,()))))))),(.tv [] .bool y8)]) (hq5 g3 n3 o0_0_2 o0_0_0_0 o0_0_0_1 o0_0_0_2 l3)) ∧
 ((((!y8)=true) →
 (Q (.tv [[]] qt7 []) (hq9 g3 n3 o0_0_2 o0_0_0_0 o0_0_0_1 o0_0_0_2 l3))) ∧
 (((!y8)=false) →
 (∃ y11:(qT3→(Int→(Int→(Int→(Int→(Int→(Int→(Int→(Int→(qT0→Prop)))))))))),
 (∃ y12:(qT3→(Int→(Int→(Int→(Int→(Int→(Int→(Int→(Int→(qT0→Nat)))))))))),
 (Need (l3.length=l3.length) ∧
 ((y11 [] (0:Int) (g3:Int) (n3:Int) o0_0_2 o0_0_0_0 o0_0_0_1 o0_0_0_2 (g3:Int) l3) ∧
 (∀ z13:qT3,
 (∀ z14 z15 z16 z17 z18 z19 z20 z21:Int,
 (∀ z22:qT0,
 ((y11 z13 z14 z15 z16 z17 z18 z19 z20 z21 z22) →
 ((((decide (z14<(y5.length:Int)))=true) →
 (Need ((0≤z14)∧(z14<(y5.length:Int))) ∧
 (∃ y25:qT3,
 (Need (E 21 [(.op (0,0) []),(.tv [] (.int .i64) (List.getD y5 z14.toNat (0:Int)))] (hq1 z15.toNat z16.toNat z17 z18 z19 z20 z21.toNat z22) (.tv [[]] qt7 y25) (hq1 z15.toNat z16.toNat z17 z18 z19 z20 z21.toNat z22)) ∧
 (Need ((z13.length+y25.length)≤bigN) ∧
 (Need ((-9223372036854775808≤(z14+1))∧((z14+1)≤9223372036854775807)) ∧
 (Need (((y0,(y1,((y2,(y3,(y4,()))),(y5,(y6,(y7,()))))))=(y0,(y1,((y2,(y3,(y4,()))),(y5,(y6,(y7,())))))))∧(z22.length=z22.length)) ∧
 ((y11 (z13++y25) (z14+1) (z15.toNat:Int) (z16.toNat:Int) z17 z18 z19 z20 (z21.toNat:Int) z22) ∧
  Need ((y12 (z13++y25) (z14+1) (z15.toNat:Int) (z16.toNat:Int) z17 z18 z19 z20 (z21.toNat:Int) z22)<(y12 z13 z14 z15 z16 z17 z18 z19 z20 z21 z22)))))))))) ∧
 (((decide (z14<(y5.length:Int)))=false) →
 (Need ((z13.length+(List.length [x1]))≤bigN) ∧
 (Q (.tv [[]] qt7 (z13++[x1])) (hq1 z15.toNat z16.toNat z17 z18 z19 z20 z21.toNat z22)))))))))))))))))))):EvF PP orc 21 [.op (0,0) [],.tv [] (.int .i64) x1] (hq13 g3 n3 o0_0_2 o0_0_0_0 o0_0_0_1 o0_0_0_2 l3) Q:=vc_of (by kernel_rfl) h
theorem vc22 (o0_1:List (Int)) (o0_2:List (List ((Int×(Int×Unit))))) (o0_3:List Int) (o0_6:Int) (o0_7:Bool) (o0_8:Int) (o0_9:Int) (o0_4_0:Int) (o0_4_1:Int) (o0_4_2:Int) (o0_5:List (Int×(Int×(Int×Unit)))) (g6:Nat) (l6:List (((Int×(Int×((Int×(Int×(Int×Unit)))×(List (Int)×(Bool×(Bool×Unit))))))×(Int×Unit)))) (n6:Nat) (o0_0_0_2:Int) (o0_0_0_0_0:Int) (o0_0_0_0_1:Int) (o0_0_0_0_2:Int) (Q:AV→Heap→Prop) (h :
((((!o0_7)=true) →
 (Q (.tup [(.tv [] qt1 ((0:Int),((0:Int),()))),(.tv [] (.int .i64) o0_8)]) (hq14 o0_1 o0_2 o0_3 o0_6 o0_7 o0_8 o0_9 o0_4_0 o0_4_1 o0_4_2 o0_5 g6 n6 o0_0_0_2 o0_0_0_0_0 o0_0_0_0_1 o0_0_0_0_2 l6))) ∧
 (((!o0_7)=false) →
 ((((decide (o0_8≠(0:Int)))=true) →
 (Q (.tup [(.tv [] qt1 ((0:Int),((0:Int),()))),(.tv [] (.int .i64) o0_8)]) (hq14 o0_1 o0_2 o0_3 o0_6 o0_7 o0_8 o0_9 o0_4_0 o0_4_1 o0_4_2 o0_5 g6 n6 o0_0_0_2 o0_0_0_0_0 o0_0_0_0_1 o0_0_0_0_2 l6))) ∧
 (((decide (o0_8≠(0:Int)))=false) →
 (Q (.tup [(.tv [] qt1 (Pr.mget o0_5 o0_6 ((0:Int),((0:Int),())))),(.tv [] (.int .i64) (0:Int))]) (hq14 o0_1 o0_2 o0_3 o0_6 o0_7 o0_8 o0_9 o0_4_0 o0_4_1 o0_4_2 o0_5 g6 n6 o0_0_0_2 o0_0_0_0_0 o0_0_0_0_1 o0_0_0_0_2 l6))))))):EvF PP orc 22 [.op (0,0) []] [((0,0),⟨⟨(.pair .ref (.pair qt7 (.pair qt13 (.pair .str (.pair .ref (.pair (.mref (.int .i64) qt1) qt8)))))),((some (0,1)),(o0_1,(o0_2,(o0_3,((some (0,2)),((some (0,3):Option Key),(o0_6,(o0_7,(o0_8,(o0_9,()))))))))))⟩,[]⟩),((0,1),⟨⟨qt9,((some (0,4)),())⟩,[]⟩),((0,2),⟨⟨qt4,(o0_4_0,(o0_4_1,(o0_4_2,())))⟩,[]⟩),((0,3),⟨⟨.mp (.int .i64) qt1,o0_5⟩,[]⟩),((0,4),⟨⟨qt3,((some (0,5)),((some ((0,6),g6,0,n6)),(o0_0_0_2,())))⟩,[]⟩),((0,5),⟨⟨qt4,(o0_0_0_0_0,(o0_0_0_0_1,(o0_0_0_0_2,())))⟩,[]⟩),((0,6),⟨⟨.arr (Nat.succ g6) l6.length qt0,l6⟩,[]⟩)] Q:=vc_of (by kernel_rfl) h
theorem vc23 (o0_1:List (Int)) (o0_2:List (List ((Int×(Int×Unit))))) (o0_3:List Int) (o0_6:Int) (o0_7:Bool) (o0_8:Int) (o0_9:Int) (o0_4_0:Int) (o0_4_1:Int) (o0_4_2:Int) (o0_5:List (Int×(Int×(Int×Unit)))) (g6:Nat) (l6:List (((Int×(Int×((Int×(Int×(Int×Unit)))×(List (Int)×(Bool×(Bool×Unit))))))×(Int×Unit)))) (n6:Nat) (o0_0_0_2:Int) (o0_0_0_0_0:Int) (o0_0_0_0_1:Int) (o0_0_0_0_2:Int) (Q:AV→Heap→Prop) (h :
(Q (.tv [] (.int .i64) o0_9) (hq14 o0_1 o0_2 o0_3 o0_6 o0_7 o0_8 o0_9 o0_4_0 o0_4_1 o0_4_2 o0_5 g6 n6 o0_0_0_2 o0_0_0_0_0 o0_0_0_0_1 o0_0_0_0_2 l6))):EvF PP orc 23 [.op (0,0) []] [((0,0),⟨⟨(.pair .ref (.pair qt7 (.pair qt13 (.pair .str (.pair .ref (.pair (.mref (.int .i64) qt1) qt8)))))),((some (0,1)),(o0_1,(o0_2,(o0_3,((some (0,2)),((some (0,3):Option Key),(o0_6,(o0_7,(o0_8,(o0_9,()))))))))))⟩,[]⟩),((0,1),⟨⟨qt9,((some (0,4)),())⟩,[]⟩),((0,2),⟨⟨qt4,(o0_4_0,(o0_4_1,(o0_4_2,())))⟩,[]⟩),((0,3),⟨⟨.mp (.int .i64) qt1,o0_5⟩,[]⟩),((0,4),⟨⟨qt3,((some (0,5)),((some ((0,6),g6,0,n6)),(o0_0_0_2,())))⟩,[]⟩),((0,5),⟨⟨qt4,(o0_0_0_0_0,(o0_0_0_0_1,(o0_0_0_0_2,())))⟩,[]⟩),((0,6),⟨⟨.arr (Nat.succ g6) l6.length qt0,l6⟩,[]⟩)] Q:=vc_of (by kernel_rfl) h
end Go.Am.Z
