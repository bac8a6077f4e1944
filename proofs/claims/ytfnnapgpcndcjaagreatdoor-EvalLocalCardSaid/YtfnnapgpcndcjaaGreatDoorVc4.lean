/-
  A part of the proof of a law: see the text that states it.
-/
import Derived.Test.YtfnnapgpcndcjaaGreatDoorHead
set_option linter.all false
namespace Go.Am.Z
open Go
set_option maxRecDepth 100000
set_option maxHeartbeats 4000000
theorem vc24 (o0_1:List (Int)) (o0_2:List (List ((Int×(Int×Unit))))) (o0_3:List Int) (o0_6:Int) (o0_7:Bool) (o0_8:Int) (o0_9:Int) (o0_4_0:Int) (o0_4_1:Int) (o0_4_2:Int) (o0_5:List (Int×(Int×(Int×Unit)))) (g6:Nat) (l6:List (((Int×(Int×((Int×(Int×(Int×Unit)))×(List (Int)×(Bool×(Bool×Unit))))))×(Int×Unit)))) (n6:Nat) (o0_0_0_2:Int) (o0_0_0_0_0:Int) (o0_0_0_0_1:Int) (o0_0_0_0_2:Int) (Q:AV→Heap→Prop) (h :
(((o0_7=true) →
 (Q (.tv [] .bool true) (hq14 o0_1 o0_2 o0_3 o0_6 o0_7 o0_8 o0_9 o0_4_0 o0_4_1 o0_4_2 o0_5 g6 n6 o0_0_0_2 o0_0_0_0_0 o0_0_0_0_1 o0_0_0_0_2 l6))) ∧
 ((o0_7=false) →
 (Need ((-9223372036854775808≤(o0_9+(1:Int)))∧((o0_9+(1:Int))≤9223372036854775807)) ∧
 (Need (((0:Int)≤(0:Int))∧((0:Int)<(o0_1.length:Int))) ∧
 (∃ y2:Bool,
 (Need (E 48 [(.op (0,0) []),(.tv [] (.int .i64) (List.getD o0_1 0 (0:Int)))] (hq9 g6 n6 o0_0_0_2 o0_0_0_0_0 o0_0_0_0_1 o0_0_0_0_2 l6) (.tv [] .bool y2) (hq9 g6 n6 o0_0_0_2 o0_0_0_0_0 o0_0_0_0_1 o0_0_0_0_2 l6)) ∧
 ((((!y2)=true) →
 ((∃ y4:(List qT4),
 (Need (E 49 [(.op (0,0) []),(.tv [] (.int .i64) (List.getD o0_1 0 (0:Int)))] (hq8 o0_1 o0_2 o0_3 o0_6 o0_7 o0_8 o0_9 (1:Int) o0_4_0 o0_4_1 o0_4_2 o0_5 g6 n6 o0_0_0_2 o0_0_0_0_0 o0_0_0_0_1 o0_0_0_0_2 l6) (.tv [[]] qt21 y4) (hq8 o0_1 o0_2 o0_3 o0_6 o0_7 o0_8 o0_9 (1:Int) o0_4_0 o0_4_1 o0_4_2 o0_5 g6 n6 o0_0_0_2 o0_0_0_0_0 o0_0_0_0_1 o0_0_0_0_2 l6)) ∧
 (Need ((-9223372036854775808≤((1:Int)+(y4.length:Int)))∧(((1:Int)+(y4.length:Int))≤9223372036854775807)) ∧
 (∃ y5 y6 y7 y8:Int,
 (Need (E 50 [(.op (0,0) []),(.tv [] (.int .i64) ((1:Int)+(y4.length:Int)))] (hq0 o0_4_0 o0_4_1 o0_4_2) (.tv [] (.int .i64) y5) (hq0 y6 y7 y8)) ∧
 ((((decide (y5≠(0:Int)))=true) →
 (Q (.tv [] .bool true) (hq21 o0_1 o0_2 o0_3 o0_6 y5 o0_9 (1:Int) y6 y7 y8 o0_5 g6 n6 o0_0_0_2 o0_0_0_0_0 o0_0_0_0_1 o0_0_0_0_2 l6))) ∧
 (((decide (y5≠(0:Int)))=false) →
 (∃ y11 y12:Int,
 (Need (E 51 [(.op (0,0) []),(.tv [] (.int .i64) (List.getD o0_1 0 (0:Int)))] (hq8 o0_1 o0_2 o0_3 o0_6 o0_7 o0_8 o0_9 (1:Int) y6 y7 y8 o0_5 g6 n6 o0_0_0_2 o0_0_0_0_0 o0_0_0_0_1 o0_0_0_0_2 l6) (.tv [] qt1 (y11,(y12,()))) (hq8 o0_1 o0_2 o0_3 o0_6 o0_7 o0_8 o0_9 (1:Int) y6 y7 y8 o0_5 g6 n6 o0_0_0_2 o0_0_0_0_0 o0_0_0_0_1 o0_0_0_0_2 l6)) ∧
 (Need (((hq8 o0_1 o0_2 o0_3 o0_6 o0_7 o0_8 o0_9 (1:Int) y6 y7 y8 o0_5 g6 n6 o0_0_0_2 o0_0_0_0_0 o0_0_0_0_1 o0_0_0_0_2 l6):Heap)=(hq8 o0_1 o0_2 o0_3 o0_6 o0_7 o0_8 o0_9 (1:Int) y6 y7 y8 o0_5 g6 n6 o0_0_0_2 o0_0_0_0_0 o0_0_0_0_1 o0_0_0_0_2 l6)) ∧
 (Need (((0:Int)≤(1:Int))∧(((1:Int)≤(o0_1.length:Int))∧((o0_1.length:Int)≤(o0_1.length:Int)))) ∧
 (Q (.tv [] .bool (decide (((List.length (cut o0_1 1 (Int.toNat (o0_1.length:Int)))):Int)=(0:Int)))) [((0,0),⟨⟨(.pair .ref (.pair qt7 (.pair qt13 (.pair .str (.pair .ref (.pair (.mref (.int .i64) qt1) qt8)))))),((some (0,1)),((cut o0_1 1 (Int.toNat (o0_1.length:Int))),(o0_2,(o0_3,((some (0,2)),((some (0,3)),(o0_6,((decide (((List.length (cut o0_1 1 (Int.toNat (o0_1.length:Int)))):Int)=(0:Int))),(o0_8,((o0_9+(1:Int)),()))))))))))⟩,[]⟩),((0,1),⟨⟨qt9,((some (0,4)),())⟩,[]⟩),((0,2),⟨⟨qt4,(y6,(y7,(y8,())))⟩,[]⟩),((0,3),⟨⟨(.mp (.int .i64) qt1),(Pr.mset o0_5 (List.getD o0_1 0 (0:Int)) (y11,(y12,())))⟩,[]⟩),((0,4),⟨⟨qt3,((some (0,5)),((some ((0,6),(g6,(0,n6)))),(o0_0_0_2,())))⟩,[]⟩),((0,5),⟨⟨qt4,(o0_0_0_0_0,(o0_0_0_0_1,(o0_0_0_0_2,())))⟩,[]⟩),((0,6),⟨⟨(.arr (Nat.succ g6) l6.length qt0),l6⟩,[]⟩)])))))))))))) ∨
 (∃ y13:(List qT4),
 (Need (E 49 [(.op (0,0) []),(.tv [] (.int .i64) (List.getD o0_1 0 (0:Int)))] (hq8 o0_1 o0_2 o0_3 o0_6 o0_7 o0_8 o0_9 (1:Int) o0_4_0 o0_4_1 o0_4_2 o0_5 g6 n6 o0_0_0_2 o0_0_0_0_0 o0_0_0_0_1 o0_0_0_0_2 l6) (.tv [] qt21 y13) (hq8 o0_1 o0_2 o0_3 o0_6 o0_7 o0_8 o0_9 (1:Int) o0_4_0 o0_4_1 o0_4_2 o0_5 g6 n6 o0_0_0_2 o0_0_0_0_0 o0_0_0_0_1 o0_0_0_0_2 l6)) ∧
 (Need ((-9223372036854775808≤((1:Int)+(y13.length:Int)))∧(((1:Int)+(y13.length:Int))≤9223372036854775807)) ∧
 (∃ y14 y15 y16 y17:Int,
 (Need (E 50 [(.op (0,0) []),(.tv [] (.int .i64) ((1:Int)+(y13.length:Int)))] (hq0 o0_4_0 o0_4_1 o0_4_2) (.tv [] (.int .i64) y14) (hq0 y15 y16 y17)) ∧
 ((((decide (y14≠(0:Int)))=true) →
 (Q (.tv [] .bool true) (hq21 o0_1 o0_2 o0_3 o0_6 y14 o0_9 (1:Int) y15 y16 y17 o0_5 g6 n6 o0_0_0_2 o0_0_0_0_0 o0_0_0_0_1 o0_0_0_0_2 l6))) ∧
 (((decide (y14≠(0:Int)))=false) →
 (∃ y20 y21:Int,
 (Need (E 51 [(.op (0,0) []),(.tv [] (.int .i64) (List.getD o0_1 0 (0:Int)))] (hq8 o0_1 o0_2 o0_3 o0_6 o0_7 o0_8 o0_9 (1:Int) y15 y16 y17 o0_5 g6 n6 o0_0_0_2 o0_0_0_0_0 o0_0_0_0_1 o0_0_0_0_2 l6) (.tv [] qt1 (y20,(y21,()))) (hq8 o0_1 o0_2 o0_3 o0_6 o0_7 o0_8 o0_9 (1:Int) y15 y16 y17 o0_5 g6 n6 o0_0_0_2 o0_0_0_0_0 o0_0_0_0_1 o0_0_0_0_2 l6)) ∧
 (Need (((hq8 o0_1 o0_2 o0_3 o0_6 o0_7 o0_8 o0_9 (1:Int) y15 y16 y17 o0_5 g6 n6 o0_0_0_2 o0_0_0_0_0 o0_0_0_0_1 o0_0_0_0_2 l6):Heap)=(hq8 o0_1 o0_2 o0_3 o0_6 o0_7 o0_8 o0_9 (1:Int) y15 y16 y17 o0_5 g6 n6 o0_0_0_2 o0_0_0_0_0 o0_0_0_0_1 o0_0_0_0_2 l6)) ∧
 (Need (((0:Int)≤(1:Int))∧(((1:Int)≤(o0_1.length:Int))∧((o0_1.length:Int)≤(o0_1.length:Int)))) ∧
 (Q (.tv [] .bool (decide (((List.length (cut o0_1 1 (Int.toNat (o0_1.length:Int)))):Int)=(0:Int)))) [((0,0),⟨⟨(.pair .ref (.pair qt7 (.pair qt13 (.pair .str (.pair .ref (.pair (.mref (.int .i64) qt1) qt8)))))),((some (0,1)),((cut o0_1 1 (Int.toNat (o0_1.length:Int))),(o0_2,(o0_3,((some (0,2)),((some (0,3)),(o0_6,((decide (((List.length (cut o0_1 1 (Int.toNat (o0_1.length:Int)))):Int)=(0:Int))),(o0_8,((o0_9+(1:Int)),()))))))))))⟩,[]⟩),((0,1),⟨⟨qt9,((some (0,4)),())⟩,[]⟩),((0,2),⟨⟨qt4,(y15,(y16,(y17,())))⟩,[]⟩),((0,3),⟨⟨(.mp (.int .i64) qt1),(Pr.mset o0_5 (List.getD o0_1 0 (0:Int)) (y20,(y21,())))⟩,[]⟩),((0,4),⟨⟨qt3,((some (0,5)),((some ((0,6),(g6,(0,n6)))),(o0_0_0_2,())))⟩,[]⟩),((0,5),⟨⟨qt4,(o0_0_0_0_0,(o0_0_0_0_1,(o0_0_0_0_2,())))⟩,[]⟩),((0,6),⟨⟨(.arr (Nat.succ g6) l6.length qt0),l6⟩,[]⟩)])))))))))))))) ∧
 (((!y2)=false) →
 (∃ y23 y24 y25 y26:Int,
 (Need (E 50 [(.op (0,0) []),(.tv [] (.int .i64) (1:Int))] (hq0 o0_4_0 o0_4_1 o0_4_2) (.tv [] (.int .i64) y23) (hq0 y24 y25 y26)) ∧
 ((((decide (y23≠(0:Int)))=true) →
 (Q (.tv [] .bool true) (hq21 o0_1 o0_2 o0_3 o0_6 y23 o0_9 (1:Int) y24 y25 y26 o0_5 g6 n6 o0_0_0_2 o0_0_0_0_0 o0_0_0_0_1 o0_0_0_0_2 l6))) ∧
 (((decide (y23≠(0:Int)))=false) →
 (∃ y29 y30:Int,
 (Need (E 51 [(.op (0,0) []),(.tv [] (.int .i64) (List.getD o0_1 0 (0:Int)))] (hq8 o0_1 o0_2 o0_3 o0_6 o0_7 o0_8 o0_9 (1:Int) y24 y25 y26 o0_5 g6 n6 o0_0_0_2 o0_0_0_0_0 o0_0_0_0_1 o0_0_0_0_2 l6) (.tv [] qt1 (y29,(y30,()))) (hq8 o0_1 o0_2 o0_3 o0_6 o0_7 o0_8 o0_9 (1:Int) y24 y25 y26 o0_5 g6 n6 o0_0_0_2 o0_0_0_0_0 o0_0_0_0_1 o0_0_0_0_2 l6)) ∧
 (Need (((hq8 o0_1 o0_2 o0_3 o0_6 o0_7 o0_8 o0_9 (1:Int) y24 y25 y26 o0_5 g6 n6 o0_0_0_2 o0_0_0_0_0 o0_0_0_0_1 o0_0_0_0_2 l6):Heap)=(hq8 o0_1 o0_2 o0_3 o0_6 o0_7 o0_8 o0_9 (1:Int) y24 y25 y26 o0_5 g6 n6 o0_0_0_2 o0_0_0_0_0 o0_0_0_0_1 o0_0_0_0_2 l6)) ∧
 (Need (((0:Int)≤(1:Int))∧(((1:Int)≤(o0_1.length:Int))∧((o0_1.length:Int)≤(o0_1.length:Int)))) ∧
 (Q (.tv [] .bool (decide (((List.length (cut o0_1 1 (Int.toNat (o0_1.length:Int)))):Int)=(0:Int)))) [((0,0),⟨⟨(.pair .ref (.pair qt7 (.pair qt13 (.pair .str (.pair .ref (.pair (.mref (.int .i64) qt1) qt8)))))),((some (0,1)),((cut o0_1 1 (Int.toNat (o0_1.length:Int))),(o0_2,(o0_3,((some (0,2)),((some (0,3)),(o0_6,((decide (((List.length (cut o0_1 1 (Int.toNat (o0_1.length:Int)))):Int)=(0:Int))),(o0_8,((o0_9+(1:Int)),()))))))))))⟩,[]⟩),((0,1),⟨⟨qt9,((some (0,4)),())⟩,[]⟩),((0,2),⟨⟨qt4,(y24,(y25,(y26,())))⟩,[]⟩),((0,3),⟨⟨(.mp (.int .i64) qt1),(Pr.mset o0_5 (List.getD o0_1 0 (0:Int)) (y29,(y30,())))⟩,[]⟩),((0,4),⟨⟨qt3,((some (0,5)),((some ((0,6),(g6,(0,n6)))),(o0_0_0_2,())))⟩,[]⟩),((0,5),⟨⟨qt4,(o0_0_0_0_0,(o0_0_0_0_1,(o0_0_0_0_2,())))⟩,[]⟩),((0,6),⟨⟨(.arr (Nat.succ g6) l6.length qt0),l6⟩,[]⟩)])))))))))))))))))):EvF PP orc 24 [.op (0,0) []] [((0,0),⟨⟨(.pair .ref (.pair qt7 (.pair qt13 (.pair .str (.pair .ref (.pair (.mref (.int .i64) qt1) qt8)))))),((some (0,1)),(o0_1,(o0_2,(o0_3,((some (0,2)),((some (0,3):Option Key),(o0_6,(o0_7,(o0_8,(o0_9,()))))))))))⟩,[]⟩),((0,1),⟨⟨qt9,((some (0,4)),())⟩,[]⟩),((0,2),⟨⟨qt4,(o0_4_0,(o0_4_1,(o0_4_2,())))⟩,[]⟩),((0,3),⟨⟨.mp (.int .i64) qt1,o0_5⟩,[]⟩),((0,4),⟨⟨qt3,((some (0,5)),((some ((0,6),g6,0,n6)),(o0_0_0_2,())))⟩,[]⟩),((0,5),⟨⟨qt4,(o0_0_0_0_0,(o0_0_0_0_1,(o0_0_0_0_2,())))⟩,[]⟩),((0,6),⟨⟨.arr (Nat.succ g6) l6.length qt0,l6⟩,[]⟩)] Q:=vc_of (by kernel_rfl) h
theorem vc26 (x0:XT) (Q:AV→Heap→Prop) (h :
(∃ y0:Bool,
 (Need (E 39 [(.tv [] .expr x0)] [] (.tv [] .bool y0) []) ∧
 ((((decide ((XT.kind x0)=(0:Int)))=true) →
 (Q (.tv [[]] qt21 []) [])) ∧
 (((decide ((XT.kind x0)=(0:Int)))=false) →
 ((((!y0)=true) →
 (Q (.tv [[]] qt21 []) [])) ∧
 (((!y0)=false) →
 (∃ y5:((List qT4)→(Int→Prop)),
 (∃ y6:((List qT4)→(Int→Nat)),
 ((y5 [] (0:Int)) ∧
 (∀ z7:(List qT4),
 (∀ z8:Int,
 ((y5 z7 z8) →
 ((((decide (z8<((List.length (XT.kids x0)):Int)))=true) →
 (Need ((0≤z8)∧(z8<((List.length (XT.kids x0)):Int))) ∧
 (∃ y11:(List qT4),
 (Need (E 26 [(.tv [] .expr (List.getD (XT.kids x0) z8.toNat (XT.mk (0:Int) (0:Int) [])))] [] (.tv [[]] qt21 y11) []) ∧
 (Need ((z7.length+y11.length)≤bigN) ∧
 (Need ((-9223372036854775808≤(z8+1))∧((z8+1)≤9223372036854775807)) ∧
 (Need (x0=x0) ∧
 ((y5 (z7++y11) (z8+1)) ∧
  Need ((y6 (z7++y11) (z8+1))<(y6 z7 z8)))))))))) ∧
 (((decide (z8<((List.length (XT.kids x0)):Int)))=false) →
 (Need ((z7.length+(List.length [((XT.kind x0),((XT.num x0),()))]))≤bigN) ∧
 (Q (.tv [[]] qt21 (z7++[((XT.kind x0),((XT.num x0),()))])) []))))))))))))))))):EvF PP orc 26 [.tv [] .expr x0] [] Q:=vc_of (by kernel_rfl) h
end Go.Am.Z
