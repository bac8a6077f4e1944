/-
  A part of the proof of a law: see the text that states it.
-/
import Derived.Test.YtfnnapgpcndcjaaGreatDoorHead
set_option linter.all false
namespace Go.Am.Z
open Go
set_option maxRecDepth 100000
set_option maxHeartbeats 4000000
theorem vc11 (g3:Nat) (l3:List (((Int×(Int×((Int×(Int×(Int×Unit)))×(List (Int)×(Bool×(Bool×Unit))))))×(Int×Unit)))) (n3:Nat) (o0_0_2:Int) (o0_0_0_0:Int) (o0_0_0_1:Int) (o0_0_0_2:Int) (Q:AV→Heap→Prop) (h :
(∃ y0:Int,
 (Need (E 38 [(.op (0,0) [])] (hq5 g3 n3 o0_0_2 o0_0_0_0 o0_0_0_1 o0_0_0_2 l3) (.tv [] (.int .i64) y0) (hq5 g3 n3 o0_0_2 o0_0_0_0 o0_0_0_1 o0_0_0_2 l3)) ∧
 (Q (.tv [] (.int .i64) y0) (hq9 g3 n3 o0_0_2 o0_0_0_0 o0_0_0_1 o0_0_0_2 l3))))):EvF PP orc 11 [.op (0,0) []] (hq13 g3 n3 o0_0_2 o0_0_0_0 o0_0_0_1 o0_0_0_2 l3) Q:=vc_of (by kernel_rfl) h
theorem vc12 (x0:List (XT)) (Q:AV→Heap→Prop) (h :
(∃ y0:((List (List qT4))→(Int→Prop)),
 (∃ y1:((List (List qT4))→(Int→Nat)),
 ((y0 [] (0:Int)) ∧
 (∀ z2:(List (List qT4)),
 (∀ z3:Int,
 ((y0 z2 z3) →
 ((((decide (z3<(x0.length:Int)))=true) →
 (Need ((0≤z3)∧(z3<(x0.length:Int))) ∧
 (∃ y6:(List qT4),
 (Need (E 26 [(.tv [] .expr (List.getD x0 z3.toNat (XT.mk (0:Int) (0:Int) [])))] [] (.tv [[]] qt21 y6) []) ∧
 (Need ((z2.length+(List.length [y6]))≤bigN) ∧
 (Need ((-9223372036854775808≤(z3+1))∧((z3+1)≤9223372036854775807)) ∧
 ((y0 (z2++[y6]) (z3+1)) ∧
  Need ((y1 (z2++[y6]) (z3+1))<(y1 z2 z3))))))))) ∧
 (((decide (z3<(x0.length:Int)))=false) →
 (Q (.tv [[]] qt13 z2) [])))))))))):EvF PP orc 12 [.tv [] (.slice .expr) x0] [] Q:=vc_of (by kernel_rfl) h
theorem vc13 (x0:List (XT)) (Q:AV→Heap→Prop) (h :
(∃ y0:((List XT)→(Int→Prop)),
 (∃ y1:((List XT)→(Int→Nat)),
 ((y0 [] (0:Int)) ∧
 (∀ z2:(List XT),
 (∀ z3:Int,
 ((y0 z2 z3) →
 ((((decide (z3<(x0.length:Int)))=true) →
 (Need ((0≤z3)∧(z3<(x0.length:Int))) ∧
 (∃ y6:Bool,
 (Need (E 39 [(.tv [] .expr (List.getD x0 z3.toNat (XT.mk (0:Int) (0:Int) [])))] [] (.tv [] .bool y6) []) ∧
 ((((!y6)=true) →
 (Need ((z2.length+(List.length [(XT.mk (0:Int) (0:Int) [])]))≤bigN) ∧
 (Need ((-9223372036854775808≤(z3+1))∧((z3+1)≤9223372036854775807)) ∧
 ((y0 (z2++[(XT.mk (0:Int) (0:Int) [])]) (z3+1)) ∧
   Need ((y1 (z2++[(XT.mk (0:Int) (0:Int) [])]) (z3+1))<(y1 z2 z3)))))) ∧
 (((!y6)=false) →
 (Need ((z2.length+(List.length [(List.getD x0 z3.toNat (XT.mk (0:Int) (0:Int) []))]))≤bigN) ∧
 (Need ((-9223372036854775808≤(z3+1))∧((z3+1)≤9223372036854775807)) ∧
 ((y0 (z2++[(List.getD x0 z3.toNat (XT.mk (0:Int) (0:Int) []))]) (z3+1)) ∧
  Need ((y1 (z2++[(List.getD x0 z3.toNat (XT.mk (0:Int) (0:Int) []))]) (z3+1))<(y1 z2 z3))))))))))) ∧
 (((decide (z3<(x0.length:Int)))=false) →
 (Q (.tv [[]] (.slice .expr) z2) [])))))))))):EvF PP orc 13 [.tv [] (.slice .expr) x0] [] Q:=vc_of (by kernel_rfl) h
theorem vc14 (x1:Int) (x2:List (List ((Int×(Int×Unit))))) (x3:List Int) (o1_0:Int) (o1_1:Int) (o1_2:Int) (g4:Nat) (l4:List (((Int×(Int×((Int×(Int×(Int×Unit)))×(List (Int)×(Bool×(Bool×Unit))))))×(Int×Unit)))) (n4:Nat) (o0_0_2:Int) (o0_0_0_0:Int) (o0_0_0_1:Int) (o0_0_0_2:Int) (Q:AV→Heap→Prop) (h :
(∃ y0:qT3,
 (∃ y1:(List (List qT4)),
 (∃ y2:qT3,
 (∃ y3:Int,
 (∃ y4:Bool,
 (∃ y5 y6:Int,
 (∃ y7:(List (Prod Int qT4)),
 (∃ y8 y9 y10:Int,
 (∃ y11 y12:Nat,
 (∃ y13 y14 y15 y16:Int,
 (∃ y17:Nat,
 (∃ y18:qT0,
 (Need (E 20 [(.op (0,0) []),(.tv [] (.int .i64) x1),(.tv [] qt13 x2),(.tv [] .str x3),(.op (0,1) [])] [((0,0),⟨⟨qt9,((some (0,2)),())⟩,[]⟩),((0,1),⟨⟨qt4,(o1_0,(o1_1,(o1_2,())))⟩,[]⟩),((0,2),⟨⟨qt3,((some (0,3)),((some ((0,4),(g4,(0,n4)))),(o0_0_2,())))⟩,[]⟩),((0,3),⟨⟨qt4,(o0_0_0_0,(o0_0_0_1,(o0_0_0_2,())))⟩,[]⟩),((0,4),⟨⟨(.arr (Nat.succ g4) l4.length qt0),l4⟩,[]⟩)] (.op (1,0) []) (hq20 y0 y1 y2 y3 y4 y5 y6 y7 y8 y9 y10 y11 y12 y13 y14 y15 y16 y17 y18)) ∧
 (∃ y19:((List (Prod Int qT4))→(qT3→((List (List qT4))→(qT3→(Int→(Bool→(Int→(Int→(Int→(Int→(Int→(Int→(Int→(Int→(Int→(Int→(Int→(Int→(qT0→Prop))))))))))))))))))),
 (∃ y20:((List (Prod Int qT4))→(qT3→((List (List qT4))→(qT3→(Int→(Bool→(Int→(Int→(Int→(Int→(Int→(Int→(Int→(Int→(Int→(Int→(Int→(Int→(qT0→Nat))))))))))))))))))),
 (Need (y18.length=y18.length) ∧
 ((y19 y7 y0 y1 y2 y3 y4 y5 y6 y8 y9 y10 (y11:Int) (y12:Int) y13 y14 y15 y16 (y17:Int) y18) ∧
 (∀ z21:(List (Prod Int qT4)),
 (∀ z22:qT3,
 (∀ z23:(List (List qT4)),
 (∀ z24:qT3,
 (∀ z25:Int,
 (∀ z26:Bool,
 (∀ z27 z28 z29 z30 z31 z32 z33 z34 z35 z36 z37 z38:Int,
 (∀ z39:qT0,
 ((y19 z21 z22 z23 z24 z25 z26 z27 z28 z29 z30 z31 z32 z33 z34 z35 z36 z37 z38 z39) →
 (∃ y41:Bool,
 (∃ y42:qT3,
 (∃ y43:(List (List qT4)),
 (∃ y44:qT3,
 (∃ y45:Int,
 (∃ y46:Bool,
 (∃ y47 y48 y49 y50 y51:Int,
 (∃ y52:(List (Prod Int qT4)),
 (∃ y53 y54:Nat,
 (∃ y55 y56 y57 y58:Int,
 (∃ y59:Nat,
 (∃ y60:qT0,
 (Need (E 24 [(.op (0,0) [])] (hq3 z22 z23 z24 z25 z26 z27 z28 z29 z30 z31 z21 z32.toNat z33.toNat z34 z35 z36 z37 z38.toNat z39) (.tv [] .bool y41) (hq3 y42 y43 y44 y45 y46 y47 y48 y49 y50 y51 y52 y53 y54 y55 y56 y57 y58 y59 y60)) ∧
 ((((!y41)=true) →
 (Need ((((0:Int),((0:Int),()))=((0:Int),((0:Int),())))∧(y60.length=y60.length)) ∧
 ((y19 y52 y42 y43 y44 y45 y46 y47 y48 y49 y50 y51 (y53:Int) (y54:Int) y55 y56 y57 y58 (y59:Int) y60) ∧
  Need ((y20 y52 y42 y43 y44 y45 y46 y47 y48 y49 y50 y51 (y53:Int) (y54:Int) y55 y56 y57 y58 (y59:Int) y60)<(y20 z21 z22 z23 z24 z25 z26 z27 z28 z29 z30 z31 z32 z33 z34 z35 z36 z37 z38 z39))))) ∧
 (((!y41)=false) →
 (∃ y63 y64 y65:Int,
 (Need (E 22 [(.op (0,0) [])] (hq3 y42 y43 y44 y45 y46 y47 y48 y49 y50 y51 y52 y53 y54 y55 y56 y57 y58 y59 y60) (.tup [(.tv [] qt1 (y63,(y64,()))),(.tv [] (.int .i64) y65)]) (hq3 y42 y43 y44 y45 y46 y47 y48 y49 y50 y51 y52 y53 y54 y55 y56 y57 y58 y59 y60)) ∧
 (Q (.tup [(.tv [] qt1 (y63,(y64,()))),(.tv [] (.int .i64) y65)]) (hq7 y49 y50 y51 y53 y54 y55 y56 y57 y58 y59 y60)))))))))))))))))))))))))))))))))))))))))))))):EvF PP orc 14 [.op (0,0) [],.tv [] (.int .i64) x1,.tv [] qt13 x2,.tv [] .str x3,.op (0,1) []] [((0,0),⟨⟨qt9,((some (0,2)),())⟩,[]⟩),((0,1),⟨⟨qt4,(o1_0,(o1_1,(o1_2,())))⟩,[]⟩),((0,2),⟨⟨qt3,((some (0,3)),((some ((0,4),g4,0,n4)),(o0_0_2,())))⟩,[]⟩),((0,3),⟨⟨qt4,(o0_0_0_0,(o0_0_0_1,(o0_0_0_2,())))⟩,[]⟩),((0,4),⟨⟨.arr (Nat.succ g4) l4.length qt0,l4⟩,[]⟩)] Q:=vc_of (by kernel_rfl) h
theorem vc15 (x0:Int) (Q:AV→Heap→Prop) (h :
(∃ y0:Int,
 (Need (E 40 [(.tv [] (.int .i64) x0)] [] (.tv [] (.int .i64) y0) []) ∧
 (Q (.op (1,0) []) [((1,0),⟨⟨qt4,(y0,((0:Int),((0:Int),())))⟩,[]⟩)])))):EvF PP orc 15 [.tv [] (.int .i64) x0] [] Q:=vc_of (by kernel_rfl) h
theorem vc20 (x1:Int) (x2:List (List ((Int×(Int×Unit))))) (x3:List Int) (o1_0:Int) (o1_1:Int) (o1_2:Int) (g4:Nat) (l4:List (((Int×(Int×((Int×(Int×(Int×Unit)))×(List (Int)×(Bool×(Bool×Unit))))))×(Int×Unit)))) (n4:Nat) (o0_0_2:Int) (o0_0_0_0:Int) (o0_0_0_1:Int) (o0_0_0_2:Int) (Q:AV→Heap→Prop) (h :
(∃ y0:qT3,
 (Need (E 21 [(.op (0,0) []),(.tv [] (.int .i64) x1)] (hq9 g4 n4 o0_0_2 o0_0_0_0 o0_0_0_1 o0_0_0_2 l4) (.tv [[]] qt7 y0) (hq9 g4 n4 o0_0_2 o0_0_0_0 o0_0_0_1 o0_0_0_2 l4)) ∧
 ((((decide ((y0.length:Int)=(0:Int)))=true) →
 (Q (.op (1,0) []) [((1,0),⟨⟨(.pair .ref (.pair qt7 (.pair qt13 (.pair .str (.pair .ref (.pair (.mref (.int .i64) qt1) qt8)))))),((some (0,0)),(y0,(x2,(x3,((some (0,1)),((some (1,1)),(x1,(true,((2:Int),((0:Int),()))))))))))⟩,[]⟩),((1,1),⟨⟨(.mp (.int .i64) qt1),[]⟩,[]⟩),((0,0),⟨⟨qt9,((some (0,2)),())⟩,[]⟩),((0,1),⟨⟨qt4,(o1_0,(o1_1,(o1_2,())))⟩,[]⟩),((0,2),⟨⟨qt3,((some (0,3)),((some ((0,4),(g4,(0,n4)))),(o0_0_2,())))⟩,[]⟩),((0,3),⟨⟨qt4,(o0_0_0_0,(o0_0_0_1,(o0_0_0_2,())))⟩,[]⟩),((0,4),⟨⟨(.arr (Nat.succ g4) l4.length qt0),l4⟩,[]⟩)])) ∧
 (((decide ((y0.length:Int)=(0:Int)))=false) →
 (Q (.op (1,0) []) [((1,0),⟨⟨(.pair .ref (.pair qt7 (.pair qt13 (.pair .str (.pair .ref (.pair (.mref (.int .i64) qt1) qt8)))))),((some (0,0)),(y0,(x2,(x3,((some (0,1)),((some (1,1)),(x1,(false,((0:Int),((0:Int),()))))))))))⟩,[]⟩),((1,1),⟨⟨(.mp (.int .i64) qt1),[]⟩,[]⟩),((0,0),⟨⟨qt9,((some (0,2)),())⟩,[]⟩),((0,1),⟨⟨qt4,(o1_0,(o1_1,(o1_2,())))⟩,[]⟩),((0,2),⟨⟨qt3,((some (0,3)),((some ((0,4),(g4,(0,n4)))),(o0_0_2,())))⟩,[]⟩),((0,3),⟨⟨qt4,(o0_0_0_0,(o0_0_0_1,(o0_0_0_2,())))⟩,[]⟩),((0,4),⟨⟨(.arr (Nat.succ g4) l4.length qt0),l4⟩,[]⟩)])))))):EvF PP orc 20 [.op (0,0) [],.tv [] (.int .i64) x1,.tv [] qt13 x2,.tv [] .str x3,.op (0,1) []] [((0,0),⟨⟨qt9,((some (0,2)),())⟩,[]⟩),((0,1),⟨⟨qt4,(o1_0,(o1_1,(o1_2,())))⟩,[]⟩),((0,2),⟨⟨qt3,((some (0,3)),((some ((0,4),g4,0,n4)),(o0_0_2,())))⟩,[]⟩),((0,3),⟨⟨qt4,(o0_0_0_0,(o0_0_0_1,(o0_0_0_2,())))⟩,[]⟩),((0,4),⟨⟨.arr (Nat.succ g4) l4.length qt0,l4⟩,[]⟩)] Q:=vc_of (by kernel_rfl) h
end Go.Am.Z
