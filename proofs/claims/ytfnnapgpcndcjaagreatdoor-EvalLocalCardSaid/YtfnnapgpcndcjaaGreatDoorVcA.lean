/-
  A part of the proof of a law: see the text that states it.
-/
import Derived.Test.YtfnnapgpcndcjaaGreatDoorHead
set_option linter.all false
namespace Go.Am.Z
open Go
set_option maxRecDepth 100000
set_option maxHeartbeats 4000000
theorem vc49 (x1:Int) (o0_1:List (Int)) (o0_2:List (List ((Int×(Int×Unit))))) (o0_3:List Int) (o0_6:Int) (o0_7:Bool) (o0_8:Int) (o0_9:Int) (o0_4_0:Int) (o0_4_1:Int) (o0_4_2:Int) (o0_5:List (Int×(Int×(Int×Unit)))) (g6:Nat) (l6:List (((Int×(Int×((Int×(Int×(Int×Unit)))×(List (Int)×(Bool×(Bool×Unit))))))×(Int×Unit)))) (n6:Nat) (o0_0_0_2:Int) (o0_0_0_0_0:Int) (o0_0_0_0_1:Int) (o0_0_0_0_2:Int) (Q:AV→Heap→Prop) (h :
(∃ y0:Int,
 (Need (E 77 [(.op (0,0) []),(.tv [] (.int .i64) x1)] (hq9 g6 n6 o0_0_0_2 o0_0_0_0_0 o0_0_0_0_1 o0_0_0_0_2 l6) (.tv [] (.int .i64) y0) (hq9 g6 n6 o0_0_0_2 o0_0_0_0_0 o0_0_0_0_1 o0_0_0_0_2 l6)) ∧
 ((((decide (0≤y0))=true) →
 ((((decide (y0<(o0_2.length:Int)))=true) →
 (Need ((0≤y0)∧(y0<(o0_2.length:Int))) ∧
 (Q (.tv [] qt21 (List.getD o0_2 y0.toNat [])) (hq14 o0_1 o0_2 o0_3 o0_6 o0_7 o0_8 o0_9 o0_4_0 o0_4_1 o0_4_2 o0_5 g6 n6 o0_0_0_2 o0_0_0_0_0 o0_0_0_0_1 o0_0_0_0_2 l6)))) ∧
 (((decide (y0<(o0_2.length:Int)))=false) →
 (Q (.tv [[]] qt21 []) (hq14 o0_1 o0_2 o0_3 o0_6 o0_7 o0_8 o0_9 o0_4_0 o0_4_1 o0_4_2 o0_5 g6 n6 o0_0_0_2 o0_0_0_0_0 o0_0_0_0_1 o0_0_0_0_2 l6))))) ∧
 (((decide (0≤y0))=false) →
 (Q (.tv [[]] qt21 []) (hq14 o0_1 o0_2 o0_3 o0_6 o0_7 o0_8 o0_9 o0_4_0 o0_4_1 o0_4_2 o0_5 g6 n6 o0_0_0_2 o0_0_0_0_0 o0_0_0_0_1 o0_0_0_0_2 l6))))))):EvF PP orc 49 [.op (0,0) [],.tv [] (.int .i64) x1] [((0,0),⟨⟨(.pair .ref (.pair qt7 (.pair qt13 (.pair .str (.pair .ref (.pair (.mref (.int .i64) qt1) qt8)))))),((some (0,1)),(o0_1,(o0_2,(o0_3,((some (0,2)),((some (0,3):Option Key),(o0_6,(o0_7,(o0_8,(o0_9,()))))))))))⟩,[]⟩),((0,1),⟨⟨qt9,((some (0,4)),())⟩,[]⟩),((0,2),⟨⟨qt4,(o0_4_0,(o0_4_1,(o0_4_2,())))⟩,[]⟩),((0,3),⟨⟨.mp (.int .i64) qt1,o0_5⟩,[]⟩),((0,4),⟨⟨qt3,((some (0,5)),((some ((0,6),g6,0,n6)),(o0_0_0_2,())))⟩,[]⟩),((0,5),⟨⟨qt4,(o0_0_0_0_0,(o0_0_0_0_1,(o0_0_0_0_2,())))⟩,[]⟩),((0,6),⟨⟨.arr (Nat.succ g6) l6.length qt0,l6⟩,[]⟩)] Q:=vc_of (by kernel_rfl) h
theorem vc50 (x1:Int) (o0_0:Int) (o0_1:Int) (o0_2:Int) (Q:AV→Heap→Prop) (h :
((((decide (x1<0))=true) →
 (Q (.tv [] (.int .i64) (1:Int)) (hq0 o0_0 o0_1 o0_2))) ∧
 (((decide (x1<0))=false) →
 (∃ y2 y3 y4 y5:Int,
 (Need (E 78 [(.op (0,0) [])] (hq0 o0_0 o0_1 o0_2) (.tv [] (.int .i64) y2) (hq0 y3 y4 y5)) ∧
 ((((decide (y2<x1))=true) →
 (Q (.tv [] (.int .i64) (5:Int)) (hq0 y3 y4 y5))) ∧
 (((decide (y2<x1))=false) →
 (Need ((-9223372036854775808≤(y4+x1))∧((y4+x1)≤9223372036854775807)) ∧
 (Q (.tv [] (.int .i64) (0:Int)) [((0,0),⟨⟨qt4,(y3,((y4+x1),((max y5 (y4+x1)),())))⟩,[]⟩)]))))))))):EvF PP orc 50 [.op (0,0) [],.tv [] (.int .i64) x1] (hq0 o0_0 o0_1 o0_2) Q:=vc_of (by kernel_rfl) h
theorem vc51 (x1:Int) (o0_1:List (Int)) (o0_2:List (List ((Int×(Int×Unit))))) (o0_3:List Int) (o0_6:Int) (o0_7:Bool) (o0_8:Int) (o0_9:Int) (o0_4_0:Int) (o0_4_1:Int) (o0_4_2:Int) (o0_5:List (Int×(Int×(Int×Unit)))) (g6:Nat) (l6:List (((Int×(Int×((Int×(Int×(Int×Unit)))×(List (Int)×(Bool×(Bool×Unit))))))×(Int×Unit)))) (n6:Nat) (o0_0_0_2:Int) (o0_0_0_0_0:Int) (o0_0_0_0_1:Int) (o0_0_0_0_2:Int) (Q:AV→Heap→Prop) (h :
(∃ y0:qT3,
 (Need (E 79 [(.op (0,0) []),(.tv [] (.int .i64) x1)] (hq9 g6 n6 o0_0_0_2 o0_0_0_0_0 o0_0_0_0_1 o0_0_0_0_2 l6) (.tv [[]] qt7 y0) (hq9 g6 n6 o0_0_0_2 o0_0_0_0_0 o0_0_0_0_1 o0_0_0_0_2 l6)) ∧
 (∃ y1:((List qT4)→(Int→(qT3→((List (List qT4))→(qT3→(Int→(Bool→(Int→(Int→(Int→(Int→(Int→((List (Prod Int qT4))→(Int→(Int→(Int→(Int→(Int→(Int→(Int→(qT0→Prop))))))))))))))))))))),
 (∃ y2:((List qT4)→(Int→(qT3→((List (List qT4))→(qT3→(Int→(Bool→(Int→(Int→(Int→(Int→(Int→((List (Prod Int qT4))→(Int→(Int→(Int→(Int→(Int→(Int→(Int→(qT0→Nat))))))))))))))))))))),
 (Need (l6.length=l6.length) ∧
 ((y1 [] (0:Int) o0_1 o0_2 o0_3 o0_6 o0_7 o0_8 o0_9 o0_4_0 o0_4_1 o0_4_2 o0_5 (g6:Int) (n6:Int) o0_0_0_2 o0_0_0_0_0 o0_0_0_0_1 o0_0_0_0_2 (g6:Int) l6) ∧
 (∀ z3:(List qT4),
 (∀ z4:Int,
 (∀ z5:qT3,
 (∀ z6:(List (List qT4)),
 (∀ z7:qT3,
 (∀ z8:Int,
 (∀ z9:Bool,
 (∀ z10 z11 z12 z13 z14:Int,
 (∀ z15:(List (Prod Int qT4)),
 (∀ z16 z17 z18 z19 z20 z21 z22:Int,
 (∀ z23:qT0,
 ((y1 z3 z4 z5 z6 z7 z8 z9 z10 z11 z12 z13 z14 z15 z16 z17 z18 z19 z20 z21 z22 z23) →
 ((((decide (z4<(y0.length:Int)))=true) →
 (Need ((0≤z4)∧(z4<(y0.length:Int))) ∧
 (Need ((z3.length+(List.length [(Pr.mget z15 (List.getD y0 z4.toNat (0:Int)) ((0:Int),((0:Int),())))]))≤bigN) ∧
 (Need ((-9223372036854775808≤(z4+1))∧((z4+1)≤9223372036854775807)) ∧
 (Need ((((0:Int),((0:Int),()))=((0:Int),((0:Int),())))∧(z23.length=z23.length)) ∧
 ((y1 (z3++[(Pr.mget z15 (List.getD y0 z4.toNat (0:Int)) ((0:Int),((0:Int),())))]) (z4+1) z5 z6 z7 z8 z9 z10 z11 z12 z13 z14 z15 (z16.toNat:Int) (z17.toNat:Int) z18 z19 z20 z21 (z22.toNat:Int) z23) ∧
  Need ((y2 (z3++[(Pr.mget z15 (List.getD y0 z4.toNat (0:Int)) ((0:Int),((0:Int),())))]) (z4+1) z5 z6 z7 z8 z9 z10 z11 z12 z13 z14 z15 (z16.toNat:Int) (z17.toNat:Int) z18 z19 z20 z21 (z22.toNat:Int) z23)<(y2 z3 z4 z5 z6 z7 z8 z9 z10 z11 z12 z13 z14 z15 z16 z17 z18 z19 z20 z21 z22 z23)))))))) ∧
 (((decide (z4<(y0.length:Int)))=false) →
 ((∃ y27:(List qT4),
 (Need (E 49 [(.op (0,0) []),(.tv [] (.int .i64) x1)] (hq3 z5 z6 z7 z8 z9 z10 z11 z12 z13 z14 z15 z16.toNat z17.toNat z18 z19 z20 z21 z22.toNat z23) (.tv [[]] qt21 y27) (hq3 z5 z6 z7 z8 z9 z10 z11 z12 z13 z14 z15 z16.toNat z17.toNat z18 z19 z20 z21 z22.toNat z23)) ∧
 (∃ y28:Bool,
 (Need (E 48 [(.op (0,0) []),(.tv [] (.int .i64) x1)] (hq1 z16.toNat z17.toNat z18 z19 z20 z21 z22.toNat z23) (.tv [] .bool y28) (hq1 z16.toNat z17.toNat z18 z19 z20 z21 z22.toNat z23)) ∧
 (((y28=true) →
 (∃ y30 y31 y32:Int,
 (Need (E 81 [(.op (0,0) []),(.tv [] (.int .i64) x1)] (hq1 z16.toNat z17.toNat z18 z19 z20 z21 z22.toNat z23) (.tv [] qt4 (y30,(y31,(y32,())))) (hq1 z16.toNat z17.toNat z18 z19 z20 z21 z22.toNat z23)) ∧
 (∃ y33:qT3,
 (Need (E 80 [(.tv [] .str z7),(.tv [] qt4 (y30,(y31,(y32,()))))] [] (.tv [] .str y33) []) ∧
 (∃ y34 y35:Int,
 (Need (E 29 [(.tv [] .str y33)] [] (.tv [] qt1 (y34,(y35,()))) []) ∧
 (Q (.tv [] qt1 (y34,(y35,()))) (hq3 z5 z6 z7 z8 z9 z10 z11 z12 z13 z14 z15 z16.toNat z17.toNat z18 z19 z20 z21 z22.toNat z23))))))))) ∧
 ((y28=false) →
 ((((decide ((0:Int)<(y27.length:Int)))=true) →
 (∃ y38 y39:Int,
 (Need (E 27 [(.tv [] qt21 y27),(.tv [] qt21 z3),(.tv [] qt7 y0)] [] (.tv [] qt1 (y38,(y39,()))) []) ∧
 (Q (.tv [] qt1 (y38,(y39,()))) (hq3 z5 z6 z7 z8 z9 z10 z11 z12 z13 z14 z15 z16.toNat z17.toNat z18 z19 z20 z21 z22.toNat z23))))) ∧
 (((decide ((0:Int)<(y27.length:Int)))=false) →
 ((((decide ((0:Int)<(z3.length:Int)))=true) →
 (Need (((0:Int)≤(0:Int))∧((0:Int)<(z3.length:Int))) ∧
 (Q (.tv [] qt1 (List.getD z3 0 ((0:Int),((0:Int),())))) (hq3 z5 z6 z7 z8 z9 z10 z11 z12 z13 z14 z15 z16.toNat z17.toNat z18 z19 z20 z21 z22.toNat z23)))) ∧
 (((decide ((0:Int)<(z3.length:Int)))=false) →
 (∃ y43 y44:Int,
 (Need (E 58 [(.tv [] (.int .i64) (0:Int))] [] (.tv [] qt1 (y43,(y44,()))) []) ∧
 (Q (.tv [] qt1 (y43,(y44,()))) (hq3 z5 z6 z7 z8 z9 z10 z11 z12 z13 z14 z15 z16.toNat z17.toNat z18 z19 z20 z21 z22.toNat z23)))))))))))))) ∨
 (∃ y45:(List qT4),
 (Need (E 49 [(.op (0,0) []),(.tv [] (.int .i64) x1)] (hq3 z5 z6 z7 z8 z9 z10 z11 z12 z13 z14 z15 z16.toNat z17.toNat z18 z19 z20 z21 z22.toNat z23) (.tv [] qt21 y45) (hq3 z5 z6 z7 z8 z9 z10 z11 z12 z13 z14 z15 z16.toNat z17.toNat z18 z19 z20 z21 z22.toNat z23)) ∧
 (∃ y46:Bool,
 (Need (E 48 [(.op (0,0) []),(.tv [] (.int .i64) x1)] (hq1 z16.toNat z17.toNat z18 z19 z20 z21 z22.toNat z23) (.tv [] .bool y46) (hq1 z16.toNat z17.toNat z18 z19 z20 z21 z22.toNat z23)) ∧
 (((y46=true) →
 (∃ y48 y49 y50:Int,
 (Need (E 81 [(.op (0,0) []),(.tv [] (.int .i64) x1)] (hq1 z16.toNat z17.toNat z18 z19 z20 z21 z22.toNat z23) (.tv [] qt4 (y48,(y49,(y50,())))) (hq1 z16.toNat z17.toNat z18 z19 z20 z21 z22.toNat z23)) ∧
 (∃ y51:qT3,
 (Need (E 80 [(.tv [] .str z7),(.tv [] qt4 (y48,(y49,(y50,()))))] [] (.tv [] .str y51) []) ∧
 (∃ y52 y53:Int,
 (Need (E 29 [(.tv [] .str y51)] [] (.tv [] qt1 (y52,(y53,()))) []) ∧
 (Q (.tv [] qt1 (y52,(y53,()))) (hq3 z5 z6 z7 z8 z9 z10 z11 z12 z13 z14 z15 z16.toNat z17.toNat z18 z19 z20 z21 z22.toNat z23))))))))) ∧
 ((y46=false) →
 ((((decide ((0:Int)<(y45.length:Int)))=true) →
 (∃ y56 y57:Int,
 (Need (E 27 [(.tv [] qt21 y45),(.tv [] qt21 z3),(.tv [] qt7 y0)] [] (.tv [] qt1 (y56,(y57,()))) []) ∧
 (Q (.tv [] qt1 (y56,(y57,()))) (hq3 z5 z6 z7 z8 z9 z10 z11 z12 z13 z14 z15 z16.toNat z17.toNat z18 z19 z20 z21 z22.toNat z23))))) ∧
 (((decide ((0:Int)<(y45.length:Int)))=false) →
 ((((decide ((0:Int)<(z3.length:Int)))=true) →
 (Need (((0:Int)≤(0:Int))∧((0:Int)<(z3.length:Int))) ∧
 (Q (.tv [] qt1 (List.getD z3 0 ((0:Int),((0:Int),())))) (hq3 z5 z6 z7 z8 z9 z10 z11 z12 z13 z14 z15 z16.toNat z17.toNat z18 z19 z20 z21 z22.toNat z23)))) ∧
 (((decide ((0:Int)<(z3.length:Int)))=false) →
 (∃ y61 y62:Int,
 (Need (E 58 [(.tv [] (.int .i64) (0:Int))] [] (.tv [] qt1 (y61,(y62,()))) []) ∧
 (Q (.tv [] qt1 (y61,(y62,()))) (hq3 z5 z6 z7 z8 z9 z10 z11 z12 z13 z14 z15 z16.toNat z17.toNat z18 z19 z20 z21 z22.toNat z23)))))))))))))))))))))))))))))))))))):EvF PP orc 51 [.op (0,0) [],.tv [] (.int .i64) x1] [((0,0),⟨⟨(.pair .ref (.pair qt7 (.pair qt13 (.pair .str (.pair .ref (.pair (.mref (.int .i64) qt1) qt8)))))),((some (0,1)),(o0_1,(o0_2,(o0_3,((some (0,2)),((some (0,3):Option Key),(o0_6,(o0_7,(o0_8,(o0_9,()))))))))))⟩,[]⟩),((0,1),⟨⟨qt9,((some (0,4)),())⟩,[]⟩),((0,2),⟨⟨qt4,(o0_4_0,(o0_4_1,(o0_4_2,())))⟩,[]⟩),((0,3),⟨⟨.mp (.int .i64) qt1,o0_5⟩,[]⟩),((0,4),⟨⟨qt3,((some (0,5)),((some ((0,6),g6,0,n6)),(o0_0_0_2,())))⟩,[]⟩),((0,5),⟨⟨qt4,(o0_0_0_0_0,(o0_0_0_0_1,(o0_0_0_0_2,())))⟩,[]⟩),((0,6),⟨⟨.arr (Nat.succ g6) l6.length qt0,l6⟩,[]⟩)] Q:=vc_of (by kernel_rfl) h
theorem vc55 (x0:List ((Int×(Int×Unit)))) (x1:Int) (Q:AV→Heap→Prop) (h :
(∃ y0:(Int→(Int→Prop)),
 (∃ y1:(Int→(Int→Nat)),
 ((y0 (0:Int) (0:Int)) ∧
 (∀ z2 z3:Int,
 ((y0 z2 z3) →
 ((((decide (z3<(x0.length:Int)))=true) →
 (Need ((0≤z3)∧(z3<(x0.length:Int))) ∧
 (∃ y6:Bool,
 (Need (E 83 [(.tv [] qt1 (List.getD x0 z3.toNat ((0:Int),((0:Int),())))),(.tv [] (.int .i64) x1)] [] (.tv [] .bool y6) []) ∧
 ((((!y6)=true) →
 (Q (.tup [(.tv [] (.int .i64) z3),(.tv [] (.int .i64) (31:Int))]) [])) ∧
 (((!y6)=false) →
 (Need (((0:Int)≤(List.getD x0 z3.toNat ((0:Int),((0:Int),()))).1)∧((List.getD x0 z3.toNat ((0:Int),((0:Int),()))).1<(10:Int))) ∧
 (Need ((Int.toNat (List.getD x0 z3.toNat ((0:Int),((0:Int),()))).1)<10) ∧
 ((((decide (z2<(List.getD Z.takesL (Int.toNat (List.getD x0 z3.toNat ((0:Int),((0:Int),()))).1) (0:Int))))=true) →
 (Q (.tup [(.tv [] (.int .i64) z3),(.tv [] (.int .i64) (31:Int))]) [])) ∧
 (((decide (z2<(List.getD Z.takesL (Int.toNat (List.getD x0 z3.toNat ((0:Int),((0:Int),()))).1) (0:Int))))=false) →
 (Need (((0:Int)≤(List.getD x0 z3.toNat ((0:Int),((0:Int),()))).1)∧((List.getD x0 z3.toNat ((0:Int),((0:Int),()))).1<(10:Int))) ∧
 (Need ((Int.toNat (List.getD x0 z3.toNat ((0:Int),((0:Int),()))).1)<10) ∧
 (Need ((-9223372036854775808≤((1:Int)-(List.getD Z.takesL (Int.toNat (List.getD x0 z3.toNat ((0:Int),((0:Int),()))).1) (0:Int))))∧(((1:Int)-(List.getD Z.takesL (Int.toNat (List.getD x0 z3.toNat ((0:Int),((0:Int),()))).1) (0:Int)))≤9223372036854775807)) ∧
 (Need ((-9223372036854775808≤(z2+((1:Int)-(List.getD Z.takesL (Int.toNat (List.getD x0 z3.toNat ((0:Int),((0:Int),()))).1) (0:Int)))))∧((z2+((1:Int)-(List.getD Z.takesL (Int.toNat (List.getD x0 z3.toNat ((0:Int),((0:Int),()))).1) (0:Int))))≤9223372036854775807)) ∧
 (Need ((-9223372036854775808≤(z3+1))∧((z3+1)≤9223372036854775807)) ∧
 ((y0 (z2+((1:Int)-(List.getD Z.takesL (Int.toNat (List.getD x0 z3.toNat ((0:Int),((0:Int),()))).1) (0:Int)))) (z3+1)) ∧
  Need ((y1 (z2+((1:Int)-(List.getD Z.takesL (Int.toNat (List.getD x0 z3.toNat ((0:Int),((0:Int),()))).1) (0:Int)))) (z3+1))<(y1 z2 z3)))))))))))))))))) ∧
 (((decide (z3<(x0.length:Int)))=false) →
 ((((decide ((0:Int)<(x0.length:Int)))=true) →
 ((((decide (z2≠(1:Int)))=true) →
 (Q (.tup [(.tv [] (.int .i64) (x0.length:Int)),(.tv [] (.int .i64) (31:Int))]) [])) ∧
 (((decide (z2≠(1:Int)))=false) →
 (Q (.tup [(.tv [] (.int .i64) (0:Int)),(.tv [] (.int .i64) (0:Int))]) [])))) ∧
 (((decide ((0:Int)<(x0.length:Int)))=false) →
 (Q (.tup [(.tv [] (.int .i64) (0:Int)),(.tv [] (.int .i64) (0:Int))]) []))))))))))):EvF PP orc 55 [.tv [] qt21 x0,.tv [] (.int .i64) x1] [] Q:=vc_of (by kernel_rfl) h
theorem vc56 (x0:Int) (Q:AV→Heap→Prop) (h :
(Q (.tv [] qt1 ((3:Int),(x0,()))) [])):EvF PP orc 56 [.tv [] (.int .i64) x0] [] Q:=vc_of (by kernel_rfl) h
theorem vc57  (Q:AV→Heap→Prop) (h :
(Q (.tv [] (.mref (.int .i64) .fnc) (some (1,0))) [((1,0),⟨⟨(.mp (.int .i64) .fnc),(Pr.mset (Pr.mset (Pr.mset (Pr.mset (Pr.mset [] (5:Int) (some 84)) (6:Int) (some 85)) (7:Int) (some 86)) (8:Int) (some 87)) (9:Int) (some 88))⟩,[]⟩)])):EvF PP orc 57 [] [] Q:=vc_of (by kernel_rfl) h
theorem vc58 (x0:Int) (Q:AV→Heap→Prop) (h :
(Q (.tv [] qt1 ((1:Int),(x0,()))) [])):EvF PP orc 58 [.tv [] (.int .i64) x0] [] Q:=vc_of (by kernel_rfl) h
end Go.Am.Z
