/-
  A part of the proof of a law: see the text that states it.
-/
import Derived.Test.YtfnnapgpcndcjaaGreatDoorHead
set_option linter.all false
namespace Go.Am.Z
open Go
set_option maxRecDepth 100000
set_option maxHeartbeats 4000000
theorem vc11 (g3:Nat) (l3:List (((Int×(Int×((Int×(Int×(Int×Unit)))×(List (Int)×(Bool×(Bool×Unit))))))×(Int×Unit)))) (n3:Nat) (o0_0_2:Int) (o0_0_0_0:Int) (o0_0_0_1:Int) (o0_0_0_2:Int) (Q:AV→Heap→Prop) (h :
(∃ y0:Int,
 (Need (E 38 [(.op (0,0) [])] (hq4 g3 n3 o0_0_2 o0_0_0_0 o0_0_0_1 o0_0_0_2 l3) (.tv [] (.int .i64) y0) (hq4 g3 n3 o0_0_2 o0_0_0_0 o0_0_0_1 o0_0_0_2 l3)) ∧
 (Q (.tv [] (.int .i64) y0) (hq8 g3 n3 o0_0_2 o0_0_0_0 o0_0_0_1 o0_0_0_2 l3))))):EvF PP orc 11 [.op (0,0) []] (hq11 g3 n3 o0_0_2 o0_0_0_0 o0_0_0_1 o0_0_0_2 l3) Q:=vc_of (by kernel_rfl) h
theorem vc12 (x0:List (XT)) (Q:AV→Heap→Prop) (h :
(∃ y0:((List qT6)→(Int→Prop)),
 (∃ y1:((List qT6)→(Int→Nat)),
 ((y0 [] (0:Int)) ∧
 (∀ z2:(List qT6),
 (∀ z3:Int,
 ((y0 z2 z3) →
 ((((decide (z3<(x0.length:Int)))=true) →
 (Need ((0≤z3)∧(z3<(x0.length:Int))) ∧
 (∃ y6:qT6,
 (Need (E 26 [(.tv [] .expr (List.getD x0 z3.toNat (XT.mk (0:Int) (0:Int) [])))] [] (.tv [[]] qt20 y6) []) ∧
 (Need ((z2.length+(List.length [y6]))≤bigN) ∧
 (Need ((-9223372036854775808≤(z3+1))∧((z3+1)≤9223372036854775807)) ∧
 ((y0 (z2++[y6]) (z3+1)) ∧
  Need ((y1 (z2++[y6]) (z3+1))<(y1 z2 z3))))))))) ∧
 (((decide (z3<(x0.length:Int)))=false) →
 (Q (.tv [[]] qt15 z2) [])))))))))):EvF PP orc 12 [.tv [] (.slice .expr) x0] [] Q:=vc_of (by kernel_rfl) h
theorem vc13 (x0:List (XT)) (Q:AV→Heap→Prop) (h :
(∃ y0:((List XT)→(Int→Prop)),
 (∃ y1:((List XT)→(Int→Nat)),
 ((y0 [] (0:Int)) ∧
 (∀ z2:(List XT),
 (∀ z3:Int,
 ((y0 z2 z3) →
 ((((decide (z3<(x0.length:Int)))=true) →
 (Need ((0≤z3)∧(z3<(x0.length:Int))) ∧
 (∃ y6:Bool,
 (Need (E 39 [(.tv [] .expr (List.getD x0 z3.toNat (XT.mk (0:Int) (0:Int) [])))] [] (.tv [] .bool y6) []) ∧
 ((((!y6)=true) →
 (Need ((z2.length+(List.length [(XT.mk (0:Int) (0:Int) [])]))≤bigN) ∧
 (Need ((-9223372036854775808≤(z3+1))∧((z3+1)≤9223372036854775807)) ∧
 ((y0 (z2++[(XT.mk (0:Int) (0:Int) [])]) (z3+1)) ∧
   Need ((y1 (z2++[(XT.mk (0:Int) (0:Int) [])]) (z3+1))<(y1 z2 z3)))))) ∧
 (((!y6)=false) →
 (Need ((z2.length+(List.length [(List.getD x0 z3.toNat (XT.mk (0:Int) (0:Int) []))]))≤bigN) ∧
 (Need ((-9223372036854775808≤(z3+1))∧((z3+1)≤9223372036854775807)) ∧
 ((y0 (z2++[(List.getD x0 z3.toNat (XT.mk (0:Int) (0:Int) []))]) (z3+1)) ∧
  Need ((y1 (z2++[(List.getD x0 z3.toNat (XT.mk (0:Int) (0:Int) []))]) (z3+1))<(y1 z2 z3))))))))))) ∧
 (((decide (z3<(x0.length:Int)))=false) →
 (Q (.tv [[]] (.slice .expr) z2) [])))))))))):EvF PP orc 13 [.tv [] (.slice .expr) x0] [] Q:=vc_of (by kernel_rfl) h
theorem vc14 (x1:Int) (x2:List (List ((Int×(Int×Unit))))) (x3:List Int) (o1_0:Int) (o1_1:Int) (o1_2:Int) (g4:Nat) (l4:List (((Int×(Int×((Int×(Int×(Int×Unit)))×(List (Int)×(Bool×(Bool×Unit))))))×(Int×Unit)))) (n4:Nat) (o0_0_2:Int) (o0_0_0_0:Int) (o0_0_0_1:Int) (o0_0_0_2:Int) (Q:AV→Heap→Prop) (h :
(∃ y0:qT3,
 (∃ y1:(List qT6),
 (∃ y2:qT3,
 (∃ y3:Int,
 (∃ y4:Bool,
 (∃ y5 y6:Int,
 (∃ y7:(List (Prod Int (Prod Int (Prod Int PUnit.{1})))),
 (∃ y8 y9 y10:Int,
 (∃ y11 y12:Nat,
 (∃ y13 y14 y15 y16:Int,
 (∃ y17:Nat,
 (∃ y18:qT0,
 (Need (E 20 [(.op (0,0) []),(.tv [] (.int .i64) x1),(.tv [] qt15 x2),(.tv [] .str x3),(.op (0,1) [])] [((0,0),⟨⟨qt11,((some (0,2)),())⟩,[]⟩),((0,1),⟨⟨qt5,(o1_0,(o1_1,(o1_2,())))⟩,[]⟩),((0,2),⟨⟨qt3,((some (0,3)),((some ((0,4),(g4,(0,n4)))),(o0_0_2,())))⟩,[]⟩),((0,3),⟨⟨qt5,(o0_0_0_0,(o0_0_0_1,(o0_0_0_2,())))⟩,[]⟩),((0,4),⟨⟨(.arr (Nat.succ g4) l4.length qt0),l4⟩,[]⟩)] (.op (1,0) []) [((1,0),⟨⟨(.pair .ref (.pair qt7 (.pair qt15 (.pair .str (.pair .ref (.pair (.mref (.int .i64) qt1) qt9)))))),((some (0,0)),(y0,(y1,(y2,((some (0,1)),((some (1,1)),(y3,(y4,(y5,(y6,()))))))))))⟩,[]⟩),((1,1),⟨⟨(.mp (.int .i64) qt1),y7⟩,[]⟩),((0,0),⟨⟨qt11,((some (0,2)),())⟩,[]⟩),((0,1),⟨⟨qt5,(y8,(y9,(y10,())))⟩,[]⟩),((0,2),⟨⟨qt3,((some (0,3)),((some ((0,4),(y11,(0,y12)))),(y13,())))⟩,[]⟩),((0,3),⟨⟨qt5,(y14,(y15,(y16,())))⟩,[]⟩),((0,4),⟨⟨(.arr (Nat.succ y17) y18.length qt0),y18⟩,[]⟩)]) ∧
 (∃ y19:((List (Prod Int (Prod Int (Prod Int PUnit.{1}))))→(qT3→((List qT6)→(qT3→(Int→(Bool→(Int→(Int→(Int→(Int→(Int→(Int→(Int→(Int→(Int→(Int→(Int→(Int→(qT0→Prop))))))))))))))))))),
 (∃ y20:((List (Prod Int (Prod Int (Prod Int PUnit.{1}))))→(qT3→((List qT6)→(qT3→(Int→(Bool→(Int→(Int→(Int→(Int→(Int→(Int→(Int→(Int→(Int→(Int→(Int→(Int→(qT0→Nat))))))))))))))))))),
 (Need (y18.length=y18.length) ∧
 ((y19 y7 y0 y1 y2 y3 y4 y5 y6 y8 y9 y10 (y11:Int) (y12:Int) y13 y14 y15 y16 (y17:Int) y18) ∧
 (∀ z21:(List (Prod Int (Prod Int (Prod Int PUnit.{1})))),
 (∀ z22:qT3,
 (∀ z23:(List qT6),
 (∀ z24:qT3,
 (∀ z25:Int,
 (∀ z26:Bool,
 (∀ z27 z28 z29 z30 z31 z32 z33 z34 z35 z36 z37 z38:Int,
 (∀ z39:qT0,
 ((y19 z21 z22 z23 z24 z25 z26 z27 z28 z29 z30 z31 z32 z33 z34 z35 z36 z37 z38 z39) →
 (∃ y41:Bool,
 (∃ y42:qT3,
 (∃ y43:(List qT6),
 (∃ y44:qT3,
 (∃ y45:Int,
 (∃ y46:Bool,
 (∃ y47 y48 y49 y50 y51:Int,
 (∃ y52:(List (Prod Int (Prod Int (Prod Int PUnit.{1})))),
 (∃ y53 y54:Nat,
 (∃ y55 y56 y57 y58:Int,
 (∃ y59:Nat,
 (∃ y60:qT0,
 (Need (E 24 [(.op (0,0) [])] (hq6 z22 z23 z24 z25 z26 z27 z28 z29 z30 z31 z21 z32.toNat z33.toNat z34 z35 z36 z37 z38.toNat z39) (.tv [] .bool y41) (hq6 y42 y43 y44 y45 y46 y47 y48 y49 y50 y51 y52 y53 y54 y55 y56 y57 y58 y59 y60)) ∧
 ((((!y41)=true) →
 (Need ((((0:Int),((0:Int),()))=((0:Int),((0:Int),())))∧(y60.length=y60.length)) ∧
 ((y19 y52 y42 y43 y44 y45 y46 y47 y48 y49 y50 y51 (y53:Int) (y54:Int) y55 y56 y57 y58 (y59:Int) y60) ∧
  Need ((y20 y52 y42 y43 y44 y45 y46 y47 y48 y49 y50 y51 (y53:Int) (y54:Int) y55 y56 y57 y58 (y59:Int) y60)<(y20 z21 z22 z23 z24 z25 z26 z27 z28 z29 z30 z31 z32 z33 z34 z35 z36 z37 z38 z39))))) ∧
 (((!y41)=false) →
 (∃ y63 y64 y65:Int,
 (Need (E 22 [(.op (0,0) [])] (hq6 y42 y43 y44 y45 y46 y47 y48 y49 y50 y51 y52 y53 y54 y55 y56 y57 y58 y59 y60) (.tup [(.tv [] qt1 (y63,(y64,()))),(.tv [] (.int .i64) y65)]) (hq6 y42 y43 y44 y45 y46 y47 y48 y49 y50 y51 y52 y53 y54 y55 y56 y57 y58 y59 y60)) ∧
 (Q (.tup [(.tv [] qt1 (y63,(y64,()))),(.tv [] (.int .i64) y65)]) (hq16 y49 y50 y51 y53 y54 y55 y56 y57 y58 y59 y60)))))))))))))))))))))))))))))))))))))))))))))):EvF PP orc 14 [.op (0,0) [],.tv [] (.int .i64) x1,.tv [] qt15 x2,.tv [] .str x3,.op (0,1) []] [((0,0),⟨⟨qt11,((some (0,2)),())⟩,[]⟩),((0,1),⟨⟨qt5,(o1_0,(o1_1,(o1_2,())))⟩,[]⟩),((0,2),⟨⟨qt3,((some (0,3)),((some ((0,4),g4,0,n4)),(o0_0_2,())))⟩,[]⟩),((0,3),⟨⟨qt5,(o0_0_0_0,(o0_0_0_1,(o0_0_0_2,())))⟩,[]⟩),((0,4),⟨⟨.arr (Nat.succ g4) l4.length qt0,l4⟩,[]⟩)] Q:=vc_of (by kernel_rfl) h
theorem vc15 (x0:Int) (Q:AV→Heap→Prop) (h :
(∃ y0:Int,
 (Need (E 40 [(.tv [] (.int .i64) x0)] [] (.tv [] (.int .i64) y0) []) ∧
 (Q (.op (1,0) []) [((1,0),⟨⟨qt5,(y0,((0:Int),((0:Int),())))⟩,[]⟩)])))):EvF PP orc 15 [.tv [] (.int .i64) x0] [] Q:=vc_of (by kernel_rfl) h
theorem vc16 (o0_0:Int) (o0_1:Int) (o0_2:Int) (Q:AV→Heap→Prop) (h :
(Q (.tv [] (.int .i64) o0_1) (hq0 o0_0 o0_1 o0_2))):EvF PP orc 16 [.op (0,0) []] (hq0 o0_0 o0_1 o0_2) Q:=vc_of (by kernel_rfl) h
theorem vc17 (x1:Int) (x2:List (XT)) (g2:Nat) (l2:List ((Bool×(Int×(Int×((Int×(Int×(Int×Unit)))×(List (Int)×(Bool×Unit)))))))) (o0_0_0:Int) (o0_0_1:Int) (o0_0_2:Int) (Q:AV→Heap→Prop) (h :
(∃ y0:qT3,
 (Need (E 41 [(.op (0,0) []),(.tv [] (.int .i64) x1)] (hq9 g2 l2 o0_0_0 o0_0_1 o0_0_2) (.tv [[]] qt7 y0) (hq9 g2 l2 o0_0_0 o0_0_1 o0_0_2)) ∧
 (∃ y1:(Int→(Int→(Int→(Int→(Int→(Int→(Int→(Int→(qT2→Prop))))))))),
 (∃ y2:(Int→(Int→(Int→(Int→(Int→(Int→(Int→(Int→(qT2→Nat))))))))),
 (Need (l2.length=l2.length) ∧
 ((y1 (0:Int) (0:Int) (g2:Int) (l2.length:Int) o0_0_0 o0_0_1 o0_0_2 (g2:Int) l2) ∧
 (∀ z3 z4 z5 z6 z7 z8 z9 z10:Int,
 (∀ z11:qT2,
 ((y1 z3 z4 z5 z6 z7 z8 z9 z10 z11) →
 ((((decide (z4<(y0.length:Int)))=true) →
 (Need ((-9223372036854775808≤(z3+1))∧((z3+1)≤9223372036854775807)) ∧
 (Need ((0≤z4)∧(z4<(y0.length:Int))) ∧
 (∃ y14:Bool,
 (∃ y15 y16 y17 y18 y19:Int,
 (∃ y20:qT3,
 (∃ y21:Bool,
 (Need (E 42 [(.op (0,0) []),(.tv [] (.int .i64) (List.getD y0 z4.toNat (0:Int)))] (hq2 z5.toNat z6.toNat z7 z8 z9 z10.toNat z11) (.tv [] qt2 (y14,(y15,(y16,((y17,(y18,(y19,()))),(y20,(y21,()))))))) (hq2 z5.toNat z6.toNat z7 z8 z9 z10.toNat z11)) ∧
 ((((!y14)=true) →
 (∃ y23:XT,
 (Need (E 44 [(.tv [] (.slice .expr) x2),(.tv [] (.int .i64) y15)] [] (.tv [] .expr y23) []) ∧
 (∃ y24:Int,
 (Need (E 43 [(.tv [] .expr y23)] [] (.tv [] (.int .i64) y24) []) ∧
 (Need ((-9223372036854775808≤((z3+1)+y24))∧(((z3+1)+y24)≤9223372036854775807)) ∧
 (Need ((-9223372036854775808≤(z4+1))∧((z4+1)≤9223372036854775807)) ∧
 (Need (z11.length=z11.length) ∧
 ((y1 ((z3+1)+y24) (z4+1) (z5.toNat:Int) (z6.toNat:Int) z7 z8 z9 (z10.toNat:Int) z11) ∧
   Need ((y2 ((z3+1)+y24) (z4+1) (z5.toNat:Int) (z6.toNat:Int) z7 z8 z9 (z10.toNat:Int) z11)<(y2 z3 z4 z5 z6 z7 z8 z9 z10 z11))))))))))) ∧
 (((!y14)=false) →
 (Need ((-9223372036854775808≤(z4+1))∧((z4+1)≤9223372036854775807)) ∧
 (Need (z11.length=z11.length) ∧
 ((y1 (z3+1) (z4+1) (z5.toNat:Int) (z6.toNat:Int) z7 z8 z9 (z10.toNat:Int) z11) ∧
  Need ((y2 (z3+1) (z4+1) (z5.toNat:Int) (z6.toNat:Int) z7 z8 z9 (z10.toNat:Int) z11)<(y2 z3 z4 z5 z6 z7 z8 z9 z10 z11))))))))))))))) ∧
 (((decide (z4<(y0.length:Int)))=false) →
 (Q (.tv [] (.int .i64) z3) (hq2 z5.toNat z6.toNat z7 z8 z9 z10.toNat z11)))))))))))))):EvF PP orc 17 [.op (0,0) [],.tv [] (.int .i64) x1,.tv [] (.slice .expr) x2] (hq14 g2 l2 o0_0_0 o0_0_1 o0_0_2) Q:=vc_of (by kernel_rfl) h
theorem vc18 (x0:Int) (Q:AV→Heap→Prop) (h :
((((decide (x0<0))=true) →
 (Q (.tv [] (.int .i64) (0:Int)) [])) ∧
 (((decide (x0<0))=false) →
 ((((decide (1099511627776<x0))=true) →
 (Q (.tv [] (.int .i64) (1099511627776:Int)) [])) ∧
 (((decide (1099511627776<x0))=false) →
 (Q (.tv [] (.int .i64) x0) [])))))):EvF PP orc 18 [.tv [] (.int .i64) x0] [] Q:=vc_of (by kernel_rfl) h
theorem vc19 (x1:Int) (x2:List (XT)) (x3:List Int) (g2:Nat) (l2:List ((Bool×(Int×(Int×((Int×(Int×(Int×Unit)))×(List (Int)×(Bool×Unit)))))))) (o0_0_0:Int) (o0_0_1:Int) (o0_0_2:Int) (Q:AV→Heap→Prop) (h :
(∃ y0:Bool,
 (∃ y1 y2 y3 y4 y5:Int,
 (∃ y6:qT3,
 (∃ y7:Bool,
 (Need (E 42 [(.op (0,0) []),(.tv [] (.int .i64) x1)] (hq9 g2 l2 o0_0_0 o0_0_1 o0_0_2) (.tv [] qt2 (y0,(y1,(y2,((y3,(y4,(y5,()))),(y6,(y7,()))))))) (hq9 g2 l2 o0_0_0 o0_0_1 o0_0_2)) ∧
 (((y0=true) →
 ((((decide (y4<0))=true) →
 (∃ y10 y11:Int,
 (Need (E 45 [(.tv [] .str (List.map (fun v12=>(((BitVec.toNat (UInt8.toBitVec v12)):Nat):Int)) []))] [] (.tv [] qt1 (y10,(y11,()))) []) ∧
 (Q (.tv [] qt1 (y10,(y11,()))) (hq9 g2 l2 o0_0_0 o0_0_1 o0_0_2))))) ∧
 (((decide (y4<0))=false) →
 ((((decide (y5<y4))=true) →
 (∃ y15 y16:Int,
 (Need (E 45 [(.tv [] .str (List.map (fun v17=>(((BitVec.toNat (UInt8.toBitVec v17)):Nat):Int)) []))] [] (.tv [] qt1 (y15,(y16,()))) []) ∧
 (Q (.tv [] qt1 (y15,(y16,()))) (hq9 g2 l2 o0_0_0 o0_0_1 o0_0_2))))) ∧
 (((decide (y5<y4))=false) →
 ((((decide ((x3.length:Int)<y5))=true) →
 (∃ y20 y21:Int,
 (Need (E 45 [(.tv [] .str (List.map (fun v22=>(((BitVec.toNat (UInt8.toBitVec v22)):Nat):Int)) []))] [] (.tv [] qt1 (y20,(y21,()))) []) ∧
 (Q (.tv [] qt1 (y20,(y21,()))) (hq9 g2 l2 o0_0_0 o0_0_1 o0_0_2))))) ∧
 (((decide ((x3.length:Int)<y5))=false) →
 (Need ((0≤y4)∧((y4≤y5)∧(y5≤(x3.length:Int)))) ∧
 (∃ y24 y25:Int,
 (Need (E 45 [(.tv [] .str (cut x3 y4.toNat y5.toNat))] [] (.tv [] qt1 (y24,(y25,()))) []) ∧
 (Q (.tv [] qt1 (y24,(y25,()))) (hq9 g2 l2 o0_0_0 o0_0_1 o0_0_2)))))))))))) ∧
 ((y0=false) →
 (∃ y27:(qT6→(Int→(Int→(Int→(Int→(Int→(Int→(Int→(qT2→Prop))))))))),
 (∃ y28:(qT6→(Int→(Int→(Int→(Int→(Int→(Int→(Int→(qT2→Nat))))))))),
 (Need (l2.length=l2.length) ∧
 ((y27 [] (0:Int) (g2:Int) (l2.length:Int) o0_0_0 o0_0_1 o0_0_2 (g2:Int) l2) ∧
 (∀ z29:qT6,
 (∀ z30 z31 z32 z33 z34 z35 z36:Int,
 (∀ z37:qT2,
 ((y27 z29 z30 z31 z32 z33 z34 z35 z36 z37) →
 ((((decide (z30<(y6.length:Int)))=true) →
 (Need ((0≤z30)∧(z30<(y6.length:Int))) ∧
 (∃ y40 y41:Int,
 (∃ y42 y43:Nat,
 (∃ y44 y45 y46:Int,
 (∃ y47:Nat,
 (∃ y48:qT2,
 (Need (E 19 [(.op (0,0) []),(.tv [] (.int .i64) (List.getD y6 z30.toNat (0:Int))),(.tv [] (.slice .expr) x2),(.tv [] .str x3)] (hq2 z31.toNat z32.toNat z33 z34 z35 z36.toNat z37) (.tv [] qt1 (y40,(y41,()))) (hq2 y42 y43 y44 y45 y46 y47 y48)) ∧
 (Need ((z29.length+(List.length [(y40,(y41,()))]))≤bigN) ∧
 (Need ((-9223372036854775808≤(z30+1))∧((z30+1)≤9223372036854775807)) ∧
 (Need (((y0,(y1,(y2,((y3,(y4,(y5,()))),(y6,(y7,()))))))=(y0,(y1,(y2,((y3,(y4,(y5,()))),(y6,(y7,())))))))∧((((0:Int),((0:Int),()))=((0:Int),((0:Int),())))∧(y48.length=y48.length))) ∧
 ((y27 (z29++[(y40,(y41,()))]) (z30+1) (y42:Int) (y43:Int) y44 y45 y46 (y47:Int) y48) ∧
  Need ((y28 (z29++[(y40,(y41,()))]) (z30+1) (y42:Int) (y43:Int) y44 y45 y46 (y47:Int) y48)<(y28 z29 z30 z31 z32 z33 z34 z35 z36 z37)))))))))))))) ∧
 (((decide (z30<(y6.length:Int)))=false) →
 (∃ y50:XT,
 (Need (E 44 [(.tv [] (.slice .expr) x2),(.tv [] (.int .i64) y1)] [] (.tv [] .expr y50) []) ∧
 (∃ y51:Int,
 (Need (E 43 [(.tv [] .expr y50)] [] (.tv [] (.int .i64) y51) []) ∧
 ((((decide (0<y51))=true) →
 (∃ y53 y54:Int,
 (Need (E 46 [(.tv [] .expr y50),(.tv [] qt20 z29),(.tv [] qt7 y6)] [] (.tv [] qt1 (y53,(y54,()))) []) ∧
 (Q (.tv [] qt1 (y53,(y54,()))) (hq2 z31.toNat z32.toNat z33 z34 z35 z36.toNat z37))))) ∧
 (((decide (0<y51))=false) →
 ((((decide ((0:Int)<(z29.length:Int)))=true) →
 (Need (((0:Int)≤(0:Int))∧((0:Int)<(z29.length:Int))) ∧
 (Q (.tv [] qt1 (List.getD z29 0 ((0:Int),((0:Int),())))) (hq2 z31.toNat z32.toNat z33 z34 z35 z36.toNat z37)))) ∧
 (((decide ((0:Int)<(z29.length:Int)))=false) →
 (Q (.tv [] qt1 ((1:Int),((0:Int),()))) (hq2 z31.toNat z32.toNat z33 z34 z35 z36.toNat z37)))))))))))))))))))))))))))):EvF PP orc 19 [.op (0,0) [],.tv [] (.int .i64) x1,.tv [] (.slice .expr) x2,.tv [] .str x3] (hq14 g2 l2 o0_0_0 o0_0_1 o0_0_2) Q:=vc_of (by kernel_rfl) h
theorem vc20 (x1:Int) (x2:List (List ((Int×(Int×Unit))))) (x3:List Int) (o1_0:Int) (o1_1:Int) (o1_2:Int) (g4:Nat) (l4:List (((Int×(Int×((Int×(Int×(Int×Unit)))×(List (Int)×(Bool×(Bool×Unit))))))×(Int×Unit)))) (n4:Nat) (o0_0_2:Int) (o0_0_0_0:Int) (o0_0_0_1:Int) (o0_0_0_2:Int) (Q:AV→Heap→Prop) (h :
(∃ y0:qT3,
 (Need (E 21 [(.op (0,0) []),(.tv [] (.int .i64) x1)] (hq8 g4 n4 o0_0_2 o0_0_0_0 o0_0_0_1 o0_0_0_2 l4) (.tv [[]] qt7 y0) (hq8 g4 n4 o0_0_2 o0_0_0_0 o0_0_0_1 o0_0_0_2 l4)) ∧
 ((((decide ((y0.length:Int)=(0:Int)))=true) →
 (Q (.op (1,0) []) [((1,0),⟨⟨(.pair .ref (.pair qt7 (.pair qt15 (.pair .str (.pair .ref (.pair (.mref (.int .i64) qt1) qt9)))))),((some (0,0)),(y0,(x2,(x3,((some (0,1)),((some (1,1)),(x1,(true,((2:Int),((0:Int),()))))))))))⟩,[]⟩),((1,1),⟨⟨(.mp (.int .i64) qt1),[]⟩,[]⟩),((0,0),⟨⟨qt11,((some (0,2)),())⟩,[]⟩),((0,1),⟨⟨qt5,(o1_0,(o1_1,(o1_2,())))⟩,[]⟩),((0,2),⟨⟨qt3,((some (0,3)),((some ((0,4),(g4,(0,n4)))),(o0_0_2,())))⟩,[]⟩),((0,3),⟨⟨qt5,(o0_0_0_0,(o0_0_0_1,(o0_0_0_2,())))⟩,[]⟩),((0,4),⟨⟨(.arr (Nat.succ g4) l4.length qt0),l4⟩,[]⟩)])) ∧
 (((decide ((y0.length:Int)=(0:Int)))=false) →
 (Q (.op (1,0) []) [((1,0),⟨⟨(.pair .ref (.pair qt7 (.pair qt15 (.pair .str (.pair .ref (.pair (.mref (.int .i64) qt1) qt9)))))),((some (0,0)),(y0,(x2,(x3,((some (0,1)),((some (1,1)),(x1,(false,((0:Int),((0:Int),()))))))))))⟩,[]⟩),((1,1),⟨⟨(.mp (.int .i64) qt1),[]⟩,[]⟩),((0,0),⟨⟨qt11,((some (0,2)),())⟩,[]⟩),((0,1),⟨⟨qt5,(o1_0,(o1_1,(o1_2,())))⟩,[]⟩),((0,2),⟨⟨qt3,((some (0,3)),((some ((0,4),(g4,(0,n4)))),(o0_0_2,())))⟩,[]⟩),((0,3),⟨⟨qt5,(o0_0_0_0,(o0_0_0_1,(o0_0_0_2,())))⟩,[]⟩),((0,4),⟨⟨(.arr (Nat.succ g4) l4.length qt0),l4⟩,[]⟩)])))))):EvF PP orc 20 [.op (0,0) [],.tv [] (.int .i64) x1,.tv [] qt15 x2,.tv [] .str x3,.op (0,1) []] [((0,0),⟨⟨qt11,((some (0,2)),())⟩,[]⟩),((0,1),⟨⟨qt5,(o1_0,(o1_1,(o1_2,())))⟩,[]⟩),((0,2),⟨⟨qt3,((some (0,3)),((some ((0,4),g4,0,n4)),(o0_0_2,())))⟩,[]⟩),((0,3),⟨⟨qt5,(o0_0_0_0,(o0_0_0_1,(o0_0_0_2,())))⟩,[]⟩),((0,4),⟨⟨.arr (Nat.succ g4) l4.length qt0,l4⟩,[]⟩)] Q:=vc_of (by kernel_rfl) h
end Go.Am.Z
