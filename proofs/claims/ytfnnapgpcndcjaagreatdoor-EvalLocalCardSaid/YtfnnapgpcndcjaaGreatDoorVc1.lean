/-
  A part of the proof of a law: see the text that states it.
-/
import Derived.Test.YtfnnapgpcndcjaaGreatDoorHead
set_option linter.all false
namespace Go.Am.Z
open Go
set_option maxRecDepth 100000
set_option maxHeartbeats 4000000
theorem vc6  (Q:AV→Heap→Prop) (h :
(∃ y0:XT,
 (∃ y1 y2:Int,
 (Need (E 25 [(.tv [] .str (List.map (fun v3=>(((BitVec.toNat (UInt8.toBitVec v3)):Nat):Int)) [(36:UInt8),(49:UInt8),(32:UInt8),(47:UInt8),(32:UInt8),(36:UInt8),(50:UInt8)]))] [] (.tup [(.tv [] .expr y0),(.tv [] (.int .i64) y1),(.tv [] (.int .i64) y2)]) []) ∧
 (∃ y4:XT,
 (∃ y5 y6:Int,
 (Need (E 25 [(.tv [] .str (List.map (fun v7=>(((BitVec.toNat (UInt8.toBitVec v7)):Nat):Int)) [(64:UInt8),(49:UInt8),(32:UInt8),(43:UInt8),(32:UInt8),(49:UInt8)]))] [] (.tup [(.tv [] .expr y4),(.tv [] (.int .i64) y5),(.tv [] (.int .i64) y6)]) []) ∧
 (∃ y8:(List qT4),
 (Need (E 26 [(.tv [] .expr y0)] [] (.tv [[]] qt21 y8) []) ∧
 (∃ y9 y10:Int,
 (Need (E 28 [(.tv [] (.int .i64) (7:Int))] [] (.tv [] qt1 (y9,(y10,()))) []) ∧
 (∃ y11 y12:Int,
 (Need (E 28 [(.tv [] (.int .i64) (0:Int))] [] (.tv [] qt1 (y11,(y12,()))) []) ∧
 (∃ y13 y14:Int,
 (Need (E 27 [(.tv [] qt21 y8),(.tv [] qt21 [(y9,(y10,())),(y11,(y12,()))]),(.tv [] qt7 [(0:Int),(1:Int)])] [] (.tv [] qt1 (y13,(y14,()))) []) ∧
 (∃ y15 y16:Int,
 (Need (E 28 [(.tv [] (.int .i64) (7:Int))] [] (.tv [] qt1 (y15,(y16,()))) []) ∧
 (∃ y17 y18:Int,
 (Need (E 28 [(.tv [] (.int .i64) (-(2:Int)))] [] (.tv [] qt1 (y17,(y18,()))) []) ∧
 (∃ y19 y20:Int,
 (Need (E 27 [(.tv [] qt21 y8),(.tv [] qt21 [(y15,(y16,())),(y17,(y18,()))]),(.tv [] qt7 [(0:Int),(1:Int)])] [] (.tv [] qt1 (y19,(y20,()))) []) ∧
 (∃ y21:(List qT4),
 (Need (E 26 [(.tv [] .expr y4)] [] (.tv [[]] qt21 y21) []) ∧
 (∃ y22 y23:Int,
 (Need (E 28 [(.tv [] (.int .i64) (7:Int))] [] (.tv [] qt1 (y22,(y23,()))) []) ∧
 (∃ y24 y25:Int,
 (Need (E 27 [(.tv [] qt21 y21),(.tv [] qt21 [(y22,(y23,()))]),(.tv [] qt7 [(0:Int)])] [] (.tv [] qt1 (y24,(y25,()))) []) ∧
 (∃ y26 y27:Int,
 (Need (E 29 [(.tv [] .str (List.map (fun v28=>(((BitVec.toNat (UInt8.toBitVec v28)):Nat):Int)) [(49:UInt8),(50:UInt8)]))] [] (.tv [] qt1 (y26,(y27,()))) []) ∧
 (∃ y29 y30:Int,
 (Need (E 28 [(.tv [] (.int .i64) (12:Int))] [] (.tv [] qt1 (y29,(y30,()))) []) ∧
 (((((decide (y26=y29))&&((decide (y27=y30))&&true))=true) →
 (∃ y32 y33:Int,
 (Need (E 29 [(.tv [] .str (List.map (fun v34=>(((BitVec.toNat (UInt8.toBitVec v34)):Nat):Int)) [(97:UInt8),(98:UInt8)]))] [] (.tv [] qt1 (y32,(y33,()))) []) ∧
 (∃ y35 y36:Int,
 (Need (E 28 [(.tv [] (.int .i64) (2:Int))] [] (.tv [] qt1 (y35,(y36,()))) []) ∧
 (((((decide (y32=y35))&&((decide (y33=y36))&&true))=true) →
 (∃ y38 y39:Int,
 (Need (E 29 [(.tv [] .str (List.map (fun v40=>(((BitVec.toNat (UInt8.toBitVec v40)):Nat):Int)) [(49:UInt8),(56:UInt8),(52:UInt8),(52:UInt8),(54:UInt8),(55:UInt8),(52:UInt8),(52:UInt8),(48:UInt8),(55:UInt8),(51:UInt8),(55:UInt8),(48:UInt8),(57:UInt8),(53:UInt8),(53:UInt8),(49:UInt8),(54:UInt8),(49:UInt8),(53:UInt8)]))] [] (.tv [] qt1 (y38,(y39,()))) []) ∧
 (∃ y41 y42:Int,
 (Need (E 28 [(.tv [] (.int .i64) (-(1:Int)))] [] (.tv [] qt1 (y41,(y42,()))) []) ∧
 (((((decide (y38=y41))&&((decide (y39=y42))&&true))=true) →
 (((((decide (y13=(3:Int)))&&((decide (y14=(32:Int)))&&true))=true) →
 (∃ y45 y46:Int,
 (Need (E 28 [(.tv [] (.int .i64) (-(3:Int)))] [] (.tv [] qt1 (y45,(y46,()))) []) ∧
 (((((decide (y19=y45))&&((decide (y20=y46))&&true))=true) →
 (Q (.tv [] .bool ((decide (y24=(3:Int)))&&((decide (y25=(33:Int)))&&true))) [])) ∧
 ((((decide (y19=y45))&&((decide (y20=y46))&&true))=false) →
 (Q (.tv [] .bool false) [])))))) ∧
 ((((decide (y13=(3:Int)))&&((decide (y14=(32:Int)))&&true))=false) →
 (Q (.tv [] .bool false) [])))) ∧
 ((((decide (y38=y41))&&((decide (y39=y42))&&true))=false) →
 (Q (.tv [] .bool false) [])))))))) ∧
 ((((decide (y32=y35))&&((decide (y33=y36))&&true))=false) →
 (Q (.tv [] .bool false) [])))))))) ∧
 ((((decide (y26=y29))&&((decide (y27=y30))&&true))=false) →
 (Q (.tv [] .bool false) [])))))))))))))))))))))))))))))))))):EvF PP orc 6 [] [] Q:=vc_of (by kernel_rfl) h
theorem vc7 (x0_0:Int) (x0_1:Int) (x0_2:List (Int)) (x0_3:List (List (Int))) (x0_4:List (Int)) (x0_5:List (Int)) (x0_6:List (Int)) (x1:Int) (x2:Int) (Q:AV→Heap→Prop) (h :
((((decide (x1<(x0_2.length:Int)))=true) →
 (Q (.tv [] .bool false) [])) ∧
 (((decide (x1<(x0_2.length:Int)))=false) →
 ((((decide ((5:Int)<(x0_5.length:Int)))=true) →
 (Q (.tv [] .bool false) [])) ∧
 (((decide ((5:Int)<(x0_5.length:Int)))=false) →
 (∃ y4:(Int→Prop),
 (∃ y5:(Int→Nat),
 ((y4 (0:Int)) ∧
 (∀ z6:Int,
 ((y4 z6) →
 ((((decide (z6<(x0_3.length:Int)))=true) →
 (Need ((0≤z6)∧(z6<(x0_3.length:Int))) ∧
 ((((decide (x2<((List.length (List.getD x0_3 z6.toNat [])):Int)))=true) →
 (Q (.tv [] .bool false) [])) ∧
 (((decide (x2<((List.length (List.getD x0_3 z6.toNat [])):Int)))=false) →
 (Need ((-9223372036854775808≤(z6+1))∧((z6+1)≤9223372036854775807)) ∧
 ((y4 (z6+1)) ∧
  Need ((y5 (z6+1))<(y5 z6)))))))) ∧
 (((decide (z6<(x0_3.length:Int)))=false) →
 (Q (.tv [] .bool true) []))))))))))))):EvF PP orc 7 [.tv [] qt11 (x0_0,(x0_1,(x0_2,(x0_3,(x0_4,(x0_5,(x0_6,()))))))),.tv [] (.int .i64) x1,.tv [] (.int .i64) x2] [] Q:=vc_of (by kernel_rfl) h
theorem vc8 (x0:List (XT)) (Q:AV→Heap→Prop) (h :
(∃ y0:(Int→Prop),
 (∃ y1:(Int→Nat),
 ((y0 (0:Int)) ∧
 (∀ z2:Int,
 ((y0 z2) →
 ((((decide (z2<(x0.length:Int)))=true) →
 (Need ((0≤z2)∧(z2<(x0.length:Int))) ∧
 (∃ y5:Int,
 (Need (E 30 [(.tv [] .expr (List.getD x0 z2.toNat (XT.mk (0:Int) (0:Int) []))),(.tv [] (.int .i64) (30:Int)),(.tv [] (.int .i64) (12:Int))] [] (.tv [] (.int .i64) y5) []) ∧
 ((((decide (y5<0))=true) →
 (Q (.tv [] .bool false) [])) ∧
 (((decide (y5<0))=false) →
 (Need ((-9223372036854775808≤(z2+1))∧((z2+1)≤9223372036854775807)) ∧
 ((y0 (z2+1)) ∧
  Need ((y1 (z2+1))<(y1 z2)))))))))) ∧
 (((decide (z2<(x0.length:Int)))=false) →
 (Q (.tv [] .bool (decide ((x0.length:Int)≤(30:Int)))) []))))))))):EvF PP orc 8 [.tv [] (.slice .expr) x0] [] Q:=vc_of (by kernel_rfl) h
theorem vc9 (x0_0:Int) (x0_1:Int) (x0_2:List (Int)) (x0_3:List (List (Int))) (x0_4:List (Int)) (x0_5:List (Int)) (x0_6:List (Int)) (Q:AV→Heap→Prop) (h :
(∃ y0:qT9,
 (∃ y1:(List qT6),
 (∃ y2 y3:Nat,
 (∃ y4:qT3,
 (∃ y5:qT7,
 (∃ y6:Nat,
 (∃ y7:qT2,
 (Need (E 32 [(.tv [] qt11 (x0_0,(x0_1,(x0_2,(x0_3,(x0_4,(x0_5,(x0_6,()))))))))] [] (.tv [] qt5 (y0,(y1,((some ((1,0),(y2,(0,y3)))),(y4,(y5,())))))) [((1,0),⟨⟨(.arr (Nat.succ y6) y7.length qt12),y7⟩,[]⟩)]) ∧
 (∃ y8 y9:qT8,
 (∃ y10:qT5,
 (∃ y11 y12:qT3,
 (∃ y13:qT8,
 (∃ y14:Int,
 (∃ y15:qT3,
 (∃ y16:Nat,
 (∃ y17:qT2,
 (Need (E 31 [(.tv [] qt5 (y0,(y1,((some ((0,0),(y2,(0,y3)))),(y4,(y5,()))))))] (hq2 y6 y7) (.tup [(.tv [] qt6 (y8,(y9,(y10,(y11,(y12,(y13,()))))))),(.tv [] (.int .i64) y14),(.tv [] .str y15)]) (hq2 y16 y17)) ∧
 (Q (.tv [] qt6 (y8,(y9,(y10,(y11,(y12,(y13,()))))))) []))))))))))))))))))):EvF PP orc 9 [.tv [] qt11 (x0_0,(x0_1,(x0_2,(x0_3,(x0_4,(x0_5,(x0_6,())))))))] [] Q:=vc_of (by kernel_rfl) h
theorem vc10 (x0_0:List qT3) (x0_1:List qT3) (x0_2:List ((Int×(List (Int)×(Int×Unit))))) (x0_3:List (Int)) (x0_4:List (Int)) (x0_5:List qT3) (x1:List (Int)) (x2:List ((Int×(Int×(Int×Unit))))) (Q:AV→Heap→Prop) (h :
(∃ y0 y1 y2:Int,
 (Need (E 15 [(.tv [] (.int .i64) (1000:Int))] [] (.op (1,0) []) (hq11 y0 y1 y2)) ∧
 (∃ y3:Nat,
 (∃ y4:qT0,
 (∃ y5 y6:Nat,
 (∃ y7 y8 y9 y10:Int,
 (Need (E 33 [(.op (0,0) [])] (hq0 y0 y1 y2) (.op (1,0) []) [((1,0),⟨⟨qt9,((some (1,1)),())⟩,[]⟩),((1,2),⟨⟨(.arr (Nat.succ y3) y4.length qt0),y4⟩,[]⟩),((1,1),⟨⟨qt3,((some (0,0)),((some ((1,2),(y5,(0,y6)))),(y7,())))⟩,[]⟩),((0,0),⟨⟨qt4,(y8,(y9,(y10,())))⟩,[]⟩)]) ∧
 (((false=true) →
 (Q (.tup [(.tv [] .ref (Option.none )),(.op (1,0) [])]) [((1,0),⟨⟨qt10,((some (1,1)),((some ((1,2),(0,(0,0)))),()))⟩,[]⟩),((1,2),⟨⟨(.arr 1 0 qt2),[]⟩,[]⟩),((1,1),⟨⟨qt4,((1000:Int),((0:Int),((0:Int),())))⟩,[]⟩)])) ∧
 ((false=false) →
 (∃ y13:(Int→(Int→(Int→(Int→(Int→(qT1→(Int→(Int→(Int→(Int→(qT0→(Int→(Int→(Int→(Int→(Int→(Int→Prop))))))))))))))))),
 (∃ y14:(Int→(Int→(Int→(Int→(Int→(qT1→(Int→(Int→(Int→(Int→(qT0→(Int→(Int→(Int→(Int→(Int→(Int→Nat))))))))))))))))),
 (Need ((0=0)∧(y4.length=y4.length)) ∧
 ((y13 (0:Int) (0:Int) ((0:Nat):Int) ((0:Nat):Int) ((0:Nat):Int) [] (1000:Int) (0:Int) (0:Int) (y3:Int) y4 (y5:Int) (y6:Int) y7 y8 y9 y10) ∧
 (∀ z15 z16 z17 z18 z19:Int,
 (∀ z20:qT1,
 (∀ z21 z22 z23 z24:Int,
 (∀ z25:qT0,
 (∀ z26 z27 z28 z29 z30 z31:Int,
 ((y13 z15 z16 z17 z18 z19 z20 z21 z22 z23 z24 z25 z26 z27 z28 z29 z30 z31) →
 ((((decide (z16<(x1.length:Int)))=true) →
 (Need ((0≤z16)∧(z16<(x1.length:Int))) ∧
 (Need ((-9223372036854775808≤(List.getD x1 z16.toNat (0:Int)))∧((List.getD x1 z16.toNat (0:Int))≤9223372036854775807)) ∧
 (Need ((-9223372036854775808≤((x0_2.length:Int)+(2:Int)))∧(((x0_2.length:Int)+(2:Int))≤9223372036854775807)) ∧
 (Need (((x0_2.length:Int)+(2:Int))≠(0:Int)) ∧
 (Need (¬ ((IntKind.i64=IntKind.u8)∧(¬ (((0:Int)≤(List.getD x1 z16.toNat (0:Int)))∧(((List.getD x1 z16.toNat (0:Int))<(256:Int))∧((0:Int)<((x0_2.length:Int)+(2:Int)))))))) ∧
 ((((decide ((Int.tmod (List.getD x1 z16.toNat (0:Int)) ((x0_2.length:Int)+(2:Int)))<(1:Int)))=true) →
 ((((decide (z15<(x2.length:Int)))=true) →
 (Need ((0≤z15)∧(z15<(x2.length:Int))) ∧
 (∃ y36 y37:Int,
 (∃ y38 y39:Nat,
 (∃ y40 y41 y42 y43:Int,
 (∃ y44:Nat,
 (∃ y45:qT0,
 (Need (E 34 [(.op (0,0) []),(.tv [] qt4 (List.getD x2 z15.toNat ((0:Int),((0:Int),((0:Int),())))))] (hq1 z26.toNat z27.toNat z28 z29 z30 z31 z24.toNat z25) (.tup [(.tv [] (.int .i64) y36),(.tv [] (.int .i64) y37)]) (hq1 y38 y39 y40 y41 y42 y43 y44 y45)) ∧
 (Need ((0≤z15)∧(z15<(x2.length:Int))) ∧
 (∃ y46 y47:Int,
 (∃ y48 y49:Nat,
 (∃ y50 y51 y52:Int,
 (∃ y53:Nat,
 (∃ y54:qT1,
 (Need (E 35 [(.op (0,0) []),(.tv [] qt4 (List.getD x2 z15.toNat ((0:Int),((0:Int),((0:Int),())))))] (hq4 z17.toNat z18.toNat z21 z22 z23 z19.toNat z20) (.tup [(.tv [] (.int .i64) y46),(.tv [] (.int .i64) y47)]) (hq4 y48 y49 y50 y51 y52 y53 y54)) ∧
 (Need ((-9223372036854775808≤(z15+1))∧((z15+1)≤9223372036854775807)) ∧
 (Need ((-9223372036854775808≤(z16+1))∧((z16+1)≤9223372036854775807)) ∧
 (Need ((y54.length=y54.length)∧(y45.length=y45.length)) ∧
 ((y13 (z15 + 1) (z16 + 1) (y48 : Int) (y49 : Int) (y53 : Int) y54 y50 y51 y52 (y44 : Int) y45 (y38 : Int) (y39 : Int) y40 y41 y42 y43) ∧
    Need ((y14 (z15+1) (z16+1) (y48:Int) (y49:Int) (y53:Int) y54 y50 y51 y52 (y44:Int) y45 (y38:Int) (y39:Int) y40 y41 y42 y43)<(y14 z15 z16 z17 z18 z19 z20 z21 z22 z23 z24 z25 z26 z27 z28 z29 z30 z31))))))))))))))))))))) ∧
 (((decide (z15<(x2.length:Int)))=false) →
 (Need ((-9223372036854775808≤(z15+1))∧((z15+1)≤9223372036854775807)) ∧
 (Need ((-9223372036854775808≤(z16+1))∧((z16+1)≤9223372036854775807)) ∧
 (Need ((z20.length=z20.length)∧(z25.length=z25.length)) ∧
 ((y13 (z15+1) (z16+1) (z17.toNat:Int) (z18.toNat:Int) (z19.toNat:Int) z20 z21 z22 z23 (z24.toNat:Int) z25 (z26.toNat:Int) (z27.toNat:Int) z28 z29 z30 z31) ∧
   Need ((y14 (z15+1) (z16+1) (z17.toNat:Int) (z18.toNat:Int) (z19.toNat:Int) z20 z21 z22 z23 (z24.toNat:Int) z25 (z26.toNat:Int) (z27.toNat:Int) z28 z29 z30 z31)<(y14 z15 z16 z17 z18 z19 z20 z21 z22 z23 z24 z25 z26 z27 z28 z29 z30 z31))))))))) ∧
 (((decide ((Int.tmod (List.getD x1 z16.toNat (0:Int)) ((x0_2.length:Int)+(2:Int)))<(1:Int)))=false) →
 ((((decide ((x0_2.length:Int)≤(Int.tmod (List.getD x1 z16.toNat (0:Int)) ((x0_2.length:Int)+(2:Int)))))=true) →
 ((((decide (z15<(x2.length:Int)))=true) →
 (Need ((0≤z15)∧(z15<(x2.length:Int))) ∧
 (∃ y59 y60:Int,
 (∃ y61 y62:Nat,
 (∃ y63 y64 y65 y66:Int,
 (∃ y67:Nat,
 (∃ y68:qT0,
 (Need (E 34 [(.op (0,0) []),(.tv [] qt4 (List.getD x2 z15.toNat ((0:Int),((0:Int),((0:Int),())))))] (hq1 z26.toNat z27.toNat z28 z29 z30 z31 z24.toNat z25) (.tup [(.tv [] (.int .i64) y59),(.tv [] (.int .i64) y60)]) (hq1 y61 y62 y63 y64 y65 y66 y67 y68)) ∧
 (Need ((0≤z15)∧(z15<(x2.length:Int))) ∧
 (∃ y69 y70:Int,
 (∃ y71 y72:Nat,
 (∃ y73 y74 y75:Int,
 (∃ y76:Nat,
 (∃ y77:qT1,
 (Need (E 35 [(.op (0,0) []),(.tv [] qt4 (List.getD x2 z15.toNat ((0:Int),((0:Int),((0:Int),())))))] (hq4 z17.toNat z18.toNat z21 z22 z23 z19.toNat z20) (.tup [(.tv [] (.int .i64) y69),(.tv [] (.int .i64) y70)]) (hq4 y71 y72 y73 y74 y75 y76 y77)) ∧
 (Need ((-9223372036854775808≤(z15+1))∧((z15+1)≤9223372036854775807)) ∧
 (Need ((-9223372036854775808≤(z16+1))∧((z16+1)≤9223372036854775807)) ∧
 (Need ((y77.length=y77.length)∧(y68.length=y68.length)) ∧
 ((y13 (z15 + 1) (z16 + 1) (y71 : Int) (y72 : Int) (y76 : Int) y77 y73 y74 y75 (y67 : Int) y68 (y61 : Int) (y62 : Int) y63 y64 y65 y66) ∧
    Need ((y14 (z15+1) (z16+1) (y71:Int) (y72:Int) (y76:Int) y77 y73 y74 y75 (y67:Int) y68 (y61:Int) (y62:Int) y63 y64 y65 y66)<(y14 z15 z16 z17 z18 z19 z20 z21 z22 z23 z24 z25 z26 z27 z28 z29 z30 z31))))))))))))))))))))) ∧
 (((decide (z15<(x2.length:Int)))=false) →
 (Need ((-9223372036854775808≤(z15+1))∧((z15+1)≤9223372036854775807)) ∧
 (Need ((-9223372036854775808≤(z16+1))∧((z16+1)≤9223372036854775807)) ∧
 (Need ((z20.length=z20.length)∧(z25.length=z25.length)) ∧
 ((y13 (z15+1) (z16+1) (z17.toNat:Int) (z18.toNat:Int) (z19.toNat:Int) z20 z21 z22 z23 (z24.toNat:Int) z25 (z26.toNat:Int) (z27.toNat:Int) z28 z29 z30 z31) ∧
   Need ((y14 (z15+1) (z16+1) (z17.toNat:Int) (z18.toNat:Int) (z19.toNat:Int) z20 z21 z22 z23 (z24.toNat:Int) z25 (z26.toNat:Int) (z27.toNat:Int) z28 z29 z30 z31)<(y14 z15 z16 z17 z18 z19 z20 z21 z22 z23 z24 z25 z26 z27 z28 z29 z30 z31))))))))) ∧
 (((decide ((x0_2.length:Int)≤(Int.tmod (List.getD x1 z16.toNat (0:Int)) ((x0_2.length:Int)+(2:Int)))))=false) →
 (Need ((-9223372036854775808≤((z18.toNat:Int)-(1:Int)))∧(((z18.toNat:Int)-(1:Int))≤9223372036854775807)) ∧
 (∃ y80:(qT3→(Int→(Int→(Int→(Int→(qT1→(Int→(Int→(Int→(Int→(qT0→(Int→(Int→(Int→(Int→(Int→(Int→Prop))))))))))))))))),
 (∃ y81:(qT3→(Int→(Int→(Int→(Int→(qT1→(Int→(Int→(Int→(Int→(qT0→(Int→(Int→(Int→(Int→(Int→(Int→Nat))))))))))))))))),
 (Need ((z20.length=z20.length)∧(z25.length=z25.length)) ∧
 ((y80 [] ((z18.toNat:Int)-(1:Int)) (z17.toNat:Int) (z18.toNat:Int) (z19.toNat:Int) z20 z21 z22 z23 (z24.toNat:Int) z25 (z26.toNat:Int) (z27.toNat:Int) z28 z29 z30 z31) ∧
 (∀ z82:qT3,
 (∀ z83 z84 z85 z86:Int,
 (∀ z87:qT1,
 (∀ z88 z89 z90 z91:Int,
 (∀ z92:qT0,
 (∀ z93 z94 z95 z96 z97 z98:Int,
 ((y80 z82 z83 z84 z85 z86 z87 z88 z89 z90 z91 z92 z93 z94 z95 z96 z97 z98) →
 ((((decide (0≤z83))=true) →
 (Need (((0:Int)≤(Int.tmod (List.getD x1 z16.toNat (0:Int)) ((x0_2.length:Int)+(2:Int))))∧((Int.tmod (List.getD x1 z16.toNat (0:Int)) ((x0_2.length:Int)+(2:Int)))<(x0_2.length:Int))) ∧
 ((((decide ((z82.length:Int)<((List.length (List.getD x0_2 (Int.toNat (Int.tmod (List.getD x1 z16.toNat (0:Int)) ((x0_2.length:Int)+(2:Int)))) ((0:Int),([],((0:Int),())))).2.1):Int)))=true) →
 (Need ((0≤z83)∧(z83<(z85.toNat:Int))) ∧
 (Need (z86.toNat=z84.toNat) ∧
 (Need ((0+z83.toNat)<z87.length) ∧
 (Need (z86.toNat=z84.toNat) ∧
 (Need ((0+z83.toNat)<z87.length) ∧
 ((((!(List.getD z87 (0+z83.toNat) (false,((0:Int),((0:Int),(((0:Int),((0:Int),((0:Int),()))),([],(false,()))))))).2.2.2.2.2.1)=true) →
 (Need (((List.length [z83])+z82.length)≤bigN) ∧
 (Need ((-9223372036854775808≤(z83-1))∧((z83-1)≤9223372036854775807)) ∧
 (Need ((z87.length=z87.length)∧(z92.length=z92.length)) ∧
 ((y80 ([z83] ++ z82) (z83 - 1) (z84.toNat : Int) (z85.toNat : Int) (z86.toNat : Int) z87 z88 z89 z90 (z91.toNat : Int) z92 (z93.toNat : Int) (z94.toNat : Int) z95 z96 z97 z98) ∧
     Need ((y81 ([z83]++z82) (z83-1) (z84.toNat:Int) (z85.toNat:Int) (z86.toNat:Int) z87 z88 z89 z90 (z91.toNat:Int) z92 (z93.toNat:Int) (z94.toNat:Int) z95 z96 z97 z98)<(y81 z82 z83 z84 z85 z86 z87 z88 z89 z90 z91 z92 z93 z94 z95 z96 z97 z98))))))) ∧
 (((!(List.getD z87 (0+z83.toNat) (false,((0:Int),((0:Int),(((0:Int),((0:Int),((0:Int),()))),([],(false,()))))))).2.2.2.2.2.1)=false) →
 (Need ((-9223372036854775808≤(z83-1))∧((z83-1)≤9223372036854775807)) ∧
 (Need ((z87.length=z87.length)∧(z92.length=z92.length)) ∧
 ((y80 z82 (z83 - 1) (z84.toNat : Int) (z85.toNat : Int) (z86.toNat : Int) z87 z88 z89 z90 (z91.toNat : Int) z92 (z93.toNat : Int) (z94.toNat : Int) z95 z96 z97 z98) ∧
    Need ((y81 z82 (z83-1) (z84.toNat:Int) (z85.toNat:Int) (z86.toNat:Int) z87 z88 z89 z90 (z91.toNat:Int) z92 (z93.toNat:Int) (z94.toNat:Int) z95 z96 z97 z98)<(y81 z82 z83 z84 z85 z86 z87 z88 z89 z90 z91 z92 z93 z94 z95 z96 z97 z98))))))))))))) ∧
 (((decide ((z82.length:Int)<((List.length (List.getD x0_2 (Int.toNat (Int.tmod (List.getD x1 z16.toNat (0:Int)) ((x0_2.length:Int)+(2:Int)))) ((0:Int),([],((0:Int),())))).2.1):Int)))=false) →
 (Need (((0:Int)≤(Int.tmod (List.getD x1 z16.toNat (0:Int)) ((x0_2.length:Int)+(2:Int))))∧((Int.tmod (List.getD x1 z16.toNat (0:Int)) ((x0_2.length:Int)+(2:Int)))<(x0_2.length:Int))) ∧
 (∃ y105 y106:Int,
 (∃ y107 y108:Nat,
 (∃ y109 y110 y111 y112:Int,
 (∃ y113:Nat,
 (∃ y114:qT0,
 (Need (E 36 [(.op (0,0) []),(.tv [] (.int .i64) (Int.tmod (List.getD x1 z16.toNat (0:Int)) ((x0_2.length:Int)+(2:Int)))),(.tv [] (.int .i64) (List.getD x0_2 (Int.toNat (Int.tmod (List.getD x1 z16.toNat (0:Int)) ((x0_2.length:Int)+(2:Int)))) ((0:Int),([],((0:Int),())))).1),(.tv [] qt7 z82)] (hq1 z93.toNat z94.toNat z95 z96 z97 z98 z91.toNat z92) (.tup [(.tv [] (.int .i64) y105),(.tv [] (.int .i64) y106)]) (hq1 y107 y108 y109 y110 y111 y112 y113 y114)) ∧
 (Need (((0:Int)≤(Int.tmod (List.getD x1 z16.toNat (0:Int)) ((x0_2.length:Int)+(2:Int))))∧((Int.tmod (List.getD x1 z16.toNat (0:Int)) ((x0_2.length:Int)+(2:Int)))<(x0_2.length:Int))) ∧
 (∃ y115 y116:Int,
 (∃ y117 y118:Nat,
 (∃ y119 y120 y121:Int,
 (∃ y122:Nat,
 (∃ y123:qT1,
 (Need (E 37 [(.op (0,0) []),(.tv [] (.int .i64) (Int.tmod (List.getD x1 z16.toNat (0:Int)) ((x0_2.length:Int)+(2:Int)))),(.tv [] (.int .i64) (List.getD x0_2 (Int.toNat (Int.tmod (List.getD x1 z16.toNat (0:Int)) ((x0_2.length:Int)+(2:Int)))) ((0:Int),([],((0:Int),())))).1),(.tv [] qt7 z82)] (hq4 z84.toNat z85.toNat z88 z89 z90 z86.toNat z87) (.tup [(.tv [] (.int .i64) y115),(.tv [] (.int .i64) y116)]) (hq4 y117 y118 y119 y120 y121 y122 y123)) ∧
 (Need ((-9223372036854775808≤(z16+1))∧((z16+1)≤9223372036854775807)) ∧
 (Need ((y123.length=y123.length)∧(y114.length=y114.length)) ∧
 ((y13 z15 (z16+1) (y117:Int) (y118:Int) (y122:Int) y123 y119 y120 y121 (y113:Int) y114 (y107:Int) (y108:Int) y109 y110 y111 y112) ∧
   Need ((y14 z15 (z16+1) (y117:Int) (y118:Int) (y122:Int) y123 y119 y120 y121 (y113:Int) y114 (y107:Int) (y108:Int) y109 y110 y111 y112)<(y14 z15 z16 z17 z18 z19 z20 z21 z22 z23 z24 z25 z26 z27 z28 z29 z30 z31))))))))))))))))))))))) ∧
 (((decide (0≤z83))=false) →
 (Need (((0:Int)≤(Int.tmod (List.getD x1 z16.toNat (0:Int)) ((x0_2.length:Int)+(2:Int))))∧((Int.tmod (List.getD x1 z16.toNat (0:Int)) ((x0_2.length:Int)+(2:Int)))<(x0_2.length:Int))) ∧
 (∃ y125 y126:Int,
 (∃ y127 y128:Nat,
 (∃ y129 y130 y131 y132:Int,
 (∃ y133:Nat,
 (∃ y134:qT0,
 (Need (E 36 [(.op (0,0) []),(.tv [] (.int .i64) (Int.tmod (List.getD x1 z16.toNat (0:Int)) ((x0_2.length:Int)+(2:Int)))),(.tv [] (.int .i64) (List.getD x0_2 (Int.toNat (Int.tmod (List.getD x1 z16.toNat (0:Int)) ((x0_2.length:Int)+(2:Int)))) ((0:Int),([],((0:Int),())))).1),(.tv [] qt7 z82)] (hq1 z93.toNat z94.toNat z95 z96 z97 z98 z91.toNat z92) (.tup [(.tv [] (.int .i64) y125),(.tv [] (.int .i64) y126)]) (hq1 y127 y128 y129 y130 y131 y132 y133 y134)) ∧
 (Need (((0:Int)≤(Int.tmod (List.getD x1 z16.toNat (0:Int)) ((x0_2.length:Int)+(2:Int))))∧((Int.tmod (List.getD x1 z16.toNat (0:Int)) ((x0_2.length:Int)+(2:Int)))<(x0_2.length:Int))) ∧
 (∃ y135 y136:Int,
 (∃ y137 y138:Nat,
 (∃ y139 y140 y141:Int,
 (∃ y142:Nat,
 (∃ y143:qT1,
 (Need (E 37 [(.op (0,0) []),(.tv [] (.int .i64) (Int.tmod (List.getD x1 z16.toNat (0:Int)) ((x0_2.length:Int)+(2:Int)))),(.tv [] (.int .i64) (List.getD x0_2 (Int.toNat (Int.tmod (List.getD x1 z16.toNat (0:Int)) ((x0_2.length:Int)+(2:Int)))) ((0:Int),([],((0:Int),())))).1),(.tv [] qt7 z82)] (hq4 z84.toNat z85.toNat z88 z89 z90 z86.toNat z87) (.tup [(.tv [] (.int .i64) y135),(.tv [] (.int .i64) y136)]) (hq4 y137 y138 y139 y140 y141 y142 y143)) ∧
 (Need ((-9223372036854775808≤(z16+1))∧((z16+1)≤9223372036854775807)) ∧
 (Need ((y143.length=y143.length)∧(y134.length=y134.length)) ∧
 ((y13 z15 (z16+1) (y137:Int) (y138:Int) (y142:Int) y143 y139 y140 y141 (y133:Int) y134 (y127:Int) (y128:Int) y129 y130 y131 y132) ∧
  Need ((y14 z15 (z16+1) (y137:Int) (y138:Int) (y142:Int) y143 y139 y140 y141 (y133:Int) y134 (y127:Int) (y128:Int) y129 y130 y131 y132)<(y14 z15 z16 z17 z18 z19 z20 z21 z22 z23 z24 z25 z26 z27 z28 z29 z30 z31))))))))))))))))))))))))))))))))))))))))))) ∧
 (((decide (z16<(x1.length:Int)))=false) →
 (Q (.tup [(.op (1,0) []),(.op (1,1) [])]) (hq16 z17.toNat z18.toNat z19.toNat z20 z21 z22 z23 z24.toNat z25 z26.toNat z27.toNat z28 z29 z30 z31)))))))))))))))))))))))):EvF PP orc 10 [.tv [] qt6 (x0_0,(x0_1,(x0_2,(x0_3,(x0_4,(x0_5,())))))),.tv [] qt17 x1,.tv [] (.slice qt4) x2] [] Q:=vc_of (by kernel_rfl) h
end Go.Am.Z
