/-
  A part of the proof of a law: see the text that states it.
-/
import Derived.Test.YtfnnapgpcndcjaaGreatDoorHead
set_option linter.all false
namespace Go.Am.Z
open Go
set_option maxRecDepth 100000
set_option maxHeartbeats 4000000
theorem vc33 (o0_0:Int) (o0_1:Int) (o0_2:Int) (Q:AV→Heap→Prop) (h :
(∃ y0 y1:Nat,
 (∃ y2:Int,
 (∃ y3:Nat,
 (∃ y4:qT0,
 (∃ y5 y6 y7:Int,
 (Need (E 65 [(.op (0,0) [])] (hq0 o0_0 o0_1 o0_2) (.op (1,0) []) [((1,0),⟨⟨qt3,((some (0,0)),((some ((1,1),(y0,(0,y1)))),(y2,())))⟩,[]⟩),((1,1),⟨⟨(.arr (Nat.succ y3) y4.length qt0),y4⟩,[]⟩),((0,0),⟨⟨qt4,(y5,(y6,(y7,())))⟩,[]⟩)]) ∧
 (Q (.op (1,0) []) [((1,0),⟨⟨qt9,((some (1,1)),())⟩,[]⟩),((1,2),⟨⟨(.arr (Nat.succ y3) y4.length qt0),y4⟩,[]⟩),((1,1),⟨⟨qt3,((some (0,0)),((some ((1,2),(y0,(0,y1)))),(y2,())))⟩,[]⟩),((0,0),⟨⟨qt4,(y5,(y6,(y7,())))⟩,[]⟩)])))))))):EvF PP orc 33 [.op (0,0) []] (hq0 o0_0 o0_1 o0_2) Q:=vc_of (by kernel_rfl) h
theorem vc34 (x1_0:Int) (x1_1:Int) (x1_2:Int) (g3:Nat) (l3:List (((Int×(Int×((Int×(Int×(Int×Unit)))×(List (Int)×(Bool×(Bool×Unit))))))×(Int×Unit)))) (n3:Nat) (o0_0_2:Int) (o0_0_0_0:Int) (o0_0_0_1:Int) (o0_0_0_2:Int) (Q:AV→Heap→Prop) (h :
(∃ y0 y1:Int,
 (∃ y2 y3:Nat,
 (∃ y4 y5 y6 y7:Int,
 (∃ y8:Nat,
 (∃ y9:qT0,
 (Need (E 66 [(.op (0,0) []),(.tv [] qt14 ((-(1:Int)),(x1_0,((x1_0,(x1_1,(x1_2,()))),([],(true,(false,()))))))),(.tv [] (.int .i64) (1:Int))] (hq5 g3 n3 o0_0_2 o0_0_0_0 o0_0_0_1 o0_0_0_2 l3) (.tup [(.tv [] (.int .i64) y0),(.tv [] (.int .i64) y1)]) (hq12 y2 y3 y4 y5 y6 y7 y8 y9)) ∧
 (Q (.tup [(.tv [] (.int .i64) y0),(.tv [] (.int .i64) y1)]) (hq1 y2 y3 y4 y5 y6 y7 y8 y9))))))))):EvF PP orc 34 [.op (0,0) [],.tv [] qt4 (x1_0,(x1_1,(x1_2,())))] (hq13 g3 n3 o0_0_2 o0_0_0_0 o0_0_0_1 o0_0_0_2 l3) Q:=vc_of (by kernel_rfl) h
theorem vc35 (x1_0:Int) (x1_1:Int) (x1_2:Int) (g2:Nat) (l2:List ((Bool×(Int×(Int×((Int×(Int×(Int×Unit)))×(List (Int)×(Bool×Unit)))))))) (o0_0_0:Int) (o0_0_1:Int) (o0_0_2:Int) (Q:AV→Heap→Prop) (h :
(∃ y0 y1 y2 y3:Int,
 (Need (E 67 [(.op (0,0) []),(.tv [] (.int .i64) (1:Int))] (hq0 o0_0_0 o0_0_1 o0_0_2) (.tv [] (.int .i64) y0) (hq0 y1 y2 y3)) ∧
 ((((decide (y0≠(0:Int)))=true) →
 (Q (.tup [(.tv [] (.int .i64) (0:Int)),(.tv [] (.int .i64) y0)]) (hq10 g2 l2 y1 y2 y3))) ∧
 (((decide (y0≠(0:Int)))=false) →
 (Need ((g2=g2)∧((l2.length≤l2.length)∧((0<(List.length [((true,((-(1:Int)),(x1_0,((x1_0,(x1_1,(x1_2,()))),([],(false,())))))):Bool×Int×Int×(Int×Int×Int×Unit)×List Int×Bool×Unit)]))∧((l2.length+(List.length [((true,((-(1:Int)),(x1_0,((x1_0,(x1_1,(x1_2,()))),([],(false,())))))):Bool×Int×Int×(Int×Int×Int×Unit)×List Int×Bool×Unit)]))≤bigN)))) ∧
 (Need ((-9223372036854775808≤((((l2.length+(List.length [((true,((-(1:Int)),(x1_0,((x1_0,(x1_1,(x1_2,()))),([],(false,())))))):Bool×Int×Int×(Int×Int×Int×Unit)×List Int×Bool×Unit)])):Nat):Int)-(1:Int)))∧(((((l2.length+(List.length [((true,((-(1:Int)),(x1_0,((x1_0,(x1_1,(x1_2,()))),([],(false,())))))):Bool×Int×Int×(Int×Int×Int×Unit)×List Int×Bool×Unit)])):Nat):Int)-(1:Int))≤9223372036854775807)) ∧
 (Q (.tup [(.tv [] (.int .i64) ((((l2.length+(List.length [((true,((-(1:Int)),(x1_0,((x1_0,(x1_1,(x1_2,()))),([],(false,())))))):Bool×Int×Int×(Int×Int×Int×Unit)×List Int×Bool×Unit)])):Nat):Int)-(1:Int))),(.tv [] (.int .i64) (0:Int))]) [((0,0),⟨⟨qt10,((some (0,1)),((some ((0,2),((Nat.succ g2),(0,(l2.length+(List.length [((true,((-(1:Int)),(x1_0,((x1_0,(x1_1,(x1_2,()))),([],(false,())))))):Bool×Int×Int×(Int×Int×Int×Unit)×List Int×Bool×Unit)])))))),()))⟩,[]⟩),((0,1),⟨⟨qt4,(y1,(y2,(y3,())))⟩,[]⟩),((0,2),⟨⟨(.arr (Nat.succ (Nat.succ g2)) (l2.length+(List.length [((true,((-(1:Int)),(x1_0,((x1_0,(x1_1,(x1_2,()))),([],(false,())))))):Bool×Int×Int×(Int×Int×Int×Unit)×List Int×Bool×Unit)])) qt2),((List.take l2.length l2)++[((true,((-(1:Int)),(x1_0,((x1_0,(x1_1,(x1_2,()))),([],(false,())))))):Bool×Int×Int×(Int×Int×Int×Unit)×List Int×Bool×Unit)])⟩,[]⟩)])))))))):EvF PP orc 35 [.op (0,0) [],.tv [] qt4 (x1_0,(x1_1,(x1_2,())))] (hq17 g2 l2 o0_0_0 o0_0_1 o0_0_2) Q:=vc_of (by kernel_rfl) h
theorem vc36 (x1:Int) (x2:Int) (x3:List (Int)) (g3:Nat) (l3:List (((Int×(Int×((Int×(Int×(Int×Unit)))×(List (Int)×(Bool×(Bool×Unit))))))×(Int×Unit)))) (n3:Nat) (o0_0_2:Int) (o0_0_0_0:Int) (o0_0_0_1:Int) (o0_0_0_2:Int) (Q:AV→Heap→Prop) (h :
(∃ y0:(Int→(Int→(Int→(Int→(Int→(Int→(Int→(Int→(qT0→Prop))))))))),
 (∃ y1:(Int→(Int→(Int→(Int→(Int→(Int→(Int→(Int→(qT0→Nat))))))))),
 (Need (l3.length=l3.length) ∧
 ((y0 (0:Int) (g3:Int) (n3:Int) o0_0_2 o0_0_0_0 o0_0_0_1 o0_0_0_2 (g3:Int) l3) ∧
 (∀ z2 z3 z4 z5 z6 z7 z8 z9:Int,
 (∀ z10:qT0,
 ((y0 z2 z3 z4 z5 z6 z7 z8 z9 z10) →
 ((((decide (z2<(x3.length:Int)))=true) →
 (Need ((0≤z2)∧(z2<(x3.length:Int))) ∧
 (∃ y13 y14 y15 y16 y17:Int,
 (∃ y18:qT3,
 (∃ y19 y20 y21:Bool,
 (Need (E 47 [(.op (0,0) []),(.tv [] (.int .i64) (List.getD x3 z2.toNat (0:Int)))] (hq12 z3.toNat z4.toNat z5 z6 z7 z8 z9.toNat z10) (.tup [(.tv [] qt14 (y13,(y14,((y15,(y16,(y17,()))),(y18,(y19,(y20,()))))))),(.tv [] .bool y21)]) (hq12 z3.toNat z4.toNat z5 z6 z7 z8 z9.toNat z10)) ∧
 ((((!y21)=true) →
 (Q (.tup [(.tv [] (.int .i64) (0:Int)),(.tv [] (.int .i64) (2:Int))]) (hq1 z3.toNat z4.toNat z5 z6 z7 z8 z9.toNat z10))) ∧
 (((!y21)=false) →
 (Need ((-9223372036854775808≤(z2+1))∧((z2+1)≤9223372036854775807)) ∧
 (Need (z10.length=z10.length) ∧
 ((y0 (z2+1) (z3.toNat:Int) (z4.toNat:Int) z5 z6 z7 z8 (z9.toNat:Int) z10) ∧
  Need ((y1 (z2+1) (z3.toNat:Int) (z4.toNat:Int) z5 z6 z7 z8 (z9.toNat:Int) z10)<(y1 z2 z3 z4 z5 z6 z7 z8 z9 z10))))))))))))) ∧
 (((decide (z2<(x3.length:Int)))=false) →
 (∃ y25:(Int→(Int→(Int→(Int→(Int→(Int→(Int→(Int→(qT0→Prop))))))))),
 (∃ y26:(Int→(Int→(Int→(Int→(Int→(Int→(Int→(Int→(qT0→Nat))))))))),
 (Need (z10.length=z10.length) ∧
 ((y25 (0:Int) (z3.toNat:Int) (z4.toNat:Int) z5 z6 z7 z8 (z9.toNat:Int) z10) ∧
 (∀ z27 z28 z29 z30 z31 z32 z33 z34:Int,
 (∀ z35:qT0,
 ((y25 z27 z28 z29 z30 z31 z32 z33 z34 z35) →
 ((((decide (z27<(x3.length:Int)))=true) →
 (Need ((0≤z27)∧(z27<(x3.length:Int))) ∧
 (∃ y38 y39 y40 y41 y42:Int,
 (∃ y43:qT3,
 (∃ y44 y45 y46:Bool,
 (Need (E 47 [(.op (0,0) []),(.tv [] (.int .i64) (List.getD x3 z27.toNat (0:Int)))] (hq12 z28.toNat z29.toNat z30 z31 z32 z33 z34.toNat z35) (.tup [(.tv [] qt14 (y38,(y39,((y40,(y41,(y42,()))),(y43,(y44,(y45,()))))))),(.tv [] .bool y46)]) (hq12 z28.toNat z29.toNat z30 z31 z32 z33 z34.toNat z35)) ∧
 (((y45=true) →
 (Q (.tup [(.tv [] (.int .i64) (0:Int)),(.tv [] (.int .i64) (15:Int))]) (hq1 z28.toNat z29.toNat z30 z31 z32 z33 z34.toNat z35))) ∧
 ((y45=false) →
 (Need (((0:Int)≤(0:Int))∧((0≤z27)∧(z27≤(x3.length:Int)))) ∧
 (∃ y49:Bool,
 (Need (E 68 [(.tv [] qt7 (cut x3 0 z27.toNat)),(.tv [] (.int .i64) (List.getD x3 z27.toNat (0:Int)))] [] (.tv [] .bool y49) []) ∧
 (((y49=true) →
 (Q (.tup [(.tv [] (.int .i64) (0:Int)),(.tv [] (.int .i64) (15:Int))]) (hq1 z28.toNat z29.toNat z30 z31 z32 z33 z34.toNat z35))) ∧
 ((y49=false) →
 (Need ((-9223372036854775808≤(z27+1))∧((z27+1)≤9223372036854775807)) ∧
 (Need (z35.length=z35.length) ∧
 ((y25 (z27+1) (z28.toNat:Int) (z29.toNat:Int) z30 z31 z32 z33 (z34.toNat:Int) z35) ∧
  Need ((y26 (z27+1) (z28.toNat:Int) (z29.toNat:Int) z30 z31 z32 z33 (z34.toNat:Int) z35)<(y26 z27 z28 z29 z30 z31 z32 z33 z34 z35)))))))))))))))))) ∧
 (((decide (z27<(x3.length:Int)))=false) →
 (∃ y53:qT3,
 (Need (E 69 [(.tv [] qt7 x3)] [] (.tv [[]] qt7 y53) []) ∧
 (Need ((-9223372036854775808≤((1:Int)+(x3.length:Int)))∧(((1:Int)+(x3.length:Int))≤9223372036854775807)) ∧
 (∃ y54 y55:Int,
 (∃ y56 y57:Nat,
 (∃ y58 y59 y60 y61:Int,
 (∃ y62:Nat,
 (∃ y63:qT0,
 (Need (E 66 [(.op (0,0) []),(.tv [] qt14 (x1,(x2,(((0:Int),((0:Int),((0:Int),()))),(y53,(false,(false,()))))))),(.tv [] (.int .i64) ((1:Int)+(x3.length:Int)))] (hq12 z28.toNat z29.toNat z30 z31 z32 z33 z34.toNat z35) (.tup [(.tv [] (.int .i64) y54),(.tv [] (.int .i64) y55)]) (hq12 y56 y57 y58 y59 y60 y61 y62 y63)) ∧
 ((((decide (y55≠(0:Int)))=true) →
 (Q (.tup [(.tv [] (.int .i64) (0:Int)),(.tv [] (.int .i64) y55)]) (hq1 y56 y57 y58 y59 y60 y61 y62 y63))) ∧
 (((decide (y55≠(0:Int)))=false) →
 (∃ y66:(Int→(Int→(Int→(Int→(Int→(Int→(Int→(Int→(qT0→Prop))))))))),
 (∃ y67:(Int→(Int→(Int→(Int→(Int→(Int→(Int→(Int→(qT0→Nat))))))))),
 (Need (y63.length=y63.length) ∧
 ((y66 (0:Int) (y56:Int) (y57:Int) y58 y59 y60 y61 (y62:Int) y63) ∧
 (∀ z68 z69 z70 z71 z72 z73 z74 z75:Int,
 (∀ z76:qT0,
 ((y66 z68 z69 z70 z71 z72 z73 z74 z75 z76) →
 ((((decide (z68<(x3.length:Int)))=true) →
 (Need ((0≤z68)∧(z68<(x3.length:Int))) ∧
 (∃ y79 y80 y81 y82 y83:Int,
 (∃ y84:qT3,
 (∃ y85 y86 y87:Bool,
 (Need (E 47 [(.op (0,0) []),(.tv [] (.int .i64) (List.getD x3 z68.toNat (0:Int)))] (hq12 z69.toNat z70.toNat z71 z72 z73 z74 z75.toNat z76) (.tup [(.tv [] qt14 (y79,(y80,((y81,(y82,(y83,()))),(y84,(y85,(y86,()))))))),(.tv [] .bool y87)]) (hq12 z69.toNat z70.toNat z71 z72 z73 z74 z75.toNat z76)) ∧
 (∃ y88:Bool,
 (∃ y89 y90:Nat,
 (∃ y91 y92 y93 y94:Int,
 (∃ y95:Nat,
 (∃ y96:qT0,
 (Need (E 70 [(.op (0,0) []),(.tv [] (.int .i64) (List.getD x3 z68.toNat (0:Int))),(.tv [] qt14 (y79,(y80,((y81,(y82,(y83,()))),(y84,(y85,(true,())))))))] (hq12 z69.toNat z70.toNat z71 z72 z73 z74 z75.toNat z76) (.tv [] .bool y88) (hq12 y89 y90 y91 y92 y93 y94 y95 y96)) ∧
 (Need ((-9223372036854775808≤(z68+1))∧((z68+1)≤9223372036854775807)) ∧
 (Need (y96.length=y96.length) ∧
 ((y66 (z68+1) (y89:Int) (y90:Int) y91 y92 y93 y94 (y95:Int) y96) ∧
  Need ((y67 (z68+1) (y89:Int) (y90:Int) y91 y92 y93 y94 (y95:Int) y96)<(y67 z68 z69 z70 z71 z72 z73 z74 z75 z76))))))))))))))))) ∧
 (((decide (z68<(x3.length:Int)))=false) →
 (Q (.tup [(.tv [] (.int .i64) y54),(.tv [] (.int .i64) (0:Int))]) (hq1 z69.toNat z70.toNat z71 z72 z73 z74 z75.toNat z76))))))))))))))))))))))))))))))))))))))))):EvF PP orc 36 [.op (0,0) [],.tv [] (.int .i64) x1,.tv [] (.int .i64) x2,.tv [] qt7 x3] (hq13 g3 n3 o0_0_2 o0_0_0_0 o0_0_0_1 o0_0_0_2 l3) Q:=vc_of (by kernel_rfl) h
end Go.Am.Z
