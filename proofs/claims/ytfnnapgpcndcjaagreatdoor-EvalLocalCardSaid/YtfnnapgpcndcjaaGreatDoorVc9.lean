/-
  A part of the proof of a law: see the text that states it.
-/
import Derived.Test.YtfnnapgpcndcjaaGreatDoorHead
set_option linter.all false
namespace Go.Am.Z
open Go
set_option maxRecDepth 100000
set_option maxHeartbeats 4000000
theorem vc37 (x1:Int) (x2:Int) (x3:List (Int)) (g2:Nat) (l2:List ((Bool×(Int×(Int×((Int×(Int×(Int×Unit)))×(List (Int)×(Bool×Unit)))))))) (o0_0_0:Int) (o0_0_1:Int) (o0_0_2:Int) (Q:AV→Heap→Prop) (h :
(∃ y0:(Int→(Int→(Int→(Int→(Int→(Int→(Int→(qT1→Prop)))))))),
 (∃ y1:(Int→(Int→(Int→(Int→(Int→(Int→(Int→(qT1→Nat)))))))),
 (Need (l2.length=l2.length) ∧
 ((y0 (0:Int) (g2:Int) (l2.length:Int) o0_0_0 o0_0_1 o0_0_2 (g2:Int) l2) ∧
 (∀ z2 z3 z4 z5 z6 z7 z8:Int,
 (∀ z9:qT1,
 ((y0 z2 z3 z4 z5 z6 z7 z8 z9) →
 ((((decide (z2<(x3.length:Int)))=true) →
 (Need ((0≤z2)∧(z2<(x3.length:Int))) ∧
 ((((decide ((List.getD x3 z2.toNat (0:Int))<(0:Int)))=true) →
 (Q (.tup [(.tv [] (.int .i64) (0:Int)),(.tv [] (.int .i64) (2:Int))]) (hq4 z3.toNat z4.toNat z5 z6 z7 z8.toNat z9))) ∧
 (((decide ((List.getD x3 z2.toNat (0:Int))<(0:Int)))=false) →
 (Need ((0≤z2)∧(z2<(x3.length:Int))) ∧
 ((((decide ((z4.toNat:Int)≤(List.getD x3 z2.toNat (0:Int))))=true) →
 (Q (.tup [(.tv [] (.int .i64) (0:Int)),(.tv [] (.int .i64) (2:Int))]) (hq4 z3.toNat z4.toNat z5 z6 z7 z8.toNat z9))) ∧
 (((decide ((z4.toNat:Int)≤(List.getD x3 z2.toNat (0:Int))))=false) →
 (Need ((-9223372036854775808≤(z2+1))∧((z2+1)≤9223372036854775807)) ∧
 (Need (z9.length=z9.length) ∧
 ((y0 (z2+1) (z3.toNat:Int) (z4.toNat:Int) z5 z6 z7 (z8.toNat:Int) z9) ∧
  Need ((y1 (z2+1) (z3.toNat:Int) (z4.toNat:Int) z5 z6 z7 (z8.toNat:Int) z9)<(y1 z2 z3 z4 z5 z6 z7 z8 z9)))))))))))) ∧
 (((decide (z2<(x3.length:Int)))=false) →
 (∃ y17:(Int→(Int→(Int→(Int→(Int→(Int→(Int→(qT1→Prop)))))))),
 (∃ y18:(Int→(Int→(Int→(Int→(Int→(Int→(Int→(qT1→Nat)))))))),
 (Need (z9.length=z9.length) ∧
 ((y17 (0:Int) (z3.toNat:Int) (z4.toNat:Int) z5 z6 z7 (z8.toNat:Int) z9) ∧
 (∀ z19 z20 z21 z22 z23 z24 z25:Int,
 (∀ z26:qT1,
 ((y17 z19 z20 z21 z22 z23 z24 z25 z26) →
 ((((decide (z19<(x3.length:Int)))=true) →
 (Need ((0≤z19)∧(z19<(x3.length:Int))) ∧
 (Need (((0:Int)≤(List.getD x3 z19.toNat (0:Int)))∧((List.getD x3 z19.toNat (0:Int))<(z21.toNat:Int))) ∧
 (Need (z25.toNat=z20.toNat) ∧
 (Need ((0+(Int.toNat (List.getD x3 z19.toNat (0:Int))))<z26.length) ∧
 (Need (z25.toNat=z20.toNat) ∧
 (Need ((0+(Int.toNat (List.getD x3 z19.toNat (0:Int))))<z26.length) ∧
 ((((List.getD z26 (0+(Int.toNat (List.getD x3 z19.toNat (0:Int)))) (false,((0:Int),((0:Int),(((0:Int),((0:Int),((0:Int),()))),([],(false,()))))))).2.2.2.2.2.1=true) →
 (Q (.tup [(.tv [] (.int .i64) (0:Int)),(.tv [] (.int .i64) (15:Int))]) (hq4 z20.toNat z21.toNat z22 z23 z24 z25.toNat z26))) ∧
 (((List.getD z26 (0+(Int.toNat (List.getD x3 z19.toNat (0:Int)))) (false,((0:Int),((0:Int),(((0:Int),((0:Int),((0:Int),()))),([],(false,()))))))).2.2.2.2.2.1=false) →
 (Need (((0:Int)≤(0:Int))∧((0≤z19)∧(z19≤(x3.length:Int)))) ∧
 (Need ((0≤z19)∧(z19<(x3.length:Int))) ∧
 (∃ y31:Bool,
 (Need (E 71 [(.tv [] qt7 (cut x3 0 z19.toNat)),(.tv [] (.int .i64) (List.getD x3 z19.toNat (0:Int)))] [] (.tv [] .bool y31) []) ∧
 (((y31=true) →
 (Q (.tup [(.tv [] (.int .i64) (0:Int)),(.tv [] (.int .i64) (15:Int))]) (hq4 z20.toNat z21.toNat z22 z23 z24 z25.toNat z26))) ∧
 ((y31=false) →
 (Need ((-9223372036854775808≤(z19+1))∧((z19+1)≤9223372036854775807)) ∧
 (Need (z26.length=z26.length) ∧
 ((y17 (z19+1) (z20.toNat:Int) (z21.toNat:Int) z22 z23 z24 (z25.toNat:Int) z26) ∧
  Need ((y18 (z19+1) (z20.toNat:Int) (z21.toNat:Int) z22 z23 z24 (z25.toNat:Int) z26)<(y18 z19 z20 z21 z22 z23 z24 z25 z26)))))))))))))))))))) ∧
 (((decide (z19<(x3.length:Int)))=false) →
 (Need ((-9223372036854775808≤((1:Int)+(x3.length:Int)))∧(((1:Int)+(x3.length:Int))≤9223372036854775807)) ∧
 (∃ y35 y36 y37 y38:Int,
 (Need (E 67 [(.op (0,0) []),(.tv [] (.int .i64) ((1:Int)+(x3.length:Int)))] (hq0 z22 z23 z24) (.tv [] (.int .i64) y35) (hq0 y36 y37 y38)) ∧
 ((((decide (y35≠(0:Int)))=true) →
 (Q (.tup [(.tv [] (.int .i64) (0:Int)),(.tv [] (.int .i64) y35)]) (hq4 z20.toNat z21.toNat y36 y37 y38 z25.toNat z26))) ∧
 (((decide (y35≠(0:Int)))=false) →
 (∃ y41:(Int→(Int→(Int→(Int→(Int→(Int→(Int→(qT1→Prop)))))))),
 (∃ y42:(Int→(Int→(Int→(Int→(Int→(Int→(Int→(qT1→Nat)))))))),
 (Need (z26.length=z26.length) ∧
 ((y41 (0:Int) (z20.toNat:Int) (z21.toNat:Int) y36 y37 y38 (z25.toNat:Int) z26) ∧
 (∀ z43 z44 z45 z46 z47 z48 z49:Int,
 (∀ z50:qT1,
 ((y41 z43 z44 z45 z46 z47 z48 z49 z50) →
 ((((decide (z43<(x3.length:Int)))=true) →
 (Need ((0≤z43)∧(z43<(x3.length:Int))) ∧
 (Need (((0:Int)≤(List.getD x3 z43.toNat (0:Int)))∧((List.getD x3 z43.toNat (0:Int))<(z45.toNat:Int))) ∧
 (Need (z49.toNat=z44.toNat) ∧
 (Need ((0+(Int.toNat (List.getD x3 z43.toNat (0:Int))))<z50.length) ∧
 (Need (z49.toNat=z44.toNat) ∧
 (Need ((0+(Int.toNat (List.getD x3 z43.toNat (0:Int))))<z50.length) ∧
 (Need ((-9223372036854775808≤(z43+1))∧((z43+1)≤9223372036854775807)) ∧
 (Need (z50.length=(List.length (List.set z50 (0+(Int.toNat (List.getD x3 z43.toNat (0:Int)))) ((List.getD z50 (0+(Int.toNat (List.getD x3 z43.toNat (0:Int)))) (false,((0:Int),((0:Int),(((0:Int),((0:Int),((0:Int),()))),([],(false,()))))))).1,((List.getD z50 (0+(Int.toNat (List.getD x3 z43.toNat (0:Int)))) (false,((0:Int),((0:Int),(((0:Int),((0:Int),((0:Int),()))),([],(false,()))))))).2.1,((List.getD z50 (0+(Int.toNat (List.getD x3 z43.toNat (0:Int)))) (false,((0:Int),((0:Int),(((0:Int),((0:Int),((0:Int),()))),([],(false,()))))))).2.2.1,((List.getD z50 (0+(Int.toNat (List.getD x3 z43.toNat (0:Int)))) (false,((0:Int),((0:Int),(((0:Int),((0:Int),((0:Int),()))),([],(false,()))))))).2.2.2.1,((List.getD z50 (0+(Int.toNat (List.getD x3 z43.toNat (0:Int)))) (false,((0:Int),((0:Int),(((0:Int),((0:Int),((0:Int),()))),([],(false,()))))))).2.2.2.2.1,(true,(List.getD z50 (0+(Int.toNat (List.getD x3 z43.toNat (0:Int)))) (false,((0:Int),((0:Int),(((0:Int),((0:Int),((0:Int),()))),([],(false,()))))))).2.2.2.2.2.2))))))))) ∧
 ((y41 (z43+1) (z44.toNat:Int) (z45.toNat:Int) z46 z47 z48 (z49.toNat:Int) (List.set z50 (0+(Int.toNat (List.getD x3 z43.toNat (0:Int)))) ((List.getD z50 (0+(Int.toNat (List.getD x3 z43.toNat (0:Int)))) (false,((0:Int),((0:Int),(((0:Int),((0:Int),((0:Int),()))),([],(false,()))))))).1,((List.getD z50 (0+(Int.toNat (List.getD x3 z43.toNat (0:Int)))) (false,((0:Int),((0:Int),(((0:Int),((0:Int),((0:Int),()))),([],(false,()))))))).2.1,((List.getD z50 (0+(Int.toNat (List.getD x3 z43.toNat (0:Int)))) (false,((0:Int),((0:Int),(((0:Int),((0:Int),((0:Int),()))),([],(false,()))))))).2.2.1,((List.getD z50 (0+(Int.toNat (List.getD x3 z43.toNat (0:Int)))) (false,((0:Int),((0:Int),(((0:Int),((0:Int),((0:Int),()))),([],(false,()))))))).2.2.2.1,((List.getD z50 (0+(Int.toNat (List.getD x3 z43.toNat (0:Int)))) (false,((0:Int),((0:Int),(((0:Int),((0:Int),((0:Int),()))),([],(false,()))))))).2.2.2.2.1,(true,(List.getD z50 (0+(Int.toNat (List.getD x3 z43.toNat (0:Int)))) (false,((0:Int),((0:Int),(((0:Int),((0:Int),((0:Int),()))),([],(false,()))))))).2.2.2.2.2.2)))))))) ∧
  Need ((y42 (z43+1) (z44.toNat:Int) (z45.toNat:Int) z46 z47 z48 (z49.toNat:Int) (List.set z50 (0+(Int.toNat (List.getD x3 z43.toNat (0:Int)))) ((List.getD z50 (0+(Int.toNat (List.getD x3 z43.toNat (0:Int)))) (false,((0:Int),((0:Int),(((0:Int),((0:Int),((0:Int),()))),([],(false,()))))))).1,((List.getD z50 (0+(Int.toNat (List.getD x3 z43.toNat (0:Int)))) (false,((0:Int),((0:Int),(((0:Int),((0:Int),((0:Int),()))),([],(false,()))))))).2.1,((List.getD z50 (0+(Int.toNat (List.getD x3 z43.toNat (0:Int)))) (false,((0:Int),((0:Int),(((0:Int),((0:Int),((0:Int),()))),([],(false,()))))))).2.2.1,((List.getD z50 (0+(Int.toNat (List.getD x3 z43.toNat (0:Int)))) (false,((0:Int),((0:Int),(((0:Int),((0:Int),((0:Int),()))),([],(false,()))))))).2.2.2.1,((List.getD z50 (0+(Int.toNat (List.getD x3 z43.toNat (0:Int)))) (false,((0:Int),((0:Int),(((0:Int),((0:Int),((0:Int),()))),([],(false,()))))))).2.2.2.2.1,(true,(List.getD z50 (0+(Int.toNat (List.getD x3 z43.toNat (0:Int)))) (false,((0:Int),((0:Int),(((0:Int),((0:Int),((0:Int),()))),([],(false,()))))))).2.2.2.2.2.2))))))))<(y42 z43 z44 z45 z46 z47 z48 z49 z50)))))))))))) ∧
 (((decide (z43<(x3.length:Int)))=false) →
 (Need ((0+x3.length)≤bigN) ∧
 (Need ((z44.toNat=z49.toNat)∧((z45.toNat≤z50.length)∧((0<(List.length [((false,(x1,(x2,(((0:Int),((0:Int),((0:Int),()))),(([]++x3),(false,())))))):Bool×Int×Int×(Int×Int×Int×Unit)×List Int×Bool×Unit)]))∧((z50.length+(List.length [((false,(x1,(x2,(((0:Int),((0:Int),((0:Int),()))),(([]++x3),(false,())))))):Bool×Int×Int×(Int×Int×Int×Unit)×List Int×Bool×Unit)]))≤bigN)))) ∧
 (Need ((-9223372036854775808≤((((z45.toNat+(List.length [((false,(x1,(x2,(((0:Int),((0:Int),((0:Int),()))),(([]++x3),(false,())))))):Bool×Int×Int×(Int×Int×Int×Unit)×List Int×Bool×Unit)])):Nat):Int)-(1:Int)))∧(((((z45.toNat+(List.length [((false,(x1,(x2,(((0:Int),((0:Int),((0:Int),()))),(([]++x3),(false,())))))):Bool×Int×Int×(Int×Int×Int×Unit)×List Int×Bool×Unit)])):Nat):Int)-(1:Int))≤9223372036854775807)) ∧
 (Q (.tup [(.tv [] (.int .i64) ((((z45.toNat+(List.length [((false,(x1,(x2,(((0:Int),((0:Int),((0:Int),()))),(([]++x3),(false,())))))):Bool×Int×Int×(Int×Int×Int×Unit)×List Int×Bool×Unit)])):Nat):Int)-(1:Int))),(.tv [] (.int .i64) (0:Int))]) [((0,0),⟨⟨qt10,((some (0,1)),((some ((0,2),((Nat.succ z49.toNat),(0,(z45.toNat+(List.length [((false,(x1,(x2,(((0:Int),((0:Int),((0:Int),()))),(([]++x3),(false,())))))):Bool×Int×Int×(Int×Int×Int×Unit)×List Int×Bool×Unit)])))))),()))⟩,[]⟩),((0,1),⟨⟨qt4,(z46,(z47,(z48,())))⟩,[]⟩),((0,2),⟨⟨(.arr (Nat.succ (Nat.succ z49.toNat)) (z45.toNat+(List.length [((false,(x1,(x2,(((0:Int),((0:Int),((0:Int),()))),(([]++x3),(false,())))))):Bool×Int×Int×(Int×Int×Int×Unit)×List Int×Bool×Unit)])) qt2),((List.take z45.toNat z50)++[((false,(x1,(x2,(((0:Int),((0:Int),((0:Int),()))),(([]++x3),(false,())))))):Bool×Int×Int×(Int×Int×Int×Unit)×List Int×Bool×Unit)])⟩,[]⟩)]))))))))))))))))))))))))))))))))))))):EvF PP orc 37 [.op (0,0) [],.tv [] (.int .i64) x1,.tv [] (.int .i64) x2,.tv [] qt7 x3] (hq17 g2 l2 o0_0_0 o0_0_1 o0_0_2) Q:=vc_of (by kernel_rfl) h
theorem vc38 (g2:Nat) (l2:List (((Int×(Int×((Int×(Int×(Int×Unit)))×(List (Int)×(Bool×(Bool×Unit))))))×(Int×Unit)))) (n2:Nat) (o0_2:Int) (o0_0_0:Int) (o0_0_1:Int) (o0_0_2:Int) (Q:AV→Heap→Prop) (h :
(Q (.tv [] (.int .i64) (n2:Int)) (hq5 g2 n2 o0_2 o0_0_0 o0_0_1 o0_0_2 l2))):EvF PP orc 38 [.op (0,0) []] (hq18 g2 n2 o0_2 o0_0_0 o0_0_1 o0_0_2 l2) Q:=vc_of (by kernel_rfl) h
theorem vc39 (x0:XT) (Q:AV→Heap→Prop) (h :
((((decide ((XT.kind x0)=(0:Int)))=true) →
 ((((decide ((XT.num x0)=(0:Int)))=true) →
 ((((decide (((List.length (XT.kids x0)):Int)=(0:Int)))=true) →
 (Q (.tv [] .bool true) [])) ∧
 (((decide (((List.length (XT.kids x0)):Int)=(0:Int)))=false) →
 (∃ y4:Bool,
 (Need (E 72 [(.tv [] .expr x0)] [] (.tv [] .bool y4) []) ∧
 (Q (.tv [] .bool y4) [])))))) ∧
 (((decide ((XT.num x0)=(0:Int)))=false) →
 (∃ y6:Bool,
 (Need (E 72 [(.tv [] .expr x0)] [] (.tv [] .bool y6) []) ∧
 (Q (.tv [] .bool y6) [])))))) ∧
 (((decide ((XT.kind x0)=(0:Int)))=false) →
 (∃ y8:Bool,
 (Need (E 72 [(.tv [] .expr x0)] [] (.tv [] .bool y8) []) ∧
 (Q (.tv [] .bool y8) [])))))):EvF PP orc 39 [.tv [] .expr x0] [] Q:=vc_of (by kernel_rfl) h
theorem vc40 (x0:Int) (Q:AV→Heap→Prop) (h :
(Q (.tv [] (.int .i64) (max (0:Int) (min x0 (1099511627776:Int)))) [])):EvF PP orc 40 [.tv [] (.int .i64) x0] [] Q:=vc_of (by kernel_rfl) h
theorem vc44 (x0:List (XT)) (x1:Int) (Q:AV→Heap→Prop) (h :
((((decide (x1<0))=true) →
 (Q (.tv [] .expr (XT.mk (0:Int) (0:Int) [])) [])) ∧
 (((decide (x1<0))=false) →
 ((((decide ((x0.length:Int)≤x1))=true) →
 (Q (.tv [] .expr (XT.mk (0:Int) (0:Int) [])) [])) ∧
 (((decide ((x0.length:Int)≤x1))=false) →
 (Need ((0≤x1)∧(x1<(x0.length:Int))) ∧
 (Q (.tv [] .expr (List.getD x0 x1.toNat (XT.mk (0:Int) (0:Int) []))) []))))))):EvF PP orc 44 [.tv [] (.slice .expr) x0,.tv [] (.int .i64) x1] [] Q:=vc_of (by kernel_rfl) h
theorem vc47 (x1:Int) (g2:Nat) (l2:List (((Int×(Int×((Int×(Int×(Int×Unit)))×(List (Int)×(Bool×(Bool×Unit))))))×(Int×Unit)))) (n2:Nat) (o0_2:Int) (o0_0_0:Int) (o0_0_1:Int) (o0_0_2:Int) (Q:AV→Heap→Prop) (h :
(∃ y0:Bool,
 (Need (E 76 [(.op (0,0) []),(.tv [] (.int .i64) x1)] (hq5 g2 n2 o0_2 o0_0_0 o0_0_1 o0_0_2 l2) (.tv [] .bool y0) (hq5 g2 n2 o0_2 o0_0_0 o0_0_1 o0_0_2 l2)) ∧
 ((((!y0)=true) →
 (Q (.tup [(.tv [] qt14 ((0:Int),((0:Int),(((0:Int),((0:Int),((0:Int),()))),([],(false,(false,()))))))),(.tv [] .bool false)]) (hq5 g2 n2 o0_2 o0_0_0 o0_0_1 o0_0_2 l2))) ∧
 (((!y0)=false) →
 (Need ((0≤x1)∧(x1<(n2:Int))) ∧
 (Need (g2=g2) ∧
 (Need ((0+x1.toNat)<l2.length) ∧
 (Need (g2=g2) ∧
 (Need ((0+x1.toNat)<l2.length) ∧
 (Q (.tup [(.tv [] qt14 (List.getD l2 (0+x1.toNat) (((0:Int),((0:Int),(((0:Int),((0:Int),((0:Int),()))),([],(false,(false,())))))),((0:Int),()))).1),(.tv [] .bool true)]) (hq5 g2 n2 o0_2 o0_0_0 o0_0_1 o0_0_2 l2)))))))))))):EvF PP orc 47 [.op (0,0) [],.tv [] (.int .i64) x1] (hq18 g2 n2 o0_2 o0_0_0 o0_0_1 o0_0_2 l2) Q:=vc_of (by kernel_rfl) h
theorem vc48 (x1:Int) (g3:Nat) (l3:List (((Int×(Int×((Int×(Int×(Int×Unit)))×(List (Int)×(Bool×(Bool×Unit))))))×(Int×Unit)))) (n3:Nat) (o0_0_2:Int) (o0_0_0_0:Int) (o0_0_0_1:Int) (o0_0_0_2:Int) (Q:AV→Heap→Prop) (h :
(∃ y0 y1 y2 y3 y4:Int,
 (∃ y5:qT3,
 (∃ y6 y7 y8:Bool,
 (Need (E 47 [(.op (0,0) []),(.tv [] (.int .i64) x1)] (hq5 g3 n3 o0_0_2 o0_0_0_0 o0_0_0_1 o0_0_0_2 l3) (.tup [(.tv [] qt14 (y0,(y1,((y2,(y3,(y4,()))),(y5,(y6,(y7,()))))))),(.tv [] .bool y8)]) (hq5 g3 n3 o0_0_2 o0_0_0_0 o0_0_0_1 o0_0_0_2 l3)) ∧
 (Q (.tv [] .bool y6) (hq9 g3 n3 o0_0_2 o0_0_0_0 o0_0_0_1 o0_0_0_2 l3))))))):EvF PP orc 48 [.op (0,0) [],.tv [] (.int .i64) x1] (hq13 g3 n3 o0_0_2 o0_0_0_0 o0_0_0_1 o0_0_0_2 l3) Q:=vc_of (by kernel_rfl) h
end Go.Am.Z
