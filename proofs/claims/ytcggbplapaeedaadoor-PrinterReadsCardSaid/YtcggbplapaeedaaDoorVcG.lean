/-
  A part of the proof of a law: see the text that states it.
-/
import Derived.Test.YtcggbplapaeedaaDoorHead
set_option linter.all false
namespace Go.Am.R
open Go
set_option maxRecDepth 100000
set_option maxHeartbeats 4000000
end Go.Am.R
namespace Go.Am.R
open Go
set_option maxRecDepth 100000
set_option maxHeartbeats 4000000
theorem vc17 (x0_0:List ((List Int×((List Int×(List Int×(Bool×Unit)))×Unit)))) (x0_1:List ((List Int×(List Int×(Bool×Unit))))) (x0_2:List ((Int×(List qT0×Unit)))) (x0_3:List Int) (x0_4:List ((List Int×(List qT0×(List Int×(List Int×Unit)))))) (x1_0:List ((List Int×((List Int×(List Int×(Bool×Unit)))×Unit)))) (x1_1:List ((List Int×(List Int×(Bool×Unit))))) (x1_2:List ((Int×(List qT0×Unit)))) (x1_3:List Int) (x1_4:List ((List Int×(List qT0×(List Int×(List Int×Unit)))))) (Q:AV→Heap→Prop) (h :
((((decide ((x0_0.length:Int)≠(x1_0.length:Int)))=true) →
 (Q (.tv [] .bool false) [])) ∧
 (((decide ((x0_0.length:Int)≠(x1_0.length:Int)))=false) →
 ((((decide ((x0_1.length:Int)≠(x1_1.length:Int)))=true) →
 (Q (.tv [] .bool false) [])) ∧
 (((decide ((x0_1.length:Int)≠(x1_1.length:Int)))=false) →
 ((((decide ((x0_2.length:Int)≠(x1_2.length:Int)))=true) →
 (Q (.tv [] .bool false) [])) ∧
 (((decide ((x0_2.length:Int)≠(x1_2.length:Int)))=false) →
 ((((!(decide (x0_3=x1_3)))=true) →
 (Q (.tv [] .bool false) [])) ∧
 (((!(decide (x0_3=x1_3)))=false) →
 ((((decide ((x0_4.length:Int)≠(x1_4.length:Int)))=true) →
 (Q (.tv [] .bool false) [])) ∧
 (((decide ((x0_4.length:Int)≠(x1_4.length:Int)))=false) →
 (∃ y10:(Int→Prop),
 (∃ y11:(Int→Nat),
 ((y10 (0:Int)) ∧
 (∀ z12:Int,
 ((y10 z12) →
 ((((decide (z12<(x0_0.length:Int)))=true) →
 (Need ((0≤z12)∧(z12<(x0_0.length:Int))) ∧
 (Need ((0≤z12)∧(z12<(x1_0.length:Int))) ∧
 ((((!((decide ((List.getD x0_0 z12.toNat (([]:List Int),(([],([],(false,()))),()))).1=(List.getD x1_0 z12.toNat (([]:List Int),(([],([],(false,()))),()))).1))&&(((decide ((List.getD x0_0 z12.toNat (([]:List Int),(([],([],(false,()))),()))).2.1.1=(List.getD x1_0 z12.toNat (([]:List Int),(([],([],(false,()))),()))).2.1.1))&&((decide ((List.getD x0_0 z12.toNat (([]:List Int),(([],([],(false,()))),()))).2.1.2.1=(List.getD x1_0 z12.toNat (([]:List Int),(([],([],(false,()))),()))).2.1.2.1))&&((BEq.beq (List.getD x0_0 z12.toNat (([]:List Int),(([],([],(false,()))),()))).2.1.2.2.1 (List.getD x1_0 z12.toNat (([]:List Int),(([],([],(false,()))),()))).2.1.2.2.1)&&true)))&&true)))=true) →
 (Q (.tv [] .bool false) [])) ∧
 (((!((decide ((List.getD x0_0 z12.toNat (([]:List Int),(([],([],(false,()))),()))).1=(List.getD x1_0 z12.toNat (([]:List Int),(([],([],(false,()))),()))).1))&&(((decide ((List.getD x0_0 z12.toNat (([]:List Int),(([],([],(false,()))),()))).2.1.1=(List.getD x1_0 z12.toNat (([]:List Int),(([],([],(false,()))),()))).2.1.1))&&((decide ((List.getD x0_0 z12.toNat (([]:List Int),(([],([],(false,()))),()))).2.1.2.1=(List.getD x1_0 z12.toNat (([]:List Int),(([],([],(false,()))),()))).2.1.2.1))&&((BEq.beq (List.getD x0_0 z12.toNat (([]:List Int),(([],([],(false,()))),()))).2.1.2.2.1 (List.getD x1_0 z12.toNat (([]:List Int),(([],([],(false,()))),()))).2.1.2.2.1)&&true)))&&true)))=false) →
 (Need ((-9223372036854775808≤(z12+1))∧((z12+1)≤9223372036854775807)) ∧
 ((y10 (z12+1)) ∧
  Need ((y11 (z12+1))<(y11 z12))))))))) ∧
 (((decide (z12<(x0_0.length:Int)))=false) →
 (∃ y18:(Int→Prop),
 (∃ y19:(Int→Nat),
 ((y18 (0:Int)) ∧
 (∀ z20:Int,
 ((y18 z20) →
 ((((decide (z20<(x0_1.length:Int)))=true) →
 (Need ((0≤z20)∧(z20<(x0_1.length:Int))) ∧
 (Need ((0≤z20)∧(z20<(x1_1.length:Int))) ∧
 ((((!((decide ((List.getD x0_1 z20.toNat ([],([],(false,())))).1=(List.getD x1_1 z20.toNat ([],([],(false,())))).1))&&((decide ((List.getD x0_1 z20.toNat ([],([],(false,())))).2.1=(List.getD x1_1 z20.toNat ([],([],(false,())))).2.1))&&((BEq.beq (List.getD x0_1 z20.toNat ([],([],(false,())))).2.2.1 (List.getD x1_1 z20.toNat ([],([],(false,())))).2.2.1)&&true))))=true) →
 (Q (.tv [] .bool false) [])) ∧
 (((!((decide ((List.getD x0_1 z20.toNat ([],([],(false,())))).1=(List.getD x1_1 z20.toNat ([],([],(false,())))).1))&&((decide ((List.getD x0_1 z20.toNat ([],([],(false,())))).2.1=(List.getD x1_1 z20.toNat ([],([],(false,())))).2.1))&&((BEq.beq (List.getD x0_1 z20.toNat ([],([],(false,())))).2.2.1 (List.getD x1_1 z20.toNat ([],([],(false,())))).2.2.1)&&true))))=false) →
 (Need ((-9223372036854775808≤(z20+1))∧((z20+1)≤9223372036854775807)) ∧
 ((y18 (z20+1)) ∧
  Need ((y19 (z20+1))<(y19 z20))))))))) ∧
 (((decide (z20<(x0_1.length:Int)))=false) →
 (∃ y26:(Int→Prop),
 (∃ y27:(Int→Nat),
 ((y26 (0:Int)) ∧
 (∀ z28:Int,
 ((y26 z28) →
 ((((decide (z28<(x0_2.length:Int)))=true) →
 (Need ((0≤z28)∧(z28<(x0_2.length:Int))) ∧
 (Need ((0≤z28)∧(z28<(x1_2.length:Int))) ∧
 ((((decide ((List.getD x0_2 z28.toNat ((0:Int),([],()))).1≠(List.getD x1_2 z28.toNat ((0:Int),([],()))).1))=true) →
 (Q (.tv [] .bool false) [])) ∧
 (((decide ((List.getD x0_2 z28.toNat ((0:Int),([],()))).1≠(List.getD x1_2 z28.toNat ((0:Int),([],()))).1))=false) →
 (Need ((0≤z28)∧(z28<(x0_2.length:Int))) ∧
 (Need ((0≤z28)∧(z28<(x1_2.length:Int))) ∧
 (∃ y33:Bool,
 (Need (E 31 [(.tv [] qt10 (List.getD x0_2 z28.toNat ((0:Int),([],()))).2.1),(.tv [] qt10 (List.getD x1_2 z28.toNat ((0:Int),([],()))).2.1)] [] (.tv [] .bool y33) []) ∧
 ((((!y33)=true) →
 (Q (.tv [] .bool false) [])) ∧
 (((!y33)=false) →
 (Need ((-9223372036854775808≤(z28+1))∧((z28+1)≤9223372036854775807)) ∧
 ((y26 (z28+1)) ∧
  Need ((y27 (z28+1))<(y27 z28))))))))))))))) ∧
 (((decide (z28<(x0_2.length:Int)))=false) →
 (∃ y37:(Int→Prop),
 (∃ y38:(Int→Nat),
 ((y37 (0:Int)) ∧
 (∀ z39:Int,
 ((y37 z39) →
 ((((decide (z39<(x0_4.length:Int)))=true) →
 (Need ((0≤z39)∧(z39<(x0_4.length:Int))) ∧
 (Need ((0≤z39)∧(z39<(x1_4.length:Int))) ∧
 ((((!(decide ((List.getD x0_4 z39.toNat ([],([],([],([],()))))).1=(List.getD x1_4 z39.toNat ([],([],([],([],()))))).1)))=true) →
 (Q (.tv [] .bool false) [])) ∧
 (((!(decide ((List.getD x0_4 z39.toNat ([],([],([],([],()))))).1=(List.getD x1_4 z39.toNat ([],([],([],([],()))))).1)))=false) →
 ((((!(decide ((List.getD x0_4 z39.toNat ([],([],([],([],()))))).2.2.1=(List.getD x1_4 z39.toNat ([],([],([],([],()))))).2.2.1)))=true) →
 (Q (.tv [] .bool false) [])) ∧
 (((!(decide ((List.getD x0_4 z39.toNat ([],([],([],([],()))))).2.2.1=(List.getD x1_4 z39.toNat ([],([],([],([],()))))).2.2.1)))=false) →
 ((((!(decide ((List.getD x0_4 z39.toNat ([],([],([],([],()))))).2.2.2.1=(List.getD x1_4 z39.toNat ([],([],([],([],()))))).2.2.2.1)))=true) →
 (Q (.tv [] .bool false) [])) ∧
 (((!(decide ((List.getD x0_4 z39.toNat ([],([],([],([],()))))).2.2.2.1=(List.getD x1_4 z39.toNat ([],([],([],([],()))))).2.2.2.1)))=false) →
 (∃ y48:Bool,
 (Need (E 31 [(.tv [] qt10 (List.getD x0_4 z39.toNat ([],([],([],([],()))))).2.1),(.tv [] qt10 (List.getD x1_4 z39.toNat ([],([],([],([],()))))).2.1)] [] (.tv [] .bool y48) []) ∧
 ((((!y48)=true) →
 (Q (.tv [] .bool false) [])) ∧
 (((!y48)=false) →
 (Need ((-9223372036854775808≤(z39+1))∧((z39+1)≤9223372036854775807)) ∧
 ((y37 (z39+1)) ∧
  Need ((y38 (z39+1))<(y38 z39))))))))))))))))) ∧
 (((decide (z39<(x0_4.length:Int)))=false) →
 (Q (.tv [] .bool true) [])))))))))))))))))))))))))))))))))))))))):EvF PP orc 17 [.tv [] qt0 (x0_0,(x0_1,(x0_2,(x0_3,(x0_4,()))))),.tv [] qt0 (x1_0,(x1_1,(x1_2,(x1_3,(x1_4,())))))] [] Q:=vc_of (by kernel_rfl) h
end Go.Am.R
namespace Go.Am.R
open Go
set_option maxRecDepth 100000
set_option maxHeartbeats 4000000
end Go.Am.R
namespace Go.Am.R
open Go
set_option maxRecDepth 100000
set_option maxHeartbeats 4000000
theorem vc31 (x0:List qT0) (x1:List qT0) (Q:AV→Heap→Prop) (h :
((((decide ((x0.length:Int)≠(x1.length:Int)))=true) →
 (Q (.tv [] .bool false) [])) ∧
 (((decide ((x0.length:Int)≠(x1.length:Int)))=false) →
 (∃ y2:(Int→Prop),
 (∃ y3:(Int→Nat),
 ((y2 (0:Int)) ∧
 (∀ z4:Int,
 ((y2 z4) →
 ((((decide (z4<(x0.length:Int)))=true) →
 (Need ((0≤z4)∧(z4<(x0.length:Int))) ∧
 (Need ((0≤z4)∧(z4<(x1.length:Int))) ∧
 ((((!(decide ((List.getD x0 z4.toNat [])=(List.getD x1 z4.toNat []))))=true) →
 (Q (.tv [] .bool false) [])) ∧
 (((!(decide ((List.getD x0 z4.toNat [])=(List.getD x1 z4.toNat []))))=false) →
 (Need ((-9223372036854775808≤(z4+1))∧((z4+1)≤9223372036854775807)) ∧
 ((y2 (z4+1)) ∧
  Need ((y3 (z4+1))<(y3 z4))))))))) ∧
 (((decide (z4<(x0.length:Int)))=false) →
 (Q (.tv [] .bool true) []))))))))))):EvF PP orc 31 [.tv [] qt10 x0,.tv [] qt10 x1] [] Q:=vc_of (by kernel_rfl) h
end Go.Am.R
