/-
  A part of the proof of a law: see the text that states it.
-/
import Derived.Test.YtggaihkjnomflaaGreatDoorHead
set_option linter.all false
namespace Go.Am.N
open Go
set_option maxRecDepth 100000
set_option maxHeartbeats 4000000
theorem vc6 (x0_0:List ((List Int×((List Int×(List Int×(Bool×Unit)))×Unit)))) (x0_1:List ((List Int×(List Int×(Bool×Unit))))) (x0_2:List ((Int×(List qT0×Unit)))) (x0_3:List Int) (x0_4:List ((List Int×(List qT0×(List Int×(List Int×Unit)))))) (Q:AV→Heap→Prop) (h :
(Need ((-9223372036854775808≤((x0_0.length:Int)+(x0_1.length:Int)))∧(((x0_0.length:Int)+(x0_1.length:Int))≤9223372036854775807)) ∧
 (Need ((-9223372036854775808≤(((x0_0.length:Int)+(x0_1.length:Int))+(x0_2.length:Int)))∧((((x0_0.length:Int)+(x0_1.length:Int))+(x0_2.length:Int))≤9223372036854775807)) ∧
 (Need ((-9223372036854775808≤((((x0_0.length:Int)+(x0_1.length:Int))+(x0_2.length:Int))+(x0_4.length:Int)))∧(((((x0_0.length:Int)+(x0_1.length:Int))+(x0_2.length:Int))+(x0_4.length:Int))≤9223372036854775807)) ∧
 ((((decide ((60:Int)<((((x0_0.length:Int)+(x0_1.length:Int))+(x0_2.length:Int))+(x0_4.length:Int))))=true) →
 (Q (.tv [] .bool false) [])) ∧
 (((decide ((60:Int)<((((x0_0.length:Int)+(x0_1.length:Int))+(x0_2.length:Int))+(x0_4.length:Int))))=false) →
 (∃ y2:(Int→(Int→Prop)),
 (∃ y3:(Int→(Int→Nat)),
 ((y2 ((((x0_0.length:Int)+(x0_1.length:Int))+(x0_2.length:Int))+(x0_4.length:Int)) (0:Int)) ∧
 (∀ z4 z5:Int,
 ((y2 z4 z5) →
 ((((decide (z5<(x0_0.length:Int)))=true) →
 (Need ((0≤z5)∧(z5<(x0_0.length:Int))) ∧
 (Need ((-9223372036854775808≤(z4+((List.length (List.getD x0_0 z5.toNat (([]:List Int),(([],([],(false,()))),()))).1):Int)))∧((z4+((List.length (List.getD x0_0 z5.toNat (([]:List Int),(([],([],(false,()))),()))).1):Int))≤9223372036854775807)) ∧
 (Need ((0≤z5)∧(z5<(x0_0.length:Int))) ∧
 (Need ((-9223372036854775808≤((z4+((List.length (List.getD x0_0 z5.toNat (([]:List Int),(([],([],(false,()))),()))).1):Int))+((List.length (List.getD x0_0 z5.toNat (([]:List Int),(([],([],(false,()))),()))).2.1.1):Int)))∧(((z4+((List.length (List.getD x0_0 z5.toNat (([]:List Int),(([],([],(false,()))),()))).1):Int))+((List.length (List.getD x0_0 z5.toNat (([]:List Int),(([],([],(false,()))),()))).2.1.1):Int))≤9223372036854775807)) ∧
 (Need ((0≤z5)∧(z5<(x0_0.length:Int))) ∧
 (Need ((-9223372036854775808≤(((z4+((List.length (List.getD x0_0 z5.toNat (([]:List Int),(([],([],(false,()))),()))).1):Int))+((List.length (List.getD x0_0 z5.toNat (([]:List Int),(([],([],(false,()))),()))).2.1.1):Int))+((List.length (List.getD x0_0 z5.toNat (([]:List Int),(([],([],(false,()))),()))).2.1.2.1):Int)))∧((((z4+((List.length (List.getD x0_0 z5.toNat (([]:List Int),(([],([],(false,()))),()))).1):Int))+((List.length (List.getD x0_0 z5.toNat (([]:List Int),(([],([],(false,()))),()))).2.1.1):Int))+((List.length (List.getD x0_0 z5.toNat (([]:List Int),(([],([],(false,()))),()))).2.1.2.1):Int))≤9223372036854775807)) ∧
 (Need ((-9223372036854775808≤(z5+1))∧((z5+1)≤9223372036854775807)) ∧
 ((y2 (((z4+((List.length (List.getD x0_0 z5.toNat (([]:List Int),(([],([],(false,()))),()))).1):Int))+((List.length (List.getD x0_0 z5.toNat (([]:List Int),(([],([],(false,()))),()))).2.1.1):Int))+((List.length (List.getD x0_0 z5.toNat (([]:List Int),(([],([],(false,()))),()))).2.1.2.1):Int)) (z5+1)) ∧
  Need ((y3 (((z4+((List.length (List.getD x0_0 z5.toNat (([]:List Int),(([],([],(false,()))),()))).1):Int))+((List.length (List.getD x0_0 z5.toNat (([]:List Int),(([],([],(false,()))),()))).2.1.1):Int))+((List.length (List.getD x0_0 z5.toNat (([]:List Int),(([],([],(false,()))),()))).2.1.2.1):Int)) (z5+1))<(y3 z4 z5))))))))))) ∧
 (((decide (z5<(x0_0.length:Int)))=false) →
 (∃ y9:(Int→(Int→Prop)),
 (∃ y10:(Int→(Int→Nat)),
 ((y9 z4 (0:Int)) ∧
 (∀ z11 z12:Int,
 ((y9 z11 z12) →
 ((((decide (z12<(x0_1.length:Int)))=true) →
 (Need ((0≤z12)∧(z12<(x0_1.length:Int))) ∧
 (Need ((-9223372036854775808≤(z11+((List.length (List.getD x0_1 z12.toNat ([],([],(false,())))).1):Int)))∧((z11+((List.length (List.getD x0_1 z12.toNat ([],([],(false,())))).1):Int))≤9223372036854775807)) ∧
 (Need ((0≤z12)∧(z12<(x0_1.length:Int))) ∧
 (Need ((-9223372036854775808≤((z11+((List.length (List.getD x0_1 z12.toNat ([],([],(false,())))).1):Int))+((List.length (List.getD x0_1 z12.toNat ([],([],(false,())))).2.1):Int)))∧(((z11+((List.length (List.getD x0_1 z12.toNat ([],([],(false,())))).1):Int))+((List.length (List.getD x0_1 z12.toNat ([],([],(false,())))).2.1):Int))≤9223372036854775807)) ∧
 (Need ((-9223372036854775808≤(z12+1))∧((z12+1)≤9223372036854775807)) ∧
 ((y9 ((z11+((List.length (List.getD x0_1 z12.toNat ([],([],(false,())))).1):Int))+((List.length (List.getD x0_1 z12.toNat ([],([],(false,())))).2.1):Int)) (z12+1)) ∧
  Need ((y10 ((z11+((List.length (List.getD x0_1 z12.toNat ([],([],(false,())))).1):Int))+((List.length (List.getD x0_1 z12.toNat ([],([],(false,())))).2.1):Int)) (z12+1))<(y10 z11 z12))))))))) ∧
 (((decide (z12<(x0_1.length:Int)))=false) →
 (∃ y16:(Int→(Int→Prop)),
 (∃ y17:(Int→(Int→Nat)),
 ((y16 z11 (0:Int)) ∧
 (∀ z18 z19:Int,
 ((y16 z18 z19) →
 ((((decide (z19<(x0_2.length:Int)))=true) →
 (∃ y22:(Int→(Int→Prop)),
 (∃ y23:(Int→(Int→Nat)),
 ((y22 z18 (0:Int)) ∧
 (∀ z24 z25:Int,
 ((y22 z24 z25) →
 (Need ((0≤z19)∧(z19<(x0_2.length:Int))) ∧
 ((((decide (z25<((List.length (List.getD x0_2 z19.toNat ((0:Int),([],()))).2.1):Int)))=true) →
 (Need ((0≤z19)∧(z19<(x0_2.length:Int))) ∧
 (Need ((0≤z25)∧(z25<((List.length (List.getD x0_2 z19.toNat ((0:Int),([],()))).2.1):Int))) ∧
 (Need ((-9223372036854775808≤(z24+((List.length (List.getD (List.getD x0_2 z19.toNat ((0:Int),([],()))).2.1 z25.toNat [])):Int)))∧((z24+((List.length (List.getD (List.getD x0_2 z19.toNat ((0:Int),([],()))).2.1 z25.toNat [])):Int))≤9223372036854775807)) ∧
 (Need ((-9223372036854775808≤((z24+((List.length (List.getD (List.getD x0_2 z19.toNat ((0:Int),([],()))).2.1 z25.toNat [])):Int))+(1:Int)))∧(((z24+((List.length (List.getD (List.getD x0_2 z19.toNat ((0:Int),([],()))).2.1 z25.toNat [])):Int))+(1:Int))≤9223372036854775807)) ∧
 (Need ((-9223372036854775808≤(z25+1))∧((z25+1)≤9223372036854775807)) ∧
 ((y22 ((z24+((List.length (List.getD (List.getD x0_2 z19.toNat ((0:Int),([],()))).2.1 z25.toNat [])):Int))+(1:Int)) (z25+1)) ∧
   Need ((y23 ((z24+((List.length (List.getD (List.getD x0_2 z19.toNat ((0:Int),([],()))).2.1 z25.toNat [])):Int))+(1:Int)) (z25+1))<(y23 z24 z25))))))))) ∧
 (((decide (z25<((List.length (List.getD x0_2 z19.toNat ((0:Int),([],()))).2.1):Int)))=false) →
 (Need ((-9223372036854775808≤(z19+1))∧((z19+1)≤9223372036854775807)) ∧
 ((y16 z24 (z19+1)) ∧
  Need ((y17 z24 (z19+1))<(y17 z18 z19))))))))))))) ∧
 (((decide (z19<(x0_2.length:Int)))=false) →
 (∃ y30:(Int→(Int→Prop)),
 (∃ y31:(Int→(Int→Nat)),
 ((y30 z18 (0:Int)) ∧
 (∀ z32 z33:Int,
 ((y30 z32 z33) →
 ((((decide (z33<(x0_4.length:Int)))=true) →
 (Need ((0≤z33)∧(z33<(x0_4.length:Int))) ∧
 (Need ((-9223372036854775808≤(z32+((List.length (List.getD x0_4 z33.toNat ([],([],([],([],()))))).1):Int)))∧((z32+((List.length (List.getD x0_4 z33.toNat ([],([],([],([],()))))).1):Int))≤9223372036854775807)) ∧
 (Need ((0≤z33)∧(z33<(x0_4.length:Int))) ∧
 (Need ((-9223372036854775808≤((z32+((List.length (List.getD x0_4 z33.toNat ([],([],([],([],()))))).1):Int))+((List.length (List.getD x0_4 z33.toNat ([],([],([],([],()))))).2.2.1):Int)))∧(((z32+((List.length (List.getD x0_4 z33.toNat ([],([],([],([],()))))).1):Int))+((List.length (List.getD x0_4 z33.toNat ([],([],([],([],()))))).2.2.1):Int))≤9223372036854775807)) ∧
 (Need ((0≤z33)∧(z33<(x0_4.length:Int))) ∧
 (Need ((-9223372036854775808≤(((z32+((List.length (List.getD x0_4 z33.toNat ([],([],([],([],()))))).1):Int))+((List.length (List.getD x0_4 z33.toNat ([],([],([],([],()))))).2.2.1):Int))+((List.length (List.getD x0_4 z33.toNat ([],([],([],([],()))))).2.2.2.1):Int)))∧((((z32+((List.length (List.getD x0_4 z33.toNat ([],([],([],([],()))))).1):Int))+((List.length (List.getD x0_4 z33.toNat ([],([],([],([],()))))).2.2.1):Int))+((List.length (List.getD x0_4 z33.toNat ([],([],([],([],()))))).2.2.2.1):Int))≤9223372036854775807)) ∧
 (∃ y36:(Int→(Int→Prop)),
 (∃ y37:(Int→(Int→Nat)),
 ((y36 (((z32+((List.length (List.getD x0_4 z33.toNat ([],([],([],([],()))))).1):Int))+((List.length (List.getD x0_4 z33.toNat ([],([],([],([],()))))).2.2.1):Int))+((List.length (List.getD x0_4 z33.toNat ([],([],([],([],()))))).2.2.2.1):Int)) (0:Int)) ∧
 (∀ z38 z39:Int,
 ((y36 z38 z39) →
 (Need ((0≤z33)∧(z33<(x0_4.length:Int))) ∧
 ((((decide (z39<((List.length (List.getD x0_4 z33.toNat ([],([],([],([],()))))).2.1):Int)))=true) →
 (Need ((0≤z33)∧(z33<(x0_4.length:Int))) ∧
 (Need ((0≤z39)∧(z39<((List.length (List.getD x0_4 z33.toNat ([],([],([],([],()))))).2.1):Int))) ∧
 (Need ((-9223372036854775808≤(z38+((List.length (List.getD (List.getD x0_4 z33.toNat ([],([],([],([],()))))).2.1 z39.toNat [])):Int)))∧((z38+((List.length (List.getD (List.getD x0_4 z33.toNat ([],([],([],([],()))))).2.1 z39.toNat [])):Int))≤9223372036854775807)) ∧
 (Need ((-9223372036854775808≤((z38+((List.length (List.getD (List.getD x0_4 z33.toNat ([],([],([],([],()))))).2.1 z39.toNat [])):Int))+(1:Int)))∧(((z38+((List.length (List.getD (List.getD x0_4 z33.toNat ([],([],([],([],()))))).2.1 z39.toNat [])):Int))+(1:Int))≤9223372036854775807)) ∧
 (Need ((-9223372036854775808≤(z39+1))∧((z39+1)≤9223372036854775807)) ∧
 ((y36 ((z38+((List.length (List.getD (List.getD x0_4 z33.toNat ([],([],([],([],()))))).2.1 z39.toNat [])):Int))+(1:Int)) (z39+1)) ∧
   Need ((y37 ((z38+((List.length (List.getD (List.getD x0_4 z33.toNat ([],([],([],([],()))))).2.1 z39.toNat [])):Int))+(1:Int)) (z39+1))<(y37 z38 z39))))))))) ∧
 (((decide (z39<((List.length (List.getD x0_4 z33.toNat ([],([],([],([],()))))).2.1):Int)))=false) →
 (Need ((-9223372036854775808≤(z33+1))∧((z33+1)≤9223372036854775807)) ∧
 ((y30 z38 (z33+1)) ∧
  Need ((y31 z38 (z33+1))<(y31 z32 z33))))))))))))))))))) ∧
 (((decide (z33<(x0_4.length:Int)))=false) →
 (Q (.tv [] .bool (decide (z32≤1500))) []))))))))))))))))))))))))))))))))))):EvF PP orc 6 [.tv [] qt0 (x0_0,(x0_1,(x0_2,(x0_3,(x0_4,())))))] [] Q:=vc_of (by kernel_rfl) h
end Go.Am.N
