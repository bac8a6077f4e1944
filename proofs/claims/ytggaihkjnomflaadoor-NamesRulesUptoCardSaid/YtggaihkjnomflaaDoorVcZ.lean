/-
  A part of the proof of a law: see the text that states it.
-/
import Derived.Test.YtggaihkjnomflaaDoorHead
set_option linter.all false
namespace Go.Am.D
open Go
set_option maxRecDepth 100000
set_option maxHeartbeats 4000000
end Go.Am.D
namespace Go.Am.D
open Go
set_option maxRecDepth 100000
set_option maxHeartbeats 4000000
theorem vc4 (x0_0:List ((List Int×((List Int×(List Int×(Bool×Unit)))×Unit)))) (x0_1:List ((List Int×(List Int×(Bool×Unit))))) (x0_2:List ((Int×(List qT0×Unit)))) (x0_3:List Int) (x0_4:List ((List Int×(List qT0×(List Int×(List Int×Unit)))))) (Q:AV→Heap→Prop) (h :
(∃ y0:Bool,
 (Need (E 7 [] [] (.tv [] .bool y0) []) ∧
 (∃ y1:Bool,
 (Need (E 8 [(.tv [] qt0 (x0_0,(x0_1,(x0_2,(x0_3,(x0_4,()))))))] [] (.tv [] .bool y1) []) ∧
 ((((!y1)=true) →
 (Q (.tv [] .bool y0) [])) ∧
 (((!y1)=false) →
 (∃ y4 y5:qT8,
 (∃ y6:qT7,
 (∃ y7 y8:qT0,
 (∃ y9:qT8,
 (∃ y10:Int,
 (∃ y11:qT0,
 (Need (E 9 [(.tv [] qt0 (x0_0,(x0_1,(x0_2,(x0_3,(x0_4,()))))))] [] (.tup [(.tv [] qt2 (y4,(y5,(y6,(y7,(y8,(y9,()))))))),(.tv [] (.int .i64) y10),(.tv [] .str y11)]) []) ∧
 ((((decide (y10≠(0:Int)))=true) →
 (Q (.tv [] .bool y0) [])) ∧
 (((decide (y10≠(0:Int)))=false) →
 (Need ((-9223372036854775808≤((x0_4.length:Int)+(1:Int)))∧(((x0_4.length:Int)+(1:Int))≤9223372036854775807)) ∧
 ((((decide ((y6.length:Int)≠((x0_4.length:Int)+(1:Int))))=true) →
 (Q (.tv [] .bool false) [])) ∧
 (((decide ((y6.length:Int)≠((x0_4.length:Int)+(1:Int))))=false) →
 ((((decide ((y9.length:Int)≠(y6.length:Int)))=true) →
 (Q (.tv [] .bool false) [])) ∧
 (((decide ((y9.length:Int)≠(y6.length:Int)))=false) →
 ((((decide ((y7.length:Int)≠(y4.length:Int)))=true) →
 (Q (.tv [] .bool false) [])) ∧
 (((decide ((y7.length:Int)≠(y4.length:Int)))=false) →
 (Need ((-9223372036854775808≤((x0_2.length:Int)+(1:Int)))∧(((x0_2.length:Int)+(1:Int))≤9223372036854775807)) ∧
 ((((decide ((y8.length:Int)≠((x0_2.length:Int)+(1:Int))))=true) →
 (Q (.tv [] .bool false) [])) ∧
 (((decide ((y8.length:Int)≠((x0_2.length:Int)+(1:Int))))=false) →
 (∃ y22:qT0,
 (Need (E 13 [(.tv [] qt2 (y4,(y5,(y6,(y7,(y8,(y9,()))))))),(.tv [] (.int .i64) (0:Int))] [] (.tv [] .str y22) []) ∧
 (Need ((10+x0_3.length)≤bigN) ∧
 ((((!(decide (y22=([(36:Int),(97:Int),(99:Int),(99:Int),(101:Int),(112:Int),(116:Int),(32:Int),(58:Int),(32:Int)]++x0_3))))=true) →
 (Q (.tv [] .bool false) [])) ∧
 (((!(decide (y22=([(36:Int),(97:Int),(99:Int),(99:Int),(101:Int),(112:Int),(116:Int),(32:Int),(58:Int),(32:Int)]++x0_3))))=false) →
 (∃ y25:(Int→Prop),
 (∃ y26:(Int→Nat),
 ((y25 (0:Int)) ∧
 (∀ z27:Int,
 ((y25 z27) →
 ((((decide (z27<(x0_4.length:Int)))=true) →
 (Need ((0≤z27)∧(z27<(x0_4.length:Int))) ∧
 (Need (((List.length (List.getD x0_4 z27.toNat ([],([],([],([],()))))).1)+2)≤bigN) ∧
 (∃ y30:(qT0→(Int→Prop)),
 (∃ y31:(qT0→(Int→Nat)),
 ((y30 ((List.getD x0_4 z27.toNat ([],([],([],([],()))))).1++[(32:Int),(58:Int)]) (0:Int)) ∧
 (∀ z32:qT0,
 (∀ z33:Int,
 ((y30 z32 z33) →
 (Need ((0≤z27)∧(z27<(x0_4.length:Int))) ∧
 ((((decide (z33<((List.length (List.getD x0_4 z27.toNat ([],([],([],([],()))))).2.1):Int)))=true) →
 (Need ((z32.length+1)≤bigN) ∧
 (Need ((0≤z27)∧(z27<(x0_4.length:Int))) ∧
 (Need ((0≤z33)∧(z33<((List.length (List.getD x0_4 z27.toNat ([],([],([],([],()))))).2.1):Int))) ∧
 (Need (((List.length (z32++[(32:Int)]))+(List.length (List.getD (List.getD x0_4 z27.toNat ([],([],([],([],()))))).2.1 z33.toNat [])))≤bigN) ∧
 (Need ((-9223372036854775808≤(z33+1))∧((z33+1)≤9223372036854775807)) ∧
 (Need ((y4,(y5,(y6,(y7,(y8,(y9,()))))))=(y4,(y5,(y6,(y7,(y8,(y9,()))))))) ∧
 ((y30 ((z32++[(32:Int)])++(List.getD (List.getD x0_4 z27.toNat ([],([],([],([],()))))).2.1 z33.toNat [])) (z33+1)) ∧
   Need ((y31 ((z32++[(32:Int)])++(List.getD (List.getD x0_4 z27.toNat ([],([],([],([],()))))).2.1 z33.toNat [])) (z33+1))<(y31 z32 z33)))))))))) ∧
 (((decide (z33<((List.length (List.getD x0_4 z27.toNat ([],([],([],([],()))))).2.1):Int)))=false) →
 (Need ((-9223372036854775808≤(z27+1))∧((z27+1)≤9223372036854775807)) ∧
 (Need (((0:Int)≤(z27+1))∧((z27+1)<(y6.length:Int))) ∧
 (Need ((-9223372036854775808≤(z27+1))∧((z27+1)≤9223372036854775807)) ∧
 (∃ y37:qT0,
 (Need (E 13 [(.tv [] qt2 (y4,(y5,(y6,(y7,(y8,(y9,()))))))),(.tv [] (.int .i64) (z27+1))] [] (.tv [] .str y37) []) ∧
 ((((!(decide (y37=z32)))=true) →
 (Q (.tv [] .bool false) [])) ∧
 (((!(decide (y37=z32)))=false) →
 (Need ((-9223372036854775808≤(z27+1))∧((z27+1)≤9223372036854775807)) ∧
 (Need (((0:Int)≤(z27+1))∧((z27+1)<(y9.length:Int))) ∧
 (Need ((0≤z27)∧(z27<(x0_4.length:Int))) ∧
 ((((!(decide ((List.getD y9 (Int.toNat (z27+1)) [])=(List.getD x0_4 z27.toNat ([],([],([],([],()))))).2.2.2.1)))=true) →
 (Q (.tv [] .bool false) [])) ∧
 (((!(decide ((List.getD y9 (Int.toNat (z27+1)) [])=(List.getD x0_4 z27.toNat ([],([],([],([],()))))).2.2.2.1)))=false) →
 ((((decide ((List.getD y6 (Int.toNat (z27+1)) ((0:Int),([],((0:Int),())))).2.2.1<(0:Int)))=true) →
 (Q (.tv [] .bool false) [])) ∧
 (((decide ((List.getD y6 (Int.toNat (z27+1)) ((0:Int),([],((0:Int),())))).2.2.1<(0:Int)))=false) →
 ((((decide ((x0_2.length:Int)<(List.getD y6 (Int.toNat (z27+1)) ((0:Int),([],((0:Int),())))).2.2.1))=true) →
 (Q (.tv [] .bool false) [])) ∧
 (((decide ((x0_2.length:Int)<(List.getD y6 (Int.toNat (z27+1)) ((0:Int),([],((0:Int),())))).2.2.1))=false) →
 (∃ y46:Bool,
 (Need (E 14 [(.tv [] qt2 (y4,(y5,(y6,(y7,(y8,(y9,()))))))),(.tv [] (.int .i64) (List.getD y6 (Int.toNat (z27+1)) ((0:Int),([],((0:Int),())))).1)] [] (.tv [] .bool y46) []) ∧
 (((y46=true) →
 (Q (.tv [] .bool false) [])) ∧
 ((y46=false) →
 (Need ((-9223372036854775808≤(z27+1))∧((z27+1)≤9223372036854775807)) ∧
 (Need ((y4,(y5,(y6,(y7,(y8,(y9,()))))))=(y4,(y5,(y6,(y7,(y8,(y9,()))))))) ∧
 ((y25 (z27+1)) ∧
  Need ((y26 (z27+1))<(y26 z27))))))))))))))))))))))))))))))))))))) ∧
 (((decide (z27<(x0_4.length:Int)))=false) →
 (((y0=true) →
 (Need (((0:Int)≤(0:Int))∧((0:Int)<(y9.length:Int))) ∧
 ((((decide ((List.getD y9 0 [])=[]))=true) →
 (Need (((0:Int)≤(0:Int))∧((0:Int)<(y6.length:Int))) ∧
 (∃ y52:Int,
 (Need (E 10 [(.tv [] qt2 (y4,(y5,(y6,(y7,(y8,(y9,())))))))] [] (.tv [] (.int .i64) y52) []) ∧
 (Q (.tv [] .bool (decide ((List.getD y6 0 ((0:Int),([],((0:Int),())))).1=y52))) []))))) ∧
 (((decide ((List.getD y9 0 [])=[]))=false) →
 (Q (.tv [] .bool false) []))))) ∧
 ((y0=false) →
 (Q (.tv [] .bool false) []))))))))))))))))))))))))))))))))))))))))):EvF PP orc 4 [.tv [] qt0 (x0_0,(x0_1,(x0_2,(x0_3,(x0_4,())))))] [] Q:=vc_of (by kernel_rfl) h
end Go.Am.D
