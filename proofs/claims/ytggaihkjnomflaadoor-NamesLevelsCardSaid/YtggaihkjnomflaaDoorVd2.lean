/-
  A part of the proof of a law: see the text that states it.
-/
import Derived.Test.YtggaihkjnomflaaDoorHead
set_option linter.all false
namespace Go.Am.D
open Go
set_option maxRecDepth 100000
set_option maxHeartbeats 4000000
theorem vc15 (x0_0:Int) (x0_1:Int) (x0_2:List (Int)) (x0_3:List (List (Int))) (x0_4:List (Int)) (x0_5:List (Int)) (x0_6:List (Int)) (x1:Int) (x2:Int) (Q:AV→Heap→Prop) (h :
((((decide (x1<(x0_2.length:Int)))=true) →
 (Q (.tv [] .bool false) [])) ∧
 (((decide (x1<(x0_2.length:Int)))=false) →
 ((((decide ((5:Int)<(x0_5.length:Int)))=true) →
 (Q (.tv [] .bool false) [])) ∧
 (((decide ((5:Int)<(x0_5.length:Int)))=false) →
 (∃ y4:(Int→Prop),
 (∃ y5:(Int→Nat),
 ((y4 (0:Int)) ∧
 (∀ z6:Int,
 ((y4 z6) →
 ((((decide (z6<(x0_3.length:Int)))=true) →
 (Need ((0≤z6)∧(z6<(x0_3.length:Int))) ∧
 ((((decide (x2<((List.length (List.getD x0_3 z6.toNat [])):Int)))=true) →
 (Q (.tv [] .bool false) [])) ∧
 (((decide (x2<((List.length (List.getD x0_3 z6.toNat [])):Int)))=false) →
 (Need ((-9223372036854775808≤(z6+1))∧((z6+1)≤9223372036854775807)) ∧
 ((y4 (z6+1)) ∧
  Need ((y5 (z6+1))<(y5 z6)))))))) ∧
 (((decide (z6<(x0_3.length:Int)))=false) →
 (Q (.tv [] .bool true) []))))))))))))):EvF PP orc 15 [.tv [] qt9 (x0_0,(x0_1,(x0_2,(x0_3,(x0_4,(x0_5,(x0_6,()))))))),.tv [] (.int .i64) x1,.tv [] (.int .i64) x2] [] Q:=vc_of (by kernel_rfl) h
end Go.Am.D
namespace Go.Am.D
open Go
set_option maxRecDepth 100000
set_option maxHeartbeats 4000000
theorem vc5 (x0_0:Int) (x0_1:Int) (x0_2:List (Int)) (x0_3:List (List (Int))) (x0_4:List (Int)) (x0_5:List (Int)) (x0_6:List (Int)) (Q:AV→Heap→Prop) (h :
(∃ y0:Bool,
 (Need (E 7 [] [] (.tv [] .bool y0) []) ∧
 (∃ y1:Bool,
 (Need (E 15 [(.tv [] qt9 (x0_0,(x0_1,(x0_2,(x0_3,(x0_4,(x0_5,(x0_6,())))))))),(.tv [] (.int .i64) (20:Int)),(.tv [] (.int .i64) (8:Int))] [] (.tv [] .bool y1) []) ∧
 ((((!y1)=true) →
 (Q (.tv [] .bool y0) [])) ∧
 (((!y1)=false) →
 (∃ y4:qT6,
 (∃ y5:qT9,
 (∃ y6:qT4,
 (∃ y7:qT0,
 (∃ y8:qT3,
 (Need (E 16 [(.tv [] qt9 (x0_0,(x0_1,(x0_2,(x0_3,(x0_4,(x0_5,(x0_6,()))))))))] [] (.tv [] qt0 (y4,(y5,(y6,(y7,(y8,())))))) []) ∧
 (∃ y9 y10:qT8,
 (∃ y11:qT7,
 (∃ y12 y13:qT0,
 (∃ y14:qT8,
 (∃ y15:Int,
 (∃ y16:qT0,
 (Need (E 9 [(.tv [] qt0 (y4,(y5,(y6,(y7,(y8,()))))))] [] (.tup [(.tv [] qt2 (y9,(y10,(y11,(y12,(y13,(y14,()))))))),(.tv [] (.int .i64) y15),(.tv [] .str y16)]) []) ∧
 ((((decide (y15≠(0:Int)))=true) →
 (Q (.tv [] .bool false) [])) ∧
 (((decide (y15≠(0:Int)))=false) →
 (Need ((-9223372036854775808≤((y8.length:Int)+(1:Int)))∧(((y8.length:Int)+(1:Int))≤9223372036854775807)) ∧
 ((((decide ((y11.length:Int)≠((y8.length:Int)+(1:Int))))=true) →
 (Q (.tv [] .bool false) [])) ∧
 (((decide ((y11.length:Int)≠((y8.length:Int)+(1:Int))))=false) →
 (Need ((-9223372036854775808≤((y4.length:Int)+(1:Int)))∧(((y4.length:Int)+(1:Int))≤9223372036854775807)) ∧
 ((((decide ((y12.length:Int)≠((y4.length:Int)+(1:Int))))=true) →
 (Q (.tv [] .bool false) [])) ∧
 (((decide ((y12.length:Int)≠((y4.length:Int)+(1:Int))))=false) →
 (Need ((-9223372036854775808≤((y6.length:Int)+(1:Int)))∧(((y6.length:Int)+(1:Int))≤9223372036854775807)) ∧
 ((((decide ((y13.length:Int)≠((y6.length:Int)+(1:Int))))=true) →
 (Q (.tv [] .bool false) [])) ∧
 (((decide ((y13.length:Int)≠((y6.length:Int)+(1:Int))))=false) →
 (∃ y25:(Int→Prop),
 (∃ y26:(Int→Nat),
 ((y25 (0:Int)) ∧
 (∀ z27:Int,
 ((y25 z27) →
 ((((decide (z27<(y4.length:Int)))=true) →
 (∃ y30:(Int→(Int→Prop)),
 (∃ y31:(Int→(Int→Nat)),
 ((y30 (0:Int) (0:Int)) ∧
 (∀ z32 z33:Int,
 ((y30 z32 z33) →
 ((((decide (z33<(y6.length:Int)))=true) →
 (∃ y36:(Int→(Int→Prop)),
 (∃ y37:(Int→(Int→Nat)),
 ((y36 z32 (0:Int)) ∧
 (∀ z38 z39:Int,
 ((y36 z38 z39) →
 (Need ((0≤z33)∧(z33<(y6.length:Int))) ∧
 ((((decide (z39<((List.length (List.getD y6 z33.toNat ((0:Int),([],()))).2.1):Int)))=true) →
 (Need ((0≤z33)∧(z33<(y6.length:Int))) ∧
 (Need ((0≤z39)∧(z39<((List.length (List.getD y6 z33.toNat ((0:Int),([],()))).2.1):Int))) ∧
 (Need ((0≤z27)∧(z27<(y4.length:Int))) ∧
 ((((decide ((List.getD (List.getD y6 z33.toNat ((0:Int),([],()))).2.1 z39.toNat [])=(List.getD y4 z27.toNat (([]:List Int),(([],([],(false,()))),()))).1))=true) →
 (Need ((-9223372036854775808≤(z33+1))∧((z33+1)≤9223372036854775807)) ∧
 (Need ((-9223372036854775808≤(z39+1))∧((z39+1)≤9223372036854775807)) ∧
 (Need (((y9,(y10,(y11,(y12,(y13,(y14,()))))))=(y9,(y10,(y11,(y12,(y13,(y14,())))))))∧((y4,(y5,(y6,(y7,(y8,())))))=(y4,(y5,(y6,(y7,(y8,()))))))) ∧
 ((y36 (z33 + 1) (z39 + 1)) ∧
     Need ((y37 (z33+1) (z39+1))<(y37 z38 z39))))))) ∧
 (((decide ((List.getD (List.getD y6 z33.toNat ((0:Int),([],()))).2.1 z39.toNat [])=(List.getD y4 z27.toNat (([]:List Int),(([],([],(false,()))),()))).1))=false) →
 (Need ((-9223372036854775808≤(z39+1))∧((z39+1)≤9223372036854775807)) ∧
 (Need (((y9,(y10,(y11,(y12,(y13,(y14,()))))))=(y9,(y10,(y11,(y12,(y13,(y14,())))))))∧((y4,(y5,(y6,(y7,(y8,())))))=(y4,(y5,(y6,(y7,(y8,()))))))) ∧
 ((y36 z38 (z39 + 1)) ∧
    Need ((y37 z38 (z39+1))<(y37 z38 z39))))))))))) ∧
 (((decide (z39<((List.length (List.getD y6 z33.toNat ((0:Int),([],()))).2.1):Int)))=false) →
 (Need ((-9223372036854775808≤(z33+1))∧((z33+1)≤9223372036854775807)) ∧
 (Need (((y9,(y10,(y11,(y12,(y13,(y14,()))))))=(y9,(y10,(y11,(y12,(y13,(y14,())))))))∧((y4,(y5,(y6,(y7,(y8,())))))=(y4,(y5,(y6,(y7,(y8,()))))))) ∧
 ((y30 z38 (z33+1)) ∧
   Need ((y31 z38 (z33+1))<(y31 z32 z33)))))))))))))) ∧
 (((decide (z33<(y6.length:Int)))=false) →
 (Need ((-9223372036854775808≤(z27+1))∧((z27+1)≤9223372036854775807)) ∧
 (Need (((0:Int)≤(z27+1))∧((z27+1)<(y12.length:Int))) ∧
 ((((decide ((List.getD y12 (Int.toNat (z27+1)) (0:Int))≠z32))=true) →
 (Q (.tv [] .bool false) [])) ∧
 (((decide ((List.getD y12 (Int.toNat (z27+1)) (0:Int))≠z32))=false) →
 (Need ((-9223372036854775808≤(z27+1))∧((z27+1)≤9223372036854775807)) ∧
 (Need (((y9,(y10,(y11,(y12,(y13,(y14,()))))))=(y9,(y10,(y11,(y12,(y13,(y14,())))))))∧((y4,(y5,(y6,(y7,(y8,())))))=(y4,(y5,(y6,(y7,(y8,()))))))) ∧
 ((y25 (z27+1)) ∧
  Need ((y26 (z27+1))<(y26 z27))))))))))))))))) ∧
 (((decide (z27<(y4.length:Int)))=false) →
 (∃ y49:(Int→Prop),
 (∃ y50:(Int→Nat),
 ((y49 (0:Int)) ∧
 (∀ z51:Int,
 ((y49 z51) →
 ((((decide (z51<(y8.length:Int)))=true) →
 (Need ((-9223372036854775808≤(z51+1))∧((z51+1)≤9223372036854775807)) ∧
 (Need (((0:Int)≤(z51+1))∧((z51+1)<(y11.length:Int))) ∧
 (∃ y54:(Int→(Int→(Int→(qT0→(Int→Prop))))),
 (∃ y55:(Int→(Int→(Int→(qT0→(Int→Nat))))),
 ((y54 (0:Int) (0:Int) (List.getD y11 (Int.toNat (z51+1)) ((0:Int),([],((0:Int),())))).1 (List.getD y11 (Int.toNat (z51+1)) ((0:Int),([],((0:Int),())))).2.1 (List.getD y11 (Int.toNat (z51+1)) ((0:Int),([],((0:Int),())))).2.2.1) ∧
 (∀ z56 z57 z58:Int,
 (∀ z59:qT0,
 (∀ z60:Int,
 ((y54 z56 z57 z58 z59 z60) →
 ((((decide (z57<(z59.length:Int)))=true) →
 (Need ((0≤z57)∧(z57<(z59.length:Int))) ∧
 ((((decide ((0:Int)≤(List.getD z59 z57.toNat (0:Int))))=true) →
 (Need ((0≤z57)∧(z57<(z59.length:Int))) ∧
 ((((decide ((List.getD z59 z57.toNat (0:Int))<(y12.length:Int)))=true) →
 (Need ((0≤z57)∧(z57<(z59.length:Int))) ∧
 (Need (((0:Int)≤(List.getD z59 z57.toNat (0:Int)))∧((List.getD z59 z57.toNat (0:Int))<(y12.length:Int))) ∧
 (Need ((-9223372036854775808≤(z57+1))∧((z57+1)≤9223372036854775807)) ∧
 (Need (((y9,(y10,(y11,(y12,(y13,(y14,()))))))=(y9,(y10,(y11,(y12,(y13,(y14,())))))))∧((y4,(y5,(y6,(y7,(y8,())))))=(y4,(y5,(y6,(y7,(y8,()))))))) ∧
 ((y54 (List.getD y12 (Int.toNat (List.getD z59 z57.toNat (0 : Int))) (0 : Int)) (z57 + 1) z58 z59 z60) ∧
     Need ((y55 (List.getD y12 (Int.toNat (List.getD z59 z57.toNat (0:Int))) (0:Int)) (z57+1) z58 z59 z60)<(y55 z56 z57 z58 z59 z60)))))))) ∧
 (((decide ((List.getD z59 z57.toNat (0:Int))<(y12.length:Int)))=false) →
 (Need ((-9223372036854775808≤(z57+1))∧((z57+1)≤9223372036854775807)) ∧
 (Need (((y9,(y10,(y11,(y12,(y13,(y14,()))))))=(y9,(y10,(y11,(y12,(y13,(y14,())))))))∧((y4,(y5,(y6,(y7,(y8,())))))=(y4,(y5,(y6,(y7,(y8,()))))))) ∧
 ((y54 z56 (z57 + 1) z58 z59 z60) ∧
    Need ((y55 z56 (z57+1) z58 z59 z60)<(y55 z56 z57 z58 z59 z60))))))))) ∧
 (((decide ((0:Int)≤(List.getD z59 z57.toNat (0:Int))))=false) →
 (Need ((-9223372036854775808≤(z57+1))∧((z57+1)≤9223372036854775807)) ∧
 (Need (((y9,(y10,(y11,(y12,(y13,(y14,()))))))=(y9,(y10,(y11,(y12,(y13,(y14,())))))))∧((y4,(y5,(y6,(y7,(y8,())))))=(y4,(y5,(y6,(y7,(y8,()))))))) ∧
 ((y54 z56 (z57+1) z58 z59 z60) ∧
   Need ((y55 z56 (z57+1) z58 z59 z60)<(y55 z56 z57 z58 z59 z60))))))))) ∧
 (((decide (z57<(z59.length:Int)))=false) →
 (∃ y68:(Int→(Int→(Int→(qT0→(Int→Prop))))),
 (∃ y69:(Int→(Int→(Int→(qT0→(Int→Nat))))),
 ((y68 z56 (0:Int) z58 z59 z60) ∧
 (∀ z70 z71 z72:Int,
 (∀ z73:qT0,
 (∀ z74:Int,
 ((y68 z70 z71 z72 z73 z74) →
 ((((decide (z71<(y6.length:Int)))=true) →
 (Need ((0≤z51)∧(z51<(y8.length:Int))) ∧
 (Need ((0≤z71)∧(z71<(y6.length:Int))) ∧
 (Need (((0:Int)≤(0:Int))∧((0:Int)<((List.length (List.getD y6 z71.toNat ((0:Int),([],()))).2.1):Int))) ∧
 ((((decide ((List.getD y8 z51.toNat ([],([],([],([],()))))).2.2.1=(List.getD (List.getD y6 z71.toNat ((0:Int),([],()))).2.1 0 [])))=true) →
 (Need ((-9223372036854775808≤(z71+1))∧((z71+1)≤9223372036854775807)) ∧
 (Need ((-9223372036854775808≤(z71+1))∧((z71+1)≤9223372036854775807)) ∧
 (Need (((y9,(y10,(y11,(y12,(y13,(y14,()))))))=(y9,(y10,(y11,(y12,(y13,(y14,())))))))∧((y4,(y5,(y6,(y7,(y8,())))))=(y4,(y5,(y6,(y7,(y8,()))))))) ∧
 ((y68 (z71 + 1) (z71 + 1) z72 z73 z74) ∧
    Need ((y69 (z71+1) (z71+1) z72 z73 z74)<(y69 z70 z71 z72 z73 z74))))))) ∧
 (((decide ((List.getD y8 z51.toNat ([],([],([],([],()))))).2.2.1=(List.getD (List.getD y6 z71.toNat ((0:Int),([],()))).2.1 0 [])))=false) →
 (Need ((-9223372036854775808≤(z71+1))∧((z71+1)≤9223372036854775807)) ∧
 (Need (((y9,(y10,(y11,(y12,(y13,(y14,()))))))=(y9,(y10,(y11,(y12,(y13,(y14,())))))))∧((y4,(y5,(y6,(y7,(y8,())))))=(y4,(y5,(y6,(y7,(y8,()))))))) ∧
 ((y68 z70 (z71+1) z72 z73 z74) ∧
   Need ((y69 z70 (z71+1) z72 z73 z74)<(y69 z70 z71 z72 z73 z74))))))))))) ∧
 (((decide (z71<(y6.length:Int)))=false) →
 ((((decide (z74≠z70))=true) →
 (Q (.tv [] .bool false) [])) ∧
 (((decide (z74≠z70))=false) →
 (Need ((-9223372036854775808≤(z51+1))∧((z51+1)≤9223372036854775807)) ∧
 (Need (((y9,(y10,(y11,(y12,(y13,(y14,()))))))=(y9,(y10,(y11,(y12,(y13,(y14,())))))))∧((y4,(y5,(y6,(y7,(y8,())))))=(y4,(y5,(y6,(y7,(y8,()))))))) ∧
 ((y49 (z51+1)) ∧
  Need ((y50 (z51+1))<(y50 z51)))))))))))))))))))))))))))) ∧
 (((decide (z51<(y8.length:Int)))=false) →
 (∃ y83:(Int→Prop),
 (∃ y84:(Int→Nat),
 ((y83 (0:Int)) ∧
 (∀ z85:Int,
 ((y83 z85) →
 ((((decide (z85<(y6.length:Int)))=true) →
 (Need ((-9223372036854775808≤(z85+1))∧((z85+1)≤9223372036854775807)) ∧
 (Need (((0:Int)≤(z85+1))∧((z85+1)<(y13.length:Int))) ∧
 (Need ((0≤z85)∧(z85<(y6.length:Int))) ∧
 ((((decide ((List.getD y13 (Int.toNat (z85+1)) (0:Int))≠(List.getD y6 z85.toNat ((0:Int),([],()))).1))=true) →
 (Q (.tv [] .bool false) [])) ∧
 (((decide ((List.getD y13 (Int.toNat (z85+1)) (0:Int))≠(List.getD y6 z85.toNat ((0:Int),([],()))).1))=false) →
 (Need ((-9223372036854775808≤(z85+1))∧((z85+1)≤9223372036854775807)) ∧
 (Need (((y9,(y10,(y11,(y12,(y13,(y14,()))))))=(y9,(y10,(y11,(y12,(y13,(y14,())))))))∧((y4,(y5,(y6,(y7,(y8,())))))=(y4,(y5,(y6,(y7,(y8,()))))))) ∧
 ((y83 (z85+1)) ∧
  Need ((y84 (z85+1))<(y84 z85))))))))))) ∧
 (((decide (z85<(y6.length:Int)))=false) →
 (Q (.tv [] .bool y0) []))))))))))))))))))))))))))))))))))))))))))))))))))))):EvF PP orc 5 [.tv [] qt9 (x0_0,(x0_1,(x0_2,(x0_3,(x0_4,(x0_5,(x0_6,())))))))] [] Q:=vc_of (by kernel_rfl) h
end Go.Am.D
