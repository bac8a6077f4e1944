/-
  A part of the proof of a law: see the text that states it.
-/
import Derived.Test.YtggaihkjnomflaaDoorHead
set_option linter.all false
namespace Go.Am.D
open Go
set_option maxRecDepth 100000
set_option maxHeartbeats 4000000
theorem vc17 (x0:List qT0) (x1:List qT0) (Q:AV→Heap→Prop) (h :
((((decide ((x0.length:Int)≠(x1.length:Int)))=true) →
 (Q (.tv [] .bool false) [])) ∧
 (((decide ((x0.length:Int)≠(x1.length:Int)))=false) →
 (∃ y2:(Int→Prop),
 (∃ y3:(Int→Nat),
 ((y2 (0:Int)) ∧
 (∀ z4:Int,
 ((y2 z4) →
 ((((decide (z4<(x0.length:Int)))=true) →
 (Need ((0≤z4)∧(z4<(x0.length:Int))) ∧
 (Need ((0≤z4)∧(z4<(x1.length:Int))) ∧
 ((((!(decide ((List.getD x0 z4.toNat [])=(List.getD x1 z4.toNat []))))=true) →
 (Q (.tv [] .bool false) [])) ∧
 (((!(decide ((List.getD x0 z4.toNat [])=(List.getD x1 z4.toNat []))))=false) →
 (Need ((-9223372036854775808≤(z4+1))∧((z4+1)≤9223372036854775807)) ∧
 ((y2 (z4+1)) ∧
  Need ((y3 (z4+1))<(y3 z4))))))))) ∧
 (((decide (z4<(x0.length:Int)))=false) →
 (Q (.tv [] .bool true) []))))))))))):EvF PP orc 17 [.tv [] qt9 x0,.tv [] qt9 x1] [] Q:=vc_of (by kernel_rfl) h
end Go.Am.D
namespace Go.Am.D
open Go
set_option maxRecDepth 100000
set_option maxHeartbeats 4000000
theorem vc33 (x0_0:List Int) (x0_1:List Int) (x0_2:Bool) (Q:AV→Heap→Prop) (h :
((((!(decide (x0_0=[])))=true) →
 ((((decide ((x0_0.length:Int)≤(32:Int)))=true) →
 ((((decide (x0_1=[]))=true) →
 (Q (.tv [] .bool (!x0_2)) [])) ∧
 (((decide (x0_1=[]))=false) →
 (Q (.tv [] .bool false) [])))) ∧
 (((decide ((x0_0.length:Int)≤(32:Int)))=false) →
 (Q (.tv [] .bool false) [])))) ∧
 (((!(decide (x0_0=[])))=false) →
 (∃ y6:(Int→Prop),
 (∃ y7:(Int→Nat),
 ((y6 (1:Int)) ∧
 (∀ z8:Int,
 ((y6 z8) →
 ((((decide (z8<(x0_1.length:Int)))=true) →
 (Need ((-9223372036854775808≤(z8-1))∧((z8-1)≤9223372036854775807)) ∧
 (Need (((0:Int)≤(z8-1))∧((z8-1)<(x0_1.length:Int))) ∧
 (Need ((0≤z8)∧(z8<(x0_1.length:Int))) ∧
 ((((decide ((List.getD x0_1 z8.toNat (0:Int))≤(List.getD x0_1 (Int.toNat (z8-1)) (0:Int))))=true) →
 (Q (.tv [] .bool false) [])) ∧
 (((decide ((List.getD x0_1 z8.toNat (0:Int))≤(List.getD x0_1 (Int.toNat (z8-1)) (0:Int))))=false) →
 (Need ((-9223372036854775808≤(z8+1))∧((z8+1)≤9223372036854775807)) ∧
 ((y6 (z8+1)) ∧
  Need ((y7 (z8+1))<(y7 z8)))))))))) ∧
 (((decide (z8<(x0_1.length:Int)))=false) →
 (Q (.tv [] .bool (!(decide (x0_1=[])))) []))))))))))):EvF PP orc 33 [.tv [] qt8 (x0_0,(x0_1,(x0_2,())))] [] Q:=vc_of (by kernel_rfl) h
theorem vc36 (x0:List ((List Int×(List Int×(Bool×Unit))))) (Q:AV→Heap→Prop) (h :
(∃ y0:Int,
 (Need (E 53 [(.tv [] (.slice qt8) x0),(.fn (32:FuncId) [] [])] [] (.tv [] (.int .i64) y0) []) ∧
 (Q (.tv [] .bool (decide (0≤y0))) [])))):EvF PP orc 36 [.tv [] (.slice qt8) x0,.fn 32 [] []] [] Q:=vc_of (by kernel_rfl) h
theorem vc53 (x0:List ((List Int×(List Int×(Bool×Unit))))) (Q:AV→Heap→Prop) (h :
(∃ y0:(Int→Prop),
 (∃ y1:(Int→Nat),
 ((y0 (0:Int)) ∧
 (∀ z2:Int,
 ((y0 z2) →
 ((((decide (z2<(x0.length:Int)))=true) →
 (Need ((0≤z2)∧(z2<(x0.length:Int))) ∧
 (∃ y5:Bool,
 (Need (E (32:FuncId) [(.tv [] qt8 (List.getD x0 z2.toNat ([],([],(false,())))))] [] (.tv [] .bool y5) []) ∧
 (((y5=true) →
 (Q (.tv [] (.int .i64) z2) [])) ∧
 ((y5=false) →
 (Need ((-9223372036854775808≤(z2+1))∧((z2+1)≤9223372036854775807)) ∧
 ((y0 (z2+1)) ∧
  Need ((y1 (z2+1))<(y1 z2)))))))))) ∧
 (((decide (z2<(x0.length:Int)))=false) →
 (Q (.tv [] (.int .i64) (-(1:Int))) []))))))))):EvF PP orc 53 [.tv [] (.slice qt8) x0,.fn 32 [] []] [] Q:=vc_of (by kernel_rfl) h
theorem vc38 (x0:List ((List Int×(List qT0×(List Int×(List Int×Unit)))))) (Q:AV→Heap→Prop) (h :
(∃ y0:Int,
 (Need (E 55 [(.tv [] (.slice qt11) x0),(.fn (30:FuncId) [] [])] [] (.tv [] (.int .i64) y0) []) ∧
 (Q (.tv [] .bool (decide (0≤y0))) [])))):EvF PP orc 38 [.tv [] (.slice qt11) x0,.fn 30 [] []] [] Q:=vc_of (by kernel_rfl) h
theorem vc55 (x0:List ((List Int×(List qT0×(List Int×(List Int×Unit)))))) (Q:AV→Heap→Prop) (h :
(∃ y0:(Int→Prop),
 (∃ y1:(Int→Nat),
 ((y0 (0:Int)) ∧
 (∀ z2:Int,
 ((y0 z2) →
 ((((decide (z2<(x0.length:Int)))=true) →
 (Need ((0≤z2)∧(z2<(x0.length:Int))) ∧
 (∃ y5:Bool,
 (Need (E (30:FuncId) [(.tv [] qt11 (List.getD x0 z2.toNat ([],([],([],([],()))))))] [] (.tv [] .bool y5) []) ∧
 (((y5=true) →
 (Q (.tv [] (.int .i64) z2) [])) ∧
 ((y5=false) →
 (Need ((-9223372036854775808≤(z2+1))∧((z2+1)≤9223372036854775807)) ∧
 ((y0 (z2+1)) ∧
  Need ((y1 (z2+1))<(y1 z2)))))))))) ∧
 (((decide (z2<(x0.length:Int)))=false) →
 (Q (.tv [] (.int .i64) (-(1:Int))) []))))))))):EvF PP orc 55 [.tv [] (.slice qt11) x0,.fn 30 [] []] [] Q:=vc_of (by kernel_rfl) h
theorem vc50 (x0:List qT0) (Q:AV→Heap→Prop) (h :
(∃ y0:Int,
 (Need (E 58 [(.tv [] qt9 x0),(.fn (49:FuncId) [] [])] [] (.tv [] (.int .i64) y0) []) ∧
 (Q (.tv [] .bool (decide (0≤y0))) [])))):EvF PP orc 50 [.tv [] qt9 x0,.fn 49 [] []] [] Q:=vc_of (by kernel_rfl) h
theorem vc58 (x0:List qT0) (Q:AV→Heap→Prop) (h :
(∃ y0:(Int→Prop),
 (∃ y1:(Int→Nat),
 ((y0 (0:Int)) ∧
 (∀ z2:Int,
 ((y0 z2) →
 ((((decide (z2<(x0.length:Int)))=true) →
 (Need ((0≤z2)∧(z2<(x0.length:Int))) ∧
 (∃ y5:Bool,
 (Need (E (49:FuncId) [(.tv [] .str (List.getD x0 z2.toNat []))] [] (.tv [] .bool y5) []) ∧
 (((y5=true) →
 (Q (.tv [] (.int .i64) z2) [])) ∧
 ((y5=false) →
 (Need ((-9223372036854775808≤(z2+1))∧((z2+1)≤9223372036854775807)) ∧
 ((y0 (z2+1)) ∧
  Need ((y1 (z2+1))<(y1 z2)))))))))) ∧
 (((decide (z2<(x0.length:Int)))=false) →
 (Q (.tv [] (.int .i64) (-(1:Int))) []))))))))):EvF PP orc 58 [.tv [] qt9 x0,.fn 49 [] []] [] Q:=vc_of (by kernel_rfl) h
theorem vc49 (x0:List Int) (Q:AV→Heap→Prop) (h :
(∃ y0:Bool,
 (Need (E 37 [(.tv [] .str x0)] [] (.tv [] .bool y0) []) ∧
 (Q (.tv [] .bool (!y0)) [])))):EvF PP orc 49 [.tv [] .str x0] [] Q:=vc_of (by kernel_rfl) h
theorem vc30 (x0_0:List Int) (x0_1:List qT0) (x0_2:List Int) (x0_3:List Int) (Q:AV→Heap→Prop) (h :
(∃ y0:Bool,
 (Need (E 31 [(.tv [] qt11 (x0_0,(x0_1,(x0_2,(x0_3,())))))] [] (.tv [] .bool y0) []) ∧
 (Q (.tv [] .bool (!y0)) [])))):EvF PP orc 30 [.tv [] qt11 (x0_0,(x0_1,(x0_2,(x0_3,()))))] [] Q:=vc_of (by kernel_rfl) h
theorem vc32 (x0_0:List Int) (x0_1:List Int) (x0_2:Bool) (Q:AV→Heap→Prop) (h :
(∃ y0:Bool,
 (Need (E 33 [(.tv [] qt8 (x0_0,(x0_1,(x0_2,()))))] [] (.tv [] .bool y0) []) ∧
 (Q (.tv [] .bool (!y0)) [])))):EvF PP orc 32 [.tv [] qt8 (x0_0,(x0_1,(x0_2,())))] [] Q:=vc_of (by kernel_rfl) h
theorem vc37 (x0:List Int) (Q:AV→Heap→Prop) (h :
((((decide ((x0.length:Int)≤(32:Int)))=true) →
 (∃ y1:Bool,
 (Need (E 54 [(.tv [] .str x0)] [] (.tv [] .bool y1) []) ∧
 (Q (.tv [] .bool y1) [])))) ∧
 (((decide ((x0.length:Int)≤(32:Int)))=false) →
 (Q (.tv [] .bool false) [])))):EvF PP orc 37 [.tv [] .str x0] [] Q:=vc_of (by kernel_rfl) h
theorem vc31 (x0_0:List Int) (x0_1:List qT0) (x0_2:List Int) (x0_3:List Int) (Q:AV→Heap→Prop) (h :
(∃ y0:Bool,
 (Need (E 37 [(.tv [] .str x0_0)] [] (.tv [] .bool y0) []) ∧
 (((y0=true) →
 ((((decide ((x0_1.length:Int)≤(8:Int)))=true) →
 (∃ y3:Bool,
 (Need (E 50 [(.tv [] qt9 x0_1),(.fn 49 [] [])] [] (.tv [] .bool y3) []) ∧
 ((((!y3)=true) →
 ((((decide (x0_2=[]))=true) →
 (∃ y6:Bool,
 (Need (E 51 [(.tv [] .str x0_3)] [] (.tv [] .bool y6) []) ∧
 (Q (.tv [] .bool y6) [])))) ∧
 (((decide (x0_2=[]))=false) →
 (∃ y8:Bool,
 (Need (E 37 [(.tv [] .str x0_2)] [] (.tv [] .bool y8) []) ∧
 (((y8=true) →
 (∃ y10:Bool,
 (Need (E 51 [(.tv [] .str x0_3)] [] (.tv [] .bool y10) []) ∧
 (Q (.tv [] .bool y10) [])))) ∧
 ((y8=false) →
 (Q (.tv [] .bool false) [])))))))) ∧
 (((!y3)=false) →
 (Q (.tv [] .bool false) [])))))) ∧
 (((decide ((x0_1.length:Int)≤(8:Int)))=false) →
 (Q (.tv [] .bool false) [])))) ∧
 ((y0=false) →
 (Q (.tv [] .bool false) [])))))):EvF PP orc 31 [.tv [] qt11 (x0_0,(x0_1,(x0_2,(x0_3,()))))] [] Q:=vc_of (by kernel_rfl) h
theorem vc51 (x0:List Int) (Q:AV→Heap→Prop) (h :
((((decide ((200:Int)<(x0.length:Int)))=true) →
 (Q (.tv [] .bool false) [])) ∧
 (((decide ((200:Int)<(x0.length:Int)))=false) →
 (Need ((1+x0.length)≤bigN) ∧
 (Need (((List.length ([(123:Int)]++x0))+1)≤bigN) ∧
 (∃ y2:qT2,
 (∃ y3 y4 y5:Int,
 (Need (E 28 [(.tv [] .str (([(123:Int)]++x0)++[(125:Int)]))] [] (.tup [(.tv [] qt5 y2),(.tv [] qt3 (y3,((y4,(y5,())),())))]) []) ∧
 ((((decide (y3=(0:Int)))=true) →
 ((((decide ((y2.length:Int)=(2:Int)))=true) →
 (Need (((0:Int)≤(0:Int))∧((0:Int)<(y2.length:Int))) ∧
 (Q (.tv [] .bool (decide ((List.getD y2 0 ((0:Int),([],(((0:Int),((0:Int),())),())))).2.1=x0))) []))) ∧
 (((decide ((y2.length:Int)=(2:Int)))=false) →
 (Q (.tv [] .bool false) [])))) ∧
 (((decide (y3=(0:Int)))=false) →
 (Q (.tv [] .bool false) []))))))))))):EvF PP orc 51 [.tv [] .str x0] [] Q:=vc_of (by kernel_rfl) h
theorem vc52 (x0:List qT0) (Q:AV→Heap→Prop) (h :
(∃ y0:(Int→Prop),
 (∃ y1:(Int→Nat),
 ((y0 (0:Int)) ∧
 (∀ z2:Int,
 ((y0 z2) →
 ((((decide (z2<(x0.length:Int)))=true) →
 (Need ((0≤z2)∧(z2<(x0.length:Int))) ∧
 (∃ y5:Bool,
 (Need (E 37 [(.tv [] .str (List.getD x0 z2.toNat []))] [] (.tv [] .bool y5) []) ∧
 ((((!y5)=true) →
 (Q (.tv [] .bool false) [])) ∧
 (((!y5)=false) →
 (Need (((0:Int)≤(0:Int))∧((0≤z2)∧(z2≤(x0.length:Int)))) ∧
 (∃ y8:Bool,
 (Need (E 23 [(.tv [] qt9 (cut x0 0 z2.toNat)),(.tv [] .str (List.getD x0 z2.toNat []))] [] (.tv [] .bool y8) []) ∧
 (((y8=true) →
 (Q (.tv [] .bool false) [])) ∧
 ((y8=false) →
 (Need ((-9223372036854775808≤(z2+1))∧((z2+1)≤9223372036854775807)) ∧
 ((y0 (z2+1)) ∧
  Need ((y1 (z2+1))<(y1 z2))))))))))))))) ∧
 (((decide (z2<(x0.length:Int)))=false) →
 (Q (.tv [] .bool true) []))))))))):EvF PP orc 52 [.tv [] qt9 x0] [] Q:=vc_of (by kernel_rfl) h
theorem vc34 (x0:List ((List Int×((List Int×(List Int×(Bool×Unit)))×Unit)))) (Q:AV→Heap→Prop) (h :
(∃ y0:(qT8→(Int→Prop)),
 (∃ y1:(qT8→(Int→Nat)),
 ((y0 [] (0:Int)) ∧
 (∀ z2:qT8,
 (∀ z3:Int,
 ((y0 z2 z3) →
 ((((decide (z3<(x0.length:Int)))=true) →
 (Need ((0≤z3)∧(z3<(x0.length:Int))) ∧
 (∃ y6:Bool,
 (Need (E 33 [(.tv [] qt8 (List.getD x0 z3.toNat (([]:List Int),(([],([],(false,()))),()))).2.1)] [] (.tv [] .bool y6) []) ∧
 ((((!y6)=true) →
 (Q (.tv [] .bool false) [])) ∧
 (((!y6)=false) →
 (Need ((z2.length+(List.length [(List.getD x0 z3.toNat (([]:List Int),(([],([],(false,()))),()))).1]))≤bigN) ∧
 (Need ((-9223372036854775808≤(z3+1))∧((z3+1)≤9223372036854775807)) ∧
 ((y0 (z2++[(List.getD x0 z3.toNat (([]:List Int),(([],([],(false,()))),()))).1]) (z3+1)) ∧
  Need ((y1 (z2++[(List.getD x0 z3.toNat (([]:List Int),(([],([],(false,()))),()))).1]) (z3+1))<(y1 z2 z3))))))))))) ∧
 (((decide (z3<(x0.length:Int)))=false) →
 ((((decide ((x0.length:Int)≤(20:Int)))=true) →
 (∃ y11:Bool,
 (Need (E 52 [(.tv [] qt9 z2)] [] (.tv [] .bool y11) []) ∧
 (Q (.tv [] .bool y11) [])))) ∧
 (((decide ((x0.length:Int)≤(20:Int)))=false) →
 (Q (.tv [] .bool false) [])))))))))))):EvF PP orc 34 [.tv [] (.slice (.pair .str (.pair qt8 .unit))) x0] [] Q:=vc_of (by kernel_rfl) h
theorem vc35 (x0:List ((Int×(List qT0×Unit)))) (Q:AV→Heap→Prop) (h :
(∃ y0:(qT8→(Int→Prop)),
 (∃ y1:(qT8→(Int→Nat)),
 ((y0 [] (0:Int)) ∧
 (∀ z2:qT8,
 (∀ z3:Int,
 ((y0 z2 z3) →
 ((((decide (z3<(x0.length:Int)))=true) →
 (Need ((0≤z3)∧(z3<(x0.length:Int))) ∧
 ((((decide ((List.getD x0 z3.toNat ((0:Int),([],()))).1<(1:Int)))=true) →
 (Q (.tv [] .bool false) [])) ∧
 (((decide ((List.getD x0 z3.toNat ((0:Int),([],()))).1<(1:Int)))=false) →
 ((((decide ((3:Int)<(List.getD x0 z3.toNat ((0:Int),([],()))).1))=true) →
 (Q (.tv [] .bool false) [])) ∧
 (((decide ((3:Int)<(List.getD x0 z3.toNat ((0:Int),([],()))).1))=false) →
 ((((decide (((List.length (List.getD x0 z3.toNat ((0:Int),([],()))).2.1):Int)=(0:Int)))=true) →
 (Q (.tv [] .bool false) [])) ∧
 (((decide (((List.length (List.getD x0 z3.toNat ((0:Int),([],()))).2.1):Int)=(0:Int)))=false) →
 (Need ((z2.length+(List.length (List.getD x0 z3.toNat ((0:Int),([],()))).2.1))≤bigN) ∧
 (Need ((-9223372036854775808≤(z3+1))∧((z3+1)≤9223372036854775807)) ∧
 ((y0 (z2++(List.getD x0 z3.toNat ((0:Int),([],()))).2.1) (z3+1)) ∧
  Need ((y1 (z2++(List.getD x0 z3.toNat ((0:Int),([],()))).2.1) (z3+1))<(y1 z2 z3))))))))))))) ∧
 (((decide (z3<(x0.length:Int)))=false) →
 ((((decide ((x0.length:Int)≤(10:Int)))=true) →
 (∃ y14:Bool,
 (Need (E 52 [(.tv [] qt9 z2)] [] (.tv [] .bool y14) []) ∧
 (Q (.tv [] .bool y14) [])))) ∧
 (((decide ((x0.length:Int)≤(10:Int)))=false) →
 (Q (.tv [] .bool false) [])))))))))))):EvF PP orc 35 [.tv [] (.slice (.pair (.int .i64) (.pair qt9 .unit))) x0] [] Q:=vc_of (by kernel_rfl) h
theorem vc19 (x0_0:List ((List Int×((List Int×(List Int×(Bool×Unit)))×Unit)))) (x0_1:List ((List Int×(List Int×(Bool×Unit))))) (x0_2:List ((Int×(List qT0×Unit)))) (x0_3:List Int) (x0_4:List ((List Int×(List qT0×(List Int×(List Int×Unit)))))) (Q:AV→Heap→Prop) (h :
(∃ y0:Bool,
 (Need (E 34 [(.tv [] (.slice (.pair .str (.pair qt8 .unit))) x0_0)] [] (.tv [] .bool y0) []) ∧
 ((((!y0)=true) →
 (Q (.tv [] .bool false) [])) ∧
 (((!y0)=false) →
 (∃ y3:Bool,
 (Need (E 35 [(.tv [] (.slice (.pair (.int .i64) (.pair qt9 .unit))) x0_2)] [] (.tv [] .bool y3) []) ∧
 ((((!y3)=true) →
 (Q (.tv [] .bool false) [])) ∧
 (((!y3)=false) →
 ((((decide ((4:Int)<(x0_1.length:Int)))=true) →
 (Q (.tv [] .bool false) [])) ∧
 (((decide ((4:Int)<(x0_1.length:Int)))=false) →
 (∃ y8:Bool,
 (Need (E 36 [(.tv [] (.slice qt8) x0_1),(.fn 32 [] [])] [] (.tv [] .bool y8) []) ∧
 (((y8=true) →
 (Q (.tv [] .bool false) [])) ∧
 ((y8=false) →
 (∃ y11:Bool,
 (Need (E 37 [(.tv [] .str x0_3)] [] (.tv [] .bool y11) []) ∧
 (((y11=true) →
 ((((decide ((0:Int)<(x0_4.length:Int)))=true) →
 ((((decide ((x0_4.length:Int)≤(40:Int)))=true) →
 (∃ y15:Bool,
 (Need (E 38 [(.tv [] (.slice qt11) x0_4),(.fn 30 [] [])] [] (.tv [] .bool y15) []) ∧
 (Q (.tv [] .bool (!y15)) [])))) ∧
 (((decide ((x0_4.length:Int)≤(40:Int)))=false) →
 (Q (.tv [] .bool false) [])))) ∧
 (((decide ((0:Int)<(x0_4.length:Int)))=false) →
 (Q (.tv [] .bool false) [])))) ∧
 ((y11=false) →
 (Q (.tv [] .bool false) [])))))))))))))))))))):EvF PP orc 19 [.tv [] qt0 (x0_0,(x0_1,(x0_2,(x0_3,(x0_4,())))))] [] Q:=vc_of (by kernel_rfl) h
end Go.Am.D
