/-
  A part of the proof of a law: see the text that states it.
-/
import Derived.Test.YtggaihkjnomflaaGreatDoorHead
set_option linter.all false
namespace Go.Am.N
open Go
set_option maxRecDepth 100000
set_option maxHeartbeats 4000000
end Go.Am.N
namespace Go.Am.N
open Go
set_option maxRecDepth 100000
set_option maxHeartbeats 4000000
theorem u2Z (x0_0:List Int) (x0_1:List Int) (x0_2:Bool) (Q:AV→adZ→Prop) (h :(((!(decide (x0_0=[])))=true →
 (decide ((x0_0.length:Int)≤(32:Int))=true →
 (decide (x0_1=[])=true →
 Q (.tv [] .bool (!x0_2)) []) ∧
 (decide (x0_1=[])=false →
 Q (.tv [] .bool false) [])) ∧
 (decide ((x0_0.length:Int)≤(32:Int))=false →
 Q (.tv [] .bool false) [])) ∧
 ((!(decide (x0_0=[])))=false →
 ∃ y6:(Int→Prop),
 ∃ y7:(Int→Nat),
 y6 (1:Int) ∧
 ∀ z8:Int,
 y6 z8 →
 (decide (z8<(x0_1.length:Int))=true →
 Need (-9223372036854775808≤(z8-1)∧(z8-1)≤9223372036854775807) ∧
 Need ((0:Int)≤(z8-1)∧(z8-1)<(x0_1.length:Int)) ∧
 Need (0≤z8∧z8<(x0_1.length:Int)) ∧
 (decide ((List.getD x0_1 z8.toNat (0:Int))≤(List.getD x0_1 (Int.toNat (z8-1)) (0:Int)))=true →
 Q (.tv [] .bool false) []) ∧
 (decide ((List.getD x0_1 z8.toNat (0:Int))≤(List.getD x0_1 (Int.toNat (z8-1)) (0:Int)))=false →
 Need (-9223372036854775808≤z8+1∧z8+1≤9223372036854775807) ∧
 y6 (z8+1) ∧
  Need (y7 (z8+1)<y7 z8))) ∧
 (decide (z8<(x0_1.length:Int))=false →
 Q (.tv [] .bool (!(decide (x0_1=[])))) [])))):EvF PP orc 41 [.tv [] qt9 (x0_0,(x0_1,(x0_2,())))] [] Q:=aoZ (by kernel_rfl) h
theorem viZ (x0:List ((List Int×(List Int×(Bool×Unit))))) (Q:AV→adZ→Prop) (h :(∃ y0:Int,
 Need (E 65 [(.tv [] (.slice qt9) x0),(.fn (40:FuncId) [] [])] [] (.tv [] (.int .i64) y0) []) ∧
 Q (.tv [] .bool (decide (0≤y0))) [])):EvF PP orc 44 [.tv [] (.slice qt9) x0,.fn 40 [] []] [] Q:=aoZ (by kernel_rfl) h
theorem vqZ (x0:List ((List Int×(List Int×(Bool×Unit))))) (Q:AV→adZ→Prop) (h :(∃ y0:(Int→Prop),
 ∃ y1:(Int→Nat),
 y0 (0:Int) ∧
 ∀ z2:Int,
 y0 z2 →
 (decide (z2<(x0.length:Int))=true →
 Need (0≤z2∧z2<(x0.length:Int)) ∧
 ∃ y5:Bool,
 Need (E (40:FuncId) [(.tv [] qt9 (List.getD x0 z2.toNat ([],([],(false,())))))] [] (.tv [] .bool y5) []) ∧
 (y5=true →
 Q (.tv [] (.int .i64) z2) []) ∧
 (y5=false →
 Need (-9223372036854775808≤z2+1∧z2+1≤9223372036854775807) ∧
 y0 (z2+1) ∧
  Need (y1 (z2+1)<y1 z2))) ∧
 (decide (z2<(x0.length:Int))=false →
 Q (.tv [] (.int .i64) (-(1:Int))) []))):EvF PP orc 65 [.tv [] (.slice qt9) x0,.fn 40 [] []] [] Q:=aoZ (by kernel_rfl) h
theorem uQZ (x0:List ((List Int×(List qT0×(List Int×(List Int×Unit)))))) (Q:AV→adZ→Prop) (h :(∃ y0:Int,
 Need (E 67 [(.tv [] (.slice pDZ) x0),(.fn (38:FuncId) [] [])] [] (.tv [] (.int .i64) y0) []) ∧
 Q (.tv [] .bool (decide (0≤y0))) [])):EvF PP orc 46 [.tv [] (.slice pDZ) x0,.fn 38 [] []] [] Q:=aoZ (by kernel_rfl) h
theorem vUZ (x0:List ((List Int×(List qT0×(List Int×(List Int×Unit)))))) (Q:AV→adZ→Prop) (h :(∃ y0:(Int→Prop),
 ∃ y1:(Int→Nat),
 y0 (0:Int) ∧
 ∀ z2:Int,
 y0 z2 →
 (decide (z2<(x0.length:Int))=true →
 Need (0≤z2∧z2<(x0.length:Int)) ∧
 ∃ y5:Bool,
 Need (E (38:FuncId) [(.tv [] pDZ (List.getD x0 z2.toNat ([],([],([],([],()))))))] [] (.tv [] .bool y5) []) ∧
 (y5=true →
 Q (.tv [] (.int .i64) z2) []) ∧
 (y5=false →
 Need (-9223372036854775808≤z2+1∧z2+1≤9223372036854775807) ∧
 y0 (z2+1) ∧
  Need (y1 (z2+1)<y1 z2))) ∧
 (decide (z2<(x0.length:Int))=false →
 Q (.tv [] (.int .i64) (-(1:Int))) []))):EvF PP orc 67 [.tv [] (.slice pDZ) x0,.fn 38 [] []] [] Q:=aoZ (by kernel_rfl) h
theorem uOZ (x0:List qT0) (Q:AV→adZ→Prop) (h :(∃ y0:Int,
 Need (E 70 [(.tv [] bPZ x0),(.fn (61:FuncId) [] [])] [] (.tv [] (.int .i64) y0) []) ∧
 Q (.tv [] .bool (decide (0≤y0))) [])):EvF PP orc 62 [.tv [] bPZ x0,.fn 61 [] []] [] Q:=aoZ (by kernel_rfl) h
theorem vbZ (x0:List qT0) (Q:AV→adZ→Prop) (h :(∃ y0:(Int→Prop),
 ∃ y1:(Int→Nat),
 y0 (0:Int) ∧
 ∀ z2:Int,
 y0 z2 →
 (decide (z2<(x0.length:Int))=true →
 Need (0≤z2∧z2<(x0.length:Int)) ∧
 ∃ y5:Bool,
 Need (E (61:FuncId) [(.tv [] .str (List.getD x0 z2.toNat []))] [] (.tv [] .bool y5) []) ∧
 (y5=true →
 Q (.tv [] (.int .i64) z2) []) ∧
 (y5=false →
 Need (-9223372036854775808≤z2+1∧z2+1≤9223372036854775807) ∧
 y0 (z2+1) ∧
  Need (y1 (z2+1)<y1 z2))) ∧
 (decide (z2<(x0.length:Int))=false →
 Q (.tv [] (.int .i64) (-(1:Int))) []))):EvF PP orc 70 [.tv [] bPZ x0,.fn 61 [] []] [] Q:=aoZ (by kernel_rfl) h
theorem v6Z (x0:List Int) (Q:AV→adZ→Prop) (h :(∃ y0:Bool,
 Need (E 45 [(.tv [] .str x0)] [] (.tv [] .bool y0) []) ∧
 Q (.tv [] .bool (!y0)) [])):EvF PP orc 61 [.tv [] .str x0] [] Q:=aoZ (by kernel_rfl) h
theorem vMZ (x0_0:List Int) (x0_1:List qT0) (x0_2:List Int) (x0_3:List Int) (Q:AV→adZ→Prop) (h :(∃ y0:Bool,
 Need (E 39 [(.tv [] pDZ (x0_0,(x0_1,(x0_2,(x0_3,())))))] [] (.tv [] .bool y0) []) ∧
 Q (.tv [] .bool (!y0)) [])):EvF PP orc 38 [.tv [] pDZ (x0_0,(x0_1,(x0_2,(x0_3,()))))] [] Q:=aoZ (by kernel_rfl) h
theorem voZ (x0_0:List Int) (x0_1:List Int) (x0_2:Bool) (Q:AV→adZ→Prop) (h :(∃ y0:Bool,
 Need (E 41 [(.tv [] qt9 (x0_0,(x0_1,(x0_2,()))))] [] (.tv [] .bool y0) []) ∧
 Q (.tv [] .bool (!y0)) [])):EvF PP orc 40 [.tv [] qt9 (x0_0,(x0_1,(x0_2,())))] [] Q:=aoZ (by kernel_rfl) h
theorem vzZ (x0:List Int) (Q:AV→adZ→Prop) (h :((decide ((x0.length:Int)≤(32:Int))=true →
 ∃ y1:Bool,
 Need (E 66 [(.tv [] .str x0)] [] (.tv [] .bool y1) []) ∧
 Q (.tv [] .bool y1) []) ∧
 (decide ((x0.length:Int)≤(32:Int))=false →
 Q (.tv [] .bool false) []))):EvF PP orc 45 [.tv [] .str x0] [] Q:=aoZ (by kernel_rfl) h
theorem uWZ (x0_0:List Int) (x0_1:List qT0) (x0_2:List Int) (x0_3:List Int) (Q:AV→adZ→Prop) (h :(∃ y0:Bool,
 Need (E 45 [(.tv [] .str x0_0)] [] (.tv [] .bool y0) []) ∧
 (y0=true →
 (decide ((x0_1.length:Int)≤(8:Int))=true →
 ∃ y3:Bool,
 Need (E 62 [(.tv [] bPZ x0_1),(.fn 61 [] [])] [] (.tv [] .bool y3) []) ∧
 ((!y3)=true →
 (decide (x0_2=[])=true →
 ∃ y6:Bool,
 Need (E 63 [(.tv [] .str x0_3)] [] (.tv [] .bool y6) []) ∧
 Q (.tv [] .bool y6) []) ∧
 (decide (x0_2=[])=false →
 ∃ y8:Bool,
 Need (E 45 [(.tv [] .str x0_2)] [] (.tv [] .bool y8) []) ∧
 (y8=true →
 ∃ y10:Bool,
 Need (E 63 [(.tv [] .str x0_3)] [] (.tv [] .bool y10) []) ∧
 Q (.tv [] .bool y10) []) ∧
 (y8=false →
 Q (.tv [] .bool false) []))) ∧
 ((!y3)=false →
 Q (.tv [] .bool false) [])) ∧
 (decide ((x0_1.length:Int)≤(8:Int))=false →
 Q (.tv [] .bool false) [])) ∧
 (y0=false →
 Q (.tv [] .bool false) []))):EvF PP orc 39 [.tv [] pDZ (x0_0,(x0_1,(x0_2,(x0_3,()))))] [] Q:=aoZ (by kernel_rfl) h
theorem vkZ (x0:List Int) (Q:AV→adZ→Prop) (h :((decide ((200:Int)<(x0.length:Int))=true →
 Q (.tv [] .bool false) []) ∧
 (decide ((200:Int)<(x0.length:Int))=false →
 Need ((1+x0.length)≤awZ) ∧
 Need ((List.length ([(123:Int)]++x0))+1≤awZ) ∧
 ∃ y2:qT2,
 ∃ y3 y4 y5:Int,
 Need (E 34 [(.tv [] .str (([(123:Int)]++x0)++[(125:Int)]))] [] (.tup [(.tv [] qt5 y2),(.tv [] qt3 (y3,((y4,(y5,())),())))]) []) ∧
 (decide (y3=(0:Int))=true →
 (decide ((y2.length:Int)=(2:Int))=true →
 Need ((0:Int)≤(0:Int)∧(0:Int)<(y2.length:Int)) ∧
 Q (.tv [] .bool (decide ((List.getD y2 0 ((0:Int),([],(((0:Int),((0:Int),())),())))).2.1=x0))) []) ∧
 (decide ((y2.length:Int)=(2:Int))=false →
 Q (.tv [] .bool false) [])) ∧
 (decide (y3=(0:Int))=false →
 Q (.tv [] .bool false) [])))):EvF PP orc 63 [.tv [] .str x0] [] Q:=aoZ (by kernel_rfl) h
theorem vLZ (x0:List qT0) (Q:AV→adZ→Prop) (h :(∃ y0:(Int→Prop),
 ∃ y1:(Int→Nat),
 y0 (0:Int) ∧
 ∀ z2:Int,
 y0 z2 →
 (decide (z2<(x0.length:Int))=true →
 Need (0≤z2∧z2<(x0.length:Int)) ∧
 ∃ y5:Bool,
 Need (E 45 [(.tv [] .str (List.getD x0 z2.toNat []))] [] (.tv [] .bool y5) []) ∧
 ((!y5)=true →
 Q (.tv [] .bool false) []) ∧
 ((!y5)=false →
 Need ((0:Int)≤(0:Int)∧0≤z2∧z2≤(x0.length:Int)) ∧
 ∃ y8:Bool,
 Need (E 25 [(.tv [] bPZ (cut x0 0 z2.toNat)),(.tv [] .str (List.getD x0 z2.toNat []))] [] (.tv [] .bool y8) []) ∧
 (y8=true →
 Q (.tv [] .bool false) []) ∧
 (y8=false →
 Need (-9223372036854775808≤z2+1∧z2+1≤9223372036854775807) ∧
 y0 (z2+1) ∧
  Need (y1 (z2+1)<y1 z2)))) ∧
 (decide (z2<(x0.length:Int))=false →
 Q (.tv [] .bool true) []))):EvF PP orc 64 [.tv [] bPZ x0] [] Q:=aoZ (by kernel_rfl) h
theorem vdZ (x0:List ((List Int×((List Int×(List Int×(Bool×Unit)))×Unit)))) (Q:AV→adZ→Prop) (h :(∃ y0:(qT8→Int→Prop),
 ∃ y1:(qT8→Int→Nat),
 y0 [] (0:Int) ∧
 ∀ z2:qT8,
 ∀ z3:Int,
 y0 z2 z3 →
 (decide (z3<(x0.length:Int))=true →
 Need (0≤z3∧z3<(x0.length:Int)) ∧
 ∃ y6:Bool,
 Need (E 41 [(.tv [] qt9 (List.getD x0 z3.toNat (([]:List Int),(([],([],(false,()))),()))).2.1)] [] (.tv [] .bool y6) []) ∧
 ((!y6)=true →
 Q (.tv [] .bool false) []) ∧
 ((!y6)=false →
 Need ((z2.length+(List.length [(List.getD x0 z3.toNat (([]:List Int),(([],([],(false,()))),()))).1]))≤awZ) ∧
 Need (-9223372036854775808≤z3+1∧z3+1≤9223372036854775807) ∧
 y0 (z2++[(List.getD x0 z3.toNat (([]:List Int),(([],([],(false,()))),()))).1]) (z3+1) ∧
  Need (y1 (z2++[(List.getD x0 z3.toNat (([]:List Int),(([],([],(false,()))),()))).1]) (z3+1)<y1 z2 z3))) ∧
 (decide (z3<(x0.length:Int))=false →
 (decide ((x0.length:Int)≤(20:Int))=true →
 ∃ y11:Bool,
 Need (E 64 [(.tv [] bPZ z2)] [] (.tv [] .bool y11) []) ∧
 Q (.tv [] .bool y11) []) ∧
 (decide ((x0.length:Int)≤(20:Int))=false →
 Q (.tv [] .bool false) [])))):EvF PP orc 42 [.tv [] (.slice (.pair .str (.pair qt9 .unit))) x0] [] Q:=aoZ (by kernel_rfl) h
theorem v8Z (x0:List ((Int×(List qT0×Unit)))) (Q:AV→adZ→Prop) (h :(∃ y0:(qT8→Int→Prop),
 ∃ y1:(qT8→Int→Nat),
 y0 [] (0:Int) ∧
 ∀ z2:qT8,
 ∀ z3:Int,
 y0 z2 z3 →
 (decide (z3<(x0.length:Int))=true →
 Need (0≤z3∧z3<(x0.length:Int)) ∧
 (decide ((List.getD x0 z3.toNat ((0:Int),([],()))).1<(1:Int))=true →
 Q (.tv [] .bool false) []) ∧
 (decide ((List.getD x0 z3.toNat ((0:Int),([],()))).1<(1:Int))=false →
 (decide ((3:Int)<(List.getD x0 z3.toNat ((0:Int),([],()))).1)=true →
 Q (.tv [] .bool false) []) ∧
 (decide ((3:Int)<(List.getD x0 z3.toNat ((0:Int),([],()))).1)=false →
 (decide (((List.length (List.getD x0 z3.toNat ((0:Int),([],()))).2.1):Int)=(0:Int))=true →
 Q (.tv [] .bool false) []) ∧
 (decide (((List.length (List.getD x0 z3.toNat ((0:Int),([],()))).2.1):Int)=(0:Int))=false →
 Need ((z2.length+(List.length (List.getD x0 z3.toNat ((0:Int),([],()))).2.1))≤awZ) ∧
 Need (-9223372036854775808≤z3+1∧z3+1≤9223372036854775807) ∧
 y0 (z2++(List.getD x0 z3.toNat ((0:Int),([],()))).2.1) (z3+1) ∧
  Need (y1 (z2++(List.getD x0 z3.toNat ((0:Int),([],()))).2.1) (z3+1)<y1 z2 z3))))) ∧
 (decide (z3<(x0.length:Int))=false →
 (decide ((x0.length:Int)≤(10:Int))=true →
 ∃ y14:Bool,
 Need (E 64 [(.tv [] bPZ z2)] [] (.tv [] .bool y14) []) ∧
 Q (.tv [] .bool y14) []) ∧
 (decide ((x0.length:Int)≤(10:Int))=false →
 Q (.tv [] .bool false) [])))):EvF PP orc 43 [.tv [] (.slice (.pair (.int .i64) (.pair bPZ .unit))) x0] [] Q:=aoZ (by kernel_rfl) h
theorem u9Z (x0_0:List ((List Int×((List Int×(List Int×(Bool×Unit)))×Unit)))) (x0_1:List ((List Int×(List Int×(Bool×Unit))))) (x0_2:List ((Int×(List qT0×Unit)))) (x0_3:List Int) (x0_4:List ((List Int×(List qT0×(List Int×(List Int×Unit)))))) (Q:AV→adZ→Prop) (h :(∃ y0:Bool,
 Need (E 42 [(.tv [] (.slice (.pair .str (.pair qt9 .unit))) x0_0)] [] (.tv [] .bool y0) []) ∧
 ((!y0)=true →
 Q (.tv [] .bool false) []) ∧
 ((!y0)=false →
 ∃ y3:Bool,
 Need (E 43 [(.tv [] (.slice (.pair (.int .i64) (.pair bPZ .unit))) x0_2)] [] (.tv [] .bool y3) []) ∧
 ((!y3)=true →
 Q (.tv [] .bool false) []) ∧
 ((!y3)=false →
 (decide ((4:Int)<(x0_1.length:Int))=true →
 Q (.tv [] .bool false) []) ∧
 (decide ((4:Int)<(x0_1.length:Int))=false →
 ∃ y8:Bool,
 Need (E 44 [(.tv [] (.slice qt9) x0_1),(.fn 40 [] [])] [] (.tv [] .bool y8) []) ∧
 (y8=true →
 Q (.tv [] .bool false) []) ∧
 (y8=false →
 ∃ y11:Bool,
 Need (E 45 [(.tv [] .str x0_3)] [] (.tv [] .bool y11) []) ∧
 (y11=true →
 (decide ((0:Int)<(x0_4.length:Int))=true →
 (decide ((x0_4.length:Int)≤(40:Int))=true →
 ∃ y15:Bool,
 Need (E 46 [(.tv [] (.slice pDZ) x0_4),(.fn 38 [] [])] [] (.tv [] .bool y15) []) ∧
 Q (.tv [] .bool (!y15)) []) ∧
 (decide ((x0_4.length:Int)≤(40:Int))=false →
 Q (.tv [] .bool false) [])) ∧
 (decide ((0:Int)<(x0_4.length:Int))=false →
 Q (.tv [] .bool false) [])) ∧
 (y11=false →
 Q (.tv [] .bool false) []))))))):EvF PP orc 21 [.tv [] qt0 (x0_0,(x0_1,(x0_2,(x0_3,(x0_4,())))))] [] Q:=aoZ (by kernel_rfl) h
end Go.Am.N
namespace Go.Am.N
open Go
set_option maxRecDepth 100000
set_option maxHeartbeats 4000000
theorem vGZ (x0:List Int) (Q:AV→adZ→Prop) (h :((decide ((x0.length:Int)≤(32:Int))=true →
 ∃ y1:Bool,
 Need (E 71 [(.tv [] .str x0)] [] (.tv [] .bool y1) []) ∧
 Q (.tv [] .bool y1) []) ∧
 (decide ((x0.length:Int)≤(32:Int))=false →
 Q (.tv [] .bool false) []))):EvF PP orc 51 [.tv [] .str x0] [] Q:=aoZ (by kernel_rfl) h
theorem vsZ (x0_0:List Int) (x0_1:List Int) (x0_2:Bool) (Q:AV→adZ→Prop) (h :(((!(decide (x0_0=[])))=true →
 (decide ((x0_0.length:Int)≤(32:Int))=true →
 (decide (x0_1=[])=true →
 Q (.tv [] .bool (!x0_2)) []) ∧
 (decide (x0_1=[])=false →
 Q (.tv [] .bool false) [])) ∧
 (decide ((x0_0.length:Int)≤(32:Int))=false →
 Q (.tv [] .bool false) [])) ∧
 ((!(decide (x0_0=[])))=false →
 ∃ y6:(Int→Prop),
 ∃ y7:(Int→Nat),
 y6 (1:Int) ∧
 ∀ z8:Int,
 y6 z8 →
 (decide (z8<(x0_1.length:Int))=true →
 Need (0≤z8∧z8<(x0_1.length:Int)) ∧
 Need (-9223372036854775808≤(z8-1)∧(z8-1)≤9223372036854775807) ∧
 Need ((0:Int)≤(z8-1)∧(z8-1)<(x0_1.length:Int)) ∧
 (decide ((List.getD x0_1 z8.toNat (0:Int))≤(List.getD x0_1 (Int.toNat (z8-1)) (0:Int)))=true →
 Q (.tv [] .bool false) []) ∧
 (decide ((List.getD x0_1 z8.toNat (0:Int))≤(List.getD x0_1 (Int.toNat (z8-1)) (0:Int)))=false →
 Need (-9223372036854775808≤z8+1∧z8+1≤9223372036854775807) ∧
 y6 (z8+1) ∧
  Need (y7 (z8+1)<y7 z8))) ∧
 (decide (z8<(x0_1.length:Int))=false →
 Q (.tv [] .bool (!(decide (x0_1=[])))) [])))):EvF PP orc 52 [.tv [] qt9 (x0_0,(x0_1,(x0_2,())))] [] Q:=aoZ (by kernel_rfl) h
theorem u5Z (x0:List Int) (Q:AV→adZ→Prop) (h :((decide ((200:Int)<(x0.length:Int))=true →
 Q (.tv [] .bool false) []) ∧
 (decide ((200:Int)<(x0.length:Int))=false →
 ∃ y2:(Int→Int→Prop),
 ∃ y3:(Int→Int→Nat),
 y2 (1:Int) (0:Int) ∧
 ∀ z4 z5:Int,
 y2 z4 z5 →
 (decide (z5<(x0.length:Int))=true →
 Need (0≤z5∧z5<(x0.length:Int)) ∧
 (decide ((List.getD x0 z5.toNat (0:Int))=(123:Int))=true →
 Need (-9223372036854775808≤z4+1∧z4+1≤9223372036854775807) ∧
 Need (0≤z5∧z5<(x0.length:Int)) ∧
 (decide ((List.getD x0 z5.toNat (0:Int))=(125:Int))=true →
 Need (-9223372036854775808≤((z4+1)-(1:Int))∧((z4+1)-(1:Int))≤9223372036854775807) ∧
 (decide ((4:Int)<((z4+1)-(1:Int)))=true →
 Q (.tv [] .bool false) []) ∧
 (decide ((4:Int)<((z4+1)-(1:Int)))=false →
 (decide (((z4+1)-(1:Int))=(0:Int))=true →
 Q (.tv [] .bool false) []) ∧
 (decide (((z4+1)-(1:Int))=(0:Int))=false →
 Need (-9223372036854775808≤z5+1∧z5+1≤9223372036854775807) ∧
 y2 ((z4 + 1) - (1 : Int)) (z5 + 1) ∧
    Need (y3 ((z4+1)-(1:Int)) (z5+1)<y3 z4 z5)))) ∧
 (decide ((List.getD x0 z5.toNat (0:Int))=(125:Int))=false →
 (decide ((4:Int)<z4+1)=true →
 Q (.tv [] .bool false) []) ∧
 (decide ((4:Int)<z4+1)=false →
 (decide (z4+1=(0:Int))=true →
 Q (.tv [] .bool false) []) ∧
 (decide (z4+1=(0:Int))=false →
 Need (-9223372036854775808≤z5+1∧z5+1≤9223372036854775807) ∧
 y2 (z4+1) (z5+1) ∧
   Need (y3 (z4+1) (z5+1)<y3 z4 z5))))) ∧
 (decide ((List.getD x0 z5.toNat (0:Int))=(123:Int))=false →
 Need (0≤z5∧z5<(x0.length:Int)) ∧
 (decide ((List.getD x0 z5.toNat (0:Int))=(125:Int))=true →
 Need (-9223372036854775808≤(z4-1)∧(z4-1)≤9223372036854775807) ∧
 (decide ((4:Int)<(z4-1))=true →
 Q (.tv [] .bool false) []) ∧
 (decide ((4:Int)<(z4-1))=false →
 (decide ((z4-1)=(0:Int))=true →
 Q (.tv [] .bool false) []) ∧
 (decide ((z4-1)=(0:Int))=false →
 Need (-9223372036854775808≤z5+1∧z5+1≤9223372036854775807) ∧
 y2 (z4-1) (z5+1) ∧
   Need (y3 (z4-1) (z5+1)<y3 z4 z5)))) ∧
 (decide ((List.getD x0 z5.toNat (0:Int))=(125:Int))=false →
 (decide (4<z4)=true →
 Q (.tv [] .bool false) []) ∧
 (decide (4<z4)=false →
 (decide (z4=(0:Int))=true →
 Q (.tv [] .bool false) []) ∧
 (decide (z4=(0:Int))=false →
 Need (-9223372036854775808≤z5+1∧z5+1≤9223372036854775807) ∧
 y2 z4 (z5+1) ∧
  Need (y3 z4 (z5+1)<y3 z4 z5)))))) ∧
 (decide (z5<(x0.length:Int))=false →
 Q (.tv [] .bool (decide (z4=(1:Int)))) [])))):EvF PP orc 53 [.tv [] .str x0] [] Q:=aoZ (by kernel_rfl) h
theorem vNZ (x0:List qT0) (Q:AV→adZ→Prop) (h :(∃ y0:(Int→Prop),
 ∃ y1:(Int→Nat),
 y0 (0:Int) ∧
 ∀ z2:Int,
 y0 z2 →
 (decide (z2<(x0.length:Int))=true →
 Need (0≤z2∧z2<(x0.length:Int)) ∧
 ∃ y5:Bool,
 Need (E 51 [(.tv [] .str (List.getD x0 z2.toNat []))] [] (.tv [] .bool y5) []) ∧
 ((!y5)=true →
 Q (.tv [] .bool false) []) ∧
 ((!y5)=false →
 ∃ y8:(Int→Prop),
 ∃ y9:(Int→Nat),
 y8 (0:Int) ∧
 ∀ z10:Int,
 y8 z10 →
 (decide (z10<z2)=true →
 Need (0≤z10∧z10<(x0.length:Int)) ∧
 Need (0≤z2∧z2<(x0.length:Int)) ∧
 (decide ((List.getD x0 z10.toNat [])=(List.getD x0 z2.toNat []))=true →
 Q (.tv [] .bool false) []) ∧
 (decide ((List.getD x0 z10.toNat [])=(List.getD x0 z2.toNat []))=false →
 Need (-9223372036854775808≤z10+1∧z10+1≤9223372036854775807) ∧
 y8 (z10+1) ∧
   Need (y9 (z10+1)<y9 z10))) ∧
 (decide (z10<z2)=false →
 Need (-9223372036854775808≤z2+1∧z2+1≤9223372036854775807) ∧
 y0 (z2+1) ∧
  Need (y1 (z2+1)<y1 z2)))) ∧
 (decide (z2<(x0.length:Int))=false →
 Q (.tv [] .bool true) []))):EvF PP orc 54 [.tv [] bPZ x0] [] Q:=aoZ (by kernel_rfl) h
theorem vlZ (x0:List Int) (Q:AV→adZ→Prop) (h :(∃ y0:(Int→Prop),
 ∃ y1:(Int→Nat),
 y0 (0:Int) ∧
 ∀ z2:Int,
 y0 z2 →
 (decide (z2<(x0.length:Int))=true →
 Need (0≤z2∧z2<(x0.length:Int)) ∧
 ∃ y5:Bool,
 Need (E 89 [(.tv [] (.int .u8) (List.getD x0 z2.toNat (0:Int)))] [] (.tv [] .bool y5) []) ∧
 ((!y5)=true →
 (decide (z2=(0:Int))=true →
 Q (.tv [] .bool false) []) ∧
 (decide (z2=(0:Int))=false →
 Need (0≤z2∧z2<(x0.length:Int)) ∧
 ∃ y9:Bool,
 Need (E 90 [(.tv [] (.int .u8) (List.getD x0 z2.toNat (0:Int)))] [] (.tv [] .bool y9) []) ∧
 ((!y9)=true →
 Q (.tv [] .bool false) []) ∧
 ((!y9)=false →
 Need (-9223372036854775808≤z2+1∧z2+1≤9223372036854775807) ∧
 y0 (z2+1) ∧
   Need (y1 (z2+1)<y1 z2)))) ∧
 ((!y5)=false →
 Need (-9223372036854775808≤z2+1∧z2+1≤9223372036854775807) ∧
 y0 (z2+1) ∧
  Need (y1 (z2+1)<y1 z2))) ∧
 (decide (z2<(x0.length:Int))=false →
 Q (.tv [] .bool (!(decide (x0=[])))) []))):EvF PP orc 71 [.tv [] .str x0] [] Q:=aoZ (by kernel_rfl) h
theorem vuZ (x0:Int) (Q:AV→adZ→Prop) (h :((decide (x0=(95:Int))=true →
 Q (.tv [] .bool true) []) ∧
 (decide (x0=(95:Int))=false →
 (decide (97≤x0)=true →
 (decide (x0≤122)=true →
 Q (.tv [] .bool true) []) ∧
 (decide (x0≤122)=false →
 (decide (65≤x0)=true →
 Q (.tv [] .bool (decide (x0≤90))) []) ∧
 (decide (65≤x0)=false →
 Q (.tv [] .bool false) []))) ∧
 (decide (97≤x0)=false →
 (decide (65≤x0)=true →
 Q (.tv [] .bool (decide (x0≤90))) []) ∧
 (decide (65≤x0)=false →
 Q (.tv [] .bool false) []))))):EvF PP orc 89 [.tv [] (.int .u8) x0] [] Q:=aoZ (by kernel_rfl) h
theorem waZ (x0:Int) (Q:AV→adZ→Prop) (h :((decide (48≤x0)=true →
 Q (.tv [] .bool (decide (x0≤57))) []) ∧
 (decide (48≤x0)=false →
 Q (.tv [] .bool false) []))):EvF PP orc 90 [.tv [] (.int .u8) x0] [] Q:=aoZ (by kernel_rfl) h
end Go.Am.N
namespace Go.Am.N
open Go
set_option maxRecDepth 100000
set_option maxHeartbeats 4000000
theorem vSZ (x0_0:List ((List Int×((List Int×(List Int×(Bool×Unit)))×Unit)))) (x0_1:List ((List Int×(List Int×(Bool×Unit))))) (x0_2:List ((Int×(List qT0×Unit)))) (x0_3:List Int) (x0_4:List ((List Int×(List qT0×(List Int×(List Int×Unit)))))) (Q:AV→adZ→Prop) (h :((decide ((20:Int)<(x0_0.length:Int))=true →
 Q (.tv [] .bool false) []) ∧
 (decide ((20:Int)<(x0_0.length:Int))=false →
 (decide ((4:Int)<(x0_1.length:Int))=true →
 Q (.tv [] .bool false) []) ∧
 (decide ((4:Int)<(x0_1.length:Int))=false →
 (decide ((10:Int)<(x0_2.length:Int))=true →
 Q (.tv [] .bool false) []) ∧
 (decide ((10:Int)<(x0_2.length:Int))=false →
 (decide ((x0_4.length:Int)<(1:Int))=true →
 Q (.tv [] .bool false) []) ∧
 (decide ((x0_4.length:Int)<(1:Int))=false →
 (decide ((40:Int)<(x0_4.length:Int))=true →
 Q (.tv [] .bool false) []) ∧
 (decide ((40:Int)<(x0_4.length:Int))=false →
 ∃ y10:Bool,
 Need (E 51 [(.tv [] .str x0_3)] [] (.tv [] .bool y10) []) ∧
 ((!y10)=true →
 Q (.tv [] .bool false) []) ∧
 ((!y10)=false →
 ∃ y13:(qT8→Int→Prop),
 ∃ y14:(qT8→Int→Nat),
 y13 [] (0:Int) ∧
 ∀ z15:qT8,
 ∀ z16:Int,
 y13 z15 z16 →
 (decide (z16<(x0_0.length:Int))=true →
 Need (0≤z16∧z16<(x0_0.length:Int)) ∧
 Need ((z15.length+(List.length [(List.getD x0_0 z16.toNat (([]:List Int),(([],([],(false,()))),()))).1]))≤awZ) ∧
 Need (0≤z16∧z16<(x0_0.length:Int)) ∧
 ∃ y19:Bool,
 Need (E 52 [(.tv [] qt9 (List.getD x0_0 z16.toNat (([]:List Int),(([],([],(false,()))),()))).2.1)] [] (.tv [] .bool y19) []) ∧
 ((!y19)=true →
 Q (.tv [] .bool false) []) ∧
 ((!y19)=false →
 Need (-9223372036854775808≤z16+1∧z16+1≤9223372036854775807) ∧
 y13 (z15++[(List.getD x0_0 z16.toNat (([]:List Int),(([],([],(false,()))),()))).1]) (z16+1) ∧
  Need (y14 (z15++[(List.getD x0_0 z16.toNat (([]:List Int),(([],([],(false,()))),()))).1]) (z16+1)<y14 z15 z16))) ∧
 (decide (z16<(x0_0.length:Int))=false →
 ∃ y23:(Int→Prop),
 ∃ y24:(Int→Nat),
 y23 (0:Int) ∧
 ∀ z25:Int,
 y23 z25 →
 (decide (z25<(x0_1.length:Int))=true →
 Need (0≤z25∧z25<(x0_1.length:Int)) ∧
 ∃ y28:Bool,
 Need (E 52 [(.tv [] qt9 (List.getD x0_1 z25.toNat ([],([],(false,())))))] [] (.tv [] .bool y28) []) ∧
 ((!y28)=true →
 Q (.tv [] .bool false) []) ∧
 ((!y28)=false →
 Need (-9223372036854775808≤z25+1∧z25+1≤9223372036854775807) ∧
 y23 (z25+1) ∧
  Need (y24 (z25+1)<y24 z25))) ∧
 (decide (z25<(x0_1.length:Int))=false →
 ∃ y32:(qT8→Int→Prop),
 ∃ y33:(qT8→Int→Nat),
 y32 [] (0:Int) ∧
 ∀ z34:qT8,
 ∀ z35:Int,
 y32 z34 z35 →
 (decide (z35<(x0_2.length:Int))=true →
 Need (0≤z35∧z35<(x0_2.length:Int)) ∧
 Need ((z34.length+(List.length (List.getD x0_2 z35.toNat ((0:Int),([],()))).2.1))≤awZ) ∧
 (decide ((List.getD x0_2 z35.toNat ((0:Int),([],()))).1<(1:Int))=true →
 Q (.tv [] .bool false) []) ∧
 (decide ((List.getD x0_2 z35.toNat ((0:Int),([],()))).1<(1:Int))=false →
 (decide ((3:Int)<(List.getD x0_2 z35.toNat ((0:Int),([],()))).1)=true →
 Q (.tv [] .bool false) []) ∧
 (decide ((3:Int)<(List.getD x0_2 z35.toNat ((0:Int),([],()))).1)=false →
 (decide (((List.length (List.getD x0_2 z35.toNat ((0:Int),([],()))).2.1):Int)=(0:Int))=true →
 Q (.tv [] .bool false) []) ∧
 (decide (((List.length (List.getD x0_2 z35.toNat ((0:Int),([],()))).2.1):Int)=(0:Int))=false →
 Need (-9223372036854775808≤z35+1∧z35+1≤9223372036854775807) ∧
 y32 (z34++(List.getD x0_2 z35.toNat ((0:Int),([],()))).2.1) (z35+1) ∧
  Need (y33 (z34++(List.getD x0_2 z35.toNat ((0:Int),([],()))).2.1) (z35+1)<y33 z34 z35))))) ∧
 (decide (z35<(x0_2.length:Int))=false →
 ∃ y45:(Int→Prop),
 ∃ y46:(Int→Nat),
 y45 (0:Int) ∧
 ∀ z47:Int,
 y45 z47 →
 (decide (z47<(x0_4.length:Int))=true →
 Need (0≤z47∧z47<(x0_4.length:Int)) ∧
 ∃ y50:Bool,
 Need (E 51 [(.tv [] .str (List.getD x0_4 z47.toNat ([],([],([],([],()))))).1)] [] (.tv [] .bool y50) []) ∧
 ((!y50)=true →
 Q (.tv [] .bool false) []) ∧
 ((!y50)=false →
 (decide ((8:Int)<((List.length (List.getD x0_4 z47.toNat ([],([],([],([],()))))).2.1):Int))=true →
 Q (.tv [] .bool false) []) ∧
 (decide ((8:Int)<((List.length (List.getD x0_4 z47.toNat ([],([],([],([],()))))).2.1):Int))=false →
 ((!(decide ((List.getD x0_4 z47.toNat ([],([],([],([],()))))).2.2.1=[])))=true →
 ∃ y56:Bool,
 Need (E 51 [(.tv [] .str (List.getD x0_4 z47.toNat ([],([],([],([],()))))).2.2.1)] [] (.tv [] .bool y56) []) ∧
 ((!y56)=true →
 Q (.tv [] .bool false) []) ∧
 ((!y56)=false →
 ∃ y59:Bool,
 Need (E 53 [(.tv [] .str (List.getD x0_4 z47.toNat ([],([],([],([],()))))).2.2.2.1)] [] (.tv [] .bool y59) []) ∧
 ((!y59)=true →
 Q (.tv [] .bool false) []) ∧
 ((!y59)=false →
 ∃ y62:(Int→qT0→qT8→qT0→qT0→Prop),
 ∃ y63:(Int→qT0→qT8→qT0→qT0→Nat),
 (y62 (0:Int) (List.getD x0_4 z47.toNat ([],([],([],([],()))))).1 (List.getD x0_4 z47.toNat ([],([],([],([],()))))).2.1 (List.getD x0_4 z47.toNat ([],([],([],([],()))))).2.2.1 (List.getD x0_4 z47.toNat ([],([],([],([],()))))).2.2.2.1) ∧
 ∀ z64:Int,
 ∀ z65:qT0,
 ∀ z66:qT8,
 ∀ z67 z68:qT0,
 y62 z64 z65 z66 z67 z68 →
 (decide (z64<(z66.length:Int))=true →
 Need (0≤z64∧z64<(z66.length:Int)) ∧
 ∃ y71:Bool,
 Need (E 51 [(.tv [] .str (List.getD z66 z64.toNat []))] [] (.tv [] .bool y71) []) ∧
 ((!y71)=true →
 Q (.tv [] .bool false) []) ∧
 ((!y71)=false →
 Need (-9223372036854775808≤z64+1∧z64+1≤9223372036854775807) ∧
 y62 (z64 + 1) z65 z66 z67 z68 ∧
    Need (y63 (z64+1) z65 z66 z67 z68<y63 z64 z65 z66 z67 z68))) ∧
 (decide (z64<(z66.length:Int))=false →
 Need (-9223372036854775808≤z47+1∧z47+1≤9223372036854775807) ∧
 y45 (z47+1) ∧
   Need (y46 (z47+1)<y46 z47))))) ∧
 ((!(decide ((List.getD x0_4 z47.toNat ([],([],([],([],()))))).2.2.1=[])))=false →
 ∃ y76:Bool,
 Need (E 53 [(.tv [] .str (List.getD x0_4 z47.toNat ([],([],([],([],()))))).2.2.2.1)] [] (.tv [] .bool y76) []) ∧
 ((!y76)=true →
 Q (.tv [] .bool false) []) ∧
 ((!y76)=false →
 ∃ y79:(Int→qT0→qT8→qT0→qT0→Prop),
 ∃ y80:(Int→qT0→qT8→qT0→qT0→Nat),
 (y79 (0:Int) (List.getD x0_4 z47.toNat ([],([],([],([],()))))).1 (List.getD x0_4 z47.toNat ([],([],([],([],()))))).2.1 (List.getD x0_4 z47.toNat ([],([],([],([],()))))).2.2.1 (List.getD x0_4 z47.toNat ([],([],([],([],()))))).2.2.2.1) ∧
 ∀ z81:Int,
 ∀ z82:qT0,
 ∀ z83:qT8,
 ∀ z84 z85:qT0,
 y79 z81 z82 z83 z84 z85 →
 (decide (z81<(z83.length:Int))=true →
 Need (0≤z81∧z81<(z83.length:Int)) ∧
 ∃ y88:Bool,
 Need (E 51 [(.tv [] .str (List.getD z83 z81.toNat []))] [] (.tv [] .bool y88) []) ∧
 ((!y88)=true →
 Q (.tv [] .bool false) []) ∧
 ((!y88)=false →
 Need (-9223372036854775808≤z81+1∧z81+1≤9223372036854775807) ∧
 y79 (z81+1) z82 z83 z84 z85 ∧
   Need (y80 (z81+1) z82 z83 z84 z85<y80 z81 z82 z83 z84 z85))) ∧
 (decide (z81<(z83.length:Int))=false →
 Need (-9223372036854775808≤z47+1∧z47+1≤9223372036854775807) ∧
 y45 (z47+1) ∧
  Need (y46 (z47+1)<y46 z47))))))) ∧
 (decide (z47<(x0_4.length:Int))=false →
 ∃ y93:Bool,
 Need (E 54 [(.tv [] bPZ z15)] [] (.tv [] .bool y93) []) ∧
 (y93=true →
 ∃ y95:Bool,
 Need (E 54 [(.tv [] bPZ z34)] [] (.tv [] .bool y95) []) ∧
 Q (.tv [] .bool y95) []) ∧
 (y93=false →
 Q (.tv [] .bool false) []))))))))))))):EvF PP orc 28 [.tv [] qt0 (x0_0,(x0_1,(x0_2,(x0_3,(x0_4,())))))] [] Q:=aoZ (by kernel_rfl) h
end Go.Am.N
