/-
  A part of the proof of a law: see the text that states it.
-/
import Derived.Test.YtggaihkjnomflaaDoorHead
set_option linter.all false
namespace Go.Am.D
open Go
set_option maxRecDepth 100000
set_option maxHeartbeats 4000000
theorem vc22 (x0_0:List Int) (x0_1_0:List Int) (x0_1_1:List Int) (x0_1_2:Bool) (o0_0:List qT0) (o0_1:List qT0) (o0_2:List ((Int×(List (Int)×(Int×Unit))))) (o0_3:List (Int)) (o0_4:List (Int)) (o0_5:List qT0) (Q:AV→Heap→Prop) (h :
(∃ y0:Bool,
 (Need (E 23 [(.tv [] qt9 o0_1),(.tv [] .str x0_0)] [] (.tv [] .bool y0) []) ∧
 (Q (.tv [] .bool y0) (hq4 o0_0 o0_1 o0_2 o0_3 o0_4 o0_5))))):EvF PP orc 22 [.tv [] (.pair .str (.pair qt8 .unit)) (x0_0,((x0_1_0,(x0_1_1,(x0_1_2,()))),())),.op (0,0) []] (hq4 o0_0 o0_1 o0_2 o0_3 o0_4 o0_5) Q:=vc_of (by kernel_rfl) h
theorem vc21 (x0:List ((List Int×((List Int×(List Int×(Bool×Unit)))×Unit)))) (o0_0:List qT0) (o0_1:List qT0) (o0_2:List ((Int×(List (Int)×(Int×Unit))))) (o0_3:List (Int)) (o0_4:List (Int)) (o0_5:List qT0) (Q:AV→Heap→Prop) (h :
(∃ y0:Int,
 (∃ y1 y2:qT8,
 (∃ y3:qT7,
 (∃ y4 y5:qT0,
 (∃ y6:qT8,
 (Need (E 40 [(.tv [] (.slice (.pair .str (.pair qt8 .unit))) x0),(.fn (22:FuncId) [] [(.op (0,0) [])])] (hq4 o0_0 o0_1 o0_2 o0_3 o0_4 o0_5) (.tv [] (.int .i64) y0) (hq4 y1 y2 y3 y4 y5 y6)) ∧
 (Q (.tv [] (.int .i64) y0) (hq4 y1 y2 y3 y4 y5 y6))))))))):EvF PP orc 21 [.tv [] (.slice (.pair .str (.pair qt8 .unit))) x0,.fn 22 [] [.op (0,0) []]] (hq4 o0_0 o0_1 o0_2 o0_3 o0_4 o0_5) Q:=vc_of (by kernel_rfl) h
theorem vc40 (x0:List ((List Int×((List Int×(List Int×(Bool×Unit)))×Unit)))) (o0_0:List qT0) (o0_1:List qT0) (o0_2:List ((Int×(List (Int)×(Int×Unit))))) (o0_3:List (Int)) (o0_4:List (Int)) (o0_5:List qT0) (Q:AV→Heap→Prop) (h :
(∃ y0:(Int→(qT8→(qT8→(qT7→(qT0→(qT0→(qT8→Prop))))))),
 (∃ y1:(Int→(qT8→(qT8→(qT7→(qT0→(qT0→(qT8→Nat))))))),
 ((y0 (0:Int) o0_0 o0_1 o0_2 o0_3 o0_4 o0_5) ∧
 (∀ z2:Int,
 (∀ z3 z4:qT8,
 (∀ z5:qT7,
 (∀ z6 z7:qT0,
 (∀ z8:qT8,
 ((y0 z2 z3 z4 z5 z6 z7 z8) →
 ((((decide (z2<(x0.length:Int)))=true) →
 (Need ((0≤z2)∧(z2<(x0.length:Int))) ∧
 (∃ y11:Bool,
 (∃ y12 y13:qT8,
 (∃ y14:qT7,
 (∃ y15 y16:qT0,
 (∃ y17:qT8,
 (Need (E (22:FuncId) [(.tv [] (.pair .str (.pair qt8 .unit)) (List.getD x0 z2.toNat (([]:List Int),(([],([],(false,()))),())))),(.op (0,0) [])] (hq4 z3 z4 z5 z6 z7 z8) (.tv [] .bool y11) (hq4 y12 y13 y14 y15 y16 y17)) ∧
 (((y11=true) →
 (Q (.tv [] (.int .i64) z2) (hq4 y12 y13 y14 y15 y16 y17))) ∧
 ((y11=false) →
 (Need ((-9223372036854775808≤(z2+1))∧((z2+1)≤9223372036854775807)) ∧
 ((y0 (z2+1) y12 y13 y14 y15 y16 y17) ∧
  Need ((y1 (z2+1) y12 y13 y14 y15 y16 y17)<(y1 z2 z3 z4 z5 z6 z7 z8)))))))))))))) ∧
 (((decide (z2<(x0.length:Int)))=false) →
 (Q (.tv [] (.int .i64) (-(1:Int))) (hq4 z3 z4 z5 z6 z7 z8)))))))))))))):EvF PP orc 40 [.tv [] (.slice (.pair .str (.pair qt8 .unit))) x0,.fn 22 [] [.op (0,0) []]] (hq4 o0_0 o0_1 o0_2 o0_3 o0_4 o0_5) Q:=vc_of (by kernel_rfl) h
theorem vc57 (x0_0:Int) (x0_1:List qT0) (nm:List Int) (Q:AV→Heap→Prop) (h :
(∃ y0:Bool,
 (Need (E 23 [(.tv [] qt9 x0_1),(.tv [] .str nm)] [] (.tv [] .bool y0) []) ∧
 (Q (.tv [] .bool y0) [])))):EvF PP orc 57 [.tv [] (.pair (.int .i64) (.pair qt9 .unit)) (x0_0,(x0_1,())),.sp .str nm] [] Q:=vc_of (by kernel_rfl) h
theorem vc75 (x0:List ((Int×(List qT0×Unit)))) (nm:List Int) (Q:AV→Heap→Prop) (h :
(∃ y0:(Int→Prop),
 (∃ y1:(Int→Nat),
 ((y0 (0:Int)) ∧
 (∀ z2:Int,
 ((y0 z2) →
 ((((decide (z2<(x0.length:Int)))=true) →
 (Need ((0≤z2)∧(z2<(x0.length:Int))) ∧
 (∃ y5:Bool,
 (Need (E (57:FuncId) [(.tv [] (.pair (.int .i64) (.pair qt9 .unit)) (List.getD x0 z2.toNat ((0:Int),([],())))),(.sp .str nm)] [] (.tv [] .bool y5) []) ∧
 (((y5=true) →
 (Q (.tv [] (.int .i64) z2) [])) ∧
 ((y5=false) →
 (Need ((-9223372036854775808≤(z2+1))∧((z2+1)≤9223372036854775807)) ∧
 ((y0 (z2+1)) ∧
  Need ((y1 (z2+1))<(y1 z2)))))))))) ∧
 (((decide (z2<(x0.length:Int)))=false) →
 (Q (.tv [] (.int .i64) (-(1:Int))) []))))))))):EvF PP orc 75 [.tv [] (.slice (.pair (.int .i64) (.pair qt9 .unit))) x0,.fn 57 [] [.sp .str nm]] [] Q:=vc_of (by kernel_rfl) h
theorem vc56 (x0:List ((Int×(List qT0×Unit)))) (nm:List Int) (Q:AV→Heap→Prop) (h :
(∃ y0:Int,
 (Need (E 75 [(.tv [] (.slice (.pair (.int .i64) (.pair qt9 .unit))) x0),(.fn (57:FuncId) [] [(.sp .str nm)])] [] (.tv [] (.int .i64) y0) []) ∧
 (Q (.tv [] (.int .i64) y0) [])))):EvF PP orc 56 [.tv [] (.slice (.pair (.int .i64) (.pair qt9 .unit))) x0,.fn 57 [] [.sp .str nm]] [] Q:=vc_of (by kernel_rfl) h
theorem vc39 (x0_0:List ((List Int×((List Int×(List Int×(Bool×Unit)))×Unit)))) (x0_1:List ((List Int×(List Int×(Bool×Unit))))) (x0_2:List ((Int×(List qT0×Unit)))) (x0_3:List Int) (x0_4:List ((List Int×(List qT0×(List Int×(List Int×Unit)))))) (x1:List Int) (Q:AV→Heap→Prop) (h :
(∃ y0:Int,
 (Need (E 56 [(.tv [] (.slice (.pair (.int .i64) (.pair qt9 .unit))) x0_2),(.fn 57 [] [(.sp .str x1)])] [] (.tv [] (.int .i64) y0) []) ∧
 (Need ((-9223372036854775808≤(1+y0))∧((1+y0)≤9223372036854775807)) ∧
 (Q (.tv [] (.int .i64) (1+y0)) []))))):EvF PP orc 39 [.tv [] qt0 (x0_0,(x0_1,(x0_2,(x0_3,(x0_4,()))))),.tv [] .str x1] [] Q:=vc_of (by kernel_rfl) h
theorem vc41 (x0:List Int) (p0:List qT0) (p1:List qT0) (p2:List (Int×List Int×Int×Unit)) (p3:List Int) (p4:List Int) (p5:List qT0) (Q:AV→Heap→Prop) (h :
(∃ y0:Int,
 (Need (E 12 [(.tv [] qt2 (p0,(p1,(p2,(p3,(p4,(p5,()))))))),(.tv [] .str x0)] [] (.tv [] (.int .i64) y0) []) ∧
 (Q (.tv [] .bool (decide (y0<0))) [])))):EvF PP orc 41 [.tv [] .str x0,.sp qt2 (p0,(p1,(p2,(p3,(p4,(p5,()))))))] [] Q:=vc_of (by kernel_rfl) h
theorem vc58002 (x0:List qT0) (p0:List qT0) (p1:List qT0) (p2:List (Int×List Int×Int×Unit)) (p3:List Int) (p4:List Int) (p5:List qT0) (Q:AV→Heap→Prop) (h :
(∃ y0:(Int→Prop),
 (∃ y1:(Int→Nat),
 ((y0 (0:Int)) ∧
 (∀ z2:Int,
 ((y0 z2) →
 ((((decide (z2<(x0.length:Int)))=true) →
 (Need ((0≤z2)∧(z2<(x0.length:Int))) ∧
 (∃ y5:Bool,
 (Need (E (41:FuncId) [(.tv [] .str (List.getD x0 z2.toNat [])),(.sp qt2 (p0,(p1,(p2,(p3,(p4,(p5,())))))))] [] (.tv [] .bool y5) []) ∧
 (((y5=true) →
 (Q (.tv [] (.int .i64) z2) [])) ∧
 ((y5=false) →
 (Need ((-9223372036854775808≤(z2+1))∧((z2+1)≤9223372036854775807)) ∧
 ((y0 (z2+1)) ∧
  Need ((y1 (z2+1))<(y1 z2)))))))))) ∧
 (((decide (z2<(x0.length:Int)))=false) →
 (Q (.tv [] (.int .i64) (-(1:Int))) []))))))))):EvF PP orc 58 [.tv [] qt9 x0,.fn 41 [] [.sp qt2 (p0,(p1,(p2,(p3,(p4,(p5,()))))))]] [] Q:=vc_of (by kernel_rfl) h
theorem vc42 (x0:List qT0) (p0:List qT0) (p1:List qT0) (p2:List (Int×List Int×Int×Unit)) (p3:List Int) (p4:List Int) (p5:List qT0) (Q:AV→Heap→Prop) (h :
(∃ y0:Int,
 (Need (E 58 [(.tv [] qt9 x0),(.fn (41:FuncId) [] [(.sp qt2 (p0,(p1,(p2,(p3,(p4,(p5,())))))))])] [] (.tv [] (.int .i64) y0) []) ∧
 (Q (.tv [] (.int .i64) y0) [])))):EvF PP orc 42 [.tv [] qt9 x0,.fn 41 [] [.sp qt2 (p0,(p1,(p2,(p3,(p4,(p5,()))))))]] [] Q:=vc_of (by kernel_rfl) h
theorem vc10 (x0_0:List qT0) (x0_1:List qT0) (x0_2:List ((Int×(List (Int)×(Int×Unit))))) (x0_3:List (Int)) (x0_4:List (Int)) (x0_5:List qT0) (Q:AV→Heap→Prop) (h :
(Need ((-9223372036854775808≤((x0_0.length:Int)+(x0_1.length:Int)))∧(((x0_0.length:Int)+(x0_1.length:Int))≤9223372036854775807)) ∧
 (Q (.tv [] (.int .i64) ((x0_0.length:Int)+(x0_1.length:Int))) []))):EvF PP orc 10 [.tv [] qt2 (x0_0,(x0_1,(x0_2,(x0_3,(x0_4,(x0_5,()))))))] [] Q:=vc_of (by kernel_rfl) h
theorem vc12 (x0_0:List qT0) (x0_1:List qT0) (x0_2:List ((Int×(List (Int)×(Int×Unit))))) (x0_3:List (Int)) (x0_4:List (Int)) (x0_5:List qT0) (x1:List Int) (Q:AV→Heap→Prop) (h :
(∃ y0:Int,
 (Need (E 26 [(.tv [] qt9 x0_0),(.tv [] .str x1)] [] (.tv [] (.int .i64) y0) []) ∧
 ((((decide (0≤y0))=true) →
 (Q (.tv [] (.int .i64) y0) [])) ∧
 (((decide (0≤y0))=false) →
 (∃ y3:Int,
 (Need (E 26 [(.tv [] qt9 x0_1),(.tv [] .str x1)] [] (.tv [] (.int .i64) y3) []) ∧
 ((((decide (0≤y3))=true) →
 (Need ((-9223372036854775808≤((x0_0.length:Int)+y3))∧(((x0_0.length:Int)+y3)≤9223372036854775807)) ∧
 (Q (.tv [] (.int .i64) ((x0_0.length:Int)+y3)) []))) ∧
 (((decide (0≤y3))=false) →
 (Q (.tv [] (.int .i64) (-(1:Int))) [])))))))))):EvF PP orc 12 [.tv [] qt2 (x0_0,(x0_1,(x0_2,(x0_3,(x0_4,(x0_5,())))))),.tv [] .str x1] [] Q:=vc_of (by kernel_rfl) h
theorem vc14 (x0_0:List qT0) (x0_1:List qT0) (x0_2:List ((Int×(List (Int)×(Int×Unit))))) (x0_3:List (Int)) (x0_4:List (Int)) (x0_5:List qT0) (x1:Int) (Q:AV→Heap→Prop) (h :
((((decide (0≤x1))=true) →
 (Q (.tv [] .bool (decide (x1<(x0_0.length:Int)))) [])) ∧
 (((decide (0≤x1))=false) →
 (Q (.tv [] .bool false) [])))):EvF PP orc 14 [.tv [] qt2 (x0_0,(x0_1,(x0_2,(x0_3,(x0_4,(x0_5,())))))),.tv [] (.int .i64) x1] [] Q:=vc_of (by kernel_rfl) h
end Go.Am.D
namespace Go.Am.D
open Go
set_option maxRecDepth 100000
set_option maxHeartbeats 4000000
theorem vc11 (x0_0:List qT0) (x0_1:List qT0) (x0_2:List ((Int×(List (Int)×(Int×Unit))))) (x0_3:List (Int)) (x0_4:List (Int)) (x0_5:List qT0) (x1:Int) (Q:AV→Heap→Prop) (h :
((((decide (x1<0))=true) →
 (Q (.tv [] .str (List.map (fun v1=>(((BitVec.toNat (UInt8.toBitVec v1)):Nat):Int)) [])) [])) ∧
 (((decide (x1<0))=false) →
 (∃ y3:Int,
 (Need (E 10 [(.tv [] qt2 (x0_0,(x0_1,(x0_2,(x0_3,(x0_4,(x0_5,())))))))] [] (.tv [] (.int .i64) y3) []) ∧
 ((((decide (y3<x1))=true) →
 (Q (.tv [] .str (List.map (fun v5=>(((BitVec.toNat (UInt8.toBitVec v5)):Nat):Int)) [])) [])) ∧
 (((decide (y3<x1))=false) →
 (∃ y7:Int,
 (Need (E 10 [(.tv [] qt2 (x0_0,(x0_1,(x0_2,(x0_3,(x0_4,(x0_5,())))))))] [] (.tv [] (.int .i64) y7) []) ∧
 ((((decide (x1=y7))=true) →
 (Q (.tv [] .str (List.map (fun v9=>(((BitVec.toNat (UInt8.toBitVec v9)):Nat):Int)) [(36:UInt8),(97:UInt8),(99:UInt8),(99:UInt8),(101:UInt8),(112:UInt8),(116:UInt8)])) [])) ∧
 (((decide (x1=y7))=false) →
 (∃ y11:Bool,
 (Need (E 14 [(.tv [] qt2 (x0_0,(x0_1,(x0_2,(x0_3,(x0_4,(x0_5,()))))))),(.tv [] (.int .i64) x1)] [] (.tv [] .bool y11) []) ∧
 (((y11=true) →
 (Need ((0≤x1)∧(x1<(x0_0.length:Int))) ∧
 (Q (.tv [] .str (List.getD x0_0 x1.toNat [])) []))) ∧
 ((y11=false) →
 (Need ((-9223372036854775808≤(x1-(x0_0.length:Int)))∧((x1-(x0_0.length:Int))≤9223372036854775807)) ∧
 (Need (((0:Int)≤(x1-(x0_0.length:Int)))∧((x1-(x0_0.length:Int))<(x0_1.length:Int))) ∧
 (Q (.tv [] .str (List.getD x0_1 (Int.toNat (x1-(x0_0.length:Int))) [])) [])))))))))))))))))):EvF PP orc 11 [.tv [] qt2 (x0_0,(x0_1,(x0_2,(x0_3,(x0_4,(x0_5,())))))),.tv [] (.int .i64) x1] [] Q:=vc_of (by kernel_rfl) h
theorem vc13 (x0_0:List qT0) (x0_1:List qT0) (x0_2:List ((Int×(List (Int)×(Int×Unit))))) (x0_3:List (Int)) (x0_4:List (Int)) (x0_5:List qT0) (x1:Int) (Q:AV→Heap→Prop) (h :
((((decide (x1<0))=true) →
 (Q (.tv [] .str (List.map (fun v1=>(((BitVec.toNat (UInt8.toBitVec v1)):Nat):Int)) [])) [])) ∧
 (((decide (x1<0))=false) →
 ((((decide ((x0_2.length:Int)≤x1))=true) →
 (Q (.tv [] .str (List.map (fun v4=>(((BitVec.toNat (UInt8.toBitVec v4)):Nat):Int)) [])) [])) ∧
 (((decide ((x0_2.length:Int)≤x1))=false) →
 (Need ((0≤x1)∧(x1<(x0_2.length:Int))) ∧
 (∃ y6:qT0,
 (Need (E 11 [(.tv [] qt2 (x0_0,(x0_1,(x0_2,(x0_3,(x0_4,(x0_5,()))))))),(.tv [] (.int .i64) (List.getD x0_2 x1.toNat ((0:Int),([],((0:Int),())))).1)] [] (.tv [] .str y6) []) ∧
 (Need ((0≤x1)∧(x1<(x0_2.length:Int))) ∧
 (∃ y7:(qT8→(Int→Prop)),
 (∃ y8:(qT8→(Int→Nat)),
 ((y7 [y6,(List.map (fun v9=>(((BitVec.toNat (UInt8.toBitVec v9)):Nat):Int)) [(58:UInt8)])] (0:Int)) ∧
 (∀ z10:qT8,
 (∀ z11:Int,
 ((y7 z10 z11) →
 ((((decide (z11<((List.length (List.getD x0_2 x1.toNat ((0:Int),([],((0:Int),())))).2.1):Int)))=true) →
 (Need ((0≤z11)∧(z11<((List.length (List.getD x0_2 x1.toNat ((0:Int),([],((0:Int),())))).2.1):Int))) ∧
 (∃ y14:qT0,
 (Need (E 11 [(.tv [] qt2 (x0_0,(x0_1,(x0_2,(x0_3,(x0_4,(x0_5,()))))))),(.tv [] (.int .i64) (List.getD (List.getD x0_2 x1.toNat ((0:Int),([],((0:Int),())))).2.1 z11.toNat (0:Int)))] [] (.tv [] .str y14) []) ∧
 (Need ((z10.length+(List.length [y14]))≤bigN) ∧
 (Need ((-9223372036854775808≤(z11+1))∧((z11+1)≤9223372036854775807)) ∧
 ((y7 (z10++[y14]) (z11+1)) ∧
  Need ((y8 (z10++[y14]) (z11+1))<(y8 z10 z11))))))))) ∧
 (((decide (z11<((List.length (List.getD x0_2 x1.toNat ((0:Int),([],((0:Int),())))).2.1):Int)))=false) →
 (∃ y16:qT0,
 (Need (E 27 [(.tv [] qt9 z10),(.tv [] .str (List.map (fun v17=>(((BitVec.toNat (UInt8.toBitVec v17)):Nat):Int)) [(32:UInt8)]))] [] (.tv [] .str y16) []) ∧
 (Q (.tv [] .str y16) [])))))))))))))))))))):EvF PP orc 13 [.tv [] qt2 (x0_0,(x0_1,(x0_2,(x0_3,(x0_4,(x0_5,())))))),.tv [] (.int .i64) x1] [] Q:=vc_of (by kernel_rfl) h
end Go.Am.D
namespace Go.Am.D
open Go
set_option maxRecDepth 100000
set_option maxHeartbeats 4000000
theorem vc20 (x0_0:List ((List Int×((List Int×(List Int×(Bool×Unit)))×Unit)))) (x0_1:List ((List Int×(List Int×(Bool×Unit))))) (x0_2:List ((Int×(List qT0×Unit)))) (x0_3:List Int) (x0_4:List ((List Int×(List qT0×(List Int×(List Int×Unit)))))) (Q:AV→Heap→Prop) (h :
(∃ y0:(Int→(qT8→(qT8→(qT7→(qT0→(qT0→(qT8→Prop))))))),
 (∃ y1:(Int→(qT8→(qT8→(qT7→(qT0→(qT0→(qT8→Nat))))))),
 ((y0 (0:Int) [(List.map (fun v2=>(((BitVec.toNat (UInt8.toBitVec v2)):Nat):Int)) [(36:UInt8),(101:UInt8),(110:UInt8),(100:UInt8)])] [] [] [(0:Int)] [(0:Int)] [(List.map (fun v3=>(((BitVec.toNat (UInt8.toBitVec v3)):Nat):Int)) [])]) ∧
 (∀ z4:Int,
 (∀ z5 z6:qT8,
 (∀ z7:qT7,
 (∀ z8 z9:qT0,
 (∀ z10:qT8,
 ((y0 z4 z5 z6 z7 z8 z9 z10) →
 ((((decide (z4<(x0_0.length:Int)))=true) →
 (Need ((0≤z4)∧(z4<(x0_0.length:Int))) ∧
 (Need ((z5.length+(List.length [(List.getD x0_0 z4.toNat (([]:List Int),(([],([],(false,()))),()))).1]))≤bigN) ∧
 (∃ y13:Int,
 (Need (E 39 [(.tv [] qt0 (x0_0,(x0_1,(x0_2,(x0_3,(x0_4,())))))),(.tv [] .str (List.getD x0_0 z4.toNat (([]:List Int),(([],([],(false,()))),()))).1)] [] (.tv [] (.int .i64) y13) []) ∧
 (Need ((z8.length+(List.length [y13]))≤bigN) ∧
 (Need ((-9223372036854775808≤(z4+1))∧((z4+1)≤9223372036854775807)) ∧
 (Need ((([],([],([],([],([],([],())))))):den qt2)=([],([],([],([],([],([],()))))))) ∧
 ((y0 (z4+1) (z5++[(List.getD x0_0 z4.toNat (([]:List Int),(([],([],(false,()))),()))).1]) z6 z7 (z8++[y13]) z9 z10) ∧
  Need ((y1 (z4+1) (z5++[(List.getD x0_0 z4.toNat (([]:List Int),(([],([],(false,()))),()))).1]) z6 z7 (z8++[y13]) z9 z10)<(y1 z4 z5 z6 z7 z8 z9 z10))))))))))) ∧
 (((decide (z4<(x0_0.length:Int)))=false) →
 (∃ y15:(Int→(qT8→(qT8→(qT7→(qT0→(qT0→(qT8→Prop))))))),
 (∃ y16:(Int→(qT8→(qT8→(qT7→(qT0→(qT0→(qT8→Nat))))))),
 ((y15 (0:Int) z5 z6 z7 z8 z9 z10) ∧
 (∀ z17:Int,
 (∀ z18 z19:qT8,
 (∀ z20:qT7,
 (∀ z21 z22:qT0,
 (∀ z23:qT8,
 ((y15 z17 z18 z19 z20 z21 z22 z23) →
 ((((decide (z17<(x0_2.length:Int)))=true) →
 (Need ((0≤z17)∧(z17<(x0_2.length:Int))) ∧
 (Need ((z22.length+(List.length [(List.getD x0_2 z17.toNat ((0:Int),([],()))).1]))≤bigN) ∧
 (Need ((-9223372036854775808≤(z17+1))∧((z17+1)≤9223372036854775807)) ∧
 (Need ((([],([],([],([],([],([],())))))):den qt2)=([],([],([],([],([],([],()))))))) ∧
 ((y15 (z17+1) z18 z19 z20 z21 (z22++[(List.getD x0_2 z17.toNat ((0:Int),([],()))).1]) z23) ∧
  Need ((y16 (z17+1) z18 z19 z20 z21 (z22++[(List.getD x0_2 z17.toNat ((0:Int),([],()))).1]) z23)<(y16 z17 z18 z19 z20 z21 z22 z23)))))))) ∧
 (((decide (z17<(x0_2.length:Int)))=false) →
 (∃ y27:(Int→(qT8→(qT8→(qT7→(qT0→(qT0→(qT8→Prop))))))),
 (∃ y28:(Int→(qT8→(qT8→(qT7→(qT0→(qT0→(qT8→Nat))))))),
 ((y27 (0:Int) z18 z19 z20 z21 z22 z23) ∧
 (∀ z29:Int,
 (∀ z30 z31:qT8,
 (∀ z32:qT7,
 (∀ z33 z34:qT0,
 (∀ z35:qT8,
 ((y27 z29 z30 z31 z32 z33 z34 z35) →
 ((((decide (z29<(x0_4.length:Int)))=true) →
 (Need ((0≤z29)∧(z29<(x0_4.length:Int))) ∧
 (∃ y38:Bool,
 (Need (E 23 [(.tv [] qt9 z31),(.tv [] .str (List.getD x0_4 z29.toNat ([],([],([],([],()))))).1)] [] (.tv [] .bool y38) []) ∧
 ((((!y38)=true) →
 (Need ((z31.length+(List.length [(List.getD x0_4 z29.toNat ([],([],([],([],()))))).1]))≤bigN) ∧
 (Need ((z35.length+(List.length [(List.getD x0_4 z29.toNat ([],([],([],([],()))))).2.2.2.1]))≤bigN) ∧
 (Need ((-9223372036854775808≤(z29+1))∧((z29+1)≤9223372036854775807)) ∧
 (Need ((([],([],([],([],([],([],())))))):den qt2)=([],([],([],([],([],([],()))))))) ∧
 ((y27 (z29+1) z30 (z31++[(List.getD x0_4 z29.toNat ([],([],([],([],()))))).1]) z32 z33 z34 (z35++[(List.getD x0_4 z29.toNat ([],([],([],([],()))))).2.2.2.1])) ∧
   Need ((y28 (z29+1) z30 (z31++[(List.getD x0_4 z29.toNat ([],([],([],([],()))))).1]) z32 z33 z34 (z35++[(List.getD x0_4 z29.toNat ([],([],([],([],()))))).2.2.2.1]))<(y28 z29 z30 z31 z32 z33 z34 z35)))))))) ∧
 (((!y38)=false) →
 (Need ((z35.length+(List.length [(List.getD x0_4 z29.toNat ([],([],([],([],()))))).2.2.2.1]))≤bigN) ∧
 (Need ((-9223372036854775808≤(z29+1))∧((z29+1)≤9223372036854775807)) ∧
 (Need ((([],([],([],([],([],([],())))))):den qt2)=([],([],([],([],([],([],()))))))) ∧
 ((y27 (z29+1) z30 z31 z32 z33 z34 (z35++[(List.getD x0_4 z29.toNat ([],([],([],([],()))))).2.2.2.1])) ∧
  Need ((y28 (z29+1) z30 z31 z32 z33 z34 (z35++[(List.getD x0_4 z29.toNat ([],([],([],([],()))))).2.2.2.1]))<(y28 z29 z30 z31 z32 z33 z34 z35)))))))))))) ∧
 (((decide (z29<(x0_4.length:Int)))=false) →
 (Q (.tv [] qt2 (z30,(z31,(z32,(z33,(z34,(z35,()))))))) []))))))))))))))))))))))))))))))))))):EvF PP orc 20 [.tv [] qt0 (x0_0,(x0_1,(x0_2,(x0_3,(x0_4,())))))] [] Q:=vc_of (by kernel_rfl) h
theorem vc24 (x0_0:List ((List Int×((List Int×(List Int×(Bool×Unit)))×Unit)))) (x0_1:List ((List Int×(List Int×(Bool×Unit))))) (x0_2:List ((Int×(List qT0×Unit)))) (x0_3:List Int) (x0_4:List ((List Int×(List qT0×(List Int×(List Int×Unit)))))) (x1_0:List qT0) (x1_1:List qT0) (x1_2:List ((Int×(List (Int)×(Int×Unit))))) (x1_3:List (Int)) (x1_4:List (Int)) (x1_5:List qT0) (Q:AV→Heap→Prop) (h :
(∃ y0:(Int→Prop),
 (∃ y1:(Int→Nat),
 ((y0 (0:Int)) ∧
 (∀ z2:Int,
 ((y0 z2) →
 ((((decide (z2<(x0_4.length:Int)))=true) →
 (Need ((0≤z2)∧(z2<(x0_4.length:Int))) ∧
 (∃ y5:Int,
 (Need (E 42 [(.tv [] qt9 (List.getD x0_4 z2.toNat ([],([],([],([],()))))).2.1),(.fn 41 [] [(.sp qt2 (x1_0,(x1_1,(x1_2,(x1_3,(x1_4,(x1_5,())))))))])] [] (.tv [] (.int .i64) y5) []) ∧
 ((((decide (0≤y5))=true) →
 (Need ((0≤y5)∧(y5<((List.length (List.getD x0_4 z2.toNat ([],([],([],([],()))))).2.1):Int))) ∧
 (Q (.tup [(.tv [] .str (List.getD (List.getD x0_4 z2.toNat ([],([],([],([],()))))).2.1 y5.toNat [])),(.tv [] .bool true)]) []))) ∧
 (((decide (0≤y5))=false) →
 ((((!(decide ((List.getD x0_4 z2.toNat ([],([],([],([],()))))).2.2.1=[])))=true) →
 (∃ y9:Int,
 (Need (E 39 [(.tv [] qt0 (x0_0,(x0_1,(x0_2,(x0_3,(x0_4,())))))),(.tv [] .str (List.getD x0_4 z2.toNat ([],([],([],([],()))))).2.2.1)] [] (.tv [] (.int .i64) y9) []) ∧
 ((((decide (y9=(0:Int)))=true) →
 (Q (.tup [(.tv [] .str (List.getD x0_4 z2.toNat ([],([],([],([],()))))).2.2.1),(.tv [] .bool true)]) [])) ∧
 (((decide (y9=(0:Int)))=false) →
 (Need ((-9223372036854775808≤(z2+1))∧((z2+1)≤9223372036854775807)) ∧
 ((y0 (z2+1)) ∧
   Need ((y1 (z2+1))<(y1 z2))))))))) ∧
 (((!(decide ((List.getD x0_4 z2.toNat ([],([],([],([],()))))).2.2.1=[])))=false) →
 (Need ((-9223372036854775808≤(z2+1))∧((z2+1)≤9223372036854775807)) ∧
 ((y0 (z2+1)) ∧
  Need ((y1 (z2+1))<(y1 z2)))))))))))) ∧
 (((decide (z2<(x0_4.length:Int)))=false) →
 (∃ y14:Bool,
 (Need (E 23 [(.tv [] qt9 x1_1),(.tv [] .str x0_3)] [] (.tv [] .bool y14) []) ∧
 (Q (.tup [(.tv [] .str x0_3),(.tv [] .bool (!y14))]) []))))))))))):EvF PP orc 24 [.tv [] qt0 (x0_0,(x0_1,(x0_2,(x0_3,(x0_4,()))))),.tv [] qt2 (x1_0,(x1_1,(x1_2,(x1_3,(x1_4,(x1_5,()))))))] [] Q:=vc_of (by kernel_rfl) h
theorem vc25 (x0_0:List ((List Int×((List Int×(List Int×(Bool×Unit)))×Unit)))) (x0_1:List ((List Int×(List Int×(Bool×Unit))))) (x0_2:List ((Int×(List qT0×Unit)))) (x0_3:List Int) (x0_4:List ((List Int×(List qT0×(List Int×(List Int×Unit)))))) (x1_0:List qT0) (x1_1:List qT0) (x1_2:List ((Int×(List (Int)×(Int×Unit))))) (x1_3:List (Int)) (x1_4:List (Int)) (x1_5:List qT0) (x2_0:List Int) (x2_1:List qT0) (x2_2:List Int) (x2_3:List Int) (Q:AV→Heap→Prop) (h :
(∃ y0:Int,
 (Need (E 12 [(.tv [] qt2 (x1_0,(x1_1,(x1_2,(x1_3,(x1_4,(x1_5,()))))))),(.tv [] .str x2_0)] [] (.tv [] (.int .i64) y0) []) ∧
 (∃ y1:(Int→(Int→(qT0→(Int→Prop)))),
 (∃ y2:(Int→(Int→(qT0→(Int→Nat)))),
 ((y1 (0:Int) y0 [] (0:Int)) ∧
 (∀ z3 z4:Int,
 (∀ z5:qT0,
 (∀ z6:Int,
 ((y1 z3 z4 z5 z6) →
 ((((decide (z3<(x2_1.length:Int)))=true) →
 (Need ((0≤z3)∧(z3<(x2_1.length:Int))) ∧
 (∃ y9:Int,
 (Need (E 12 [(.tv [] qt2 (x1_0,(x1_1,(x1_2,(x1_3,(x1_4,(x1_5,()))))))),(.tv [] .str (List.getD x2_1 z3.toNat []))] [] (.tv [] (.int .i64) y9) []) ∧
 (Need ((z5.length+(List.length [y9]))≤bigN) ∧
 (∃ y10:Bool,
 (Need (E 14 [(.tv [] qt2 (x1_0,(x1_1,(x1_2,(x1_3,(x1_4,(x1_5,()))))))),(.tv [] (.int .i64) y9)] [] (.tv [] .bool y10) []) ∧
 (((y10=true) →
 (Need ((0≤y9)∧(y9<(x1_3.length:Int))) ∧
 (Need ((-9223372036854775808≤(z3+1))∧((z3+1)≤9223372036854775807)) ∧
 (Need ((((0:Int),([],((0:Int),()))):den qt13)=((0:Int),([],((0:Int),())))) ∧
 ((y1 (z3+1) z4 (z5++[y9]) (List.getD x1_3 y9.toNat (0:Int))) ∧
   Need ((y2 (z3+1) z4 (z5++[y9]) (List.getD x1_3 y9.toNat (0:Int)))<(y2 z3 z4 z5 z6))))))) ∧
 ((y10=false) →
 (Need ((-9223372036854775808≤(z3+1))∧((z3+1)≤9223372036854775807)) ∧
 (Need ((((0:Int),([],((0:Int),()))):den qt13)=((0:Int),([],((0:Int),())))) ∧
 ((y1 (z3+1) z4 (z5++[y9]) z6) ∧
  Need ((y2 (z3+1) z4 (z5++[y9]) z6)<(y2 z3 z4 z5 z6)))))))))))))) ∧
 (((decide (z3<(x2_1.length:Int)))=false) →
 ((((!(decide (x2_2=[])))=true) →
 (∃ y15:Int,
 (Need (E 39 [(.tv [] qt0 (x0_0,(x0_1,(x0_2,(x0_3,(x0_4,())))))),(.tv [] .str x2_2)] [] (.tv [] (.int .i64) y15) []) ∧
 (Q (.tv [] qt13 (z4,(z5,(y15,())))) [])))) ∧
 (((!(decide (x2_2=[])))=false) →
 (Q (.tv [] qt13 (z4,(z5,(z6,())))) []))))))))))))))):EvF PP orc 25 [.tv [] qt0 (x0_0,(x0_1,(x0_2,(x0_3,(x0_4,()))))),.tv [] qt2 (x1_0,(x1_1,(x1_2,(x1_3,(x1_4,(x1_5,())))))),.tv [] qt11 (x2_0,(x2_1,(x2_2,(x2_3,()))))] [] Q:=vc_of (by kernel_rfl) h
theorem vc9 (x0_0:List ((List Int×((List Int×(List Int×(Bool×Unit)))×Unit)))) (x0_1:List ((List Int×(List Int×(Bool×Unit))))) (x0_2:List ((Int×(List qT0×Unit)))) (x0_3:List Int) (x0_4:List ((List Int×(List qT0×(List Int×(List Int×Unit)))))) (Q:AV→Heap→Prop) (h :
(∃ y0:Bool,
 (Need (E 19 [(.tv [] qt0 (x0_0,(x0_1,(x0_2,(x0_3,(x0_4,()))))))] [] (.tv [] .bool y0) []) ∧
 ((((!y0)=true) →
 (Q (.tup [(.tv [] qt2 ([],([],([],([],([],([],()))))))),(.tv [] (.int .i64) (1:Int)),(.tv [] .str (List.map (fun v2=>(((BitVec.toNat (UInt8.toBitVec v2)):Nat):Int)) []))]) [])) ∧
 (((!y0)=false) →
 (∃ y4 y5:qT8,
 (∃ y6:qT7,
 (∃ y7 y8:qT0,
 (∃ y9:qT8,
 (Need (E 20 [(.tv [] qt0 (x0_0,(x0_1,(x0_2,(x0_3,(x0_4,()))))))] [] (.tv [] qt2 (y4,(y5,(y6,(y7,(y8,(y9,()))))))) []) ∧
 (∃ y10:Int,
 (∃ y11 y12:qT8,
 (∃ y13:qT7,
 (∃ y14 y15:qT0,
 (∃ y16:qT8,
 (Need (E 21 [(.tv [] (.slice (.pair .str (.pair qt8 .unit))) x0_0),(.fn 22 [] [(.op (0,0) [])])] (hq4 y4 y5 y6 y7 y8 y9) (.tv [] (.int .i64) y10) (hq4 y11 y12 y13 y14 y15 y16)) ∧
 ((((decide (0≤y10))=true) →
 (Need ((0≤y10)∧(y10<(x0_0.length:Int))) ∧
 (Q (.tup [(.tv [] qt2 ([],([],([],([],([],([],()))))))),(.tv [] (.int .i64) (15:Int)),(.tv [] .str (List.getD x0_0 y10.toNat (([]:List Int),(([],([],(false,()))),()))).1)]) []))) ∧
 (((decide (0≤y10))=false) →
 (∃ y19:qT0,
 (∃ y20:Bool,
 (Need (E 24 [(.tv [] qt0 (x0_0,(x0_1,(x0_2,(x0_3,(x0_4,())))))),(.tv [] qt2 (y11,(y12,(y13,(y14,(y15,(y16,())))))))] [] (.tup [(.tv [] .str y19),(.tv [] .bool y20)]) []) ∧
 (((y20=true) →
 (Q (.tup [(.tv [] qt2 ([],([],([],([],([],([],()))))))),(.tv [] (.int .i64) (16:Int)),(.tv [] .str y19)]) [])) ∧
 ((y20=false) →
 (∃ y23:Int,
 (Need (E 10 [(.tv [] qt2 (y11,(y12,(y13,(y14,(y15,(y16,())))))))] [] (.tv [] (.int .i64) y23) []) ∧
 (∃ y24:Int,
 (Need (E 12 [(.tv [] qt2 (y11,(y12,(y13,(y14,(y15,(y16,()))))))),(.tv [] .str x0_3)] [] (.tv [] (.int .i64) y24) []) ∧
 (∃ y25:(Int→(qT8→(qT8→(qT7→(qT0→(qT0→(qT8→Prop))))))),
 (∃ y26:(Int→(qT8→(qT8→(qT7→(qT0→(qT0→(qT8→Nat))))))),
 ((y25 (0:Int) y11 y12 [(y23,([y24],((0:Int),())))] y14 y15 y16) ∧
 (∀ z27:Int,
 (∀ z28 z29:qT8,
 (∀ z30:qT7,
 (∀ z31 z32:qT0,
 (∀ z33:qT8,
 ((y25 z27 z28 z29 z30 z31 z32 z33) →
 ((((decide (z27<(x0_4.length:Int)))=true) →
 (Need ((0≤z27)∧(z27<(x0_4.length:Int))) ∧
 (∃ y36:Int,
 (∃ y37:qT0,
 (∃ y38:Int,
 (Need (E 25 [(.tv [] qt0 (x0_0,(x0_1,(x0_2,(x0_3,(x0_4,())))))),(.tv [] qt2 (z28,(z29,(z30,(z31,(z32,(z33,()))))))),(.tv [] qt11 (List.getD x0_4 z27.toNat ([],([],([],([],()))))))] [] (.tv [] qt13 (y36,(y37,(y38,())))) []) ∧
 (Need ((z30.length+(List.length [(y36,(y37,(y38,())))]))≤bigN) ∧
 (Need ((-9223372036854775808≤(z27+1))∧((z27+1)≤9223372036854775807)) ∧
 (Need ((([],([],([],([],([],([],())))))):den qt2)=([],([],([],([],([],([],()))))))) ∧
 ((y25 (z27+1) z28 z29 (z30++[(y36,(y37,(y38,())))]) z31 z32 z33) ∧
  Need ((y26 (z27+1) z28 z29 (z30++[(y36,(y37,(y38,())))]) z31 z32 z33)<(y26 z27 z28 z29 z30 z31 z32 z33)))))))))))) ∧
 (((decide (z27<(x0_4.length:Int)))=false) →
 (Q (.tup [(.tv [] qt2 (z28,(z29,(z30,(z31,(z32,(z33,()))))))),(.tv [] (.int .i64) (0:Int)),(.tv [] .str (List.map (fun v40=>(((BitVec.toNat (UInt8.toBitVec v40)):Nat):Int)) []))]) []))))))))))))))))))))))))))))))))))))))):EvF PP orc 9 [.tv [] qt0 (x0_0,(x0_1,(x0_2,(x0_3,(x0_4,())))))] [] Q:=vc_of (by kernel_rfl) h
end Go.Am.D
namespace Go.Am.D
open Go
set_option maxRecDepth 100000
set_option maxHeartbeats 4000000
theorem vc7  (Q:AV→Heap→Prop) (h :
(∃ y0:qT6,
 (∃ y1:qT9,
 (∃ y2:qT4,
 (∃ y3:qT0,
 (∃ y4:qT3,
 (∃ y5 y6 y7:Int,
 (Need (E 18 [(.tv [] .str (List.map (fun v8=>(((BitVec.toNat (UInt8.toBitVec v8)):Nat):Int)) [(37:UInt8),(116:UInt8),(111:UInt8),(107:UInt8),(101:UInt8),(110:UInt8),(32:UInt8),(78:UInt8),(32:UInt8),(34:UInt8),(110:UInt8),(34:UInt8),(32:UInt8),(37:UInt8),(116:UInt8),(111:UInt8),(107:UInt8),(101:UInt8),(110:UInt8),(32:UInt8),(80:UInt8),(32:UInt8),(34:UInt8),(112:UInt8),(34:UInt8),(32:UInt8),(37:UInt8),(108:UInt8),(101:UInt8),(102:UInt8),(116:UInt8),(32:UInt8),(80:UInt8),(32:UInt8),(37:UInt8),(37:UInt8),(32:UInt8),(69:UInt8),(32:UInt8),(58:UInt8),(32:UInt8),(69:UInt8),(32:UInt8),(80:UInt8),(32:UInt8),(69:UInt8),(32:UInt8),(124:UInt8),(32:UInt8),(78:UInt8),(32:UInt8),(59:UInt8)]))] [] (.tup [(.tv [] qt0 (y0,(y1,(y2,(y3,(y4,())))))),(.tv [] qt3 (y5,((y6,(y7,())),())))]) []) ∧
 (∃ y9 y10:qT8,
 (∃ y11:qT7,
 (∃ y12 y13:qT0,
 (∃ y14:qT8,
 (∃ y15:Int,
 (∃ y16:qT0,
 (Need (E 9 [(.tv [] qt0 (y0,(y1,(y2,(y3,(y4,()))))))] [] (.tup [(.tv [] qt2 (y9,(y10,(y11,(y12,(y13,(y14,()))))))),(.tv [] (.int .i64) y15),(.tv [] .str y16)]) []) ∧
 (∃ y17 y18:qT8,
 (∃ y19:qT7,
 (∃ y20 y21:qT0,
 (∃ y22:qT8,
 (∃ y23:Int,
 (∃ y24:qT0,
 (Need (E 9 [(.tv [] qt0 ([],([],([],((List.map (fun v25=>(((BitVec.toNat (UInt8.toBitVec v25)):Nat):Int)) [(69:UInt8)]),([((List.map (fun v26=>(((BitVec.toNat (UInt8.toBitVec v26)):Nat):Int)) [(69:UInt8)]),([(List.map (fun v27=>(((BitVec.toNat (UInt8.toBitVec v27)):Nat):Int)) [(70:UInt8)])],([],([],()))))],()))))))] [] (.tup [(.tv [] qt2 (y17,(y18,(y19,(y20,(y21,(y22,()))))))),(.tv [] (.int .i64) y23),(.tv [] .str y24)]) []) ∧
 ((((decide ((y11.length:Int)≠(3:Int)))=true) →
 (Q (.tv [] .bool false) [])) ∧
 (((decide ((y11.length:Int)≠(3:Int)))=false) →
 ((((decide (y15=(0:Int)))=true) →
 ((((decide (y16=[]))=true) →
 (Need (((0:Int)≤(1:Int))∧((1:Int)<(y11.length:Int))) ∧
 ((((decide ((List.getD y11 1 ((0:Int),([],((0:Int),())))).2.2.1=(1:Int)))=true) →
 (Need (((0:Int)≤(2:Int))∧((2:Int)<(y11.length:Int))) ∧
 ((((decide ((List.getD y11 2 ((0:Int),([],((0:Int),())))).2.2.1=(0:Int)))=true) →
 (∃ y34:Int,
 (Need (E 12 [(.tv [] qt2 (y9,(y10,(y11,(y12,(y13,(y14,()))))))),(.tv [] .str (List.map (fun v35=>(((BitVec.toNat (UInt8.toBitVec v35)):Nat):Int)) [(69:UInt8)]))] [] (.tv [] (.int .i64) y34) []) ∧
 ((((decide (y34=(3:Int)))=true) →
 (∃ y37:Int,
 (Need (E 10 [(.tv [] qt2 (y9,(y10,(y11,(y12,(y13,(y14,())))))))] [] (.tv [] (.int .i64) y37) []) ∧
 ((((decide (y37=(4:Int)))=true) →
 (∃ y39:qT0,
 (Need (E 13 [(.tv [] qt2 (y9,(y10,(y11,(y12,(y13,(y14,()))))))),(.tv [] (.int .i64) (1:Int))] [] (.tv [] .str y39) []) ∧
 ((((decide (y39=[(69:Int),(32:Int),(58:Int),(32:Int),(69:Int),(32:Int),(80:Int),(32:Int),(69:Int)]))=true) →
 ((((decide (y23=(16:Int)))=true) →
 (Q (.tv [] .bool (decide (y24=[(70:Int)]))) [])) ∧
 (((decide (y23=(16:Int)))=false) →
 (Q (.tv [] .bool false) [])))) ∧
 (((decide (y39=[(69:Int),(32:Int),(58:Int),(32:Int),(69:Int),(32:Int),(80:Int),(32:Int),(69:Int)]))=false) →
 (Q (.tv [] .bool false) [])))))) ∧
 (((decide (y37=(4:Int)))=false) →
 (Q (.tv [] .bool false) [])))))) ∧
 (((decide (y34=(3:Int)))=false) →
 (Q (.tv [] .bool false) [])))))) ∧
 (((decide ((List.getD y11 2 ((0:Int),([],((0:Int),())))).2.2.1=(0:Int)))=false) →
 (Q (.tv [] .bool false) []))))) ∧
 (((decide ((List.getD y11 1 ((0:Int),([],((0:Int),())))).2.2.1=(1:Int)))=false) →
 (Q (.tv [] .bool false) []))))) ∧
 (((decide (y16=[]))=false) →
 (Q (.tv [] .bool false) [])))) ∧
 (((decide (y15=(0:Int)))=false) →
 (Q (.tv [] .bool false) []))))))))))))))))))))))))))):EvF PP orc 7 [] [] Q:=vc_of (by kernel_rfl) h
end Go.Am.D
