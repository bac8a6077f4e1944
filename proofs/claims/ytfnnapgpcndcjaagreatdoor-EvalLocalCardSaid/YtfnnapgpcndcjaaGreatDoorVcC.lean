/-
  A part of the proof of a law: see the text that states it.
-/
import Derived.Test.YtfnnapgpcndcjaaGreatDoorHead
set_option linter.all false
namespace Go.Am.Z
open Go
set_option maxRecDepth 100000
set_option maxHeartbeats 4000000
theorem vc76 (x1:Int) (g2:Nat) (l2:List (((Int×(Int×((Int×(Int×(Int×Unit)))×(List (Int)×(Bool×(Bool×Unit))))))×(Int×Unit)))) (n2:Nat) (o0_2:Int) (o0_0_0:Int) (o0_0_1:Int) (o0_0_2:Int) (Q:AV→Heap→Prop) (h :
((((decide (0≤x1))=true) →
 (Q (.tv [] .bool (decide (x1<(n2:Int)))) (hq5 g2 n2 o0_2 o0_0_0 o0_0_1 o0_0_2 l2))) ∧
 (((decide (0≤x1))=false) →
 (Q (.tv [] .bool false) (hq5 g2 n2 o0_2 o0_0_0 o0_0_1 o0_0_2 l2))))):EvF PP orc 76 [.op (0,0) [],.tv [] (.int .i64) x1] (hq18 g2 n2 o0_2 o0_0_0 o0_0_1 o0_0_2 l2) Q:=vc_of (by kernel_rfl) h
theorem vc77 (x1:Int) (g3:Nat) (l3:List (((Int×(Int×((Int×(Int×(Int×Unit)))×(List (Int)×(Bool×(Bool×Unit))))))×(Int×Unit)))) (n3:Nat) (o0_0_2:Int) (o0_0_0_0:Int) (o0_0_0_1:Int) (o0_0_0_2:Int) (Q:AV→Heap→Prop) (h :
(∃ y0 y1 y2 y3 y4:Int,
 (∃ y5:qT3,
 (∃ y6 y7 y8:Bool,
 (Need (E 47 [(.op (0,0) []),(.tv [] (.int .i64) x1)] (hq5 g3 n3 o0_0_2 o0_0_0_0 o0_0_0_1 o0_0_0_2 l3) (.tup [(.tv [] qt14 (y0,(y1,((y2,(y3,(y4,()))),(y5,(y6,(y7,()))))))),(.tv [] .bool y8)]) (hq5 g3 n3 o0_0_2 o0_0_0_0 o0_0_0_1 o0_0_0_2 l3)) ∧
 ((((!y8)=true) →
 (Q (.tv [] (.int .i64) (-(1:Int))) (hq9 g3 n3 o0_0_2 o0_0_0_0 o0_0_0_1 o0_0_0_2 l3))) ∧
 (((!y8)=false) →
 (Q (.tv [] (.int .i64) y0) (hq9 g3 n3 o0_0_2 o0_0_0_0 o0_0_0_1 o0_0_0_2 l3))))))))):EvF PP orc 77 [.op (0,0) [],.tv [] (.int .i64) x1] (hq13 g3 n3 o0_0_2 o0_0_0_0 o0_0_0_1 o0_0_0_2 l3) Q:=vc_of (by kernel_rfl) h
theorem vc78 (o0_0:Int) (o0_1:Int) (o0_2:Int) (Q:AV→Heap→Prop) (h :
(Need ((-9223372036854775808≤(o0_0-o0_1))∧((o0_0-o0_1)≤9223372036854775807)) ∧
 (Q (.tv [] (.int .i64) (o0_0-o0_1)) (hq0 o0_0 o0_1 o0_2)))):EvF PP orc 78 [.op (0,0) []] (hq0 o0_0 o0_1 o0_2) Q:=vc_of (by kernel_rfl) h
theorem vc79 (x1:Int) (g3:Nat) (l3:List (((Int×(Int×((Int×(Int×(Int×Unit)))×(List (Int)×(Bool×(Bool×Unit))))))×(Int×Unit)))) (n3:Nat) (o0_0_2:Int) (o0_0_0_0:Int) (o0_0_0_1:Int) (o0_0_0_2:Int) (Q:AV→Heap→Prop) (h :
(∃ y0 y1 y2 y3 y4:Int,
 (∃ y5:qT3,
 (∃ y6 y7 y8:Bool,
 (Need (E 47 [(.op (0,0) []),(.tv [] (.int .i64) x1)] (hq5 g3 n3 o0_0_2 o0_0_0_0 o0_0_0_1 o0_0_0_2 l3) (.tup [(.tv [] qt14 (y0,(y1,((y2,(y3,(y4,()))),(y5,(y6,(y7,()))))))),(.tv [] .bool y8)]) (hq5 g3 n3 o0_0_2 o0_0_0_0 o0_0_0_1 o0_0_0_2 l3)) ∧
 (∃ y9:qT3,
 (Need (E 69 [(.tv [] qt7 y5)] [] (.tv [[]] qt7 y9) []) ∧
 (Q (.tv [[]] qt7 y9) (hq9 g3 n3 o0_0_2 o0_0_0_0 o0_0_0_1 o0_0_0_2 l3))))))))):EvF PP orc 79 [.op (0,0) [],.tv [] (.int .i64) x1] (hq13 g3 n3 o0_0_2 o0_0_0_0 o0_0_0_1 o0_0_0_2 l3) Q:=vc_of (by kernel_rfl) h
theorem vc80 (x0:List Int) (x1_0:Int) (x1_1:Int) (x1_2:Int) (Q:AV→Heap→Prop) (h :
((((decide (x1_1<0))=true) →
 (Q (.tv [] .str (List.map (fun v1=>(((BitVec.toNat (UInt8.toBitVec v1)):Nat):Int)) [])) [])) ∧
 (((decide (x1_1<0))=false) →
 ((((decide (x1_2<x1_1))=true) →
 (Q (.tv [] .str (List.map (fun v4=>(((BitVec.toNat (UInt8.toBitVec v4)):Nat):Int)) [])) [])) ∧
 (((decide (x1_2<x1_1))=false) →
 ((((decide ((x0.length:Int)<x1_2))=true) →
 (Q (.tv [] .str (List.map (fun v7=>(((BitVec.toNat (UInt8.toBitVec v7)):Nat):Int)) [])) [])) ∧
 (((decide ((x0.length:Int)<x1_2))=false) →
 (Need ((0≤x1_1)∧((x1_1≤x1_2)∧(x1_2≤(x0.length:Int)))) ∧
 (Q (.tv [] .str (cut x0 x1_1.toNat x1_2.toNat)) []))))))))):EvF PP orc 80 [.tv [] .str x0,.tv [] qt4 (x1_0,(x1_1,(x1_2,())))] [] Q:=vc_of (by kernel_rfl) h
theorem vc81 (x1:Int) (g3:Nat) (l3:List (((Int×(Int×((Int×(Int×(Int×Unit)))×(List (Int)×(Bool×(Bool×Unit))))))×(Int×Unit)))) (n3:Nat) (o0_0_2:Int) (o0_0_0_0:Int) (o0_0_0_1:Int) (o0_0_0_2:Int) (Q:AV→Heap→Prop) (h :
(∃ y0 y1 y2 y3 y4:Int,
 (∃ y5:qT3,
 (∃ y6 y7 y8:Bool,
 (Need (E 47 [(.op (0,0) []),(.tv [] (.int .i64) x1)] (hq5 g3 n3 o0_0_2 o0_0_0_0 o0_0_0_1 o0_0_0_2 l3) (.tup [(.tv [] qt14 (y0,(y1,((y2,(y3,(y4,()))),(y5,(y6,(y7,()))))))),(.tv [] .bool y8)]) (hq5 g3 n3 o0_0_2 o0_0_0_0 o0_0_0_1 o0_0_0_2 l3)) ∧
 (Q (.tv [] qt4 (y2,(y3,(y4,())))) (hq9 g3 n3 o0_0_2 o0_0_0_0 o0_0_0_1 o0_0_0_2 l3))))))):EvF PP orc 81 [.op (0,0) [],.tv [] (.int .i64) x1] (hq13 g3 n3 o0_0_2 o0_0_0_0 o0_0_0_1 o0_0_0_2 l3) Q:=vc_of (by kernel_rfl) h
theorem vc83 (x0_0:Int) (x0_1:Int) (x1:Int) (Q:AV→Heap→Prop) (h :
(∃ y0:Bool,
 (Need (E 105 [(.tv [] (.int .i64) x0_0)] [] (.tv [] .bool y0) []) ∧
 ((((!y0)=true) →
 (Q (.tv [] .bool false) [])) ∧
 (((!y0)=false) →
 ((((decide (x0_1<0))=true) →
 (Q (.tv [] .bool false) [])) ∧
 (((decide (x0_1<0))=false) →
 ((((decide (999999999999999999<x0_1))=true) →
 (Q (.tv [] .bool false) [])) ∧
 (((decide (999999999999999999<x0_1))=false) →
 (∃ y7:Bool,
 (Need (E 106 [(.tv [] (.int .i64) x0_0)] [] (.tv [] .bool y7) []) ∧
 ((((!y7)=true) →
 ((((decide (x0_1≠(0:Int)))=true) →
 (Q (.tv [] .bool false) [])) ∧
 (((decide (x0_1≠(0:Int)))=false) →
 ((((decide (x0_0=(2:Int)))=true) →
 ((((decide (0<x0_1))=true) →
 (Q (.tv [] .bool (decide (x0_1≤x1))) [])) ∧
 (((decide (0<x0_1))=false) →
 (Q (.tv [] .bool false) [])))) ∧
 (((decide (x0_0=(2:Int)))=false) →
 ((((decide (x0_0=(3:Int)))=true) →
 ((((decide (0<x0_1))=true) →
 (Q (.tv [] .bool (decide (x0_1≤x1))) [])) ∧
 (((decide (0<x0_1))=false) →
 (Q (.tv [] .bool false) [])))) ∧
 (((decide (x0_0=(3:Int)))=false) →
 (Q (.tv [] .bool true) [])))))))) ∧
 (((!y7)=false) →
 ((((decide (x0_0=(2:Int)))=true) →
 ((((decide (0<x0_1))=true) →
 (Q (.tv [] .bool (decide (x0_1≤x1))) [])) ∧
 (((decide (0<x0_1))=false) →
 (Q (.tv [] .bool false) [])))) ∧
 (((decide (x0_0=(2:Int)))=false) →
 ((((decide (x0_0=(3:Int)))=true) →
 ((((decide (0<x0_1))=true) →
 (Q (.tv [] .bool (decide (x0_1≤x1))) [])) ∧
 (((decide (0<x0_1))=false) →
 (Q (.tv [] .bool false) [])))) ∧
 (((decide (x0_0=(3:Int)))=false) →
 (Q (.tv [] .bool true) [])))))))))))))))))):EvF PP orc 83 [.tv [] qt1 (x0_0,(x0_1,())),.tv [] (.int .i64) x1] [] Q:=vc_of (by kernel_rfl) h
theorem vc84 (x0:Int) (x1:Int) (Q:AV→Heap→Prop) (h :
(∃ y0 y1:Int,
 (Need (E 58 [(.tv [] (.int .i64) (IntKind.wrap .i64 (x0+x1)))] [] (.tv [] qt1 (y0,(y1,()))) []) ∧
 (Q (.tv [] qt1 (y0,(y1,()))) [])))):EvF PP orc 84 [.tv [] (.int .i64) x0,.tv [] (.int .i64) x1] [] Q:=vc_of (by kernel_rfl) h
theorem vc85 (x0:Int) (x1:Int) (Q:AV→Heap→Prop) (h :
(∃ y0 y1:Int,
 (Need (E 58 [(.tv [] (.int .i64) (IntKind.wrap .i64 (x0-x1)))] [] (.tv [] qt1 (y0,(y1,()))) []) ∧
 (Q (.tv [] qt1 (y0,(y1,()))) [])))):EvF PP orc 85 [.tv [] (.int .i64) x0,.tv [] (.int .i64) x1] [] Q:=vc_of (by kernel_rfl) h
theorem vc86 (x0:Int) (x1:Int) (Q:AV→Heap→Prop) (h :
(∃ y0 y1:Int,
 (Need (E 58 [(.tv [] (.int .i64) (IntKind.wrap .i64 (x0 * x1)))] [] (.tv [] qt1 (y0,(y1,()))) []) ∧
 (Q (.tv [] qt1 (y0,(y1,()))) [])))):EvF PP orc 86 [.tv [] (.int .i64) x0,.tv [] (.int .i64) x1] [] Q:=vc_of (by kernel_rfl) h
theorem vc87 (x0:Int) (x1:Int) (Q:AV→Heap→Prop) (h :
((((decide (x1=(0:Int)))=true) →
 (∃ y1 y2:Int,
 (Need (E 56 [(.tv [] (.int .i64) (32:Int))] [] (.tv [] qt1 (y1,(y2,()))) []) ∧
 (Q (.tv [] qt1 (y1,(y2,()))) [])))) ∧
 (((decide (x1=(0:Int)))=false) →
 (Need (x1≠(0:Int)) ∧
 (∃ y4 y5:Int,
 (Need (E 58 [(.tv [] (.int .i64) (IntKind.wrap .i64 (Int.tdiv x0 x1)))] [] (.tv [] qt1 (y4,(y5,()))) []) ∧
 (Q (.tv [] qt1 (y4,(y5,()))) []))))))):EvF PP orc 87 [.tv [] (.int .i64) x0,.tv [] (.int .i64) x1] [] Q:=vc_of (by kernel_rfl) h
theorem vc88 (x0:Int) (x1:Int) (Q:AV→Heap→Prop) (h :
((((decide (x1=(0:Int)))=true) →
 (∃ y1 y2:Int,
 (Need (E 56 [(.tv [] (.int .i64) (32:Int))] [] (.tv [] qt1 (y1,(y2,()))) []) ∧
 (Q (.tv [] qt1 (y1,(y2,()))) [])))) ∧
 (((decide (x1=(0:Int)))=false) →
 (Need (x1≠(0:Int)) ∧
 (Need (¬ ((IntKind.i64=IntKind.u8)∧(¬ ((0≤x0)∧((x0<256)∧(0<x1)))))) ∧
 (∃ y4 y5:Int,
 (Need (E 58 [(.tv [] (.int .i64) (Int.tmod x0 x1))] [] (.tv [] qt1 (y4,(y5,()))) []) ∧
 (Q (.tv [] qt1 (y4,(y5,()))) [])))))))):EvF PP orc 88 [.tv [] (.int .i64) x0,.tv [] (.int .i64) x1] [] Q:=vc_of (by kernel_rfl) h
theorem vc91 (x0:List Int) (Q:AV→Heap→Prop) (h :
(∃ y0:(Int→((List Bool)→Prop)),
 (∃ y1:(Int→((List Bool)→Nat)),
 ((y0 (0:Int) (List.replicate 256 false)) ∧
 (∀ z2:Int,
 (∀ z3:(List Bool),
 ((y0 z2 z3) →
 ((((decide (z2<(x0.length:Int)))=true) →
 (Need ((0≤z2)∧(z2<(x0.length:Int))) ∧
 ((((decide ((128:Int)≤(List.getD x0 z2.toNat (0:Int))))=true) →
 (Q (.tup [(.tv [] (.arr 0 256 .bool) z3),(.tv [] .bool false)]) [])) ∧
 (((decide ((128:Int)≤(List.getD x0 z2.toNat (0:Int))))=false) →
 (Need (((0:Int)≤(List.getD x0 z2.toNat (0:Int)))∧((List.getD x0 z2.toNat (0:Int))<(256:Int))) ∧
 (Need ((Int.toNat (List.getD x0 z2.toNat (0:Int)))<256) ∧
 (Need ((-9223372036854775808≤(z2+1))∧((z2+1)≤9223372036854775807)) ∧
 ((y0 (z2+1) (List.set z3 (Int.toNat (List.getD x0 z2.toNat (0:Int))) true)) ∧
  Need ((y1 (z2+1) (List.set z3 (Int.toNat (List.getD x0 z2.toNat (0:Int))) true))<(y1 z2 z3)))))))))) ∧
 (((decide (z2<(x0.length:Int)))=false) →
 (Q (.tup [(.tv [] (.arr 0 256 .bool) z3),(.tv [] .bool true)]) [])))))))))):EvF PP orc 91 [.tv [] .str x0] [] Q:=vc_of (by kernel_rfl) h
theorem vc92 (x0:List Int) (o0:List (Bool)) (Q:AV→Heap→Prop) (h :
(∃ y0:(qT3→((List Bool)→Prop)),
 (∃ y1:(qT3→((List Bool)→Nat)),
 ((y0 x0 o0) ∧
 (∀ z2:qT3,
 (∀ z3:(List Bool),
 ((y0 z2 z3) →
 ((((decide ((0:Int)<(z2.length:Int)))=true) →
 (Need (((0:Int)≤(0:Int))∧((0:Int)<(z2.length:Int))) ∧
 (∃ y6:Bool,
 (∃ y7:(List Bool),
 (Need (E 107 [(.op (0,0) []),(.tv [] (.int .u8) (List.getD z2 0 (0:Int)))] (hq6 z3) (.tv [] .bool y6) (hq6 y7)) ∧
 ((((!y6)=true) →
 (Q (.tv [] .str z2) (hq6 y7))) ∧
 (((!y6)=false) →
 (Need (((0:Int)≤(1:Int))∧(((1:Int)≤(z2.length:Int))∧((z2.length:Int)≤(z2.length:Int)))) ∧
 ((y0 (cut z2 1 (Int.toNat (z2.length:Int))) y7) ∧
  Need ((y1 (cut z2 1 (Int.toNat (z2.length:Int))) y7)<(y1 z2 z3))))))))))) ∧
 (((decide ((0:Int)<(z2.length:Int)))=false) →
 (Q (.tv [] .str z2) (hq6 z3))))))))))):EvF PP orc 92 [.tv [] .str x0,.op (0,0) []] (hq6 o0) Q:=vc_of (by kernel_rfl) h
theorem vc93 (x0:List Int) (o0:List (Bool)) (Q:AV→Heap→Prop) (h :
(∃ y0:(qT3→((List Bool)→Prop)),
 (∃ y1:(qT3→((List Bool)→Nat)),
 ((y0 x0 o0) ∧
 (∀ z2:qT3,
 (∀ z3:(List Bool),
 ((y0 z2 z3) →
 ((((decide ((0:Int)<(z2.length:Int)))=true) →
 (Need ((-9223372036854775808≤((z2.length:Int)-(1:Int)))∧(((z2.length:Int)-(1:Int))≤9223372036854775807)) ∧
 (Need (((0:Int)≤((z2.length:Int)-(1:Int)))∧(((z2.length:Int)-(1:Int))<(z2.length:Int))) ∧
 (∃ y6:Bool,
 (∃ y7:(List Bool),
 (Need (E 107 [(.op (0,0) []),(.tv [] (.int .u8) (List.getD z2 (Int.toNat ((z2.length:Int)-(1:Int))) (0:Int)))] (hq6 z3) (.tv [] .bool y6) (hq6 y7)) ∧
 ((((!y6)=true) →
 (Q (.tv [] .str z2) (hq6 y7))) ∧
 (((!y6)=false) →
 (Need ((-9223372036854775808≤((z2.length:Int)-(1:Int)))∧(((z2.length:Int)-(1:Int))≤9223372036854775807)) ∧
 (Need (((0:Int)≤(0:Int))∧(((0:Int)≤((z2.length:Int)-(1:Int)))∧(((z2.length:Int)-(1:Int))≤(z2.length:Int)))) ∧
 ((y0 (cut z2 0 (Int.toNat ((z2.length:Int)-(1:Int)))) y7) ∧
  Need ((y1 (cut z2 0 (Int.toNat ((z2.length:Int)-(1:Int)))) y7)<(y1 z2 z3))))))))))))) ∧
 (((decide ((0:Int)<(z2.length:Int)))=false) →
 (Q (.tv [] .str z2) (hq6 z3))))))))))):EvF PP orc 93 [.tv [] .str x0,.op (0,0) []] (hq6 o0) Q:=vc_of (by kernel_rfl) h
theorem vc99 (x0:List qT3) (Q:AV→Heap→Prop) (h :
(∃ y0:(Int→Prop),
 (∃ y1:(Int→Nat),
 ((y0 (0:Int)) ∧
 (∀ z2:Int,
 ((y0 z2) →
 ((((decide (z2<(x0.length:Int)))=true) →
 (Need ((0≤z2)∧(z2<(x0.length:Int))) ∧
 (∃ y5:Bool,
 (Need (E 96 [(.tv [] .str (List.getD x0 z2.toNat []))] [] (.tv [] .bool y5) []) ∧
 ((((!y5)=true) →
 (Q (.tv [] .bool false) [])) ∧
 (((!y5)=false) →
 (∃ y8:(Int→Prop),
 (∃ y9:(Int→Nat),
 ((y8 (0:Int)) ∧
 (∀ z10:Int,
 ((y8 z10) →
 ((((decide (z10<z2))=true) →
 (Need ((0≤z10)∧(z10<(x0.length:Int))) ∧
 (Need ((0≤z2)∧(z2<(x0.length:Int))) ∧
 ((((decide ((List.getD x0 z10.toNat [])=(List.getD x0 z2.toNat [])))=true) →
 (Q (.tv [] .bool false) [])) ∧
 (((decide ((List.getD x0 z10.toNat [])=(List.getD x0 z2.toNat [])))=false) →
 (Need ((-9223372036854775808≤(z10+1))∧((z10+1)≤9223372036854775807)) ∧
 ((y8 (z10+1)) ∧
   Need ((y9 (z10+1))<(y9 z10))))))))) ∧
 (((decide (z10<z2))=false) →
 (Need ((-9223372036854775808≤(z2+1))∧((z2+1)≤9223372036854775807)) ∧
 ((y0 (z2+1)) ∧
  Need ((y1 (z2+1))<(y1 z2))))))))))))))))) ∧
 (((decide (z2<(x0.length:Int)))=false) →
 (Q (.tv [] .bool true) []))))))))):EvF PP orc 99 [.tv [] (.slice .str) x0] [] Q:=vc_of (by kernel_rfl) h
theorem vc100 (x0:List (Int)) (x1:Int) (Q:AV→Heap→Prop) (h :
(∃ y0:(Int→Prop),
 (∃ y1:(Int→Nat),
 ((y0 (0:Int)) ∧
 (∀ z2:Int,
 ((y0 z2) →
 ((((decide (z2<(x0.length:Int)))=true) →
 (Need ((0≤z2)∧(z2<(x0.length:Int))) ∧
 ((((decide (x1=(List.getD x0 z2.toNat (0:Int))))=true) →
 (Q (.tv [] (.int .i64) z2) [])) ∧
 (((decide (x1=(List.getD x0 z2.toNat (0:Int))))=false) →
 (Need ((-9223372036854775808≤(z2+1))∧((z2+1)≤9223372036854775807)) ∧
 ((y0 (z2+1)) ∧
  Need ((y1 (z2+1))<(y1 z2)))))))) ∧
 (((decide (z2<(x0.length:Int)))=false) →
 (Q (.tv [] (.int .i64) (-(1:Int))) []))))))))):EvF PP orc 100 [.tv [] qt7 x0,.tv [] (.int .i64) x1] [] Q:=vc_of (by kernel_rfl) h
end Go.Am.Z
