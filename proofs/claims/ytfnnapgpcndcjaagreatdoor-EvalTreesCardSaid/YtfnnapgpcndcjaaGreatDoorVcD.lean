/-
  A part of the proof of a law: see the text that states it.
-/
import Derived.Test.YtfnnapgpcndcjaaGreatDoorHead
set_option linter.all false
namespace Go.Am.Z
open Go
set_option maxRecDepth 100000
set_option maxHeartbeats 4000000
theorem vc103 (x0:Int) (x1_0:Int) (x1_1:Int) (x2_0:Int) (x2_1:Int) (Q:AV→Heap→Prop) (h :
((((decide (x1_0=(3:Int)))=true) →
 (Q (.tv [] qt1 (x1_0,(x1_1,()))) [])) ∧
 (((decide (x1_0=(3:Int)))=false) →
 ((((decide (x2_0=(3:Int)))=true) →
 (Q (.tv [] qt1 (x2_0,(x2_1,()))) [])) ∧
 (((decide (x2_0=(3:Int)))=false) →
 ((((decide (x1_0≠(1:Int)))=true) →
 (∃ y5 y6:Int,
 (Need (E 74 [(.tv [] (.int .i64) (33:Int))] [] (.tv [] qt1 (y5,(y6,()))) []) ∧
 (Q (.tv [] qt1 (y5,(y6,()))) [])))) ∧
 (((decide (x1_0≠(1:Int)))=false) →
 ((((decide (x2_0≠(1:Int)))=true) →
 (∃ y9 y10:Int,
 (Need (E 74 [(.tv [] (.int .i64) (33:Int))] [] (.tv [] qt1 (y9,(y10,()))) []) ∧
 (Q (.tv [] qt1 (y9,(y10,()))) [])))) ∧
 (((decide (x2_0≠(1:Int)))=false) →
 ((((decide (x0=(5:Int)))=true) →
 (∃ y13 y14:Int,
 (Need (E 102 [(.tv [] (.int .u64) (IntKind.wrap .u64 ((IntKind.wrap .u64 x1_1)+(IntKind.wrap .u64 x2_1))))] [] (.tv [] qt1 (y13,(y14,()))) []) ∧
 (Q (.tv [] qt1 (y13,(y14,()))) [])))) ∧
 (((decide (x0=(5:Int)))=false) →
 ((((decide (x0=(6:Int)))=true) →
 (∃ y17 y18:Int,
 (Need (E 102 [(.tv [] (.int .u64) (IntKind.wrap .u64 ((IntKind.wrap .u64 x1_1)-(IntKind.wrap .u64 x2_1))))] [] (.tv [] qt1 (y17,(y18,()))) []) ∧
 (Q (.tv [] qt1 (y17,(y18,()))) [])))) ∧
 (((decide (x0=(6:Int)))=false) →
 ((((decide (x0=(7:Int)))=true) →
 (∃ y21 y22:Int,
 (Need (E 102 [(.tv [] (.int .u64) (IntKind.wrap .u64 ((IntKind.wrap .u64 x1_1) * (IntKind.wrap .u64 x2_1))))] [] (.tv [] qt1 (y21,(y22,()))) []) ∧
 (Q (.tv [] qt1 (y21,(y22,()))) [])))) ∧
 (((decide (x0=(7:Int)))=false) →
 ((((decide (x2_1=(0:Int)))=true) →
 (∃ y25 y26:Int,
 (Need (E 74 [(.tv [] (.int .i64) (32:Int))] [] (.tv [] qt1 (y25,(y26,()))) []) ∧
 (Q (.tv [] qt1 (y25,(y26,()))) [])))) ∧
 (((decide (x2_1=(0:Int)))=false) →
 ((((decide (x1_1<0))=true) →
 ((((decide (x2_1<0))=true) →
 (Need ((IntKind.wrap .u64 ((0:Int)-(IntKind.wrap .u64 x2_1)))≠(0:Int)) ∧
 (Need ((IntKind.wrap .u64 ((0:Int)-(IntKind.wrap .u64 x2_1)))≠(0:Int)) ∧
 (Need (¬ ((IntKind.u64=IntKind.u8)∧(¬ (((0:Int)≤(IntKind.wrap .u64 ((0:Int)-(IntKind.wrap .u64 x1_1))))∧(((IntKind.wrap .u64 ((0:Int)-(IntKind.wrap .u64 x1_1)))<(256:Int))∧((0:Int)<(IntKind.wrap .u64 ((0:Int)-(IntKind.wrap .u64 x2_1))))))))) ∧
 ((((decide (x0=(9:Int)))=true) →
 ((((decide (x1_1<0))=true) →
 (∃ y32 y33:Int,
 (Need (E 102 [(.tv [] (.int .u64) (IntKind.wrap .u64 ((0:Int)-(Int.tmod (IntKind.wrap .u64 ((0:Int)-(IntKind.wrap .u64 x1_1))) (IntKind.wrap .u64 ((0:Int)-(IntKind.wrap .u64 x2_1)))))))] [] (.tv [] qt1 (y32,(y33,()))) []) ∧
 (Q (.tv [] qt1 (y32,(y33,()))) [])))) ∧
 (((decide (x1_1<0))=false) →
 (∃ y35 y36:Int,
 (Need (E 102 [(.tv [] (.int .u64) (Int.tmod (IntKind.wrap .u64 ((0:Int)-(IntKind.wrap .u64 x1_1))) (IntKind.wrap .u64 ((0:Int)-(IntKind.wrap .u64 x2_1)))))] [] (.tv [] qt1 (y35,(y36,()))) []) ∧
 (Q (.tv [] qt1 (y35,(y36,()))) [])))))) ∧
 (((decide (x0=(9:Int)))=false) →
 ((((!(BEq.beq (decide (x1_1<0)) (decide (x2_1<0))))=true) →
 (∃ y39 y40:Int,
 (Need (E 102 [(.tv [] (.int .u64) (IntKind.wrap .u64 ((0:Int)-(IntKind.wrap .u64 (Int.tdiv (IntKind.wrap .u64 ((0:Int)-(IntKind.wrap .u64 x1_1))) (IntKind.wrap .u64 ((0:Int)-(IntKind.wrap .u64 x2_1))))))))] [] (.tv [] qt1 (y39,(y40,()))) []) ∧
 (Q (.tv [] qt1 (y39,(y40,()))) [])))) ∧
 (((!(BEq.beq (decide (x1_1<0)) (decide (x2_1<0))))=false) →
 (∃ y42 y43:Int,
 (Need (E 102 [(.tv [] (.int .u64) (IntKind.wrap .u64 (Int.tdiv (IntKind.wrap .u64 ((0:Int)-(IntKind.wrap .u64 x1_1))) (IntKind.wrap .u64 ((0:Int)-(IntKind.wrap .u64 x2_1))))))] [] (.tv [] qt1 (y42,(y43,()))) []) ∧
 (Q (.tv [] qt1 (y42,(y43,()))) []))))))))))) ∧
 (((decide (x2_1<0))=false) →
 (Need ((IntKind.wrap .u64 x2_1)≠(0:Int)) ∧
 (Need ((IntKind.wrap .u64 x2_1)≠(0:Int)) ∧
 (Need (¬ ((IntKind.u64=IntKind.u8)∧(¬ (((0:Int)≤(IntKind.wrap .u64 ((0:Int)-(IntKind.wrap .u64 x1_1))))∧(((IntKind.wrap .u64 ((0:Int)-(IntKind.wrap .u64 x1_1)))<(256:Int))∧((0:Int)<(IntKind.wrap .u64 x2_1))))))) ∧
 ((((decide (x0=(9:Int)))=true) →
 ((((decide (x1_1<0))=true) →
 (∃ y47 y48:Int,
 (Need (E 102 [(.tv [] (.int .u64) (IntKind.wrap .u64 ((0:Int)-(Int.tmod (IntKind.wrap .u64 ((0:Int)-(IntKind.wrap .u64 x1_1))) (IntKind.wrap .u64 x2_1)))))] [] (.tv [] qt1 (y47,(y48,()))) []) ∧
 (Q (.tv [] qt1 (y47,(y48,()))) [])))) ∧
 (((decide (x1_1<0))=false) →
 (∃ y50 y51:Int,
 (Need (E 102 [(.tv [] (.int .u64) (Int.tmod (IntKind.wrap .u64 ((0:Int)-(IntKind.wrap .u64 x1_1))) (IntKind.wrap .u64 x2_1)))] [] (.tv [] qt1 (y50,(y51,()))) []) ∧
 (Q (.tv [] qt1 (y50,(y51,()))) [])))))) ∧
 (((decide (x0=(9:Int)))=false) →
 ((((!(BEq.beq (decide (x1_1<0)) (decide (x2_1<0))))=true) →
 (∃ y54 y55:Int,
 (Need (E 102 [(.tv [] (.int .u64) (IntKind.wrap .u64 ((0:Int)-(IntKind.wrap .u64 (Int.tdiv (IntKind.wrap .u64 ((0:Int)-(IntKind.wrap .u64 x1_1))) (IntKind.wrap .u64 x2_1))))))] [] (.tv [] qt1 (y54,(y55,()))) []) ∧
 (Q (.tv [] qt1 (y54,(y55,()))) [])))) ∧
 (((!(BEq.beq (decide (x1_1<0)) (decide (x2_1<0))))=false) →
 (∃ y57 y58:Int,
 (Need (E 102 [(.tv [] (.int .u64) (IntKind.wrap .u64 (Int.tdiv (IntKind.wrap .u64 ((0:Int)-(IntKind.wrap .u64 x1_1))) (IntKind.wrap .u64 x2_1))))] [] (.tv [] qt1 (y57,(y58,()))) []) ∧
 (Q (.tv [] qt1 (y57,(y58,()))) []))))))))))))) ∧
 (((decide (x1_1<0))=false) →
 ((((decide (x2_1<0))=true) →
 (Need ((IntKind.wrap .u64 ((0:Int)-(IntKind.wrap .u64 x2_1)))≠(0:Int)) ∧
 (Need ((IntKind.wrap .u64 ((0:Int)-(IntKind.wrap .u64 x2_1)))≠(0:Int)) ∧
 (Need (¬ ((IntKind.u64=IntKind.u8)∧(¬ (((0:Int)≤(IntKind.wrap .u64 x1_1))∧(((IntKind.wrap .u64 x1_1)<(256:Int))∧((0:Int)<(IntKind.wrap .u64 ((0:Int)-(IntKind.wrap .u64 x2_1))))))))) ∧
 ((((decide (x0=(9:Int)))=true) →
 ((((decide (x1_1<0))=true) →
 (∃ y63 y64:Int,
 (Need (E 102 [(.tv [] (.int .u64) (IntKind.wrap .u64 ((0:Int)-(Int.tmod (IntKind.wrap .u64 x1_1) (IntKind.wrap .u64 ((0:Int)-(IntKind.wrap .u64 x2_1)))))))] [] (.tv [] qt1 (y63,(y64,()))) []) ∧
 (Q (.tv [] qt1 (y63,(y64,()))) [])))) ∧
 (((decide (x1_1<0))=false) →
 (∃ y66 y67:Int,
 (Need (E 102 [(.tv [] (.int .u64) (Int.tmod (IntKind.wrap .u64 x1_1) (IntKind.wrap .u64 ((0:Int)-(IntKind.wrap .u64 x2_1)))))] [] (.tv [] qt1 (y66,(y67,()))) []) ∧
 (Q (.tv [] qt1 (y66,(y67,()))) [])))))) ∧
 (((decide (x0=(9:Int)))=false) →
 ((((!(BEq.beq (decide (x1_1<0)) (decide (x2_1<0))))=true) →
 (∃ y70 y71:Int,
 (Need (E 102 [(.tv [] (.int .u64) (IntKind.wrap .u64 ((0:Int)-(IntKind.wrap .u64 (Int.tdiv (IntKind.wrap .u64 x1_1) (IntKind.wrap .u64 ((0:Int)-(IntKind.wrap .u64 x2_1))))))))] [] (.tv [] qt1 (y70,(y71,()))) []) ∧
 (Q (.tv [] qt1 (y70,(y71,()))) [])))) ∧
 (((!(BEq.beq (decide (x1_1<0)) (decide (x2_1<0))))=false) →
 (∃ y73 y74:Int,
 (Need (E 102 [(.tv [] (.int .u64) (IntKind.wrap .u64 (Int.tdiv (IntKind.wrap .u64 x1_1) (IntKind.wrap .u64 ((0:Int)-(IntKind.wrap .u64 x2_1))))))] [] (.tv [] qt1 (y73,(y74,()))) []) ∧
 (Q (.tv [] qt1 (y73,(y74,()))) []))))))))))) ∧
 (((decide (x2_1<0))=false) →
 (Need ((IntKind.wrap .u64 x2_1)≠(0:Int)) ∧
 (Need ((IntKind.wrap .u64 x2_1)≠(0:Int)) ∧
 (Need (¬ ((IntKind.u64=IntKind.u8)∧(¬ (((0:Int)≤(IntKind.wrap .u64 x1_1))∧(((IntKind.wrap .u64 x1_1)<(256:Int))∧((0:Int)<(IntKind.wrap .u64 x2_1))))))) ∧
 ((((decide (x0=(9:Int)))=true) →
 ((((decide (x1_1<0))=true) →
 (∃ y78 y79:Int,
 (Need (E 102 [(.tv [] (.int .u64) (IntKind.wrap .u64 ((0:Int)-(Int.tmod (IntKind.wrap .u64 x1_1) (IntKind.wrap .u64 x2_1)))))] [] (.tv [] qt1 (y78,(y79,()))) []) ∧
 (Q (.tv [] qt1 (y78,(y79,()))) [])))) ∧
 (((decide (x1_1<0))=false) →
 (∃ y81 y82:Int,
 (Need (E 102 [(.tv [] (.int .u64) (Int.tmod (IntKind.wrap .u64 x1_1) (IntKind.wrap .u64 x2_1)))] [] (.tv [] qt1 (y81,(y82,()))) []) ∧
 (Q (.tv [] qt1 (y81,(y82,()))) [])))))) ∧
 (((decide (x0=(9:Int)))=false) →
 ((((!(BEq.beq (decide (x1_1<0)) (decide (x2_1<0))))=true) →
 (∃ y85 y86:Int,
 (Need (E 102 [(.tv [] (.int .u64) (IntKind.wrap .u64 ((0:Int)-(IntKind.wrap .u64 (Int.tdiv (IntKind.wrap .u64 x1_1) (IntKind.wrap .u64 x2_1))))))] [] (.tv [] qt1 (y85,(y86,()))) []) ∧
 (Q (.tv [] qt1 (y85,(y86,()))) [])))) ∧
 (((!(BEq.beq (decide (x1_1<0)) (decide (x2_1<0))))=false) →
 (∃ y88 y89:Int,
 (Need (E 102 [(.tv [] (.int .u64) (IntKind.wrap .u64 (Int.tdiv (IntKind.wrap .u64 x1_1) (IntKind.wrap .u64 x2_1))))] [] (.tv [] qt1 (y88,(y89,()))) []) ∧
 (Q (.tv [] qt1 (y88,(y89,()))) []))))))))))))))))))))))))))))))):EvF PP orc 103 [.tv [] (.int .i64) x0,.tv [] qt1 (x1_0,(x1_1,())),.tv [] qt1 (x2_0,(x2_1,()))] [] Q:=vc_of (by kernel_rfl) h
theorem vc105 (x0:Int) (Q:AV→Heap→Prop) (h :
((((decide (1≤x0))=true) →
 (Q (.tv [] .bool (decide (x0≤9))) [])) ∧
 (((decide (1≤x0))=false) →
 (Q (.tv [] .bool false) [])))):EvF PP orc 105 [.tv [] (.int .i64) x0] [] Q:=vc_of (by kernel_rfl) h
theorem vc106 (x0:Int) (Q:AV→Heap→Prop) (h :
((((decide (1≤x0))=true) →
 (Q (.tv [] .bool (decide (x0≤3))) [])) ∧
 (((decide (1≤x0))=false) →
 (Q (.tv [] .bool false) [])))):EvF PP orc 106 [.tv [] (.int .i64) x0] [] Q:=vc_of (by kernel_rfl) h
theorem vc107 (x1:Int) (o0:List (Bool)) (Q:AV→Heap→Prop) (h :
(Need ((0≤x1)∧(x1<256)) ∧
 (Need (x1.toNat<256) ∧
 (Q (.tv [] .bool (List.getD o0 x1.toNat false)) (hq5 o0))))):EvF PP orc 107 [.op (0,0) [],.tv [] (.int .u8) x1] (hq5 o0) Q:=vc_of (by kernel_rfl) h
end Go.Am.Z
