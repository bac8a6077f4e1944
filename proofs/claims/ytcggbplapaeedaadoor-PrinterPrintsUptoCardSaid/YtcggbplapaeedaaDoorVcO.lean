/-
  A part of the proof of a law: see the text that states it.
-/
import Derived.Test.YtcggbplapaeedaaDoorHead
set_option linter.all false
namespace Go.Am.R
open Go
set_option maxRecDepth 100000
set_option maxHeartbeats 4000000
theorem vc18  (Q:AV→Heap→Prop) (h :
(∃ y0:qT0,
 (∃ y1:Int,
 (Need (E 20 [(.tv [] qt0 ([],([],([],((List.map (fun v2=>(((BitVec.toNat (UInt8.toBitVec v2)):Nat):Int)) [(69:UInt8)]),([((List.map (fun v3=>(((BitVec.toNat (UInt8.toBitVec v3)):Nat):Int)) [(69:UInt8)]),([(List.map (fun v4=>(((BitVec.toNat (UInt8.toBitVec v4)):Nat):Int)) [(69:UInt8)]),(List.map (fun v5=>(((BitVec.toNat (UInt8.toBitVec v5)):Nat):Int)) [(78:UInt8)])],([],((List.map (fun v6=>(((BitVec.toNat (UInt8.toBitVec v6)):Nat):Int)) [(49:UInt8)]),()))))],()))))))] [] (.tup [(.tv [] .str y0),(.tv [] (.int .i64) y1)]) []) ∧
 (∃ y7:qT0,
 (Need (E 25 [(.tv [] qt8 ([],((List.map (fun v8=>(((BitVec.toNat (UInt8.toBitVec v8)):Nat):Int)) [(45:UInt8),(48:UInt8)]),(true,()))))] [] (.tv [] .str y7) []) ∧
 ((((decide (y1=(0:Int)))=true) →
 ((((decide (y0=[(37:Int),(115:Int),(116:Int),(97:Int),(114:Int),(116:Int),(32:Int),(69:Int),(10:Int),(37:Int),(37:Int),(10:Int),(69:Int),(32:Int),(58:Int),(32:Int),(69:Int),(32:Int),(78:Int),(32:Int),(123:Int),(49:Int),(125:Int),(32:Int),(59:Int),(10:Int)]))=true) →
 (Q (.tv [] .bool (decide (y7=[(91:Int),(92:Int),(45:Int),(48:Int),(93:Int),(43:Int)]))) [])) ∧
 (((decide (y0=[(37:Int),(115:Int),(116:Int),(97:Int),(114:Int),(116:Int),(32:Int),(69:Int),(10:Int),(37:Int),(37:Int),(10:Int),(69:Int),(32:Int),(58:Int),(32:Int),(69:Int),(32:Int),(78:Int),(32:Int),(123:Int),(49:Int),(125:Int),(32:Int),(59:Int),(10:Int)]))=false) →
 (Q (.tv [] .bool false) [])))) ∧
 (((decide (y1=(0:Int)))=false) →
 (Q (.tv [] .bool false) []))))))))):EvF PP orc 18 [] [] Q:=vc_of (by kernel_rfl) h
theorem vc7 (x0_0:List ((List Int×((List Int×(List Int×(Bool×Unit)))×Unit)))) (x0_1:List ((List Int×(List Int×(Bool×Unit))))) (x0_2:List ((Int×(List qT0×Unit)))) (x0_3:List Int) (x0_4:List ((List Int×(List qT0×(List Int×(List Int×Unit)))))) (Q:AV→Heap→Prop) (h :
(∃ y0:Bool,
 (Need (E 18 [] [] (.tv [] .bool y0) []) ∧
 (∃ y1:Bool,
 (Need (E 19 [(.tv [] qt0 (x0_0,(x0_1,(x0_2,(x0_3,(x0_4,()))))))] [] (.tv [] .bool y1) []) ∧
 ((((!y1)=true) →
 (Q (.tv [] .bool y0) [])) ∧
 (((!y1)=false) →
 (∃ y4:qT0,
 (∃ y5:Int,
 (Need (E 20 [(.tv [] qt0 (x0_0,(x0_1,(x0_2,(x0_3,(x0_4,()))))))] [] (.tup [(.tv [] .str y4),(.tv [] (.int .i64) y5)]) []) ∧
 (∃ y6:qT0,
 (∃ y7:Int,
 (Need (E 21 [(.tv [] qt0 (x0_0,(x0_1,(x0_2,(x0_3,(x0_4,()))))))] [] (.tup [(.tv [] .str y6),(.tv [] (.int .i64) y7)]) []) ∧
 (∃ y8:Bool,
 (Need (E 22 [(.tv [] qt0 (x0_0,(x0_1,(x0_2,(x0_3,(x0_4,()))))))] [] (.tv [] .bool y8) []) ∧
 (∃ y9:(Int→Prop),
 (∃ y10:(Int→Nat),
 ((y9 (0:Int)) ∧
 (∀ z11:Int,
 ((y9 z11) →
 ((((decide (z11<(x0_4.length:Int)))=true) →
 (Need ((0≤z11)∧(z11<(x0_4.length:Int))) ∧
 (∃ y14:qT0,
 (Need (E 23 [(.tv [] qt9 (List.getD x0_4 z11.toNat ([],([],([],([],()))))))] [] (.tv [] .str y14) []) ∧
 (Need ((0≤z11)∧(z11<(x0_4.length:Int))) ∧
 (∃ y15:qT0,
 (Need (E 24 [(.tv [] qt9 (List.getD x0_4 z11.toNat ([],([],([],([],()))))))] [] (.tv [] .str y15) []) ∧
 ((((!(decide (y14=y15)))=true) →
 (Q (.tv [] .bool false) [])) ∧
 (((!(decide (y14=y15)))=false) →
 (Need ((-9223372036854775808≤(z11+1))∧((z11+1)≤9223372036854775807)) ∧
 ((y9 (z11+1)) ∧
  Need ((y10 (z11+1))<(y10 z11))))))))))))) ∧
 (((decide (z11<(x0_4.length:Int)))=false) →
 (∃ y19:(Int→Prop),
 (∃ y20:(Int→Nat),
 ((y19 (0:Int)) ∧
 (∀ z21:Int,
 ((y19 z21) →
 ((((decide (z21<(x0_0.length:Int)))=true) →
 (Need ((0≤z21)∧(z21<(x0_0.length:Int))) ∧
 (∃ y24:qT0,
 (Need (E 25 [(.tv [] qt8 (List.getD x0_0 z21.toNat (([]:List Int),(([],([],(false,()))),()))).2.1)] [] (.tv [] .str y24) []) ∧
 (Need ((0≤z21)∧(z21<(x0_0.length:Int))) ∧
 (∃ y25:qT0,
 (Need (E 26 [(.tv [] qt8 (List.getD x0_0 z21.toNat (([]:List Int),(([],([],(false,()))),()))).2.1)] [] (.tv [] .str y25) []) ∧
 ((((!(decide (y24=y25)))=true) →
 (Q (.tv [] .bool false) [])) ∧
 (((!(decide (y24=y25)))=false) →
 (Need ((-9223372036854775808≤(z21+1))∧((z21+1)≤9223372036854775807)) ∧
 ((y19 (z21+1)) ∧
  Need ((y20 (z21+1))<(y20 z21))))))))))))) ∧
 (((decide (z21<(x0_0.length:Int)))=false) →
 (((y0=true) →
 ((((decide (y4=y6))=true) →
 ((((decide (y5=y7))=true) →
 (∃ y32:Bool,
 (Need (E 27 [(.tv [] qt0 (x0_0,(x0_1,(x0_2,(x0_3,(x0_4,()))))))] [] (.tv [] .bool y32) []) ∧
 (Q (.tv [] .bool (BEq.beq y8 y32)) [])))) ∧
 (((decide (y5=y7))=false) →
 (Q (.tv [] .bool false) [])))) ∧
 (((decide (y4=y6))=false) →
 (Q (.tv [] .bool false) [])))) ∧
 ((y0=false) →
 (Q (.tv [] .bool false) [])))))))))))))))))))))))))))))))):EvF PP orc 7 [.tv [] qt0 (x0_0,(x0_1,(x0_2,(x0_3,(x0_4,())))))] [] Q:=vc_of (by kernel_rfl) h
end Go.Am.R
