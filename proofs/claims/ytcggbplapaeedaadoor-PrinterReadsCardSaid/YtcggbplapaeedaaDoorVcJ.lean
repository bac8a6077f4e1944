/-
  A part of the proof of a law: see the text that states it.
-/
import Derived.Test.YtcggbplapaeedaaDoorHead
set_option linter.all false
namespace Go.Am.R
open Go
set_option maxRecDepth 100000
set_option maxHeartbeats 4000000
theorem vc20 (x0_0:List ((List Int×((List Int×(List Int×(Bool×Unit)))×Unit)))) (x0_1:List ((List Int×(List Int×(Bool×Unit))))) (x0_2:List ((Int×(List qT0×Unit)))) (x0_3:List Int) (x0_4:List ((List Int×(List qT0×(List Int×(List Int×Unit)))))) (Q:AV→Heap→Prop) (h :
(∃ y0:Bool,
 (Need (E 22 [(.tv [] qt0 (x0_0,(x0_1,(x0_2,(x0_3,(x0_4,()))))))] [] (.tv [] .bool y0) []) ∧
 ((((!y0)=true) →
 (Q (.tup [(.tv [] .str (List.map (fun v2=>(((BitVec.toNat (UInt8.toBitVec v2)):Nat):Int)) [])),(.tv [] (.int .i64) (1:Int))]) [])) ∧
 (((!y0)=false) →
 (∃ y4:(Int→(qT0→Prop)),
 (∃ y5:(Int→(qT0→Nat)),
 ((y4 (0:Int) []) ∧
 (∀ z6:Int,
 (∀ z7:qT0,
 ((y4 z6 z7) →
 ((((decide (z6<(x0_0.length:Int)))=true) →
 (Need ((0≤z6)∧(z6<(x0_0.length:Int))) ∧
 (∃ y10:qT0,
 (Need (E 25 [(.tv [] qt8 (List.getD x0_0 z6.toNat (([]:List Int),(([],([],(false,()))),()))).2.1)] [] (.tv [] .str y10) []) ∧
 (∃ y11:qT0,
 (Need (E 32 [(.op (0,0) []),(.tv [] qt10 [(List.map (fun v12=>(((BitVec.toNat (UInt8.toBitVec v12)):Nat):Int)) [(37:UInt8),(116:UInt8),(111:UInt8),(107:UInt8),(101:UInt8),(110:UInt8)]),(List.getD x0_0 z6.toNat (([]:List Int),(([],([],(false,()))),()))).1,y10])] (hq4 z7) (.tup []) (hq4 y11)) ∧
 (Need ((-9223372036854775808≤(z6+1))∧((z6+1)≤9223372036854775807)) ∧
 ((y4 (z6+1) y11) ∧
  Need ((y5 (z6+1) y11)<(y5 z6 z7)))))))))) ∧
 (((decide (z6<(x0_0.length:Int)))=false) →
 (∃ y14:(Int→(qT0→Prop)),
 (∃ y15:(Int→(qT0→Nat)),
 ((y14 (0:Int) z7) ∧
 (∀ z16:Int,
 (∀ z17:qT0,
 ((y14 z16 z17) →
 ((((decide (z16<(x0_1.length:Int)))=true) →
 (Need ((0≤z16)∧(z16<(x0_1.length:Int))) ∧
 (∃ y20:qT0,
 (Need (E 25 [(.tv [] qt8 (List.getD x0_1 z16.toNat ([],([],(false,())))))] [] (.tv [] .str y20) []) ∧
 (∃ y21:qT0,
 (Need (E 32 [(.op (0,0) []),(.tv [] qt10 [(List.map (fun v22=>(((BitVec.toNat (UInt8.toBitVec v22)):Nat):Int)) [(37:UInt8),(115:UInt8),(107:UInt8),(105:UInt8),(112:UInt8)]),y20])] (hq4 z17) (.tup []) (hq4 y21)) ∧
 (Need ((-9223372036854775808≤(z16+1))∧((z16+1)≤9223372036854775807)) ∧
 ((y14 (z16+1) y21) ∧
  Need ((y15 (z16+1) y21)<(y15 z16 z17)))))))))) ∧
 (((decide (z16<(x0_1.length:Int)))=false) →
 (∃ y24:(Int→(qT0→Prop)),
 (∃ y25:(Int→(qT0→Nat)),
 ((y24 (0:Int) z17) ∧
 (∀ z26:Int,
 (∀ z27:qT0,
 ((y24 z26 z27) →
 ((((decide (z26<(x0_2.length:Int)))=true) →
 (Need ((0≤z26)∧(z26<(x0_2.length:Int))) ∧
 (Need (((0:Int)≤(List.getD x0_2 z26.toNat ((0:Int),([],()))).1)∧((List.getD x0_2 z26.toNat ((0:Int),([],()))).1<(4:Int))) ∧
 (Need ((Int.toNat (List.getD x0_2 z26.toNat ((0:Int),([],()))).1)<4) ∧
 (Need (((List.length [(List.getD [[],(List.map (fun v30=>(((BitVec.toNat (UInt8.toBitVec v30)):Nat):Int)) [(37:UInt8),(108:UInt8),(101:UInt8),(102:UInt8),(116:UInt8)]),(List.map (fun v31=>(((BitVec.toNat (UInt8.toBitVec v31)):Nat):Int)) [(37:UInt8),(114:UInt8),(105:UInt8),(103:UInt8),(104:UInt8),(116:UInt8)]),(List.map (fun v32=>(((BitVec.toNat (UInt8.toBitVec v32)):Nat):Int)) [(37:UInt8),(110:UInt8),(111:UInt8),(110:UInt8),(97:UInt8),(115:UInt8),(115:UInt8),(111:UInt8),(99:UInt8)])] (Int.toNat (List.getD x0_2 z26.toNat ((0:Int),([],()))).1) [])])+(List.length (List.getD x0_2 z26.toNat ((0:Int),([],()))).2.1))≤bigN) ∧
 (∃ y33:qT0,
 (Need (E 32 [(.op (0,0) []),(.tv [] qt10 ([(List.getD [[],(List.map (fun v34=>(((BitVec.toNat (UInt8.toBitVec v34)):Nat):Int)) [(37:UInt8),(108:UInt8),(101:UInt8),(102:UInt8),(116:UInt8)]),(List.map (fun v35=>(((BitVec.toNat (UInt8.toBitVec v35)):Nat):Int)) [(37:UInt8),(114:UInt8),(105:UInt8),(103:UInt8),(104:UInt8),(116:UInt8)]),(List.map (fun v36=>(((BitVec.toNat (UInt8.toBitVec v36)):Nat):Int)) [(37:UInt8),(110:UInt8),(111:UInt8),(110:UInt8),(97:UInt8),(115:UInt8),(115:UInt8),(111:UInt8),(99:UInt8)])] (Int.toNat (List.getD x0_2 z26.toNat ((0:Int),([],()))).1) [])]++(List.getD x0_2 z26.toNat ((0:Int),([],()))).2.1))] (hq4 z27) (.tup []) (hq4 y33)) ∧
 (Need ((-9223372036854775808≤(z26+1))∧((z26+1)≤9223372036854775807)) ∧
 (Need ([[],(List.map (fun v37=>(((BitVec.toNat (UInt8.toBitVec v37)):Nat):Int)) [(37:UInt8),(108:UInt8),(101:UInt8),(102:UInt8),(116:UInt8)]),(List.map (fun v38=>(((BitVec.toNat (UInt8.toBitVec v38)):Nat):Int)) [(37:UInt8),(114:UInt8),(105:UInt8),(103:UInt8),(104:UInt8),(116:UInt8)]),(List.map (fun v39=>(((BitVec.toNat (UInt8.toBitVec v39)):Nat):Int)) [(37:UInt8),(110:UInt8),(111:UInt8),(110:UInt8),(97:UInt8),(115:UInt8),(115:UInt8),(111:UInt8),(99:UInt8)])]=[[],(List.map (fun v40=>(((BitVec.toNat (UInt8.toBitVec v40)):Nat):Int)) [(37:UInt8),(108:UInt8),(101:UInt8),(102:UInt8),(116:UInt8)]),(List.map (fun v41=>(((BitVec.toNat (UInt8.toBitVec v41)):Nat):Int)) [(37:UInt8),(114:UInt8),(105:UInt8),(103:UInt8),(104:UInt8),(116:UInt8)]),(List.map (fun v42=>(((BitVec.toNat (UInt8.toBitVec v42)):Nat):Int)) [(37:UInt8),(110:UInt8),(111:UInt8),(110:UInt8),(97:UInt8),(115:UInt8),(115:UInt8),(111:UInt8),(99:UInt8)])]) ∧
 ((y24 (z26+1) y33) ∧
  Need ((y25 (z26+1) y33)<(y25 z26 z27)))))))))))) ∧
 (((decide (z26<(x0_2.length:Int)))=false) →
 (∃ y44:qT0,
 (Need (E 32 [(.op (0,0) []),(.tv [] qt10 [(List.map (fun v45=>(((BitVec.toNat (UInt8.toBitVec v45)):Nat):Int)) [(37:UInt8),(115:UInt8),(116:UInt8),(97:UInt8),(114:UInt8),(116:UInt8)]),x0_3])] (hq4 z27) (.tup []) (hq4 y44)) ∧
 (∃ y46:qT0,
 (Need (E 32 [(.op (0,0) []),(.tv [] qt10 [(List.map (fun v47=>(((BitVec.toNat (UInt8.toBitVec v47)):Nat):Int)) [(37:UInt8),(37:UInt8)])])] (hq4 y44) (.tup []) (hq4 y46)) ∧
 (∃ y48:(Int→(qT0→Prop)),
 (∃ y49:(Int→(qT0→Nat)),
 ((y48 (0:Int) y46) ∧
 (∀ z50:Int,
 (∀ z51:qT0,
 ((y48 z50 z51) →
 ((((decide (z50<(x0_4.length:Int)))=true) →
 (Need ((0≤z50)∧(z50<(x0_4.length:Int))) ∧
 (∃ y54:qT0,
 (Need (E 23 [(.tv [] qt9 (List.getD x0_4 z50.toNat ([],([],([],([],()))))))] [] (.tv [] .str y54) []) ∧
 (∃ y55:qT0,
 (Need (E 32 [(.op (0,0) []),(.tv [] qt10 [y54])] (hq4 z51) (.tup []) (hq4 y55)) ∧
 (Need ((-9223372036854775808≤(z50+1))∧((z50+1)≤9223372036854775807)) ∧
 (Need ([[],(List.map (fun v56=>(((BitVec.toNat (UInt8.toBitVec v56)):Nat):Int)) [(37:UInt8),(108:UInt8),(101:UInt8),(102:UInt8),(116:UInt8)]),(List.map (fun v57=>(((BitVec.toNat (UInt8.toBitVec v57)):Nat):Int)) [(37:UInt8),(114:UInt8),(105:UInt8),(103:UInt8),(104:UInt8),(116:UInt8)]),(List.map (fun v58=>(((BitVec.toNat (UInt8.toBitVec v58)):Nat):Int)) [(37:UInt8),(110:UInt8),(111:UInt8),(110:UInt8),(97:UInt8),(115:UInt8),(115:UInt8),(111:UInt8),(99:UInt8)])]=[[],(List.map (fun v59=>(((BitVec.toNat (UInt8.toBitVec v59)):Nat):Int)) [(37:UInt8),(108:UInt8),(101:UInt8),(102:UInt8),(116:UInt8)]),(List.map (fun v60=>(((BitVec.toNat (UInt8.toBitVec v60)):Nat):Int)) [(37:UInt8),(114:UInt8),(105:UInt8),(103:UInt8),(104:UInt8),(116:UInt8)]),(List.map (fun v61=>(((BitVec.toNat (UInt8.toBitVec v61)):Nat):Int)) [(37:UInt8),(110:UInt8),(111:UInt8),(110:UInt8),(97:UInt8),(115:UInt8),(115:UInt8),(111:UInt8),(99:UInt8)])]) ∧
 ((y48 (z50+1) y55) ∧
  Need ((y49 (z50+1) y55)<(y49 z50 z51))))))))))) ∧
 (((decide (z50<(x0_4.length:Int)))=false) →
 (∃ y63:Int,
 (∃ y64:qT0,
 (Need (E 33 [(.op (0,0) [0])] (hq4 z51) (.tv [] (.int .i64) y63) (hq4 y64)) ∧
 ((((decide (4000<y63))=true) →
 (Q (.tup [(.tv [] .str (List.map (fun v66=>(((BitVec.toNat (UInt8.toBitVec v66)):Nat):Int)) [])),(.tv [] (.int .i64) (12:Int))]) [])) ∧
 (((decide (4000<y63))=false) →
 (∃ y68 y69:qT0,
 (Need (E 34 [(.op (0,0) [0])] (hq4 y64) (.tv [] .str y68) [((0,0),⟨⟨(.pair (.pair .wref qt6) .unit),(((some (0,0)),(y69,())),())⟩,[]⟩)]) ∧
 (Q (.tup [(.tv [] .str y68),(.tv [] (.int .i64) (0:Int))]) []))))))))))))))))))))))))))))))))))))))))))))))))):EvF PP orc 20 [.tv [] qt0 (x0_0,(x0_1,(x0_2,(x0_3,(x0_4,())))))] [] Q:=vc_of (by kernel_rfl) h
end Go.Am.R
