/-
  A part of the proof of a law: see the text that states it.
-/
import Derived.Test.YtggaihkjnomflaaDoorHead
set_option linter.all false
namespace Go.Am.D
open Go
set_option maxRecDepth 100000
set_option maxHeartbeats 4000000
theorem vc62 (x0:Int) (Q:AV→Heap→Prop) (h :
((((decide (x0=(95:Int)))=true) →
 (Q (.tv [] .bool true) [])) ∧
 (((decide (x0=(95:Int)))=false) →
 ((((decide ((97:Int)≤(IntKind.wrap .u8 (((BitVec.toNat ((BitVec.ofInt 8 x0) ||| (BitVec.ofInt 8 (32:Int)))):Nat):Int))))=true) →
 (Q (.tv [] .bool (decide ((IntKind.wrap .u8 (((BitVec.toNat ((BitVec.ofInt 8 x0) ||| (BitVec.ofInt 8 (32:Int)))):Nat):Int))≤(122:Int)))) [])) ∧
 (((decide ((97:Int)≤(IntKind.wrap .u8 (((BitVec.toNat ((BitVec.ofInt 8 x0) ||| (BitVec.ofInt 8 (32:Int)))):Nat):Int))))=false) →
 (Q (.tv [] .bool false) [])))))):EvF PP orc 62 [.tv [] (.int .u8) x0] [] Q:=vc_of (by kernel_rfl) h
theorem vc63 (x0:List Int) (x1:Int) (Q:AV→Heap→Prop) (h :
(∃ y0:(Int→Prop),
 (∃ y1:(Int→Nat),
 ((y0 (0:Int)) ∧
 (∀ z2:Int,
 ((y0 z2) →
 (Need ((-9223372036854775808≤(x1+z2))∧((x1+z2)≤9223372036854775807)) ∧
 ((((decide ((x1+z2)<(x0.length:Int)))=true) →
 (Need ((-9223372036854775808≤(x1+z2))∧((x1+z2)≤9223372036854775807)) ∧
 (Need (((0:Int)≤(x1+z2))∧((x1+z2)<(x0.length:Int))) ∧
 (∃ y5:Bool,
 (Need (E (64:FuncId) [(.tv [] (.int .u8) (List.getD x0 (Int.toNat (x1+z2)) (0:Int)))] [] (.tv [] .bool y5) []) ∧
 (((y5=true) →
 (Need ((-9223372036854775808≤(z2+1))∧((z2+1)≤9223372036854775807)) ∧
 ((y0 (z2+1)) ∧
   Need ((y1 (z2+1))<(y1 z2))))) ∧
 ((y5=false) →
 (Q (.tv [] (.int .i64) z2) [])))))))) ∧
 (((decide ((x1+z2)<(x0.length:Int)))=false) →
 (Q (.tv [] (.int .i64) z2) [])))))))))):EvF PP orc 63 [.tv [] .str x0,.tv [] (.int .i64) x1,.fn 64 [] []] [] Q:=vc_of (by kernel_rfl) h
theorem vc63002 (x0:List Int) (x1:Int) (Q:AV→Heap→Prop) (h :
(∃ y0:(Int→Prop),
 (∃ y1:(Int→Nat),
 ((y0 (0:Int)) ∧
 (∀ z2:Int,
 ((y0 z2) →
 (Need ((-9223372036854775808≤(x1+z2))∧((x1+z2)≤9223372036854775807)) ∧
 ((((decide ((x1+z2)<(x0.length:Int)))=true) →
 (Need ((-9223372036854775808≤(x1+z2))∧((x1+z2)≤9223372036854775807)) ∧
 (Need (((0:Int)≤(x1+z2))∧((x1+z2)<(x0.length:Int))) ∧
 (∃ y5:Bool,
 (Need (E (79:FuncId) [(.tv [] (.int .u8) (List.getD x0 (Int.toNat (x1+z2)) (0:Int)))] [] (.tv [] .bool y5) []) ∧
 (((y5=true) →
 (Need ((-9223372036854775808≤(z2+1))∧((z2+1)≤9223372036854775807)) ∧
 ((y0 (z2+1)) ∧
   Need ((y1 (z2+1))<(y1 z2))))) ∧
 ((y5=false) →
 (Q (.tv [] (.int .i64) z2) [])))))))) ∧
 (((decide ((x1+z2)<(x0.length:Int)))=false) →
 (Q (.tv [] (.int .i64) z2) [])))))))))):EvF PP orc 63 [.tv [] .str x0,.tv [] (.int .i64) x1,.fn 79 [] []] [] Q:=vc_of (by kernel_rfl) h
theorem vc64 (x0:Int) (Q:AV→Heap→Prop) (h :
(∃ y0:Bool,
 (Need (E 62 [(.tv [] (.int .u8) x0)] [] (.tv [] .bool y0) []) ∧
 (((y0=true) →
 (Q (.tv [] .bool true) [])) ∧
 ((y0=false) →
 ((((decide (48≤x0))=true) →
 (Q (.tv [] .bool (decide (x0≤57))) [])) ∧
 (((decide (48≤x0))=false) →
 (Q (.tv [] .bool false) [])))))))):EvF PP orc 64 [.tv [] (.int .u8) x0] [] Q:=vc_of (by kernel_rfl) h
theorem vc54 (x0:List Int) (Q:AV→Heap→Prop) (h :
((((!(decide (x0=[])))=true) →
 (Need (((0:Int)≤(0:Int))∧((0:Int)<(x0.length:Int))) ∧
 (∃ y1:Bool,
 (Need (E 62 [(.tv [] (.int .u8) (List.getD x0 0 (0:Int)))] [] (.tv [] .bool y1) []) ∧
 (((y1=true) →
 (∃ y3:Int,
 (Need (E 63 [(.tv [] .str x0),(.tv [] (.int .i64) (0:Int)),(.fn 64 [] [])] [] (.tv [] (.int .i64) y3) []) ∧
 (Q (.tv [] .bool (decide (y3=(x0.length:Int)))) [])))) ∧
 ((y1=false) →
 (Q (.tv [] .bool false) []))))))) ∧
 (((!(decide (x0=[])))=false) →
 (Q (.tv [] .bool false) [])))):EvF PP orc 54 [.tv [] .str x0] [] Q:=vc_of (by kernel_rfl) h
theorem vc79 (x0:Int) (Q:AV→Heap→Prop) (h :
((((decide (97≤x0))=true) →
 (Q (.tv [] .bool (decide (x0≤122))) [])) ∧
 (((decide (97≤x0))=false) →
 (Q (.tv [] .bool false) [])))):EvF PP orc 79 [.tv [] (.int .u8) x0] [] Q:=vc_of (by kernel_rfl) h
theorem vc80 (x0:List Int) (x1:Int) (x2:List Int) (Q:AV→Heap→Prop) (h :
(Need ((-9223372036854775808≤(x1+1))∧((x1+1)≤9223372036854775807)) ∧
 ((((decide ((x1+1)<(x0.length:Int)))=true) →
 (Need ((-9223372036854775808≤(x1+1))∧((x1+1)≤9223372036854775807)) ∧
 (Need (((0:Int)≤(x1+1))∧((x1+1)<(x0.length:Int))) ∧
 (∃ y1:Int,
 (Need (E 61 [(.tv [] .str x2),(.tv [] (.int .u8) (List.getD x0 (Int.toNat (x1+1)) (0:Int)))] [] (.tv [] (.int .i64) y1) []) ∧
 ((((decide (0≤y1))=true) →
 (∃ y3:(Int→Prop),
 (∃ y4:(Int→Nat),
 ((y3 (0:Int)) ∧
 (∀ z5:Int,
 ((y3 z5) →
 ((((decide (z5<6))=true) →
 (Need ((0≤z5)∧(z5<6)) ∧
 (Need (((0:Int)≤(0:Int))∧((0:Int)<(2:Int))) ∧
 (Need (0<2) ∧
 (Need ((-9223372036854775808≤(x1+1))∧((x1+1)≤9223372036854775807)) ∧
 (Need (((0:Int)≤(x1+1))∧((x1+1)<(x0.length:Int))) ∧
 ((((decide ((List.getD (List.getD D.escapesL z5.toNat [(0:Int),(0:Int)]) 0 (0:Int))=(List.getD x0 (Int.toNat (x1+1)) (0:Int))))=true) →
 (Need (((0:Int)≤(1:Int))∧((1:Int)<(2:Int))) ∧
 (Need (1<2) ∧
 (Q (.tup [(.tv [] (.int .u8) (List.getD (List.getD D.escapesL z5.toNat [(0:Int),(0:Int)]) 1 (0:Int))),(.tv [] .ref (Option.none ))]) [])))) ∧
 (((decide ((List.getD (List.getD D.escapesL z5.toNat [(0:Int),(0:Int)]) 0 (0:Int))=(List.getD x0 (Int.toNat (x1+1)) (0:Int))))=false) →
 (Need ((-9223372036854775808≤(z5+1))∧((z5+1)≤9223372036854775807)) ∧
 ((y3 (z5 + 1)) ∧
    Need ((y4 (z5+1))<(y4 z5)))))))))))) ∧
 (((decide (z5<6))=false) →
 (Q (.tup [(.tv [] (.int .u8) (0:Int)),(.op (1,0) [])]) (hq2 (10:Int) x1)))))))))) ∧
 (((decide (0≤y1))=false) →
 (Q (.tup [(.tv [] (.int .u8) (0:Int)),(.op (1,0) [])]) (hq2 (10:Int) x1))))))))) ∧
 (((decide ((x1+1)<(x0.length:Int)))=false) →
 (Q (.tup [(.tv [] (.int .u8) (0:Int)),(.op (1,0) [])]) (hq2 (10:Int) x1)))))):EvF PP orc 80 [.tv [] .str x0,.tv [] (.int .i64) x1,.tv [] .str x2] [] Q:=vc_of (by kernel_rfl) h
theorem vc68 (x0:List Int) (x1:Int) (Q:AV→Heap→Prop) (h :
(∃ y0:(Int→(Int→Prop)),
 (∃ y1:(Int→(Int→Nat)),
 ((y0 (0:Int) x1) ∧
 (∀ z2 z3:Int,
 ((y0 z2 z3) →
 ((((decide (z3<(x0.length:Int)))=true) →
 (Need ((0≤z3)∧(z3<(x0.length:Int))) ∧
 ((((decide ((List.getD x0 z3.toNat (0:Int))=(123:Int)))=true) →
 (Need ((-9223372036854775808≤(z2+1))∧((z2+1)≤9223372036854775807)) ∧
 ((((decide ((4:Int)<(z2+1)))=true) →
 (Q (.tup [(.tv [] .str (List.map (fun v8=>(((BitVec.toNat (UInt8.toBitVec v8)):Nat):Int)) [])),(.tv [] (.int .i64) (0:Int)),(.op (1,0) [])]) (hq2 (13:Int) z3))) ∧
 (((decide ((4:Int)<(z2+1)))=false) →
 (Need ((-9223372036854775808≤(z3+1))∧((z3+1)≤9223372036854775807)) ∧
 ((y0 (z2+1) (z3+1)) ∧
   Need ((y1 (z2+1) (z3+1))<(y1 z2 z3)))))))) ∧
 (((decide ((List.getD x0 z3.toNat (0:Int))=(123:Int)))=false) →
 ((((decide ((List.getD x0 z3.toNat (0:Int))=(125:Int)))=true) →
 (Need ((-9223372036854775808≤(z2-1))∧((z2-1)≤9223372036854775807)) ∧
 ((((decide ((0:Int)<(z2-1)))=true) →
 (Need ((-9223372036854775808≤(z3+1))∧((z3+1)≤9223372036854775807)) ∧
 ((y0 (z2 - 1) (z3 + 1)) ∧
    Need ((y1 (z2-1) (z3+1))<(y1 z2 z3))))) ∧
 (((decide ((0:Int)<(z2-1)))=false) →
 (Need ((-9223372036854775808≤(z3-x1))∧((z3-x1)≤9223372036854775807)) ∧
 (Need ((-9223372036854775808≤((z3-x1)-(1:Int)))∧(((z3-x1)-(1:Int))≤9223372036854775807)) ∧
 ((((decide ((200:Int)<((z3-x1)-(1:Int))))=true) →
 (Q (.tup [(.tv [] .str (List.map (fun v15=>(((BitVec.toNat (UInt8.toBitVec v15)):Nat):Int)) [])),(.tv [] (.int .i64) (0:Int)),(.op (1,0) [])]) (hq2 (12:Int) x1))) ∧
 (((decide ((200:Int)<((z3-x1)-(1:Int))))=false) →
 (Need ((-9223372036854775808≤(x1+1))∧((x1+1)≤9223372036854775807)) ∧
 (Need (((0:Int)≤(x1+1))∧(((x1+1)≤z3)∧(z3≤(x0.length:Int)))) ∧
 (Need ((-9223372036854775808≤(z3+1))∧((z3+1)≤9223372036854775807)) ∧
 (Q (.tup [(.tv [] .str (cut x0 (Int.toNat (x1+1)) z3.toNat)),(.tv [] (.int .i64) (z3+1)),(.tv [] .ref (Option.none ))]) [])))))))))))) ∧
 (((decide ((List.getD x0 z3.toNat (0:Int))=(125:Int)))=false) →
 (Need ((-9223372036854775808≤(z3+1))∧((z3+1)≤9223372036854775807)) ∧
 ((y0 z2 (z3+1)) ∧
  Need ((y1 z2 (z3+1))<(y1 z2 z3)))))))))) ∧
 (((decide (z3<(x0.length:Int)))=false) →
 (Q (.tup [(.tv [] .str (List.map (fun v19=>(((BitVec.toNat (UInt8.toBitVec v19)):Nat):Int)) [])),(.tv [] (.int .i64) (0:Int)),(.op (1,0) [])]) (hq2 (11:Int) x1)))))))))):EvF PP orc 68 [.tv [] .str x0,.tv [] (.int .i64) x1] [] Q:=vc_of (by kernel_rfl) h
theorem vc69 (x0:Int) (Q:AV→Heap→Prop) (h :
((((decide (x0=(43:Int)))=true) →
 (Q (.tv [] (.int .i64) (5:Int)) [])) ∧
 (((decide (x0=(43:Int)))=false) →
 ((((decide (x0=(58:Int)))=true) →
 (Q (.tv [] (.int .i64) (6:Int)) [])) ∧
 (((decide (x0=(58:Int)))=false) →
 ((((decide (x0=(124:Int)))=true) →
 (Q (.tv [] (.int .i64) (7:Int)) [])) ∧
 (((decide (x0=(124:Int)))=false) →
 (Q (.tv [] (.int .i64) (8:Int)) [])))))))):EvF PP orc 69 [.tv [] (.int .u8) x0] [] Q:=vc_of (by kernel_rfl) h
theorem vc81 (x0:List (Bool)) (Q:AV→Heap→Prop) (h :
(∃ y0:(qT0→(Int→Prop)),
 (∃ y1:(qT0→(Int→Nat)),
 ((y0 [] (0:Int)) ∧
 (∀ z2:qT0,
 (∀ z3:Int,
 ((y0 z2 z3) →
 ((((decide (z3<256))=true) →
 (Need ((0≤z3)∧(z3<256)) ∧
 ((((List.getD x0 z3.toNat false)=true) →
 (Need ((0≤z3)∧(z3≤255)) ∧
 (Need ((z2.length+(List.length [z3]))≤bigN) ∧
 (Need ((-9223372036854775808≤(z3+1))∧((z3+1)≤9223372036854775807)) ∧
 (Need (x0=x0) ∧
 ((y0 (z2++[z3]) (z3+1)) ∧
   Need ((y1 (z2++[z3]) (z3+1))<(y1 z2 z3)))))))) ∧
 (((List.getD x0 z3.toNat false)=false) →
 (Need ((-9223372036854775808≤(z3+1))∧((z3+1)≤9223372036854775807)) ∧
 (Need (x0=x0) ∧
 ((y0 z2 (z3+1)) ∧
  Need ((y1 z2 (z3+1))<(y1 z2 z3))))))))) ∧
 (((decide (z3<256))=false) →
 (Q (.tv [] .str z2) [])))))))))):EvF PP orc 81 [.tv [] (.arr 0 256 .bool) x0] [] Q:=vc_of (by kernel_rfl) h
theorem vc82 (x0:List Int) (x1:Int) (Q:AV→Heap→Prop) (h :
(Need ((0≤x1)∧(x1<(x0.length:Int))) ∧
 ((((decide ((List.getD x0 x1.toNat (0:Int))≠(92:Int)))=true) →
 (Need ((0≤x1)∧(x1<(x0.length:Int))) ∧
 (Need ((-9223372036854775808≤(x1+1))∧((x1+1)≤9223372036854775807)) ∧
 (Q (.tup [(.tv [] (.int .u8) (List.getD x0 x1.toNat (0:Int))),(.tv [] (.int .i64) (x1+1)),(.tv [] .ref (Option.none ))]) [])))) ∧
 (((decide ((List.getD x0 x1.toNat (0:Int))≠(92:Int)))=false) →
 ((∃ y2 y3 y4:Int,
 (Need (E 80 [(.tv [] .str x0),(.tv [] (.int .i64) x1),(.tv [] .str (List.map (fun v5=>(((BitVec.toNat (UInt8.toBitVec v5)):Nat):Int)) [(92:UInt8),(93:UInt8),(45:UInt8),(110:UInt8),(116:UInt8)]))] [] (.tup [(.tv [] (.int .u8) y2),(.op (1,0) [])]) (hq2 y3 y4)) ∧
 (Need ((-9223372036854775808≤(x1+2))∧((x1+2)≤9223372036854775807)) ∧
 (Q (.tup [(.tv [] (.int .u8) y2),(.tv [] (.int .i64) (x1+2)),(.op (1,0) [])]) (hq2 y3 y4))))) ∨
 (∃ y6:Int,
 (Need (E 80 [(.tv [] .str x0),(.tv [] (.int .i64) x1),(.tv [] .str (List.map (fun v7=>(((BitVec.toNat (UInt8.toBitVec v7)):Nat):Int)) [(92:UInt8),(93:UInt8),(45:UInt8),(110:UInt8),(116:UInt8)]))] [] (.tup [(.tv [] (.int .u8) y6),(.tv [] .ref (Option.none ))]) []) ∧
 (Need ((-9223372036854775808≤(x1+2))∧((x1+2)≤9223372036854775807)) ∧
 (Q (.tup [(.tv [] (.int .u8) y6),(.tv [] (.int .i64) (x1+2)),(.tv [] .ref (Option.none ))]) []))))))))):EvF PP orc 82 [.tv [] .str x0,.tv [] (.int .i64) x1] [] Q:=vc_of (by kernel_rfl) h
theorem vc65 (x0:List Int) (x1:Int) (Q:AV→Heap→Prop) (h :
(Need ((-9223372036854775808≤(x1+1))∧((x1+1)≤9223372036854775807)) ∧
 (∃ y0:Int,
 (Need (E 63 [(.tv [] .str x0),(.tv [] (.int .i64) (x1+1)),(.fn 79 [] [])] [] (.tv [] (.int .i64) y0) []) ∧
 (Need ((-9223372036854775808≤(x1+1))∧((x1+1)≤9223372036854775807)) ∧
 ((((decide ((x1+1)<(x0.length:Int)))=true) →
 (Need ((-9223372036854775808≤(x1+1))∧((x1+1)≤9223372036854775807)) ∧
 (Need (((0:Int)≤(x1+1))∧((x1+1)<(x0.length:Int))) ∧
 ((((decide ((List.getD x0 (Int.toNat (x1+1)) (0:Int))=(37:Int)))=true) →
 (Need ((-9223372036854775808≤(x1+1))∧((x1+1)≤9223372036854775807)) ∧
 (Need ((-9223372036854775808≤(x1+1))∧((x1+1)≤9223372036854775807)) ∧
 (Need ((-9223372036854775808≤((x1+1)+(1:Int)))∧(((x1+1)+(1:Int))≤9223372036854775807)) ∧
 (Need (((0:Int)≤(x1+1))∧(((x1+1)≤((x1+1)+(1:Int)))∧(((x1+1)+(1:Int))≤(x0.length:Int)))) ∧
 (∃ y3:Bool,
 (Need (E 23 [(.tv [] qt9 D.wordsL),(.tv [] .str (cut x0 (Int.toNat (x1+1)) (Int.toNat ((x1+1)+(1:Int)))))] [] (.tv [] .bool y3) []) ∧
 ((((!y3)=true) →
 (Q (.tup [(.tv [] .str (List.map (fun v5=>(((BitVec.toNat (UInt8.toBitVec v5)):Nat):Int)) [])),(.tv [] (.int .i64) (0:Int)),(.op (1,0) [])]) (hq2 (10:Int) x1))) ∧
 (((!y3)=false) →
 (Need ((-9223372036854775808≤(x1+1))∧((x1+1)≤9223372036854775807)) ∧
 (Need ((-9223372036854775808≤((x1+1)+(1:Int)))∧(((x1+1)+(1:Int))≤9223372036854775807)) ∧
 (Q (.tup [(.tv [] .str (cut x0 (Int.toNat (x1+1)) (Int.toNat ((x1+1)+(1:Int))))),(.tv [] (.int .i64) ((x1+1)+(1:Int))),(.tv [] .ref (Option.none ))]) [])))))))))))) ∧
 (((decide ((List.getD x0 (Int.toNat (x1+1)) (0:Int))=(37:Int)))=false) →
 (Need ((-9223372036854775808≤(x1+1))∧((x1+1)≤9223372036854775807)) ∧
 (Need ((-9223372036854775808≤(x1+1))∧((x1+1)≤9223372036854775807)) ∧
 (Need ((-9223372036854775808≤((x1+1)+y0))∧(((x1+1)+y0)≤9223372036854775807)) ∧
 (Need (((0:Int)≤(x1+1))∧(((x1+1)≤((x1+1)+y0))∧(((x1+1)+y0)≤(x0.length:Int)))) ∧
 (∃ y8:Bool,
 (Need (E 23 [(.tv [] qt9 D.wordsL),(.tv [] .str (cut x0 (Int.toNat (x1+1)) (Int.toNat ((x1+1)+y0))))] [] (.tv [] .bool y8) []) ∧
 ((((!y8)=true) →
 (Q (.tup [(.tv [] .str (List.map (fun v10=>(((BitVec.toNat (UInt8.toBitVec v10)):Nat):Int)) [])),(.tv [] (.int .i64) (0:Int)),(.op (1,0) [])]) (hq2 (10:Int) x1))) ∧
 (((!y8)=false) →
 (Need ((-9223372036854775808≤(x1+1))∧((x1+1)≤9223372036854775807)) ∧
 (Need ((-9223372036854775808≤((x1+1)+y0))∧(((x1+1)+y0)≤9223372036854775807)) ∧
 (Q (.tup [(.tv [] .str (cut x0 (Int.toNat (x1+1)) (Int.toNat ((x1+1)+y0)))),(.tv [] (.int .i64) ((x1+1)+y0)),(.tv [] .ref (Option.none ))]) [])))))))))))))))) ∧
 (((decide ((x1+1)<(x0.length:Int)))=false) →
 (Need ((-9223372036854775808≤(x1+1))∧((x1+1)≤9223372036854775807)) ∧
 (Need ((-9223372036854775808≤(x1+1))∧((x1+1)≤9223372036854775807)) ∧
 (Need ((-9223372036854775808≤((x1+1)+y0))∧(((x1+1)+y0)≤9223372036854775807)) ∧
 (Need (((0:Int)≤(x1+1))∧(((x1+1)≤((x1+1)+y0))∧(((x1+1)+y0)≤(x0.length:Int)))) ∧
 (∃ y13:Bool,
 (Need (E 23 [(.tv [] qt9 D.wordsL),(.tv [] .str (cut x0 (Int.toNat (x1+1)) (Int.toNat ((x1+1)+y0))))] [] (.tv [] .bool y13) []) ∧
 ((((!y13)=true) →
 (Q (.tup [(.tv [] .str (List.map (fun v15=>(((BitVec.toNat (UInt8.toBitVec v15)):Nat):Int)) [])),(.tv [] (.int .i64) (0:Int)),(.op (1,0) [])]) (hq2 (10:Int) x1))) ∧
 (((!y13)=false) →
 (Need ((-9223372036854775808≤(x1+1))∧((x1+1)≤9223372036854775807)) ∧
 (Need ((-9223372036854775808≤((x1+1)+y0))∧(((x1+1)+y0)≤9223372036854775807)) ∧
 (Q (.tup [(.tv [] .str (cut x0 (Int.toNat (x1+1)) (Int.toNat ((x1+1)+y0)))),(.tv [] (.int .i64) ((x1+1)+y0)),(.tv [] .ref (Option.none ))]) [])))))))))))))))))):EvF PP orc 65 [.tv [] .str x0,.tv [] (.int .i64) x1] [] Q:=vc_of (by kernel_rfl) h
theorem vc66 (x0:List Int) (x1:Int) (Q:AV→Heap→Prop) (h :
(Need ((-9223372036854775808≤(x1+1))∧((x1+1)≤9223372036854775807)) ∧
 (∃ y0:(qT0→(Int→Prop)),
 (∃ y1:(qT0→(Int→Nat)),
 ((y0 [] (x1+1)) ∧
 (∀ z2:qT0,
 (∀ z3:Int,
 ((y0 z2 z3) →
 ((((decide (z3<(x0.length:Int)))=true) →
 (Need ((0≤z3)∧(z3<(x0.length:Int))) ∧
 ((((decide ((List.getD x0 z3.toNat (0:Int))≠(10:Int)))=true) →
 (Need ((0≤z3)∧(z3<(x0.length:Int))) ∧
 ((((decide ((List.getD x0 z3.toNat (0:Int))=(34:Int)))=true) →
 ((((decide ((z2.length:Int)=(0:Int)))=true) →
 (Q (.tup [(.tv [] .str (List.map (fun v9=>(((BitVec.toNat (UInt8.toBitVec v9)):Nat):Int)) [])),(.tv [] (.int .i64) (0:Int)),(.op (1,0) [])]) (hq2 (10:Int) x1))) ∧
 (((decide ((z2.length:Int)=(0:Int)))=false) →
 ((((decide ((32:Int)<(z2.length:Int)))=true) →
 (Q (.tup [(.tv [] .str (List.map (fun v12=>(((BitVec.toNat (UInt8.toBitVec v12)):Nat):Int)) [])),(.tv [] (.int .i64) (0:Int)),(.op (1,0) [])]) (hq2 (12:Int) x1))) ∧
 (((decide ((32:Int)<(z2.length:Int)))=false) →
 (Need ((-9223372036854775808≤(z3+1))∧((z3+1)≤9223372036854775807)) ∧
 (Q (.tup [(.tv [] .str z2),(.tv [] (.int .i64) (z3+1)),(.tv [] .ref (Option.none ))]) []))))))) ∧
 (((decide ((List.getD x0 z3.toNat (0:Int))=(34:Int)))=false) →
 ((((decide ((List.getD x0 z3.toNat (0:Int))=(92:Int)))=true) →
 ((∃ y16 y17 y18:Int,
 (Need (E 80 [(.tv [] .str x0),(.tv [] (.int .i64) z3),(.tv [] .str (List.map (fun v19=>(((BitVec.toNat (UInt8.toBitVec v19)):Nat):Int)) [(92:UInt8),(34:UInt8),(110:UInt8),(116:UInt8)]))] [] (.tup [(.tv [] (.int .u8) y16),(.op (1,0) [])]) (hq2 y17 y18)) ∧
 ((((!false)=true) →
 (Q (.tup [(.tv [] .str (List.map (fun v21=>(((BitVec.toNat (UInt8.toBitVec v21)):Nat):Int)) [])),(.tv [] (.int .i64) (0:Int)),(.op (1,0) [])]) (hq2 y17 y18))) ∧
 (((!false)=false) →
 (Need ((z2.length+(List.length [y16]))≤bigN) ∧
 (Need ((-9223372036854775808≤(z3+1))∧((z3+1)≤9223372036854775807)) ∧
 (Need ((-9223372036854775808≤((z3+1)+(1:Int)))∧(((z3+1)+(1:Int))≤9223372036854775807)) ∧
 ((y0 (z2 ++ [y16]) ((z3 + 1) + (1 : Int))) ∧
     Need ((y1 (z2++[y16]) ((z3+1)+(1:Int)))<(y1 z2 z3)))))))))) ∨
 (∃ y23:Int,
 (Need (E 80 [(.tv [] .str x0),(.tv [] (.int .i64) z3),(.tv [] .str (List.map (fun v24=>(((BitVec.toNat (UInt8.toBitVec v24)):Nat):Int)) [(92:UInt8),(34:UInt8),(110:UInt8),(116:UInt8)]))] [] (.tup [(.tv [] (.int .u8) y23),(.tv [] .ref (Option.none ))]) []) ∧
 ((((!true)=true) →
 (Q (.tup [(.tv [] .str (List.map (fun v26=>(((BitVec.toNat (UInt8.toBitVec v26)):Nat):Int)) [])),(.tv [] (.int .i64) (0:Int)),(.tv [] .ref (Option.none ))]) [])) ∧
 (((!true)=false) →
 (Need ((z2.length+(List.length [y23]))≤bigN) ∧
 (Need ((-9223372036854775808≤(z3+1))∧((z3+1)≤9223372036854775807)) ∧
 (Need ((-9223372036854775808≤((z3+1)+(1:Int)))∧(((z3+1)+(1:Int))≤9223372036854775807)) ∧
 ((y0 (z2 ++ [y23]) ((z3 + 1) + (1 : Int))) ∧
    Need ((y1 (z2++[y23]) ((z3+1)+(1:Int)))<(y1 z2 z3)))))))))))) ∧
 (((decide ((List.getD x0 z3.toNat (0:Int))=(92:Int)))=false) →
 (Need ((0≤z3)∧(z3<(x0.length:Int))) ∧
 (Need ((z2.length+(List.length [(List.getD x0 z3.toNat (0:Int))]))≤bigN) ∧
 (Need ((-9223372036854775808≤(z3+1))∧((z3+1)≤9223372036854775807)) ∧
 ((y0 (z2++[(List.getD x0 z3.toNat (0:Int))]) (z3+1)) ∧
   Need ((y1 (z2++[(List.getD x0 z3.toNat (0:Int))]) (z3+1))<(y1 z2 z3)))))))))))) ∧
 (((decide ((List.getD x0 z3.toNat (0:Int))≠(10:Int)))=false) →
 (Q (.tup [(.tv [] .str (List.map (fun v30=>(((BitVec.toNat (UInt8.toBitVec v30)):Nat):Int)) [])),(.tv [] (.int .i64) (0:Int)),(.op (1,0) [])]) (hq2 (11:Int) x1)))))) ∧
 (((decide (z3<(x0.length:Int)))=false) →
 (Q (.tup [(.tv [] .str (List.map (fun v32=>(((BitVec.toNat (UInt8.toBitVec v32)):Nat):Int)) [])),(.tv [] (.int .i64) (0:Int)),(.op (1,0) [])]) (hq2 (11:Int) x1)))))))))))):EvF PP orc 66 [.tv [] .str x0,.tv [] (.int .i64) x1] [] Q:=vc_of (by kernel_rfl) h
theorem vc67 (x0:List Int) (x1:Int) (Q:AV→Heap→Prop) (h :
(Need ((-9223372036854775808≤(x1+1))∧((x1+1)≤9223372036854775807)) ∧
 (∃ y0:(Bool→(Int→(Int→((List Bool)→Prop)))),
 (∃ y1:(Bool→(Int→(Int→((List Bool)→Nat)))),
 ((y0 false (-(1:Int)) (x1+1) (List.replicate 256 false)) ∧
 (∀ z2:Bool,
 (∀ z3 z4:Int,
 (∀ z5:(List Bool),
 ((y0 z2 z3 z4 z5) →
 ((((decide (z4<(x0.length:Int)))=true) →
 (Need ((0≤z4)∧(z4<(x0.length:Int))) ∧
 ((((decide ((List.getD x0 z4.toNat (0:Int))≠(10:Int)))=true) →
 (Need ((0≤z4)∧(z4<(x0.length:Int))) ∧
 ((((decide ((List.getD x0 z4.toNat (0:Int))=(93:Int)))=true) →
 ((((!z2)=true) →
 (Q (.tup [(.tv [] .str (List.map (fun v11=>(((BitVec.toNat (UInt8.toBitVec v11)):Nat):Int)) [])),(.tv [] (.int .i64) (0:Int)),(.op (1,0) [])]) (hq2 (10:Int) x1))) ∧
 (((!z2)=false) →
 (∃ y13:qT0,
 (Need (E 81 [(.tv [] (.arr 0 256 .bool) z5)] [] (.tv [] .str y13) []) ∧
 (Need ((-9223372036854775808≤(z4+1))∧((z4+1)≤9223372036854775807)) ∧
 (Q (.tup [(.tv [] .str y13),(.tv [] (.int .i64) (z4+1)),(.tv [] .ref (Option.none ))]) []))))))) ∧
 (((decide ((List.getD x0 z4.toNat (0:Int))=(93:Int)))=false) →
 ((((decide ((List.getD x0 z4.toNat (0:Int))=(45:Int)))=true) →
 ((((decide (z3<0))=true) →
 (Q (.tup [(.tv [] .str (List.map (fun v17=>(((BitVec.toNat (UInt8.toBitVec v17)):Nat):Int)) [])),(.tv [] (.int .i64) (0:Int)),(.op (1,0) [])]) (hq2 (10:Int) z4))) ∧
 (((decide (z3<0))=false) →
 (Need ((-9223372036854775808≤(z4+1))∧((z4+1)≤9223372036854775807)) ∧
 ((((decide ((x0.length:Int)≤(z4+1)))=true) →
 (Q (.tup [(.tv [] .str (List.map (fun v20=>(((BitVec.toNat (UInt8.toBitVec v20)):Nat):Int)) [])),(.tv [] (.int .i64) (0:Int)),(.op (1,0) [])]) (hq2 (11:Int) x1))) ∧
 (((decide ((x0.length:Int)≤(z4+1)))=false) →
 (Need ((-9223372036854775808≤(z4+1))∧((z4+1)≤9223372036854775807)) ∧
 (Need (((0:Int)≤(z4+1))∧((z4+1)<(x0.length:Int))) ∧
 ((((decide ((List.getD x0 (Int.toNat (z4+1)) (0:Int))=(10:Int)))=true) →
 (Q (.tup [(.tv [] .str (List.map (fun v23=>(((BitVec.toNat (UInt8.toBitVec v23)):Nat):Int)) [])),(.tv [] (.int .i64) (0:Int)),(.op (1,0) [])]) (hq2 (11:Int) x1))) ∧
 (((decide ((List.getD x0 (Int.toNat (z4+1)) (0:Int))=(10:Int)))=false) →
 (Need ((-9223372036854775808≤(z4+1))∧((z4+1)≤9223372036854775807)) ∧
 (Need (((0:Int)≤(z4+1))∧((z4+1)<(x0.length:Int))) ∧
 ((((decide ((List.getD x0 (Int.toNat (z4+1)) (0:Int))=(93:Int)))=true) →
 (Q (.tup [(.tv [] .str (List.map (fun v26=>(((BitVec.toNat (UInt8.toBitVec v26)):Nat):Int)) [])),(.tv [] (.int .i64) (0:Int)),(.op (1,0) [])]) (hq2 (10:Int) z4))) ∧
 (((decide ((List.getD x0 (Int.toNat (z4+1)) (0:Int))=(93:Int)))=false) →
 (Need ((-9223372036854775808≤(z4+1))∧((z4+1)≤9223372036854775807)) ∧
 ((∃ y28 y29 y30 y31:Int,
 (Need (E 82 [(.tv [] .str x0),(.tv [] (.int .i64) (z4+1))] [] (.tup [(.tv [] (.int .u8) y28),(.tv [] (.int .i64) y29),(.op (1,0) [])]) (hq2 y30 y31)) ∧
 (((false=true) →
 (Need (((-9223372036854775808:Int)≤y28)∧(y28≤9223372036854775807)) ∧
 ((((decide (y28<z3))=true) →
 ((((!false)=true) →
 (Q (.tup [(.tv [] .str (List.map (fun v35=>(((BitVec.toNat (UInt8.toBitVec v35)):Nat):Int)) [])),(.tv [] (.int .i64) (0:Int)),(.op (1,0) [])]) (hq2 (10:Int) z4))) ∧
 (((!false)=false) →
 (∃ y37:(Int→(Int→(Int→(Int→(Int→((List Bool)→Prop)))))),
 (∃ y38:(Int→(Int→(Int→(Int→(Int→((List Bool)→Nat)))))),
 ((y37 z3 (10:Int) z4 y30 y31 z5) ∧
 (∀ z39 z40 z41 z42 z43:Int,
 (∀ z44:(List Bool),
 ((y37 z39 z40 z41 z42 z43 z44) →
 (Need (((-9223372036854775808:Int)≤y28)∧(y28≤9223372036854775807)) ∧
 ((((decide (z39≤y28))=true) →
 (Need ((0≤z39)∧(z39<256)) ∧
 (Need (z39.toNat<256) ∧
 (Need ((-9223372036854775808≤(z39+1))∧((z39+1)≤9223372036854775807)) ∧
 (Need (((11:Int),(x1,()))=((11:Int),(x1,()))) ∧
 ((y37 (z39 + 1) z40 z41 z42 z43 (List.set z44 z39.toNat true)) ∧
        Need ((y38 (z39+1) z40 z41 z42 z43 (List.set z44 z39.toNat true))<(y38 z39 z40 z41 z42 z43 z44)))))))) ∧
 (((decide (z39≤y28))=false) →
 (Need (((11:Int),(x1,()))=((11:Int),(x1,()))) ∧
 ((y0 z2 (-(1 : Int)) y29 z44) ∧
       Need ((y1 z2 (-(1:Int)) y29 z44)<(y1 z2 z3 z4 z5)))))))))))))))) ∧
 (((decide (y28<z3))=false) →
 ((((!false)=true) →
 (Q (.tup [(.tv [] .str (List.map (fun v50=>(((BitVec.toNat (UInt8.toBitVec v50)):Nat):Int)) [])),(.tv [] (.int .i64) (0:Int)),(.op (1,0) [])]) (hq2 y30 y31))) ∧
 (((!false)=false) →
 (∃ y52:(Int→(Int→(Int→((List Bool)→Prop)))),
 (∃ y53:(Int→(Int→(Int→((List Bool)→Nat)))),
 ((y52 z3 y30 y31 z5) ∧
 (∀ z54 z55 z56:Int,
 (∀ z57:(List Bool),
 ((y52 z54 z55 z56 z57) →
 (Need (((-9223372036854775808:Int)≤y28)∧(y28≤9223372036854775807)) ∧
 ((((decide (z54≤y28))=true) →
 (Need ((0≤z54)∧(z54<256)) ∧
 (Need (z54.toNat<256) ∧
 (Need ((-9223372036854775808≤(z54+1))∧((z54+1)≤9223372036854775807)) ∧
 (Need (((11:Int),(x1,()))=((11:Int),(x1,()))) ∧
 ((y52 (z54 + 1) z55 z56 (List.set z57 z54.toNat true)) ∧
       Need ((y53 (z54+1) z55 z56 (List.set z57 z54.toNat true))<(y53 z54 z55 z56 z57)))))))) ∧
 (((decide (z54≤y28))=false) →
 (Need (((11:Int),(x1,()))=((11:Int),(x1,()))) ∧
 ((y0 z2 (-(1 : Int)) y29 z57) ∧
      Need ((y1 z2 (-(1:Int)) y29 z57)<(y1 z2 z3 z4 z5))))))))))))))))))) ∧
 ((false=false) →
 ((((!false)=true) →
 (Q (.tup [(.tv [] .str (List.map (fun v63=>(((BitVec.toNat (UInt8.toBitVec v63)):Nat):Int)) [])),(.tv [] (.int .i64) (0:Int)),(.op (1,0) [])]) (hq2 y30 y31))) ∧
 (((!false)=false) →
 (∃ y65:(Int→(Int→(Int→((List Bool)→Prop)))),
 (∃ y66:(Int→(Int→(Int→((List Bool)→Nat)))),
 ((y65 z3 y30 y31 z5) ∧
 (∀ z67 z68 z69:Int,
 (∀ z70:(List Bool),
 ((y65 z67 z68 z69 z70) →
 (Need (((-9223372036854775808:Int)≤y28)∧(y28≤9223372036854775807)) ∧
 ((((decide (z67≤y28))=true) →
 (Need ((0≤z67)∧(z67<256)) ∧
 (Need (z67.toNat<256) ∧
 (Need ((-9223372036854775808≤(z67+1))∧((z67+1)≤9223372036854775807)) ∧
 (Need (((11:Int),(x1,()))=((11:Int),(x1,()))) ∧
 ((y65 (z67 + 1) z68 z69 (List.set z70 z67.toNat true)) ∧
      Need ((y66 (z67+1) z68 z69 (List.set z70 z67.toNat true))<(y66 z67 z68 z69 z70)))))))) ∧
 (((decide (z67≤y28))=false) →
 (Need (((11:Int),(x1,()))=((11:Int),(x1,()))) ∧
 ((y0 z2 (-(1 : Int)) y29 z70) ∧
     Need ((y1 z2 (-(1:Int)) y29 z70)<(y1 z2 z3 z4 z5))))))))))))))))))) ∨
 (∃ y74 y75:Int,
 (Need (E 82 [(.tv [] .str x0),(.tv [] (.int .i64) (z4+1))] [] (.tup [(.tv [] (.int .u8) y74),(.tv [] (.int .i64) y75),(.tv [] .ref (Option.none ))]) []) ∧
 (((true=true) →
 (Need (((-9223372036854775808:Int)≤y74)∧(y74≤9223372036854775807)) ∧
 ((((decide (y74<z3))=true) →
 ((((!false)=true) →
 (Q (.tup [(.tv [] .str (List.map (fun v79=>(((BitVec.toNat (UInt8.toBitVec v79)):Nat):Int)) [])),(.tv [] (.int .i64) (0:Int)),(.op (1,0) [])]) (hq2 (10:Int) z4))) ∧
 (((!false)=false) →
 (∃ y81:(Int→(Int→(Int→((List Bool)→Prop)))),
 (∃ y82:(Int→(Int→(Int→((List Bool)→Nat)))),
 ((y81 z3 (10:Int) z4 z5) ∧
 (∀ z83 z84 z85:Int,
 (∀ z86:(List Bool),
 ((y81 z83 z84 z85 z86) →
 (Need (((-9223372036854775808:Int)≤y74)∧(y74≤9223372036854775807)) ∧
 ((((decide (z83≤y74))=true) →
 (Need ((0≤z83)∧(z83<256)) ∧
 (Need (z83.toNat<256) ∧
 (Need ((-9223372036854775808≤(z83+1))∧((z83+1)≤9223372036854775807)) ∧
 (Need (((11:Int),(x1,()))=((11:Int),(x1,()))) ∧
 ((y81 (z83 + 1) z84 z85 (List.set z86 z83.toNat true)) ∧
       Need ((y82 (z83+1) z84 z85 (List.set z86 z83.toNat true))<(y82 z83 z84 z85 z86)))))))) ∧
 (((decide (z83≤y74))=false) →
 (Need (((11:Int),(x1,()))=((11:Int),(x1,()))) ∧
 ((y0 z2 (-(1 : Int)) y75 z86) ∧
      Need ((y1 z2 (-(1:Int)) y75 z86)<(y1 z2 z3 z4 z5)))))))))))))))) ∧
 (((decide (y74<z3))=false) →
 ((((!true)=true) →
 (Q (.tup [(.tv [] .str (List.map (fun v92=>(((BitVec.toNat (UInt8.toBitVec v92)):Nat):Int)) [])),(.tv [] (.int .i64) (0:Int)),(.tv [] .ref (Option.none ))]) [])) ∧
 (((!true)=false) →
 (∃ y94:(Int→((List Bool)→Prop)),
 (∃ y95:(Int→((List Bool)→Nat)),
 ((y94 z3 z5) ∧
 (∀ z96:Int,
 (∀ z97:(List Bool),
 ((y94 z96 z97) →
 (Need (((-9223372036854775808:Int)≤y74)∧(y74≤9223372036854775807)) ∧
 ((((decide (z96≤y74))=true) →
 (Need ((0≤z96)∧(z96<256)) ∧
 (Need (z96.toNat<256) ∧
 (Need ((-9223372036854775808≤(z96+1))∧((z96+1)≤9223372036854775807)) ∧
 (Need (((11:Int),(x1,()))=((11:Int),(x1,()))) ∧
 ((y94 (z96 + 1) (List.set z97 z96.toNat true)) ∧
      Need ((y95 (z96+1) (List.set z97 z96.toNat true))<(y95 z96 z97)))))))) ∧
 (((decide (z96≤y74))=false) →
 (Need (((11:Int),(x1,()))=((11:Int),(x1,()))) ∧
 ((y0 z2 (-(1 : Int)) y75 z97) ∧
     Need ((y1 z2 (-(1:Int)) y75 z97)<(y1 z2 z3 z4 z5))))))))))))))))))) ∧
 ((true=false) →
 ((((!true)=true) →
 (Q (.tup [(.tv [] .str (List.map (fun v103=>(((BitVec.toNat (UInt8.toBitVec v103)):Nat):Int)) [])),(.tv [] (.int .i64) (0:Int)),(.tv [] .ref (Option.none ))]) [])) ∧
 (((!true)=false) →
 (∃ y105:(Int→((List Bool)→Prop)),
 (∃ y106:(Int→((List Bool)→Nat)),
 ((y105 z3 z5) ∧
 (∀ z107:Int,
 (∀ z108:(List Bool),
 ((y105 z107 z108) →
 (Need (((-9223372036854775808:Int)≤y74)∧(y74≤9223372036854775807)) ∧
 ((((decide (z107≤y74))=true) →
 (Need ((0≤z107)∧(z107<256)) ∧
 (Need (z107.toNat<256) ∧
 (Need ((-9223372036854775808≤(z107+1))∧((z107+1)≤9223372036854775807)) ∧
 (Need (((11:Int),(x1,()))=((11:Int),(x1,()))) ∧
 ((y105 (z107 + 1) (List.set z108 z107.toNat true)) ∧
     Need ((y106 (z107+1) (List.set z108 z107.toNat true))<(y106 z107 z108)))))))) ∧
 (((decide (z107≤y74))=false) →
 (Need (((11:Int),(x1,()))=((11:Int),(x1,()))) ∧
 ((y0 z2 (-(1 : Int)) y75 z108) ∧
    Need ((y1 z2 (-(1:Int)) y75 z108)<(y1 z2 z3 z4 z5))))))))))))))))))))))))))))))))))) ∧
 (((decide ((List.getD x0 z4.toNat (0:Int))=(45:Int)))=false) →
 ((∃ y113 y114 y115 y116:Int,
 (Need (E 82 [(.tv [] .str x0),(.tv [] (.int .i64) z4)] [] (.tup [(.tv [] (.int .u8) y113),(.tv [] (.int .i64) y114),(.op (1,0) [])]) (hq2 y115 y116)) ∧
 ((((!false)=true) →
 (Q (.tup [(.tv [] .str (List.map (fun v118=>(((BitVec.toNat (UInt8.toBitVec v118)):Nat):Int)) [])),(.tv [] (.int .i64) (0:Int)),(.op (1,0) [])]) (hq2 y115 y116))) ∧
 (((!false)=false) →
 (Need ((0≤y113)∧(y113<256)) ∧
 (Need (y113.toNat<256) ∧
 (Need (((-9223372036854775808:Int)≤y113)∧(y113≤9223372036854775807)) ∧
 (Need (((11:Int),(x1,()))=((11:Int),(x1,()))) ∧
 ((y0 true y113 y114 (List.set z5 y113.toNat true)) ∧
    Need ((y1 true y113 y114 (List.set z5 y113.toNat true))<(y1 z2 z3 z4 z5))))))))))) ∨
 (∃ y120 y121:Int,
 (Need (E 82 [(.tv [] .str x0),(.tv [] (.int .i64) z4)] [] (.tup [(.tv [] (.int .u8) y120),(.tv [] (.int .i64) y121),(.tv [] .ref (Option.none ))]) []) ∧
 ((((!true)=true) →
 (Q (.tup [(.tv [] .str (List.map (fun v123=>(((BitVec.toNat (UInt8.toBitVec v123)):Nat):Int)) [])),(.tv [] (.int .i64) (0:Int)),(.tv [] .ref (Option.none ))]) [])) ∧
 (((!true)=false) →
 (Need ((0≤y120)∧(y120<256)) ∧
 (Need (y120.toNat<256) ∧
 (Need (((-9223372036854775808:Int)≤y120)∧(y120≤9223372036854775807)) ∧
 (Need (((11:Int),(x1,()))=((11:Int),(x1,()))) ∧
 ((y0 true y120 y121 (List.set z5 y120.toNat true)) ∧
   Need ((y1 true y120 y121 (List.set z5 y120.toNat true))<(y1 z2 z3 z4 z5)))))))))))))))))) ∧
 (((decide ((List.getD x0 z4.toNat (0:Int))≠(10:Int)))=false) →
 (Q (.tup [(.tv [] .str (List.map (fun v126=>(((BitVec.toNat (UInt8.toBitVec v126)):Nat):Int)) [])),(.tv [] (.int .i64) (0:Int)),(.op (1,0) [])]) (hq2 (11:Int) x1)))))) ∧
 (((decide (z4<(x0.length:Int)))=false) →
 (Q (.tup [(.tv [] .str (List.map (fun v128=>(((BitVec.toNat (UInt8.toBitVec v128)):Nat):Int)) [])),(.tv [] (.int .i64) (0:Int)),(.op (1,0) [])]) (hq2 (11:Int) x1))))))))))))):EvF PP orc 67 [.tv [] .str x0,.tv [] (.int .i64) x1] [] Q:=vc_of (by kernel_rfl) h
theorem vc61 (x0:List Int) (x1:Int) (Q:AV→Heap→Prop) (h :
(∃ y0:Int,
 (Need (E 78 [(.tv [] .str x0),(.tv [] (.int .u8) x1)] [] (.tv [] (.int .i64) y0) []) ∧
 (Q (.tv [] (.int .i64) y0) [])))):EvF PP orc 61 [.tv [] .str x0,.tv [] (.int .u8) x1] [] Q:=vc_of (by kernel_rfl) h
theorem vc70 (x0:List Int) (c:Int) (Q:AV→Heap→Prop) (h :
(Q (.tv [] (.int .i64) (Pr.cntB x0 c)) [])):EvF PP orc 70 [.tv [] .str x0,.tv [] .str [c]] [] Q:=vc_of (by kernel_rfl) h
theorem vc71 (x0:List Int) (x1:Int) (Q:AV→Heap→Prop) (h :
(∃ y0:Int,
 (Need (E 86 [(.tv [] .str x0),(.tv [] (.int .u8) x1)] [] (.tv [] (.int .i64) y0) []) ∧
 (Q (.tv [] (.int .i64) y0) [])))):EvF PP orc 71 [.tv [] .str x0,.tv [] (.int .u8) x1] [] Q:=vc_of (by kernel_rfl) h
theorem vc23 (x0:List qT0) (x1:List Int) (Q:AV→Heap→Prop) (h :
(∃ y0:Int,
 (Need (E 26 [(.tv [] qt9 x0),(.tv [] .str x1)] [] (.tv [] (.int .i64) y0) []) ∧
 (Q (.tv [] .bool (decide (0≤y0))) [])))):EvF PP orc 23 [.tv [] qt9 x0,.tv [] .str x1] [] Q:=vc_of (by kernel_rfl) h
theorem vc78 (x0:List Int) (x1:Int) (Q:AV→Heap→Prop) (h :
(Q (.tv [] (.int .i64) (Pr.idxB x0 x1)) [])):EvF PP orc 78 [.tv [] .str x0,.tv [] (.int .u8) x1] [] Q:=vc_of (by kernel_rfl) h
theorem vc86 (x0:List Int) (x1:Int) (Q:AV→Heap→Prop) (h :
(Need ((-9223372036854775808≤((x0.length:Int)-(1:Int)))∧(((x0.length:Int)-(1:Int))≤9223372036854775807)) ∧
 (∃ y0:(Int→Prop),
 (∃ y1:(Int→Nat),
 ((y0 ((x0.length:Int)-(1:Int))) ∧
 (∀ z2:Int,
 ((y0 z2) →
 ((((decide (0≤z2))=true) →
 (Need ((0≤z2)∧(z2<(x0.length:Int))) ∧
 ((((decide ((List.getD x0 z2.toNat (0:Int))=x1))=true) →
 (Q (.tv [] (.int .i64) z2) [])) ∧
 (((decide ((List.getD x0 z2.toNat (0:Int))=x1))=false) →
 (Need ((-9223372036854775808≤(z2-1))∧((z2-1)≤9223372036854775807)) ∧
 ((y0 (z2-1)) ∧
  Need ((y1 (z2-1))<(y1 z2)))))))) ∧
 (((decide (0≤z2))=false) →
 (Q (.tv [] (.int .i64) (-(1:Int))) [])))))))))):EvF PP orc 86 [.tv [] .str x0,.tv [] (.int .u8) x1] [] Q:=vc_of (by kernel_rfl) h
theorem vc26 (x0:List qT0) (x1:List Int) (Q:AV→Heap→Prop) (h :
(∃ y0:(Int→Prop),
 (∃ y1:(Int→Nat),
 ((y0 (0:Int)) ∧
 (∀ z2:Int,
 ((y0 z2) →
 ((((decide (z2<(x0.length:Int)))=true) →
 (Need ((0≤z2)∧(z2<(x0.length:Int))) ∧
 ((((decide (x1=(List.getD x0 z2.toNat [])))=true) →
 (Q (.tv [] (.int .i64) z2) [])) ∧
 (((decide (x1=(List.getD x0 z2.toNat [])))=false) →
 (Need ((-9223372036854775808≤(z2+1))∧((z2+1)≤9223372036854775807)) ∧
 ((y0 (z2+1)) ∧
  Need ((y1 (z2+1))<(y1 z2)))))))) ∧
 (((decide (z2<(x0.length:Int)))=false) →
 (Q (.tv [] (.int .i64) (-(1:Int))) []))))))))):EvF PP orc 26 [.tv [] qt9 x0,.tv [] .str x1] [] Q:=vc_of (by kernel_rfl) h
end Go.Am.D
namespace Go.Am.D
open Go
set_option maxRecDepth 100000
set_option maxHeartbeats 4000000
theorem vc46 (x0:List Int) (x1:Int) (Q:AV→Heap→Prop) (h :
(Need ((0≤x1)∧(x1<(x0.length:Int))) ∧
 ((((decide ((List.getD x0 x1.toNat (0:Int))=(32:Int)))=true) →
 (Need ((-9223372036854775808≤(x1+1))∧((x1+1)≤9223372036854775807)) ∧
 (Q (.tup [(.tv [] (.int .i64) (0:Int)),(.tv [] .str (List.map (fun v1=>(((BitVec.toNat (UInt8.toBitVec v1)):Nat):Int)) [])),(.tv [] (.int .i64) (x1+1)),(.tv [] .bool false),(.tv [] .ref (Option.none ))]) []))) ∧
 (((decide ((List.getD x0 x1.toNat (0:Int))=(32:Int)))=false) →
 ((((decide ((List.getD x0 x1.toNat (0:Int))=(9:Int)))=true) →
 (Need ((-9223372036854775808≤(x1+1))∧((x1+1)≤9223372036854775807)) ∧
 (Q (.tup [(.tv [] (.int .i64) (0:Int)),(.tv [] .str (List.map (fun v4=>(((BitVec.toNat (UInt8.toBitVec v4)):Nat):Int)) [])),(.tv [] (.int .i64) (x1+1)),(.tv [] .bool false),(.tv [] .ref (Option.none ))]) []))) ∧
 (((decide ((List.getD x0 x1.toNat (0:Int))=(9:Int)))=false) →
 ((((decide ((List.getD x0 x1.toNat (0:Int))=(10:Int)))=true) →
 (Need ((-9223372036854775808≤(x1+1))∧((x1+1)≤9223372036854775807)) ∧
 (Q (.tup [(.tv [] (.int .i64) (0:Int)),(.tv [] .str (List.map (fun v7=>(((BitVec.toNat (UInt8.toBitVec v7)):Nat):Int)) [])),(.tv [] (.int .i64) (x1+1)),(.tv [] .bool false),(.tv [] .ref (Option.none ))]) []))) ∧
 (((decide ((List.getD x0 x1.toNat (0:Int))=(10:Int)))=false) →
 ((((decide ((List.getD x0 x1.toNat (0:Int))=(13:Int)))=true) →
 (Need ((-9223372036854775808≤(x1+1))∧((x1+1)≤9223372036854775807)) ∧
 (Q (.tup [(.tv [] (.int .i64) (0:Int)),(.tv [] .str (List.map (fun v10=>(((BitVec.toNat (UInt8.toBitVec v10)):Nat):Int)) [])),(.tv [] (.int .i64) (x1+1)),(.tv [] .bool false),(.tv [] .ref (Option.none ))]) []))) ∧
 (((decide ((List.getD x0 x1.toNat (0:Int))=(13:Int)))=false) →
 ((((decide ((List.getD x0 x1.toNat (0:Int))=(35:Int)))=true) →
 (Need ((0≤x1)∧((x1≤(x0.length:Int))∧((x0.length:Int)≤(x0.length:Int)))) ∧
 (∃ y13:Int,
 (Need (E 61 [(.tv [] .str (cut x0 x1.toNat (Int.toNat (x0.length:Int)))),(.tv [] (.int .u8) (10:Int))] [] (.tv [] (.int .i64) y13) []) ∧
 ((((decide (y13<0))=true) →
 (Need ((-9223372036854775808≤((x0.length:Int)-x1))∧(((x0.length:Int)-x1)≤9223372036854775807)) ∧
 (Need ((-9223372036854775808≤(x1+((x0.length:Int)-x1)))∧((x1+((x0.length:Int)-x1))≤9223372036854775807)) ∧
 (Q (.tup [(.tv [] (.int .i64) (0:Int)),(.tv [] .str (List.map (fun v15=>(((BitVec.toNat (UInt8.toBitVec v15)):Nat):Int)) [])),(.tv [] (.int .i64) (x1+((x0.length:Int)-x1))),(.tv [] .bool false),(.tv [] .ref (Option.none ))]) [])))) ∧
 (((decide (y13<0))=false) →
 (Need ((-9223372036854775808≤(x1+y13))∧((x1+y13)≤9223372036854775807)) ∧
 (Q (.tup [(.tv [] (.int .i64) (0:Int)),(.tv [] .str (List.map (fun v17=>(((BitVec.toNat (UInt8.toBitVec v17)):Nat):Int)) [])),(.tv [] (.int .i64) (x1+y13)),(.tv [] .bool false),(.tv [] .ref (Option.none ))]) [])))))))) ∧
 (((decide ((List.getD x0 x1.toNat (0:Int))=(35:Int)))=false) →
 (∃ y19:Bool,
 (Need (E 62 [(.tv [] (.int .u8) (List.getD x0 x1.toNat (0:Int)))] [] (.tv [] .bool y19) []) ∧
 (((y19=true) →
 (∃ y21:Int,
 (Need (E 63 [(.tv [] .str x0),(.tv [] (.int .i64) x1),(.fn 64 [] [])] [] (.tv [] (.int .i64) y21) []) ∧
 ((((decide (32<y21))=true) →
 (Q (.tup [(.tv [] (.int .i64) (0:Int)),(.tv [] .str (List.map (fun v23=>(((BitVec.toNat (UInt8.toBitVec v23)):Nat):Int)) [])),(.tv [] (.int .i64) (0:Int)),(.tv [] .bool false),(.op (1,0) [])]) (hq2 (12:Int) x1))) ∧
 (((decide (32<y21))=false) →
 (Need ((-9223372036854775808≤(x1+y21))∧((x1+y21)≤9223372036854775807)) ∧
 (Need ((0≤x1)∧((x1≤(x1+y21))∧((x1+y21)≤(x0.length:Int)))) ∧
 (Need ((-9223372036854775808≤(x1+y21))∧((x1+y21)≤9223372036854775807)) ∧
 (Q (.tup [(.tv [] (.int .i64) (1:Int)),(.tv [] .str (cut x0 x1.toNat (Int.toNat (x1+y21)))),(.tv [] (.int .i64) (x1+y21)),(.tv [] .bool true),(.tv [] .ref (Option.none ))]) []))))))))) ∧
 ((y19=false) →
 (Need ((0≤x1)∧(x1<(x0.length:Int))) ∧
 ((((decide ((List.getD x0 x1.toNat (0:Int))=(37:Int)))=true) →
 ((∃ y27:qT0,
 (∃ y28 y29 y30:Int,
 (Need (E 65 [(.tv [] .str x0),(.tv [] (.int .i64) x1)] [] (.tup [(.tv [] .str y27),(.tv [] (.int .i64) y28),(.op (1,0) [])]) (hq2 y29 y30)) ∧
 (Q (.tup [(.tv [] (.int .i64) (2:Int)),(.tv [] .str y27),(.tv [] (.int .i64) y28),(.tv [] .bool true),(.op (1,0) [])]) (hq2 y29 y30))))) ∨
 (∃ y31:qT0,
 (∃ y32:Int,
 (Need (E 65 [(.tv [] .str x0),(.tv [] (.int .i64) x1)] [] (.tup [(.tv [] .str y31),(.tv [] (.int .i64) y32),(.tv [] .ref (Option.none ))]) []) ∧
 (Q (.tup [(.tv [] (.int .i64) (2:Int)),(.tv [] .str y31),(.tv [] (.int .i64) y32),(.tv [] .bool true),(.tv [] .ref (Option.none ))]) [])))))) ∧
 (((decide ((List.getD x0 x1.toNat (0:Int))=(37:Int)))=false) →
 ((((decide ((List.getD x0 x1.toNat (0:Int))=(34:Int)))=true) →
 ((∃ y35:qT0,
 (∃ y36 y37 y38:Int,
 (Need (E 66 [(.tv [] .str x0),(.tv [] (.int .i64) x1)] [] (.tup [(.tv [] .str y35),(.tv [] (.int .i64) y36),(.op (1,0) [])]) (hq2 y37 y38)) ∧
 (Q (.tup [(.tv [] (.int .i64) (3:Int)),(.tv [] .str y35),(.tv [] (.int .i64) y36),(.tv [] .bool true),(.op (1,0) [])]) (hq2 y37 y38))))) ∨
 (∃ y39:qT0,
 (∃ y40:Int,
 (Need (E 66 [(.tv [] .str x0),(.tv [] (.int .i64) x1)] [] (.tup [(.tv [] .str y39),(.tv [] (.int .i64) y40),(.tv [] .ref (Option.none ))]) []) ∧
 (Q (.tup [(.tv [] (.int .i64) (3:Int)),(.tv [] .str y39),(.tv [] (.int .i64) y40),(.tv [] .bool true),(.tv [] .ref (Option.none ))]) [])))))) ∧
 (((decide ((List.getD x0 x1.toNat (0:Int))=(34:Int)))=false) →
 ((((decide ((List.getD x0 x1.toNat (0:Int))=(91:Int)))=true) →
 ((∃ y43:qT0,
 (∃ y44 y45 y46:Int,
 (Need (E 67 [(.tv [] .str x0),(.tv [] (.int .i64) x1)] [] (.tup [(.tv [] .str y43),(.tv [] (.int .i64) y44),(.op (1,0) [])]) (hq2 y45 y46)) ∧
 (Q (.tup [(.tv [] (.int .i64) (4:Int)),(.tv [] .str y43),(.tv [] (.int .i64) y44),(.tv [] .bool true),(.op (1,0) [])]) (hq2 y45 y46))))) ∨
 (∃ y47:qT0,
 (∃ y48:Int,
 (Need (E 67 [(.tv [] .str x0),(.tv [] (.int .i64) x1)] [] (.tup [(.tv [] .str y47),(.tv [] (.int .i64) y48),(.tv [] .ref (Option.none ))]) []) ∧
 (Q (.tup [(.tv [] (.int .i64) (4:Int)),(.tv [] .str y47),(.tv [] (.int .i64) y48),(.tv [] .bool true),(.tv [] .ref (Option.none ))]) [])))))) ∧
 (((decide ((List.getD x0 x1.toNat (0:Int))=(91:Int)))=false) →
 ((((decide ((List.getD x0 x1.toNat (0:Int))=(123:Int)))=true) →
 ((∃ y51:qT0,
 (∃ y52 y53 y54:Int,
 (Need (E 68 [(.tv [] .str x0),(.tv [] (.int .i64) x1)] [] (.tup [(.tv [] .str y51),(.tv [] (.int .i64) y52),(.op (1,0) [])]) (hq2 y53 y54)) ∧
 (Q (.tup [(.tv [] (.int .i64) (9:Int)),(.tv [] .str y51),(.tv [] (.int .i64) y52),(.tv [] .bool true),(.op (1,0) [])]) (hq2 y53 y54))))) ∨
 (∃ y55:qT0,
 (∃ y56:Int,
 (Need (E 68 [(.tv [] .str x0),(.tv [] (.int .i64) x1)] [] (.tup [(.tv [] .str y55),(.tv [] (.int .i64) y56),(.tv [] .ref (Option.none ))]) []) ∧
 (Q (.tup [(.tv [] (.int .i64) (9:Int)),(.tv [] .str y55),(.tv [] (.int .i64) y56),(.tv [] .bool true),(.tv [] .ref (Option.none ))]) [])))))) ∧
 (((decide ((List.getD x0 x1.toNat (0:Int))=(123:Int)))=false) →
 ((((decide ((List.getD x0 x1.toNat (0:Int))=(43:Int)))=true) →
 (Need ((0≤x1)∧(x1<(x0.length:Int))) ∧
 (∃ y59:Int,
 (Need (E 69 [(.tv [] (.int .u8) (List.getD x0 x1.toNat (0:Int)))] [] (.tv [] (.int .i64) y59) []) ∧
 (Need ((-9223372036854775808≤(x1+1))∧((x1+1)≤9223372036854775807)) ∧
 (Q (.tup [(.tv [] (.int .i64) y59),(.tv [] .str (List.map (fun v60=>(((BitVec.toNat (UInt8.toBitVec v60)):Nat):Int)) [])),(.tv [] (.int .i64) (x1+1)),(.tv [] .bool true),(.tv [] .ref (Option.none ))]) [])))))) ∧
 (((decide ((List.getD x0 x1.toNat (0:Int))=(43:Int)))=false) →
 ((((decide ((List.getD x0 x1.toNat (0:Int))=(58:Int)))=true) →
 (Need ((0≤x1)∧(x1<(x0.length:Int))) ∧
 (∃ y63:Int,
 (Need (E 69 [(.tv [] (.int .u8) (List.getD x0 x1.toNat (0:Int)))] [] (.tv [] (.int .i64) y63) []) ∧
 (Need ((-9223372036854775808≤(x1+1))∧((x1+1)≤9223372036854775807)) ∧
 (Q (.tup [(.tv [] (.int .i64) y63),(.tv [] .str (List.map (fun v64=>(((BitVec.toNat (UInt8.toBitVec v64)):Nat):Int)) [])),(.tv [] (.int .i64) (x1+1)),(.tv [] .bool true),(.tv [] .ref (Option.none ))]) [])))))) ∧
 (((decide ((List.getD x0 x1.toNat (0:Int))=(58:Int)))=false) →
 ((((decide ((List.getD x0 x1.toNat (0:Int))=(124:Int)))=true) →
 (Need ((0≤x1)∧(x1<(x0.length:Int))) ∧
 (∃ y67:Int,
 (Need (E 69 [(.tv [] (.int .u8) (List.getD x0 x1.toNat (0:Int)))] [] (.tv [] (.int .i64) y67) []) ∧
 (Need ((-9223372036854775808≤(x1+1))∧((x1+1)≤9223372036854775807)) ∧
 (Q (.tup [(.tv [] (.int .i64) y67),(.tv [] .str (List.map (fun v68=>(((BitVec.toNat (UInt8.toBitVec v68)):Nat):Int)) [])),(.tv [] (.int .i64) (x1+1)),(.tv [] .bool true),(.tv [] .ref (Option.none ))]) [])))))) ∧
 (((decide ((List.getD x0 x1.toNat (0:Int))=(124:Int)))=false) →
 ((((decide ((List.getD x0 x1.toNat (0:Int))=(59:Int)))=true) →
 (Need ((0≤x1)∧(x1<(x0.length:Int))) ∧
 (∃ y71:Int,
 (Need (E 69 [(.tv [] (.int .u8) (List.getD x0 x1.toNat (0:Int)))] [] (.tv [] (.int .i64) y71) []) ∧
 (Need ((-9223372036854775808≤(x1+1))∧((x1+1)≤9223372036854775807)) ∧
 (Q (.tup [(.tv [] (.int .i64) y71),(.tv [] .str (List.map (fun v72=>(((BitVec.toNat (UInt8.toBitVec v72)):Nat):Int)) [])),(.tv [] (.int .i64) (x1+1)),(.tv [] .bool true),(.tv [] .ref (Option.none ))]) [])))))) ∧
 (((decide ((List.getD x0 x1.toNat (0:Int))=(59:Int)))=false) →
 (Q (.tup [(.tv [] (.int .i64) (0:Int)),(.tv [] .str (List.map (fun v74=>(((BitVec.toNat (UInt8.toBitVec v74)):Nat):Int)) [])),(.tv [] (.int .i64) (0:Int)),(.tv [] .bool false),(.op (1,0) [])]) (hq2 (10:Int) x1))))))))))))))))))))))))))))))))))):EvF PP orc 46 [.tv [] .str x0,.tv [] (.int .i64) x1] [] Q:=vc_of (by kernel_rfl) h
theorem vc47 (x0:List Int) (x1:Int) (Q:AV→Heap→Prop) (h :
(Need (((0:Int)≤(0:Int))∧(((0:Int)≤(max (0:Int) (min x1 (x0.length:Int))))∧((max (0:Int) (min x1 (x0.length:Int)))≤(x0.length:Int)))) ∧
 (∃ y0:Int,
 (Need (E 70 [(.tv [] .str (cut x0 0 (Int.toNat (max (0:Int) (min x1 (x0.length:Int)))))),(.tv [] .str (List.map (fun v1=>(((BitVec.toNat (UInt8.toBitVec v1)):Nat):Int)) [(10:UInt8)]))] [] (.tv [] (.int .i64) y0) []) ∧
 (Need ((-9223372036854775808≤(1+y0))∧((1+y0)≤9223372036854775807)) ∧
 (∃ y2:Int,
 (Need (E 71 [(.tv [] .str (cut x0 0 (Int.toNat (max (0:Int) (min x1 (x0.length:Int)))))),(.tv [] (.int .u8) (10:Int))] [] (.tv [] (.int .i64) y2) []) ∧
 (Need ((-9223372036854775808≤(((List.length (cut x0 0 (Int.toNat (max (0:Int) (min x1 (x0.length:Int)))))):Int)-y2))∧((((List.length (cut x0 0 (Int.toNat (max (0:Int) (min x1 (x0.length:Int)))))):Int)-y2)≤9223372036854775807)) ∧
 (Q (.tv [] qt6 ((1+y0),((((List.length (cut x0 0 (Int.toNat (max (0:Int) (min x1 (x0.length:Int)))))):Int)-y2),()))) []))))))))):EvF PP orc 47 [.tv [] .str x0,.tv [] (.int .i64) x1] [] Q:=vc_of (by kernel_rfl) h
theorem vc28 (x0:List Int) (Q:AV→Heap→Prop) (h :
((((decide ((4000:Int)<(x0.length:Int)))=true) →
 (Q (.tup [(.tv [] qt5 []),(.tv [] qt3 ((12:Int),(((1:Int),((1:Int),())),())))]) [])) ∧
 (((decide ((4000:Int)<(x0.length:Int)))=false) →
 (∃ y2:(qT2→(Int→(Int→(Int→(Int→Prop))))),
 (∃ y3:(qT2→(Int→(Int→(Int→(Int→Nat))))),
 ((y2 [] (0:Int) (0:Int) (0:Int) (0:Int)) ∧
 (∀ z4:qT2,
 (∀ z5 z6 z7 z8:Int,
 ((y2 z4 z5 z6 z7 z8) →
 ((((decide (z5<(x0.length:Int)))=true) →
 ((∃ y11:Int,
 (∃ y12:qT0,
 (∃ y13:Int,
 (∃ y14:Bool,
 (∃ y15 y16:Int,
 (Need (E 46 [(.tv [] .str x0),(.tv [] (.int .i64) z5)] [] (.tup [(.tv [] (.int .i64) y11),(.tv [] .str y12),(.tv [] (.int .i64) y13),(.tv [] .bool y14),(.op (1,0) [])]) (hq2 y15 y16)) ∧
 ((((!false)=true) →
 (∃ y18 y19:Int,
 (Need (E 47 [(.tv [] .str x0),(.tv [] (.int .i64) y16)] [] (.tv [] qt6 (y18,(y19,()))) []) ∧
 (Q (.tup [(.tv [] qt5 []),(.tv [] qt3 (y15,((y18,(y19,())),())))]) [])))) ∧
 (((!false)=false) →
 (((y14=true) →
 (∃ y22 y23:Int,
 (Need (E 47 [(.tv [] .str x0),(.tv [] (.int .i64) z5)] [] (.tv [] qt6 (y22,(y23,()))) []) ∧
 (Need ((z4.length+(List.length [(y11,(y12,((y22,(y23,())),())))]))≤bigN) ∧
 ((y2 (z4 ++ [(y11, (y12, ((y22, (y23, ())), ())))]) y13 z6 z7 z8) ∧
    Need ((y3 (z4++[(y11,(y12,((y22,(y23,())),())))]) y13 z6 z7 z8)<(y3 z4 z5 z6 z7 z8))))))) ∧
 ((y14=false) →
 ((y2 z4 y13 z6 z7 z8) ∧
   Need ((y3 z4 y13 z6 z7 z8)<(y3 z4 z5 z6 z7 z8))))))))))))) ∨
 (∃ y25:Int,
 (∃ y26:qT0,
 (∃ y27:Int,
 (∃ y28:Bool,
 (Need (E 46 [(.tv [] .str x0),(.tv [] (.int .i64) z5)] [] (.tup [(.tv [] (.int .i64) y25),(.tv [] .str y26),(.tv [] (.int .i64) y27),(.tv [] .bool y28),(.tv [] .ref (Option.none ))]) []) ∧
 ((((!true)=true) →
   False) ∧
 (((!true)=false) →
 (((y28=true) →
 (∃ y32 y33:Int,
 (Need (E 47 [(.tv [] .str x0),(.tv [] (.int .i64) z5)] [] (.tv [] qt6 (y32,(y33,()))) []) ∧
 (Need ((z4.length+(List.length [(y25,(y26,((y32,(y33,())),())))]))≤bigN) ∧
 ((y2 (z4++[(y25,(y26,((y32,(y33,())),())))]) y27 z6 z7 z8) ∧
   Need ((y3 (z4++[(y25,(y26,((y32,(y33,())),())))]) y27 z6 z7 z8)<(y3 z4 z5 z6 z7 z8))))))) ∧
 ((y28=false) →
 ((y2 z4 y27 z6 z7 z8) ∧
  Need ((y3 z4 y27 z6 z7 z8)<(y3 z4 z5 z6 z7 z8)))))))))))))) ∧
 (((decide (z5<(x0.length:Int)))=false) →
 (∃ y36 y37:Int,
 (Need (E 47 [(.tv [] .str x0),(.tv [] (.int .i64) (x0.length:Int))] [] (.tv [] qt6 (y36,(y37,()))) []) ∧
 (Need ((z4.length+(List.length [((0:Int),(([]:List Int),((y36,(y37,())),())))]))≤bigN) ∧
 (Q (.tup [(.tv [] qt5 (z4++[((0:Int),([],((y36,(y37,())),())))])),(.tv [] qt3 ((0:Int),(((0:Int),((0:Int),())),())))]) []))))))))))))))):EvF PP orc 28 [.tv [] .str x0] [] Q:=vc_of (by kernel_rfl) h
end Go.Am.D
namespace Go.Am.D
open Go
set_option maxRecDepth 100000
set_option maxHeartbeats 4000000
theorem vc73 (o0_0:List ((Int×(List Int×((Int×(Int×Unit))×Unit))))) (o0_1:Int) (o0_2_0:List ((List Int×((List Int×(List Int×(Bool×Unit)))×Unit)))) (o0_2_1:List ((List Int×(List Int×(Bool×Unit))))) (o0_2_2:List ((Int×(List qT0×Unit)))) (o0_2_3:List Int) (o0_2_4:List ((List Int×(List qT0×(List Int×(List Int×Unit)))))) (o0_5:Bool) (o0_3:List (List Int×Bool)) (o0_4:List (List Int×Bool)) (Q:AV→Heap→Prop) (h :
((((decide ((o0_0.length:Int)≤o0_1))=true) →
 (Q (.tv [] qt1 ((0:Int),([],(((0:Int),((0:Int),())),())))) (hq0 o0_0 o0_1 o0_2_0 o0_2_1 o0_2_2 o0_2_3 o0_2_4 o0_5 o0_3 o0_4))) ∧
 (((decide ((o0_0.length:Int)≤o0_1))=false) →
 (Need (((0:Int)≤o0_1)∧(o0_1<(o0_0.length:Int))) ∧
 (Q (.tv [] qt1 (List.getD o0_0 o0_1.toNat ((0:Int),([],(((0:Int),((0:Int),())),()))))) (hq0 o0_0 o0_1 o0_2_0 o0_2_1 o0_2_2 o0_2_3 o0_2_4 o0_5 o0_3 o0_4)))))):EvF PP orc 73 [.op (0,0) []] [((0,0),⟨⟨(.pair qt5 (.pair (.int .i64) (.pair qt0 (.pair (.mref .str .bool) (.pair (.mref .str .bool) qt4))))),(o0_0,(o0_1,((o0_2_0,(o0_2_1,(o0_2_2,(o0_2_3,(o0_2_4,()))))),((some (0,1):Option Key),((some (0,2):Option Key),(o0_5,()))))))⟩,[[2,0],[2,1],[2,2],[2,4]]⟩),((0,1),⟨⟨.mp .str .bool,o0_3⟩,[]⟩),((0,2),⟨⟨.mp .str .bool,o0_4⟩,[]⟩)] Q:=vc_of (by kernel_rfl) h
theorem vc88 (x1:Int) (o0_0:List ((Int×(List Int×((Int×(Int×Unit))×Unit))))) (o0_1:Int) (o0_2_0:List ((List Int×((List Int×(List Int×(Bool×Unit)))×Unit)))) (o0_2_1:List ((List Int×(List Int×(Bool×Unit))))) (o0_2_2:List ((Int×(List qT0×Unit)))) (o0_2_3:List Int) (o0_2_4:List ((List Int×(List qT0×(List Int×(List Int×Unit)))))) (o0_5:Bool) (o0_3:List (List Int×Bool)) (o0_4:List (List Int×Bool)) (Q:AV→Heap→Prop) (h :
(∃ y0:Int,
 (∃ y1:qT0,
 (∃ y2 y3:Int,
 (Need (E 73 [(.op (0,0) [])] (hq0 o0_0 o0_1 o0_2_0 o0_2_1 o0_2_2 o0_2_3 o0_2_4 o0_5 o0_3 o0_4) (.tv [] qt1 (y0,(y1,((y2,(y3,())),())))) (hq0 o0_0 o0_1 o0_2_0 o0_2_1 o0_2_2 o0_2_3 o0_2_4 o0_5 o0_3 o0_4)) ∧
 (Q (.op (1,0) []) (hq1 x1 y2 y3 o0_0 o0_1 o0_2_0 o0_2_1 o0_2_2 o0_2_3 o0_2_4 o0_5 o0_3 o0_4))))))):EvF PP orc 88 [.op (0,0) [],.tv [] (.int .i64) x1] [((0,0),⟨⟨(.pair qt5 (.pair (.int .i64) (.pair qt0 (.pair (.mref .str .bool) (.pair (.mref .str .bool) qt4))))),(o0_0,(o0_1,((o0_2_0,(o0_2_1,(o0_2_2,(o0_2_3,(o0_2_4,()))))),((some (0,1):Option Key),((some (0,2):Option Key),(o0_5,()))))))⟩,[[2,0],[2,1],[2,2],[2,4]]⟩),((0,1),⟨⟨.mp .str .bool,o0_3⟩,[]⟩),((0,2),⟨⟨.mp .str .bool,o0_4⟩,[]⟩)] Q:=vc_of (by kernel_rfl) h
theorem vc91 (x1:Int) (o0_0:List ((Int×(List Int×((Int×(Int×Unit))×Unit))))) (o0_1:Int) (o0_2_0:List ((List Int×((List Int×(List Int×(Bool×Unit)))×Unit)))) (o0_2_1:List ((List Int×(List Int×(Bool×Unit))))) (o0_2_2:List ((Int×(List qT0×Unit)))) (o0_2_3:List Int) (o0_2_4:List ((List Int×(List qT0×(List Int×(List Int×Unit)))))) (o0_5:Bool) (o0_3:List (List Int×Bool)) (o0_4:List (List Int×Bool)) (Q:AV→Heap→Prop) (h :
((((decide (o0_1<(o0_0.length:Int)))=true) →
 (∃ y1:Int,
 (∃ y2:qT0,
 (∃ y3 y4:Int,
 (Need (E 73 [(.op (0,0) [])] (hq0 o0_0 o0_1 o0_2_0 o0_2_1 o0_2_2 o0_2_3 o0_2_4 o0_5 o0_3 o0_4) (.tv [] qt1 (y1,(y2,((y3,(y4,())),())))) (hq0 o0_0 o0_1 o0_2_0 o0_2_1 o0_2_2 o0_2_3 o0_2_4 o0_5 o0_3 o0_4)) ∧
 (Q (.tv [] .bool (decide (y1=x1))) (hq0 o0_0 o0_1 o0_2_0 o0_2_1 o0_2_2 o0_2_3 o0_2_4 o0_5 o0_3 o0_4))))))) ∧
 (((decide (o0_1<(o0_0.length:Int)))=false) →
 (Q (.tv [] .bool false) (hq0 o0_0 o0_1 o0_2_0 o0_2_1 o0_2_2 o0_2_3 o0_2_4 o0_5 o0_3 o0_4))))):EvF PP orc 91 [.op (0,0) [],.tv [] (.int .i64) x1] [((0,0),⟨⟨(.pair qt5 (.pair (.int .i64) (.pair qt0 (.pair (.mref .str .bool) (.pair (.mref .str .bool) qt4))))),(o0_0,(o0_1,((o0_2_0,(o0_2_1,(o0_2_2,(o0_2_3,(o0_2_4,()))))),((some (0,1):Option Key),((some (0,2):Option Key),(o0_5,()))))))⟩,[[2,0],[2,1],[2,2],[2,4]]⟩),((0,1),⟨⟨.mp .str .bool,o0_3⟩,[]⟩),((0,2),⟨⟨.mp .str .bool,o0_4⟩,[]⟩)] Q:=vc_of (by kernel_rfl) h
theorem vc89 (x1:Int) (o0_0:List ((Int×(List Int×((Int×(Int×Unit))×Unit))))) (o0_1:Int) (o0_2_0:List ((List Int×((List Int×(List Int×(Bool×Unit)))×Unit)))) (o0_2_1:List ((List Int×(List Int×(Bool×Unit))))) (o0_2_2:List ((Int×(List qT0×Unit)))) (o0_2_3:List Int) (o0_2_4:List ((List Int×(List qT0×(List Int×(List Int×Unit)))))) (o0_5:Bool) (o0_3:List (List Int×Bool)) (o0_4:List (List Int×Bool)) (Q:AV→Heap→Prop) (h :
(∃ y0:Int,
 (∃ y1:qT0,
 (∃ y2 y3:Int,
 (Need (E 73 [(.op (0,0) [])] (hq0 o0_0 o0_1 o0_2_0 o0_2_1 o0_2_2 o0_2_3 o0_2_4 o0_5 o0_3 o0_4) (.tv [] qt1 (y0,(y1,((y2,(y3,())),())))) (hq0 o0_0 o0_1 o0_2_0 o0_2_1 o0_2_2 o0_2_3 o0_2_4 o0_5 o0_3 o0_4)) ∧
 ((((decide (y0≠x1))=true) →
 (∃ y5 y6 y7:Int,
 (Need (E 88 [(.op (0,0) []),(.tv [] (.int .i64) (14:Int))] (hq0 o0_0 o0_1 o0_2_0 o0_2_1 o0_2_2 o0_2_3 o0_2_4 o0_5 o0_3 o0_4) (.op (1,0) []) (hq1 y5 y6 y7 o0_0 o0_1 o0_2_0 o0_2_1 o0_2_2 o0_2_3 o0_2_4 o0_5 o0_3 o0_4)) ∧
 (Q (.tup [(.tv [] .str (List.map (fun v8=>(((BitVec.toNat (UInt8.toBitVec v8)):Nat):Int)) [])),(.op (1,0) [])]) (hq1 y5 y6 y7 o0_0 o0_1 o0_2_0 o0_2_1 o0_2_2 o0_2_3 o0_2_4 o0_5 o0_3 o0_4))))) ∧
 (((decide (y0≠x1))=false) →
 (Need ((-9223372036854775808≤(o0_1+(1:Int)))∧((o0_1+(1:Int))≤9223372036854775807)) ∧
 (Q (.tup [(.tv [] .str y1),(.tv [] .ref (Option.none ))]) (hq3 o0_0 o0_1 (1:Int) o0_2_0 o0_2_1 o0_2_2 o0_2_3 o0_2_4 o0_5 o0_3 o0_4)))))))))):EvF PP orc 89 [.op (0,0) [],.tv [] (.int .i64) x1] [((0,0),⟨⟨(.pair qt5 (.pair (.int .i64) (.pair qt0 (.pair (.mref .str .bool) (.pair (.mref .str .bool) qt4))))),(o0_0,(o0_1,((o0_2_0,(o0_2_1,(o0_2_2,(o0_2_3,(o0_2_4,()))))),((some (0,1):Option Key),((some (0,2):Option Key),(o0_5,()))))))⟩,[[2,0],[2,1],[2,2],[2,4]]⟩),((0,1),⟨⟨.mp .str .bool,o0_3⟩,[]⟩),((0,2),⟨⟨.mp .str .bool,o0_4⟩,[]⟩)] Q:=vc_of (by kernel_rfl) h
theorem vc102 (x0:List Int) (Q:AV→Heap→Prop) (h :
((((decide (x0=[(108:Int),(101:Int),(102:Int),(116:Int)]))=true) →
 (Q (.tv [] (.int .i64) (1:Int)) [])) ∧
 (((decide (x0=[(108:Int),(101:Int),(102:Int),(116:Int)]))=false) →
 ((((decide (x0=[(114:Int),(105:Int),(103:Int),(104:Int),(116:Int)]))=true) →
 (Q (.tv [] (.int .i64) (2:Int)) [])) ∧
 (((decide (x0=[(114:Int),(105:Int),(103:Int),(104:Int),(116:Int)]))=false) →
 (Q (.tv [] (.int .i64) (3:Int)) [])))))):EvF PP orc 102 [.tv [] .str x0] [] Q:=vc_of (by kernel_rfl) h
theorem vc87  (Q:AV→Heap→Prop) (h :
(Q (.tv [] (.mref .str .fnc) (some (1,0))) [((1,0),⟨⟨(.mp .str .fnc),(Pr.mset (Pr.mset (Pr.mset (Pr.mset (Pr.mset (Pr.mset [] (List.map (fun v0=>(((BitVec.toNat (UInt8.toBitVec v0)):Nat):Int)) [(116:UInt8),(111:UInt8),(107:UInt8),(101:UInt8),(110:UInt8)]) (some 94)) (List.map (fun v1=>(((BitVec.toNat (UInt8.toBitVec v1)):Nat):Int)) [(115:UInt8),(107:UInt8),(105:UInt8),(112:UInt8)]) (some 95)) (List.map (fun v2=>(((BitVec.toNat (UInt8.toBitVec v2)):Nat):Int)) [(108:UInt8),(101:UInt8),(102:UInt8),(116:UInt8)]) (some 96)) (List.map (fun v3=>(((BitVec.toNat (UInt8.toBitVec v3)):Nat):Int)) [(114:UInt8),(105:UInt8),(103:UInt8),(104:UInt8),(116:UInt8)]) (some 96)) (List.map (fun v4=>(((BitVec.toNat (UInt8.toBitVec v4)):Nat):Int)) [(110:UInt8),(111:UInt8),(110:UInt8),(97:UInt8),(115:UInt8),(115:UInt8),(111:UInt8),(99:UInt8)]) (some 96)) (List.map (fun v5=>(((BitVec.toNat (UInt8.toBitVec v5)):Nat):Int)) [(115:UInt8),(116:UInt8),(97:UInt8),(114:UInt8),(116:UInt8)]) (some 97))⟩,[]⟩)])):EvF PP orc 87 [] [] Q:=vc_of (by kernel_rfl) h
end Go.Am.D
