/-
  A part of the proof of a law: see the text that states it.
-/
import Derived.Test.YtcggbplapaeedaaDoorHead
set_option linter.all false
namespace Go.Am.R
open Go
set_option maxRecDepth 100000
set_option maxHeartbeats 4000000
end Go.Am.R
namespace Go.Am.R
open Go
set_option maxRecDepth 100000
set_option maxHeartbeats 4000000
end Go.Am.R
namespace Go.Am.R
open Go
set_option maxRecDepth 100000
set_option maxHeartbeats 4000000
end Go.Am.R
namespace Go.Am.R
open Go
set_option maxRecDepth 100000
set_option maxHeartbeats 4000000
end Go.Am.R
namespace Go.Am.R
open Go
set_option maxRecDepth 100000
set_option maxHeartbeats 4000000
end Go.Am.R
namespace Go.Am.R
open Go
set_option maxRecDepth 100000
set_option maxHeartbeats 4000000
end Go.Am.R
namespace Go.Am.R
open Go
set_option maxRecDepth 100000
set_option maxHeartbeats 4000000
theorem vc11 (x0:List Int) (Q:AV→Heap→Prop) (h :
(∃ y0:Bool,
 (Need (E 18 [] [] (.tv [] .bool y0) []) ∧
 ((((decide ((600:Int)<(x0.length:Int)))=true) →
 (Q (.tv [] .bool y0) [])) ∧
 (((decide ((600:Int)<(x0.length:Int)))=false) →
 (∃ y3:qT5,
 (∃ y4:qT7,
 (∃ y5:qT4,
 (∃ y6:qT0,
 (∃ y7:qT3,
 (∃ y8 y9 y10:Int,
 (Need (E 13 [(.tv [] .str x0)] [] (.tup [(.tv [] qt0 (y3,(y4,(y5,(y6,(y7,())))))),(.tv [] qt2 (y8,((y9,(y10,())),())))]) []) ∧
 (∃ y11:qT0,
 (∃ y12 y13 y14:Int,
 (Need (E 29 [(.tv [] .str x0)] [] (.tup [(.tv [] .str y11),(.tv [] qt2 (y12,((y13,(y14,())),())))]) []) ∧
 ((((decide (y8≠(0:Int)))=true) →
 (((y0=true) →
 ((((decide (y11=[]))=true) →
 (Q (.tv [] .bool ((decide (y12=y8))&&(((decide (y13=y9))&&((decide (y14=y10))&&true))&&true))) [])) ∧
 (((decide (y11=[]))=false) →
 (Q (.tv [] .bool false) [])))) ∧
 ((y0=false) →
 (Q (.tv [] .bool false) [])))) ∧
 (((decide (y8≠(0:Int)))=false) →
 (∃ y21:Bool,
 (Need (E 22 [(.tv [] qt0 (y3,(y4,(y5,(y6,(y7,()))))))] [] (.tv [] .bool y21) []) ∧
 (∃ y22:qT0,
 (∃ y23:Int,
 (Need (E 20 [(.tv [] qt0 (y3,(y4,(y5,(y6,(y7,()))))))] [] (.tup [(.tv [] .str y22),(.tv [] (.int .i64) y23)]) []) ∧
 ((((!y21)=true) →
 (((y0=true) →
 (((y21=true) →
 (Q (.tv [] .bool (decide (y12=(12:Int)))) [])) ∧
 ((y21=false) →
 (Q (.tv [] .bool false) [])))) ∧
 ((y0=false) →
 (Q (.tv [] .bool false) [])))) ∧
 (((!y21)=false) →
 ((((decide (y23=(12:Int)))=true) →
 (((y0=true) →
 (((y21=true) →
 (Q (.tv [] .bool (decide (y12=(12:Int)))) [])) ∧
 ((y21=false) →
 (Q (.tv [] .bool false) [])))) ∧
 ((y0=false) →
 (Q (.tv [] .bool false) [])))) ∧
 (((decide (y23=(12:Int)))=false) →
 (∃ y36:qT5,
 (∃ y37:qT7,
 (∃ y38:qT4,
 (∃ y39:qT0,
 (∃ y40:qT3,
 (∃ y41 y42 y43:Int,
 (Need (E 13 [(.tv [] .str y22)] [] (.tup [(.tv [] qt0 (y36,(y37,(y38,(y39,(y40,())))))),(.tv [] qt2 (y41,((y42,(y43,())),())))]) []) ∧
 (∃ y44:qT0,
 (∃ y45:Int,
 (Need (E 20 [(.tv [] qt0 (y36,(y37,(y38,(y39,(y40,()))))))] [] (.tup [(.tv [] .str y44),(.tv [] (.int .i64) y45)]) []) ∧
 (((y0=true) →
 ((((decide (y23=(0:Int)))=true) →
 ((((decide (y11=y22))=true) →
 ((((decide (y41=(0:Int)))=true) →
 (∃ y50:Bool,
 (Need (E 17 [(.tv [] qt0 (y3,(y4,(y5,(y6,(y7,())))))),(.tv [] qt0 (y36,(y37,(y38,(y39,(y40,()))))))] [] (.tv [] .bool y50) []) ∧
 (((y50=true) →
 ((((decide (y45=(0:Int)))=true) →
 (Q (.tv [] .bool (decide (y44=y22))) [])) ∧
 (((decide (y45=(0:Int)))=false) →
 (Q (.tv [] .bool false) [])))) ∧
 ((y50=false) →
 (Q (.tv [] .bool false) [])))))) ∧
 (((decide (y41=(0:Int)))=false) →
 (Q (.tv [] .bool false) [])))) ∧
 (((decide (y11=y22))=false) →
 (Q (.tv [] .bool false) [])))) ∧
 (((decide (y23=(0:Int)))=false) →
 (Q (.tv [] .bool false) [])))) ∧
 ((y0=false) →
 (Q (.tv [] .bool false) []))))))))))))))))))))))))))))))))))))))):EvF PP orc 11 [.tv [] .str x0] [] Q:=vc_of (by kernel_rfl) h
end Go.Am.R
namespace Go.Am.R
open Go
set_option maxRecDepth 100000
set_option maxHeartbeats 4000000
theorem vc29 (x0:List Int) (Q:AV→Heap→Prop) (h :
(∃ y0:qT5,
 (∃ y1:qT7,
 (∃ y2:qT4,
 (∃ y3:qT0,
 (∃ y4:qT3,
 (∃ y5 y6 y7:Int,
 (Need (E 13 [(.tv [] .str x0)] [] (.tup [(.tv [] qt0 (y0,(y1,(y2,(y3,(y4,())))))),(.tv [] qt2 (y5,((y6,(y7,())),())))]) []) ∧
 ((((decide (y5≠(0:Int)))=true) →
 (Q (.tup [(.tv [] .str (List.map (fun v9=>(((BitVec.toNat (UInt8.toBitVec v9)):Nat):Int)) [])),(.tv [] qt2 (y5,((y6,(y7,())),())))]) [])) ∧
 (((decide (y5≠(0:Int)))=false) →
 (∃ y11:qT0,
 (∃ y12:Int,
 (Need (E 20 [(.tv [] qt0 (y0,(y1,(y2,(y3,(y4,()))))))] [] (.tup [(.tv [] .str y11),(.tv [] (.int .i64) y12)]) []) ∧
 ((((decide (y12≠(0:Int)))=true) →
 (Q (.tup [(.tv [] .str (List.map (fun v14=>(((BitVec.toNat (UInt8.toBitVec v14)):Nat):Int)) [])),(.tv [] qt2 (y12,(((1:Int),((1:Int),())),())))]) [])) ∧
 (((decide (y12≠(0:Int)))=false) →
 (Q (.tup [(.tv [] .str y11),(.tv [] qt2 ((0:Int),(((0:Int),((0:Int),())),())))]) [])))))))))))))))):EvF PP orc 29 [.tv [] .str x0] [] Q:=vc_of (by kernel_rfl) h
end Go.Am.R
