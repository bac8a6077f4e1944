/-
  A part of the proof of a law: see the text that states it.
-/
import Derived.Test.YtcggbplapaeedaaDoorHead
set_option linter.all false
namespace Go.Am.R
open Go
set_option maxRecDepth 100000
set_option maxHeartbeats 4000000
theorem vc18  (Q:AV→Heap→Prop) (h :
(∃ y0:qT0,
 (∃ y1:Int,
 (Need (E 20 [(.tv [] qt0 ([],([],([],((List.map (fun v2=>(((BitVec.toNat (UInt8.toBitVec v2)):Nat):Int)) [(69:UInt8)]),([((List.map (fun v3=>(((BitVec.toNat (UInt8.toBitVec v3)):Nat):Int)) [(69:UInt8)]),([(List.map (fun v4=>(((BitVec.toNat (UInt8.toBitVec v4)):Nat):Int)) [(69:UInt8)]),(List.map (fun v5=>(((BitVec.toNat (UInt8.toBitVec v5)):Nat):Int)) [(78:UInt8)])],([],((List.map (fun v6=>(((BitVec.toNat (UInt8.toBitVec v6)):Nat):Int)) [(49:UInt8)]),()))))],()))))))] [] (.tup [(.tv [] .str y0),(.tv [] (.int .i64) y1)]) []) ∧
 (∃ y7:qT0,
 (Need (E 25 [(.tv [] qt8 ([],((List.map (fun v8=>(((BitVec.toNat (UInt8.toBitVec v8)):Nat):Int)) [(45:UInt8),(48:UInt8)]),(true,()))))] [] (.tv [] .str y7) []) ∧
 ((((decide (y1=(0:Int)))=true) →
 ((((decide (y0=[(37:Int),(115:Int),(116:Int),(97:Int),(114:Int),(116:Int),(32:Int),(69:Int),(10:Int),(37:Int),(37:Int),(10:Int),(69:Int),(32:Int),(58:Int),(32:Int),(69:Int),(32:Int),(78:Int),(32:Int),(123:Int),(49:Int),(125:Int),(32:Int),(59:Int),(10:Int)]))=true) →
 (Q (.tv [] .bool (decide (y7=[(91:Int),(92:Int),(45:Int),(48:Int),(93:Int),(43:Int)]))) [])) ∧
 (((decide (y0=[(37:Int),(115:Int),(116:Int),(97:Int),(114:Int),(116:Int),(32:Int),(69:Int),(10:Int),(37:Int),(37:Int),(10:Int),(69:Int),(32:Int),(58:Int),(32:Int),(69:Int),(32:Int),(78:Int),(32:Int),(123:Int),(49:Int),(125:Int),(32:Int),(59:Int),(10:Int)]))=false) →
 (Q (.tv [] .bool false) [])))) ∧
 (((decide (y1=(0:Int)))=false) →
 (Q (.tv [] .bool false) []))))))))):EvF PP orc 18 [] [] Q:=vc_of (by kernel_rfl) h
end Go.Am.R
