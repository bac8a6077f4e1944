/-
  A part of the proof of a law: see the text that states it.
-/
import Derived.Test.YtfnnapgpcndcjaaGreatDoorHead
set_option linter.all false
namespace Go.Am.Z
open Go
set_option maxRecDepth 100000
set_option maxHeartbeats 4000000
theorem vc105 (x0:Int) (Q:AV→Heap→Prop) (h :
((((decide (1≤x0))=true) →
 (Q (.tv [] .bool (decide (x0≤9))) [])) ∧
 (((decide (1≤x0))=false) →
 (Q (.tv [] .bool false) [])))):EvF PP orc 105 [.tv [] (.int .i64) x0] [] Q:=vc_of (by kernel_rfl) h
theorem vc106 (x0:Int) (Q:AV→Heap→Prop) (h :
((((decide (1≤x0))=true) →
 (Q (.tv [] .bool (decide (x0≤3))) [])) ∧
 (((decide (1≤x0))=false) →
 (Q (.tv [] .bool false) [])))):EvF PP orc 106 [.tv [] (.int .i64) x0] [] Q:=vc_of (by kernel_rfl) h
theorem vc107 (x1:Int) (o0:List (Bool)) (Q:AV→Heap→Prop) (h :
(Need ((0≤x1)∧(x1<256)) ∧
 (Need (x1.toNat<256) ∧
 (Q (.tv [] .bool (List.getD o0 x1.toNat false)) (hq6 o0))))):EvF PP orc 107 [.op (0,0) [],.tv [] (.int .u8) x1] (hq6 o0) Q:=vc_of (by kernel_rfl) h
end Go.Am.Z
