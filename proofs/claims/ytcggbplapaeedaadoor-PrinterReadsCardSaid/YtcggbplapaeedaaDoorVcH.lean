/-
  A part of the proof of a law: see the text that states it.
-/
import Derived.Test.YtcggbplapaeedaaDoorHead
set_option linter.all false
namespace Go.Am.R
open Go
set_option maxRecDepth 100000
set_option maxHeartbeats 4000000
theorem vc79 (o0_1:List (Int)) (Q:AV→Heap→Prop) (h :
(Need (0≤bigN) ∧
 (Q (.tup []) (hq5 o0_1)))):EvF PP orc 79 [.op (0,0) []] [((0,0),⟨⟨(.pair .wref qt6),((some (0,0):Option Key),(o0_1,()))⟩,[[1]]⟩)] Q:=vc_of (by kernel_rfl) h
theorem vc79002 (b:List Int) (Q:AV→Heap→Prop) (h :
(Need (0≤bigN) ∧
 (Q (.tup []) (hq4 b)))):EvF PP orc 79 [.op (0,0) [0]] [((0,0),⟨⟨(.pair (.pair .wref qt6) .unit),(((some (0,0):Option Key),(b,())),())⟩,[[0,1]]⟩)] Q:=vc_of (by kernel_rfl) h
theorem vc34 (o0_1:List (Int)) (Q:AV→Heap→Prop) (h :
(Need (o0_1.length≤bigN) ∧
 (Q (.tv [] .str o0_1) [((0,0),⟨⟨(.pair .wref qt6),((some (0,0)),(o0_1,()))⟩,[]⟩)]))):EvF PP orc 34 [.op (0,0) []] [((0,0),⟨⟨(.pair .wref qt6),((some (0,0):Option Key),(o0_1,()))⟩,[[1]]⟩)] Q:=vc_of (by kernel_rfl) h
theorem vc34002 (b:List Int) (Q:AV→Heap→Prop) (h :
(Need (b.length≤bigN) ∧
 (Q (.tv [] .str b) [((0,0),⟨⟨(.pair (.pair .wref qt6) .unit),(((some (0,0)),(b,())),())⟩,[]⟩)]))):EvF PP orc 34 [.op (0,0) [0]] [((0,0),⟨⟨(.pair (.pair .wref qt6) .unit),(((some (0,0):Option Key),(b,())),())⟩,[[0,1]]⟩)] Q:=vc_of (by kernel_rfl) h
theorem vc33002 (b:List Int) (Q:AV→Heap→Prop) (h :
(Q (.tv [] (.int .i64) (b.length:Int)) (hq4 b))):EvF PP orc 33 [.op (0,0) [0]] [((0,0),⟨⟨(.pair (.pair .wref qt6) .unit),(((some (0,0):Option Key),(b,())),())⟩,[[0,1]]⟩)] Q:=vc_of (by kernel_rfl) h
theorem vc54 (x1:List Int) (o0_1:List (Int)) (Q:AV→Heap→Prop) (h :
(∃ y0:qT0,
 (Need (E 79 [(.op (0,0) [])] (hq5 o0_1) (.tup []) (hq5 y0)) ∧
 (Need ((y0.length+x1.length)≤bigN) ∧
 (Q (.tup [(.tv [] (.int .i64) (x1.length:Int)),.any]) [((0,0),⟨⟨(.pair .wref qt6),((some (0,0)),((y0++x1),()))⟩,[[1]]⟩)]))))):EvF PP orc 54 [.op (0,0) [],.tv [] .str x1] [((0,0),⟨⟨(.pair .wref qt6),((some (0,0):Option Key),(o0_1,()))⟩,[[1]]⟩)] Q:=vc_of (by kernel_rfl) h
theorem vc54002 (b:List Int) (s:List Int) (Q:AV→Heap→Prop) (h :
(∃ y0:qT0,
 (Need (E 79 [(.op (0,0) [0])] (hq4 b) (.tup []) (hq4 y0)) ∧
 (Need ((y0.length+s.length)≤bigN) ∧
 (Q (.tup [(.tv [] (.int .i64) (s.length:Int)),.any]) [((0,0),⟨⟨(.pair (.pair .wref qt6) .unit),(((some (0,0)),((y0++s),())),())⟩,[[0,1]]⟩)]))))):EvF PP orc 54 [.op (0,0) [0],.tv [] .str s] [((0,0),⟨⟨(.pair (.pair .wref qt6) .unit),(((some (0,0):Option Key),(b,())),())⟩,[[0,1]]⟩)] Q:=vc_of (by kernel_rfl) h
theorem vc55 (x1:Int) (o0_1:List (Int)) (Q:AV→Heap→Prop) (h :
(∃ y0:qT0,
 (Need (E 79 [(.op (0,0) [])] (hq5 o0_1) (.tup []) (hq5 y0)) ∧
 (Need ((y0.length+(List.length [x1]))≤bigN) ∧
 (Q .any [((0,0),⟨⟨(.pair .wref qt6),((some (0,0)),((y0++[x1]),()))⟩,[[1]]⟩)]))))):EvF PP orc 55 [.op (0,0) [],.tv [] (.int .u8) x1] [((0,0),⟨⟨(.pair .wref qt6),((some (0,0):Option Key),(o0_1,()))⟩,[[1]]⟩)] Q:=vc_of (by kernel_rfl) h
theorem vc55002 (b:List Int) (c:Int) (Q:AV→Heap→Prop) (h :
(∃ y0:qT0,
 (Need (E 79 [(.op (0,0) [0])] (hq4 b) (.tup []) (hq4 y0)) ∧
 (Need ((y0.length+(List.length [c]))≤bigN) ∧
 (Q .any [((0,0),⟨⟨(.pair (.pair .wref qt6) .unit),(((some (0,0)),((y0++[c]),())),())⟩,[[0,1]]⟩)]))))):EvF PP orc 55 [.op (0,0) [0],.tv [] (.int .u8) c] [((0,0),⟨⟨(.pair (.pair .wref qt6) .unit),(((some (0,0):Option Key),(b,())),())⟩,[[0,1]]⟩)] Q:=vc_of (by kernel_rfl) h
theorem vc32 (x1:List qT0) (o0_0_1:List (Int)) (Q:AV→Heap→Prop) (h :
(∃ y0:qT0,
 (Need (E 44 [(.tv [] qt10 x1),(.tv [] .str (List.map (fun v1=>(((BitVec.toNat (UInt8.toBitVec v1)):Nat):Int)) [(32:UInt8)]))] [] (.tv [] .str y0) []) ∧
 (∃ y2:Int,
 (∃ y3:qT0,
 (Need (E 54 [(.op (0,0) [0]),(.tv [] .str y0)] (hq4 o0_0_1) (.tup [(.tv [] (.int .i64) y2),.any]) (hq4 y3)) ∧
 (∃ y4:qT0,
 (Need (E 55 [(.op (0,0) [0]),(.tv [] (.int .u8) (10:Int))] (hq4 y3) .any (hq4 y4)) ∧
 (Q (.tup []) (hq4 y4)))))))))):EvF PP orc 32 [.op (0,0) [],.tv [] qt10 x1] [((0,0),⟨⟨(.pair (.pair .wref qt6) .unit),(((some (0,0):Option Key),(o0_0_1,())),())⟩,[[0,1]]⟩)] Q:=vc_of (by kernel_rfl) h
theorem vc45 (x0:List Int) (x1:List Int) (Q:AV→Heap→Prop) (h :
(∃ y0:(Int→(qT0→Prop)),
 (∃ y1:(Int→(qT0→Nat)),
 ((y0 (0:Int) []) ∧
 (∀ z2:Int,
 (∀ z3:qT0,
 ((y0 z2 z3) →
 ((((decide (z2<(x0.length:Int)))=true) →
 (Need ((0≤z2)∧(z2<(x0.length:Int))) ∧
 ((((decide ((List.getD x0 z2.toNat (0:Int))=(10:Int)))=true) →
 (∃ y7:Int,
 (∃ y8:qT0,
 (Need (E 54 [(.op (0,0) []),(.tv [] .str (List.map (fun v9=>(((BitVec.toNat (UInt8.toBitVec v9)):Nat):Int)) [(92:UInt8),(110:UInt8)]))] (hq5 z3) (.tup [(.tv [] (.int .i64) y7),.any]) (hq5 y8)) ∧
 (Need ((-9223372036854775808≤(z2+1))∧((z2+1)≤9223372036854775807)) ∧
 ((y0 (z2+1) y8) ∧
   Need ((y1 (z2+1) y8)<(y1 z2 z3)))))))) ∧
 (((decide ((List.getD x0 z2.toNat (0:Int))=(10:Int)))=false) →
 ((((decide ((List.getD x0 z2.toNat (0:Int))=(9:Int)))=true) →
 (∃ y12:Int,
 (∃ y13:qT0,
 (Need (E 54 [(.op (0,0) []),(.tv [] .str (List.map (fun v14=>(((BitVec.toNat (UInt8.toBitVec v14)):Nat):Int)) [(92:UInt8),(116:UInt8)]))] (hq5 z3) (.tup [(.tv [] (.int .i64) y12),.any]) (hq5 y13)) ∧
 (Need ((-9223372036854775808≤(z2+1))∧((z2+1)≤9223372036854775807)) ∧
 ((y0 (z2+1) y13) ∧
   Need ((y1 (z2+1) y13)<(y1 z2 z3)))))))) ∧
 (((decide ((List.getD x0 z2.toNat (0:Int))=(9:Int)))=false) →
 (∃ y16:Int,
 (Need (E 64 [(.tv [] .str x1),(.tv [] (.int .u8) (List.getD x0 z2.toNat (0:Int)))] [] (.tv [] (.int .i64) y16) []) ∧
 ((((decide (0≤y16))=true) →
 (∃ y18:qT0,
 (Need (E 55 [(.op (0,0) []),(.tv [] (.int .u8) (92:Int))] (hq5 z3) .any (hq5 y18)) ∧
 (∃ y19:qT0,
 (Need (E 55 [(.op (0,0) []),(.tv [] (.int .u8) (List.getD x0 z2.toNat (0:Int)))] (hq5 y18) .any (hq5 y19)) ∧
 (Need ((-9223372036854775808≤(z2+1))∧((z2+1)≤9223372036854775807)) ∧
 ((y0 (z2+1) y19) ∧
   Need ((y1 (z2+1) y19)<(y1 z2 z3))))))))) ∧
 (((decide (0≤y16))=false) →
 (∃ y21:qT0,
 (Need (E 55 [(.op (0,0) []),(.tv [] (.int .u8) (List.getD x0 z2.toNat (0:Int)))] (hq5 z3) .any (hq5 y21)) ∧
 (Need ((-9223372036854775808≤(z2+1))∧((z2+1)≤9223372036854775807)) ∧
 ((y0 (z2+1) y21) ∧
  Need ((y1 (z2+1) y21)<(y1 z2 z3)))))))))))))))) ∧
 (((decide (z2<(x0.length:Int)))=false) →
 (∃ y23 y24:qT0,
 (Need (E 34 [(.op (0,0) [])] (hq5 z3) (.tv [] .str y23) [((0,0),⟨⟨(.pair .wref qt6),((some (0,0)),(y24,()))⟩,[]⟩)]) ∧
 (Q (.tv [] .str y23) [])))))))))))):EvF PP orc 45 [.tv [] .str x0,.tv [] .str x1] [] Q:=vc_of (by kernel_rfl) h
theorem vc25 (x0_0:List Int) (x0_1:List Int) (x0_2:Bool) (Q:AV→Heap→Prop) (h :
((((!(decide (x0_0=[])))=true) →
 (∃ y1:qT0,
 (Need (E 45 [(.tv [] .str x0_0),(.tv [] .str (List.map (fun v2=>(((BitVec.toNat (UInt8.toBitVec v2)):Nat):Int)) [(92:UInt8),(34:UInt8)]))] [] (.tv [] .str y1) []) ∧
 (Need ((1+y1.length)≤bigN) ∧
 (Need (((List.length ([(34:Int)]++y1))+1)≤bigN) ∧
 (Q (.tv [] .str (([(34:Int)]++y1)++[(34:Int)])) [])))))) ∧
 (((!(decide (x0_0=[])))=false) →
 (∃ y4:qT0,
 (Need (E 45 [(.tv [] .str x0_1),(.tv [] .str (List.map (fun v5=>(((BitVec.toNat (UInt8.toBitVec v5)):Nat):Int)) [(92:UInt8),(93:UInt8),(45:UInt8)]))] [] (.tv [] .str y4) []) ∧
 (Need ((1+y4.length)≤bigN) ∧
 (Need (((List.length ([(91:Int)]++y4))+1)≤bigN) ∧
 (((x0_2=true) →
 (Need (((List.length (([(91:Int)]++y4)++[(93:Int)]))+1)≤bigN) ∧
 (Q (.tv [] .str ((([(91:Int)]++y4)++[(93:Int)])++[(43:Int)])) []))) ∧
 ((x0_2=false) →
 (Q (.tv [] .str (([(91:Int)]++y4)++[(93:Int)])) [])))))))))):EvF PP orc 25 [.tv [] qt8 (x0_0,(x0_1,(x0_2,())))] [] Q:=vc_of (by kernel_rfl) h
end Go.Am.R
