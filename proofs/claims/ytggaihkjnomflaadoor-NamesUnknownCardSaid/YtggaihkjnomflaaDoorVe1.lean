/-
  A part of the proof of a law: see the text that states it.
-/
import Derived.Test.YtggaihkjnomflaaDoorHead
set_option linter.all false
namespace Go.Am.D
open Go
set_option maxRecDepth 100000
set_option maxHeartbeats 4000000
theorem vc15 (x0_0:Int) (x0_1:Int) (x0_2:List (Int)) (x0_3:List (List (Int))) (x0_4:List (Int)) (x0_5:List (Int)) (x0_6:List (Int)) (x1:Int) (x2:Int) (Q:AV→Heap→Prop) (h :
((((decide (x1<(x0_2.length:Int)))=true) →
 (Q (.tv [] .bool false) [])) ∧
 (((decide (x1<(x0_2.length:Int)))=false) →
 ((((decide ((5:Int)<(x0_5.length:Int)))=true) →
 (Q (.tv [] .bool false) [])) ∧
 (((decide ((5:Int)<(x0_5.length:Int)))=false) →
 (∃ y4:(Int→Prop),
 (∃ y5:(Int→Nat),
 ((y4 (0:Int)) ∧
 (∀ z6:Int,
 ((y4 z6) →
 ((((decide (z6<(x0_3.length:Int)))=true) →
 (Need ((0≤z6)∧(z6<(x0_3.length:Int))) ∧
 ((((decide (x2<((List.length (List.getD x0_3 z6.toNat [])):Int)))=true) →
 (Q (.tv [] .bool false) [])) ∧
 (((decide (x2<((List.length (List.getD x0_3 z6.toNat [])):Int)))=false) →
 (Need ((-9223372036854775808≤(z6+1))∧((z6+1)≤9223372036854775807)) ∧
 ((y4 (z6+1)) ∧
  Need ((y5 (z6+1))<(y5 z6)))))))) ∧
 (((decide (z6<(x0_3.length:Int)))=false) →
 (Q (.tv [] .bool true) []))))))))))))):EvF PP orc 15 [.tv [] qt10 (x0_0,(x0_1,(x0_2,(x0_3,(x0_4,(x0_5,(x0_6,()))))))),.tv [] (.int .i64) x1,.tv [] (.int .i64) x2] [] Q:=vc_of (by kernel_rfl) h
end Go.Am.D
namespace Go.Am.D
open Go
set_option maxRecDepth 100000
set_option maxHeartbeats 4000000
theorem vc6 (x0_0:Int) (x0_1:Int) (x0_2:List (Int)) (x0_3:List (List (Int))) (x0_4:List (Int)) (x0_5:List (Int)) (x0_6:List (Int)) (x1:Int) (x2:Bool) (Q:AV→Heap→Prop) (h :
(∃ y0:Bool,
 (Need (E 7 [] [] (.tv [] .bool y0) []) ∧
 (∃ y1:Bool,
 (Need (E 15 [(.tv [] qt10 (x0_0,(x0_1,(x0_2,(x0_3,(x0_4,(x0_5,(x0_6,())))))))),(.tv [] (.int .i64) (20:Int)),(.tv [] (.int .i64) (7:Int))] [] (.tv [] .bool y1) []) ∧
 ((((!y1)=true) →
 (Q (.tv [] .bool y0) [])) ∧
 (((!y1)=false) →
 (∃ y4:qT6,
 (∃ y5:qT9,
 (∃ y6:qT4,
 (∃ y7:qT0,
 (∃ y8:qT3,
 (Need (E 16 [(.tv [] qt10 (x0_0,(x0_1,(x0_2,(x0_3,(x0_4,(x0_5,(x0_6,()))))))))] [] (.tv [] qt0 (y4,(y5,(y6,(y7,(y8,())))))) []) ∧
 (Need (((-9223372036854775808:Int)≤x1)∧(x1≤9223372036854775807)) ∧
 (Need ((y8.length:Int)≠(0:Int)) ∧
 (Need (¬ ((IntKind.i64=IntKind.u8)∧(¬ ((0≤x1)∧((x1<256)∧((0:Int)<(y8.length:Int))))))) ∧
 (((x2=true) →
 (Need ((0+y4.length)≤bigN) ∧
 (Need (((0:Int)≤(Int.tmod x1 (y8.length:Int)))∧((Int.tmod x1 (y8.length:Int))<(y8.length:Int))) ∧
 (Need (((List.length ([]++y4))+(List.length [(((List.getD y8 (Int.toNat (Int.tmod x1 (y8.length:Int))) ([],([],([],([],()))))).1,(((List.map (fun v10=>(((BitVec.toNat (UInt8.toBitVec v10)):Nat):Int)) [(120:UInt8)]),([],(false,()))),())):List Int×(List Int×List Int×Bool×Unit)×Unit)]))≤bigN) ∧
 (∃ y11 y12:qT8,
 (∃ y13:qT7,
 (∃ y14 y15:qT0,
 (∃ y16:qT8,
 (∃ y17:Int,
 (∃ y18:qT0,
 (Need (E 9 [(.tv [] qt0 ((([]++y4)++[(((List.getD y8 (Int.toNat (Int.tmod x1 (y8.length:Int))) ([],([],([],([],()))))).1,(((List.map (fun v19=>(((BitVec.toNat (UInt8.toBitVec v19)):Nat):Int)) [(120:UInt8)]),([],(false,()))),())):List Int×(List Int×List Int×Bool×Unit)×Unit)]),(y5,(y6,(y7,(y8,()))))))] [] (.tup [(.tv [] qt2 (y11,(y12,(y13,(y14,(y15,(y16,()))))))),(.tv [] (.int .i64) y17),(.tv [] .str y18)]) []) ∧
 (((y0=true) →
 ((((decide (y17=(15:Int)))=true) →
 (Need (((0:Int)≤(Int.tmod x1 (y8.length:Int)))∧((Int.tmod x1 (y8.length:Int))<(y8.length:Int))) ∧
 (Q (.tv [] .bool (decide (y18=(List.getD y8 (Int.toNat (Int.tmod x1 (y8.length:Int))) ([],([],([],([],()))))).1))) []))) ∧
 (((decide (y17=(15:Int)))=false) →
 (Q (.tv [] .bool false) [])))) ∧
 ((y0=false) →
 (Q (.tv [] .bool false) [])))))))))))))) ∧
 ((x2=false) →
 (Need ((0=0)∧((0≤0)∧((0<y8.length)∧((0+y8.length)≤bigN)))) ∧
 (Need (((0:Int)≤(Int.tmod x1 (y8.length:Int)))∧((Int.tmod x1 (y8.length:Int))<(((0+y8.length):Nat):Int))) ∧
 (Need (1=1) ∧
 (Need ((0+(Int.toNat (Int.tmod x1 (y8.length:Int))))<(0+y8.length)) ∧
 (Need (1=1) ∧
 (Need ((0+(Int.toNat (Int.tmod x1 (y8.length:Int))))<(0+y8.length)) ∧
 (Need ((0+(List.length (List.getD ((List.take 0 [])++y8) (0+(Int.toNat (Int.tmod x1 (y8.length:Int)))) ([],([],([],([],()))))).2.1))≤bigN) ∧
 (Need (((List.length ([]++(List.getD ((List.take 0 [])++y8) (0+(Int.toNat (Int.tmod x1 (y8.length:Int)))) ([],([],([],([],()))))).2.1))+1)≤bigN) ∧
 (Need (((0:Int)≤(Int.tmod x1 (y8.length:Int)))∧((Int.tmod x1 (y8.length:Int))<(((0+y8.length):Nat):Int))) ∧
 (Need (1=1) ∧
 (Need ((0+(Int.toNat (Int.tmod x1 (y8.length:Int))))<(0+y8.length)) ∧
 (Need (1=1) ∧
 (Need ((0+(Int.toNat (Int.tmod x1 (y8.length:Int))))<(0+y8.length)) ∧
 (Need ((1=1)∧((0+y8.length)=(0+y8.length))) ∧
 (∃ y25 y26:qT8,
 (∃ y27:qT7,
 (∃ y28 y29:qT0,
 (∃ y30:qT8,
 (∃ y31:Int,
 (∃ y32:qT0,
 (Need (E 9 [(.tv [] qt0 (y4,(y5,(y6,(y7,((List.set ((List.take 0 [])++y8) (0+(Int.toNat (Int.tmod x1 (y8.length:Int)))) ((List.getD ((List.take 0 [])++y8) (0+(Int.toNat (Int.tmod x1 (y8.length:Int)))) ([],([],([],([],()))))).1,((([]++(List.getD ((List.take 0 [])++y8) (0+(Int.toNat (Int.tmod x1 (y8.length:Int)))) ([],([],([],([],()))))).2.1)++[(List.map (fun v33=>(((BitVec.toNat (UInt8.toBitVec v33)):Nat):Int)) [(122:UInt8),(122:UInt8)])]),(List.getD ((List.take 0 [])++y8) (0+(Int.toNat (Int.tmod x1 (y8.length:Int)))) ([],([],([],([],()))))).2.2))),()))))))] [] (.tup [(.tv [] qt2 (y25,(y26,(y27,(y28,(y29,(y30,()))))))),(.tv [] (.int .i64) y31),(.tv [] .str y32)]) []) ∧
 (((y0=true) →
 ((((decide (y31=(16:Int)))=true) →
 ((((decide (y32=[(122:Int),(122:Int)]))=true) →
 (∃ y37:Bool,
 (Need (E 17 [(.tv [] qt9 y25),(.tv [] qt9 [])] [] (.tv [] .bool y37) []) ∧
 (Q (.tv [] .bool y37) [])))) ∧
 (((decide (y32=[(122:Int),(122:Int)]))=false) →
 (Q (.tv [] .bool false) [])))) ∧
 (((decide (y31=(16:Int)))=false) →
 (Q (.tv [] .bool false) [])))) ∧
 ((y0=false) →
 (Q (.tv [] .bool false) [])))))))))))))))))))))))))))))))))))))))))):EvF PP orc 6 [.tv [] qt10 (x0_0,(x0_1,(x0_2,(x0_3,(x0_4,(x0_5,(x0_6,()))))))),.tv [] (.int .u8) x1,.tv [] .bool x2] [] Q:=vc_of (by kernel_rfl) h
end Go.Am.D
