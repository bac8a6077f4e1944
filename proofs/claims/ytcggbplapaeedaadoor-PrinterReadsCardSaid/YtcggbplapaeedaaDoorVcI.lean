/-
  A part of the proof of a law: see the text that states it.
-/
import Derived.Test.YtcggbplapaeedaaDoorHead
set_option linter.all false
namespace Go.Am.R
open Go
set_option maxRecDepth 100000
set_option maxHeartbeats 4000000
theorem vc23 (x0_0:List Int) (x0_1:List qT0) (x0_2:List Int) (x0_3:List Int) (Q:AV→Heap→Prop) (h :
(Need (((List.length [x0_0,(List.map (fun v0=>(((BitVec.toNat (UInt8.toBitVec v0)):Nat):Int)) [(58:UInt8)])])+x0_1.length)≤bigN) ∧
 ((((!(decide (x0_2=[])))=true) →
 (Need (((List.length ([x0_0,(List.map (fun v2=>(((BitVec.toNat (UInt8.toBitVec v2)):Nat):Int)) [(58:UInt8)])]++x0_1))+(List.length [(List.map (fun v3=>(((BitVec.toNat (UInt8.toBitVec v3)):Nat):Int)) [(37:UInt8),(112:UInt8),(114:UInt8),(101:UInt8),(99:UInt8)]),x0_2]))≤bigN) ∧
 ((((!(decide (x0_3=[])))=true) →
 (Need ((1+x0_3.length)≤bigN) ∧
 (Need (((List.length ([(123:Int)]++x0_3))+1)≤bigN) ∧
 (Need (((List.length (([x0_0,(List.map (fun v5=>(((BitVec.toNat (UInt8.toBitVec v5)):Nat):Int)) [(58:UInt8)])]++x0_1)++[(List.map (fun v6=>(((BitVec.toNat (UInt8.toBitVec v6)):Nat):Int)) [(37:UInt8),(112:UInt8),(114:UInt8),(101:UInt8),(99:UInt8)]),x0_2]))+(List.length [(([(123:Int)]++x0_3)++[(125:Int)])]))≤bigN) ∧
 (Need (((List.length ((([x0_0,(List.map (fun v7=>(((BitVec.toNat (UInt8.toBitVec v7)):Nat):Int)) [(58:UInt8)])]++x0_1)++[(List.map (fun v8=>(((BitVec.toNat (UInt8.toBitVec v8)):Nat):Int)) [(37:UInt8),(112:UInt8),(114:UInt8),(101:UInt8),(99:UInt8)]),x0_2])++[(([(123:Int)]++x0_3)++[(125:Int)])]))+1)≤bigN) ∧
 (∃ y9:qT0,
 (Need (E 44 [(.tv [] qt10 (((([x0_0,(List.map (fun v10=>(((BitVec.toNat (UInt8.toBitVec v10)):Nat):Int)) [(58:UInt8)])]++x0_1)++[(List.map (fun v11=>(((BitVec.toNat (UInt8.toBitVec v11)):Nat):Int)) [(37:UInt8),(112:UInt8),(114:UInt8),(101:UInt8),(99:UInt8)]),x0_2])++[(([(123:Int)]++x0_3)++[(125:Int)])])++[(List.map (fun v12=>(((BitVec.toNat (UInt8.toBitVec v12)):Nat):Int)) [(59:UInt8)])])),(.tv [] .str (List.map (fun v13=>(((BitVec.toNat (UInt8.toBitVec v13)):Nat):Int)) [(32:UInt8)]))] [] (.tv [] .str y9) []) ∧
 (Q (.tv [] .str y9) [])))))))) ∧
 (((!(decide (x0_3=[])))=false) →
 (Need (((List.length (([x0_0,(List.map (fun v15=>(((BitVec.toNat (UInt8.toBitVec v15)):Nat):Int)) [(58:UInt8)])]++x0_1)++[(List.map (fun v16=>(((BitVec.toNat (UInt8.toBitVec v16)):Nat):Int)) [(37:UInt8),(112:UInt8),(114:UInt8),(101:UInt8),(99:UInt8)]),x0_2]))+1)≤bigN) ∧
 (∃ y17:qT0,
 (Need (E 44 [(.tv [] qt10 ((([x0_0,(List.map (fun v18=>(((BitVec.toNat (UInt8.toBitVec v18)):Nat):Int)) [(58:UInt8)])]++x0_1)++[(List.map (fun v19=>(((BitVec.toNat (UInt8.toBitVec v19)):Nat):Int)) [(37:UInt8),(112:UInt8),(114:UInt8),(101:UInt8),(99:UInt8)]),x0_2])++[(List.map (fun v20=>(((BitVec.toNat (UInt8.toBitVec v20)):Nat):Int)) [(59:UInt8)])])),(.tv [] .str (List.map (fun v21=>(((BitVec.toNat (UInt8.toBitVec v21)):Nat):Int)) [(32:UInt8)]))] [] (.tv [] .str y17) []) ∧
 (Q (.tv [] .str y17) [])))))))) ∧
 (((!(decide (x0_2=[])))=false) →
 ((((!(decide (x0_3=[])))=true) →
 (Need ((1+x0_3.length)≤bigN) ∧
 (Need (((List.length ([(123:Int)]++x0_3))+1)≤bigN) ∧
 (Need (((List.length ([x0_0,(List.map (fun v24=>(((BitVec.toNat (UInt8.toBitVec v24)):Nat):Int)) [(58:UInt8)])]++x0_1))+(List.length [(([(123:Int)]++x0_3)++[(125:Int)])]))≤bigN) ∧
 (Need (((List.length (([x0_0,(List.map (fun v25=>(((BitVec.toNat (UInt8.toBitVec v25)):Nat):Int)) [(58:UInt8)])]++x0_1)++[(([(123:Int)]++x0_3)++[(125:Int)])]))+1)≤bigN) ∧
 (∃ y26:qT0,
 (Need (E 44 [(.tv [] qt10 ((([x0_0,(List.map (fun v27=>(((BitVec.toNat (UInt8.toBitVec v27)):Nat):Int)) [(58:UInt8)])]++x0_1)++[(([(123:Int)]++x0_3)++[(125:Int)])])++[(List.map (fun v28=>(((BitVec.toNat (UInt8.toBitVec v28)):Nat):Int)) [(59:UInt8)])])),(.tv [] .str (List.map (fun v29=>(((BitVec.toNat (UInt8.toBitVec v29)):Nat):Int)) [(32:UInt8)]))] [] (.tv [] .str y26) []) ∧
 (Q (.tv [] .str y26) [])))))))) ∧
 (((!(decide (x0_3=[])))=false) →
 (Need (((List.length ([x0_0,(List.map (fun v31=>(((BitVec.toNat (UInt8.toBitVec v31)):Nat):Int)) [(58:UInt8)])]++x0_1))+1)≤bigN) ∧
 (∃ y32:qT0,
 (Need (E 44 [(.tv [] qt10 (([x0_0,(List.map (fun v33=>(((BitVec.toNat (UInt8.toBitVec v33)):Nat):Int)) [(58:UInt8)])]++x0_1)++[(List.map (fun v34=>(((BitVec.toNat (UInt8.toBitVec v34)):Nat):Int)) [(59:UInt8)])])),(.tv [] .str (List.map (fun v35=>(((BitVec.toNat (UInt8.toBitVec v35)):Nat):Int)) [(32:UInt8)]))] [] (.tv [] .str y32) []) ∧
 (Q (.tv [] .str y32) [])))))))))):EvF PP orc 23 [.tv [] qt9 (x0_0,(x0_1,(x0_2,(x0_3,()))))] [] Q:=vc_of (by kernel_rfl) h
theorem vc38 (x0_0:List Int) (x0_1:List Int) (x0_2:Bool) (Q:AV→Heap→Prop) (h :
((((!(decide (x0_0=[])))=true) →
 ((((decide ((x0_0.length:Int)≤(32:Int)))=true) →
 ((((decide (x0_1=[]))=true) →
 (Q (.tv [] .bool (!x0_2)) [])) ∧
 (((decide (x0_1=[]))=false) →
 (Q (.tv [] .bool false) [])))) ∧
 (((decide ((x0_0.length:Int)≤(32:Int)))=false) →
 (Q (.tv [] .bool false) [])))) ∧
 (((!(decide (x0_0=[])))=false) →
 (∃ y6:(Int→Prop),
 (∃ y7:(Int→Nat),
 ((y6 (1:Int)) ∧
 (∀ z8:Int,
 ((y6 z8) →
 ((((decide (z8<(x0_1.length:Int)))=true) →
 (Need ((-9223372036854775808≤(z8-1))∧((z8-1)≤9223372036854775807)) ∧
 (Need (((0:Int)≤(z8-1))∧((z8-1)<(x0_1.length:Int))) ∧
 (Need ((0≤z8)∧(z8<(x0_1.length:Int))) ∧
 ((((decide ((List.getD x0_1 z8.toNat (0:Int))≤(List.getD x0_1 (Int.toNat (z8-1)) (0:Int))))=true) →
 (Q (.tv [] .bool false) [])) ∧
 (((decide ((List.getD x0_1 z8.toNat (0:Int))≤(List.getD x0_1 (Int.toNat (z8-1)) (0:Int))))=false) →
 (Need ((-9223372036854775808≤(z8+1))∧((z8+1)≤9223372036854775807)) ∧
 ((y6 (z8+1)) ∧
  Need ((y7 (z8+1))<(y7 z8)))))))))) ∧
 (((decide (z8<(x0_1.length:Int)))=false) →
 (Q (.tv [] .bool (!(decide (x0_1=[])))) []))))))))))):EvF PP orc 38 [.tv [] qt8 (x0_0,(x0_1,(x0_2,())))] [] Q:=vc_of (by kernel_rfl) h
theorem vc41 (x0:List ((List Int×(List Int×(Bool×Unit))))) (Q:AV→Heap→Prop) (h :
(∃ y0:Int,
 (Need (E 60 [(.tv [] (.slice qt8) x0),(.fn (37:FuncId) [] [])] [] (.tv [] (.int .i64) y0) []) ∧
 (Q (.tv [] .bool (decide (0≤y0))) [])))):EvF PP orc 41 [.tv [] (.slice qt8) x0,.fn 37 [] []] [] Q:=vc_of (by kernel_rfl) h
theorem vc60 (x0:List ((List Int×(List Int×(Bool×Unit))))) (Q:AV→Heap→Prop) (h :
(∃ y0:(Int→Prop),
 (∃ y1:(Int→Nat),
 ((y0 (0:Int)) ∧
 (∀ z2:Int,
 ((y0 z2) →
 ((((decide (z2<(x0.length:Int)))=true) →
 (Need ((0≤z2)∧(z2<(x0.length:Int))) ∧
 (∃ y5:Bool,
 (Need (E (37:FuncId) [(.tv [] qt8 (List.getD x0 z2.toNat ([],([],(false,())))))] [] (.tv [] .bool y5) []) ∧
 (((y5=true) →
 (Q (.tv [] (.int .i64) z2) [])) ∧
 ((y5=false) →
 (Need ((-9223372036854775808≤(z2+1))∧((z2+1)≤9223372036854775807)) ∧
 ((y0 (z2+1)) ∧
  Need ((y1 (z2+1))<(y1 z2)))))))))) ∧
 (((decide (z2<(x0.length:Int)))=false) →
 (Q (.tv [] (.int .i64) (-(1:Int))) []))))))))):EvF PP orc 60 [.tv [] (.slice qt8) x0,.fn 37 [] []] [] Q:=vc_of (by kernel_rfl) h
theorem vc43 (x0:List ((List Int×(List qT0×(List Int×(List Int×Unit)))))) (Q:AV→Heap→Prop) (h :
(∃ y0:Int,
 (Need (E 62 [(.tv [] (.slice qt9) x0),(.fn (35:FuncId) [] [])] [] (.tv [] (.int .i64) y0) []) ∧
 (Q (.tv [] .bool (decide (0≤y0))) [])))):EvF PP orc 43 [.tv [] (.slice qt9) x0,.fn 35 [] []] [] Q:=vc_of (by kernel_rfl) h
theorem vc62 (x0:List ((List Int×(List qT0×(List Int×(List Int×Unit)))))) (Q:AV→Heap→Prop) (h :
(∃ y0:(Int→Prop),
 (∃ y1:(Int→Nat),
 ((y0 (0:Int)) ∧
 (∀ z2:Int,
 ((y0 z2) →
 ((((decide (z2<(x0.length:Int)))=true) →
 (Need ((0≤z2)∧(z2<(x0.length:Int))) ∧
 (∃ y5:Bool,
 (Need (E (35:FuncId) [(.tv [] qt9 (List.getD x0 z2.toNat ([],([],([],([],()))))))] [] (.tv [] .bool y5) []) ∧
 (((y5=true) →
 (Q (.tv [] (.int .i64) z2) [])) ∧
 ((y5=false) →
 (Need ((-9223372036854775808≤(z2+1))∧((z2+1)≤9223372036854775807)) ∧
 ((y0 (z2+1)) ∧
  Need ((y1 (z2+1))<(y1 z2)))))))))) ∧
 (((decide (z2<(x0.length:Int)))=false) →
 (Q (.tv [] (.int .i64) (-(1:Int))) []))))))))):EvF PP orc 62 [.tv [] (.slice qt9) x0,.fn 35 [] []] [] Q:=vc_of (by kernel_rfl) h
theorem vc57 (x0:List qT0) (Q:AV→Heap→Prop) (h :
(∃ y0:Int,
 (Need (E 80 [(.tv [] qt10 x0),(.fn (56:FuncId) [] [])] [] (.tv [] (.int .i64) y0) []) ∧
 (Q (.tv [] .bool (decide (0≤y0))) [])))):EvF PP orc 57 [.tv [] qt10 x0,.fn 56 [] []] [] Q:=vc_of (by kernel_rfl) h
theorem vc80 (x0:List qT0) (Q:AV→Heap→Prop) (h :
(∃ y0:(Int→Prop),
 (∃ y1:(Int→Nat),
 ((y0 (0:Int)) ∧
 (∀ z2:Int,
 ((y0 z2) →
 ((((decide (z2<(x0.length:Int)))=true) →
 (Need ((0≤z2)∧(z2<(x0.length:Int))) ∧
 (∃ y5:Bool,
 (Need (E (56:FuncId) [(.tv [] .str (List.getD x0 z2.toNat []))] [] (.tv [] .bool y5) []) ∧
 (((y5=true) →
 (Q (.tv [] (.int .i64) z2) [])) ∧
 ((y5=false) →
 (Need ((-9223372036854775808≤(z2+1))∧((z2+1)≤9223372036854775807)) ∧
 ((y0 (z2+1)) ∧
  Need ((y1 (z2+1))<(y1 z2)))))))))) ∧
 (((decide (z2<(x0.length:Int)))=false) →
 (Q (.tv [] (.int .i64) (-(1:Int))) []))))))))):EvF PP orc 80 [.tv [] qt10 x0,.fn 56 [] []] [] Q:=vc_of (by kernel_rfl) h
theorem vc56 (x0:List Int) (Q:AV→Heap→Prop) (h :
(∃ y0:Bool,
 (Need (E 42 [(.tv [] .str x0)] [] (.tv [] .bool y0) []) ∧
 (Q (.tv [] .bool (!y0)) [])))):EvF PP orc 56 [.tv [] .str x0] [] Q:=vc_of (by kernel_rfl) h
theorem vc35 (x0_0:List Int) (x0_1:List qT0) (x0_2:List Int) (x0_3:List Int) (Q:AV→Heap→Prop) (h :
(∃ y0:Bool,
 (Need (E 36 [(.tv [] qt9 (x0_0,(x0_1,(x0_2,(x0_3,())))))] [] (.tv [] .bool y0) []) ∧
 (Q (.tv [] .bool (!y0)) [])))):EvF PP orc 35 [.tv [] qt9 (x0_0,(x0_1,(x0_2,(x0_3,()))))] [] Q:=vc_of (by kernel_rfl) h
theorem vc37 (x0_0:List Int) (x0_1:List Int) (x0_2:Bool) (Q:AV→Heap→Prop) (h :
(∃ y0:Bool,
 (Need (E 38 [(.tv [] qt8 (x0_0,(x0_1,(x0_2,()))))] [] (.tv [] .bool y0) []) ∧
 (Q (.tv [] .bool (!y0)) [])))):EvF PP orc 37 [.tv [] qt8 (x0_0,(x0_1,(x0_2,())))] [] Q:=vc_of (by kernel_rfl) h
theorem vc42 (x0:List Int) (Q:AV→Heap→Prop) (h :
((((decide ((x0.length:Int)≤(32:Int)))=true) →
 (∃ y1:Bool,
 (Need (E 61 [(.tv [] .str x0)] [] (.tv [] .bool y1) []) ∧
 (Q (.tv [] .bool y1) [])))) ∧
 (((decide ((x0.length:Int)≤(32:Int)))=false) →
 (Q (.tv [] .bool false) [])))):EvF PP orc 42 [.tv [] .str x0] [] Q:=vc_of (by kernel_rfl) h
theorem vc36 (x0_0:List Int) (x0_1:List qT0) (x0_2:List Int) (x0_3:List Int) (Q:AV→Heap→Prop) (h :
(∃ y0:Bool,
 (Need (E 42 [(.tv [] .str x0_0)] [] (.tv [] .bool y0) []) ∧
 (((y0=true) →
 ((((decide ((x0_1.length:Int)≤(8:Int)))=true) →
 (∃ y3:Bool,
 (Need (E 57 [(.tv [] qt10 x0_1),(.fn 56 [] [])] [] (.tv [] .bool y3) []) ∧
 ((((!y3)=true) →
 ((((decide (x0_2=[]))=true) →
 (∃ y6:Bool,
 (Need (E 58 [(.tv [] .str x0_3)] [] (.tv [] .bool y6) []) ∧
 (Q (.tv [] .bool y6) [])))) ∧
 (((decide (x0_2=[]))=false) →
 (∃ y8:Bool,
 (Need (E 42 [(.tv [] .str x0_2)] [] (.tv [] .bool y8) []) ∧
 (((y8=true) →
 (∃ y10:Bool,
 (Need (E 58 [(.tv [] .str x0_3)] [] (.tv [] .bool y10) []) ∧
 (Q (.tv [] .bool y10) [])))) ∧
 ((y8=false) →
 (Q (.tv [] .bool false) [])))))))) ∧
 (((!y3)=false) →
 (Q (.tv [] .bool false) [])))))) ∧
 (((decide ((x0_1.length:Int)≤(8:Int)))=false) →
 (Q (.tv [] .bool false) [])))) ∧
 ((y0=false) →
 (Q (.tv [] .bool false) [])))))):EvF PP orc 36 [.tv [] qt9 (x0_0,(x0_1,(x0_2,(x0_3,()))))] [] Q:=vc_of (by kernel_rfl) h
theorem vc58 (x0:List Int) (Q:AV→Heap→Prop) (h :
((((decide ((200:Int)<(x0.length:Int)))=true) →
 (Q (.tv [] .bool false) [])) ∧
 (((decide ((200:Int)<(x0.length:Int)))=false) →
 (Need ((1+x0.length)≤bigN) ∧
 (Need (((List.length ([(123:Int)]++x0))+1)≤bigN) ∧
 (∃ y2:qT2,
 (∃ y3 y4 y5:Int,
 (Need (E 28 [(.tv [] .str (([(123:Int)]++x0)++[(125:Int)]))] [] (.tup [(.tv [] qt5 y2),(.tv [] qt2 (y3,((y4,(y5,())),())))]) []) ∧
 ((((decide (y3=(0:Int)))=true) →
 ((((decide ((y2.length:Int)=(2:Int)))=true) →
 (Need (((0:Int)≤(0:Int))∧((0:Int)<(y2.length:Int))) ∧
 (Q (.tv [] .bool (decide ((List.getD y2 0 ((0:Int),([],(((0:Int),((0:Int),())),())))).2.1=x0))) []))) ∧
 (((decide ((y2.length:Int)=(2:Int)))=false) →
 (Q (.tv [] .bool false) [])))) ∧
 (((decide (y3=(0:Int)))=false) →
 (Q (.tv [] .bool false) []))))))))))):EvF PP orc 58 [.tv [] .str x0] [] Q:=vc_of (by kernel_rfl) h
theorem vc59 (x0:List qT0) (Q:AV→Heap→Prop) (h :
(∃ y0:(Int→Prop),
 (∃ y1:(Int→Nat),
 ((y0 (0:Int)) ∧
 (∀ z2:Int,
 ((y0 z2) →
 ((((decide (z2<(x0.length:Int)))=true) →
 (Need ((0≤z2)∧(z2<(x0.length:Int))) ∧
 (∃ y5:Bool,
 (Need (E 42 [(.tv [] .str (List.getD x0 z2.toNat []))] [] (.tv [] .bool y5) []) ∧
 ((((!y5)=true) →
 (Q (.tv [] .bool false) [])) ∧
 (((!y5)=false) →
 (Need (((0:Int)≤(0:Int))∧((0≤z2)∧(z2≤(x0.length:Int)))) ∧
 (∃ y8:Bool,
 (Need (E 81 [(.tv [] qt10 (cut x0 0 z2.toNat)),(.tv [] .str (List.getD x0 z2.toNat []))] [] (.tv [] .bool y8) []) ∧
 (((y8=true) →
 (Q (.tv [] .bool false) [])) ∧
 ((y8=false) →
 (Need ((-9223372036854775808≤(z2+1))∧((z2+1)≤9223372036854775807)) ∧
 ((y0 (z2+1)) ∧
  Need ((y1 (z2+1))<(y1 z2))))))))))))))) ∧
 (((decide (z2<(x0.length:Int)))=false) →
 (Q (.tv [] .bool true) []))))))))):EvF PP orc 59 [.tv [] qt10 x0] [] Q:=vc_of (by kernel_rfl) h
theorem vc39 (x0:List ((List Int×((List Int×(List Int×(Bool×Unit)))×Unit)))) (Q:AV→Heap→Prop) (h :
(∃ y0:((List qT0)→(Int→Prop)),
 (∃ y1:((List qT0)→(Int→Nat)),
 ((y0 [] (0:Int)) ∧
 (∀ z2:(List qT0),
 (∀ z3:Int,
 ((y0 z2 z3) →
 ((((decide (z3<(x0.length:Int)))=true) →
 (Need ((0≤z3)∧(z3<(x0.length:Int))) ∧
 (∃ y6:Bool,
 (Need (E 38 [(.tv [] qt8 (List.getD x0 z3.toNat (([]:List Int),(([],([],(false,()))),()))).2.1)] [] (.tv [] .bool y6) []) ∧
 ((((!y6)=true) →
 (Q (.tv [] .bool false) [])) ∧
 (((!y6)=false) →
 (Need ((z2.length+(List.length [(List.getD x0 z3.toNat (([]:List Int),(([],([],(false,()))),()))).1]))≤bigN) ∧
 (Need ((-9223372036854775808≤(z3+1))∧((z3+1)≤9223372036854775807)) ∧
 ((y0 (z2++[(List.getD x0 z3.toNat (([]:List Int),(([],([],(false,()))),()))).1]) (z3+1)) ∧
  Need ((y1 (z2++[(List.getD x0 z3.toNat (([]:List Int),(([],([],(false,()))),()))).1]) (z3+1))<(y1 z2 z3))))))))))) ∧
 (((decide (z3<(x0.length:Int)))=false) →
 ((((decide ((x0.length:Int)≤(20:Int)))=true) →
 (∃ y11:Bool,
 (Need (E 59 [(.tv [] qt10 z2)] [] (.tv [] .bool y11) []) ∧
 (Q (.tv [] .bool y11) [])))) ∧
 (((decide ((x0.length:Int)≤(20:Int)))=false) →
 (Q (.tv [] .bool false) [])))))))))))):EvF PP orc 39 [.tv [] (.slice (.pair .str (.pair qt8 .unit))) x0] [] Q:=vc_of (by kernel_rfl) h
theorem vc40 (x0:List ((Int×(List qT0×Unit)))) (Q:AV→Heap→Prop) (h :
(∃ y0:((List qT0)→(Int→Prop)),
 (∃ y1:((List qT0)→(Int→Nat)),
 ((y0 [] (0:Int)) ∧
 (∀ z2:(List qT0),
 (∀ z3:Int,
 ((y0 z2 z3) →
 ((((decide (z3<(x0.length:Int)))=true) →
 (Need ((0≤z3)∧(z3<(x0.length:Int))) ∧
 ((((decide ((List.getD x0 z3.toNat ((0:Int),([],()))).1<(1:Int)))=true) →
 (Q (.tv [] .bool false) [])) ∧
 (((decide ((List.getD x0 z3.toNat ((0:Int),([],()))).1<(1:Int)))=false) →
 ((((decide ((3:Int)<(List.getD x0 z3.toNat ((0:Int),([],()))).1))=true) →
 (Q (.tv [] .bool false) [])) ∧
 (((decide ((3:Int)<(List.getD x0 z3.toNat ((0:Int),([],()))).1))=false) →
 ((((decide (((List.length (List.getD x0 z3.toNat ((0:Int),([],()))).2.1):Int)=(0:Int)))=true) →
 (Q (.tv [] .bool false) [])) ∧
 (((decide (((List.length (List.getD x0 z3.toNat ((0:Int),([],()))).2.1):Int)=(0:Int)))=false) →
 (Need ((z2.length+(List.length (List.getD x0 z3.toNat ((0:Int),([],()))).2.1))≤bigN) ∧
 (Need ((-9223372036854775808≤(z3+1))∧((z3+1)≤9223372036854775807)) ∧
 ((y0 (z2++(List.getD x0 z3.toNat ((0:Int),([],()))).2.1) (z3+1)) ∧
  Need ((y1 (z2++(List.getD x0 z3.toNat ((0:Int),([],()))).2.1) (z3+1))<(y1 z2 z3))))))))))))) ∧
 (((decide (z3<(x0.length:Int)))=false) →
 ((((decide ((x0.length:Int)≤(10:Int)))=true) →
 (∃ y14:Bool,
 (Need (E 59 [(.tv [] qt10 z2)] [] (.tv [] .bool y14) []) ∧
 (Q (.tv [] .bool y14) [])))) ∧
 (((decide ((x0.length:Int)≤(10:Int)))=false) →
 (Q (.tv [] .bool false) [])))))))))))):EvF PP orc 40 [.tv [] (.slice (.pair (.int .i64) (.pair qt10 .unit))) x0] [] Q:=vc_of (by kernel_rfl) h
theorem vc22 (x0_0:List ((List Int×((List Int×(List Int×(Bool×Unit)))×Unit)))) (x0_1:List ((List Int×(List Int×(Bool×Unit))))) (x0_2:List ((Int×(List qT0×Unit)))) (x0_3:List Int) (x0_4:List ((List Int×(List qT0×(List Int×(List Int×Unit)))))) (Q:AV→Heap→Prop) (h :
(∃ y0:Bool,
 (Need (E 39 [(.tv [] (.slice (.pair .str (.pair qt8 .unit))) x0_0)] [] (.tv [] .bool y0) []) ∧
 ((((!y0)=true) →
 (Q (.tv [] .bool false) [])) ∧
 (((!y0)=false) →
 (∃ y3:Bool,
 (Need (E 40 [(.tv [] (.slice (.pair (.int .i64) (.pair qt10 .unit))) x0_2)] [] (.tv [] .bool y3) []) ∧
 ((((!y3)=true) →
 (Q (.tv [] .bool false) [])) ∧
 (((!y3)=false) →
 ((((decide ((4:Int)<(x0_1.length:Int)))=true) →
 (Q (.tv [] .bool false) [])) ∧
 (((decide ((4:Int)<(x0_1.length:Int)))=false) →
 (∃ y8:Bool,
 (Need (E 41 [(.tv [] (.slice qt8) x0_1),(.fn 37 [] [])] [] (.tv [] .bool y8) []) ∧
 (((y8=true) →
 (Q (.tv [] .bool false) [])) ∧
 ((y8=false) →
 (∃ y11:Bool,
 (Need (E 42 [(.tv [] .str x0_3)] [] (.tv [] .bool y11) []) ∧
 (((y11=true) →
 ((((decide ((0:Int)<(x0_4.length:Int)))=true) →
 ((((decide ((x0_4.length:Int)≤(40:Int)))=true) →
 (∃ y15:Bool,
 (Need (E 43 [(.tv [] (.slice qt9) x0_4),(.fn 35 [] [])] [] (.tv [] .bool y15) []) ∧
 (Q (.tv [] .bool (!y15)) [])))) ∧
 (((decide ((x0_4.length:Int)≤(40:Int)))=false) →
 (Q (.tv [] .bool false) [])))) ∧
 (((decide ((0:Int)<(x0_4.length:Int)))=false) →
 (Q (.tv [] .bool false) [])))) ∧
 ((y11=false) →
 (Q (.tv [] .bool false) [])))))))))))))))))))):EvF PP orc 22 [.tv [] qt0 (x0_0,(x0_1,(x0_2,(x0_3,(x0_4,())))))] [] Q:=vc_of (by kernel_rfl) h
end Go.Am.R
