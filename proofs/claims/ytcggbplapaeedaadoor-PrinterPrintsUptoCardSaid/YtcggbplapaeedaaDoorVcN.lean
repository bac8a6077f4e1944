/-
  A part of the proof of a law: see the text that states it.
-/
import Derived.Test.YtcggbplapaeedaaDoorHead
set_option linter.all false
namespace Go.Am.R
open Go
set_option maxRecDepth 100000
set_option maxHeartbeats 4000000
theorem vc26 (x0_0:List Int) (x0_1:List Int) (x0_2:Bool) (Q:AV→Heap→Prop) (h :
((((!(decide (x0_0=[])))=true) →
 (∃ y1:qT0,
 (Need (E 46 [(.tv [] .str x0_0),(.tv [] .bool false)] [] (.tv [] .str y1) []) ∧
 (Need ((1+y1.length)≤bigN) ∧
 (Need (((List.length ([(34:Int)]++y1))+1)≤bigN) ∧
 (Q (.tv [] .str (([(34:Int)]++y1)++[(34:Int)])) [])))))) ∧
 (((!(decide (x0_0=[])))=false) →
 (∃ y3:qT0,
 (Need (E 46 [(.tv [] .str x0_1),(.tv [] .bool true)] [] (.tv [] .str y3) []) ∧
 (Need ((1+y3.length)≤bigN) ∧
 (Need (((List.length ([(91:Int)]++y3))+1)≤bigN) ∧
 (((x0_2=true) →
 (Need (((List.length (([(91:Int)]++y3)++[(93:Int)]))+1)≤bigN) ∧
 (Q (.tv [] .str ((([(91:Int)]++y3)++[(93:Int)])++[(43:Int)])) []))) ∧
 ((x0_2=false) →
 (Q (.tv [] .str (([(91:Int)]++y3)++[(93:Int)])) [])))))))))):EvF PP orc 26 [.tv [] qt8 (x0_0,(x0_1,(x0_2,())))] [] Q:=vc_of (by kernel_rfl) h
theorem vc46 (x0:List Int) (x1:Bool) (Q:AV→Heap→Prop) (h :
(∃ y0:(qT0→(Int→Prop)),
 (∃ y1:(qT0→(Int→Nat)),
 ((y0 (List.map (fun v2=>(((BitVec.toNat (UInt8.toBitVec v2)):Nat):Int)) []) (0:Int)) ∧
 (∀ z3:qT0,
 (∀ z4:Int,
 ((y0 z3 z4) →
 ((((decide (z4<(x0.length:Int)))=true) →
 (Need ((0≤z4)∧(z4<(x0.length:Int))) ∧
 ((((decide ((List.getD x0 z4.toNat (0:Int))=(10:Int)))=true) →
 (Need ((z3.length+2)≤bigN) ∧
 (Need ((-9223372036854775808≤(z4+1))∧((z4+1)≤9223372036854775807)) ∧
 ((y0 (z3++[(92:Int),(110:Int)]) (z4+1)) ∧
   Need ((y1 (z3++[(92:Int),(110:Int)]) (z4+1))<(y1 z3 z4)))))) ∧
 (((decide ((List.getD x0 z4.toNat (0:Int))=(10:Int)))=false) →
 ((((decide ((List.getD x0 z4.toNat (0:Int))=(9:Int)))=true) →
 (Need ((z3.length+2)≤bigN) ∧
 (Need ((-9223372036854775808≤(z4+1))∧((z4+1)≤9223372036854775807)) ∧
 ((y0 (z3++[(92:Int),(116:Int)]) (z4+1)) ∧
   Need ((y1 (z3++[(92:Int),(116:Int)]) (z4+1))<(y1 z3 z4)))))) ∧
 (((decide ((List.getD x0 z4.toNat (0:Int))=(9:Int)))=false) →
 ((((decide ((List.getD x0 z4.toNat (0:Int))=(92:Int)))=true) →
 (Need ((z3.length+1)≤bigN) ∧
 (Need ((-9223372036854775808≤(z4+1))∧((z4+1)≤9223372036854775807)) ∧
 (Need ((0≤z4)∧((z4≤(z4+1))∧((z4+1)≤(x0.length:Int)))) ∧
 (Need (((List.length (z3++[(92:Int)]))+(List.length (cut x0 z4.toNat (Int.toNat (z4+1)))))≤bigN) ∧
 (Need ((-9223372036854775808≤(z4+1))∧((z4+1)≤9223372036854775807)) ∧
 ((y0 ((z3++[(92:Int)])++(cut x0 z4.toNat (Int.toNat (z4+1)))) (z4+1)) ∧
   Need ((y1 ((z3++[(92:Int)])++(cut x0 z4.toNat (Int.toNat (z4+1)))) (z4+1))<(y1 z3 z4))))))))) ∧
 (((decide ((List.getD x0 z4.toNat (0:Int))=(92:Int)))=false) →
 ((((decide ((List.getD x0 z4.toNat (0:Int))=(34:Int)))=true) →
 ((((!x1)=true) →
 (Need ((z3.length+1)≤bigN) ∧
 (Need ((-9223372036854775808≤(z4+1))∧((z4+1)≤9223372036854775807)) ∧
 (Need ((0≤z4)∧((z4≤(z4+1))∧((z4+1)≤(x0.length:Int)))) ∧
 (Need (((List.length (z3++[(92:Int)]))+(List.length (cut x0 z4.toNat (Int.toNat (z4+1)))))≤bigN) ∧
 (Need ((-9223372036854775808≤(z4+1))∧((z4+1)≤9223372036854775807)) ∧
 ((y0 ((z3 ++ [(92 : Int)]) ++ (cut x0 z4.toNat (Int.toNat (z4 + 1)))) (z4 + 1)) ∧
    Need ((y1 ((z3++[(92:Int)])++(cut x0 z4.toNat (Int.toNat (z4+1)))) (z4+1))<(y1 z3 z4))))))))) ∧
 (((!x1)=false) →
 ((((decide ((List.getD x0 z4.toNat (0:Int))=(93:Int)))=true) →
 (((x1=true) →
 (Need ((z3.length+1)≤bigN) ∧
 (Need ((-9223372036854775808≤(z4+1))∧((z4+1)≤9223372036854775807)) ∧
 (Need ((0≤z4)∧((z4≤(z4+1))∧((z4+1)≤(x0.length:Int)))) ∧
 (Need (((List.length (z3++[(92:Int)]))+(List.length (cut x0 z4.toNat (Int.toNat (z4+1)))))≤bigN) ∧
 (Need ((-9223372036854775808≤(z4+1))∧((z4+1)≤9223372036854775807)) ∧
 ((y0 ((z3 ++ [(92 : Int)]) ++ (cut x0 z4.toNat (Int.toNat (z4 + 1)))) (z4 + 1)) ∧
     Need ((y1 ((z3++[(92:Int)])++(cut x0 z4.toNat (Int.toNat (z4+1)))) (z4+1))<(y1 z3 z4))))))))) ∧
 ((x1=false) →
 (Need ((-9223372036854775808≤(z4+1))∧((z4+1)≤9223372036854775807)) ∧
 (Need ((0≤z4)∧((z4≤(z4+1))∧((z4+1)≤(x0.length:Int)))) ∧
 (Need ((z3.length+(List.length (cut x0 z4.toNat (Int.toNat (z4+1)))))≤bigN) ∧
 (Need ((-9223372036854775808≤(z4+1))∧((z4+1)≤9223372036854775807)) ∧
 ((y0 (z3 ++ (cut x0 z4.toNat (Int.toNat (z4 + 1)))) (z4 + 1)) ∧
    Need ((y1 (z3++(cut x0 z4.toNat (Int.toNat (z4+1)))) (z4+1))<(y1 z3 z4)))))))))) ∧
 (((decide ((List.getD x0 z4.toNat (0:Int))=(93:Int)))=false) →
 ((((decide ((List.getD x0 z4.toNat (0:Int))=(45:Int)))=true) →
 (((x1=true) →
 (Need ((z3.length+1)≤bigN) ∧
 (Need ((-9223372036854775808≤(z4+1))∧((z4+1)≤9223372036854775807)) ∧
 (Need ((0≤z4)∧((z4≤(z4+1))∧((z4+1)≤(x0.length:Int)))) ∧
 (Need (((List.length (z3++[(92:Int)]))+(List.length (cut x0 z4.toNat (Int.toNat (z4+1)))))≤bigN) ∧
 (Need ((-9223372036854775808≤(z4+1))∧((z4+1)≤9223372036854775807)) ∧
 ((y0 ((z3 ++ [(92 : Int)]) ++ (cut x0 z4.toNat (Int.toNat (z4 + 1)))) (z4 + 1)) ∧
     Need ((y1 ((z3++[(92:Int)])++(cut x0 z4.toNat (Int.toNat (z4+1)))) (z4+1))<(y1 z3 z4))))))))) ∧
 ((x1=false) →
 (Need ((-9223372036854775808≤(z4+1))∧((z4+1)≤9223372036854775807)) ∧
 (Need ((0≤z4)∧((z4≤(z4+1))∧((z4+1)≤(x0.length:Int)))) ∧
 (Need ((z3.length+(List.length (cut x0 z4.toNat (Int.toNat (z4+1)))))≤bigN) ∧
 (Need ((-9223372036854775808≤(z4+1))∧((z4+1)≤9223372036854775807)) ∧
 ((y0 (z3 ++ (cut x0 z4.toNat (Int.toNat (z4 + 1)))) (z4 + 1)) ∧
    Need ((y1 (z3++(cut x0 z4.toNat (Int.toNat (z4+1)))) (z4+1))<(y1 z3 z4)))))))))) ∧
 (((decide ((List.getD x0 z4.toNat (0:Int))=(45:Int)))=false) →
 (Need ((-9223372036854775808≤(z4+1))∧((z4+1)≤9223372036854775807)) ∧
 (Need ((0≤z4)∧((z4≤(z4+1))∧((z4+1)≤(x0.length:Int)))) ∧
 (Need ((z3.length+(List.length (cut x0 z4.toNat (Int.toNat (z4+1)))))≤bigN) ∧
 (Need ((-9223372036854775808≤(z4+1))∧((z4+1)≤9223372036854775807)) ∧
 ((y0 (z3++(cut x0 z4.toNat (Int.toNat (z4+1)))) (z4+1)) ∧
   Need ((y1 (z3++(cut x0 z4.toNat (Int.toNat (z4+1)))) (z4+1))<(y1 z3 z4)))))))))))))) ∧
 (((decide ((List.getD x0 z4.toNat (0:Int))=(34:Int)))=false) →
 ((((decide ((List.getD x0 z4.toNat (0:Int))=(93:Int)))=true) →
 (((x1=true) →
 (Need ((z3.length+1)≤bigN) ∧
 (Need ((-9223372036854775808≤(z4+1))∧((z4+1)≤9223372036854775807)) ∧
 (Need ((0≤z4)∧((z4≤(z4+1))∧((z4+1)≤(x0.length:Int)))) ∧
 (Need (((List.length (z3++[(92:Int)]))+(List.length (cut x0 z4.toNat (Int.toNat (z4+1)))))≤bigN) ∧
 (Need ((-9223372036854775808≤(z4+1))∧((z4+1)≤9223372036854775807)) ∧
 ((y0 ((z3 ++ [(92 : Int)]) ++ (cut x0 z4.toNat (Int.toNat (z4 + 1)))) (z4 + 1)) ∧
    Need ((y1 ((z3++[(92:Int)])++(cut x0 z4.toNat (Int.toNat (z4+1)))) (z4+1))<(y1 z3 z4))))))))) ∧
 ((x1=false) →
 (Need ((-9223372036854775808≤(z4+1))∧((z4+1)≤9223372036854775807)) ∧
 (Need ((0≤z4)∧((z4≤(z4+1))∧((z4+1)≤(x0.length:Int)))) ∧
 (Need ((z3.length+(List.length (cut x0 z4.toNat (Int.toNat (z4+1)))))≤bigN) ∧
 (Need ((-9223372036854775808≤(z4+1))∧((z4+1)≤9223372036854775807)) ∧
 ((y0 (z3++(cut x0 z4.toNat (Int.toNat (z4+1)))) (z4+1)) ∧
   Need ((y1 (z3++(cut x0 z4.toNat (Int.toNat (z4+1)))) (z4+1))<(y1 z3 z4)))))))))) ∧
 (((decide ((List.getD x0 z4.toNat (0:Int))=(93:Int)))=false) →
 ((((decide ((List.getD x0 z4.toNat (0:Int))=(45:Int)))=true) →
 (((x1=true) →
 (Need ((z3.length+1)≤bigN) ∧
 (Need ((-9223372036854775808≤(z4+1))∧((z4+1)≤9223372036854775807)) ∧
 (Need ((0≤z4)∧((z4≤(z4+1))∧((z4+1)≤(x0.length:Int)))) ∧
 (Need (((List.length (z3++[(92:Int)]))+(List.length (cut x0 z4.toNat (Int.toNat (z4+1)))))≤bigN) ∧
 (Need ((-9223372036854775808≤(z4+1))∧((z4+1)≤9223372036854775807)) ∧
 ((y0 ((z3 ++ [(92 : Int)]) ++ (cut x0 z4.toNat (Int.toNat (z4 + 1)))) (z4 + 1)) ∧
    Need ((y1 ((z3++[(92:Int)])++(cut x0 z4.toNat (Int.toNat (z4+1)))) (z4+1))<(y1 z3 z4))))))))) ∧
 ((x1=false) →
 (Need ((-9223372036854775808≤(z4+1))∧((z4+1)≤9223372036854775807)) ∧
 (Need ((0≤z4)∧((z4≤(z4+1))∧((z4+1)≤(x0.length:Int)))) ∧
 (Need ((z3.length+(List.length (cut x0 z4.toNat (Int.toNat (z4+1)))))≤bigN) ∧
 (Need ((-9223372036854775808≤(z4+1))∧((z4+1)≤9223372036854775807)) ∧
 ((y0 (z3++(cut x0 z4.toNat (Int.toNat (z4+1)))) (z4+1)) ∧
   Need ((y1 (z3++(cut x0 z4.toNat (Int.toNat (z4+1)))) (z4+1))<(y1 z3 z4)))))))))) ∧
 (((decide ((List.getD x0 z4.toNat (0:Int))=(45:Int)))=false) →
 (Need ((-9223372036854775808≤(z4+1))∧((z4+1)≤9223372036854775807)) ∧
 (Need ((0≤z4)∧((z4≤(z4+1))∧((z4+1)≤(x0.length:Int)))) ∧
 (Need ((z3.length+(List.length (cut x0 z4.toNat (Int.toNat (z4+1)))))≤bigN) ∧
 (Need ((-9223372036854775808≤(z4+1))∧((z4+1)≤9223372036854775807)) ∧
 ((y0 (z3++(cut x0 z4.toNat (Int.toNat (z4+1)))) (z4+1)) ∧
  Need ((y1 (z3++(cut x0 z4.toNat (Int.toNat (z4+1)))) (z4+1))<(y1 z3 z4))))))))))))))))))))) ∧
 (((decide (z4<(x0.length:Int)))=false) →
 (Q (.tv [] .str z3) [])))))))))):EvF PP orc 46 [.tv [] .str x0,.tv [] .bool x1] [] Q:=vc_of (by kernel_rfl) h
theorem vc24 (x0_0:List Int) (x0_1:List qT0) (x0_2:List Int) (x0_3:List Int) (Q:AV→Heap→Prop) (h :
(Need ((x0_0.length+2)≤bigN) ∧
 (∃ y0:(qT0→(Int→Prop)),
 (∃ y1:(qT0→(Int→Nat)),
 ((y0 (x0_0++[(32:Int),(58:Int)]) (0:Int)) ∧
 (∀ z2:qT0,
 (∀ z3:Int,
 ((y0 z2 z3) →
 ((((decide (z3<(x0_1.length:Int)))=true) →
 (Need ((z2.length+1)≤bigN) ∧
 (Need ((0≤z3)∧(z3<(x0_1.length:Int))) ∧
 (Need (((List.length (z2++[(32:Int)]))+(List.length (List.getD x0_1 z3.toNat [])))≤bigN) ∧
 (Need ((-9223372036854775808≤(z3+1))∧((z3+1)≤9223372036854775807)) ∧
 ((y0 ((z2++[(32:Int)])++(List.getD x0_1 z3.toNat [])) (z3+1)) ∧
  Need ((y1 ((z2++[(32:Int)])++(List.getD x0_1 z3.toNat [])) (z3+1))<(y1 z2 z3)))))))) ∧
 (((decide (z3<(x0_1.length:Int)))=false) →
 ((((!(decide (x0_2=[])))=true) →
 (Need ((z2.length+7)≤bigN) ∧
 (Need (((List.length (z2++[(32:Int),(37:Int),(112:Int),(114:Int),(101:Int),(99:Int),(32:Int)]))+x0_2.length)≤bigN) ∧
 ((((!(decide (x0_3=[])))=true) →
 (Need (((List.length ((z2++[(32:Int),(37:Int),(112:Int),(114:Int),(101:Int),(99:Int),(32:Int)])++x0_2))+2)≤bigN) ∧
 (Need (((List.length (((z2++[(32:Int),(37:Int),(112:Int),(114:Int),(101:Int),(99:Int),(32:Int)])++x0_2)++[(32:Int),(123:Int)]))+x0_3.length)≤bigN) ∧
 (Need (((List.length ((((z2++[(32:Int),(37:Int),(112:Int),(114:Int),(101:Int),(99:Int),(32:Int)])++x0_2)++[(32:Int),(123:Int)])++x0_3))+1)≤bigN) ∧
 (Need (((List.length (((((z2++[(32:Int),(37:Int),(112:Int),(114:Int),(101:Int),(99:Int),(32:Int)])++x0_2)++[(32:Int),(123:Int)])++x0_3)++[(125:Int)]))+2)≤bigN) ∧
 (Q (.tv [] .str ((((((z2++[(32:Int),(37:Int),(112:Int),(114:Int),(101:Int),(99:Int),(32:Int)])++x0_2)++[(32:Int),(123:Int)])++x0_3)++[(125:Int)])++[(32:Int),(59:Int)])) [])))))) ∧
 (((!(decide (x0_3=[])))=false) →
 (Need (((List.length ((z2++[(32:Int),(37:Int),(112:Int),(114:Int),(101:Int),(99:Int),(32:Int)])++x0_2))+2)≤bigN) ∧
 (Q (.tv [] .str (((z2++[(32:Int),(37:Int),(112:Int),(114:Int),(101:Int),(99:Int),(32:Int)])++x0_2)++[(32:Int),(59:Int)])) []))))))) ∧
 (((!(decide (x0_2=[])))=false) →
 ((((!(decide (x0_3=[])))=true) →
 (Need ((z2.length+2)≤bigN) ∧
 (Need (((List.length (z2++[(32:Int),(123:Int)]))+x0_3.length)≤bigN) ∧
 (Need (((List.length ((z2++[(32:Int),(123:Int)])++x0_3))+1)≤bigN) ∧
 (Need (((List.length (((z2++[(32:Int),(123:Int)])++x0_3)++[(125:Int)]))+2)≤bigN) ∧
 (Q (.tv [] .str ((((z2++[(32:Int),(123:Int)])++x0_3)++[(125:Int)])++[(32:Int),(59:Int)])) [])))))) ∧
 (((!(decide (x0_3=[])))=false) →
 (Need ((z2.length+2)≤bigN) ∧
 (Q (.tv [] .str (z2++[(32:Int),(59:Int)])) [])))))))))))))))):EvF PP orc 24 [.tv [] qt9 (x0_0,(x0_1,(x0_2,(x0_3,()))))] [] Q:=vc_of (by kernel_rfl) h
theorem vc47 (x0:List Int) (Q:AV→Heap→Prop) (h :
((((decide ((x0.length:Int)≤(32:Int)))=true) →
 (∃ y1:Bool,
 (Need (E 65 [(.tv [] .str x0)] [] (.tv [] .bool y1) []) ∧
 (Q (.tv [] .bool y1) [])))) ∧
 (((decide ((x0.length:Int)≤(32:Int)))=false) →
 (Q (.tv [] .bool false) [])))):EvF PP orc 47 [.tv [] .str x0] [] Q:=vc_of (by kernel_rfl) h
theorem vc48 (x0_0:List Int) (x0_1:List Int) (x0_2:Bool) (Q:AV→Heap→Prop) (h :
((((!(decide (x0_0=[])))=true) →
 ((((decide ((x0_0.length:Int)≤(32:Int)))=true) →
 ((((decide (x0_1=[]))=true) →
 (Q (.tv [] .bool (!x0_2)) [])) ∧
 (((decide (x0_1=[]))=false) →
 (Q (.tv [] .bool false) [])))) ∧
 (((decide ((x0_0.length:Int)≤(32:Int)))=false) →
 (Q (.tv [] .bool false) [])))) ∧
 (((!(decide (x0_0=[])))=false) →
 (∃ y6:(Int→Prop),
 (∃ y7:(Int→Nat),
 ((y6 (1:Int)) ∧
 (∀ z8:Int,
 ((y6 z8) →
 ((((decide (z8<(x0_1.length:Int)))=true) →
 (Need ((0≤z8)∧(z8<(x0_1.length:Int))) ∧
 (Need ((-9223372036854775808≤(z8-1))∧((z8-1)≤9223372036854775807)) ∧
 (Need (((0:Int)≤(z8-1))∧((z8-1)<(x0_1.length:Int))) ∧
 ((((decide ((List.getD x0_1 z8.toNat (0:Int))≤(List.getD x0_1 (Int.toNat (z8-1)) (0:Int))))=true) →
 (Q (.tv [] .bool false) [])) ∧
 (((decide ((List.getD x0_1 z8.toNat (0:Int))≤(List.getD x0_1 (Int.toNat (z8-1)) (0:Int))))=false) →
 (Need ((-9223372036854775808≤(z8+1))∧((z8+1)≤9223372036854775807)) ∧
 ((y6 (z8+1)) ∧
  Need ((y7 (z8+1))<(y7 z8)))))))))) ∧
 (((decide (z8<(x0_1.length:Int)))=false) →
 (Q (.tv [] .bool (!(decide (x0_1=[])))) []))))))))))):EvF PP orc 48 [.tv [] qt8 (x0_0,(x0_1,(x0_2,())))] [] Q:=vc_of (by kernel_rfl) h
theorem vc49 (x0:List Int) (Q:AV→Heap→Prop) (h :
((((decide ((200:Int)<(x0.length:Int)))=true) →
 (Q (.tv [] .bool false) [])) ∧
 (((decide ((200:Int)<(x0.length:Int)))=false) →
 (∃ y2:(Int→(Int→Prop)),
 (∃ y3:(Int→(Int→Nat)),
 ((y2 (1:Int) (0:Int)) ∧
 (∀ z4 z5:Int,
 ((y2 z4 z5) →
 ((((decide (z5<(x0.length:Int)))=true) →
 (Need ((0≤z5)∧(z5<(x0.length:Int))) ∧
 ((((decide ((List.getD x0 z5.toNat (0:Int))=(123:Int)))=true) →
 (Need ((-9223372036854775808≤(z4+1))∧((z4+1)≤9223372036854775807)) ∧
 (Need ((0≤z5)∧(z5<(x0.length:Int))) ∧
 ((((decide ((List.getD x0 z5.toNat (0:Int))=(125:Int)))=true) →
 (Need ((-9223372036854775808≤((z4+1)-(1:Int)))∧(((z4+1)-(1:Int))≤9223372036854775807)) ∧
 ((((decide ((4:Int)<((z4+1)-(1:Int))))=true) →
 (Q (.tv [] .bool false) [])) ∧
 (((decide ((4:Int)<((z4+1)-(1:Int))))=false) →
 ((((decide (((z4+1)-(1:Int))=(0:Int)))=true) →
 (Q (.tv [] .bool false) [])) ∧
 (((decide (((z4+1)-(1:Int))=(0:Int)))=false) →
 (Need ((-9223372036854775808≤(z5+1))∧((z5+1)≤9223372036854775807)) ∧
 ((y2 ((z4 + 1) - (1 : Int)) (z5 + 1)) ∧
    Need ((y3 ((z4+1)-(1:Int)) (z5+1))<(y3 z4 z5)))))))))) ∧
 (((decide ((List.getD x0 z5.toNat (0:Int))=(125:Int)))=false) →
 ((((decide ((4:Int)<(z4+1)))=true) →
 (Q (.tv [] .bool false) [])) ∧
 (((decide ((4:Int)<(z4+1)))=false) →
 ((((decide ((z4+1)=(0:Int)))=true) →
 (Q (.tv [] .bool false) [])) ∧
 (((decide ((z4+1)=(0:Int)))=false) →
 (Need ((-9223372036854775808≤(z5+1))∧((z5+1)≤9223372036854775807)) ∧
 ((y2 (z4+1) (z5+1)) ∧
   Need ((y3 (z4+1) (z5+1))<(y3 z4 z5))))))))))))) ∧
 (((decide ((List.getD x0 z5.toNat (0:Int))=(123:Int)))=false) →
 (Need ((0≤z5)∧(z5<(x0.length:Int))) ∧
 ((((decide ((List.getD x0 z5.toNat (0:Int))=(125:Int)))=true) →
 (Need ((-9223372036854775808≤(z4-1))∧((z4-1)≤9223372036854775807)) ∧
 ((((decide ((4:Int)<(z4-1)))=true) →
 (Q (.tv [] .bool false) [])) ∧
 (((decide ((4:Int)<(z4-1)))=false) →
 ((((decide ((z4-1)=(0:Int)))=true) →
 (Q (.tv [] .bool false) [])) ∧
 (((decide ((z4-1)=(0:Int)))=false) →
 (Need ((-9223372036854775808≤(z5+1))∧((z5+1)≤9223372036854775807)) ∧
 ((y2 (z4-1) (z5+1)) ∧
   Need ((y3 (z4-1) (z5+1))<(y3 z4 z5)))))))))) ∧
 (((decide ((List.getD x0 z5.toNat (0:Int))=(125:Int)))=false) →
 ((((decide (4<z4))=true) →
 (Q (.tv [] .bool false) [])) ∧
 (((decide (4<z4))=false) →
 ((((decide (z4=(0:Int)))=true) →
 (Q (.tv [] .bool false) [])) ∧
 (((decide (z4=(0:Int)))=false) →
 (Need ((-9223372036854775808≤(z5+1))∧((z5+1)≤9223372036854775807)) ∧
 ((y2 z4 (z5+1)) ∧
  Need ((y3 z4 (z5+1))<(y3 z4 z5))))))))))))))) ∧
 (((decide (z5<(x0.length:Int)))=false) →
 (Q (.tv [] .bool (decide (z4=(1:Int)))) []))))))))))):EvF PP orc 49 [.tv [] .str x0] [] Q:=vc_of (by kernel_rfl) h
theorem vc50 (x0:List qT0) (Q:AV→Heap→Prop) (h :
(∃ y0:(Int→Prop),
 (∃ y1:(Int→Nat),
 ((y0 (0:Int)) ∧
 (∀ z2:Int,
 ((y0 z2) →
 ((((decide (z2<(x0.length:Int)))=true) →
 (Need ((0≤z2)∧(z2<(x0.length:Int))) ∧
 (∃ y5:Bool,
 (Need (E 47 [(.tv [] .str (List.getD x0 z2.toNat []))] [] (.tv [] .bool y5) []) ∧
 ((((!y5)=true) →
 (Q (.tv [] .bool false) [])) ∧
 (((!y5)=false) →
 (∃ y8:(Int→Prop),
 (∃ y9:(Int→Nat),
 ((y8 (0:Int)) ∧
 (∀ z10:Int,
 ((y8 z10) →
 ((((decide (z10<z2))=true) →
 (Need ((0≤z10)∧(z10<(x0.length:Int))) ∧
 (Need ((0≤z2)∧(z2<(x0.length:Int))) ∧
 ((((decide ((List.getD x0 z10.toNat [])=(List.getD x0 z2.toNat [])))=true) →
 (Q (.tv [] .bool false) [])) ∧
 (((decide ((List.getD x0 z10.toNat [])=(List.getD x0 z2.toNat [])))=false) →
 (Need ((-9223372036854775808≤(z10+1))∧((z10+1)≤9223372036854775807)) ∧
 ((y8 (z10+1)) ∧
   Need ((y9 (z10+1))<(y9 z10))))))))) ∧
 (((decide (z10<z2))=false) →
 (Need ((-9223372036854775808≤(z2+1))∧((z2+1)≤9223372036854775807)) ∧
 ((y0 (z2+1)) ∧
  Need ((y1 (z2+1))<(y1 z2))))))))))))))))) ∧
 (((decide (z2<(x0.length:Int)))=false) →
 (Q (.tv [] .bool true) []))))))))):EvF PP orc 50 [.tv [] qt10 x0] [] Q:=vc_of (by kernel_rfl) h
theorem vc65 (x0:List Int) (Q:AV→Heap→Prop) (h :
(∃ y0:(Int→Prop),
 (∃ y1:(Int→Nat),
 ((y0 (0:Int)) ∧
 (∀ z2:Int,
 ((y0 z2) →
 ((((decide (z2<(x0.length:Int)))=true) →
 (Need ((0≤z2)∧(z2<(x0.length:Int))) ∧
 (∃ y5:Bool,
 (Need (E 84 [(.tv [] (.int .u8) (List.getD x0 z2.toNat (0:Int)))] [] (.tv [] .bool y5) []) ∧
 ((((!y5)=true) →
 ((((decide (z2=(0:Int)))=true) →
 (Q (.tv [] .bool false) [])) ∧
 (((decide (z2=(0:Int)))=false) →
 (Need ((0≤z2)∧(z2<(x0.length:Int))) ∧
 (∃ y9:Bool,
 (Need (E 85 [(.tv [] (.int .u8) (List.getD x0 z2.toNat (0:Int)))] [] (.tv [] .bool y9) []) ∧
 ((((!y9)=true) →
 (Q (.tv [] .bool false) [])) ∧
 (((!y9)=false) →
 (Need ((-9223372036854775808≤(z2+1))∧((z2+1)≤9223372036854775807)) ∧
 ((y0 (z2+1)) ∧
   Need ((y1 (z2+1))<(y1 z2)))))))))))) ∧
 (((!y5)=false) →
 (Need ((-9223372036854775808≤(z2+1))∧((z2+1)≤9223372036854775807)) ∧
 ((y0 (z2+1)) ∧
  Need ((y1 (z2+1))<(y1 z2)))))))))) ∧
 (((decide (z2<(x0.length:Int)))=false) →
 (Q (.tv [] .bool (!(decide (x0=[])))) []))))))))):EvF PP orc 65 [.tv [] .str x0] [] Q:=vc_of (by kernel_rfl) h
theorem vc84 (x0:Int) (Q:AV→Heap→Prop) (h :
((((decide (x0=(95:Int)))=true) →
 (Q (.tv [] .bool true) [])) ∧
 (((decide (x0=(95:Int)))=false) →
 ((((decide (97≤x0))=true) →
 ((((decide (x0≤122))=true) →
 (Q (.tv [] .bool true) [])) ∧
 (((decide (x0≤122))=false) →
 ((((decide (65≤x0))=true) →
 (Q (.tv [] .bool (decide (x0≤90))) [])) ∧
 (((decide (65≤x0))=false) →
 (Q (.tv [] .bool false) [])))))) ∧
 (((decide (97≤x0))=false) →
 ((((decide (65≤x0))=true) →
 (Q (.tv [] .bool (decide (x0≤90))) [])) ∧
 (((decide (65≤x0))=false) →
 (Q (.tv [] .bool false) [])))))))):EvF PP orc 84 [.tv [] (.int .u8) x0] [] Q:=vc_of (by kernel_rfl) h
theorem vc85 (x0:Int) (Q:AV→Heap→Prop) (h :
((((decide (48≤x0))=true) →
 (Q (.tv [] .bool (decide (x0≤57))) [])) ∧
 (((decide (48≤x0))=false) →
 (Q (.tv [] .bool false) [])))):EvF PP orc 85 [.tv [] (.int .u8) x0] [] Q:=vc_of (by kernel_rfl) h
end Go.Am.R
namespace Go.Am.R
open Go
set_option maxRecDepth 100000
set_option maxHeartbeats 4000000
theorem vc27 (x0_0:List ((List Int×((List Int×(List Int×(Bool×Unit)))×Unit)))) (x0_1:List ((List Int×(List Int×(Bool×Unit))))) (x0_2:List ((Int×(List qT0×Unit)))) (x0_3:List Int) (x0_4:List ((List Int×(List qT0×(List Int×(List Int×Unit)))))) (Q:AV→Heap→Prop) (h :
((((decide ((20:Int)<(x0_0.length:Int)))=true) →
 (Q (.tv [] .bool false) [])) ∧
 (((decide ((20:Int)<(x0_0.length:Int)))=false) →
 ((((decide ((4:Int)<(x0_1.length:Int)))=true) →
 (Q (.tv [] .bool false) [])) ∧
 (((decide ((4:Int)<(x0_1.length:Int)))=false) →
 ((((decide ((10:Int)<(x0_2.length:Int)))=true) →
 (Q (.tv [] .bool false) [])) ∧
 (((decide ((10:Int)<(x0_2.length:Int)))=false) →
 ((((decide ((x0_4.length:Int)<(1:Int)))=true) →
 (Q (.tv [] .bool false) [])) ∧
 (((decide ((x0_4.length:Int)<(1:Int)))=false) →
 ((((decide ((40:Int)<(x0_4.length:Int)))=true) →
 (Q (.tv [] .bool false) [])) ∧
 (((decide ((40:Int)<(x0_4.length:Int)))=false) →
 (∃ y10:Bool,
 (Need (E 47 [(.tv [] .str x0_3)] [] (.tv [] .bool y10) []) ∧
 ((((!y10)=true) →
 (Q (.tv [] .bool false) [])) ∧
 (((!y10)=false) →
 (∃ y13:((List qT0)→(Int→Prop)),
 (∃ y14:((List qT0)→(Int→Nat)),
 ((y13 [] (0:Int)) ∧
 (∀ z15:(List qT0),
 (∀ z16:Int,
 ((y13 z15 z16) →
 ((((decide (z16<(x0_0.length:Int)))=true) →
 (Need ((0≤z16)∧(z16<(x0_0.length:Int))) ∧
 (Need ((z15.length+(List.length [(List.getD x0_0 z16.toNat (([]:List Int),(([],([],(false,()))),()))).1]))≤bigN) ∧
 (Need ((0≤z16)∧(z16<(x0_0.length:Int))) ∧
 (∃ y19:Bool,
 (Need (E 48 [(.tv [] qt8 (List.getD x0_0 z16.toNat (([]:List Int),(([],([],(false,()))),()))).2.1)] [] (.tv [] .bool y19) []) ∧
 ((((!y19)=true) →
 (Q (.tv [] .bool false) [])) ∧
 (((!y19)=false) →
 (Need ((-9223372036854775808≤(z16+1))∧((z16+1)≤9223372036854775807)) ∧
 ((y13 (z15++[(List.getD x0_0 z16.toNat (([]:List Int),(([],([],(false,()))),()))).1]) (z16+1)) ∧
  Need ((y14 (z15++[(List.getD x0_0 z16.toNat (([]:List Int),(([],([],(false,()))),()))).1]) (z16+1))<(y14 z15 z16)))))))))))) ∧
 (((decide (z16<(x0_0.length:Int)))=false) →
 (∃ y23:(Int→Prop),
 (∃ y24:(Int→Nat),
 ((y23 (0:Int)) ∧
 (∀ z25:Int,
 ((y23 z25) →
 ((((decide (z25<(x0_1.length:Int)))=true) →
 (Need ((0≤z25)∧(z25<(x0_1.length:Int))) ∧
 (∃ y28:Bool,
 (Need (E 48 [(.tv [] qt8 (List.getD x0_1 z25.toNat ([],([],(false,())))))] [] (.tv [] .bool y28) []) ∧
 ((((!y28)=true) →
 (Q (.tv [] .bool false) [])) ∧
 (((!y28)=false) →
 (Need ((-9223372036854775808≤(z25+1))∧((z25+1)≤9223372036854775807)) ∧
 ((y23 (z25+1)) ∧
  Need ((y24 (z25+1))<(y24 z25)))))))))) ∧
 (((decide (z25<(x0_1.length:Int)))=false) →
 (∃ y32:((List qT0)→(Int→Prop)),
 (∃ y33:((List qT0)→(Int→Nat)),
 ((y32 [] (0:Int)) ∧
 (∀ z34:(List qT0),
 (∀ z35:Int,
 ((y32 z34 z35) →
 ((((decide (z35<(x0_2.length:Int)))=true) →
 (Need ((0≤z35)∧(z35<(x0_2.length:Int))) ∧
 (Need ((z34.length+(List.length (List.getD x0_2 z35.toNat ((0:Int),([],()))).2.1))≤bigN) ∧
 ((((decide ((List.getD x0_2 z35.toNat ((0:Int),([],()))).1<(1:Int)))=true) →
 (Q (.tv [] .bool false) [])) ∧
 (((decide ((List.getD x0_2 z35.toNat ((0:Int),([],()))).1<(1:Int)))=false) →
 ((((decide ((3:Int)<(List.getD x0_2 z35.toNat ((0:Int),([],()))).1))=true) →
 (Q (.tv [] .bool false) [])) ∧
 (((decide ((3:Int)<(List.getD x0_2 z35.toNat ((0:Int),([],()))).1))=false) →
 ((((decide (((List.length (List.getD x0_2 z35.toNat ((0:Int),([],()))).2.1):Int)=(0:Int)))=true) →
 (Q (.tv [] .bool false) [])) ∧
 (((decide (((List.length (List.getD x0_2 z35.toNat ((0:Int),([],()))).2.1):Int)=(0:Int)))=false) →
 (Need ((-9223372036854775808≤(z35+1))∧((z35+1)≤9223372036854775807)) ∧
 ((y32 (z34++(List.getD x0_2 z35.toNat ((0:Int),([],()))).2.1) (z35+1)) ∧
  Need ((y33 (z34++(List.getD x0_2 z35.toNat ((0:Int),([],()))).2.1) (z35+1))<(y33 z34 z35))))))))))))) ∧
 (((decide (z35<(x0_2.length:Int)))=false) →
 (∃ y45:(Int→Prop),
 (∃ y46:(Int→Nat),
 ((y45 (0:Int)) ∧
 (∀ z47:Int,
 ((y45 z47) →
 ((((decide (z47<(x0_4.length:Int)))=true) →
 (Need ((0≤z47)∧(z47<(x0_4.length:Int))) ∧
 (∃ y50:Bool,
 (Need (E 47 [(.tv [] .str (List.getD x0_4 z47.toNat ([],([],([],([],()))))).1)] [] (.tv [] .bool y50) []) ∧
 ((((!y50)=true) →
 (Q (.tv [] .bool false) [])) ∧
 (((!y50)=false) →
 ((((decide ((8:Int)<((List.length (List.getD x0_4 z47.toNat ([],([],([],([],()))))).2.1):Int)))=true) →
 (Q (.tv [] .bool false) [])) ∧
 (((decide ((8:Int)<((List.length (List.getD x0_4 z47.toNat ([],([],([],([],()))))).2.1):Int)))=false) →
 ((((!(decide ((List.getD x0_4 z47.toNat ([],([],([],([],()))))).2.2.1=[])))=true) →
 (∃ y56:Bool,
 (Need (E 47 [(.tv [] .str (List.getD x0_4 z47.toNat ([],([],([],([],()))))).2.2.1)] [] (.tv [] .bool y56) []) ∧
 ((((!y56)=true) →
 (Q (.tv [] .bool false) [])) ∧
 (((!y56)=false) →
 (∃ y59:Bool,
 (Need (E 49 [(.tv [] .str (List.getD x0_4 z47.toNat ([],([],([],([],()))))).2.2.2.1)] [] (.tv [] .bool y59) []) ∧
 ((((!y59)=true) →
 (Q (.tv [] .bool false) [])) ∧
 (((!y59)=false) →
 (∃ y62:(Int→(qT0→((List qT0)→(qT0→(qT0→Prop))))),
 (∃ y63:(Int→(qT0→((List qT0)→(qT0→(qT0→Nat))))),
 ((y62 (0:Int) (List.getD x0_4 z47.toNat ([],([],([],([],()))))).1 (List.getD x0_4 z47.toNat ([],([],([],([],()))))).2.1 (List.getD x0_4 z47.toNat ([],([],([],([],()))))).2.2.1 (List.getD x0_4 z47.toNat ([],([],([],([],()))))).2.2.2.1) ∧
 (∀ z64:Int,
 (∀ z65:qT0,
 (∀ z66:(List qT0),
 (∀ z67 z68:qT0,
 ((y62 z64 z65 z66 z67 z68) →
 ((((decide (z64<(z66.length:Int)))=true) →
 (Need ((0≤z64)∧(z64<(z66.length:Int))) ∧
 (∃ y71:Bool,
 (Need (E 47 [(.tv [] .str (List.getD z66 z64.toNat []))] [] (.tv [] .bool y71) []) ∧
 ((((!y71)=true) →
 (Q (.tv [] .bool false) [])) ∧
 (((!y71)=false) →
 (Need ((-9223372036854775808≤(z64+1))∧((z64+1)≤9223372036854775807)) ∧
 ((y62 (z64 + 1) z65 z66 z67 z68) ∧
    Need ((y63 (z64+1) z65 z66 z67 z68)<(y63 z64 z65 z66 z67 z68)))))))))) ∧
 (((decide (z64<(z66.length:Int)))=false) →
 (Need ((-9223372036854775808≤(z47+1))∧((z47+1)≤9223372036854775807)) ∧
 ((y45 (z47+1)) ∧
   Need ((y46 (z47+1))<(y46 z47))))))))))))))))))))))) ∧
 (((!(decide ((List.getD x0_4 z47.toNat ([],([],([],([],()))))).2.2.1=[])))=false) →
 (∃ y76:Bool,
 (Need (E 49 [(.tv [] .str (List.getD x0_4 z47.toNat ([],([],([],([],()))))).2.2.2.1)] [] (.tv [] .bool y76) []) ∧
 ((((!y76)=true) →
 (Q (.tv [] .bool false) [])) ∧
 (((!y76)=false) →
 (∃ y79:(Int→(qT0→((List qT0)→(qT0→(qT0→Prop))))),
 (∃ y80:(Int→(qT0→((List qT0)→(qT0→(qT0→Nat))))),
 ((y79 (0:Int) (List.getD x0_4 z47.toNat ([],([],([],([],()))))).1 (List.getD x0_4 z47.toNat ([],([],([],([],()))))).2.1 (List.getD x0_4 z47.toNat ([],([],([],([],()))))).2.2.1 (List.getD x0_4 z47.toNat ([],([],([],([],()))))).2.2.2.1) ∧
 (∀ z81:Int,
 (∀ z82:qT0,
 (∀ z83:(List qT0),
 (∀ z84 z85:qT0,
 ((y79 z81 z82 z83 z84 z85) →
 ((((decide (z81<(z83.length:Int)))=true) →
 (Need ((0≤z81)∧(z81<(z83.length:Int))) ∧
 (∃ y88:Bool,
 (Need (E 47 [(.tv [] .str (List.getD z83 z81.toNat []))] [] (.tv [] .bool y88) []) ∧
 ((((!y88)=true) →
 (Q (.tv [] .bool false) [])) ∧
 (((!y88)=false) →
 (Need ((-9223372036854775808≤(z81+1))∧((z81+1)≤9223372036854775807)) ∧
 ((y79 (z81+1) z82 z83 z84 z85) ∧
   Need ((y80 (z81+1) z82 z83 z84 z85)<(y80 z81 z82 z83 z84 z85)))))))))) ∧
 (((decide (z81<(z83.length:Int)))=false) →
 (Need ((-9223372036854775808≤(z47+1))∧((z47+1)≤9223372036854775807)) ∧
 ((y45 (z47+1)) ∧
  Need ((y46 (z47+1))<(y46 z47)))))))))))))))))))))))))))) ∧
 (((decide (z47<(x0_4.length:Int)))=false) →
 (∃ y93:Bool,
 (Need (E 50 [(.tv [] qt10 z15)] [] (.tv [] .bool y93) []) ∧
 (((y93=true) →
 (∃ y95:Bool,
 (Need (E 50 [(.tv [] qt10 z34)] [] (.tv [] .bool y95) []) ∧
 (Q (.tv [] .bool y95) [])))) ∧
 ((y93=false) →
 (Q (.tv [] .bool false) [])))))))))))))))))))))))))))))))))))))))))))))))))):EvF PP orc 27 [.tv [] qt0 (x0_0,(x0_1,(x0_2,(x0_3,(x0_4,())))))] [] Q:=vc_of (by kernel_rfl) h
end Go.Am.R
namespace Go.Am.R
open Go
set_option maxRecDepth 100000
set_option maxHeartbeats 4000000
theorem vc21 (x0_0:List ((List Int×((List Int×(List Int×(Bool×Unit)))×Unit)))) (x0_1:List ((List Int×(List Int×(Bool×Unit))))) (x0_2:List ((Int×(List qT0×Unit)))) (x0_3:List Int) (x0_4:List ((List Int×(List qT0×(List Int×(List Int×Unit)))))) (Q:AV→Heap→Prop) (h :
(∃ y0:Bool,
 (Need (E 27 [(.tv [] qt0 (x0_0,(x0_1,(x0_2,(x0_3,(x0_4,()))))))] [] (.tv [] .bool y0) []) ∧
 ((((!y0)=true) →
 (Q (.tup [(.tv [] .str (List.map (fun v2=>(((BitVec.toNat (UInt8.toBitVec v2)):Nat):Int)) [])),(.tv [] (.int .i64) (1:Int))]) [])) ∧
 (((!y0)=false) →
 (∃ y4:(qT0→(Int→Prop)),
 (∃ y5:(qT0→(Int→Nat)),
 ((y4 (List.map (fun v6=>(((BitVec.toNat (UInt8.toBitVec v6)):Nat):Int)) []) (0:Int)) ∧
 (∀ z7:qT0,
 (∀ z8:Int,
 ((y4 z7 z8) →
 ((((decide (z8<(x0_0.length:Int)))=true) →
 (Need ((z7.length+7)≤bigN) ∧
 (Need ((0≤z8)∧(z8<(x0_0.length:Int))) ∧
 (Need (((List.length (z7++[(37:Int),(116:Int),(111:Int),(107:Int),(101:Int),(110:Int),(32:Int)]))+(List.length (List.getD x0_0 z8.toNat (([]:List Int),(([],([],(false,()))),()))).1))≤bigN) ∧
 (Need (((List.length ((z7++[(37:Int),(116:Int),(111:Int),(107:Int),(101:Int),(110:Int),(32:Int)])++(List.getD x0_0 z8.toNat (([]:List Int),(([],([],(false,()))),()))).1))+1)≤bigN) ∧
 (Need ((0≤z8)∧(z8<(x0_0.length:Int))) ∧
 (∃ y11:qT0,
 (Need (E 26 [(.tv [] qt8 (List.getD x0_0 z8.toNat (([]:List Int),(([],([],(false,()))),()))).2.1)] [] (.tv [] .str y11) []) ∧
 (Need (((List.length (((z7++[(37:Int),(116:Int),(111:Int),(107:Int),(101:Int),(110:Int),(32:Int)])++(List.getD x0_0 z8.toNat (([]:List Int),(([],([],(false,()))),()))).1)++[(32:Int)]))+y11.length)≤bigN) ∧
 (Need (((List.length ((((z7++[(37:Int),(116:Int),(111:Int),(107:Int),(101:Int),(110:Int),(32:Int)])++(List.getD x0_0 z8.toNat (([]:List Int),(([],([],(false,()))),()))).1)++[(32:Int)])++y11))+1)≤bigN) ∧
 (Need ((-9223372036854775808≤(z8+1))∧((z8+1)≤9223372036854775807)) ∧
 ((y4 (((((z7++[(37:Int),(116:Int),(111:Int),(107:Int),(101:Int),(110:Int),(32:Int)])++(List.getD x0_0 z8.toNat (([]:List Int),(([],([],(false,()))),()))).1)++[(32:Int)])++y11)++[(10:Int)]) (z8+1)) ∧
  Need ((y5 (((((z7++[(37:Int),(116:Int),(111:Int),(107:Int),(101:Int),(110:Int),(32:Int)])++(List.getD x0_0 z8.toNat (([]:List Int),(([],([],(false,()))),()))).1)++[(32:Int)])++y11)++[(10:Int)]) (z8+1))<(y5 z7 z8)))))))))))))) ∧
 (((decide (z8<(x0_0.length:Int)))=false) →
 (∃ y13:(qT0→(Int→Prop)),
 (∃ y14:(qT0→(Int→Nat)),
 ((y13 z7 (0:Int)) ∧
 (∀ z15:qT0,
 (∀ z16:Int,
 ((y13 z15 z16) →
 ((((decide (z16<(x0_1.length:Int)))=true) →
 (Need ((z15.length+6)≤bigN) ∧
 (Need ((0≤z16)∧(z16<(x0_1.length:Int))) ∧
 (∃ y19:qT0,
 (Need (E 26 [(.tv [] qt8 (List.getD x0_1 z16.toNat ([],([],(false,())))))] [] (.tv [] .str y19) []) ∧
 (Need (((List.length (z15++[(37:Int),(115:Int),(107:Int),(105:Int),(112:Int),(32:Int)]))+y19.length)≤bigN) ∧
 (Need (((List.length ((z15++[(37:Int),(115:Int),(107:Int),(105:Int),(112:Int),(32:Int)])++y19))+1)≤bigN) ∧
 (Need ((-9223372036854775808≤(z16+1))∧((z16+1)≤9223372036854775807)) ∧
 ((y13 (((z15++[(37:Int),(115:Int),(107:Int),(105:Int),(112:Int),(32:Int)])++y19)++[(10:Int)]) (z16+1)) ∧
  Need ((y14 (((z15++[(37:Int),(115:Int),(107:Int),(105:Int),(112:Int),(32:Int)])++y19)++[(10:Int)]) (z16+1))<(y14 z15 z16))))))))))) ∧
 (((decide (z16<(x0_1.length:Int)))=false) →
 (∃ y21:(qT0→(Int→Prop)),
 (∃ y22:(qT0→(Int→Nat)),
 ((y21 z15 (0:Int)) ∧
 (∀ z23:qT0,
 (∀ z24:Int,
 ((y21 z23 z24) →
 ((((decide (z24<(x0_2.length:Int)))=true) →
 (Need ((0≤z24)∧(z24<(x0_2.length:Int))) ∧
 ((((decide ((List.getD x0_2 z24.toNat ((0:Int),([],()))).1=(2:Int)))=true) →
 (Need ((0≤z24)∧(z24<(x0_2.length:Int))) ∧
 ((((decide ((List.getD x0_2 z24.toNat ((0:Int),([],()))).1=(3:Int)))=true) →
 (Need ((z23.length+9)≤bigN) ∧
 (∃ y29:(qT0→(Int→Prop)),
 (∃ y30:(qT0→(Int→Nat)),
 ((y29 (z23++[(37:Int),(110:Int),(111:Int),(110:Int),(97:Int),(115:Int),(115:Int),(111:Int),(99:Int)]) (0:Int)) ∧
 (∀ z31:qT0,
 (∀ z32:Int,
 ((y29 z31 z32) →
 (Need ((0≤z24)∧(z24<(x0_2.length:Int))) ∧
 ((((decide (z32<((List.length (List.getD x0_2 z24.toNat ((0:Int),([],()))).2.1):Int)))=true) →
 (Need ((z31.length+1)≤bigN) ∧
 (Need ((0≤z24)∧(z24<(x0_2.length:Int))) ∧
 (Need ((0≤z32)∧(z32<((List.length (List.getD x0_2 z24.toNat ((0:Int),([],()))).2.1):Int))) ∧
 (Need (((List.length (z31++[(32:Int)]))+(List.length (List.getD (List.getD x0_2 z24.toNat ((0:Int),([],()))).2.1 z32.toNat [])))≤bigN) ∧
 (Need ((-9223372036854775808≤(z32+1))∧((z32+1)≤9223372036854775807)) ∧
 ((y29 ((z31 ++ [(32 : Int)]) ++ (List.getD (List.getD x0_2 z24.toNat ((0 : Int), ([], ()))).2.1 z32.toNat [])) (z32 + 1)) ∧
     Need ((y30 ((z31++[(32:Int)])++(List.getD (List.getD x0_2 z24.toNat ((0:Int),([],()))).2.1 z32.toNat [])) (z32+1))<(y30 z31 z32))))))))) ∧
 (((decide (z32<((List.length (List.getD x0_2 z24.toNat ((0:Int),([],()))).2.1):Int)))=false) →
 (Need ((z31.length+1)≤bigN) ∧
 (Need ((-9223372036854775808≤(z24+1))∧((z24+1)≤9223372036854775807)) ∧
 ((y21 (z31 ++ [(10 : Int)]) (z24 + 1)) ∧
    Need ((y22 (z31++[(10:Int)]) (z24+1))<(y22 z23 z24)))))))))))))))) ∧
 (((decide ((List.getD x0_2 z24.toNat ((0:Int),([],()))).1=(3:Int)))=false) →
 (Need ((z23.length+6)≤bigN) ∧
 (∃ y37:(qT0→(Int→Prop)),
 (∃ y38:(qT0→(Int→Nat)),
 ((y37 (z23++[(37:Int),(114:Int),(105:Int),(103:Int),(104:Int),(116:Int)]) (0:Int)) ∧
 (∀ z39:qT0,
 (∀ z40:Int,
 ((y37 z39 z40) →
 (Need ((0≤z24)∧(z24<(x0_2.length:Int))) ∧
 ((((decide (z40<((List.length (List.getD x0_2 z24.toNat ((0:Int),([],()))).2.1):Int)))=true) →
 (Need ((z39.length+1)≤bigN) ∧
 (Need ((0≤z24)∧(z24<(x0_2.length:Int))) ∧
 (Need ((0≤z40)∧(z40<((List.length (List.getD x0_2 z24.toNat ((0:Int),([],()))).2.1):Int))) ∧
 (Need (((List.length (z39++[(32:Int)]))+(List.length (List.getD (List.getD x0_2 z24.toNat ((0:Int),([],()))).2.1 z40.toNat [])))≤bigN) ∧
 (Need ((-9223372036854775808≤(z40+1))∧((z40+1)≤9223372036854775807)) ∧
 ((y37 ((z39 ++ [(32 : Int)]) ++ (List.getD (List.getD x0_2 z24.toNat ((0 : Int), ([], ()))).2.1 z40.toNat [])) (z40 + 1)) ∧
    Need ((y38 ((z39++[(32:Int)])++(List.getD (List.getD x0_2 z24.toNat ((0:Int),([],()))).2.1 z40.toNat [])) (z40+1))<(y38 z39 z40))))))))) ∧
 (((decide (z40<((List.length (List.getD x0_2 z24.toNat ((0:Int),([],()))).2.1):Int)))=false) →
 (Need ((z39.length+1)≤bigN) ∧
 (Need ((-9223372036854775808≤(z24+1))∧((z24+1)≤9223372036854775807)) ∧
 ((y21 (z39++[(10:Int)]) (z24+1)) ∧
   Need ((y22 (z39++[(10:Int)]) (z24+1))<(y22 z23 z24))))))))))))))))))) ∧
 (((decide ((List.getD x0_2 z24.toNat ((0:Int),([],()))).1=(2:Int)))=false) →
 (Need ((0≤z24)∧(z24<(x0_2.length:Int))) ∧
 ((((decide ((List.getD x0_2 z24.toNat ((0:Int),([],()))).1=(3:Int)))=true) →
 (Need ((z23.length+9)≤bigN) ∧
 (∃ y46:(qT0→(Int→Prop)),
 (∃ y47:(qT0→(Int→Nat)),
 ((y46 (z23++[(37:Int),(110:Int),(111:Int),(110:Int),(97:Int),(115:Int),(115:Int),(111:Int),(99:Int)]) (0:Int)) ∧
 (∀ z48:qT0,
 (∀ z49:Int,
 ((y46 z48 z49) →
 (Need ((0≤z24)∧(z24<(x0_2.length:Int))) ∧
 ((((decide (z49<((List.length (List.getD x0_2 z24.toNat ((0:Int),([],()))).2.1):Int)))=true) →
 (Need ((z48.length+1)≤bigN) ∧
 (Need ((0≤z24)∧(z24<(x0_2.length:Int))) ∧
 (Need ((0≤z49)∧(z49<((List.length (List.getD x0_2 z24.toNat ((0:Int),([],()))).2.1):Int))) ∧
 (Need (((List.length (z48++[(32:Int)]))+(List.length (List.getD (List.getD x0_2 z24.toNat ((0:Int),([],()))).2.1 z49.toNat [])))≤bigN) ∧
 (Need ((-9223372036854775808≤(z49+1))∧((z49+1)≤9223372036854775807)) ∧
 ((y46 ((z48 ++ [(32 : Int)]) ++ (List.getD (List.getD x0_2 z24.toNat ((0 : Int), ([], ()))).2.1 z49.toNat [])) (z49 + 1)) ∧
    Need ((y47 ((z48++[(32:Int)])++(List.getD (List.getD x0_2 z24.toNat ((0:Int),([],()))).2.1 z49.toNat [])) (z49+1))<(y47 z48 z49))))))))) ∧
 (((decide (z49<((List.length (List.getD x0_2 z24.toNat ((0:Int),([],()))).2.1):Int)))=false) →
 (Need ((z48.length+1)≤bigN) ∧
 (Need ((-9223372036854775808≤(z24+1))∧((z24+1)≤9223372036854775807)) ∧
 ((y21 (z48++[(10:Int)]) (z24+1)) ∧
   Need ((y22 (z48++[(10:Int)]) (z24+1))<(y22 z23 z24)))))))))))))))) ∧
 (((decide ((List.getD x0_2 z24.toNat ((0:Int),([],()))).1=(3:Int)))=false) →
 (Need ((z23.length+5)≤bigN) ∧
 (∃ y54:(qT0→(Int→Prop)),
 (∃ y55:(qT0→(Int→Nat)),
 ((y54 (z23++[(37:Int),(108:Int),(101:Int),(102:Int),(116:Int)]) (0:Int)) ∧
 (∀ z56:qT0,
 (∀ z57:Int,
 ((y54 z56 z57) →
 (Need ((0≤z24)∧(z24<(x0_2.length:Int))) ∧
 ((((decide (z57<((List.length (List.getD x0_2 z24.toNat ((0:Int),([],()))).2.1):Int)))=true) →
 (Need ((z56.length+1)≤bigN) ∧
 (Need ((0≤z24)∧(z24<(x0_2.length:Int))) ∧
 (Need ((0≤z57)∧(z57<((List.length (List.getD x0_2 z24.toNat ((0:Int),([],()))).2.1):Int))) ∧
 (Need (((List.length (z56++[(32:Int)]))+(List.length (List.getD (List.getD x0_2 z24.toNat ((0:Int),([],()))).2.1 z57.toNat [])))≤bigN) ∧
 (Need ((-9223372036854775808≤(z57+1))∧((z57+1)≤9223372036854775807)) ∧
 ((y54 ((z56++[(32:Int)])++(List.getD (List.getD x0_2 z24.toNat ((0:Int),([],()))).2.1 z57.toNat [])) (z57+1)) ∧
   Need ((y55 ((z56++[(32:Int)])++(List.getD (List.getD x0_2 z24.toNat ((0:Int),([],()))).2.1 z57.toNat [])) (z57+1))<(y55 z56 z57))))))))) ∧
 (((decide (z57<((List.length (List.getD x0_2 z24.toNat ((0:Int),([],()))).2.1):Int)))=false) →
 (Need ((z56.length+1)≤bigN) ∧
 (Need ((-9223372036854775808≤(z24+1))∧((z24+1)≤9223372036854775807)) ∧
 ((y21 (z56++[(10:Int)]) (z24+1)) ∧
  Need ((y22 (z56++[(10:Int)]) (z24+1))<(y22 z23 z24)))))))))))))))))))))) ∧
 (((decide (z24<(x0_2.length:Int)))=false) →
 (Need ((z23.length+7)≤bigN) ∧
 (Need (((List.length (z23++[(37:Int),(115:Int),(116:Int),(97:Int),(114:Int),(116:Int),(32:Int)]))+x0_3.length)≤bigN) ∧
 (Need (((List.length ((z23++[(37:Int),(115:Int),(116:Int),(97:Int),(114:Int),(116:Int),(32:Int)])++x0_3))+4)≤bigN) ∧
 (∃ y62:(qT0→(Int→Prop)),
 (∃ y63:(qT0→(Int→Nat)),
 ((y62 (((z23++[(37:Int),(115:Int),(116:Int),(97:Int),(114:Int),(116:Int),(32:Int)])++x0_3)++[(10:Int),(37:Int),(37:Int),(10:Int)]) (0:Int)) ∧
 (∀ z64:qT0,
 (∀ z65:Int,
 ((y62 z64 z65) →
 ((((decide (z65<(x0_4.length:Int)))=true) →
 (Need ((0≤z65)∧(z65<(x0_4.length:Int))) ∧
 (∃ y68:qT0,
 (Need (E 24 [(.tv [] qt9 (List.getD x0_4 z65.toNat ([],([],([],([],()))))))] [] (.tv [] .str y68) []) ∧
 (Need ((z64.length+y68.length)≤bigN) ∧
 (Need (((List.length (z64++y68))+1)≤bigN) ∧
 (Need ((-9223372036854775808≤(z65+1))∧((z65+1)≤9223372036854775807)) ∧
 ((y62 ((z64++y68)++[(10:Int)]) (z65+1)) ∧
  Need ((y63 ((z64++y68)++[(10:Int)]) (z65+1))<(y63 z64 z65)))))))))) ∧
 (((decide (z65<(x0_4.length:Int)))=false) →
 ((((decide ((4000:Int)<(z64.length:Int)))=true) →
 (Q (.tup [(.tv [] .str (List.map (fun v71=>(((BitVec.toNat (UInt8.toBitVec v71)):Nat):Int)) [])),(.tv [] (.int .i64) (12:Int))]) [])) ∧
 (((decide ((4000:Int)<(z64.length:Int)))=false) →
 (Q (.tup [(.tv [] .str z64),(.tv [] (.int .i64) (0:Int))]) []))))))))))))))))))))))))))))))))))))))))))):EvF PP orc 21 [.tv [] qt0 (x0_0,(x0_1,(x0_2,(x0_3,(x0_4,())))))] [] Q:=vc_of (by kernel_rfl) h
end Go.Am.R
namespace Go.Am.R
open Go
set_option maxRecDepth 100000
set_option maxHeartbeats 4000000
theorem vc19 (x0_0:List ((List Int×((List Int×(List Int×(Bool×Unit)))×Unit)))) (x0_1:List ((List Int×(List Int×(Bool×Unit))))) (x0_2:List ((Int×(List qT0×Unit)))) (x0_3:List Int) (x0_4:List ((List Int×(List qT0×(List Int×(List Int×Unit)))))) (Q:AV→Heap→Prop) (h :
(Need ((-9223372036854775808≤((x0_0.length:Int)+(x0_1.length:Int)))∧(((x0_0.length:Int)+(x0_1.length:Int))≤9223372036854775807)) ∧
 (Need ((-9223372036854775808≤(((x0_0.length:Int)+(x0_1.length:Int))+(x0_2.length:Int)))∧((((x0_0.length:Int)+(x0_1.length:Int))+(x0_2.length:Int))≤9223372036854775807)) ∧
 (Need ((-9223372036854775808≤((((x0_0.length:Int)+(x0_1.length:Int))+(x0_2.length:Int))+(x0_4.length:Int)))∧(((((x0_0.length:Int)+(x0_1.length:Int))+(x0_2.length:Int))+(x0_4.length:Int))≤9223372036854775807)) ∧
 ((((decide ((60:Int)<((((x0_0.length:Int)+(x0_1.length:Int))+(x0_2.length:Int))+(x0_4.length:Int))))=true) →
 (Q (.tv [] .bool false) [])) ∧
 (((decide ((60:Int)<((((x0_0.length:Int)+(x0_1.length:Int))+(x0_2.length:Int))+(x0_4.length:Int))))=false) →
 (∃ y2:(Int→(Int→Prop)),
 (∃ y3:(Int→(Int→Nat)),
 ((y2 ((((x0_0.length:Int)+(x0_1.length:Int))+(x0_2.length:Int))+(x0_4.length:Int)) (0:Int)) ∧
 (∀ z4 z5:Int,
 ((y2 z4 z5) →
 ((((decide (z5<(x0_0.length:Int)))=true) →
 (Need ((0≤z5)∧(z5<(x0_0.length:Int))) ∧
 (Need ((-9223372036854775808≤(z4+((List.length (List.getD x0_0 z5.toNat (([]:List Int),(([],([],(false,()))),()))).1):Int)))∧((z4+((List.length (List.getD x0_0 z5.toNat (([]:List Int),(([],([],(false,()))),()))).1):Int))≤9223372036854775807)) ∧
 (Need ((0≤z5)∧(z5<(x0_0.length:Int))) ∧
 (Need ((-9223372036854775808≤((z4+((List.length (List.getD x0_0 z5.toNat (([]:List Int),(([],([],(false,()))),()))).1):Int))+((List.length (List.getD x0_0 z5.toNat (([]:List Int),(([],([],(false,()))),()))).2.1.1):Int)))∧(((z4+((List.length (List.getD x0_0 z5.toNat (([]:List Int),(([],([],(false,()))),()))).1):Int))+((List.length (List.getD x0_0 z5.toNat (([]:List Int),(([],([],(false,()))),()))).2.1.1):Int))≤9223372036854775807)) ∧
 (Need ((0≤z5)∧(z5<(x0_0.length:Int))) ∧
 (Need ((-9223372036854775808≤(((z4+((List.length (List.getD x0_0 z5.toNat (([]:List Int),(([],([],(false,()))),()))).1):Int))+((List.length (List.getD x0_0 z5.toNat (([]:List Int),(([],([],(false,()))),()))).2.1.1):Int))+((List.length (List.getD x0_0 z5.toNat (([]:List Int),(([],([],(false,()))),()))).2.1.2.1):Int)))∧((((z4+((List.length (List.getD x0_0 z5.toNat (([]:List Int),(([],([],(false,()))),()))).1):Int))+((List.length (List.getD x0_0 z5.toNat (([]:List Int),(([],([],(false,()))),()))).2.1.1):Int))+((List.length (List.getD x0_0 z5.toNat (([]:List Int),(([],([],(false,()))),()))).2.1.2.1):Int))≤9223372036854775807)) ∧
 (Need ((-9223372036854775808≤(z5+1))∧((z5+1)≤9223372036854775807)) ∧
 ((y2 (((z4+((List.length (List.getD x0_0 z5.toNat (([]:List Int),(([],([],(false,()))),()))).1):Int))+((List.length (List.getD x0_0 z5.toNat (([]:List Int),(([],([],(false,()))),()))).2.1.1):Int))+((List.length (List.getD x0_0 z5.toNat (([]:List Int),(([],([],(false,()))),()))).2.1.2.1):Int)) (z5+1)) ∧
  Need ((y3 (((z4+((List.length (List.getD x0_0 z5.toNat (([]:List Int),(([],([],(false,()))),()))).1):Int))+((List.length (List.getD x0_0 z5.toNat (([]:List Int),(([],([],(false,()))),()))).2.1.1):Int))+((List.length (List.getD x0_0 z5.toNat (([]:List Int),(([],([],(false,()))),()))).2.1.2.1):Int)) (z5+1))<(y3 z4 z5))))))))))) ∧
 (((decide (z5<(x0_0.length:Int)))=false) →
 (∃ y9:(Int→(Int→Prop)),
 (∃ y10:(Int→(Int→Nat)),
 ((y9 z4 (0:Int)) ∧
 (∀ z11 z12:Int,
 ((y9 z11 z12) →
 ((((decide (z12<(x0_1.length:Int)))=true) →
 (Need ((0≤z12)∧(z12<(x0_1.length:Int))) ∧
 (Need ((-9223372036854775808≤(z11+((List.length (List.getD x0_1 z12.toNat ([],([],(false,())))).1):Int)))∧((z11+((List.length (List.getD x0_1 z12.toNat ([],([],(false,())))).1):Int))≤9223372036854775807)) ∧
 (Need ((0≤z12)∧(z12<(x0_1.length:Int))) ∧
 (Need ((-9223372036854775808≤((z11+((List.length (List.getD x0_1 z12.toNat ([],([],(false,())))).1):Int))+((List.length (List.getD x0_1 z12.toNat ([],([],(false,())))).2.1):Int)))∧(((z11+((List.length (List.getD x0_1 z12.toNat ([],([],(false,())))).1):Int))+((List.length (List.getD x0_1 z12.toNat ([],([],(false,())))).2.1):Int))≤9223372036854775807)) ∧
 (Need ((-9223372036854775808≤(z12+1))∧((z12+1)≤9223372036854775807)) ∧
 ((y9 ((z11+((List.length (List.getD x0_1 z12.toNat ([],([],(false,())))).1):Int))+((List.length (List.getD x0_1 z12.toNat ([],([],(false,())))).2.1):Int)) (z12+1)) ∧
  Need ((y10 ((z11+((List.length (List.getD x0_1 z12.toNat ([],([],(false,())))).1):Int))+((List.length (List.getD x0_1 z12.toNat ([],([],(false,())))).2.1):Int)) (z12+1))<(y10 z11 z12))))))))) ∧
 (((decide (z12<(x0_1.length:Int)))=false) →
 (∃ y16:(Int→(Int→Prop)),
 (∃ y17:(Int→(Int→Nat)),
 ((y16 z11 (0:Int)) ∧
 (∀ z18 z19:Int,
 ((y16 z18 z19) →
 ((((decide (z19<(x0_2.length:Int)))=true) →
 (∃ y22:(Int→(Int→Prop)),
 (∃ y23:(Int→(Int→Nat)),
 ((y22 z18 (0:Int)) ∧
 (∀ z24 z25:Int,
 ((y22 z24 z25) →
 (Need ((0≤z19)∧(z19<(x0_2.length:Int))) ∧
 ((((decide (z25<((List.length (List.getD x0_2 z19.toNat ((0:Int),([],()))).2.1):Int)))=true) →
 (Need ((0≤z19)∧(z19<(x0_2.length:Int))) ∧
 (Need ((0≤z25)∧(z25<((List.length (List.getD x0_2 z19.toNat ((0:Int),([],()))).2.1):Int))) ∧
 (Need ((-9223372036854775808≤(z24+((List.length (List.getD (List.getD x0_2 z19.toNat ((0:Int),([],()))).2.1 z25.toNat [])):Int)))∧((z24+((List.length (List.getD (List.getD x0_2 z19.toNat ((0:Int),([],()))).2.1 z25.toNat [])):Int))≤9223372036854775807)) ∧
 (Need ((-9223372036854775808≤((z24+((List.length (List.getD (List.getD x0_2 z19.toNat ((0:Int),([],()))).2.1 z25.toNat [])):Int))+(1:Int)))∧(((z24+((List.length (List.getD (List.getD x0_2 z19.toNat ((0:Int),([],()))).2.1 z25.toNat [])):Int))+(1:Int))≤9223372036854775807)) ∧
 (Need ((-9223372036854775808≤(z25+1))∧((z25+1)≤9223372036854775807)) ∧
 ((y22 ((z24+((List.length (List.getD (List.getD x0_2 z19.toNat ((0:Int),([],()))).2.1 z25.toNat [])):Int))+(1:Int)) (z25+1)) ∧
   Need ((y23 ((z24+((List.length (List.getD (List.getD x0_2 z19.toNat ((0:Int),([],()))).2.1 z25.toNat [])):Int))+(1:Int)) (z25+1))<(y23 z24 z25))))))))) ∧
 (((decide (z25<((List.length (List.getD x0_2 z19.toNat ((0:Int),([],()))).2.1):Int)))=false) →
 (Need ((-9223372036854775808≤(z19+1))∧((z19+1)≤9223372036854775807)) ∧
 ((y16 z24 (z19+1)) ∧
  Need ((y17 z24 (z19+1))<(y17 z18 z19))))))))))))) ∧
 (((decide (z19<(x0_2.length:Int)))=false) →
 (∃ y30:(Int→(Int→Prop)),
 (∃ y31:(Int→(Int→Nat)),
 ((y30 z18 (0:Int)) ∧
 (∀ z32 z33:Int,
 ((y30 z32 z33) →
 ((((decide (z33<(x0_4.length:Int)))=true) →
 (Need ((0≤z33)∧(z33<(x0_4.length:Int))) ∧
 (Need ((-9223372036854775808≤(z32+((List.length (List.getD x0_4 z33.toNat ([],([],([],([],()))))).1):Int)))∧((z32+((List.length (List.getD x0_4 z33.toNat ([],([],([],([],()))))).1):Int))≤9223372036854775807)) ∧
 (Need ((0≤z33)∧(z33<(x0_4.length:Int))) ∧
 (Need ((-9223372036854775808≤((z32+((List.length (List.getD x0_4 z33.toNat ([],([],([],([],()))))).1):Int))+((List.length (List.getD x0_4 z33.toNat ([],([],([],([],()))))).2.2.1):Int)))∧(((z32+((List.length (List.getD x0_4 z33.toNat ([],([],([],([],()))))).1):Int))+((List.length (List.getD x0_4 z33.toNat ([],([],([],([],()))))).2.2.1):Int))≤9223372036854775807)) ∧
 (Need ((0≤z33)∧(z33<(x0_4.length:Int))) ∧
 (Need ((-9223372036854775808≤(((z32+((List.length (List.getD x0_4 z33.toNat ([],([],([],([],()))))).1):Int))+((List.length (List.getD x0_4 z33.toNat ([],([],([],([],()))))).2.2.1):Int))+((List.length (List.getD x0_4 z33.toNat ([],([],([],([],()))))).2.2.2.1):Int)))∧((((z32+((List.length (List.getD x0_4 z33.toNat ([],([],([],([],()))))).1):Int))+((List.length (List.getD x0_4 z33.toNat ([],([],([],([],()))))).2.2.1):Int))+((List.length (List.getD x0_4 z33.toNat ([],([],([],([],()))))).2.2.2.1):Int))≤9223372036854775807)) ∧
 (∃ y36:(Int→(Int→Prop)),
 (∃ y37:(Int→(Int→Nat)),
 ((y36 (((z32+((List.length (List.getD x0_4 z33.toNat ([],([],([],([],()))))).1):Int))+((List.length (List.getD x0_4 z33.toNat ([],([],([],([],()))))).2.2.1):Int))+((List.length (List.getD x0_4 z33.toNat ([],([],([],([],()))))).2.2.2.1):Int)) (0:Int)) ∧
 (∀ z38 z39:Int,
 ((y36 z38 z39) →
 (Need ((0≤z33)∧(z33<(x0_4.length:Int))) ∧
 ((((decide (z39<((List.length (List.getD x0_4 z33.toNat ([],([],([],([],()))))).2.1):Int)))=true) →
 (Need ((0≤z33)∧(z33<(x0_4.length:Int))) ∧
 (Need ((0≤z39)∧(z39<((List.length (List.getD x0_4 z33.toNat ([],([],([],([],()))))).2.1):Int))) ∧
 (Need ((-9223372036854775808≤(z38+((List.length (List.getD (List.getD x0_4 z33.toNat ([],([],([],([],()))))).2.1 z39.toNat [])):Int)))∧((z38+((List.length (List.getD (List.getD x0_4 z33.toNat ([],([],([],([],()))))).2.1 z39.toNat [])):Int))≤9223372036854775807)) ∧
 (Need ((-9223372036854775808≤((z38+((List.length (List.getD (List.getD x0_4 z33.toNat ([],([],([],([],()))))).2.1 z39.toNat [])):Int))+(1:Int)))∧(((z38+((List.length (List.getD (List.getD x0_4 z33.toNat ([],([],([],([],()))))).2.1 z39.toNat [])):Int))+(1:Int))≤9223372036854775807)) ∧
 (Need ((-9223372036854775808≤(z39+1))∧((z39+1)≤9223372036854775807)) ∧
 ((y36 ((z38+((List.length (List.getD (List.getD x0_4 z33.toNat ([],([],([],([],()))))).2.1 z39.toNat [])):Int))+(1:Int)) (z39+1)) ∧
   Need ((y37 ((z38+((List.length (List.getD (List.getD x0_4 z33.toNat ([],([],([],([],()))))).2.1 z39.toNat [])):Int))+(1:Int)) (z39+1))<(y37 z38 z39))))))))) ∧
 (((decide (z39<((List.length (List.getD x0_4 z33.toNat ([],([],([],([],()))))).2.1):Int)))=false) →
 (Need ((-9223372036854775808≤(z33+1))∧((z33+1)≤9223372036854775807)) ∧
 ((y30 z38 (z33+1)) ∧
  Need ((y31 z38 (z33+1))<(y31 z32 z33))))))))))))))))))) ∧
 (((decide (z33<(x0_4.length:Int)))=false) →
 (Q (.tv [] .bool (decide (z32≤1500))) []))))))))))))))))))))))))))))))))))):EvF PP orc 19 [.tv [] qt0 (x0_0,(x0_1,(x0_2,(x0_3,(x0_4,())))))] [] Q:=vc_of (by kernel_rfl) h
end Go.Am.R
