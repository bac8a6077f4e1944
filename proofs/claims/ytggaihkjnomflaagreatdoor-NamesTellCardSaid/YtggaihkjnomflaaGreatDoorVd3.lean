/-
  A part of the proof of a law: see the text that states it.
-/
import Derived.Test.YtggaihkjnomflaaGreatDoorHead
set_option linter.all false
namespace Go.Am.N
open Go
set_option maxRecDepth 100000
set_option maxHeartbeats 4000000
theorem vWZ (x0:List qT0) (x1:List Int) (Q:AV→adZ→Prop) (h :(∃ y0:(Int→Prop),
 ∃ y1:(Int→Nat),
 y0 (0:Int) ∧
 ∀ z2:Int,
 y0 z2 →
 (decide (z2<(x0.length:Int))=true →
 Need (0≤z2∧z2<(x0.length:Int)) ∧
 (decide ((List.getD x0 z2.toNat [])=x1)=true →
 Q (.tv [] (.int .i64) z2) []) ∧
 (decide ((List.getD x0 z2.toNat [])=x1)=false →
 Need (-9223372036854775808≤z2+1∧z2+1≤9223372036854775807) ∧
 y0 (z2+1) ∧
  Need (y1 (z2+1)<y1 z2))) ∧
 (decide (z2<(x0.length:Int))=false →
 Q (.tv [] (.int .i64) (-(1:Int))) []))):EvF PP orc 29 [.tv [] bPZ x0,.tv [] .str x1] [] Q:=aoZ (by kernel_rfl) h
theorem vDZ (x0_0:List qT0) (x0_1:List qT0) (x0_2:List ((Int×(List (Int)×(Int×Unit))))) (x0_3:List (Int)) (x0_4:List (Int)) (x0_5:List qT0) (x1:List Int) (Q:AV→adZ→Prop) (h :(∃ y0:Int,
 Need (E 29 [(.tv [] bPZ x0_0),(.tv [] .str x1)] [] (.tv [] (.int .i64) y0) []) ∧
 (decide (0≤y0)=true →
 Q (.tv [] (.int .i64) y0) []) ∧
 (decide (0≤y0)=false →
 ∃ y3:Int,
 Need (E 29 [(.tv [] bPZ x0_1),(.tv [] .str x1)] [] (.tv [] (.int .i64) y3) []) ∧
 (decide (0≤y3)=true →
 Need (-9223372036854775808≤(x0_0.length:Int)+y3∧(x0_0.length:Int)+y3≤9223372036854775807) ∧
 Q (.tv [] (.int .i64) ((x0_0.length:Int)+y3)) []) ∧
 (decide (0≤y3)=false →
 Q (.tv [] (.int .i64) (-(1:Int))) [])))):EvF PP orc 20 [.tv [] qt2 (x0_0,(x0_1,(x0_2,(x0_3,(x0_4,(x0_5,())))))),.tv [] .str x1] [] Q:=aoZ (by kernel_rfl) h
theorem wbZ (x0_0:List ((List Int×((List Int×(List Int×(Bool×Unit)))×Unit)))) (x0_1:List ((List Int×(List Int×(Bool×Unit))))) (x0_2:List ((Int×(List qT0×Unit)))) (x0_3:List Int) (x0_4:List ((List Int×(List qT0×(List Int×(List Int×Unit)))))) (x1:List Int) (Q:AV→adZ→Prop) (h :(∃ y0:(Int→Prop),
 ∃ y1:(Int→Nat),
 y0 (0:Int) ∧
 ∀ z2:Int,
 y0 z2 →
 (decide (z2<(x0_2.length:Int))=true →
 Need (0≤z2∧z2<(x0_2.length:Int)) ∧
 ∃ y5:Int,
 Need (E 29 [(.tv [] bPZ (List.getD x0_2 z2.toNat ((0:Int),([],()))).2.1),(.tv [] .str x1)] [] (.tv [] (.int .i64) y5) []) ∧
 (decide (0≤y5)=true →
 Need (-9223372036854775808≤z2+1∧z2+1≤9223372036854775807) ∧
 Q (.tv [] (.int .i64) (z2+1)) []) ∧
 (decide (0≤y5)=false →
 Need (-9223372036854775808≤z2+1∧z2+1≤9223372036854775807) ∧
 y0 (z2+1) ∧
  Need (y1 (z2+1)<y1 z2))) ∧
 (decide (z2<(x0_2.length:Int))=false →
 Q (.tv [] (.int .i64) (0:Int)) []))):EvF PP orc 30 [.tv [] qt0 (x0_0,(x0_1,(x0_2,(x0_3,(x0_4,()))))),.tv [] .str x1] [] Q:=aoZ (by kernel_rfl) h
theorem v7Z (x0_0:List qT0) (x0_1:List qT0) (x0_2:List ((Int×(List (Int)×(Int×Unit))))) (x0_3:List (Int)) (x0_4:List (Int)) (x0_5:List qT0) (x1:Int) (Q:AV→adZ→Prop) (h :((decide (0≤x1)=true →
 (decide (x1<(x0_0.length:Int))=true →
 Need (0≤x1∧x1<(x0_0.length:Int)) ∧
 Q (.tv [] .str (List.getD x0_0 x1.toNat [])) []) ∧
 (decide (x1<(x0_0.length:Int))=false →
 (decide ((x0_0.length:Int)≤x1)=true →
 Need (-9223372036854775808≤(x0_0.length:Int)+(x0_1.length:Int)∧(x0_0.length:Int)+(x0_1.length:Int)≤9223372036854775807) ∧
 (decide (x1<(x0_0.length:Int)+(x0_1.length:Int))=true →
 Need (-9223372036854775808≤(x1-(x0_0.length:Int))∧(x1-(x0_0.length:Int))≤9223372036854775807) ∧
 Need ((0:Int)≤(x1-(x0_0.length:Int))∧(x1-(x0_0.length:Int))<(x0_1.length:Int)) ∧
 Q (.tv [] .str (List.getD x0_1 (Int.toNat (x1-(x0_0.length:Int))) [])) []) ∧
 (decide (x1<(x0_0.length:Int)+(x0_1.length:Int))=false →
 Need (-9223372036854775808≤(x0_0.length:Int)+(x0_1.length:Int)∧(x0_0.length:Int)+(x0_1.length:Int)≤9223372036854775807) ∧
 (decide (x1=(x0_0.length:Int)+(x0_1.length:Int))=true →
 Q (.tv [] .str (List.map (fun v7=>(((BitVec.toNat (UInt8.toBitVec v7)):Nat):Int)) [(36:UInt8),(97:UInt8),(99:UInt8),(99:UInt8),(101:UInt8),(112:UInt8),(116:UInt8)])) []) ∧
 (decide (x1=(x0_0.length:Int)+(x0_1.length:Int))=false →
 Q (.tv [] .str (List.map (fun v9=>(((BitVec.toNat (UInt8.toBitVec v9)):Nat):Int)) [])) []))) ∧
 (decide ((x0_0.length:Int)≤x1)=false →
 Need (-9223372036854775808≤(x0_0.length:Int)+(x0_1.length:Int)∧(x0_0.length:Int)+(x0_1.length:Int)≤9223372036854775807) ∧
 (decide (x1=(x0_0.length:Int)+(x0_1.length:Int))=true →
 Q (.tv [] .str (List.map (fun v12=>(((BitVec.toNat (UInt8.toBitVec v12)):Nat):Int)) [(36:UInt8),(97:UInt8),(99:UInt8),(99:UInt8),(101:UInt8),(112:UInt8),(116:UInt8)])) []) ∧
 (decide (x1=(x0_0.length:Int)+(x0_1.length:Int))=false →
 Q (.tv [] .str (List.map (fun v14=>(((BitVec.toNat (UInt8.toBitVec v14)):Nat):Int)) [])) [])))) ∧
 (decide (0≤x1)=false →
 (decide ((x0_0.length:Int)≤x1)=true →
 Need (-9223372036854775808≤(x0_0.length:Int)+(x0_1.length:Int)∧(x0_0.length:Int)+(x0_1.length:Int)≤9223372036854775807) ∧
 (decide (x1<(x0_0.length:Int)+(x0_1.length:Int))=true →
 Need (-9223372036854775808≤(x1-(x0_0.length:Int))∧(x1-(x0_0.length:Int))≤9223372036854775807) ∧
 Need ((0:Int)≤(x1-(x0_0.length:Int))∧(x1-(x0_0.length:Int))<(x0_1.length:Int)) ∧
 Q (.tv [] .str (List.getD x0_1 (Int.toNat (x1-(x0_0.length:Int))) [])) []) ∧
 (decide (x1<(x0_0.length:Int)+(x0_1.length:Int))=false →
 Need (-9223372036854775808≤(x0_0.length:Int)+(x0_1.length:Int)∧(x0_0.length:Int)+(x0_1.length:Int)≤9223372036854775807) ∧
 (decide (x1=(x0_0.length:Int)+(x0_1.length:Int))=true →
 Q (.tv [] .str (List.map (fun v20=>(((BitVec.toNat (UInt8.toBitVec v20)):Nat):Int)) [(36:UInt8),(97:UInt8),(99:UInt8),(99:UInt8),(101:UInt8),(112:UInt8),(116:UInt8)])) []) ∧
 (decide (x1=(x0_0.length:Int)+(x0_1.length:Int))=false →
 Q (.tv [] .str (List.map (fun v22=>(((BitVec.toNat (UInt8.toBitVec v22)):Nat):Int)) [])) []))) ∧
 (decide ((x0_0.length:Int)≤x1)=false →
 Need (-9223372036854775808≤(x0_0.length:Int)+(x0_1.length:Int)∧(x0_0.length:Int)+(x0_1.length:Int)≤9223372036854775807) ∧
 (decide (x1=(x0_0.length:Int)+(x0_1.length:Int))=true →
 Q (.tv [] .str (List.map (fun v25=>(((BitVec.toNat (UInt8.toBitVec v25)):Nat):Int)) [(36:UInt8),(97:UInt8),(99:UInt8),(99:UInt8),(101:UInt8),(112:UInt8),(116:UInt8)])) []) ∧
 (decide (x1=(x0_0.length:Int)+(x0_1.length:Int))=false →
 Q (.tv [] .str (List.map (fun v27=>(((BitVec.toNat (UInt8.toBitVec v27)):Nat):Int)) [])) []))))):EvF PP orc 14 [.tv [] qt2 (x0_0,(x0_1,(x0_2,(x0_3,(x0_4,(x0_5,())))))),.tv [] (.int .i64) x1] [] Q:=aoZ (by kernel_rfl) h
theorem vQZ (x0_0:List qT0) (x0_1:List qT0) (x0_2:List ((Int×(List (Int)×(Int×Unit))))) (x0_3:List (Int)) (x0_4:List (Int)) (x0_5:List qT0) (x1:Int) (Q:AV→adZ→Prop) (h :((decide (x1<0)=true →
 Q (.tv [] .str (List.map (fun v1=>(((BitVec.toNat (UInt8.toBitVec v1)):Nat):Int)) [])) []) ∧
 (decide (x1<0)=false →
 (decide ((x0_2.length:Int)≤x1)=true →
 Q (.tv [] .str (List.map (fun v4=>(((BitVec.toNat (UInt8.toBitVec v4)):Nat):Int)) [])) []) ∧
 (decide ((x0_2.length:Int)≤x1)=false →
 Need (0≤x1∧x1<(x0_2.length:Int)) ∧
 ∃ y6:qT0,
 Need (E 14 [(.tv [] qt2 (x0_0,(x0_1,(x0_2,(x0_3,(x0_4,(x0_5,()))))))),(.tv [] (.int .i64) (List.getD x0_2 x1.toNat ((0:Int),([],((0:Int),())))).1)] [] (.tv [] .str y6) []) ∧
 Need ((y6.length+2)≤awZ) ∧
 ∃ y7:(qT0→Int→Prop),
 ∃ y8:(qT0→Int→Nat),
 y7 (y6++[(32:Int),(58:Int)]) (0:Int) ∧
 ∀ z9:qT0,
 ∀ z10:Int,
 y7 z9 z10 →
 Need (0≤x1∧x1<(x0_2.length:Int)) ∧
 (decide (z10<((List.length (List.getD x0_2 x1.toNat ((0:Int),([],((0:Int),())))).2.1):Int))=true →
 Need ((z9.length+1)≤awZ) ∧
 Need (0≤x1∧x1<(x0_2.length:Int)) ∧
 Need (0≤z10∧z10<((List.length (List.getD x0_2 x1.toNat ((0:Int),([],((0:Int),())))).2.1):Int)) ∧
 ∃ y13:qT0,
 Need (E 14 [(.tv [] qt2 (x0_0,(x0_1,(x0_2,(x0_3,(x0_4,(x0_5,()))))))),(.tv [] (.int .i64) (List.getD (List.getD x0_2 x1.toNat ((0:Int),([],((0:Int),())))).2.1 z10.toNat (0:Int)))] [] (.tv [] .str y13) []) ∧
 Need (((List.length (z9++[(32:Int)]))+y13.length)≤awZ) ∧
 Need (-9223372036854775808≤z10+1∧z10+1≤9223372036854775807) ∧
 y7 ((z9++[(32:Int)])++y13) (z10+1) ∧
  Need (y8 ((z9++[(32:Int)])++y13) (z10+1)<y8 z9 z10)) ∧
 (decide (z10<((List.length (List.getD x0_2 x1.toNat ((0:Int),([],((0:Int),())))).2.1):Int))=false →
 Q (.tv [] .str z9) []))))):EvF PP orc 17 [.tv [] qt2 (x0_0,(x0_1,(x0_2,(x0_3,(x0_4,(x0_5,())))))),.tv [] (.int .i64) x1] [] Q:=aoZ (by kernel_rfl) h
end Go.Am.N
namespace Go.Am.N
open Go
set_option maxRecDepth 100000
set_option maxHeartbeats 4000000
end Go.Am.N
namespace Go.Am.N
open Go
set_option maxRecDepth 100000
set_option maxHeartbeats 4000000
theorem vc8 (x0_0:List ((List Int×((List Int×(List Int×(Bool×Unit)))×Unit)))) (x0_1:List ((List Int×(List Int×(Bool×Unit))))) (x0_2:List ((Int×(List qT0×Unit)))) (x0_3:List Int) (x0_4:List ((List Int×(List qT0×(List Int×(List Int×Unit)))))) (Q:AV→adZ→Prop) (h :(∃ y0:Bool,
 Need (E 28 [(.tv [] qt0 (x0_0,(x0_1,(x0_2,(x0_3,(x0_4,()))))))] [] (.tv [] .bool y0) []) ∧
 ((!y0)=true →
 Q (.tup [(.tv [] qt2 ([],([],([],([],([],([],()))))))),(.tv [] (.int .i64) (1:Int)),(.tv [] .str (List.map (fun v2=>(((BitVec.toNat (UInt8.toBitVec v2)):Nat):Int)) []))]) []) ∧
 ((!y0)=false →
 ∃ y4:(Int→qT8→qT8→qT7→qT0→qT0→qT8→Prop),
 ∃ y5:(Int→qT8→qT8→qT7→qT0→qT0→qT8→Nat),
 y4 (0:Int) [(List.map (fun v6=>(((BitVec.toNat (UInt8.toBitVec v6)):Nat):Int)) [(36:UInt8),(101:UInt8),(110:UInt8),(100:UInt8)])] [] [] [(0:Int)] [(0:Int)] [(List.map (fun v7=>(((BitVec.toNat (UInt8.toBitVec v7)):Nat):Int)) [])] ∧
 ∀ z8:Int,
 ∀ z9 z10:qT8,
 ∀ z11:qT7,
 ∀ z12 z13:qT0,
 ∀ z14:qT8,
 y4 z8 z9 z10 z11 z12 z13 z14 →
 (decide (z8<(x0_4.length:Int))=true →
 Need (0≤z8∧z8<(x0_4.length:Int)) ∧
 ∃ y17:Int,
 Need (E 29 [(.tv [] bPZ z10),(.tv [] .str (List.getD x0_4 z8.toNat ([],([],([],([],()))))).1)] [] (.tv [] (.int .i64) y17) []) ∧
 (decide (y17<0)=true →
 Need (0≤z8∧z8<(x0_4.length:Int)) ∧
 Need ((z10.length+(List.length [(List.getD x0_4 z8.toNat ([],([],([],([],()))))).1]))≤awZ) ∧
 Need (0≤z8∧z8<(x0_4.length:Int)) ∧
 Need ((z14.length+(List.length [(List.getD x0_4 z8.toNat ([],([],([],([],()))))).2.2.2.1]))≤awZ) ∧
 Need (-9223372036854775808≤z8+1∧z8+1≤9223372036854775807) ∧
 Need ((([],([],([],([],([],([],())))))):den qt2)=([],([],([],([],([],([],()))))))) ∧
 y4 (z8+1) z9 (z10++[(List.getD x0_4 z8.toNat ([],([],([],([],()))))).1]) z11 z12 z13 (z14++[(List.getD x0_4 z8.toNat ([],([],([],([],()))))).2.2.2.1]) ∧
   Need (y5 (z8+1) z9 (z10++[(List.getD x0_4 z8.toNat ([],([],([],([],()))))).1]) z11 z12 z13 (z14++[(List.getD x0_4 z8.toNat ([],([],([],([],()))))).2.2.2.1])<y5 z8 z9 z10 z11 z12 z13 z14)) ∧
 (decide (y17<0)=false →
 Need (0≤z8∧z8<(x0_4.length:Int)) ∧
 Need ((z14.length+(List.length [(List.getD x0_4 z8.toNat ([],([],([],([],()))))).2.2.2.1]))≤awZ) ∧
 Need (-9223372036854775808≤z8+1∧z8+1≤9223372036854775807) ∧
 Need ((([],([],([],([],([],([],())))))):den qt2)=([],([],([],([],([],([],()))))))) ∧
 y4 (z8+1) z9 z10 z11 z12 z13 (z14++[(List.getD x0_4 z8.toNat ([],([],([],([],()))))).2.2.2.1]) ∧
  Need (y5 (z8+1) z9 z10 z11 z12 z13 (z14++[(List.getD x0_4 z8.toNat ([],([],([],([],()))))).2.2.2.1])<y5 z8 z9 z10 z11 z12 z13 z14))) ∧
 (decide (z8<(x0_4.length:Int))=false →
 ∃ y21:(Int→qT8→qT8→qT7→qT0→qT0→qT8→Prop),
 ∃ y22:(Int→qT8→qT8→qT7→qT0→qT0→qT8→Nat),
 y21 (0:Int) z9 z10 z11 z12 z13 z14 ∧
 ∀ z23:Int,
 ∀ z24 z25:qT8,
 ∀ z26:qT7,
 ∀ z27 z28:qT0,
 ∀ z29:qT8,
 y21 z23 z24 z25 z26 z27 z28 z29 →
 (decide (z23<(x0_0.length:Int))=true →
 Need (0≤z23∧z23<(x0_0.length:Int)) ∧
 ∃ y32:Int,
 Need (E 29 [(.tv [] bPZ z25),(.tv [] .str (List.getD x0_0 z23.toNat (([]:List Int),(([],([],(false,()))),()))).1)] [] (.tv [] (.int .i64) y32) []) ∧
 (decide (0≤y32)=true →
 Need (0≤z23∧z23<(x0_0.length:Int)) ∧
 Q (.tup [(.tv [] qt2 ([],([],([],([],([],([],()))))))),(.tv [] (.int .i64) (15:Int)),(.tv [] .str (List.getD x0_0 z23.toNat (([]:List Int),(([],([],(false,()))),()))).1)]) []) ∧
 (decide (0≤y32)=false →
 Need (0≤z23∧z23<(x0_0.length:Int)) ∧
 Need ((z24.length+(List.length [(List.getD x0_0 z23.toNat (([]:List Int),(([],([],(false,()))),()))).1]))≤awZ) ∧
 Need (0≤z23∧z23<(x0_0.length:Int)) ∧
 ∃ y35:Int,
 Need (E 30 [(.tv [] qt0 (x0_0,(x0_1,(x0_2,(x0_3,(x0_4,())))))),(.tv [] .str (List.getD x0_0 z23.toNat (([]:List Int),(([],([],(false,()))),()))).1)] [] (.tv [] (.int .i64) y35) []) ∧
 Need ((z27.length+(List.length [y35]))≤awZ) ∧
 Need (-9223372036854775808≤z23+1∧z23+1≤9223372036854775807) ∧
 Need ((([],([],([],([],([],([],())))))):den qt2)=([],([],([],([],([],([],()))))))) ∧
 y21 (z23+1) (z24++[(List.getD x0_0 z23.toNat (([]:List Int),(([],([],(false,()))),()))).1]) z25 z26 (z27++[y35]) z28 z29 ∧
  Need (y22 (z23+1) (z24++[(List.getD x0_0 z23.toNat (([]:List Int),(([],([],(false,()))),()))).1]) z25 z26 (z27++[y35]) z28 z29<y22 z23 z24 z25 z26 z27 z28 z29))) ∧
 (decide (z23<(x0_0.length:Int))=false →
 ∃ y37:(Int→qT8→qT8→qT7→qT0→qT0→qT8→Prop),
 ∃ y38:(Int→qT8→qT8→qT7→qT0→qT0→qT8→Nat),
 y37 (0:Int) z24 z25 z26 z27 z28 z29 ∧
 ∀ z39:Int,
 ∀ z40 z41:qT8,
 ∀ z42:qT7,
 ∀ z43 z44:qT0,
 ∀ z45:qT8,
 y37 z39 z40 z41 z42 z43 z44 z45 →
 (decide (z39<(x0_2.length:Int))=true →
 Need (0≤z39∧z39<(x0_2.length:Int)) ∧
 Need ((z44.length+(List.length [(List.getD x0_2 z39.toNat ((0:Int),([],()))).1]))≤awZ) ∧
 Need (-9223372036854775808≤z39+1∧z39+1≤9223372036854775807) ∧
 Need ((([],([],([],([],([],([],())))))):den qt2)=([],([],([],([],([],([],()))))))) ∧
 y37 (z39+1) z40 z41 z42 z43 (z44++[(List.getD x0_2 z39.toNat ((0:Int),([],()))).1]) z45 ∧
  Need (y38 (z39+1) z40 z41 z42 z43 (z44++[(List.getD x0_2 z39.toNat ((0:Int),([],()))).1]) z45<y38 z39 z40 z41 z42 z43 z44 z45)) ∧
 (decide (z39<(x0_2.length:Int))=false →
 Need (-9223372036854775808≤(z40.length:Int)+(z41.length:Int)∧(z40.length:Int)+(z41.length:Int)≤9223372036854775807) ∧
 ∃ y49:Int,
 Need (E 20 [(.tv [] qt2 (z40,(z41,(z42,(z43,(z44,(z45,()))))))),(.tv [] .str x0_3)] [] (.tv [] (.int .i64) y49) []) ∧
 ∃ y50:(Int→qT8→qT8→qT7→qT0→qT0→qT8→Prop),
 ∃ y51:(Int→qT8→qT8→qT7→qT0→qT0→qT8→Nat),
 y50 (0:Int) z40 z41 [(((z40.length:Int)+(z41.length:Int)),([y49],((0:Int),())))] z43 z44 z45 ∧
 ∀ z52:Int,
 ∀ z53 z54:qT8,
 ∀ z55:qT7,
 ∀ z56 z57:qT0,
 ∀ z58:qT8,
 y50 z52 z53 z54 z55 z56 z57 z58 →
 (decide (z52<(x0_4.length:Int))=true →
 Need (0≤z52∧z52<(x0_4.length:Int)) ∧
 ∃ y61:Int,
 Need (E 20 [(.tv [] qt2 (z53,(z54,(z55,(z56,(z57,(z58,()))))))),(.tv [] .str (List.getD x0_4 z52.toNat ([],([],([],([],()))))).1)] [] (.tv [] (.int .i64) y61) []) ∧
 ∃ y62:(Int→Int→qT0→Int→qT0→qT8→qT0→qT0→qT8→qT8→qT7→qT0→qT0→qT8→Prop),
 ∃ y63:(Int→Int→qT0→Int→qT0→qT8→qT0→qT0→qT8→qT8→qT7→qT0→qT0→qT8→Nat),
 (y62 (0:Int) y61 [] (0:Int) (List.getD x0_4 z52.toNat ([],([],([],([],()))))).1 (List.getD x0_4 z52.toNat ([],([],([],([],()))))).2.1 (List.getD x0_4 z52.toNat ([],([],([],([],()))))).2.2.1 (List.getD x0_4 z52.toNat ([],([],([],([],()))))).2.2.2.1 z53 z54 z55 z56 z57 z58) ∧
 ∀ z64 z65:Int,
 ∀ z66:qT0,
 ∀ z67:Int,
 ∀ z68:qT0,
 ∀ z69:qT8,
 ∀ z70 z71:qT0,
 ∀ z72 z73:qT8,
 ∀ z74:qT7,
 ∀ z75 z76:qT0,
 ∀ z77:qT8,
 y62 z64 z65 z66 z67 z68 z69 z70 z71 z72 z73 z74 z75 z76 z77 →
 (decide (z64<(z69.length:Int))=true →
 Need (0≤z64∧z64<(z69.length:Int)) ∧
 ∃ y80:Int,
 Need (E 20 [(.tv [] qt2 (z72,(z73,(z74,(z75,(z76,(z77,()))))))),(.tv [] .str (List.getD z69 z64.toNat []))] [] (.tv [] (.int .i64) y80) []) ∧
 (decide (y80<0)=true →
 Need (0≤z64∧z64<(z69.length:Int)) ∧
 Q (.tup [(.tv [] qt2 ([],([],([],([],([],([],()))))))),(.tv [] (.int .i64) (16:Int)),(.tv [] .str (List.getD z69 z64.toNat []))]) []) ∧
 (decide (y80<0)=false →
 Need ((z66.length+(List.length [y80]))≤awZ) ∧
 (decide (y80<(z72.length:Int))=true →
 Need (0≤y80∧y80<(z75.length:Int)) ∧
 Need (-9223372036854775808≤z64+1∧z64+1≤9223372036854775807) ∧
 Need ((([],([],([],([],([],([],())))))):den qt2)=([],([],([],([],([],([],()))))))) ∧
 y62 (z64 + 1) z65 (z66 ++ [y80]) (List.getD z75 y80.toNat (0 : Int)) z68 z69 z70 z71 z72 z73 z74 z75 z76 z77 ∧
    Need (y63 (z64+1) z65 (z66++[y80]) (List.getD z75 y80.toNat (0:Int)) z68 z69 z70 z71 z72 z73 z74 z75 z76 z77<y63 z64 z65 z66 z67 z68 z69 z70 z71 z72 z73 z74 z75 z76 z77)) ∧
 (decide (y80<(z72.length:Int))=false →
 Need (-9223372036854775808≤z64+1∧z64+1≤9223372036854775807) ∧
 Need ((([],([],([],([],([],([],())))))):den qt2)=([],([],([],([],([],([],()))))))) ∧
 y62 (z64+1) z65 (z66++[y80]) z67 z68 z69 z70 z71 z72 z73 z74 z75 z76 z77 ∧
   Need (y63 (z64+1) z65 (z66++[y80]) z67 z68 z69 z70 z71 z72 z73 z74 z75 z76 z77<y63 z64 z65 z66 z67 z68 z69 z70 z71 z72 z73 z74 z75 z76 z77)))) ∧
 (decide (z64<(z69.length:Int))=false →
 ((!(decide (z70=[])))=true →
 ∃ y87:Int,
 Need (E 30 [(.tv [] qt0 (x0_0,(x0_1,(x0_2,(x0_3,(x0_4,())))))),(.tv [] .str z70)] [] (.tv [] (.int .i64) y87) []) ∧
 (decide (y87=(0:Int))=true →
 Q (.tup [(.tv [] qt2 ([],([],([],([],([],([],()))))))),(.tv [] (.int .i64) (16:Int)),(.tv [] .str z70)]) []) ∧
 (decide (y87=(0:Int))=false →
 Need ((z74.length+(List.length [(z65,(z66,(y87,())))]))≤awZ) ∧
 Need (-9223372036854775808≤z52+1∧z52+1≤9223372036854775807) ∧
 Need ((([],([],([],([],([],([],())))))):den qt2)=([],([],([],([],([],([],()))))))) ∧
 y50 (z52+1) z72 z73 (z74++[(z65,(z66,(y87,())))]) z75 z76 z77 ∧
   Need (y51 (z52+1) z72 z73 (z74++[(z65,(z66,(y87,())))]) z75 z76 z77<y51 z52 z53 z54 z55 z56 z57 z58))) ∧
 ((!(decide (z70=[])))=false →
 Need ((z74.length+(List.length [(z65,(z66,(z67,())))]))≤awZ) ∧
 Need (-9223372036854775808≤z52+1∧z52+1≤9223372036854775807) ∧
 Need ((([],([],([],([],([],([],())))))):den qt2)=([],([],([],([],([],([],()))))))) ∧
 y50 (z52+1) z72 z73 (z74++[(z65,(z66,(z67,())))]) z75 z76 z77 ∧
  Need (y51 (z52+1) z72 z73 (z74++[(z65,(z66,(z67,())))]) z75 z76 z77<y51 z52 z53 z54 z55 z56 z57 z58)))) ∧
 (decide (z52<(x0_4.length:Int))=false →
 ∃ y92:Int,
 Need (E 29 [(.tv [] bPZ z54),(.tv [] .str x0_3)] [] (.tv [] (.int .i64) y92) []) ∧
 (decide (y92<0)=true →
 Q (.tup [(.tv [] qt2 ([],([],([],([],([],([],()))))))),(.tv [] (.int .i64) (16:Int)),(.tv [] .str x0_3)]) []) ∧
 (decide (y92<0)=false →
 Q (.tup [(.tv [] qt2 (z53,(z54,(z55,(z56,(z57,(z58,()))))))),(.tv [] (.int .i64) (0:Int)),(.tv [] .str (List.map (fun v95=>(((BitVec.toNat (UInt8.toBitVec v95)):Nat):Int)) []))]) [])))))))):EvF PP orc 8 [.tv [] qt0 (x0_0,(x0_1,(x0_2,(x0_3,(x0_4,())))))] [] Q:=aoZ (by kernel_rfl) h
end Go.Am.N
