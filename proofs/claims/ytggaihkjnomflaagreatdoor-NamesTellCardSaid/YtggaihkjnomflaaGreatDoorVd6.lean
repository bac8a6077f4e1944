/-
  A part of the proof of a law: see the text that states it.
-/
import Derived.Test.YtggaihkjnomflaaGreatDoorHead
set_option linter.all false
namespace Go.Am.N
open Go
set_option maxRecDepth 100000
set_option maxHeartbeats 4000000
theorem uZZ (x0_0:Int) (x0_1:Int) (x0_2:List (Int)) (x0_3:List (List (Int))) (x0_4:List (Int)) (x0_5:List (Int)) (x0_6:List (Int)) (x1:Int) (x2:Int) (Q:AV→adZ→Prop) (h :((decide (x1<(x0_2.length:Int))=true →
 Q (.tv [] .bool false) []) ∧
 (decide (x1<(x0_2.length:Int))=false →
 (decide ((5:Int)<(x0_5.length:Int))=true →
 Q (.tv [] .bool false) []) ∧
 (decide ((5:Int)<(x0_5.length:Int))=false →
 ∃ y4:(Int→Prop),
 ∃ y5:(Int→Nat),
 y4 (0:Int) ∧
 ∀ z6:Int,
 y4 z6 →
 (decide (z6<(x0_3.length:Int))=true →
 Need (0≤z6∧z6<(x0_3.length:Int)) ∧
 (decide (x2<((List.length (List.getD x0_3 z6.toNat [])):Int))=true →
 Q (.tv [] .bool false) []) ∧
 (decide (x2<((List.length (List.getD x0_3 z6.toNat [])):Int))=false →
 Need (-9223372036854775808≤z6+1∧z6+1≤9223372036854775807) ∧
 y4 (z6+1) ∧
  Need (y5 (z6+1)<y5 z6))) ∧
 (decide (z6<(x0_3.length:Int))=false →
 Q (.tv [] .bool true) []))))):EvF PP orc 10 [.tv [] qt8 (x0_0,(x0_1,(x0_2,(x0_3,(x0_4,(x0_5,(x0_6,()))))))),.tv [] (.int .i64) x1,.tv [] (.int .i64) x2] [] Q:=aoZ (by kernel_rfl) h
end Go.Am.N
namespace Go.Am.N
open Go
set_option maxRecDepth 100000
set_option maxHeartbeats 4000000
theorem v9Z (x0_0:Int) (x0_1:Int) (x0_2:List (Int)) (x0_3:List (List (Int))) (x0_4:List (Int)) (x0_5:List (Int)) (x0_6:List (Int)) (Q:AV→adZ→Prop) (h :(∃ y0:qT6,
 ∃ y1:qT9,
 ∃ y2:qT4,
 ∃ y3:qT0,
 ∃ y4:qT3,
 Need (E 33 [(.tv [] qt8 (x0_0,(x0_1,(x0_2,(x0_3,(x0_4,(x0_5,(x0_6,()))))))))] [] (.tv [] qt0 (y0,(y1,(y2,(y3,(y4,())))))) []) ∧
 ∃ y5 y6:qT8,
 ∃ y7:qT7,
 ∃ y8 y9:qT0,
 ∃ y10:qT8,
 ∃ y11:Int,
 ∃ y12:qT0,
 Need (E 8 [(.tv [] qt0 (y0,(y1,(y2,(y3,(y4,()))))))] [] (.tup [(.tv [] qt2 (y5,(y6,(y7,(y8,(y9,(y10,()))))))),(.tv [] (.int .i64) y11),(.tv [] .str y12)]) []) ∧
 Q (.tv [] qt2 (y5,(y6,(y7,(y8,(y9,(y10,()))))))) [])):EvF PP orc 11 [.tv [] qt8 (x0_0,(x0_1,(x0_2,(x0_3,(x0_4,(x0_5,(x0_6,())))))))] [] Q:=aoZ (by kernel_rfl) h
end Go.Am.N
namespace Go.Am.N
open Go
set_option maxRecDepth 100000
set_option maxHeartbeats 4000000
theorem vc4 (x0_0:Int) (x0_1:Int) (x0_2:List (Int)) (x0_3:List (List (Int))) (x0_4:List (Int)) (x0_5:List (Int)) (x0_6:List (Int)) (x1:List Int) (x2:Int) (x3:List Int) (Q:AV→adZ→Prop) (h :(∃ y0:Bool,
 Need (E 5 [] [] (.tv [] .bool y0) []) ∧
 ∃ y1:Bool,
 Need (E 10 [(.tv [] qt8 (x0_0,(x0_1,(x0_2,(x0_3,(x0_4,(x0_5,(x0_6,())))))))),(.tv [] (.int .i64) (20:Int)),(.tv [] (.int .i64) (8:Int))] [] (.tv [] .bool y1) []) ∧
 ((!y1)=true →
 Q (.tv [] .bool y0) []) ∧
 ((!y1)=false →
 (decide ((600:Int)<(x1.length:Int))=true →
 Q (.tv [] .bool y0) []) ∧
 (decide ((600:Int)<(x1.length:Int))=false →
 (decide ((100:Int)<(x3.length:Int))=true →
 Q (.tv [] .bool y0) []) ∧
 (decide ((100:Int)<(x3.length:Int))=false →
 ∃ y8 y9:qT8,
 ∃ y10:qT7,
 ∃ y11 y12:qT0,
 ∃ y13:qT8,
 Need (E 11 [(.tv [] qt8 (x0_0,(x0_1,(x0_2,(x0_3,(x0_4,(x0_5,(x0_6,()))))))))] [] (.tv [] qt2 (y8,(y9,(y10,(y11,(y12,(y13,()))))))) []) ∧
 ∃ y14:qT6,
 ∃ y15:qT9,
 ∃ y16:qT4,
 ∃ y17:qT0,
 ∃ y18:qT3,
 ∃ y19 y20 y21:Int,
 Need (E 12 [(.tv [] .str x1)] [] (.tup [(.tv [] qt0 (y14,(y15,(y16,(y17,(y18,())))))),(.tv [] qt3 (y19,((y20,(y21,())),())))]) []) ∧
 (decide (y19=(0:Int))=true →
 ∃ y23 y24:qT8,
 ∃ y25:qT7,
 ∃ y26 y27:qT0,
 ∃ y28:qT8,
 ∃ y29:Int,
 ∃ y30:qT0,
 Need (E 8 [(.tv [] qt0 (y14,(y15,(y16,(y17,(y18,()))))))] [] (.tup [(.tv [] qt2 (y23,(y24,(y25,(y26,(y27,(y28,()))))))),(.tv [] (.int .i64) y29),(.tv [] .str y30)]) []) ∧
 (decide (y29=(0:Int))=true →
 Need (-9223372036854775808≤(y23.length:Int)+(y24.length:Int)∧(y23.length:Int)+(y24.length:Int)≤9223372036854775807) ∧
 ∃ y32:(Int→Prop),
 ∃ y33:(Int→Nat),
 y32 (-(1:Int)) ∧
 ∀ z34:Int,
 y32 z34 →
 Need (-9223372036854775808≤((y23.length:Int)+(y24.length:Int))+(1:Int)∧((y23.length:Int)+(y24.length:Int))+(1:Int)≤9223372036854775807) ∧
 (decide (z34≤((y23.length:Int)+(y24.length:Int))+(1:Int))=true →
 ∃ y37:qT0,
 Need (E 13 [(.tv [] qt2 (y23,(y24,(y25,(y26,(y27,(y28,()))))))),(.tv [] (.int .i64) z34)] [] (.tv [] .str y37) []) ∧
 ∃ y38:qT0,
 Need (E 14 [(.tv [] qt2 (y23,(y24,(y25,(y26,(y27,(y28,()))))))),(.tv [] (.int .i64) z34)] [] (.tv [] .str y38) []) ∧
 ((!(decide (y37=y38)))=true →
 Q (.tv [] .bool false) []) ∧
 ((!(decide (y37=y38)))=false →
 ∃ y41:Bool,
 Need (E 15 [(.tv [] qt2 (y23,(y24,(y25,(y26,(y27,(y28,()))))))),(.tv [] (.int .i64) z34)] [] (.tv [] .bool y41) []) ∧
 (decide (0≤z34)=true →
 ((!(BEq.beq y41 (decide (z34<(y23.length:Int)))))=true →
 Q (.tv [] .bool false) []) ∧
 ((!(BEq.beq y41 (decide (z34<(y23.length:Int)))))=false →
 Need (-9223372036854775808≤z34+1∧z34+1≤9223372036854775807) ∧
 Need ((y23,(y24,(y25,(y26,(y27,(y28,()))))))=(y23,(y24,(y25,(y26,(y27,(y28,()))))))∧(y19,((y20,(y21,())),()))=(y19,((y20,(y21,())),()))∧(y14,(y15,(y16,(y17,(y18,())))))=(y14,(y15,(y16,(y17,(y18,())))))∧(y23,(y24,(y25,(y26,(y27,(y28,()))))))=(y23,(y24,(y25,(y26,(y27,(y28,()))))))) ∧
 y32 (z34 + 1) ∧
     Need (y33 (z34+1)<y33 z34))) ∧
 (decide (0≤z34)=false →
 ((!(BEq.beq y41 false))=true →
 Q (.tv [] .bool false) []) ∧
 ((!(BEq.beq y41 false))=false →
 Need (-9223372036854775808≤z34+1∧z34+1≤9223372036854775807) ∧
 Need ((y23,(y24,(y25,(y26,(y27,(y28,()))))))=(y23,(y24,(y25,(y26,(y27,(y28,()))))))∧(y19,((y20,(y21,())),()))=(y19,((y20,(y21,())),()))∧(y14,(y15,(y16,(y17,(y18,())))))=(y14,(y15,(y16,(y17,(y18,())))))∧(y23,(y24,(y25,(y26,(y27,(y28,()))))))=(y23,(y24,(y25,(y26,(y27,(y28,()))))))) ∧
 y32 (z34 + 1) ∧
    Need (y33 (z34+1)<y33 z34))))) ∧
 (decide (z34≤((y23.length:Int)+(y24.length:Int))+(1:Int))=false →
 ∃ y49:(Int→Prop),
 ∃ y50:(Int→Nat),
 y49 (-(1:Int)) ∧
 ∀ z51:Int,
 y49 z51 →
 (decide (z51≤(y25.length:Int))=true →
 ∃ y54:qT0,
 Need (E 16 [(.tv [] qt2 (y23,(y24,(y25,(y26,(y27,(y28,()))))))),(.tv [] (.int .i64) z51)] [] (.tv [] .str y54) []) ∧
 ∃ y55:qT0,
 Need (E 17 [(.tv [] qt2 (y23,(y24,(y25,(y26,(y27,(y28,()))))))),(.tv [] (.int .i64) z51)] [] (.tv [] .str y55) []) ∧
 ((!(decide (y54=y55)))=true →
 Q (.tv [] .bool false) []) ∧
 ((!(decide (y54=y55)))=false →
 Need (-9223372036854775808≤z51+1∧z51+1≤9223372036854775807) ∧
 Need ((y23,(y24,(y25,(y26,(y27,(y28,()))))))=(y23,(y24,(y25,(y26,(y27,(y28,()))))))∧(y19,((y20,(y21,())),()))=(y19,((y20,(y21,())),()))∧(y14,(y15,(y16,(y17,(y18,())))))=(y14,(y15,(y16,(y17,(y18,())))))∧(y23,(y24,(y25,(y26,(y27,(y28,()))))))=(y23,(y24,(y25,(y26,(y27,(y28,()))))))) ∧
 y49 (z51 + 1) ∧
    Need (y50 (z51+1)<y50 z51))) ∧
 (decide (z51≤(y25.length:Int))=false →
 (y0=true →
 ∃ y60:Int,
 Need (E 18 [(.tv [] qt2 (y23,(y24,(y25,(y26,(y27,(y28,())))))))] [] (.tv [] (.int .i64) y60) []) ∧
 (decide (y60=(y23.length:Int)+(y24.length:Int))=true →
 ∃ y62:qT0,
 Need (E 13 [(.tv [] qt2 (y23,(y24,(y25,(y26,(y27,(y28,()))))))),(.tv [] (.int .i64) x2)] [] (.tv [] .str y62) []) ∧
 ∃ y63:qT0,
 Need (E 14 [(.tv [] qt2 (y23,(y24,(y25,(y26,(y27,(y28,()))))))),(.tv [] (.int .i64) x2)] [] (.tv [] .str y63) []) ∧
 (decide (y62=y63)=true →
 ∃ y65:Int,
 Need (E 19 [(.tv [] qt2 (y23,(y24,(y25,(y26,(y27,(y28,()))))))),(.tv [] .str x3)] [] (.tv [] (.int .i64) y65) []) ∧
 ∃ y66:Int,
 Need (E 20 [(.tv [] qt2 (y23,(y24,(y25,(y26,(y27,(y28,()))))))),(.tv [] .str x3)] [] (.tv [] (.int .i64) y66) []) ∧
 (decide (y65=y66)=true →
 ∃ y68:qT0,
 Need (E 16 [(.tv [] qt2 (y23,(y24,(y25,(y26,(y27,(y28,()))))))),(.tv [] (.int .i64) x2)] [] (.tv [] .str y68) []) ∧
 ∃ y69:qT0,
 Need (E 17 [(.tv [] qt2 (y23,(y24,(y25,(y26,(y27,(y28,()))))))),(.tv [] (.int .i64) x2)] [] (.tv [] .str y69) []) ∧
 Q (.tv [] .bool (decide (y68=y69))) []) ∧
 (decide (y65=y66)=false →
 Q (.tv [] .bool false) [])) ∧
 (decide (y62=y63)=false →
 Q (.tv [] .bool false) [])) ∧
 (decide (y60=(y23.length:Int)+(y24.length:Int))=false →
 Q (.tv [] .bool false) [])) ∧
 (y0=false →
 Q (.tv [] .bool false) [])))) ∧
 (decide (y29=(0:Int))=false →
 Need (-9223372036854775808≤(y8.length:Int)+(y9.length:Int)∧(y8.length:Int)+(y9.length:Int)≤9223372036854775807) ∧
 ∃ y75:(Int→Prop),
 ∃ y76:(Int→Nat),
 y75 (-(1:Int)) ∧
 ∀ z77:Int,
 y75 z77 →
 Need (-9223372036854775808≤((y8.length:Int)+(y9.length:Int))+(1:Int)∧((y8.length:Int)+(y9.length:Int))+(1:Int)≤9223372036854775807) ∧
 (decide (z77≤((y8.length:Int)+(y9.length:Int))+(1:Int))=true →
 ∃ y80:qT0,
 Need (E 13 [(.tv [] qt2 (y8,(y9,(y10,(y11,(y12,(y13,()))))))),(.tv [] (.int .i64) z77)] [] (.tv [] .str y80) []) ∧
 ∃ y81:qT0,
 Need (E 14 [(.tv [] qt2 (y8,(y9,(y10,(y11,(y12,(y13,()))))))),(.tv [] (.int .i64) z77)] [] (.tv [] .str y81) []) ∧
 ((!(decide (y80=y81)))=true →
 Q (.tv [] .bool false) []) ∧
 ((!(decide (y80=y81)))=false →
 ∃ y84:Bool,
 Need (E 15 [(.tv [] qt2 (y8,(y9,(y10,(y11,(y12,(y13,()))))))),(.tv [] (.int .i64) z77)] [] (.tv [] .bool y84) []) ∧
 (decide (0≤z77)=true →
 ((!(BEq.beq y84 (decide (z77<(y8.length:Int)))))=true →
 Q (.tv [] .bool false) []) ∧
 ((!(BEq.beq y84 (decide (z77<(y8.length:Int)))))=false →
 Need (-9223372036854775808≤z77+1∧z77+1≤9223372036854775807) ∧
 Need ((y23,(y24,(y25,(y26,(y27,(y28,()))))))=(y23,(y24,(y25,(y26,(y27,(y28,()))))))∧(y19,((y20,(y21,())),()))=(y19,((y20,(y21,())),()))∧(y14,(y15,(y16,(y17,(y18,())))))=(y14,(y15,(y16,(y17,(y18,())))))∧(y8,(y9,(y10,(y11,(y12,(y13,()))))))=(y8,(y9,(y10,(y11,(y12,(y13,()))))))) ∧
 y75 (z77 + 1) ∧
    Need (y76 (z77+1)<y76 z77))) ∧
 (decide (0≤z77)=false →
 ((!(BEq.beq y84 false))=true →
 Q (.tv [] .bool false) []) ∧
 ((!(BEq.beq y84 false))=false →
 Need (-9223372036854775808≤z77+1∧z77+1≤9223372036854775807) ∧
 Need ((y23,(y24,(y25,(y26,(y27,(y28,()))))))=(y23,(y24,(y25,(y26,(y27,(y28,()))))))∧(y19,((y20,(y21,())),()))=(y19,((y20,(y21,())),()))∧(y14,(y15,(y16,(y17,(y18,())))))=(y14,(y15,(y16,(y17,(y18,())))))∧(y8,(y9,(y10,(y11,(y12,(y13,()))))))=(y8,(y9,(y10,(y11,(y12,(y13,()))))))) ∧
 y75 (z77+1) ∧
   Need (y76 (z77+1)<y76 z77))))) ∧
 (decide (z77≤((y8.length:Int)+(y9.length:Int))+(1:Int))=false →
 ∃ y92:(Int→Prop),
 ∃ y93:(Int→Nat),
 y92 (-(1:Int)) ∧
 ∀ z94:Int,
 y92 z94 →
 (decide (z94≤(y10.length:Int))=true →
 ∃ y97:qT0,
 Need (E 16 [(.tv [] qt2 (y8,(y9,(y10,(y11,(y12,(y13,()))))))),(.tv [] (.int .i64) z94)] [] (.tv [] .str y97) []) ∧
 ∃ y98:qT0,
 Need (E 17 [(.tv [] qt2 (y8,(y9,(y10,(y11,(y12,(y13,()))))))),(.tv [] (.int .i64) z94)] [] (.tv [] .str y98) []) ∧
 ((!(decide (y97=y98)))=true →
 Q (.tv [] .bool false) []) ∧
 ((!(decide (y97=y98)))=false →
 Need (-9223372036854775808≤z94+1∧z94+1≤9223372036854775807) ∧
 Need ((y23,(y24,(y25,(y26,(y27,(y28,()))))))=(y23,(y24,(y25,(y26,(y27,(y28,()))))))∧(y19,((y20,(y21,())),()))=(y19,((y20,(y21,())),()))∧(y14,(y15,(y16,(y17,(y18,())))))=(y14,(y15,(y16,(y17,(y18,())))))∧(y8,(y9,(y10,(y11,(y12,(y13,()))))))=(y8,(y9,(y10,(y11,(y12,(y13,()))))))) ∧
 y92 (z94+1) ∧
   Need (y93 (z94+1)<y93 z94))) ∧
 (decide (z94≤(y10.length:Int))=false →
 (y0=true →
 ∃ y103:Int,
 Need (E 18 [(.tv [] qt2 (y8,(y9,(y10,(y11,(y12,(y13,())))))))] [] (.tv [] (.int .i64) y103) []) ∧
 (decide (y103=(y8.length:Int)+(y9.length:Int))=true →
 ∃ y105:qT0,
 Need (E 13 [(.tv [] qt2 (y8,(y9,(y10,(y11,(y12,(y13,()))))))),(.tv [] (.int .i64) x2)] [] (.tv [] .str y105) []) ∧
 ∃ y106:qT0,
 Need (E 14 [(.tv [] qt2 (y8,(y9,(y10,(y11,(y12,(y13,()))))))),(.tv [] (.int .i64) x2)] [] (.tv [] .str y106) []) ∧
 (decide (y105=y106)=true →
 ∃ y108:Int,
 Need (E 19 [(.tv [] qt2 (y8,(y9,(y10,(y11,(y12,(y13,()))))))),(.tv [] .str x3)] [] (.tv [] (.int .i64) y108) []) ∧
 ∃ y109:Int,
 Need (E 20 [(.tv [] qt2 (y8,(y9,(y10,(y11,(y12,(y13,()))))))),(.tv [] .str x3)] [] (.tv [] (.int .i64) y109) []) ∧
 (decide (y108=y109)=true →
 ∃ y111:qT0,
 Need (E 16 [(.tv [] qt2 (y8,(y9,(y10,(y11,(y12,(y13,()))))))),(.tv [] (.int .i64) x2)] [] (.tv [] .str y111) []) ∧
 ∃ y112:qT0,
 Need (E 17 [(.tv [] qt2 (y8,(y9,(y10,(y11,(y12,(y13,()))))))),(.tv [] (.int .i64) x2)] [] (.tv [] .str y112) []) ∧
 Q (.tv [] .bool (decide (y111=y112))) []) ∧
 (decide (y108=y109)=false →
 Q (.tv [] .bool false) [])) ∧
 (decide (y105=y106)=false →
 Q (.tv [] .bool false) [])) ∧
 (decide (y103=(y8.length:Int)+(y9.length:Int))=false →
 Q (.tv [] .bool false) [])) ∧
 (y0=false →
 Q (.tv [] .bool false) []))))) ∧
 (decide (y19=(0:Int))=false →
 Need (-9223372036854775808≤(y8.length:Int)+(y9.length:Int)∧(y8.length:Int)+(y9.length:Int)≤9223372036854775807) ∧
 ∃ y118:(Int→Prop),
 ∃ y119:(Int→Nat),
 y118 (-(1:Int)) ∧
 ∀ z120:Int,
 y118 z120 →
 Need (-9223372036854775808≤((y8.length:Int)+(y9.length:Int))+(1:Int)∧((y8.length:Int)+(y9.length:Int))+(1:Int)≤9223372036854775807) ∧
 (decide (z120≤((y8.length:Int)+(y9.length:Int))+(1:Int))=true →
 ∃ y123:qT0,
 Need (E 13 [(.tv [] qt2 (y8,(y9,(y10,(y11,(y12,(y13,()))))))),(.tv [] (.int .i64) z120)] [] (.tv [] .str y123) []) ∧
 ∃ y124:qT0,
 Need (E 14 [(.tv [] qt2 (y8,(y9,(y10,(y11,(y12,(y13,()))))))),(.tv [] (.int .i64) z120)] [] (.tv [] .str y124) []) ∧
 ((!(decide (y123=y124)))=true →
 Q (.tv [] .bool false) []) ∧
 ((!(decide (y123=y124)))=false →
 ∃ y127:Bool,
 Need (E 15 [(.tv [] qt2 (y8,(y9,(y10,(y11,(y12,(y13,()))))))),(.tv [] (.int .i64) z120)] [] (.tv [] .bool y127) []) ∧
 (decide (0≤z120)=true →
 ((!(BEq.beq y127 (decide (z120<(y8.length:Int)))))=true →
 Q (.tv [] .bool false) []) ∧
 ((!(BEq.beq y127 (decide (z120<(y8.length:Int)))))=false →
 Need (-9223372036854775808≤z120+1∧z120+1≤9223372036854775807) ∧
 Need ((y19,((y20,(y21,())),()))=(y19,((y20,(y21,())),()))∧(y14,(y15,(y16,(y17,(y18,())))))=(y14,(y15,(y16,(y17,(y18,())))))∧(y8,(y9,(y10,(y11,(y12,(y13,()))))))=(y8,(y9,(y10,(y11,(y12,(y13,()))))))) ∧
 y118 (z120+1) ∧
   Need (y119 (z120+1)<y119 z120))) ∧
 (decide (0≤z120)=false →
 ((!(BEq.beq y127 false))=true →
 Q (.tv [] .bool false) []) ∧
 ((!(BEq.beq y127 false))=false →
 Need (-9223372036854775808≤z120+1∧z120+1≤9223372036854775807) ∧
 Need ((y19,((y20,(y21,())),()))=(y19,((y20,(y21,())),()))∧(y14,(y15,(y16,(y17,(y18,())))))=(y14,(y15,(y16,(y17,(y18,())))))∧(y8,(y9,(y10,(y11,(y12,(y13,()))))))=(y8,(y9,(y10,(y11,(y12,(y13,()))))))) ∧
 y118 (z120+1) ∧
  Need (y119 (z120+1)<y119 z120))))) ∧
 (decide (z120≤((y8.length:Int)+(y9.length:Int))+(1:Int))=false →
 ∃ y135:(Int→Prop),
 ∃ y136:(Int→Nat),
 y135 (-(1:Int)) ∧
 ∀ z137:Int,
 y135 z137 →
 (decide (z137≤(y10.length:Int))=true →
 ∃ y140:qT0,
 Need (E 16 [(.tv [] qt2 (y8,(y9,(y10,(y11,(y12,(y13,()))))))),(.tv [] (.int .i64) z137)] [] (.tv [] .str y140) []) ∧
 ∃ y141:qT0,
 Need (E 17 [(.tv [] qt2 (y8,(y9,(y10,(y11,(y12,(y13,()))))))),(.tv [] (.int .i64) z137)] [] (.tv [] .str y141) []) ∧
 ((!(decide (y140=y141)))=true →
 Q (.tv [] .bool false) []) ∧
 ((!(decide (y140=y141)))=false →
 Need (-9223372036854775808≤z137+1∧z137+1≤9223372036854775807) ∧
 Need ((y19,((y20,(y21,())),()))=(y19,((y20,(y21,())),()))∧(y14,(y15,(y16,(y17,(y18,())))))=(y14,(y15,(y16,(y17,(y18,())))))∧(y8,(y9,(y10,(y11,(y12,(y13,()))))))=(y8,(y9,(y10,(y11,(y12,(y13,()))))))) ∧
 y135 (z137+1) ∧
  Need (y136 (z137+1)<y136 z137))) ∧
 (decide (z137≤(y10.length:Int))=false →
 (y0=true →
 ∃ y146:Int,
 Need (E 18 [(.tv [] qt2 (y8,(y9,(y10,(y11,(y12,(y13,())))))))] [] (.tv [] (.int .i64) y146) []) ∧
 (decide (y146=(y8.length:Int)+(y9.length:Int))=true →
 ∃ y148:qT0,
 Need (E 13 [(.tv [] qt2 (y8,(y9,(y10,(y11,(y12,(y13,()))))))),(.tv [] (.int .i64) x2)] [] (.tv [] .str y148) []) ∧
 ∃ y149:qT0,
 Need (E 14 [(.tv [] qt2 (y8,(y9,(y10,(y11,(y12,(y13,()))))))),(.tv [] (.int .i64) x2)] [] (.tv [] .str y149) []) ∧
 (decide (y148=y149)=true →
 ∃ y151:Int,
 Need (E 19 [(.tv [] qt2 (y8,(y9,(y10,(y11,(y12,(y13,()))))))),(.tv [] .str x3)] [] (.tv [] (.int .i64) y151) []) ∧
 ∃ y152:Int,
 Need (E 20 [(.tv [] qt2 (y8,(y9,(y10,(y11,(y12,(y13,()))))))),(.tv [] .str x3)] [] (.tv [] (.int .i64) y152) []) ∧
 (decide (y151=y152)=true →
 ∃ y154:qT0,
 Need (E 16 [(.tv [] qt2 (y8,(y9,(y10,(y11,(y12,(y13,()))))))),(.tv [] (.int .i64) x2)] [] (.tv [] .str y154) []) ∧
 ∃ y155:qT0,
 Need (E 17 [(.tv [] qt2 (y8,(y9,(y10,(y11,(y12,(y13,()))))))),(.tv [] (.int .i64) x2)] [] (.tv [] .str y155) []) ∧
 Q (.tv [] .bool (decide (y154=y155))) []) ∧
 (decide (y151=y152)=false →
 Q (.tv [] .bool false) [])) ∧
 (decide (y148=y149)=false →
 Q (.tv [] .bool false) [])) ∧
 (decide (y146=(y8.length:Int)+(y9.length:Int))=false →
 Q (.tv [] .bool false) [])) ∧
 (y0=false →
 Q (.tv [] .bool false) []))))))))):EvF PP orc 4 [.tv [] qt8 (x0_0,(x0_1,(x0_2,(x0_3,(x0_4,(x0_5,(x0_6,()))))))),.tv [] .str x1,.tv [] (.int .i64) x2,.tv [] .str x3] [] Q:=aoZ (by kernel_rfl) h
end Go.Am.N
