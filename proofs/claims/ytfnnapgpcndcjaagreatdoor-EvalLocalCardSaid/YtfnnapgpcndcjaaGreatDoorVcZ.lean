/-
  A part of the proof of a law: see the text that states it.
-/
import Derived.Test.YtfnnapgpcndcjaaGreatDoorHead
set_option linter.all false
namespace Go.Am.Z
open Go
set_option maxRecDepth 100000
set_option maxHeartbeats 4000000
theorem vc3 (x0_0:Int) (x0_1:Int) (x0_2:List (Int)) (x0_3:List (List (Int))) (x0_4:List (Int)) (x0_5:List (Int)) (x0_6:List (Int)) (x1:List (Int)) (x2:List (Int)) (x3:List ((Int×(Int×(Int×Unit))))) (x4:List (XT)) (x5:List Int) (x6:Int) (Q:AV→Heap→Prop) (h :
(∃ y0:Bool,
 (Need (E 6 [] [] (.tv [] .bool y0) []) ∧
 (∃ y1:Bool,
 (Need (E 7 [(.tv [] qt11 (x0_0,(x0_1,(x0_2,(x0_3,(x0_4,(x0_5,(x0_6,())))))))),(.tv [] (.int .i64) (20:Int)),(.tv [] (.int .i64) (8:Int))] [] (.tv [] .bool y1) []) ∧
 (∃ y2:Bool,
 (Need (E 8 [(.tv [] (.slice .expr) x4)] [] (.tv [] .bool y2) []) ∧
 ((((!y1)=true) →
 (Q (.tv [] .bool y0) [])) ∧
 (((!y1)=false) →
 ((((!y2)=true) →
 (Q (.tv [] .bool y0) [])) ∧
 (((!y2)=false) →
 ((((decide ((30:Int)<(x1.length:Int)))=true) →
 (Q (.tv [] .bool y0) [])) ∧
 (((decide ((30:Int)<(x1.length:Int)))=false) →
 ((((decide ((15:Int)<(x2.length:Int)))=true) →
 (Q (.tv [] .bool y0) [])) ∧
 (((decide ((15:Int)<(x2.length:Int)))=false) →
 ((((decide ((30:Int)<(x3.length:Int)))=true) →
 (Q (.tv [] .bool y0) [])) ∧
 (((decide ((30:Int)<(x3.length:Int)))=false) →
 ((((decide ((60:Int)<(x5.length:Int)))=true) →
 (Q (.tv [] .bool y0) [])) ∧
 (((decide ((60:Int)<(x5.length:Int)))=false) →
 (∃ y15 y16:qT8,
 (∃ y17:qT5,
 (∃ y18 y19:qT3,
 (∃ y20:qT8,
 (Need (E 9 [(.tv [] qt11 (x0_0,(x0_1,(x0_2,(x0_3,(x0_4,(x0_5,(x0_6,()))))))))] [] (.tv [] qt6 (y15,(y16,(y17,(y18,(y19,(y20,()))))))) []) ∧
 ((∃ y21 y22 y23:Nat,
 (∃ y24:qT1,
 (∃ y25 y26 y27:Int,
 (∃ y28:Nat,
 (∃ y29:qT0,
 (∃ y30 y31:Nat,
 (∃ y32 y33 y34 y35:Int,
 (Need (E 10 [(.tv [] qt6 (y15,(y16,(y17,(y18,(y19,(y20,()))))))),(.tv [] qt17 x1),(.tv [] (.slice qt4) x3)] [] (.tup [(.op (1,0) []),(.op (1,1) [])]) (hq16 y21 y22 y23 y24 y25 y26 y27 y28 y29 y30 y31 y32 y33 y34 y35)) ∧
 (Need ((0+x1.length)≤bigN) ∧
 (Need (((List.length ([]++x1))+x2.length)≤bigN) ∧
 ((∃ y36 y37 y38:Nat,
 (∃ y39:qT1,
 (∃ y40 y41 y42:Int,
 (∃ y43:Nat,
 (∃ y44:qT0,
 (∃ y45 y46:Nat,
 (∃ y47 y48 y49 y50:Int,
 (Need (E 10 [(.tv [] qt6 (y15,(y16,(y17,(y18,(y19,(y20,()))))))),(.tv [] qt17 (([]++x1)++x2)),(.tv [] (.slice qt4) x3)] [] (.tup [(.op (1,0) []),(.op (1,1) [])]) (hq16 y36 y37 y38 y39 y40 y41 y42 y43 y44 y45 y46 y47 y48 y49 y50)) ∧
 (((false=true) →
 (((y0=true) →
 ((((!false)=true) →
 (Q (.tv [] .bool (!false)) [])) ∧
 (((!false)=false) →
 (Q (.tv [] .bool false) [])))) ∧
 ((y0=false) →
 (Q (.tv [] .bool false) [])))) ∧
 ((false=false) →
 (((false=true) →
 (((y0=true) →
 ((((!false)=true) →
 (Q (.tv [] .bool (!false)) [])) ∧
 (((!false)=false) →
 (Q (.tv [] .bool false) [])))) ∧
 ((y0=false) →
 (Q (.tv [] .bool false) [])))) ∧
 ((false=false) →
 (∃ y63:Int,
 (Need (E 11 [(.op (0,0) [])] (hq1 y30 y31 y32 y33 y34 y35 y28 y29) (.tv [] (.int .i64) y63) (hq1 y30 y31 y32 y33 y34 y35 y28 y29)) ∧
 ((((decide (y63=(0:Int)))=true) →
 (((y0=true) →
 ((((!false)=true) →
 (Q (.tv [] .bool (!false)) [])) ∧
 (((!false)=false) →
 (Q (.tv [] .bool false) [])))) ∧
 ((y0=false) →
 (Q (.tv [] .bool false) [])))) ∧
 (((decide (y63=(0:Int)))=false) →
 (Need (((-9223372036854775808:Int)≤x6)∧(x6≤9223372036854775807)) ∧
 (∃ y70:Int,
 (Need (E 11 [(.op (0,0) [])] (hq1 y30 y31 y32 y33 y34 y35 y28 y29) (.tv [] (.int .i64) y70) (hq1 y30 y31 y32 y33 y34 y35 y28 y29)) ∧
 (Need (y70≠(0:Int)) ∧
 (Need (¬ ((IntKind.i64=IntKind.u8)∧(¬ ((0≤x6)∧((x6<256)∧(0<y70)))))) ∧
 (∃ y71:(List XT),
 (Need (E 13 [(.tv [] (.slice .expr) x4)] [] (.tv [[]] (.slice .expr) y71) []) ∧
 (∃ y72:(List (List qT4)),
 (Need (E 12 [(.tv [] (.slice .expr) y71)] [] (.tv [[]] qt13 y72) []) ∧
 (∃ y73 y74 y75:Int,
 (Need (E 15 [(.tv [] (.int .i64) (100000:Int))] [] (.op (1,0) []) (hq11 y73 y74 y75)) ∧
 (∃ y76 y77 y78 y79 y80 y81:Int,
 (∃ y82 y83:Nat,
 (∃ y84 y85 y86 y87:Int,
 (∃ y88:Nat,
 (∃ y89:qT0,
 (Need (E 14 [(.op (0,0) []),(.tv [] (.int .i64) (Int.tmod x6 y70)),(.tv [] qt13 y72),(.tv [] .str x5),(.op (0,1) [])] (hq7 y73 y74 y75 y30 y31 y32 y33 y34 y35 y28 y29) (.tup [(.tv [] qt1 (y76,(y77,()))),(.tv [] (.int .i64) y78)]) (hq7 y79 y80 y81 y82 y83 y84 y85 y86 y87 y88 y89)) ∧
 (∃ y90 y91 y92:Int,
 (Need (E 15 [(.tv [] (.int .i64) (100000:Int))] [] (.op (1,0) []) (hq11 y90 y91 y92)) ∧
 (∃ y93 y94 y95 y96 y97 y98:Int,
 (∃ y99 y100:Nat,
 (∃ y101 y102 y103 y104:Int,
 (∃ y105:Nat,
 (∃ y106:qT0,
 (Need (E 14 [(.op (0,0) []),(.tv [] (.int .i64) (Int.tmod x6 y70)),(.tv [] qt13 y72),(.tv [] .str x5),(.op (0,1) [])] (hq7 y90 y91 y92 y45 y46 y47 y48 y49 y50 y43 y44) (.tup [(.tv [] qt1 (y93,(y94,()))),(.tv [] (.int .i64) y95)]) (hq7 y96 y97 y98 y99 y100 y101 y102 y103 y104 y105 y106)) ∧
 (((y0=true) →
 (((((decide (y76=y93))&&((decide (y77=y94))&&true))=true) →
 ((((decide (y78=(0:Int)))=true) →
 (Q (.tv [] .bool (decide (y95=(0:Int)))) [])) ∧
 (((decide (y78=(0:Int)))=false) →
 (Q (.tv [] .bool false) [])))) ∧
 ((((decide (y76=y93))&&((decide (y77=y94))&&true))=false) →
 (Q (.tv [] .bool false) [])))) ∧
 ((y0=false) →
 (Q (.tv [] .bool false) [])))))))))))))))))))))))))))))))))))))))))))) ∨
 (∃ y113 y114 y115:Nat,
 (∃ y116:qT1,
 (∃ y117 y118 y119:Int,
 (Need (E 10 [(.tv [] qt6 (y15,(y16,(y17,(y18,(y19,(y20,()))))))),(.tv [] qt17 (([]++x1)++x2)),(.tv [] (.slice qt4) x3)] [] (.tup [(.tv [] .ref (Option.none )),(.op (1,0) [])]) (hq19 y113 y114 y115 y116 y117 y118 y119)) ∧
 (((false=true) →
 (((y0=true) →
 ((((!false)=true) →
 (Q (.tv [] .bool (!true)) [])) ∧
 (((!false)=false) →
 (Q (.tv [] .bool false) [])))) ∧
 ((y0=false) →
 (Q (.tv [] .bool false) [])))) ∧
 ((false=false) →
 (((true=true) →
 (((y0=true) →
 ((((!false)=true) →
 (Q (.tv [] .bool (!true)) [])) ∧
 (((!false)=false) →
 (Q (.tv [] .bool false) [])))) ∧
 ((y0=false) →
 (Q (.tv [] .bool false) [])))) ∧
 ((true=false) →
 (∃ y132:Int,
 (Need (E 11 [(.op (0,0) [])] (hq1 y30 y31 y32 y33 y34 y35 y28 y29) (.tv [] (.int .i64) y132) (hq1 y30 y31 y32 y33 y34 y35 y28 y29)) ∧
 ((((decide (y132=(0:Int)))=true) →
 (((y0=true) →
 ((((!false)=true) →
 (Q (.tv [] .bool (!true)) [])) ∧
 (((!false)=false) →
 (Q (.tv [] .bool false) [])))) ∧
 ((y0=false) →
 (Q (.tv [] .bool false) [])))) ∧
 (((decide (y132=(0:Int)))=false) →
 (Need (((-9223372036854775808:Int)≤x6)∧(x6≤9223372036854775807)) ∧
 (∃ y139:Int,
 (Need (E 11 [(.op (0,0) [])] (hq1 y30 y31 y32 y33 y34 y35 y28 y29) (.tv [] (.int .i64) y139) (hq1 y30 y31 y32 y33 y34 y35 y28 y29)) ∧
 (Need (y139≠(0:Int)) ∧
 (Need (¬ ((IntKind.i64=IntKind.u8)∧(¬ ((0≤x6)∧((x6<256)∧(0<y139)))))) ∧
 (∃ y140:(List XT),
 (Need (E 13 [(.tv [] (.slice .expr) x4)] [] (.tv [[]] (.slice .expr) y140) []) ∧
 (∃ y141:(List (List qT4)),
 (Need (E 12 [(.tv [] (.slice .expr) y140)] [] (.tv [[]] qt13 y141) []) ∧
 (∃ y142 y143 y144:Int,
 (Need (E 15 [(.tv [] (.int .i64) (100000:Int))] [] (.op (1,0) []) (hq11 y142 y143 y144)) ∧
 (∃ y145 y146 y147 y148 y149 y150:Int,
 (∃ y151 y152:Nat,
 (∃ y153 y154 y155 y156:Int,
 (∃ y157:Nat,
 (∃ y158:qT0,
 (Need (E 14 [(.op (0,0) []),(.tv [] (.int .i64) (Int.tmod x6 y139)),(.tv [] qt13 y141),(.tv [] .str x5),(.op (0,1) [])] (hq7 y142 y143 y144 y30 y31 y32 y33 y34 y35 y28 y29) (.tup [(.tv [] qt1 (y145,(y146,()))),(.tv [] (.int .i64) y147)]) (hq7 y148 y149 y150 y151 y152 y153 y154 y155 y156 y157 y158)) ∧
 (∃ y159 y160 y161:Int,
 (Need (E 15 [(.tv [] (.int .i64) (100000:Int))] [] (.op (1,0) []) (hq11 y159 y160 y161)) ∧
 (∃ y162 y163 y164 y165 y166 y167:Int,
 (∃ y168 y169:Nat,
 (∃ y170 y171 y172 y173:Int,
 (∃ y174:Nat,
 (∃ y175:qT0,
 (Need (E 14 [(.tv [] .ref (Option.none )),(.tv [] (.int .i64) (Int.tmod x6 y139)),(.tv [] qt13 y141),(.tv [] .str x5),(.op (0,0) [])] (hq0 y159 y160 y161) (.tup [(.tv [] qt1 (y162,(y163,()))),(.tv [] (.int .i64) y164)]) (hq7 y165 y166 y167 y168 y169 y170 y171 y172 y173 y174 y175)) ∧
  False)))))))))))))))))))))))))))))))))))))))))))))))) ∨
 (∃ y176 y177 y178:Nat,
 (∃ y179:qT1,
 (∃ y180 y181 y182:Int,
 (Need (E 10 [(.tv [] qt6 (y15,(y16,(y17,(y18,(y19,(y20,()))))))),(.tv [] qt17 x1),(.tv [] (.slice qt4) x3)] [] (.tup [(.tv [] .ref (Option.none )),(.op (1,0) [])]) (hq19 y176 y177 y178 y179 y180 y181 y182)) ∧
 (Need ((0+x1.length)≤bigN) ∧
 (Need (((List.length ([]++x1))+x2.length)≤bigN) ∧
 ((∃ y183 y184 y185:Nat,
 (∃ y186:qT1,
 (∃ y187 y188 y189:Int,
 (∃ y190:Nat,
 (∃ y191:qT0,
 (∃ y192 y193:Nat,
 (∃ y194 y195 y196 y197:Int,
 (Need (E 10 [(.tv [] qt6 (y15,(y16,(y17,(y18,(y19,(y20,()))))))),(.tv [] qt17 (([]++x1)++x2)),(.tv [] (.slice qt4) x3)] [] (.tup [(.op (1,0) []),(.op (1,1) [])]) (hq16 y183 y184 y185 y186 y187 y188 y189 y190 y191 y192 y193 y194 y195 y196 y197)) ∧
 (((true=true) →
 (((y0=true) →
 ((((!true)=true) →
 (Q (.tv [] .bool (!false)) [])) ∧
 (((!true)=false) →
 (Q (.tv [] .bool false) [])))) ∧
 ((y0=false) →
 (Q (.tv [] .bool false) [])))) ∧
 ((true=false) →
 (((false=true) →
 (((y0=true) →
 ((((!true)=true) →
 (Q (.tv [] .bool (!false)) [])) ∧
 (((!true)=false) →
 (Q (.tv [] .bool false) [])))) ∧
 ((y0=false) →
 (Q (.tv [] .bool false) [])))) ∧
 ((false=false) →
 (∃ y210:Int,
 (Need (E 11 [(.tv [] .ref (Option.none ))] [] (.tv [] (.int .i64) y210) []) ∧
 ((((decide (y210=(0:Int)))=true) →
 (((y0=true) →
 ((((!true)=true) →
 (Q (.tv [] .bool (!false)) [])) ∧
 (((!true)=false) →
 (Q (.tv [] .bool false) [])))) ∧
 ((y0=false) →
 (Q (.tv [] .bool false) [])))) ∧
 (((decide (y210=(0:Int)))=false) →
 (Need (((-9223372036854775808:Int)≤x6)∧(x6≤9223372036854775807)) ∧
 (∃ y217:Int,
 (Need (E 11 [(.tv [] .ref (Option.none ))] [] (.tv [] (.int .i64) y217) []) ∧
 (Need (y217≠(0:Int)) ∧
 (Need (¬ ((IntKind.i64=IntKind.u8)∧(¬ ((0≤x6)∧((x6<256)∧(0<y217)))))) ∧
 (∃ y218:(List XT),
 (Need (E 13 [(.tv [] (.slice .expr) x4)] [] (.tv [[]] (.slice .expr) y218) []) ∧
 (∃ y219:(List (List qT4)),
 (Need (E 12 [(.tv [] (.slice .expr) y218)] [] (.tv [[]] qt13 y219) []) ∧
 (∃ y220 y221 y222:Int,
 (Need (E 15 [(.tv [] (.int .i64) (100000:Int))] [] (.op (1,0) []) (hq11 y220 y221 y222)) ∧
 (∃ y223 y224 y225 y226 y227 y228:Int,
 (∃ y229 y230:Nat,
 (∃ y231 y232 y233 y234:Int,
 (∃ y235:Nat,
 (∃ y236:qT0,
 (Need (E 14 [(.tv [] .ref (Option.none )),(.tv [] (.int .i64) (Int.tmod x6 y217)),(.tv [] qt13 y219),(.tv [] .str x5),(.op (0,0) [])] (hq0 y220 y221 y222) (.tup [(.tv [] qt1 (y223,(y224,()))),(.tv [] (.int .i64) y225)]) (hq7 y226 y227 y228 y229 y230 y231 y232 y233 y234 y235 y236)) ∧
  False))))))))))))))))))))))))))))))))) ∨
 (∃ y237 y238 y239:Nat,
 (∃ y240:qT1,
 (∃ y241 y242 y243:Int,
 (Need (E 10 [(.tv [] qt6 (y15,(y16,(y17,(y18,(y19,(y20,()))))))),(.tv [] qt17 (([]++x1)++x2)),(.tv [] (.slice qt4) x3)] [] (.tup [(.tv [] .ref (Option.none )),(.op (1,0) [])]) (hq19 y237 y238 y239 y240 y241 y242 y243)) ∧
 (((true=true) →
 (((y0=true) →
 ((((!true)=true) →
 (Q (.tv [] .bool (!true)) [])) ∧
 (((!true)=false) →
 (Q (.tv [] .bool false) [])))) ∧
 ((y0=false) →
 (Q (.tv [] .bool false) [])))) ∧
 ((true=false) →
 (((true=true) →
 (((y0=true) →
 ((((!true)=true) →
 (Q (.tv [] .bool (!true)) [])) ∧
 (((!true)=false) →
 (Q (.tv [] .bool false) [])))) ∧
 ((y0=false) →
 (Q (.tv [] .bool false) [])))) ∧
 ((true=false) →
 (∃ y256:Int,
 (Need (E 11 [(.tv [] .ref (Option.none ))] [] (.tv [] (.int .i64) y256) []) ∧
 ((((decide (y256=(0:Int)))=true) →
 (((y0=true) →
 ((((!true)=true) →
 (Q (.tv [] .bool (!true)) [])) ∧
 (((!true)=false) →
 (Q (.tv [] .bool false) [])))) ∧
 ((y0=false) →
 (Q (.tv [] .bool false) [])))) ∧
 (((decide (y256=(0:Int)))=false) →
 (Need (((-9223372036854775808:Int)≤x6)∧(x6≤9223372036854775807)) ∧
 (∃ y263:Int,
 (Need (E 11 [(.tv [] .ref (Option.none ))] [] (.tv [] (.int .i64) y263) []) ∧
 (Need (y263≠(0:Int)) ∧
 (Need (¬ ((IntKind.i64=IntKind.u8)∧(¬ ((0≤x6)∧((x6<256)∧(0<y263)))))) ∧
 (∃ y264:(List XT),
 (Need (E 13 [(.tv [] (.slice .expr) x4)] [] (.tv [[]] (.slice .expr) y264) []) ∧
 (∃ y265:(List (List qT4)),
 (Need (E 12 [(.tv [] (.slice .expr) y264)] [] (.tv [[]] qt13 y265) []) ∧
 (∃ y266 y267 y268:Int,
 (Need (E 15 [(.tv [] (.int .i64) (100000:Int))] [] (.op (1,0) []) (hq11 y266 y267 y268)) ∧
 (∃ y269 y270 y271 y272 y273 y274:Int,
 (∃ y275 y276:Nat,
 (∃ y277 y278 y279 y280:Int,
 (∃ y281:Nat,
 (∃ y282:qT0,
 (Need (E 14 [(.tv [] .ref (Option.none )),(.tv [] (.int .i64) (Int.tmod x6 y263)),(.tv [] qt13 y265),(.tv [] .str x5),(.op (0,0) [])] (hq0 y266 y267 y268) (.tup [(.tv [] qt1 (y269,(y270,()))),(.tv [] (.int .i64) y271)]) (hq7 y272 y273 y274 y275 y276 y277 y278 y279 y280 y281 y282)) ∧
 False))))))))))))))))))))))))))))))))))))))))))))))))))))))))))))):EvF PP orc 3 [.tv [] qt11 (x0_0,(x0_1,(x0_2,(x0_3,(x0_4,(x0_5,(x0_6,()))))))),.tv [] qt17 x1,.tv [] qt17 x2,.tv [] (.slice qt4) x3,.tv [] (.slice .expr) x4,.tv [] .str x5,.tv [] (.int .u8) x6] [] Q:=vc_of (by kernel_rfl) h
end Go.Am.Z
