/-
  A part of the proof of a law: see the text that states it.
-/
import Derived.Test.YtfnnapgpcndcjaaGreatDoorHead
set_option linter.all false
namespace Go.Am.Z
open Go
set_option maxRecDepth 100000
set_option maxHeartbeats 4000000
theorem vc5 (x0_0:Int) (x0_1:Int) (x0_2:List (Int)) (x0_3:List (List (Int))) (x0_4:List (Int)) (x0_5:List (Int)) (x0_6:List (Int)) (x1:List (Int)) (x2:List ((Int×(Int×(Int×Unit))))) (x3:List (XT)) (x4:List Int) (x5:Int) (Q:AV→Heap→Prop) (h :
(∃ y0:Bool,
 (Need (E 6 [] [] (.tv [] .bool y0) []) ∧
 (∃ y1:Bool,
 (Need (E 7 [(.tv [] qt11 (x0_0,(x0_1,(x0_2,(x0_3,(x0_4,(x0_5,(x0_6,())))))))),(.tv [] (.int .i64) (20:Int)),(.tv [] (.int .i64) (8:Int))] [] (.tv [] .bool y1) []) ∧
 (∃ y2:Bool,
 (Need (E 8 [(.tv [] (.slice .expr) x3)] [] (.tv [] .bool y2) []) ∧
 ((((!y1)=true) →
 (Q (.tv [] .bool y0) [])) ∧
 (((!y1)=false) →
 ((((!y2)=true) →
 (Q (.tv [] .bool y0) [])) ∧
 (((!y2)=false) →
 ((((decide ((30:Int)<(x1.length:Int)))=true) →
 (Q (.tv [] .bool y0) [])) ∧
 (((decide ((30:Int)<(x1.length:Int)))=false) →
 ((((decide ((30:Int)<(x2.length:Int)))=true) →
 (Q (.tv [] .bool y0) [])) ∧
 (((decide ((30:Int)<(x2.length:Int)))=false) →
 ((((decide ((60:Int)<(x4.length:Int)))=true) →
 (Q (.tv [] .bool y0) [])) ∧
 (((decide ((60:Int)<(x4.length:Int)))=false) →
 (∃ y13 y14:qT8,
 (∃ y15:qT5,
 (∃ y16 y17:qT3,
 (∃ y18:qT8,
 (Need (E 9 [(.tv [] qt11 (x0_0,(x0_1,(x0_2,(x0_3,(x0_4,(x0_5,(x0_6,()))))))))] [] (.tv [] qt6 (y13,(y14,(y15,(y16,(y17,(y18,()))))))) []) ∧
 ((∃ y19 y20 y21:Nat,
 (∃ y22:qT1,
 (∃ y23 y24 y25:Int,
 (∃ y26:Nat,
 (∃ y27:qT0,
 (∃ y28 y29:Nat,
 (∃ y30 y31 y32 y33:Int,
 (Need (E 10 [(.tv [] qt6 (y13,(y14,(y15,(y16,(y17,(y18,()))))))),(.tv [] qt17 x1),(.tv [] (.slice qt4) x2)] [] (.tup [(.op (1,0) []),(.op (1,1) [])]) (hq16 y19 y20 y21 y22 y23 y24 y25 y26 y27 y28 y29 y30 y31 y32 y33)) ∧
 (((false=true) →
 (Q (.tv [] .bool false) [])) ∧
 ((false=false) →
 (∃ y36:Int,
 (Need (E 11 [(.op (0,0) [])] (hq1 y28 y29 y30 y31 y32 y33 y26 y27) (.tv [] (.int .i64) y36) (hq1 y28 y29 y30 y31 y32 y33 y26 y27)) ∧
 ((((decide (y36≠(y20:Int)))=true) →
 (Q (.tv [] .bool false) [])) ∧
 (((decide (y36≠(y20:Int)))=false) →
 (∃ y39:(List XT),
 (Need (E 13 [(.tv [] (.slice .expr) x3)] [] (.tv [[]] (.slice .expr) y39) []) ∧
 (∃ y40:(List (List qT4)),
 (Need (E 12 [(.tv [] (.slice .expr) y39)] [] (.tv [[]] qt13 y40) []) ∧
 (∃ y41 y42 y43:Int,
 (Need (E 15 [(.tv [] (.int .i64) (100000:Int))] [] (.op (1,0) []) (hq11 y41 y42 y43)) ∧
 (∃ y44:qT3,
 (∃ y45:(List (List qT4)),
 (∃ y46:qT3,
 (∃ y47:Int,
 (∃ y48:Bool,
 (∃ y49 y50:Int,
 (∃ y51:(List (Prod Int qT4)),
 (∃ y52 y53 y54:Int,
 (∃ y55 y56:Nat,
 (∃ y57 y58 y59 y60:Int,
 (∃ y61:Nat,
 (∃ y62:qT0,
 (Need (E 20 [(.op (0,0) []),(.tv [] (.int .i64) x5),(.tv [] qt13 y40),(.tv [] .str x4),(.op (0,1) [])] (hq7 y41 y42 y43 y28 y29 y30 y31 y32 y33 y26 y27) (.op (1,0) []) (hq20 y44 y45 y46 y47 y48 y49 y50 y51 y52 y53 y54 y55 y56 y57 y58 y59 y60 y61 y62)) ∧
 (((false=true) →
 (Q (.tv [] .bool false) [])) ∧
 ((false=false) →
 (∃ y65:qT3,
 (Need (E 21 [(.op (0,0) []),(.tv [] (.int .i64) x5)] (hq1 y55 y56 y57 y58 y59 y60 y61 y62) (.tv [[]] qt7 y65) (hq1 y55 y56 y57 y58 y59 y60 y61 y62)) ∧
 (∃ y66:(Int→((List (Prod Int qT4))→(qT3→((List (List qT4))→(qT3→(Int→(Bool→(Int→(Int→(Int→(Int→(Int→(Int→(qT0→(Int→(Int→(Int→(Int→(qT1→(Int→(Int→(Int→(Int→(Int→(Int→(Int→(Int→Prop))))))))))))))))))))))))))),
 (∃ y67:(Int→((List (Prod Int qT4))→(qT3→((List (List qT4))→(qT3→(Int→(Bool→(Int→(Int→(Int→(Int→(Int→(Int→(qT0→(Int→(Int→(Int→(Int→(qT1→(Int→(Int→(Int→(Int→(Int→(Int→(Int→(Int→Nat))))))))))))))))))))))))))),
 (Need ((y62.length=y62.length)∧(y22.length=y22.length)) ∧
 ((y66 (0:Int) y51 y44 y45 y46 y47 y48 y49 y50 y52 y53 y54 (y61:Int) y62 y58 y59 y60 (y21:Int) y22 y23 y24 y25 (y55:Int) (y56:Int) y57 (y19:Int) (y20:Int)) ∧
 (∀ z68:Int,
 (∀ z69:(List (Prod Int qT4)),
 (∀ z70:qT3,
 (∀ z71:(List (List qT4)),
 (∀ z72:qT3,
 (∀ z73:Int,
 (∀ z74:Bool,
 (∀ z75 z76 z77 z78 z79 z80:Int,
 (∀ z81:qT0,
 (∀ z82 z83 z84 z85:Int,
 (∀ z86:qT1,
 (∀ z87 z88 z89 z90 z91 z92 z93 z94:Int,
 ((y66 z68 z69 z70 z71 z72 z73 z74 z75 z76 z77 z78 z79 z80 z81 z82 z83 z84 z85 z86 z87 z88 z89 z90 z91 z92 z93 z94) →
 ((((decide (z68<(y65.length:Int)))=true) →
 (∃ y97 y98 y99:Int,
 (Need (E 22 [(.op (0,0) [])] (hq3 z70 z71 z72 z73 z74 z75 z76 z77 z78 z79 z69 z90.toNat z91.toNat z92 z82 z83 z84 z80.toNat z81) (.tup [(.tv [] qt1 (y97,(y98,()))),(.tv [] (.int .i64) y99)]) (hq3 z70 z71 z72 z73 z74 z75 z76 z77 z78 z79 z69 z90.toNat z91.toNat z92 z82 z83 z84 z80.toNat z81)) ∧
 ((((!((decide (y97=(0:Int)))&&((decide (y98=(0:Int)))&&true)))=true) →
 (Q (.tv [] .bool false) [])) ∧
 (((!((decide (y97=(0:Int)))&&((decide (y98=(0:Int)))&&true)))=false) →
 ((((decide (y99≠(0:Int)))=true) →
 (Q (.tv [] .bool false) [])) ∧
 (((decide (y99≠(0:Int)))=false) →
 (∃ y104:Int,
 (Need (E 23 [(.op (0,0) [])] (hq3 z70 z71 z72 z73 z74 z75 z76 z77 z78 z79 z69 z90.toNat z91.toNat z92 z82 z83 z84 z80.toNat z81) (.tv [] (.int .i64) y104) (hq3 z70 z71 z72 z73 z74 z75 z76 z77 z78 z79 z69 z90.toNat z91.toNat z92 z82 z83 z84 z80.toNat z81)) ∧
 ((((decide (y104≠z68))=true) →
 (Q (.tv [] .bool false) [])) ∧
 (((decide (y104≠z68))=false) →
 (∃ y107:Bool,
 (∃ y108:qT3,
 (∃ y109:(List (List qT4)),
 (∃ y110:qT3,
 (∃ y111:Int,
 (∃ y112:Bool,
 (∃ y113 y114 y115 y116 y117:Int,
 (∃ y118:(List (Prod Int qT4)),
 (∃ y119 y120:Nat,
 (∃ y121 y122 y123 y124:Int,
 (∃ y125:Nat,
 (∃ y126:qT0,
 (Need (E 24 [(.op (0,0) [])] (hq3 z70 z71 z72 z73 z74 z75 z76 z77 z78 z79 z69 z90.toNat z91.toNat z92 z82 z83 z84 z80.toNat z81) (.tv [] .bool y107) (hq3 y108 y109 y110 y111 y112 y113 y114 y115 y116 y117 y118 y119 y120 y121 y122 y123 y124 y125 y126)) ∧
 (Need ((-9223372036854775808≤((y65.length:Int)-(1:Int)))∧(((y65.length:Int)-(1:Int))≤9223372036854775807)) ∧
 ((((!(BEq.beq y107 (decide (z68=((y65.length:Int)-(1:Int))))))=true) →
 (Q (.tv [] .bool false) [])) ∧
 (((!(BEq.beq y107 (decide (z68=((y65.length:Int)-(1:Int))))))=false) →
 (Need ((-9223372036854775808≤(z68+1))∧((z68+1)≤9223372036854775807)) ∧
 (Need ((y126.length=y126.length)∧(z86.length=z86.length)) ∧
 ((y66 (z68+1) y118 y108 y109 y110 y111 y112 y113 y114 y115 y116 y117 (y125:Int) y126 y122 y123 y124 (z85.toNat:Int) z86 z87 z88 z89 (y119:Int) (y120:Int) y121 (z93.toNat:Int) (z94.toNat:Int)) ∧
   Need ((y67 (z68+1) y118 y108 y109 y110 y111 y112 y113 y114 y115 y116 y117 (y125:Int) y126 y122 y123 y124 (z85.toNat:Int) z86 z87 z88 z89 (y119:Int) (y120:Int) y121 (z93.toNat:Int) (z94.toNat:Int))<(y67 z68 z69 z70 z71 z72 z73 z74 z75 z76 z77 z78 z79 z80 z81 z82 z83 z84 z85 z86 z87 z88 z89 z90 z91 z92 z93 z94)))))))))))))))))))))))))))))))) ∧
 (((decide (z68<(y65.length:Int)))=false) →
 (∃ y130 y131 y132:Int,
 (Need (E 22 [(.op (0,0) [])] (hq3 z70 z71 z72 z73 z74 z75 z76 z77 z78 z79 z69 z90.toNat z91.toNat z92 z82 z83 z84 z80.toNat z81) (.tup [(.tv [] qt1 (y130,(y131,()))),(.tv [] (.int .i64) y132)]) (hq3 z70 z71 z72 z73 z74 z75 z76 z77 z78 z79 z69 z90.toNat z91.toNat z92 z82 z83 z84 z80.toNat z81)) ∧
 (∃ y133:Bool,
 (∃ y134:qT3,
 (∃ y135:(List (List qT4)),
 (∃ y136:qT3,
 (∃ y137:Int,
 (∃ y138:Bool,
 (∃ y139 y140 y141 y142 y143:Int,
 (∃ y144:(List (Prod Int qT4)),
 (∃ y145 y146:Nat,
 (∃ y147 y148 y149 y150:Int,
 (∃ y151:Nat,
 (∃ y152:qT0,
 (Need (E 24 [(.op (0,0) [])] (hq3 z70 z71 z72 z73 z74 z75 z76 z77 z78 z79 z69 z90.toNat z91.toNat z92 z82 z83 z84 z80.toNat z81) (.tv [] .bool y133) (hq3 y134 y135 y136 y137 y138 y139 y140 y141 y142 y143 y144 y145 y146 y147 y148 y149 y150 y151 y152)) ∧
 (∃ y153 y154 y155:Int,
 (Need (E 22 [(.op (0,0) [])] (hq3 y134 y135 y136 y137 y138 y139 y140 y141 y142 y143 y144 y145 y146 y147 y148 y149 y150 y151 y152) (.tup [(.tv [] qt1 (y153,(y154,()))),(.tv [] (.int .i64) y155)]) (hq3 y134 y135 y136 y137 y138 y139 y140 y141 y142 y143 y144 y145 y146 y147 y148 y149 y150 y151 y152)) ∧
 (∃ y156 y157 y158:Int,
 (Need (E 15 [(.tv [] (.int .i64) (100000:Int))] [] (.op (1,0) []) (hq11 y156 y157 y158)) ∧
 (∃ y159 y160 y161 y162 y163 y164:Int,
 (∃ y165 y166:Nat,
 (∃ y167 y168 y169 y170:Int,
 (∃ y171:Nat,
 (∃ y172:qT0,
 (Need (E 14 [(.op (0,0) []),(.tv [] (.int .i64) x5),(.tv [] qt13 y40),(.tv [] .str x4),(.op (0,1) [])] (hq7 y156 y157 y158 y145 y146 y147 y148 y149 y150 y151 y152) (.tup [(.tv [] qt1 (y159,(y160,()))),(.tv [] (.int .i64) y161)]) (hq7 y162 y163 y164 y165 y166 y167 y168 y169 y170 y171 y172)) ∧
 (((y0=true) →
 (((y133=true) →
 (((((decide (y130=y153))&&((decide (y131=y154))&&true))=true) →
 ((((decide (y132=y155))=true) →
 (((((decide (y130=y159))&&((decide (y131=y160))&&true))=true) →
 ((((decide (y132=y161))=true) →
 (∃ y179:Int,
 (Need (E 23 [(.op (0,0) [])] (hq3 y134 y135 y136 y137 y138 y139 y140 y141 y142 y143 y144 y165 y166 y167 y168 y169 y170 y171 y172) (.tv [] (.int .i64) y179) (hq3 y134 y135 y136 y137 y138 y139 y140 y141 y142 y143 y144 y165 y166 y167 y168 y169 y170 y171 y172)) ∧
 ((((decide (y179=(y65.length:Int)))=true) →
 (Q (.tv [] .bool (BEq.beq (decide (y132=(0:Int))) (decide ((0:Int)<(y65.length:Int))))) [])) ∧
 (((decide (y179=(y65.length:Int)))=false) →
 (Q (.tv [] .bool false) [])))))) ∧
 (((decide (y132=y161))=false) →
 (Q (.tv [] .bool false) [])))) ∧
 ((((decide (y130=y159))&&((decide (y131=y160))&&true))=false) →
 (Q (.tv [] .bool false) [])))) ∧
 (((decide (y132=y155))=false) →
 (Q (.tv [] .bool false) [])))) ∧
 ((((decide (y130=y153))&&((decide (y131=y154))&&true))=false) →
 (Q (.tv [] .bool false) [])))) ∧
 ((y133=false) →
 (Q (.tv [] .bool false) [])))) ∧
 ((y0=false) →
 (Q (.tv [] .bool false) [])))))))))))))))))))))))))))))))))))))))))))))))))))))))))))))))))))))))))))))))))))) ∨
 (∃ y188 y189 y190:Nat,
 (∃ y191:qT1,
 (∃ y192 y193 y194:Int,
 (Need (E 10 [(.tv [] qt6 (y13,(y14,(y15,(y16,(y17,(y18,()))))))),(.tv [] qt17 x1),(.tv [] (.slice qt4) x2)] [] (.tup [(.tv [] .ref (Option.none )),(.op (1,0) [])]) (hq19 y188 y189 y190 y191 y192 y193 y194)) ∧
 (((true=true) →
 (Q (.tv [] .bool false) [])) ∧
 ((true=false) →
 (∃ y197:Int,
 (Need (E 11 [(.tv [] .ref (Option.none ))] [] (.tv [] (.int .i64) y197) []) ∧
 ((((decide (y197≠(y189:Int)))=true) →
 (Q (.tv [] .bool false) [])) ∧
 (((decide (y197≠(y189:Int)))=false) →
 (∃ y200:(List XT),
 (Need (E 13 [(.tv [] (.slice .expr) x3)] [] (.tv [[]] (.slice .expr) y200) []) ∧
 (∃ y201:(List (List qT4)),
 (Need (E 12 [(.tv [] (.slice .expr) y200)] [] (.tv [[]] qt13 y201) []) ∧
 (∃ y202 y203 y204:Int,
 (Need (E 15 [(.tv [] (.int .i64) (100000:Int))] [] (.op (1,0) []) (hq11 y202 y203 y204)) ∧
 (∃ y205:qT3,
 (∃ y206:(List (List qT4)),
 (∃ y207:qT3,
 (∃ y208:Int,
 (∃ y209:Bool,
 (∃ y210 y211:Int,
 (∃ y212:(List (Prod Int qT4)),
 (∃ y213 y214 y215:Int,
 (∃ y216 y217:Nat,
 (∃ y218 y219 y220 y221:Int,
 (∃ y222:Nat,
 (∃ y223:qT0,
 (Need (E 20 [(.tv [] .ref (Option.none )),(.tv [] (.int .i64) x5),(.tv [] qt13 y201),(.tv [] .str x4),(.op (0,0) [])] (hq0 y202 y203 y204) (.op (1,0) []) (hq20 y205 y206 y207 y208 y209 y210 y211 y212 y213 y214 y215 y216 y217 y218 y219 y220 y221 y222 y223)) ∧
 False)))))))))))))))))))))))))))))))))))))))))))))))))))):EvF PP orc 5 [.tv [] qt11 (x0_0,(x0_1,(x0_2,(x0_3,(x0_4,(x0_5,(x0_6,()))))))),.tv [] qt17 x1,.tv [] (.slice qt4) x2,.tv [] (.slice .expr) x3,.tv [] .str x4,.tv [] (.int .i64) x5] [] Q:=vc_of (by kernel_rfl) h
end Go.Am.Z
