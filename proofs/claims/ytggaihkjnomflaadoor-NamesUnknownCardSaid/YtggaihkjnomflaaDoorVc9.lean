/-
  A part of the proof of a law: see the text that states it.
-/
import Derived.Test.YtggaihkjnomflaaDoorHead
set_option linter.all false
namespace Go.Am.D
open Go
set_option maxRecDepth 100000
set_option maxHeartbeats 4000000
theorem vc72 (o0_0:List ((Int×(List Int×((Int×(Int×Unit))×Unit))))) (o0_1:Int) (o0_2_0:List ((List Int×((List Int×(List Int×(Bool×Unit)))×Unit)))) (o0_2_1:List ((List Int×(List Int×(Bool×Unit))))) (o0_2_2:List ((Int×(List qT0×Unit)))) (o0_2_3:List Int) (o0_2_4:List ((List Int×(List qT0×(List Int×(List Int×Unit)))))) (o0_5:Bool) (o0_3:List (List Int×Bool)) (o0_4:List (List Int×Bool)) (Q:AV→Heap→Prop) (h :
(Need (E 87 [] [] (.tv [] (.mref .str .fnc) (some (1,0))) [((1,0),⟨⟨(.mp .str .fnc),[([(116:Int),(111:Int),(107:Int),(101:Int),(110:Int)],(some 94)),([(115:Int),(107:Int),(105:Int),(112:Int)],(some 95)),([(108:Int),(101:Int),(102:Int),(116:Int)],(some 96)),([(114:Int),(105:Int),(103:Int),(104:Int),(116:Int)],(some 96)),([(110:Int),(111:Int),(110:Int),(97:Int),(115:Int),(115:Int),(111:Int),(99:Int)],(some 96)),([(115:Int),(116:Int),(97:Int),(114:Int),(116:Int)],(some 97))]⟩,[]⟩)]) ∧
 (∃ y0:(qT2→(Int→(qT6→(qT9→(qT4→(qT0→(qT3→(Bool→(qT5→(qT5→Prop)))))))))),
 (∃ y1:(qT2→(Int→(qT6→(qT9→(qT4→(qT0→(qT3→(Bool→(qT5→(qT5→Nat)))))))))),
 ((y0 o0_0 o0_1 o0_2_0 o0_2_1 o0_2_2 o0_2_3 o0_2_4 o0_5 o0_3 o0_4) ∧
 (∀ z2:qT2,
 (∀ z3:Int,
 (∀ z4:qT6,
 (∀ z5:qT9,
 (∀ z6:qT4,
 (∀ z7:qT0,
 (∀ z8:qT3,
 (∀ z9:Bool,
 (∀ z10 z11:qT5,
 ((y0 z2 z3 z4 z5 z6 z7 z8 z9 z10 z11) →
 (∃ y13:Int,
 (∃ y14:qT0,
 (∃ y15 y16:Int,
 (Need (E 73 [(.op (0,0) [])] (hq0 z2 z3 z4 z5 z6 z7 z8 z9 z10 z11) (.tv [] qt1 (y13,(y14,((y15,(y16,())),())))) (hq0 z2 z3 z4 z5 z6 z7 z8 z9 z10 z11)) ∧
 ((((decide (y13=(2:Int)))=true) →
 ((((decide (y14=[(37:Int)]))=true) →
 (Need ((-9223372036854775808≤(z3+1))∧((z3+1)≤9223372036854775807)) ∧
 (Q (.tv [] .ref (Option.none )) (hq3 z2 z3 (1:Int) z4 z5 z6 z7 z8 z9 z10 z11)))) ∧
 (((decide (y14=[(37:Int)]))=false) →
 (((y14=[(116:Int),(111:Int),(107:Int),(101:Int),(110:Int)]) →
 ((((decide (y13≠(2:Int)))=true) →
 (∃ y22 y23 y24:Int,
 (Need (E 88 [(.op (0,0) []),(.tv [] (.int .i64) (14:Int))] (hq0 z2 z3 z4 z5 z6 z7 z8 z9 z10 z11) (.op (1,0) []) (hq1 y22 y23 y24 z2 z3 z4 z5 z6 z7 z8 z9 z10 z11)) ∧
 (Q (.op (1,0) []) (hq1 y22 y23 y24 z2 z3 z4 z5 z6 z7 z8 z9 z10 z11))))) ∧
 (((decide (y13≠(2:Int)))=false) →
 (Need ((-9223372036854775808≤(z3+1))∧((z3+1)≤9223372036854775807)) ∧
 ((∃ y26 y27 y28:Int,
 (∃ y29:qT2,
 (∃ y30:Int,
 (∃ y31:qT6,
 (∃ y32:qT9,
 (∃ y33:qT4,
 (∃ y34:qT0,
 (∃ y35:qT3,
 (∃ y36:Bool,
 (∃ y37 y38:qT5,
 (Need (E 94 [(.op (0,0) []),(.tv [] qt1 (y13,(y14,((y15,(y16,())),()))))] (hq3 z2 z3 (1:Int) z4 z5 z6 z7 z8 z9 z10 z11) (.op (1,0) []) (hq1 y26 y27 y28 y29 y30 y31 y32 y33 y34 y35 y36 y37 y38)) ∧
 (Q (.op (1,0) []) (hq1 y26 y27 y28 y29 y30 y31 y32 y33 y34 y35 y36 y37 y38))))))))))))) ∨
 (∃ y39:qT2,
 (∃ y40:Int,
 (∃ y41:qT6,
 (∃ y42:qT9,
 (∃ y43:qT4,
 (∃ y44:qT0,
 (∃ y45:qT3,
 (∃ y46:Bool,
 (∃ y47 y48:qT5,
 (Need (E 94 [(.op (0,0) []),(.tv [] qt1 (y13,(y14,((y15,(y16,())),()))))] (hq3 z2 z3 (1:Int) z4 z5 z6 z7 z8 z9 z10 z11) (.tv [] .ref (Option.none )) (hq0 y39 y40 y41 y42 y43 y44 y45 y46 y47 y48)) ∧
 (Need ([([(116:Int),(111:Int),(107:Int),(101:Int),(110:Int)],(some 94)),([(115:Int),(107:Int),(105:Int),(112:Int)],(some 95)),([(108:Int),(101:Int),(102:Int),(116:Int)],(some 96)),([(114:Int),(105:Int),(103:Int),(104:Int),(116:Int)],(some 96)),([(110:Int),(111:Int),(110:Int),(97:Int),(115:Int),(115:Int),(111:Int),(99:Int)],(some 96)),([(115:Int),(116:Int),(97:Int),(114:Int),(116:Int)],(some 97))]=[([(116:Int),(111:Int),(107:Int),(101:Int),(110:Int)],(some 94)),([(115:Int),(107:Int),(105:Int),(112:Int)],(some 95)),([(108:Int),(101:Int),(102:Int),(116:Int)],(some 96)),([(114:Int),(105:Int),(103:Int),(104:Int),(116:Int)],(some 96)),([(110:Int),(111:Int),(110:Int),(97:Int),(115:Int),(115:Int),(111:Int),(99:Int)],(some 96)),([(115:Int),(116:Int),(97:Int),(114:Int),(116:Int)],(some 97))]) ∧
 ((y0 y39 y40 y41 y42 y43 y44 y45 y46 y47 y48) ∧
   Need ((y1 y39 y40 y41 y42 y43 y44 y45 y46 y47 y48)<(y1 z2 z3 z4 z5 z6 z7 z8 z9 z10 z11))))))))))))))))))) ∧
 ((y14≠[(116:Int),(111:Int),(107:Int),(101:Int),(110:Int)]) →
 (((y14=[(115:Int),(107:Int),(105:Int),(112:Int)]) →
 ((((decide (y13≠(2:Int)))=true) →
 (∃ y52 y53 y54:Int,
 (Need (E 88 [(.op (0,0) []),(.tv [] (.int .i64) (14:Int))] (hq0 z2 z3 z4 z5 z6 z7 z8 z9 z10 z11) (.op (1,0) []) (hq1 y52 y53 y54 z2 z3 z4 z5 z6 z7 z8 z9 z10 z11)) ∧
 (Q (.op (1,0) []) (hq1 y52 y53 y54 z2 z3 z4 z5 z6 z7 z8 z9 z10 z11))))) ∧
 (((decide (y13≠(2:Int)))=false) →
 (Need ((-9223372036854775808≤(z3+1))∧((z3+1)≤9223372036854775807)) ∧
 ((∃ y56 y57 y58:Int,
 (∃ y59:qT2,
 (∃ y60:Int,
 (∃ y61:qT6,
 (∃ y62:qT9,
 (∃ y63:qT4,
 (∃ y64:qT0,
 (∃ y65:qT3,
 (∃ y66:Bool,
 (∃ y67 y68:qT5,
 (Need (E 95 [(.op (0,0) []),(.tv [] qt1 (y13,(y14,((y15,(y16,())),()))))] (hq3 z2 z3 (1:Int) z4 z5 z6 z7 z8 z9 z10 z11) (.op (1,0) []) (hq1 y56 y57 y58 y59 y60 y61 y62 y63 y64 y65 y66 y67 y68)) ∧
 (Q (.op (1,0) []) (hq1 y56 y57 y58 y59 y60 y61 y62 y63 y64 y65 y66 y67 y68))))))))))))) ∨
 (∃ y69:qT2,
 (∃ y70:Int,
 (∃ y71:qT6,
 (∃ y72:qT9,
 (∃ y73:qT4,
 (∃ y74:qT0,
 (∃ y75:qT3,
 (∃ y76:Bool,
 (∃ y77 y78:qT5,
 (Need (E 95 [(.op (0,0) []),(.tv [] qt1 (y13,(y14,((y15,(y16,())),()))))] (hq3 z2 z3 (1:Int) z4 z5 z6 z7 z8 z9 z10 z11) (.tv [] .ref (Option.none )) (hq0 y69 y70 y71 y72 y73 y74 y75 y76 y77 y78)) ∧
 (Need ([([(116:Int),(111:Int),(107:Int),(101:Int),(110:Int)],(some 94)),([(115:Int),(107:Int),(105:Int),(112:Int)],(some 95)),([(108:Int),(101:Int),(102:Int),(116:Int)],(some 96)),([(114:Int),(105:Int),(103:Int),(104:Int),(116:Int)],(some 96)),([(110:Int),(111:Int),(110:Int),(97:Int),(115:Int),(115:Int),(111:Int),(99:Int)],(some 96)),([(115:Int),(116:Int),(97:Int),(114:Int),(116:Int)],(some 97))]=[([(116:Int),(111:Int),(107:Int),(101:Int),(110:Int)],(some 94)),([(115:Int),(107:Int),(105:Int),(112:Int)],(some 95)),([(108:Int),(101:Int),(102:Int),(116:Int)],(some 96)),([(114:Int),(105:Int),(103:Int),(104:Int),(116:Int)],(some 96)),([(110:Int),(111:Int),(110:Int),(97:Int),(115:Int),(115:Int),(111:Int),(99:Int)],(some 96)),([(115:Int),(116:Int),(97:Int),(114:Int),(116:Int)],(some 97))]) ∧
 ((y0 y69 y70 y71 y72 y73 y74 y75 y76 y77 y78) ∧
   Need ((y1 y69 y70 y71 y72 y73 y74 y75 y76 y77 y78)<(y1 z2 z3 z4 z5 z6 z7 z8 z9 z10 z11))))))))))))))))))) ∧
 ((y14≠[(115:Int),(107:Int),(105:Int),(112:Int)]) →
 (((y14=[(108:Int),(101:Int),(102:Int),(116:Int)]) →
 ((((decide (y13≠(2:Int)))=true) →
 (∃ y82 y83 y84:Int,
 (Need (E 88 [(.op (0,0) []),(.tv [] (.int .i64) (14:Int))] (hq0 z2 z3 z4 z5 z6 z7 z8 z9 z10 z11) (.op (1,0) []) (hq1 y82 y83 y84 z2 z3 z4 z5 z6 z7 z8 z9 z10 z11)) ∧
 (Q (.op (1,0) []) (hq1 y82 y83 y84 z2 z3 z4 z5 z6 z7 z8 z9 z10 z11))))) ∧
 (((decide (y13≠(2:Int)))=false) →
 (Need ((-9223372036854775808≤(z3+1))∧((z3+1)≤9223372036854775807)) ∧
 ((∃ y86 y87 y88:Int,
 (∃ y89:qT2,
 (∃ y90:Int,
 (∃ y91:qT6,
 (∃ y92:qT9,
 (∃ y93:qT4,
 (∃ y94:qT0,
 (∃ y95:qT3,
 (∃ y96:Bool,
 (∃ y97 y98:qT5,
 (Need (E 96 [(.op (0,0) []),(.tv [] qt1 (y13,(y14,((y15,(y16,())),()))))] (hq3 z2 z3 (1:Int) z4 z5 z6 z7 z8 z9 z10 z11) (.op (1,0) []) (hq1 y86 y87 y88 y89 y90 y91 y92 y93 y94 y95 y96 y97 y98)) ∧
 (Q (.op (1,0) []) (hq1 y86 y87 y88 y89 y90 y91 y92 y93 y94 y95 y96 y97 y98))))))))))))) ∨
 (∃ y99:qT2,
 (∃ y100:Int,
 (∃ y101:qT6,
 (∃ y102:qT9,
 (∃ y103:qT4,
 (∃ y104:qT0,
 (∃ y105:qT3,
 (∃ y106:Bool,
 (∃ y107 y108:qT5,
 (Need (E 96 [(.op (0,0) []),(.tv [] qt1 (y13,(y14,((y15,(y16,())),()))))] (hq3 z2 z3 (1:Int) z4 z5 z6 z7 z8 z9 z10 z11) (.tv [] .ref (Option.none )) (hq0 y99 y100 y101 y102 y103 y104 y105 y106 y107 y108)) ∧
 (Need ([([(116:Int),(111:Int),(107:Int),(101:Int),(110:Int)],(some 94)),([(115:Int),(107:Int),(105:Int),(112:Int)],(some 95)),([(108:Int),(101:Int),(102:Int),(116:Int)],(some 96)),([(114:Int),(105:Int),(103:Int),(104:Int),(116:Int)],(some 96)),([(110:Int),(111:Int),(110:Int),(97:Int),(115:Int),(115:Int),(111:Int),(99:Int)],(some 96)),([(115:Int),(116:Int),(97:Int),(114:Int),(116:Int)],(some 97))]=[([(116:Int),(111:Int),(107:Int),(101:Int),(110:Int)],(some 94)),([(115:Int),(107:Int),(105:Int),(112:Int)],(some 95)),([(108:Int),(101:Int),(102:Int),(116:Int)],(some 96)),([(114:Int),(105:Int),(103:Int),(104:Int),(116:Int)],(some 96)),([(110:Int),(111:Int),(110:Int),(97:Int),(115:Int),(115:Int),(111:Int),(99:Int)],(some 96)),([(115:Int),(116:Int),(97:Int),(114:Int),(116:Int)],(some 97))]) ∧
 ((y0 y99 y100 y101 y102 y103 y104 y105 y106 y107 y108) ∧
   Need ((y1 y99 y100 y101 y102 y103 y104 y105 y106 y107 y108)<(y1 z2 z3 z4 z5 z6 z7 z8 z9 z10 z11))))))))))))))))))) ∧
 ((y14≠[(108:Int),(101:Int),(102:Int),(116:Int)]) →
 (((y14=[(114:Int),(105:Int),(103:Int),(104:Int),(116:Int)]) →
 ((((decide (y13≠(2:Int)))=true) →
 (∃ y112 y113 y114:Int,
 (Need (E 88 [(.op (0,0) []),(.tv [] (.int .i64) (14:Int))] (hq0 z2 z3 z4 z5 z6 z7 z8 z9 z10 z11) (.op (1,0) []) (hq1 y112 y113 y114 z2 z3 z4 z5 z6 z7 z8 z9 z10 z11)) ∧
 (Q (.op (1,0) []) (hq1 y112 y113 y114 z2 z3 z4 z5 z6 z7 z8 z9 z10 z11))))) ∧
 (((decide (y13≠(2:Int)))=false) →
 (Need ((-9223372036854775808≤(z3+1))∧((z3+1)≤9223372036854775807)) ∧
 ((∃ y116 y117 y118:Int,
 (∃ y119:qT2,
 (∃ y120:Int,
 (∃ y121:qT6,
 (∃ y122:qT9,
 (∃ y123:qT4,
 (∃ y124:qT0,
 (∃ y125:qT3,
 (∃ y126:Bool,
 (∃ y127 y128:qT5,
 (Need (E 96 [(.op (0,0) []),(.tv [] qt1 (y13,(y14,((y15,(y16,())),()))))] (hq3 z2 z3 (1:Int) z4 z5 z6 z7 z8 z9 z10 z11) (.op (1,0) []) (hq1 y116 y117 y118 y119 y120 y121 y122 y123 y124 y125 y126 y127 y128)) ∧
 (Q (.op (1,0) []) (hq1 y116 y117 y118 y119 y120 y121 y122 y123 y124 y125 y126 y127 y128))))))))))))) ∨
 (∃ y129:qT2,
 (∃ y130:Int,
 (∃ y131:qT6,
 (∃ y132:qT9,
 (∃ y133:qT4,
 (∃ y134:qT0,
 (∃ y135:qT3,
 (∃ y136:Bool,
 (∃ y137 y138:qT5,
 (Need (E 96 [(.op (0,0) []),(.tv [] qt1 (y13,(y14,((y15,(y16,())),()))))] (hq3 z2 z3 (1:Int) z4 z5 z6 z7 z8 z9 z10 z11) (.tv [] .ref (Option.none )) (hq0 y129 y130 y131 y132 y133 y134 y135 y136 y137 y138)) ∧
 (Need ([([(116:Int),(111:Int),(107:Int),(101:Int),(110:Int)],(some 94)),([(115:Int),(107:Int),(105:Int),(112:Int)],(some 95)),([(108:Int),(101:Int),(102:Int),(116:Int)],(some 96)),([(114:Int),(105:Int),(103:Int),(104:Int),(116:Int)],(some 96)),([(110:Int),(111:Int),(110:Int),(97:Int),(115:Int),(115:Int),(111:Int),(99:Int)],(some 96)),([(115:Int),(116:Int),(97:Int),(114:Int),(116:Int)],(some 97))]=[([(116:Int),(111:Int),(107:Int),(101:Int),(110:Int)],(some 94)),([(115:Int),(107:Int),(105:Int),(112:Int)],(some 95)),([(108:Int),(101:Int),(102:Int),(116:Int)],(some 96)),([(114:Int),(105:Int),(103:Int),(104:Int),(116:Int)],(some 96)),([(110:Int),(111:Int),(110:Int),(97:Int),(115:Int),(115:Int),(111:Int),(99:Int)],(some 96)),([(115:Int),(116:Int),(97:Int),(114:Int),(116:Int)],(some 97))]) ∧
 ((y0 y129 y130 y131 y132 y133 y134 y135 y136 y137 y138) ∧
   Need ((y1 y129 y130 y131 y132 y133 y134 y135 y136 y137 y138)<(y1 z2 z3 z4 z5 z6 z7 z8 z9 z10 z11))))))))))))))))))) ∧
 ((y14≠[(114:Int),(105:Int),(103:Int),(104:Int),(116:Int)]) →
 (((y14=[(110:Int),(111:Int),(110:Int),(97:Int),(115:Int),(115:Int),(111:Int),(99:Int)]) →
 ((((decide (y13≠(2:Int)))=true) →
 (∃ y142 y143 y144:Int,
 (Need (E 88 [(.op (0,0) []),(.tv [] (.int .i64) (14:Int))] (hq0 z2 z3 z4 z5 z6 z7 z8 z9 z10 z11) (.op (1,0) []) (hq1 y142 y143 y144 z2 z3 z4 z5 z6 z7 z8 z9 z10 z11)) ∧
 (Q (.op (1,0) []) (hq1 y142 y143 y144 z2 z3 z4 z5 z6 z7 z8 z9 z10 z11))))) ∧
 (((decide (y13≠(2:Int)))=false) →
 (Need ((-9223372036854775808≤(z3+1))∧((z3+1)≤9223372036854775807)) ∧
 ((∃ y146 y147 y148:Int,
 (∃ y149:qT2,
 (∃ y150:Int,
 (∃ y151:qT6,
 (∃ y152:qT9,
 (∃ y153:qT4,
 (∃ y154:qT0,
 (∃ y155:qT3,
 (∃ y156:Bool,
 (∃ y157 y158:qT5,
 (Need (E 96 [(.op (0,0) []),(.tv [] qt1 (y13,(y14,((y15,(y16,())),()))))] (hq3 z2 z3 (1:Int) z4 z5 z6 z7 z8 z9 z10 z11) (.op (1,0) []) (hq1 y146 y147 y148 y149 y150 y151 y152 y153 y154 y155 y156 y157 y158)) ∧
 (Q (.op (1,0) []) (hq1 y146 y147 y148 y149 y150 y151 y152 y153 y154 y155 y156 y157 y158))))))))))))) ∨
 (∃ y159:qT2,
 (∃ y160:Int,
 (∃ y161:qT6,
 (∃ y162:qT9,
 (∃ y163:qT4,
 (∃ y164:qT0,
 (∃ y165:qT3,
 (∃ y166:Bool,
 (∃ y167 y168:qT5,
 (Need (E 96 [(.op (0,0) []),(.tv [] qt1 (y13,(y14,((y15,(y16,())),()))))] (hq3 z2 z3 (1:Int) z4 z5 z6 z7 z8 z9 z10 z11) (.tv [] .ref (Option.none )) (hq0 y159 y160 y161 y162 y163 y164 y165 y166 y167 y168)) ∧
 (Need ([([(116:Int),(111:Int),(107:Int),(101:Int),(110:Int)],(some 94)),([(115:Int),(107:Int),(105:Int),(112:Int)],(some 95)),([(108:Int),(101:Int),(102:Int),(116:Int)],(some 96)),([(114:Int),(105:Int),(103:Int),(104:Int),(116:Int)],(some 96)),([(110:Int),(111:Int),(110:Int),(97:Int),(115:Int),(115:Int),(111:Int),(99:Int)],(some 96)),([(115:Int),(116:Int),(97:Int),(114:Int),(116:Int)],(some 97))]=[([(116:Int),(111:Int),(107:Int),(101:Int),(110:Int)],(some 94)),([(115:Int),(107:Int),(105:Int),(112:Int)],(some 95)),([(108:Int),(101:Int),(102:Int),(116:Int)],(some 96)),([(114:Int),(105:Int),(103:Int),(104:Int),(116:Int)],(some 96)),([(110:Int),(111:Int),(110:Int),(97:Int),(115:Int),(115:Int),(111:Int),(99:Int)],(some 96)),([(115:Int),(116:Int),(97:Int),(114:Int),(116:Int)],(some 97))]) ∧
 ((y0 y159 y160 y161 y162 y163 y164 y165 y166 y167 y168) ∧
   Need ((y1 y159 y160 y161 y162 y163 y164 y165 y166 y167 y168)<(y1 z2 z3 z4 z5 z6 z7 z8 z9 z10 z11))))))))))))))))))) ∧
 ((y14≠[(110:Int),(111:Int),(110:Int),(97:Int),(115:Int),(115:Int),(111:Int),(99:Int)]) →
 (((y14=[(115:Int),(116:Int),(97:Int),(114:Int),(116:Int)]) →
 ((((decide (y13≠(2:Int)))=true) →
 (∃ y172 y173 y174:Int,
 (Need (E 88 [(.op (0,0) []),(.tv [] (.int .i64) (14:Int))] (hq0 z2 z3 z4 z5 z6 z7 z8 z9 z10 z11) (.op (1,0) []) (hq1 y172 y173 y174 z2 z3 z4 z5 z6 z7 z8 z9 z10 z11)) ∧
 (Q (.op (1,0) []) (hq1 y172 y173 y174 z2 z3 z4 z5 z6 z7 z8 z9 z10 z11))))) ∧
 (((decide (y13≠(2:Int)))=false) →
 (Need ((-9223372036854775808≤(z3+1))∧((z3+1)≤9223372036854775807)) ∧
 ((∃ y176 y177 y178:Int,
 (∃ y179:qT2,
 (∃ y180:Int,
 (∃ y181:qT6,
 (∃ y182:qT9,
 (∃ y183:qT4,
 (∃ y184:qT0,
 (∃ y185:qT3,
 (∃ y186:Bool,
 (∃ y187 y188:qT5,
 (Need (E 97 [(.op (0,0) []),(.tv [] qt1 (y13,(y14,((y15,(y16,())),()))))] (hq3 z2 z3 (1:Int) z4 z5 z6 z7 z8 z9 z10 z11) (.op (1,0) []) (hq1 y176 y177 y178 y179 y180 y181 y182 y183 y184 y185 y186 y187 y188)) ∧
 (Q (.op (1,0) []) (hq1 y176 y177 y178 y179 y180 y181 y182 y183 y184 y185 y186 y187 y188))))))))))))) ∨
 (∃ y189:qT2,
 (∃ y190:Int,
 (∃ y191:qT6,
 (∃ y192:qT9,
 (∃ y193:qT4,
 (∃ y194:qT0,
 (∃ y195:qT3,
 (∃ y196:Bool,
 (∃ y197 y198:qT5,
 (Need (E 97 [(.op (0,0) []),(.tv [] qt1 (y13,(y14,((y15,(y16,())),()))))] (hq3 z2 z3 (1:Int) z4 z5 z6 z7 z8 z9 z10 z11) (.tv [] .ref (Option.none )) (hq0 y189 y190 y191 y192 y193 y194 y195 y196 y197 y198)) ∧
 (Need ([([(116:Int),(111:Int),(107:Int),(101:Int),(110:Int)],(some 94)),([(115:Int),(107:Int),(105:Int),(112:Int)],(some 95)),([(108:Int),(101:Int),(102:Int),(116:Int)],(some 96)),([(114:Int),(105:Int),(103:Int),(104:Int),(116:Int)],(some 96)),([(110:Int),(111:Int),(110:Int),(97:Int),(115:Int),(115:Int),(111:Int),(99:Int)],(some 96)),([(115:Int),(116:Int),(97:Int),(114:Int),(116:Int)],(some 97))]=[([(116:Int),(111:Int),(107:Int),(101:Int),(110:Int)],(some 94)),([(115:Int),(107:Int),(105:Int),(112:Int)],(some 95)),([(108:Int),(101:Int),(102:Int),(116:Int)],(some 96)),([(114:Int),(105:Int),(103:Int),(104:Int),(116:Int)],(some 96)),([(110:Int),(111:Int),(110:Int),(97:Int),(115:Int),(115:Int),(111:Int),(99:Int)],(some 96)),([(115:Int),(116:Int),(97:Int),(114:Int),(116:Int)],(some 97))]) ∧
 ((y0 y189 y190 y191 y192 y193 y194 y195 y196 y197 y198) ∧
   Need ((y1 y189 y190 y191 y192 y193 y194 y195 y196 y197 y198)<(y1 z2 z3 z4 z5 z6 z7 z8 z9 z10 z11))))))))))))))))))) ∧
 ((y14≠[(115:Int),(116:Int),(97:Int),(114:Int),(116:Int)]) →
 ((((decide (y13≠(2:Int)))=true) →
 (∃ y201 y202 y203:Int,
 (Need (E 88 [(.op (0,0) []),(.tv [] (.int .i64) (14:Int))] (hq0 z2 z3 z4 z5 z6 z7 z8 z9 z10 z11) (.op (1,0) []) (hq1 y201 y202 y203 z2 z3 z4 z5 z6 z7 z8 z9 z10 z11)) ∧
 (Q (.op (1,0) []) (hq1 y201 y202 y203 z2 z3 z4 z5 z6 z7 z8 z9 z10 z11))))) ∧
 (((decide (y13≠(2:Int)))=false) →
 (∃ y205 y206 y207:Int,
 (Need (E 88 [(.op (0,0) []),(.tv [] (.int .i64) (14:Int))] (hq0 z2 z3 z4 z5 z6 z7 z8 z9 z10 z11) (.op (1,0) []) (hq1 y205 y206 y207 z2 z3 z4 z5 z6 z7 z8 z9 z10 z11)) ∧
 (Q (.op (1,0) []) (hq1 y205 y206 y207 z2 z3 z4 z5 z6 z7 z8 z9 z10 z11))))))))))))))))))))) ∧
 (((decide (y13=(2:Int)))=false) →
 (((y14=[(116:Int),(111:Int),(107:Int),(101:Int),(110:Int)]) →
 ((((decide (y13≠(2:Int)))=true) →
 (∃ y211 y212 y213:Int,
 (Need (E 88 [(.op (0,0) []),(.tv [] (.int .i64) (14:Int))] (hq0 z2 z3 z4 z5 z6 z7 z8 z9 z10 z11) (.op (1,0) []) (hq1 y211 y212 y213 z2 z3 z4 z5 z6 z7 z8 z9 z10 z11)) ∧
 (Q (.op (1,0) []) (hq1 y211 y212 y213 z2 z3 z4 z5 z6 z7 z8 z9 z10 z11))))) ∧
 (((decide (y13≠(2:Int)))=false) →
 (Need ((-9223372036854775808≤(z3+1))∧((z3+1)≤9223372036854775807)) ∧
 ((∃ y215 y216 y217:Int,
 (∃ y218:qT2,
 (∃ y219:Int,
 (∃ y220:qT6,
 (∃ y221:qT9,
 (∃ y222:qT4,
 (∃ y223:qT0,
 (∃ y224:qT3,
 (∃ y225:Bool,
 (∃ y226 y227:qT5,
 (Need (E 94 [(.op (0,0) []),(.tv [] qt1 (y13,(y14,((y15,(y16,())),()))))] (hq3 z2 z3 (1:Int) z4 z5 z6 z7 z8 z9 z10 z11) (.op (1,0) []) (hq1 y215 y216 y217 y218 y219 y220 y221 y222 y223 y224 y225 y226 y227)) ∧
 (Q (.op (1,0) []) (hq1 y215 y216 y217 y218 y219 y220 y221 y222 y223 y224 y225 y226 y227))))))))))))) ∨
 (∃ y228:qT2,
 (∃ y229:Int,
 (∃ y230:qT6,
 (∃ y231:qT9,
 (∃ y232:qT4,
 (∃ y233:qT0,
 (∃ y234:qT3,
 (∃ y235:Bool,
 (∃ y236 y237:qT5,
 (Need (E 94 [(.op (0,0) []),(.tv [] qt1 (y13,(y14,((y15,(y16,())),()))))] (hq3 z2 z3 (1:Int) z4 z5 z6 z7 z8 z9 z10 z11) (.tv [] .ref (Option.none )) (hq0 y228 y229 y230 y231 y232 y233 y234 y235 y236 y237)) ∧
 (Need ([([(116:Int),(111:Int),(107:Int),(101:Int),(110:Int)],(some 94)),([(115:Int),(107:Int),(105:Int),(112:Int)],(some 95)),([(108:Int),(101:Int),(102:Int),(116:Int)],(some 96)),([(114:Int),(105:Int),(103:Int),(104:Int),(116:Int)],(some 96)),([(110:Int),(111:Int),(110:Int),(97:Int),(115:Int),(115:Int),(111:Int),(99:Int)],(some 96)),([(115:Int),(116:Int),(97:Int),(114:Int),(116:Int)],(some 97))]=[([(116:Int),(111:Int),(107:Int),(101:Int),(110:Int)],(some 94)),([(115:Int),(107:Int),(105:Int),(112:Int)],(some 95)),([(108:Int),(101:Int),(102:Int),(116:Int)],(some 96)),([(114:Int),(105:Int),(103:Int),(104:Int),(116:Int)],(some 96)),([(110:Int),(111:Int),(110:Int),(97:Int),(115:Int),(115:Int),(111:Int),(99:Int)],(some 96)),([(115:Int),(116:Int),(97:Int),(114:Int),(116:Int)],(some 97))]) ∧
 ((y0 y228 y229 y230 y231 y232 y233 y234 y235 y236 y237) ∧
  Need ((y1 y228 y229 y230 y231 y232 y233 y234 y235 y236 y237)<(y1 z2 z3 z4 z5 z6 z7 z8 z9 z10 z11))))))))))))))))))) ∧
 ((y14≠[(116:Int),(111:Int),(107:Int),(101:Int),(110:Int)]) →
 (((y14=[(115:Int),(107:Int),(105:Int),(112:Int)]) →
 ((((decide (y13≠(2:Int)))=true) →
 (∃ y241 y242 y243:Int,
 (Need (E 88 [(.op (0,0) []),(.tv [] (.int .i64) (14:Int))] (hq0 z2 z3 z4 z5 z6 z7 z8 z9 z10 z11) (.op (1,0) []) (hq1 y241 y242 y243 z2 z3 z4 z5 z6 z7 z8 z9 z10 z11)) ∧
 (Q (.op (1,0) []) (hq1 y241 y242 y243 z2 z3 z4 z5 z6 z7 z8 z9 z10 z11))))) ∧
 (((decide (y13≠(2:Int)))=false) →
 (Need ((-9223372036854775808≤(z3+1))∧((z3+1)≤9223372036854775807)) ∧
 ((∃ y245 y246 y247:Int,
 (∃ y248:qT2,
 (∃ y249:Int,
 (∃ y250:qT6,
 (∃ y251:qT9,
 (∃ y252:qT4,
 (∃ y253:qT0,
 (∃ y254:qT3,
 (∃ y255:Bool,
 (∃ y256 y257:qT5,
 (Need (E 95 [(.op (0,0) []),(.tv [] qt1 (y13,(y14,((y15,(y16,())),()))))] (hq3 z2 z3 (1:Int) z4 z5 z6 z7 z8 z9 z10 z11) (.op (1,0) []) (hq1 y245 y246 y247 y248 y249 y250 y251 y252 y253 y254 y255 y256 y257)) ∧
 (Q (.op (1,0) []) (hq1 y245 y246 y247 y248 y249 y250 y251 y252 y253 y254 y255 y256 y257))))))))))))) ∨
 (∃ y258:qT2,
 (∃ y259:Int,
 (∃ y260:qT6,
 (∃ y261:qT9,
 (∃ y262:qT4,
 (∃ y263:qT0,
 (∃ y264:qT3,
 (∃ y265:Bool,
 (∃ y266 y267:qT5,
 (Need (E 95 [(.op (0,0) []),(.tv [] qt1 (y13,(y14,((y15,(y16,())),()))))] (hq3 z2 z3 (1:Int) z4 z5 z6 z7 z8 z9 z10 z11) (.tv [] .ref (Option.none )) (hq0 y258 y259 y260 y261 y262 y263 y264 y265 y266 y267)) ∧
 (Need ([([(116:Int),(111:Int),(107:Int),(101:Int),(110:Int)],(some 94)),([(115:Int),(107:Int),(105:Int),(112:Int)],(some 95)),([(108:Int),(101:Int),(102:Int),(116:Int)],(some 96)),([(114:Int),(105:Int),(103:Int),(104:Int),(116:Int)],(some 96)),([(110:Int),(111:Int),(110:Int),(97:Int),(115:Int),(115:Int),(111:Int),(99:Int)],(some 96)),([(115:Int),(116:Int),(97:Int),(114:Int),(116:Int)],(some 97))]=[([(116:Int),(111:Int),(107:Int),(101:Int),(110:Int)],(some 94)),([(115:Int),(107:Int),(105:Int),(112:Int)],(some 95)),([(108:Int),(101:Int),(102:Int),(116:Int)],(some 96)),([(114:Int),(105:Int),(103:Int),(104:Int),(116:Int)],(some 96)),([(110:Int),(111:Int),(110:Int),(97:Int),(115:Int),(115:Int),(111:Int),(99:Int)],(some 96)),([(115:Int),(116:Int),(97:Int),(114:Int),(116:Int)],(some 97))]) ∧
 ((y0 y258 y259 y260 y261 y262 y263 y264 y265 y266 y267) ∧
  Need ((y1 y258 y259 y260 y261 y262 y263 y264 y265 y266 y267)<(y1 z2 z3 z4 z5 z6 z7 z8 z9 z10 z11))))))))))))))))))) ∧
 ((y14≠[(115:Int),(107:Int),(105:Int),(112:Int)]) →
 (((y14=[(108:Int),(101:Int),(102:Int),(116:Int)]) →
 ((((decide (y13≠(2:Int)))=true) →
 (∃ y271 y272 y273:Int,
 (Need (E 88 [(.op (0,0) []),(.tv [] (.int .i64) (14:Int))] (hq0 z2 z3 z4 z5 z6 z7 z8 z9 z10 z11) (.op (1,0) []) (hq1 y271 y272 y273 z2 z3 z4 z5 z6 z7 z8 z9 z10 z11)) ∧
 (Q (.op (1,0) []) (hq1 y271 y272 y273 z2 z3 z4 z5 z6 z7 z8 z9 z10 z11))))) ∧
 (((decide (y13≠(2:Int)))=false) →
 (Need ((-9223372036854775808≤(z3+1))∧((z3+1)≤9223372036854775807)) ∧
 ((∃ y275 y276 y277:Int,
 (∃ y278:qT2,
 (∃ y279:Int,
 (∃ y280:qT6,
 (∃ y281:qT9,
 (∃ y282:qT4,
 (∃ y283:qT0,
 (∃ y284:qT3,
 (∃ y285:Bool,
 (∃ y286 y287:qT5,
 (Need (E 96 [(.op (0,0) []),(.tv [] qt1 (y13,(y14,((y15,(y16,())),()))))] (hq3 z2 z3 (1:Int) z4 z5 z6 z7 z8 z9 z10 z11) (.op (1,0) []) (hq1 y275 y276 y277 y278 y279 y280 y281 y282 y283 y284 y285 y286 y287)) ∧
 (Q (.op (1,0) []) (hq1 y275 y276 y277 y278 y279 y280 y281 y282 y283 y284 y285 y286 y287))))))))))))) ∨
 (∃ y288:qT2,
 (∃ y289:Int,
 (∃ y290:qT6,
 (∃ y291:qT9,
 (∃ y292:qT4,
 (∃ y293:qT0,
 (∃ y294:qT3,
 (∃ y295:Bool,
 (∃ y296 y297:qT5,
 (Need (E 96 [(.op (0,0) []),(.tv [] qt1 (y13,(y14,((y15,(y16,())),()))))] (hq3 z2 z3 (1:Int) z4 z5 z6 z7 z8 z9 z10 z11) (.tv [] .ref (Option.none )) (hq0 y288 y289 y290 y291 y292 y293 y294 y295 y296 y297)) ∧
 (Need ([([(116:Int),(111:Int),(107:Int),(101:Int),(110:Int)],(some 94)),([(115:Int),(107:Int),(105:Int),(112:Int)],(some 95)),([(108:Int),(101:Int),(102:Int),(116:Int)],(some 96)),([(114:Int),(105:Int),(103:Int),(104:Int),(116:Int)],(some 96)),([(110:Int),(111:Int),(110:Int),(97:Int),(115:Int),(115:Int),(111:Int),(99:Int)],(some 96)),([(115:Int),(116:Int),(97:Int),(114:Int),(116:Int)],(some 97))]=[([(116:Int),(111:Int),(107:Int),(101:Int),(110:Int)],(some 94)),([(115:Int),(107:Int),(105:Int),(112:Int)],(some 95)),([(108:Int),(101:Int),(102:Int),(116:Int)],(some 96)),([(114:Int),(105:Int),(103:Int),(104:Int),(116:Int)],(some 96)),([(110:Int),(111:Int),(110:Int),(97:Int),(115:Int),(115:Int),(111:Int),(99:Int)],(some 96)),([(115:Int),(116:Int),(97:Int),(114:Int),(116:Int)],(some 97))]) ∧
 ((y0 y288 y289 y290 y291 y292 y293 y294 y295 y296 y297) ∧
  Need ((y1 y288 y289 y290 y291 y292 y293 y294 y295 y296 y297)<(y1 z2 z3 z4 z5 z6 z7 z8 z9 z10 z11))))))))))))))))))) ∧
 ((y14≠[(108:Int),(101:Int),(102:Int),(116:Int)]) →
 (((y14=[(114:Int),(105:Int),(103:Int),(104:Int),(116:Int)]) →
 ((((decide (y13≠(2:Int)))=true) →
 (∃ y301 y302 y303:Int,
 (Need (E 88 [(.op (0,0) []),(.tv [] (.int .i64) (14:Int))] (hq0 z2 z3 z4 z5 z6 z7 z8 z9 z10 z11) (.op (1,0) []) (hq1 y301 y302 y303 z2 z3 z4 z5 z6 z7 z8 z9 z10 z11)) ∧
 (Q (.op (1,0) []) (hq1 y301 y302 y303 z2 z3 z4 z5 z6 z7 z8 z9 z10 z11))))) ∧
 (((decide (y13≠(2:Int)))=false) →
 (Need ((-9223372036854775808≤(z3+1))∧((z3+1)≤9223372036854775807)) ∧
 ((∃ y305 y306 y307:Int,
 (∃ y308:qT2,
 (∃ y309:Int,
 (∃ y310:qT6,
 (∃ y311:qT9,
 (∃ y312:qT4,
 (∃ y313:qT0,
 (∃ y314:qT3,
 (∃ y315:Bool,
 (∃ y316 y317:qT5,
 (Need (E 96 [(.op (0,0) []),(.tv [] qt1 (y13,(y14,((y15,(y16,())),()))))] (hq3 z2 z3 (1:Int) z4 z5 z6 z7 z8 z9 z10 z11) (.op (1,0) []) (hq1 y305 y306 y307 y308 y309 y310 y311 y312 y313 y314 y315 y316 y317)) ∧
 (Q (.op (1,0) []) (hq1 y305 y306 y307 y308 y309 y310 y311 y312 y313 y314 y315 y316 y317))))))))))))) ∨
 (∃ y318:qT2,
 (∃ y319:Int,
 (∃ y320:qT6,
 (∃ y321:qT9,
 (∃ y322:qT4,
 (∃ y323:qT0,
 (∃ y324:qT3,
 (∃ y325:Bool,
 (∃ y326 y327:qT5,
 (Need (E 96 [(.op (0,0) []),(.tv [] qt1 (y13,(y14,((y15,(y16,())),()))))] (hq3 z2 z3 (1:Int) z4 z5 z6 z7 z8 z9 z10 z11) (.tv [] .ref (Option.none )) (hq0 y318 y319 y320 y321 y322 y323 y324 y325 y326 y327)) ∧
 (Need ([([(116:Int),(111:Int),(107:Int),(101:Int),(110:Int)],(some 94)),([(115:Int),(107:Int),(105:Int),(112:Int)],(some 95)),([(108:Int),(101:Int),(102:Int),(116:Int)],(some 96)),([(114:Int),(105:Int),(103:Int),(104:Int),(116:Int)],(some 96)),([(110:Int),(111:Int),(110:Int),(97:Int),(115:Int),(115:Int),(111:Int),(99:Int)],(some 96)),([(115:Int),(116:Int),(97:Int),(114:Int),(116:Int)],(some 97))]=[([(116:Int),(111:Int),(107:Int),(101:Int),(110:Int)],(some 94)),([(115:Int),(107:Int),(105:Int),(112:Int)],(some 95)),([(108:Int),(101:Int),(102:Int),(116:Int)],(some 96)),([(114:Int),(105:Int),(103:Int),(104:Int),(116:Int)],(some 96)),([(110:Int),(111:Int),(110:Int),(97:Int),(115:Int),(115:Int),(111:Int),(99:Int)],(some 96)),([(115:Int),(116:Int),(97:Int),(114:Int),(116:Int)],(some 97))]) ∧
 ((y0 y318 y319 y320 y321 y322 y323 y324 y325 y326 y327) ∧
  Need ((y1 y318 y319 y320 y321 y322 y323 y324 y325 y326 y327)<(y1 z2 z3 z4 z5 z6 z7 z8 z9 z10 z11))))))))))))))))))) ∧
 ((y14≠[(114:Int),(105:Int),(103:Int),(104:Int),(116:Int)]) →
 (((y14=[(110:Int),(111:Int),(110:Int),(97:Int),(115:Int),(115:Int),(111:Int),(99:Int)]) →
 ((((decide (y13≠(2:Int)))=true) →
 (∃ y331 y332 y333:Int,
 (Need (E 88 [(.op (0,0) []),(.tv [] (.int .i64) (14:Int))] (hq0 z2 z3 z4 z5 z6 z7 z8 z9 z10 z11) (.op (1,0) []) (hq1 y331 y332 y333 z2 z3 z4 z5 z6 z7 z8 z9 z10 z11)) ∧
 (Q (.op (1,0) []) (hq1 y331 y332 y333 z2 z3 z4 z5 z6 z7 z8 z9 z10 z11))))) ∧
 (((decide (y13≠(2:Int)))=false) →
 (Need ((-9223372036854775808≤(z3+1))∧((z3+1)≤9223372036854775807)) ∧
 ((∃ y335 y336 y337:Int,
 (∃ y338:qT2,
 (∃ y339:Int,
 (∃ y340:qT6,
 (∃ y341:qT9,
 (∃ y342:qT4,
 (∃ y343:qT0,
 (∃ y344:qT3,
 (∃ y345:Bool,
 (∃ y346 y347:qT5,
 (Need (E 96 [(.op (0,0) []),(.tv [] qt1 (y13,(y14,((y15,(y16,())),()))))] (hq3 z2 z3 (1:Int) z4 z5 z6 z7 z8 z9 z10 z11) (.op (1,0) []) (hq1 y335 y336 y337 y338 y339 y340 y341 y342 y343 y344 y345 y346 y347)) ∧
 (Q (.op (1,0) []) (hq1 y335 y336 y337 y338 y339 y340 y341 y342 y343 y344 y345 y346 y347))))))))))))) ∨
 (∃ y348:qT2,
 (∃ y349:Int,
 (∃ y350:qT6,
 (∃ y351:qT9,
 (∃ y352:qT4,
 (∃ y353:qT0,
 (∃ y354:qT3,
 (∃ y355:Bool,
 (∃ y356 y357:qT5,
 (Need (E 96 [(.op (0,0) []),(.tv [] qt1 (y13,(y14,((y15,(y16,())),()))))] (hq3 z2 z3 (1:Int) z4 z5 z6 z7 z8 z9 z10 z11) (.tv [] .ref (Option.none )) (hq0 y348 y349 y350 y351 y352 y353 y354 y355 y356 y357)) ∧
 (Need ([([(116:Int),(111:Int),(107:Int),(101:Int),(110:Int)],(some 94)),([(115:Int),(107:Int),(105:Int),(112:Int)],(some 95)),([(108:Int),(101:Int),(102:Int),(116:Int)],(some 96)),([(114:Int),(105:Int),(103:Int),(104:Int),(116:Int)],(some 96)),([(110:Int),(111:Int),(110:Int),(97:Int),(115:Int),(115:Int),(111:Int),(99:Int)],(some 96)),([(115:Int),(116:Int),(97:Int),(114:Int),(116:Int)],(some 97))]=[([(116:Int),(111:Int),(107:Int),(101:Int),(110:Int)],(some 94)),([(115:Int),(107:Int),(105:Int),(112:Int)],(some 95)),([(108:Int),(101:Int),(102:Int),(116:Int)],(some 96)),([(114:Int),(105:Int),(103:Int),(104:Int),(116:Int)],(some 96)),([(110:Int),(111:Int),(110:Int),(97:Int),(115:Int),(115:Int),(111:Int),(99:Int)],(some 96)),([(115:Int),(116:Int),(97:Int),(114:Int),(116:Int)],(some 97))]) ∧
 ((y0 y348 y349 y350 y351 y352 y353 y354 y355 y356 y357) ∧
  Need ((y1 y348 y349 y350 y351 y352 y353 y354 y355 y356 y357)<(y1 z2 z3 z4 z5 z6 z7 z8 z9 z10 z11))))))))))))))))))) ∧
 ((y14≠[(110:Int),(111:Int),(110:Int),(97:Int),(115:Int),(115:Int),(111:Int),(99:Int)]) →
 (((y14=[(115:Int),(116:Int),(97:Int),(114:Int),(116:Int)]) →
 ((((decide (y13≠(2:Int)))=true) →
 (∃ y361 y362 y363:Int,
 (Need (E 88 [(.op (0,0) []),(.tv [] (.int .i64) (14:Int))] (hq0 z2 z3 z4 z5 z6 z7 z8 z9 z10 z11) (.op (1,0) []) (hq1 y361 y362 y363 z2 z3 z4 z5 z6 z7 z8 z9 z10 z11)) ∧
 (Q (.op (1,0) []) (hq1 y361 y362 y363 z2 z3 z4 z5 z6 z7 z8 z9 z10 z11))))) ∧
 (((decide (y13≠(2:Int)))=false) →
 (Need ((-9223372036854775808≤(z3+1))∧((z3+1)≤9223372036854775807)) ∧
 ((∃ y365 y366 y367:Int,
 (∃ y368:qT2,
 (∃ y369:Int,
 (∃ y370:qT6,
 (∃ y371:qT9,
 (∃ y372:qT4,
 (∃ y373:qT0,
 (∃ y374:qT3,
 (∃ y375:Bool,
 (∃ y376 y377:qT5,
 (Need (E 97 [(.op (0,0) []),(.tv [] qt1 (y13,(y14,((y15,(y16,())),()))))] (hq3 z2 z3 (1:Int) z4 z5 z6 z7 z8 z9 z10 z11) (.op (1,0) []) (hq1 y365 y366 y367 y368 y369 y370 y371 y372 y373 y374 y375 y376 y377)) ∧
 (Q (.op (1,0) []) (hq1 y365 y366 y367 y368 y369 y370 y371 y372 y373 y374 y375 y376 y377))))))))))))) ∨
 (∃ y378:qT2,
 (∃ y379:Int,
 (∃ y380:qT6,
 (∃ y381:qT9,
 (∃ y382:qT4,
 (∃ y383:qT0,
 (∃ y384:qT3,
 (∃ y385:Bool,
 (∃ y386 y387:qT5,
 (Need (E 97 [(.op (0,0) []),(.tv [] qt1 (y13,(y14,((y15,(y16,())),()))))] (hq3 z2 z3 (1:Int) z4 z5 z6 z7 z8 z9 z10 z11) (.tv [] .ref (Option.none )) (hq0 y378 y379 y380 y381 y382 y383 y384 y385 y386 y387)) ∧
 (Need ([([(116:Int),(111:Int),(107:Int),(101:Int),(110:Int)],(some 94)),([(115:Int),(107:Int),(105:Int),(112:Int)],(some 95)),([(108:Int),(101:Int),(102:Int),(116:Int)],(some 96)),([(114:Int),(105:Int),(103:Int),(104:Int),(116:Int)],(some 96)),([(110:Int),(111:Int),(110:Int),(97:Int),(115:Int),(115:Int),(111:Int),(99:Int)],(some 96)),([(115:Int),(116:Int),(97:Int),(114:Int),(116:Int)],(some 97))]=[([(116:Int),(111:Int),(107:Int),(101:Int),(110:Int)],(some 94)),([(115:Int),(107:Int),(105:Int),(112:Int)],(some 95)),([(108:Int),(101:Int),(102:Int),(116:Int)],(some 96)),([(114:Int),(105:Int),(103:Int),(104:Int),(116:Int)],(some 96)),([(110:Int),(111:Int),(110:Int),(97:Int),(115:Int),(115:Int),(111:Int),(99:Int)],(some 96)),([(115:Int),(116:Int),(97:Int),(114:Int),(116:Int)],(some 97))]) ∧
 ((y0 y378 y379 y380 y381 y382 y383 y384 y385 y386 y387) ∧
  Need ((y1 y378 y379 y380 y381 y382 y383 y384 y385 y386 y387)<(y1 z2 z3 z4 z5 z6 z7 z8 z9 z10 z11))))))))))))))))))) ∧
 ((y14≠[(115:Int),(116:Int),(97:Int),(114:Int),(116:Int)]) →
 ((((decide (y13≠(2:Int)))=true) →
 (∃ y390 y391 y392:Int,
 (Need (E 88 [(.op (0,0) []),(.tv [] (.int .i64) (14:Int))] (hq0 z2 z3 z4 z5 z6 z7 z8 z9 z10 z11) (.op (1,0) []) (hq1 y390 y391 y392 z2 z3 z4 z5 z6 z7 z8 z9 z10 z11)) ∧
 (Q (.op (1,0) []) (hq1 y390 y391 y392 z2 z3 z4 z5 z6 z7 z8 z9 z10 z11))))) ∧
 (((decide (y13≠(2:Int)))=false) →
 (∃ y394 y395 y396:Int,
 (Need (E 88 [(.op (0,0) []),(.tv [] (.int .i64) (14:Int))] (hq0 z2 z3 z4 z5 z6 z7 z8 z9 z10 z11) (.op (1,0) []) (hq1 y394 y395 y396 z2 z3 z4 z5 z6 z7 z8 z9 z10 z11)) ∧
 (Q (.op (1,0) []) (hq1 y394 y395 y396 z2 z3 z4 z5 z6 z7 z8 z9 z10 z11))))))))))))))))))))))))))))))))))))))):EvF PP orc 72 [.op (0,0) []] [((0,0),⟨⟨(.pair qt5 (.pair (.int .i64) (.pair qt0 (.pair (.mref .str .bool) (.pair (.mref .str .bool) qt4))))),(o0_0,(o0_1,((o0_2_0,(o0_2_1,(o0_2_2,(o0_2_3,(o0_2_4,()))))),((some (0,1):Option Key),((some (0,2):Option Key),(o0_5,()))))))⟩,[[2,0],[2,1],[2,2],[2,4]]⟩),((0,1),⟨⟨.mp .str .bool,o0_3⟩,[]⟩),((0,2),⟨⟨.mp .str .bool,o0_4⟩,[]⟩)] Q:=vc_of (by kernel_rfl) h
end Go.Am.D
