/-
  A part of the proof of a law: see the text that states it.
-/
import Derived.Test.YtgfkdbplahpknaaHead
set_option linter.all false
namespace Go.Am.T
open Go
set_option maxRecDepth 100000
set_option maxHeartbeats 4000000
theorem vc33 (x0 : List ((Int × (Int × (Int × Unit))))) (x1 : List ((Int × (Int × (Int × Unit))))) (Q : AV → Heap → Prop) (h :
((((decide ((x0.length : Int) ≠ (x1.length : Int))) = true) →
 (Q (.tv [] .bool false) [])) ∧
 (((decide ((x0.length : Int) ≠ (x1.length : Int))) = false) →
 (∃ y2 : (Int → Prop),
 (∃ y3 : (Int → Nat),
 ((y2 (0 : Int)) ∧
 (∀ z4 : Int,
 ((y2 z4) →
 ((((decide (z4 < (x0.length : Int))) = true) →
 (Need ((0 ≤ z4) ∧ (z4 < (x0.length : Int))) ∧
 (Need ((0 ≤ z4) ∧ (z4 < (x1.length : Int))) ∧
 ((((!((decide ((List.getD x0 z4.toNat ((0 : Int), ((0 : Int), ((0 : Int), ())))).1 = (List.getD x1 z4.toNat ((0 : Int), ((0 : Int), ((0 : Int), ())))).1)) && ((decide ((List.getD x0 z4.toNat ((0 : Int), ((0 : Int), ((0 : Int), ())))).2.1 = (List.getD x1 z4.toNat ((0 : Int), ((0 : Int), ((0 : Int), ())))).2.1)) && ((decide ((List.getD x0 z4.toNat ((0 : Int), ((0 : Int), ((0 : Int), ())))).2.2.1 = (List.getD x1 z4.toNat ((0 : Int), ((0 : Int), ((0 : Int), ())))).2.2.1)) && true)))) = true) →
 (Q (.tv [] .bool false) [])) ∧
 (((!((decide ((List.getD x0 z4.toNat ((0 : Int), ((0 : Int), ((0 : Int), ())))).1 = (List.getD x1 z4.toNat ((0 : Int), ((0 : Int), ((0 : Int), ())))).1)) && ((decide ((List.getD x0 z4.toNat ((0 : Int), ((0 : Int), ((0 : Int), ())))).2.1 = (List.getD x1 z4.toNat ((0 : Int), ((0 : Int), ((0 : Int), ())))).2.1)) && ((decide ((List.getD x0 z4.toNat ((0 : Int), ((0 : Int), ((0 : Int), ())))).2.2.1 = (List.getD x1 z4.toNat ((0 : Int), ((0 : Int), ((0 : Int), ())))).2.2.1)) && true)))) = false) →
 (Need ((-9223372036854775808 ≤ (z4 + 1)) ∧ ((z4 + 1) ≤ 9223372036854775807)) ∧
 ((y2 (z4 + 1)) ∧
  Need ((y3 (z4 + 1)) < (y3 z4))))))))) ∧
 (((decide (z4 < (x0.length : Int))) = false) →
 (Q (.tv [] .bool true) []))))))))))) : EvF PP orc 33 [.tv [] (.slice qt1) x0, .tv [] (.slice qt1) x1] [] Q := vcF_ok (sg := sg) (Eq.mp (by kernel_rfl) h)
end Go.Am.T
namespace Go.Am.T
open Go
set_option maxRecDepth 100000
set_option maxHeartbeats 4000000
theorem vc8 (x0_0 : Int) (x0_1 : Int) (x0_2 : List (Int)) (x0_3 : List (List (Int))) (x0_4 : List (Int)) (x0_5 : List (Int)) (x0_6 : List (Int)) (x1 : Int) (x2 : List ((Int × (Int × (Int × ((Int × (Int × (Int × Unit))) × (List (Int) × Unit))))))) (x3 : Int) (Q : AV → Heap → Prop) (h :
(∃ y0 : Bool,
 (Need (E 9 [] [] (.tv [] .bool y0) []) ∧
 (∃ y1 : Bool,
 (Need (E 20 [(.tv [] qt9 (x0_0, (x0_1, (x0_2, (x0_3, (x0_4, (x0_5, (x0_6, ())))))))), (.tv [] (.int .i64) (20 : Int)), (.tv [] (.int .i64) (8 : Int))] [] (.tv [] .bool y1) []) ∧
 (∃ y2 : Bool,
 (Need (E 21 [(.tv [] (.slice qt11) x2)] [] (.tv [] .bool y2) []) ∧
 ((((!y1) = true) →
 (Q (.tv [] .bool y0) [])) ∧
 (((!y1) = false) →
 ((((!y2) = true) →
 (Q (.tv [] .bool y0) [])) ∧
 (((!y2) = false) →
 (∃ y7 y8 : qT7,
 (∃ y9 : qT4,
 (∃ y10 y11 : qT2,
 (∃ y12 : qT7,
 (Need (E 23 [(.tv [] qt9 (x0_0, (x0_1, (x0_2, (x0_3, (x0_4, (x0_5, (x0_6, ()))))))))] [] (.tv [] qt3 (y7, (y8, (y9, (y10, (y11, (y12, ()))))))) []) ∧
 (∃ y13 y14 y15 : Int,
 (Need (E 11 [(.tv [] (.int .i64) x1)] [] (.op (1, 0) []) (hq14 y13 y14 y15)) ∧
 (∃ y16 : Nat,
 (∃ y17 : qT0,
 (∃ y18 y19 : Nat,
 (∃ y20 y21 y22 y23 : Int,
 (Need (E 10 [(.op (0, 0) [])] (hq2 y13 y14 y15) (.op (1, 0) []) (hq13 y16 y17 y18 y19 y20 y21 y22 y23)) ∧
 (∃ y24 : Int,
 (Need (E 26 [(.tv [] (.int .i64) x1)] [] (.tv [] (.int .i64) y24) []) ∧
 (((false = true) →
 (Q (.tv [] .bool false) [])) ∧
 ((false = false) →
 (((false = true) →
 (Q (.tv [] .bool false) [])) ∧
 ((false = false) →
 (∃ y29 : (Int → (Int → (Int → (Int → (qT1 → (Int → (Int → (Int → (Int → (qT0 → (Int → (Int → (Int → (Int → (Int → (Int → Prop)))))))))))))))),
 (∃ y30 : (Int → (Int → (Int → (Int → (qT1 → (Int → (Int → (Int → (Int → (qT0 → (Int → (Int → (Int → (Int → (Int → (Int → Nat)))))))))))))))),
 (Need ((0 = 0) ∧ (y17.length = y17.length)) ∧
 ((y29 (0 : Int) ((0 : Nat) : Int) ((0 : Nat) : Int) ((0 : Nat) : Int) [] y24 (0 : Int) (0 : Int) (y16 : Int) y17 (y18 : Int) (y19 : Int) y20 y21 y22 y23) ∧
 (∀ z31 z32 z33 z34 : Int,
 (∀ z35 : qT1,
 (∀ z36 z37 z38 z39 : Int,
 (∀ z40 : qT0,
 (∀ z41 z42 z43 z44 z45 z46 : Int,
 ((y29 z31 z32 z33 z34 z35 z36 z37 z38 z39 z40 z41 z42 z43 z44 z45 z46) →
 ((((decide (z31 < (x2.length : Int))) = true) →
 (Need ((0 ≤ z31) ∧ (z31 < (x2.length : Int))) ∧
 (∃ y49 y50 y51 y52 y53 y54 : Int,
 (∃ y55 : qT2,
 (∃ y56 y57 : Nat,
 (∃ y58 y59 y60 : Int,
 (∃ y61 : Nat,
 (∃ y62 : qT1,
 (Need (E 28 [(.tv [] qt3 (y7, (y8, (y9, (y10, (y11, (y12, ()))))))), (.op (0, 0) []), (.tv [] qt11 (List.getD x2 z31.toNat ((0 : Int), ((0 : Int), ((0 : Int), (((0 : Int), ((0 : Int), ((0 : Int), ()))), ([], ())))))))] (hq1 z32.toNat z33.toNat z36 z37 z38 z34.toNat z35) (.tv [] qt11 (y49, (y50, (y51, ((y52, (y53, (y54, ()))), (y55, ())))))) (hq1 y56 y57 y58 y59 y60 y61 y62)) ∧
 (∃ y63 : Bool,
 (∃ y64 y65 y66 y67 : Nat,
 (∃ y68 y69 y70 y71 : Int,
 (∃ y72 : Nat,
 (∃ y73 : qT1,
 (∃ y74 y75 y76 : Int,
 (∃ y77 : Nat,
 (∃ y78 : qT0,
 (Need (E 27 [(.op (0, 0) []), (.op (0, 1) []), (.tv [] qt11 (y49, (y50, (y51, ((y52, (y53, (y54, ()))), (y55, ()))))))] (hq9 y56 y57 z41.toNat z42.toNat z43 y58 y59 y60 y61 y62 z44 z45 z46 z39.toNat z40) (.tv [] .bool y63) (hq9 y64 y65 y66 y67 y68 y69 y70 y71 y72 y73 y74 y75 y76 y77 y78)) ∧
 (∃ y79 : Int,
 (∃ y80 y81 : Nat,
 (∃ y82 y83 y84 y85 : Int,
 (∃ y86 : Nat,
 (∃ y87 : qT0,
 (Need (E 24 [(.op (0, 0) [])] (hq0 y66 y67 y68 y74 y75 y76 y77 y78) (.tv [] (.int .i64) y79) (hq0 y80 y81 y82 y83 y84 y85 y86 y87)) ∧
 (∃ y88 : Int,
 (∃ y89 y90 : Nat,
 (∃ y91 y92 y93 y94 : Int,
 (∃ y95 : Nat,
 (∃ y96 : qT0,
 (Need (E 29 [(.op (0, 0) [])] (hq0 y80 y81 y82 y83 y84 y85 y86 y87) (.tv [] (.int .i64) y88) (hq0 y89 y90 y91 y92 y93 y94 y95 y96)) ∧
 ((((!y63) = true) →
 (Q (.tv [] .bool false) [])) ∧
 (((!y63) = false) →
 ((((decide (y79 ≠ (y65 : Int))) = true) →
 (Q (.tv [] .bool false) [])) ∧
 (((decide (y79 ≠ (y65 : Int))) = false) →
 (∃ y101 : Int,
 (∃ y102 y103 : Nat,
 (∃ y104 y105 y106 : Int,
 (∃ y107 : Nat,
 (∃ y108 : qT1,
 (Need (E 34 [(.op (0, 0) [])] (hq1 y64 y65 y69 y70 y71 y72 y73) (.tv [] (.int .i64) y101) (hq1 y102 y103 y104 y105 y106 y107 y108)) ∧
 ((((decide (y88 ≠ y101)) = true) →
 (Q (.tv [] .bool false) [])) ∧
 (((decide (y88 ≠ y101)) = false) →
 (∃ y111 y112 y113 y114 : Int,
 (Need (E 30 [(.op (0, 0) [])] (hq2 y92 y93 y94) (.tv [] (.int .i64) y111) (hq2 y112 y113 y114)) ∧
 ((((decide (y111 ≠ y105)) = true) →
 (Q (.tv [] .bool false) [])) ∧
 (((decide (y111 ≠ y105)) = false) →
 (Need ((-9223372036854775808 ≤ (z31 + 1)) ∧ ((z31 + 1) ≤ 9223372036854775807)) ∧
 (Need (((y7, (y8, (y9, (y10, (y11, (y12, ())))))) = (y7, (y8, (y9, (y10, (y11, (y12, ()))))))) ∧ ((y108.length = y108.length) ∧ (y96.length = y96.length))) ∧
 ((y29 (z31 + 1) (y102 : Int) (y103 : Int) (y107 : Int) y108 y104 y105 y106 (y95 : Int) y96 (y89 : Int) (y90 : Int) y91 y112 y113 y114) ∧
  Need ((y30 (z31 + 1) (y102 : Int) (y103 : Int) (y107 : Int) y108 y104 y105 y106 (y95 : Int) y96 (y89 : Int) (y90 : Int) y91 y112 y113 y114) < (y30 z31 z32 z33 z34 z35 z36 z37 z38 z39 z40 z41 z42 z43 z44 z45 z46))))))))))))))))))))))))))))))))))))))))))))))))))) ∧
 (((decide (z31 < (x2.length : Int))) = false) →
 (∃ y118 : (Int → (Int → (Int → (Int → (qT1 → (Int → (Int → (Int → (Int → (qT0 → (Int → (Int → (Int → (Int → (Int → (Int → Prop)))))))))))))))),
 (∃ y119 : (Int → (Int → (Int → (Int → (qT1 → (Int → (Int → (Int → (Int → (qT0 → (Int → (Int → (Int → (Int → (Int → (Int → Nat)))))))))))))))),
 (Need ((z35.length = z35.length) ∧ (z40.length = z40.length)) ∧
 ((y118 (-(1 : Int)) (z32.toNat : Int) (z33.toNat : Int) (z34.toNat : Int) z35 z36 z37 z38 (z39.toNat : Int) z40 (z41.toNat : Int) (z42.toNat : Int) z43 z44 z45 z46) ∧
 (∀ z120 z121 z122 z123 : Int,
 (∀ z124 : qT1,
 (∀ z125 z126 z127 z128 : Int,
 (∀ z129 : qT0,
 (∀ z130 z131 z132 z133 z134 z135 : Int,
 ((y118 z120 z121 z122 z123 z124 z125 z126 z127 z128 z129 z130 z131 z132 z133 z134 z135) →
 (Need ((-9223372036854775808 ≤ ((z122.toNat : Int) + (1 : Int))) ∧ (((z122.toNat : Int) + (1 : Int)) ≤ 9223372036854775807)) ∧
 ((((decide (z120 ≤ ((z122.toNat : Int) + (1 : Int)))) = true) →
 ((((decide ((z122.toNat : Int) < z120)) = true) →
 (∃ y139 : Bool,
 (∃ y140 y141 y142 y143 y144 : Int,
 (∃ y145 : qT2,
 (∃ y146 : Bool,
 (∃ y147 y148 : Nat,
 (∃ y149 y150 y151 : Int,
 (∃ y152 : Nat,
 (∃ y153 : qT1,
 (Need (E 35 [(.op (0, 0) []), (.tv [] (.int .i64) x3)] (hq1 z121.toNat z122.toNat z125 z126 z127 z123.toNat z124) (.tv [] qt2 (y139, (y140, (y141, ((y142, (y143, (y144, ()))), (y145, (y146, ()))))))) (hq1 y147 y148 y149 y150 y151 y152 y153)) ∧
 (∃ y154 : Int,
 (∃ y155 y156 : Nat,
 (∃ y157 y158 y159 y160 : Int,
 (∃ y161 : Nat,
 (∃ y162 : qT0,
 (Need (E 19 [(.op (0, 0) []), (.tv [] (.int .i64) x3)] (hq0 z130.toNat z131.toNat z132 z133 z134 z135 z128.toNat z129) (.tv [] (.int .i64) y154) (hq0 y155 y156 y157 y158 y159 y160 y161 y162)) ∧
 ((((decide (y154 ≠ y141)) = true) →
 (Q (.tv [] .bool false) [])) ∧
 (((decide (y154 ≠ y141)) = false) →
 (∃ y165 : Int,
 (∃ y166 y167 : Nat,
 (∃ y168 y169 y170 y171 : Int,
 (∃ y172 : Nat,
 (∃ y173 : qT0,
 (Need (E 18 [(.op (0, 0) []), (.tv [] (.int .i64) x3)] (hq0 y155 y156 y157 y158 y159 y160 y161 y162) (.tv [] (.int .i64) y165) (hq0 y166 y167 y168 y169 y170 y171 y172 y173)) ∧
 ((((decide (y165 ≠ y140)) = true) →
 (Q (.tv [] .bool false) [])) ∧
 (((decide (y165 ≠ y140)) = false) →
 (∃ y176 y177 y178 : Int,
 (∃ y179 y180 : Nat,
 (∃ y181 y182 y183 y184 : Int,
 (∃ y185 : Nat,
 (∃ y186 : qT0,
 (Need (E 17 [(.op (0, 0) []), (.tv [] (.int .i64) x3)] (hq0 y166 y167 y168 y169 y170 y171 y172 y173) (.tv [] qt1 (y176, (y177, (y178, ())))) (hq0 y179 y180 y181 y182 y183 y184 y185 y186)) ∧
 ((((!((decide (y176 = y142)) && ((decide (y177 = y143)) && ((decide (y178 = y144)) && true)))) = true) →
 (Q (.tv [] .bool false) [])) ∧
 (((!((decide (y176 = y142)) && ((decide (y177 = y143)) && ((decide (y178 = y144)) && true)))) = false) →
 (∃ y189 : Bool,
 (∃ y190 y191 : Nat,
 (∃ y192 y193 y194 y195 : Int,
 (∃ y196 : Nat,
 (∃ y197 : qT0,
 (Need (E 36 [(.op (0, 0) []), (.tv [] (.int .i64) x3)] (hq0 y179 y180 y181 y182 y183 y184 y185 y186) (.tv [] .bool y189) (hq0 y190 y191 y192 y193 y194 y195 y196 y197)) ∧
 ((((!(BEq.beq y189 y139)) = true) →
 (Q (.tv [] .bool false) [])) ∧
 (((!(BEq.beq y189 y139)) = false) →
 (∃ y200 : qT2,
 (∃ y201 y202 : Nat,
 (∃ y203 y204 y205 y206 : Int,
 (∃ y207 : Nat,
 (∃ y208 : qT0,
 (Need (E 14 [(.op (0, 0) []), (.tv [] (.int .i64) x3)] (hq0 y190 y191 y192 y193 y194 y195 y196 y197) (.tv [[]] qt8 y200) (hq0 y201 y202 y203 y204 y205 y206 y207 y208)) ∧
 (∃ y209 : Bool,
 (Need (E 15 [(.tv [] qt8 y200), (.tv [] qt8 y145)] [] (.tv [] .bool y209) []) ∧
 ((((!y209) = true) →
 (Q (.tv [] .bool false) [])) ∧
 (((!y209) = false) →
 (∃ y212 : qT2,
 (∃ y213 y214 : Nat,
 (∃ y215 y216 y217 y218 : Int,
 (∃ y219 : Nat,
 (∃ y220 : qT0,
 (Need (E 16 [(.op (0, 0) []), (.tv [] (.int .i64) x3)] (hq0 y201 y202 y203 y204 y205 y206 y207 y208) (.tv [[]] qt8 y212) (hq0 y213 y214 y215 y216 y217 y218 y219 y220)) ∧
 (∃ y221 : qT2,
 (∃ y222 y223 : Nat,
 (∃ y224 y225 y226 : Int,
 (∃ y227 : Nat,
 (∃ y228 : qT1,
 (Need (E 37 [(.op (0, 0) []), (.tv [] (.int .i64) x3)] (hq1 y147 y148 y149 y150 y151 y152 y153) (.tv [[]] qt8 y221) (hq1 y222 y223 y224 y225 y226 y227 y228)) ∧
 (∃ y229 : Bool,
 (Need (E 15 [(.tv [] qt8 y212), (.tv [] qt8 y221)] [] (.tv [] .bool y229) []) ∧
 ((((!y229) = true) →
 (Q (.tv [] .bool false) [])) ∧
 (((!y229) = false) →
 (∃ y232 : qT10,
 (∃ y233 y234 : Nat,
 (∃ y235 y236 y237 y238 : Int,
 (∃ y239 : Nat,
 (∃ y240 : qT0,
 (Need (E 32 [(.op (0, 0) []), (.tv [] (.int .i64) x3)] (hq0 y213 y214 y215 y216 y217 y218 y219 y220) (.tv [[]] (.slice qt1) y232) (hq0 y233 y234 y235 y236 y237 y238 y239 y240)) ∧
 (∃ y241 : qT10,
 (∃ y242 y243 : Nat,
 (∃ y244 y245 y246 : Int,
 (∃ y247 : Nat,
 (∃ y248 : qT1,
 (Need (E 38 [(.op (0, 0) []), (.tv [] (.int .i64) x3)] (hq1 y222 y223 y224 y225 y226 y227 y228) (.tv [[]] (.slice qt1) y241) (hq1 y242 y243 y244 y245 y246 y247 y248)) ∧
 (∃ y249 : Bool,
 (Need (E 33 [(.tv [] (.slice qt1) y232), (.tv [] (.slice qt1) y241)] [] (.tv [] .bool y249) []) ∧
 ((((!y249) = true) →
 (Q (.tv [] .bool false) [])) ∧
 (((!y249) = false) →
 (∃ y252 : Bool,
 (∃ y253 y254 : Nat,
 (∃ y255 y256 y257 y258 : Int,
 (∃ y259 : Nat,
 (∃ y260 : qT0,
 (Need (E 25 [(.op (0, 0) []), (.tv [] qt3 (y7, (y8, (y9, (y10, (y11, (y12, ()))))))), (.tv [] (.int .i64) x3)] (hq0 y233 y234 y235 y236 y237 y238 y239 y240) (.tv [] .bool y252) (hq0 y253 y254 y255 y256 y257 y258 y259 y260)) ∧
 (∃ y261 : Bool,
 (∃ y262 y263 : Nat,
 (∃ y264 y265 y266 : Int,
 (∃ y267 : Nat,
 (∃ y268 : qT1,
 (Need (E 39 [(.op (0, 0) []), (.tv [] qt3 (y7, (y8, (y9, (y10, (y11, (y12, ()))))))), (.tv [] (.int .i64) x3)] (hq1 y242 y243 y244 y245 y246 y247 y248) (.tv [] .bool y261) (hq1 y262 y263 y264 y265 y266 y267 y268)) ∧
 ((((!(BEq.beq y252 y261)) = true) →
 (Q (.tv [] .bool false) [])) ∧
 (((!(BEq.beq y252 y261)) = false) →
 (∃ y271 : qT2,
 (∃ y272 y273 : Nat,
 (∃ y274 y275 y276 y277 : Int,
 (∃ y278 : Nat,
 (∃ y279 : qT0,
 (Need (E 40 [(.op (0, 0) []), (.tv [] qt3 (y7, (y8, (y9, (y10, (y11, (y12, ()))))))), (.tv [] (.int .i64) x3)] (hq0 y253 y254 y255 y256 y257 y258 y259 y260) (.tv [] .str y271) (hq0 y272 y273 y274 y275 y276 y277 y278 y279)) ∧
 (∃ y280 : qT2,
 (∃ y281 y282 : Nat,
 (∃ y283 y284 y285 : Int,
 (∃ y286 : Nat,
 (∃ y287 : qT1,
 (Need (E 41 [(.op (0, 0) []), (.tv [] qt3 (y7, (y8, (y9, (y10, (y11, (y12, ()))))))), (.tv [] (.int .i64) x3)] (hq1 y262 y263 y264 y265 y266 y267 y268) (.tv [] .str y280) (hq1 y281 y282 y283 y284 y285 y286 y287)) ∧
 ((((!(decide (y271 = y280))) = true) →
 (Q (.tv [] .bool false) [])) ∧
 (((!(decide (y271 = y280))) = false) →
 (Need ((-9223372036854775808 ≤ (z120 + 1)) ∧ ((z120 + 1) ≤ 9223372036854775807)) ∧
 (Need (((y7, (y8, (y9, (y10, (y11, (y12, ())))))) = (y7, (y8, (y9, (y10, (y11, (y12, ()))))))) ∧ ((y287.length = y287.length) ∧ (y279.length = y279.length))) ∧
 ((y118 (z120 + 1) (y281 : Int) (y282 : Int) (y286 : Int) y287 y283 y284 y285 (y278 : Int) y279 (y272 : Int) (y273 : Int) y274 y275 y276 y277) ∧
   Need ((y119 (z120 + 1) (y281 : Int) (y282 : Int) (y286 : Int) y287 y283 y284 y285 (y278 : Int) y279 (y272 : Int) (y273 : Int) y274 y275 y276 y277) < (y119 z120 z121 z122 z123 z124 z125 z126 z127 z128 z129 z130 z131 z132 z133 z134 z135))))))))))))))))))))))))))))))))))))))))))))))))))))))))))))))))))))))))))))))))))))))))))))))))))))))))))))))))))))) ∧
 (((decide ((z122.toNat : Int) < z120)) = false) →
 (∃ y291 : Bool,
 (∃ y292 y293 y294 y295 y296 : Int,
 (∃ y297 : qT2,
 (∃ y298 : Bool,
 (∃ y299 y300 : Nat,
 (∃ y301 y302 y303 : Int,
 (∃ y304 : Nat,
 (∃ y305 : qT1,
 (Need (E 35 [(.op (0, 0) []), (.tv [] (.int .i64) z120)] (hq1 z121.toNat z122.toNat z125 z126 z127 z123.toNat z124) (.tv [] qt2 (y291, (y292, (y293, ((y294, (y295, (y296, ()))), (y297, (y298, ()))))))) (hq1 y299 y300 y301 y302 y303 y304 y305)) ∧
 (∃ y306 : Int,
 (∃ y307 y308 : Nat,
 (∃ y309 y310 y311 y312 : Int,
 (∃ y313 : Nat,
 (∃ y314 : qT0,
 (Need (E 19 [(.op (0, 0) []), (.tv [] (.int .i64) z120)] (hq0 z130.toNat z131.toNat z132 z133 z134 z135 z128.toNat z129) (.tv [] (.int .i64) y306) (hq0 y307 y308 y309 y310 y311 y312 y313 y314)) ∧
 ((((decide (y306 ≠ y293)) = true) →
 (Q (.tv [] .bool false) [])) ∧
 (((decide (y306 ≠ y293)) = false) →
 (∃ y317 : Int,
 (∃ y318 y319 : Nat,
 (∃ y320 y321 y322 y323 : Int,
 (∃ y324 : Nat,
 (∃ y325 : qT0,
 (Need (E 18 [(.op (0, 0) []), (.tv [] (.int .i64) z120)] (hq0 y307 y308 y309 y310 y311 y312 y313 y314) (.tv [] (.int .i64) y317) (hq0 y318 y319 y320 y321 y322 y323 y324 y325)) ∧
 ((((decide (y317 ≠ y292)) = true) →
 (Q (.tv [] .bool false) [])) ∧
 (((decide (y317 ≠ y292)) = false) →
 (∃ y328 y329 y330 : Int,
 (∃ y331 y332 : Nat,
 (∃ y333 y334 y335 y336 : Int,
 (∃ y337 : Nat,
 (∃ y338 : qT0,
 (Need (E 17 [(.op (0, 0) []), (.tv [] (.int .i64) z120)] (hq0 y318 y319 y320 y321 y322 y323 y324 y325) (.tv [] qt1 (y328, (y329, (y330, ())))) (hq0 y331 y332 y333 y334 y335 y336 y337 y338)) ∧
 ((((!((decide (y328 = y294)) && ((decide (y329 = y295)) && ((decide (y330 = y296)) && true)))) = true) →
 (Q (.tv [] .bool false) [])) ∧
 (((!((decide (y328 = y294)) && ((decide (y329 = y295)) && ((decide (y330 = y296)) && true)))) = false) →
 (∃ y341 : Bool,
 (∃ y342 y343 : Nat,
 (∃ y344 y345 y346 y347 : Int,
 (∃ y348 : Nat,
 (∃ y349 : qT0,
 (Need (E 36 [(.op (0, 0) []), (.tv [] (.int .i64) z120)] (hq0 y331 y332 y333 y334 y335 y336 y337 y338) (.tv [] .bool y341) (hq0 y342 y343 y344 y345 y346 y347 y348 y349)) ∧
 ((((!(BEq.beq y341 y291)) = true) →
 (Q (.tv [] .bool false) [])) ∧
 (((!(BEq.beq y341 y291)) = false) →
 (∃ y352 : qT2,
 (∃ y353 y354 : Nat,
 (∃ y355 y356 y357 y358 : Int,
 (∃ y359 : Nat,
 (∃ y360 : qT0,
 (Need (E 14 [(.op (0, 0) []), (.tv [] (.int .i64) z120)] (hq0 y342 y343 y344 y345 y346 y347 y348 y349) (.tv [[]] qt8 y352) (hq0 y353 y354 y355 y356 y357 y358 y359 y360)) ∧
 (∃ y361 : Bool,
 (Need (E 15 [(.tv [] qt8 y352), (.tv [] qt8 y297)] [] (.tv [] .bool y361) []) ∧
 ((((!y361) = true) →
 (Q (.tv [] .bool false) [])) ∧
 (((!y361) = false) →
 (∃ y364 : qT2,
 (∃ y365 y366 : Nat,
 (∃ y367 y368 y369 y370 : Int,
 (∃ y371 : Nat,
 (∃ y372 : qT0,
 (Need (E 16 [(.op (0, 0) []), (.tv [] (.int .i64) z120)] (hq0 y353 y354 y355 y356 y357 y358 y359 y360) (.tv [[]] qt8 y364) (hq0 y365 y366 y367 y368 y369 y370 y371 y372)) ∧
 (∃ y373 : qT2,
 (∃ y374 y375 : Nat,
 (∃ y376 y377 y378 : Int,
 (∃ y379 : Nat,
 (∃ y380 : qT1,
 (Need (E 37 [(.op (0, 0) []), (.tv [] (.int .i64) z120)] (hq1 y299 y300 y301 y302 y303 y304 y305) (.tv [[]] qt8 y373) (hq1 y374 y375 y376 y377 y378 y379 y380)) ∧
 (∃ y381 : Bool,
 (Need (E 15 [(.tv [] qt8 y364), (.tv [] qt8 y373)] [] (.tv [] .bool y381) []) ∧
 ((((!y381) = true) →
 (Q (.tv [] .bool false) [])) ∧
 (((!y381) = false) →
 (∃ y384 : qT10,
 (∃ y385 y386 : Nat,
 (∃ y387 y388 y389 y390 : Int,
 (∃ y391 : Nat,
 (∃ y392 : qT0,
 (Need (E 32 [(.op (0, 0) []), (.tv [] (.int .i64) z120)] (hq0 y365 y366 y367 y368 y369 y370 y371 y372) (.tv [[]] (.slice qt1) y384) (hq0 y385 y386 y387 y388 y389 y390 y391 y392)) ∧
 (∃ y393 : qT10,
 (∃ y394 y395 : Nat,
 (∃ y396 y397 y398 : Int,
 (∃ y399 : Nat,
 (∃ y400 : qT1,
 (Need (E 38 [(.op (0, 0) []), (.tv [] (.int .i64) z120)] (hq1 y374 y375 y376 y377 y378 y379 y380) (.tv [[]] (.slice qt1) y393) (hq1 y394 y395 y396 y397 y398 y399 y400)) ∧
 (∃ y401 : Bool,
 (Need (E 33 [(.tv [] (.slice qt1) y384), (.tv [] (.slice qt1) y393)] [] (.tv [] .bool y401) []) ∧
 ((((!y401) = true) →
 (Q (.tv [] .bool false) [])) ∧
 (((!y401) = false) →
 (∃ y404 : Bool,
 (∃ y405 y406 : Nat,
 (∃ y407 y408 y409 y410 : Int,
 (∃ y411 : Nat,
 (∃ y412 : qT0,
 (Need (E 25 [(.op (0, 0) []), (.tv [] qt3 (y7, (y8, (y9, (y10, (y11, (y12, ()))))))), (.tv [] (.int .i64) z120)] (hq0 y385 y386 y387 y388 y389 y390 y391 y392) (.tv [] .bool y404) (hq0 y405 y406 y407 y408 y409 y410 y411 y412)) ∧
 (∃ y413 : Bool,
 (∃ y414 y415 : Nat,
 (∃ y416 y417 y418 : Int,
 (∃ y419 : Nat,
 (∃ y420 : qT1,
 (Need (E 39 [(.op (0, 0) []), (.tv [] qt3 (y7, (y8, (y9, (y10, (y11, (y12, ()))))))), (.tv [] (.int .i64) z120)] (hq1 y394 y395 y396 y397 y398 y399 y400) (.tv [] .bool y413) (hq1 y414 y415 y416 y417 y418 y419 y420)) ∧
 ((((!(BEq.beq y404 y413)) = true) →
 (Q (.tv [] .bool false) [])) ∧
 (((!(BEq.beq y404 y413)) = false) →
 (∃ y423 : qT2,
 (∃ y424 y425 : Nat,
 (∃ y426 y427 y428 y429 : Int,
 (∃ y430 : Nat,
 (∃ y431 : qT0,
 (Need (E 40 [(.op (0, 0) []), (.tv [] qt3 (y7, (y8, (y9, (y10, (y11, (y12, ()))))))), (.tv [] (.int .i64) z120)] (hq0 y405 y406 y407 y408 y409 y410 y411 y412) (.tv [] .str y423) (hq0 y424 y425 y426 y427 y428 y429 y430 y431)) ∧
 (∃ y432 : qT2,
 (∃ y433 y434 : Nat,
 (∃ y435 y436 y437 : Int,
 (∃ y438 : Nat,
 (∃ y439 : qT1,
 (Need (E 41 [(.op (0, 0) []), (.tv [] qt3 (y7, (y8, (y9, (y10, (y11, (y12, ()))))))), (.tv [] (.int .i64) z120)] (hq1 y414 y415 y416 y417 y418 y419 y420) (.tv [] .str y432) (hq1 y433 y434 y435 y436 y437 y438 y439)) ∧
 ((((!(decide (y423 = y432))) = true) →
 (Q (.tv [] .bool false) [])) ∧
 (((!(decide (y423 = y432))) = false) →
 (Need ((-9223372036854775808 ≤ (z120 + 1)) ∧ ((z120 + 1) ≤ 9223372036854775807)) ∧
 (Need (((y7, (y8, (y9, (y10, (y11, (y12, ())))))) = (y7, (y8, (y9, (y10, (y11, (y12, ()))))))) ∧ ((y439.length = y439.length) ∧ (y431.length = y431.length))) ∧
 ((y118 (z120 + 1) (y433 : Int) (y434 : Int) (y438 : Int) y439 y435 y436 y437 (y430 : Int) y431 (y424 : Int) (y425 : Int) y426 y427 y428 y429) ∧
  Need ((y119 (z120 + 1) (y433 : Int) (y434 : Int) (y438 : Int) y439 y435 y436 y437 (y430 : Int) y431 (y424 : Int) (y425 : Int) y426 y427 y428 y429) < (y119 z120 z121 z122 z123 z124 z125 z126 z127 z128 z129 z130 z131 z132 z133 z134 z135))))))))))))))))))))))))))))))))))))))))))))))))))))))))))))))))))))))))))))))))))))))))))))))))))))))))))))))))))))))) ∧
 (((decide (z120 ≤ ((z122.toNat : Int) + (1 : Int)))) = false) →
 (Q (.tv [] .bool y0) []))))))))))))))))))))))))))))))))))))))))))))))))))))))) : EvF PP orc 8 [.tv [] qt9 (x0_0, (x0_1, (x0_2, (x0_3, (x0_4, (x0_5, (x0_6, ()))))))), .tv [] (.int .i64) x1, .tv [] (.slice qt11) x2, .tv [] (.int .i64) x3] [] Q := vcF_ok (sg := sg) (Eq.mp (by kernel_rfl) h)
end Go.Am.T
