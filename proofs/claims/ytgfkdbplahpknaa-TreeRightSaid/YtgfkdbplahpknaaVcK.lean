/-
  A part of the proof of a law: see the text that states it.
-/
import Derived.Test.YtgfkdbplahpknaaHead
set_option linter.all false
namespace Go.Am.T
open Go
set_option maxRecDepth 100000
set_option maxHeartbeats 4000000
theorem vc5 (x0_0 : Int) (x0_1 : Int) (x0_2 : List (Int)) (x0_3 : List (List (Int))) (x0_4 : List (Int)) (x0_5 : List (Int)) (x0_6 : List (Int)) (x1 : List ((Int × (Int × (Int × ((Int × (Int × (Int × Unit))) × (List (Int) × Unit))))))) (Q : AV → Heap → Prop) (h :
(∃ y0 : Bool,
 (Need (E 9 [] [] (.tv [] .bool y0) []) ∧
 (∃ y1 : Bool,
 (Need (E 20 [(.tv [] qt9 (x0_0, (x0_1, (x0_2, (x0_3, (x0_4, (x0_5, (x0_6, ())))))))), (.tv [] (.int .i64) (20 : Int)), (.tv [] (.int .i64) (8 : Int))] [] (.tv [] .bool y1) []) ∧
 (∃ y2 : Bool,
 (Need (E 21 [(.tv [] (.slice qt11) x1)] [] (.tv [] .bool y2) []) ∧
 ((((!y1) = true) →
 (Q (.tv [] .bool y0) [])) ∧
 (((!y1) = false) →
 ((((!y2) = true) →
 (Q (.tv [] .bool y0) [])) ∧
 (((!y2) = false) →
 (∃ y7 y8 : qT7,
 (∃ y9 : qT4,
 (∃ y10 y11 : qT2,
 (∃ y12 : qT7,
 (Need (E 23 [(.tv [] qt9 (x0_0, (x0_1, (x0_2, (x0_3, (x0_4, (x0_5, (x0_6, ()))))))))] [] (.tv [] qt4 (y7, (y8, (y9, (y10, (y11, (y12, ()))))))) []) ∧
 ((∃ y13 y14 y15 : Nat,
 (∃ y16 : qT1,
 (∃ y17 y18 y19 : Int,
 (∃ y20 : Nat,
 (∃ y21 : qT0,
 (∃ y22 y23 : Nat,
 (∃ y24 y25 y26 y27 : Int,
 (Need (E 22 [(.tv [] qt4 (y7, (y8, (y9, (y10, (y11, (y12, ()))))))), (.tv [] (.slice qt11) x1)] [] (.tup [(.op (1, 0) []), (.op (1, 1) [])]) [((1, 1), ⟨⟨qt7, ((some (1, 3)), ((some ((1, 4), (y13, (0, y14)))), ()))⟩, []⟩), ((1, 4), ⟨⟨(.arr (Nat.succ y15) y16.length qt2), y16⟩, []⟩), ((1, 3), ⟨⟨qt1, (y17, (y18, (y19, ())))⟩, []⟩), ((1, 6), ⟨⟨(.arr (Nat.succ y20) y21.length qt0), y21⟩, []⟩), ((1, 2), ⟨⟨qt3, ((some (1, 5)), ((some ((1, 6), (y22, (0, y23)))), (y24, ())))⟩, []⟩), ((1, 0), ⟨⟨qt6, ((some (1, 2)), ())⟩, []⟩), ((1, 5), ⟨⟨qt1, (y25, (y26, (y27, ())))⟩, []⟩)]) ∧
 (((false = true) →
 (Q (.tv [] .bool false) [])) ∧
 ((false = false) →
 (∃ y30 : Int,
 (∃ y31 y32 : Nat,
 (∃ y33 y34 y35 y36 : Int,
 (∃ y37 : Nat,
 (∃ y38 : qT0,
 (Need (E 24 [(.op (0, 0) [])] (hq0 y22 y23 y24 y25 y26 y27 y20 y21) (.tv [] (.int .i64) y30) (hq0 y31 y32 y33 y34 y35 y36 y37 y38)) ∧
 ((((decide (y30 ≠ (y14 : Int))) = true) →
 (Q (.tv [] .bool false) [])) ∧
 (((decide (y30 ≠ (y14 : Int))) = false) →
 (∃ y41 : (Int → (Int → (qT0 → (Int → (Int → (Int → (Int → (qT1 → (Int → (Int → (Int → (Int → (Int → (Int → (Int → (Int → Prop)))))))))))))))),
 (∃ y42 : (Int → (Int → (qT0 → (Int → (Int → (Int → (Int → (qT1 → (Int → (Int → (Int → (Int → (Int → (Int → (Int → (Int → Nat)))))))))))))))),
 (Need ((y38.length = y38.length) ∧ (y16.length = y16.length)) ∧
 ((y41 (0 : Int) (y37 : Int) y38 y34 y35 y36 (y15 : Int) y16 y17 y18 y19 (y31 : Int) (y32 : Int) y33 (y13 : Int) (y14 : Int)) ∧
 (∀ z43 z44 : Int,
 (∀ z45 : qT0,
 (∀ z46 z47 z48 z49 : Int,
 (∀ z50 : qT1,
 (∀ z51 z52 z53 z54 z55 z56 z57 z58 : Int,
 ((y41 z43 z44 z45 z46 z47 z48 z49 z50 z51 z52 z53 z54 z55 z56 z57 z58) →
 (∃ y60 : Int,
 (∃ y61 y62 : Nat,
 (∃ y63 y64 y65 y66 : Int,
 (∃ y67 : Nat,
 (∃ y68 : qT0,
 (Need (E 24 [(.op (0, 0) [])] (hq0 z54.toNat z55.toNat z56 z46 z47 z48 z44.toNat z45) (.tv [] (.int .i64) y60) (hq0 y61 y62 y63 y64 y65 y66 y67 y68)) ∧
 ((((decide (z43 < y60)) = true) →
 (Need ((0 ≤ z43) ∧ (z43 < (z58.toNat : Int))) ∧
 (Need (z49.toNat = z57.toNat) ∧
 (Need ((0 + z43.toNat) < z50.length) ∧
 (Need (z49.toNat = z57.toNat) ∧
 (Need ((0 + z43.toNat) < z50.length) ∧
 ((((List.getD z50 (0 + z43.toNat) (false, ((0 : Int), ((0 : Int), (((0 : Int), ((0 : Int), ((0 : Int), ()))), ([], (false, ()))))))).1 = true) →
 (∃ y71 : Bool,
 (∃ y72 y73 : Nat,
 (∃ y74 y75 y76 y77 : Int,
 (∃ y78 : Nat,
 (∃ y79 : qT0,
 (Need (E 25 [(.op (0, 0) []), (.tv [] qt4 (y7, (y8, (y9, (y10, (y11, (y12, ()))))))), (.tv [] (.int .i64) z43)] (hq0 y61 y62 y63 y64 y65 y66 y67 y68) (.tv [] .bool y71) (hq0 y72 y73 y74 y75 y76 y77 y78 y79)) ∧
 (∃ y80 : Int,
 (∃ y81 y82 : Nat,
 (∃ y83 y84 y85 y86 : Int,
 (∃ y87 : Nat,
 (∃ y88 : qT0,
 (Need (E 19 [(.op (0, 0) []), (.tv [] (.int .i64) z43)] (hq0 y72 y73 y74 y75 y76 y77 y78 y79) (.tv [] (.int .i64) y80) (hq0 y81 y82 y83 y84 y85 y86 y87 y88)) ∧
 ((((decide (0 < y80)) = true) →
 (∃ y90 : Int,
 (∃ y91 y92 : Nat,
 (∃ y93 y94 y95 y96 : Int,
 (∃ y97 : Nat,
 (∃ y98 : qT0,
 (Need (E 19 [(.op (0, 0) []), (.tv [] (.int .i64) z43)] (hq0 y81 y82 y83 y84 y85 y86 y87 y88) (.tv [] (.int .i64) y90) (hq0 y91 y92 y93 y94 y95 y96 y97 y98)) ∧
 ((((!(BEq.beq y71 (decide (y90 < (y7.length : Int))))) = true) →
 (Q (.tv [] .bool false) [])) ∧
 (((!(BEq.beq y71 (decide (y90 < (y7.length : Int))))) = false) →
 (Need ((-9223372036854775808 ≤ (z43 + 1)) ∧ ((z43 + 1) ≤ 9223372036854775807)) ∧
 (Need (((y7, (y8, (y9, (y10, (y11, (y12, ())))))) = (y7, (y8, (y9, (y10, (y11, (y12, ()))))))) ∧ ((y98.length = y98.length) ∧ (z50.length = z50.length))) ∧
 ((y41 (z43 + 1) (y97 : Int) y98 y94 y95 y96 (z49.toNat : Int) z50 z51 z52 z53 (y91 : Int) (y92 : Int) y93 (z57.toNat : Int) (z58.toNat : Int)) ∧
     Need ((y42 (z43 + 1) (y97 : Int) y98 y94 y95 y96 (z49.toNat : Int) z50 z51 z52 z53 (y91 : Int) (y92 : Int) y93 (z57.toNat : Int) (z58.toNat : Int)) < (y42 z43 z44 z45 z46 z47 z48 z49 z50 z51 z52 z53 z54 z55 z56 z57 z58)))))))))))))) ∧
 (((decide (0 < y80)) = false) →
 ((((!(BEq.beq y71 false)) = true) →
 (Q (.tv [] .bool false) [])) ∧
 (((!(BEq.beq y71 false)) = false) →
 (Need ((-9223372036854775808 ≤ (z43 + 1)) ∧ ((z43 + 1) ≤ 9223372036854775807)) ∧
 (Need (((y7, (y8, (y9, (y10, (y11, (y12, ())))))) = (y7, (y8, (y9, (y10, (y11, (y12, ()))))))) ∧ ((y88.length = y88.length) ∧ (z50.length = z50.length))) ∧
 ((y41 (z43 + 1) (y87 : Int) y88 y84 y85 y86 (z49.toNat : Int) z50 z51 z52 z53 (y81 : Int) (y82 : Int) y83 (z57.toNat : Int) (z58.toNat : Int)) ∧
    Need ((y42 (z43 + 1) (y87 : Int) y88 y84 y85 y86 (z49.toNat : Int) z50 z51 z52 z53 (y81 : Int) (y82 : Int) y83 (z57.toNat : Int) (z58.toNat : Int)) < (y42 z43 z44 z45 z46 z47 z48 z49 z50 z51 z52 z53 z54 z55 z56 z57 z58)))))))))))))))))))))) ∧
 (((List.getD z50 (0 + z43.toNat) (false, ((0 : Int), ((0 : Int), (((0 : Int), ((0 : Int), ((0 : Int), ()))), ([], (false, ()))))))).1 = false) →
 (∃ y105 : qT2,
 (∃ y106 y107 : Nat,
 (∃ y108 y109 y110 y111 : Int,
 (∃ y112 : Nat,
 (∃ y113 : qT0,
 (Need (E 14 [(.op (0, 0) []), (.tv [] (.int .i64) z43)] (hq0 y61 y62 y63 y64 y65 y66 y67 y68) (.tv [[]] qt8 y105) (hq0 y106 y107 y108 y109 y110 y111 y112 y113)) ∧
 (∃ y114 : Int,
 (∃ y115 y116 : Nat,
 (∃ y117 y118 y119 y120 : Int,
 (∃ y121 : Nat,
 (∃ y122 : qT0,
 (Need (E 18 [(.op (0, 0) []), (.tv [] (.int .i64) z43)] (hq0 y106 y107 y108 y109 y110 y111 y112 y113) (.tv [] (.int .i64) y114) (hq0 y115 y116 y117 y118 y119 y120 y121 y122)) ∧
 ((((decide (0 < y114)) = true) →
 (∃ y124 : Int,
 (∃ y125 y126 : Nat,
 (∃ y127 y128 y129 y130 : Int,
 (∃ y131 : Nat,
 (∃ y132 : qT0,
 (Need (E 18 [(.op (0, 0) []), (.tv [] (.int .i64) z43)] (hq0 y115 y116 y117 y118 y119 y120 y121 y122) (.tv [] (.int .i64) y124) (hq0 y125 y126 y127 y128 y129 y130 y131 y132)) ∧
 (∃ y133 : (Bool → (qT2 → (Int → (Int → (qT0 → (Int → (Int → (Int → (Int → (qT1 → (Int → (Int → (Int → (Int → (Int → (Int → (Int → (Int → Prop)))))))))))))))))),
 (∃ y134 : (Bool → (qT2 → (Int → (Int → (qT0 → (Int → (Int → (Int → (Int → (qT1 → (Int → (Int → (Int → (Int → (Int → (Int → (Int → (Int → Nat)))))))))))))))))),
 (Need ((y132.length = y132.length) ∧ (z50.length = z50.length)) ∧
 ((y133 (decide (y124 < (y9.length : Int))) [] (0 : Int) (y131 : Int) y132 y128 y129 y130 (z49.toNat : Int) z50 z51 z52 z53 (y125 : Int) (y126 : Int) y127 (z57.toNat : Int) (z58.toNat : Int)) ∧
 (∀ z135 : Bool,
 (∀ z136 : qT2,
 (∀ z137 z138 : Int,
 (∀ z139 : qT0,
 (∀ z140 z141 z142 z143 : Int,
 (∀ z144 : qT1,
 (∀ z145 z146 z147 z148 z149 z150 z151 z152 : Int,
 ((y133 z135 z136 z137 z138 z139 z140 z141 z142 z143 z144 z145 z146 z147 z148 z149 z150 z151 z152) →
 ((((decide (z137 < (y105.length : Int))) = true) →
 (((z135 = true) →
 (Need ((0 ≤ z137) ∧ (z137 < (y105.length : Int))) ∧
 (∃ y156 : Bool,
 (∃ y157 y158 : Nat,
 (∃ y159 y160 y161 y162 : Int,
 (∃ y163 : Nat,
 (∃ y164 : qT0,
 (Need (E 25 [(.op (0, 0) []), (.tv [] qt4 (y7, (y8, (y9, (y10, (y11, (y12, ()))))))), (.tv [] (.int .i64) (List.getD y105 z137.toNat (0 : Int)))] (hq0 z148.toNat z149.toNat z150 z140 z141 z142 z138.toNat z139) (.tv [] .bool y156) (hq0 y157 y158 y159 y160 y161 y162 y163 y164)) ∧
 (Need ((0 ≤ z137) ∧ (z137 < (y105.length : Int))) ∧
 (∃ y165 : Int,
 (∃ y166 y167 : Nat,
 (∃ y168 y169 y170 y171 : Int,
 (∃ y172 : Nat,
 (∃ y173 : qT0,
 (Need (E 19 [(.op (0, 0) []), (.tv [] (.int .i64) (List.getD y105 z137.toNat (0 : Int)))] (hq0 y157 y158 y159 y160 y161 y162 y163 y164) (.tv [] (.int .i64) y165) (hq0 y166 y167 y168 y169 y170 y171 y172 y173)) ∧
 (Need ((z136.length + (List.length [y165])) ≤ bigN) ∧
 (Need ((-9223372036854775808 ≤ (z137 + 1)) ∧ ((z137 + 1) ≤ 9223372036854775807)) ∧
 (Need (((y7, (y8, (y9, (y10, (y11, (y12, ())))))) = (y7, (y8, (y9, (y10, (y11, (y12, ()))))))) ∧ ((y173.length = y173.length) ∧ (z144.length = z144.length))) ∧
 ((y133 y156 (z136 ++ [y165]) (z137 + 1) (y172 : Int) y173 y169 y170 y171 (z143.toNat : Int) z144 z145 z146 z147 (y166 : Int) (y167 : Int) y168 (z151.toNat : Int) (z152.toNat : Int)) ∧
      Need ((y134 y156 (z136 ++ [y165]) (z137 + 1) (y172 : Int) y173 y169 y170 y171 (z143.toNat : Int) z144 z145 z146 z147 (y166 : Int) (y167 : Int) y168 (z151.toNat : Int) (z152.toNat : Int)) < (y134 z135 z136 z137 z138 z139 z140 z141 z142 z143 z144 z145 z146 z147 z148 z149 z150 z151 z152))))))))))))))))))))) ∧
 ((z135 = false) →
 (Need ((0 ≤ z137) ∧ (z137 < (y105.length : Int))) ∧
 (∃ y175 : Int,
 (∃ y176 y177 : Nat,
 (∃ y178 y179 y180 y181 : Int,
 (∃ y182 : Nat,
 (∃ y183 : qT0,
 (Need (E 19 [(.op (0, 0) []), (.tv [] (.int .i64) (List.getD y105 z137.toNat (0 : Int)))] (hq0 z148.toNat z149.toNat z150 z140 z141 z142 z138.toNat z139) (.tv [] (.int .i64) y175) (hq0 y176 y177 y178 y179 y180 y181 y182 y183)) ∧
 (Need ((z136.length + (List.length [y175])) ≤ bigN) ∧
 (Need ((-9223372036854775808 ≤ (z137 + 1)) ∧ ((z137 + 1) ≤ 9223372036854775807)) ∧
 (Need (((y7, (y8, (y9, (y10, (y11, (y12, ())))))) = (y7, (y8, (y9, (y10, (y11, (y12, ()))))))) ∧ ((y183.length = y183.length) ∧ (z144.length = z144.length))) ∧
 ((y133 false (z136 ++ [y175]) (z137 + 1) (y182 : Int) y183 y179 y180 y181 (z143.toNat : Int) z144 z145 z146 z147 (y176 : Int) (y177 : Int) y178 (z151.toNat : Int) (z152.toNat : Int)) ∧
     Need ((y134 false (z136 ++ [y175]) (z137 + 1) (y182 : Int) y183 y179 y180 y181 (z143.toNat : Int) z144 z145 z146 z147 (y176 : Int) (y177 : Int) y178 (z151.toNat : Int) (z152.toNat : Int)) < (y134 z135 z136 z137 z138 z139 z140 z141 z142 z143 z144 z145 z146 z147 z148 z149 z150 z151 z152)))))))))))))))) ∧
 (((decide (z137 < (y105.length : Int))) = false) →
 (((z135 = true) →
 (∃ y186 : Int,
 (∃ y187 y188 : Nat,
 (∃ y189 y190 y191 y192 : Int,
 (∃ y193 : Nat,
 (∃ y194 : qT0,
 (Need (E 18 [(.op (0, 0) []), (.tv [] (.int .i64) z43)] (hq0 z148.toNat z149.toNat z150 z140 z141 z142 z138.toNat z139) (.tv [] (.int .i64) y186) (hq0 y187 y188 y189 y190 y191 y192 y193 y194)) ∧
 (Need ((0 ≤ y186) ∧ (y186 < (y9.length : Int))) ∧
 (∃ y195 : Int,
 (∃ y196 y197 : Nat,
 (∃ y198 y199 y200 y201 : Int,
 (∃ y202 : Nat,
 (∃ y203 : qT0,
 (Need (E 19 [(.op (0, 0) []), (.tv [] (.int .i64) z43)] (hq0 y187 y188 y189 y190 y191 y192 y193 y194) (.tv [] (.int .i64) y195) (hq0 y196 y197 y198 y199 y200 y201 y202 y203)) ∧
 ((((decide ((List.getD y9 y186.toNat ((0 : Int), ([], ((0 : Int), ())))).1 = y195)) = true) →
 (∃ y205 : Bool,
 (Need (E 15 [(.tv [] qt8 (List.getD y9 y186.toNat ((0 : Int), ([], ((0 : Int), ())))).2.1), (.tv [] qt8 z136)] [] (.tv [] .bool y205) []) ∧
 (∃ y206 : Bool,
 (∃ y207 y208 : Nat,
 (∃ y209 y210 y211 y212 : Int,
 (∃ y213 : Nat,
 (∃ y214 : qT0,
 (Need (E 25 [(.op (0, 0) []), (.tv [] qt4 (y7, (y8, (y9, (y10, (y11, (y12, ()))))))), (.tv [] (.int .i64) z43)] (hq0 y196 y197 y198 y199 y200 y201 y202 y203) (.tv [] .bool y206) (hq0 y207 y208 y209 y210 y211 y212 y213 y214)) ∧
 ((((!(BEq.beq y206 y205)) = true) →
 (Q (.tv [] .bool false) [])) ∧
 (((!(BEq.beq y206 y205)) = false) →
 (Need ((-9223372036854775808 ≤ (z43 + 1)) ∧ ((z43 + 1) ≤ 9223372036854775807)) ∧
 (Need (((y7, (y8, (y9, (y10, (y11, (y12, ())))))) = (y7, (y8, (y9, (y10, (y11, (y12, ()))))))) ∧ ((y214.length = y214.length) ∧ (z144.length = z144.length))) ∧
 ((y41 (z43 + 1) (y213 : Int) y214 y210 y211 y212 (z143.toNat : Int) z144 z145 z146 z147 (y207 : Int) (y208 : Int) y209 (z151.toNat : Int) (z152.toNat : Int)) ∧
      Need ((y42 (z43 + 1) (y213 : Int) y214 y210 y211 y212 (z143.toNat : Int) z144 z145 z146 z147 (y207 : Int) (y208 : Int) y209 (z151.toNat : Int) (z152.toNat : Int)) < (y42 z43 z44 z45 z46 z47 z48 z49 z50 z51 z52 z53 z54 z55 z56 z57 z58)))))))))))))))) ∧
 (((decide ((List.getD y9 y186.toNat ((0 : Int), ([], ((0 : Int), ())))).1 = y195)) = false) →
 (∃ y218 : Bool,
 (∃ y219 y220 : Nat,
 (∃ y221 y222 y223 y224 : Int,
 (∃ y225 : Nat,
 (∃ y226 : qT0,
 (Need (E 25 [(.op (0, 0) []), (.tv [] qt4 (y7, (y8, (y9, (y10, (y11, (y12, ()))))))), (.tv [] (.int .i64) z43)] (hq0 y196 y197 y198 y199 y200 y201 y202 y203) (.tv [] .bool y218) (hq0 y219 y220 y221 y222 y223 y224 y225 y226)) ∧
 ((((!(BEq.beq y218 false)) = true) →
 (Q (.tv [] .bool false) [])) ∧
 (((!(BEq.beq y218 false)) = false) →
 (Need ((-9223372036854775808 ≤ (z43 + 1)) ∧ ((z43 + 1) ≤ 9223372036854775807)) ∧
 (Need (((y7, (y8, (y9, (y10, (y11, (y12, ())))))) = (y7, (y8, (y9, (y10, (y11, (y12, ()))))))) ∧ ((y226.length = y226.length) ∧ (z144.length = z144.length))) ∧
 ((y41 (z43 + 1) (y225 : Int) y226 y222 y223 y224 (z143.toNat : Int) z144 z145 z146 z147 (y219 : Int) (y220 : Int) y221 (z151.toNat : Int) (z152.toNat : Int)) ∧
     Need ((y42 (z43 + 1) (y225 : Int) y226 y222 y223 y224 (z143.toNat : Int) z144 z145 z146 z147 (y219 : Int) (y220 : Int) y221 (z151.toNat : Int) (z152.toNat : Int)) < (y42 z43 z44 z45 z46 z47 z48 z49 z50 z51 z52 z53 z54 z55 z56 z57 z58))))))))))))))))))))))))))))) ∧
 ((z135 = false) →
 (∃ y230 : Bool,
 (∃ y231 y232 : Nat,
 (∃ y233 y234 y235 y236 : Int,
 (∃ y237 : Nat,
 (∃ y238 : qT0,
 (Need (E 25 [(.op (0, 0) []), (.tv [] qt4 (y7, (y8, (y9, (y10, (y11, (y12, ()))))))), (.tv [] (.int .i64) z43)] (hq0 z148.toNat z149.toNat z150 z140 z141 z142 z138.toNat z139) (.tv [] .bool y230) (hq0 y231 y232 y233 y234 y235 y236 y237 y238)) ∧
 ((((!(BEq.beq y230 z135)) = true) →
 (Q (.tv [] .bool false) [])) ∧
 (((!(BEq.beq y230 z135)) = false) →
 (Need ((-9223372036854775808 ≤ (z43 + 1)) ∧ ((z43 + 1) ≤ 9223372036854775807)) ∧
 (Need (((y7, (y8, (y9, (y10, (y11, (y12, ())))))) = (y7, (y8, (y9, (y10, (y11, (y12, ()))))))) ∧ ((y238.length = y238.length) ∧ (z144.length = z144.length))) ∧
 ((y41 (z43 + 1) (y237 : Int) y238 y234 y235 y236 (z143.toNat : Int) z144 z145 z146 z147 (y231 : Int) (y232 : Int) y233 (z151.toNat : Int) (z152.toNat : Int)) ∧
    Need ((y42 (z43 + 1) (y237 : Int) y238 y234 y235 y236 (z143.toNat : Int) z144 z145 z146 z147 (y231 : Int) (y232 : Int) y233 (z151.toNat : Int) (z152.toNat : Int)) < (y42 z43 z44 z45 z46 z47 z48 z49 z50 z51 z52 z53 z54 z55 z56 z57 z58)))))))))))))))))))))))))))))))))))) ∧
 (((decide (0 < y114)) = false) →
 (∃ y242 : (Bool → (qT2 → (Int → (Int → (qT0 → (Int → (Int → (Int → (Int → (qT1 → (Int → (Int → (Int → (Int → (Int → (Int → (Int → (Int → Prop)))))))))))))))))),
 (∃ y243 : (Bool → (qT2 → (Int → (Int → (qT0 → (Int → (Int → (Int → (Int → (qT1 → (Int → (Int → (Int → (Int → (Int → (Int → (Int → (Int → Nat)))))))))))))))))),
 (Need ((y122.length = y122.length) ∧ (z50.length = z50.length)) ∧
 ((y242 false [] (0 : Int) (y121 : Int) y122 y118 y119 y120 (z49.toNat : Int) z50 z51 z52 z53 (y115 : Int) (y116 : Int) y117 (z57.toNat : Int) (z58.toNat : Int)) ∧
 (∀ z244 : Bool,
 (∀ z245 : qT2,
 (∀ z246 z247 : Int,
 (∀ z248 : qT0,
 (∀ z249 z250 z251 z252 : Int,
 (∀ z253 : qT1,
 (∀ z254 z255 z256 z257 z258 z259 z260 z261 : Int,
 ((y242 z244 z245 z246 z247 z248 z249 z250 z251 z252 z253 z254 z255 z256 z257 z258 z259 z260 z261) →
 ((((decide (z246 < (y105.length : Int))) = true) →
 (((z244 = true) →
 (Need ((0 ≤ z246) ∧ (z246 < (y105.length : Int))) ∧
 (∃ y265 : Bool,
 (∃ y266 y267 : Nat,
 (∃ y268 y269 y270 y271 : Int,
 (∃ y272 : Nat,
 (∃ y273 : qT0,
 (Need (E 25 [(.op (0, 0) []), (.tv [] qt4 (y7, (y8, (y9, (y10, (y11, (y12, ()))))))), (.tv [] (.int .i64) (List.getD y105 z246.toNat (0 : Int)))] (hq0 z257.toNat z258.toNat z259 z249 z250 z251 z247.toNat z248) (.tv [] .bool y265) (hq0 y266 y267 y268 y269 y270 y271 y272 y273)) ∧
 (Need ((0 ≤ z246) ∧ (z246 < (y105.length : Int))) ∧
 (∃ y274 : Int,
 (∃ y275 y276 : Nat,
 (∃ y277 y278 y279 y280 : Int,
 (∃ y281 : Nat,
 (∃ y282 : qT0,
 (Need (E 19 [(.op (0, 0) []), (.tv [] (.int .i64) (List.getD y105 z246.toNat (0 : Int)))] (hq0 y266 y267 y268 y269 y270 y271 y272 y273) (.tv [] (.int .i64) y274) (hq0 y275 y276 y277 y278 y279 y280 y281 y282)) ∧
 (Need ((z245.length + (List.length [y274])) ≤ bigN) ∧
 (Need ((-9223372036854775808 ≤ (z246 + 1)) ∧ ((z246 + 1) ≤ 9223372036854775807)) ∧
 (Need (((y7, (y8, (y9, (y10, (y11, (y12, ())))))) = (y7, (y8, (y9, (y10, (y11, (y12, ()))))))) ∧ ((y282.length = y282.length) ∧ (z253.length = z253.length))) ∧
 ((y242 y265 (z245 ++ [y274]) (z246 + 1) (y281 : Int) y282 y278 y279 y280 (z252.toNat : Int) z253 z254 z255 z256 (y275 : Int) (y276 : Int) y277 (z260.toNat : Int) (z261.toNat : Int)) ∧
     Need ((y243 y265 (z245 ++ [y274]) (z246 + 1) (y281 : Int) y282 y278 y279 y280 (z252.toNat : Int) z253 z254 z255 z256 (y275 : Int) (y276 : Int) y277 (z260.toNat : Int) (z261.toNat : Int)) < (y243 z244 z245 z246 z247 z248 z249 z250 z251 z252 z253 z254 z255 z256 z257 z258 z259 z260 z261))))))))))))))))))))) ∧
 ((z244 = false) →
 (Need ((0 ≤ z246) ∧ (z246 < (y105.length : Int))) ∧
 (∃ y284 : Int,
 (∃ y285 y286 : Nat,
 (∃ y287 y288 y289 y290 : Int,
 (∃ y291 : Nat,
 (∃ y292 : qT0,
 (Need (E 19 [(.op (0, 0) []), (.tv [] (.int .i64) (List.getD y105 z246.toNat (0 : Int)))] (hq0 z257.toNat z258.toNat z259 z249 z250 z251 z247.toNat z248) (.tv [] (.int .i64) y284) (hq0 y285 y286 y287 y288 y289 y290 y291 y292)) ∧
 (Need ((z245.length + (List.length [y284])) ≤ bigN) ∧
 (Need ((-9223372036854775808 ≤ (z246 + 1)) ∧ ((z246 + 1) ≤ 9223372036854775807)) ∧
 (Need (((y7, (y8, (y9, (y10, (y11, (y12, ())))))) = (y7, (y8, (y9, (y10, (y11, (y12, ()))))))) ∧ ((y292.length = y292.length) ∧ (z253.length = z253.length))) ∧
 ((y242 false (z245 ++ [y284]) (z246 + 1) (y291 : Int) y292 y288 y289 y290 (z252.toNat : Int) z253 z254 z255 z256 (y285 : Int) (y286 : Int) y287 (z260.toNat : Int) (z261.toNat : Int)) ∧
    Need ((y243 false (z245 ++ [y284]) (z246 + 1) (y291 : Int) y292 y288 y289 y290 (z252.toNat : Int) z253 z254 z255 z256 (y285 : Int) (y286 : Int) y287 (z260.toNat : Int) (z261.toNat : Int)) < (y243 z244 z245 z246 z247 z248 z249 z250 z251 z252 z253 z254 z255 z256 z257 z258 z259 z260 z261)))))))))))))))) ∧
 (((decide (z246 < (y105.length : Int))) = false) →
 (((z244 = true) →
 (∃ y295 : Int,
 (∃ y296 y297 : Nat,
 (∃ y298 y299 y300 y301 : Int,
 (∃ y302 : Nat,
 (∃ y303 : qT0,
 (Need (E 18 [(.op (0, 0) []), (.tv [] (.int .i64) z43)] (hq0 z257.toNat z258.toNat z259 z249 z250 z251 z247.toNat z248) (.tv [] (.int .i64) y295) (hq0 y296 y297 y298 y299 y300 y301 y302 y303)) ∧
 (Need ((0 ≤ y295) ∧ (y295 < (y9.length : Int))) ∧
 (∃ y304 : Int,
 (∃ y305 y306 : Nat,
 (∃ y307 y308 y309 y310 : Int,
 (∃ y311 : Nat,
 (∃ y312 : qT0,
 (Need (E 19 [(.op (0, 0) []), (.tv [] (.int .i64) z43)] (hq0 y296 y297 y298 y299 y300 y301 y302 y303) (.tv [] (.int .i64) y304) (hq0 y305 y306 y307 y308 y309 y310 y311 y312)) ∧
 ((((decide ((List.getD y9 y295.toNat ((0 : Int), ([], ((0 : Int), ())))).1 = y304)) = true) →
 (∃ y314 : Bool,
 (Need (E 15 [(.tv [] qt8 (List.getD y9 y295.toNat ((0 : Int), ([], ((0 : Int), ())))).2.1), (.tv [] qt8 z245)] [] (.tv [] .bool y314) []) ∧
 (∃ y315 : Bool,
 (∃ y316 y317 : Nat,
 (∃ y318 y319 y320 y321 : Int,
 (∃ y322 : Nat,
 (∃ y323 : qT0,
 (Need (E 25 [(.op (0, 0) []), (.tv [] qt4 (y7, (y8, (y9, (y10, (y11, (y12, ()))))))), (.tv [] (.int .i64) z43)] (hq0 y305 y306 y307 y308 y309 y310 y311 y312) (.tv [] .bool y315) (hq0 y316 y317 y318 y319 y320 y321 y322 y323)) ∧
 ((((!(BEq.beq y315 y314)) = true) →
 (Q (.tv [] .bool false) [])) ∧
 (((!(BEq.beq y315 y314)) = false) →
 (Need ((-9223372036854775808 ≤ (z43 + 1)) ∧ ((z43 + 1) ≤ 9223372036854775807)) ∧
 (Need (((y7, (y8, (y9, (y10, (y11, (y12, ())))))) = (y7, (y8, (y9, (y10, (y11, (y12, ()))))))) ∧ ((y323.length = y323.length) ∧ (z253.length = z253.length))) ∧
 ((y41 (z43 + 1) (y322 : Int) y323 y319 y320 y321 (z252.toNat : Int) z253 z254 z255 z256 (y316 : Int) (y317 : Int) y318 (z260.toNat : Int) (z261.toNat : Int)) ∧
     Need ((y42 (z43 + 1) (y322 : Int) y323 y319 y320 y321 (z252.toNat : Int) z253 z254 z255 z256 (y316 : Int) (y317 : Int) y318 (z260.toNat : Int) (z261.toNat : Int)) < (y42 z43 z44 z45 z46 z47 z48 z49 z50 z51 z52 z53 z54 z55 z56 z57 z58)))))))))))))))) ∧
 (((decide ((List.getD y9 y295.toNat ((0 : Int), ([], ((0 : Int), ())))).1 = y304)) = false) →
 (∃ y327 : Bool,
 (∃ y328 y329 : Nat,
 (∃ y330 y331 y332 y333 : Int,
 (∃ y334 : Nat,
 (∃ y335 : qT0,
 (Need (E 25 [(.op (0, 0) []), (.tv [] qt4 (y7, (y8, (y9, (y10, (y11, (y12, ()))))))), (.tv [] (.int .i64) z43)] (hq0 y305 y306 y307 y308 y309 y310 y311 y312) (.tv [] .bool y327) (hq0 y328 y329 y330 y331 y332 y333 y334 y335)) ∧
 ((((!(BEq.beq y327 false)) = true) →
 (Q (.tv [] .bool false) [])) ∧
 (((!(BEq.beq y327 false)) = false) →
 (Need ((-9223372036854775808 ≤ (z43 + 1)) ∧ ((z43 + 1) ≤ 9223372036854775807)) ∧
 (Need (((y7, (y8, (y9, (y10, (y11, (y12, ())))))) = (y7, (y8, (y9, (y10, (y11, (y12, ()))))))) ∧ ((y335.length = y335.length) ∧ (z253.length = z253.length))) ∧
 ((y41 (z43 + 1) (y334 : Int) y335 y331 y332 y333 (z252.toNat : Int) z253 z254 z255 z256 (y328 : Int) (y329 : Int) y330 (z260.toNat : Int) (z261.toNat : Int)) ∧
    Need ((y42 (z43 + 1) (y334 : Int) y335 y331 y332 y333 (z252.toNat : Int) z253 z254 z255 z256 (y328 : Int) (y329 : Int) y330 (z260.toNat : Int) (z261.toNat : Int)) < (y42 z43 z44 z45 z46 z47 z48 z49 z50 z51 z52 z53 z54 z55 z56 z57 z58))))))))))))))))))))))))))))) ∧
 ((z244 = false) →
 (∃ y339 : Bool,
 (∃ y340 y341 : Nat,
 (∃ y342 y343 y344 y345 : Int,
 (∃ y346 : Nat,
 (∃ y347 : qT0,
 (Need (E 25 [(.op (0, 0) []), (.tv [] qt4 (y7, (y8, (y9, (y10, (y11, (y12, ()))))))), (.tv [] (.int .i64) z43)] (hq0 z257.toNat z258.toNat z259 z249 z250 z251 z247.toNat z248) (.tv [] .bool y339) (hq0 y340 y341 y342 y343 y344 y345 y346 y347)) ∧
 ((((!(BEq.beq y339 z244)) = true) →
 (Q (.tv [] .bool false) [])) ∧
 (((!(BEq.beq y339 z244)) = false) →
 (Need ((-9223372036854775808 ≤ (z43 + 1)) ∧ ((z43 + 1) ≤ 9223372036854775807)) ∧
 (Need (((y7, (y8, (y9, (y10, (y11, (y12, ())))))) = (y7, (y8, (y9, (y10, (y11, (y12, ()))))))) ∧ ((y347.length = y347.length) ∧ (z253.length = z253.length))) ∧
 ((y41 (z43 + 1) (y346 : Int) y347 y343 y344 y345 (z252.toNat : Int) z253 z254 z255 z256 (y340 : Int) (y341 : Int) y342 (z260.toNat : Int) (z261.toNat : Int)) ∧
   Need ((y42 (z43 + 1) (y346 : Int) y347 y343 y344 y345 (z252.toNat : Int) z253 z254 z255 z256 (y340 : Int) (y341 : Int) y342 (z260.toNat : Int) (z261.toNat : Int)) < (y42 z43 z44 z45 z46 z47 z48 z49 z50 z51 z52 z53 z54 z55 z56 z57 z58))))))))))))))))))))))))))))))))))))))))))))))))))) ∧
 (((decide (z43 < y60)) = false) →
 (Q (.tv [] .bool y0) []))))))))))))))))))))))))))))))))))))) ∨
 (∃ y351 y352 y353 : Nat,
 (∃ y354 : qT1,
 (∃ y355 y356 y357 : Int,
 (Need (E 22 [(.tv [] qt4 (y7, (y8, (y9, (y10, (y11, (y12, ()))))))), (.tv [] (.slice qt11) x1)] [] (.tup [(.tv [] .ref (Option.none )), (.op (1, 0) [])]) [((1, 0), ⟨⟨qt7, ((some (1, 1)), ((some ((1, 2), (y351, (0, y352)))), ()))⟩, []⟩), ((1, 2), ⟨⟨(.arr (Nat.succ y353) y354.length qt2), y354⟩, []⟩), ((1, 1), ⟨⟨qt1, (y355, (y356, (y357, ())))⟩, []⟩)]) ∧
 (((true = true) →
 (Q (.tv [] .bool false) [])) ∧
 ((true = false) →
 (∃ y360 : Int,
 (∃ y361 y362 : Nat,
 (∃ y363 y364 y365 y366 : Int,
 (∃ y367 : Nat,
 (∃ y368 : qT0,
 (Need (E 24 [(.tv [] .ref (Option.none ))] [] (.tv [] (.int .i64) y360) (hq0 y361 y362 y363 y364 y365 y366 y367 y368)) ∧
 ((((decide (y360 ≠ (y352 : Int))) = true) →
 (Q (.tv [] .bool false) [])) ∧
 (((decide (y360 ≠ (y352 : Int))) = false) →
 (∃ y371 : (Int → (Int → (qT1 → (Int → (Int → (Int → (Int → (Int → Prop)))))))),
 (∃ y372 : (Int → (Int → (qT1 → (Int → (Int → (Int → (Int → (Int → Nat)))))))),
 (Need (y354.length = y354.length) ∧
 ((y371 (0 : Int) (y353 : Int) y354 y355 y356 y357 (y351 : Int) (y352 : Int)) ∧
 (∀ z373 z374 : Int,
 (∀ z375 : qT1,
 (∀ z376 z377 z378 z379 z380 : Int,
 ((y371 z373 z374 z375 z376 z377 z378 z379 z380) →
 (∃ y382 : Int,
 (∃ y383 y384 : Nat,
 (∃ y385 y386 y387 y388 : Int,
 (∃ y389 : Nat,
 (∃ y390 : qT0,
 (Need (E 24 [(.tv [] .ref (Option.none ))] [] (.tv [] (.int .i64) y382) (hq0 y383 y384 y385 y386 y387 y388 y389 y390)) ∧
 ((((decide (z373 < y382)) = true) →
 (Need ((0 ≤ z373) ∧ (z373 < (z380.toNat : Int))) ∧
 (Need (z374.toNat = z379.toNat) ∧
 (Need ((0 + z373.toNat) < z375.length) ∧
 (Need (z374.toNat = z379.toNat) ∧
 (Need ((0 + z373.toNat) < z375.length) ∧
 ((((List.getD z375 (0 + z373.toNat) (false, ((0 : Int), ((0 : Int), (((0 : Int), ((0 : Int), ((0 : Int), ()))), ([], (false, ()))))))).1 = true) →
 (∃ y393 : Bool,
 (∃ y394 y395 : Nat,
 (∃ y396 y397 y398 y399 : Int,
 (∃ y400 : Nat,
 (∃ y401 : qT0,
 (Need (E 25 [(.tv [] .ref (Option.none )), (.tv [] qt4 (y7, (y8, (y9, (y10, (y11, (y12, ()))))))), (.tv [] (.int .i64) z373)] [] (.tv [] .bool y393) (hq0 y394 y395 y396 y397 y398 y399 y400 y401)) ∧
 (∃ y402 : Int,
 (∃ y403 y404 : Nat,
 (∃ y405 y406 y407 y408 : Int,
 (∃ y409 : Nat,
 (∃ y410 : qT0,
 (Need (E 19 [(.tv [] .ref (Option.none )), (.tv [] (.int .i64) z373)] [] (.tv [] (.int .i64) y402) (hq0 y403 y404 y405 y406 y407 y408 y409 y410)) ∧
 ((((decide (0 < y402)) = true) →
 (∃ y412 : Int,
 (∃ y413 y414 : Nat,
 (∃ y415 y416 y417 y418 : Int,
 (∃ y419 : Nat,
 (∃ y420 : qT0,
 (Need (E 19 [(.tv [] .ref (Option.none )), (.tv [] (.int .i64) z373)] [] (.tv [] (.int .i64) y412) (hq0 y413 y414 y415 y416 y417 y418 y419 y420)) ∧
 ((((!(BEq.beq y393 (decide (y412 < (y7.length : Int))))) = true) →
 (Q (.tv [] .bool false) [])) ∧
 (((!(BEq.beq y393 (decide (y412 < (y7.length : Int))))) = false) →
 (Need ((-9223372036854775808 ≤ (z373 + 1)) ∧ ((z373 + 1) ≤ 9223372036854775807)) ∧
 (Need (((y7, (y8, (y9, (y10, (y11, (y12, ())))))) = (y7, (y8, (y9, (y10, (y11, (y12, ()))))))) ∧ (z375.length = z375.length)) ∧
 ((y371 (z373 + 1) (z374.toNat : Int) z375 z376 z377 z378 (z379.toNat : Int) (z380.toNat : Int)) ∧
    Need ((y372 (z373 + 1) (z374.toNat : Int) z375 z376 z377 z378 (z379.toNat : Int) (z380.toNat : Int)) < (y372 z373 z374 z375 z376 z377 z378 z379 z380)))))))))))))) ∧
 (((decide (0 < y402)) = false) →
 ((((!(BEq.beq y393 false)) = true) →
 (Q (.tv [] .bool false) [])) ∧
 (((!(BEq.beq y393 false)) = false) →
 (Need ((-9223372036854775808 ≤ (z373 + 1)) ∧ ((z373 + 1) ≤ 9223372036854775807)) ∧
 (Need (((y7, (y8, (y9, (y10, (y11, (y12, ())))))) = (y7, (y8, (y9, (y10, (y11, (y12, ()))))))) ∧ (z375.length = z375.length)) ∧
 ((y371 (z373 + 1) (z374.toNat : Int) z375 z376 z377 z378 (z379.toNat : Int) (z380.toNat : Int)) ∧
   Need ((y372 (z373 + 1) (z374.toNat : Int) z375 z376 z377 z378 (z379.toNat : Int) (z380.toNat : Int)) < (y372 z373 z374 z375 z376 z377 z378 z379 z380)))))))))))))))))))))) ∧
 (((List.getD z375 (0 + z373.toNat) (false, ((0 : Int), ((0 : Int), (((0 : Int), ((0 : Int), ((0 : Int), ()))), ([], (false, ()))))))).1 = false) →
 (∃ y427 : qT2,
 (∃ y428 y429 : Nat,
 (∃ y430 y431 y432 y433 : Int,
 (∃ y434 : Nat,
 (∃ y435 : qT0,
 (Need (E 14 [(.tv [] .ref (Option.none )), (.tv [] (.int .i64) z373)] [] (.tv [[]] qt8 y427) (hq0 y428 y429 y430 y431 y432 y433 y434 y435)) ∧
 (∃ y436 : Int,
 (∃ y437 y438 : Nat,
 (∃ y439 y440 y441 y442 : Int,
 (∃ y443 : Nat,
 (∃ y444 : qT0,
 (Need (E 18 [(.tv [] .ref (Option.none )), (.tv [] (.int .i64) z373)] [] (.tv [] (.int .i64) y436) (hq0 y437 y438 y439 y440 y441 y442 y443 y444)) ∧
 ((((decide (0 < y436)) = true) →
 (∃ y446 : Int,
 (∃ y447 y448 : Nat,
 (∃ y449 y450 y451 y452 : Int,
 (∃ y453 : Nat,
 (∃ y454 : qT0,
 (Need (E 18 [(.tv [] .ref (Option.none )), (.tv [] (.int .i64) z373)] [] (.tv [] (.int .i64) y446) (hq0 y447 y448 y449 y450 y451 y452 y453 y454)) ∧
 (∃ y455 : (Bool → (qT2 → (Int → (Int → (qT1 → (Int → (Int → (Int → (Int → (Int → Prop)))))))))),
 (∃ y456 : (Bool → (qT2 → (Int → (Int → (qT1 → (Int → (Int → (Int → (Int → (Int → Nat)))))))))),
 (Need (z375.length = z375.length) ∧
 ((y455 (decide (y446 < (y9.length : Int))) [] (0 : Int) (z374.toNat : Int) z375 z376 z377 z378 (z379.toNat : Int) (z380.toNat : Int)) ∧
 (∀ z457 : Bool,
 (∀ z458 : qT2,
 (∀ z459 z460 : Int,
 (∀ z461 : qT1,
 (∀ z462 z463 z464 z465 z466 : Int,
 ((y455 z457 z458 z459 z460 z461 z462 z463 z464 z465 z466) →
 ((((decide (z459 < (y427.length : Int))) = true) →
 (((z457 = true) →
 (Need ((0 ≤ z459) ∧ (z459 < (y427.length : Int))) ∧
 (∃ y470 : Bool,
 (∃ y471 y472 : Nat,
 (∃ y473 y474 y475 y476 : Int,
 (∃ y477 : Nat,
 (∃ y478 : qT0,
 (Need (E 25 [(.tv [] .ref (Option.none )), (.tv [] qt4 (y7, (y8, (y9, (y10, (y11, (y12, ()))))))), (.tv [] (.int .i64) (List.getD y427 z459.toNat (0 : Int)))] [] (.tv [] .bool y470) (hq0 y471 y472 y473 y474 y475 y476 y477 y478)) ∧
 (Need ((0 ≤ z459) ∧ (z459 < (y427.length : Int))) ∧
 (∃ y479 : Int,
 (∃ y480 y481 : Nat,
 (∃ y482 y483 y484 y485 : Int,
 (∃ y486 : Nat,
 (∃ y487 : qT0,
 (Need (E 19 [(.tv [] .ref (Option.none )), (.tv [] (.int .i64) (List.getD y427 z459.toNat (0 : Int)))] [] (.tv [] (.int .i64) y479) (hq0 y480 y481 y482 y483 y484 y485 y486 y487)) ∧
 (Need ((z458.length + (List.length [y479])) ≤ bigN) ∧
 (Need ((-9223372036854775808 ≤ (z459 + 1)) ∧ ((z459 + 1) ≤ 9223372036854775807)) ∧
 (Need (((y7, (y8, (y9, (y10, (y11, (y12, ())))))) = (y7, (y8, (y9, (y10, (y11, (y12, ()))))))) ∧ (z461.length = z461.length)) ∧
 ((y455 y470 (z458 ++ [y479]) (z459 + 1) (z460.toNat : Int) z461 z462 z463 z464 (z465.toNat : Int) (z466.toNat : Int)) ∧
     Need ((y456 y470 (z458 ++ [y479]) (z459 + 1) (z460.toNat : Int) z461 z462 z463 z464 (z465.toNat : Int) (z466.toNat : Int)) < (y456 z457 z458 z459 z460 z461 z462 z463 z464 z465 z466))))))))))))))))))))) ∧
 ((z457 = false) →
 (Need ((0 ≤ z459) ∧ (z459 < (y427.length : Int))) ∧
 (∃ y489 : Int,
 (∃ y490 y491 : Nat,
 (∃ y492 y493 y494 y495 : Int,
 (∃ y496 : Nat,
 (∃ y497 : qT0,
 (Need (E 19 [(.tv [] .ref (Option.none )), (.tv [] (.int .i64) (List.getD y427 z459.toNat (0 : Int)))] [] (.tv [] (.int .i64) y489) (hq0 y490 y491 y492 y493 y494 y495 y496 y497)) ∧
 (Need ((z458.length + (List.length [y489])) ≤ bigN) ∧
 (Need ((-9223372036854775808 ≤ (z459 + 1)) ∧ ((z459 + 1) ≤ 9223372036854775807)) ∧
 (Need (((y7, (y8, (y9, (y10, (y11, (y12, ())))))) = (y7, (y8, (y9, (y10, (y11, (y12, ()))))))) ∧ (z461.length = z461.length)) ∧
 ((y455 false (z458 ++ [y489]) (z459 + 1) (z460.toNat : Int) z461 z462 z463 z464 (z465.toNat : Int) (z466.toNat : Int)) ∧
    Need ((y456 false (z458 ++ [y489]) (z459 + 1) (z460.toNat : Int) z461 z462 z463 z464 (z465.toNat : Int) (z466.toNat : Int)) < (y456 z457 z458 z459 z460 z461 z462 z463 z464 z465 z466)))))))))))))))) ∧
 (((decide (z459 < (y427.length : Int))) = false) →
 (((z457 = true) →
 (∃ y500 : Int,
 (∃ y501 y502 : Nat,
 (∃ y503 y504 y505 y506 : Int,
 (∃ y507 : Nat,
 (∃ y508 : qT0,
 (Need (E 18 [(.tv [] .ref (Option.none )), (.tv [] (.int .i64) z373)] [] (.tv [] (.int .i64) y500) (hq0 y501 y502 y503 y504 y505 y506 y507 y508)) ∧
 (Need ((0 ≤ y500) ∧ (y500 < (y9.length : Int))) ∧
 (∃ y509 : Int,
 (∃ y510 y511 : Nat,
 (∃ y512 y513 y514 y515 : Int,
 (∃ y516 : Nat,
 (∃ y517 : qT0,
 (Need (E 19 [(.tv [] .ref (Option.none )), (.tv [] (.int .i64) z373)] [] (.tv [] (.int .i64) y509) (hq0 y510 y511 y512 y513 y514 y515 y516 y517)) ∧
 ((((decide ((List.getD y9 y500.toNat ((0 : Int), ([], ((0 : Int), ())))).1 = y509)) = true) →
 (∃ y519 : Bool,
 (Need (E 15 [(.tv [] qt8 (List.getD y9 y500.toNat ((0 : Int), ([], ((0 : Int), ())))).2.1), (.tv [] qt8 z458)] [] (.tv [] .bool y519) []) ∧
 (∃ y520 : Bool,
 (∃ y521 y522 : Nat,
 (∃ y523 y524 y525 y526 : Int,
 (∃ y527 : Nat,
 (∃ y528 : qT0,
 (Need (E 25 [(.tv [] .ref (Option.none )), (.tv [] qt4 (y7, (y8, (y9, (y10, (y11, (y12, ()))))))), (.tv [] (.int .i64) z373)] [] (.tv [] .bool y520) (hq0 y521 y522 y523 y524 y525 y526 y527 y528)) ∧
 ((((!(BEq.beq y520 y519)) = true) →
 (Q (.tv [] .bool false) [])) ∧
 (((!(BEq.beq y520 y519)) = false) →
 (Need ((-9223372036854775808 ≤ (z373 + 1)) ∧ ((z373 + 1) ≤ 9223372036854775807)) ∧
 (Need (((y7, (y8, (y9, (y10, (y11, (y12, ())))))) = (y7, (y8, (y9, (y10, (y11, (y12, ()))))))) ∧ (z461.length = z461.length)) ∧
 ((y371 (z373 + 1) (z460.toNat : Int) z461 z462 z463 z464 (z465.toNat : Int) (z466.toNat : Int)) ∧
     Need ((y372 (z373 + 1) (z460.toNat : Int) z461 z462 z463 z464 (z465.toNat : Int) (z466.toNat : Int)) < (y372 z373 z374 z375 z376 z377 z378 z379 z380)))))))))))))))) ∧
 (((decide ((List.getD y9 y500.toNat ((0 : Int), ([], ((0 : Int), ())))).1 = y509)) = false) →
 (∃ y532 : Bool,
 (∃ y533 y534 : Nat,
 (∃ y535 y536 y537 y538 : Int,
 (∃ y539 : Nat,
 (∃ y540 : qT0,
 (Need (E 25 [(.tv [] .ref (Option.none )), (.tv [] qt4 (y7, (y8, (y9, (y10, (y11, (y12, ()))))))), (.tv [] (.int .i64) z373)] [] (.tv [] .bool y532) (hq0 y533 y534 y535 y536 y537 y538 y539 y540)) ∧
 ((((!(BEq.beq y532 false)) = true) →
 (Q (.tv [] .bool false) [])) ∧
 (((!(BEq.beq y532 false)) = false) →
 (Need ((-9223372036854775808 ≤ (z373 + 1)) ∧ ((z373 + 1) ≤ 9223372036854775807)) ∧
 (Need (((y7, (y8, (y9, (y10, (y11, (y12, ())))))) = (y7, (y8, (y9, (y10, (y11, (y12, ()))))))) ∧ (z461.length = z461.length)) ∧
 ((y371 (z373 + 1) (z460.toNat : Int) z461 z462 z463 z464 (z465.toNat : Int) (z466.toNat : Int)) ∧
    Need ((y372 (z373 + 1) (z460.toNat : Int) z461 z462 z463 z464 (z465.toNat : Int) (z466.toNat : Int)) < (y372 z373 z374 z375 z376 z377 z378 z379 z380))))))))))))))))))))))))))))) ∧
 ((z457 = false) →
 (∃ y544 : Bool,
 (∃ y545 y546 : Nat,
 (∃ y547 y548 y549 y550 : Int,
 (∃ y551 : Nat,
 (∃ y552 : qT0,
 (Need (E 25 [(.tv [] .ref (Option.none )), (.tv [] qt4 (y7, (y8, (y9, (y10, (y11, (y12, ()))))))), (.tv [] (.int .i64) z373)] [] (.tv [] .bool y544) (hq0 y545 y546 y547 y548 y549 y550 y551 y552)) ∧
 ((((!(BEq.beq y544 z457)) = true) →
 (Q (.tv [] .bool false) [])) ∧
 (((!(BEq.beq y544 z457)) = false) →
 (Need ((-9223372036854775808 ≤ (z373 + 1)) ∧ ((z373 + 1) ≤ 9223372036854775807)) ∧
 (Need (((y7, (y8, (y9, (y10, (y11, (y12, ())))))) = (y7, (y8, (y9, (y10, (y11, (y12, ()))))))) ∧ (z461.length = z461.length)) ∧
 ((y371 (z373 + 1) (z460.toNat : Int) z461 z462 z463 z464 (z465.toNat : Int) (z466.toNat : Int)) ∧
   Need ((y372 (z373 + 1) (z460.toNat : Int) z461 z462 z463 z464 (z465.toNat : Int) (z466.toNat : Int)) < (y372 z373 z374 z375 z376 z377 z378 z379 z380)))))))))))))))))))))))))))))))))) ∧
 (((decide (0 < y436)) = false) →
 (∃ y556 : (Bool → (qT2 → (Int → (Int → (qT1 → (Int → (Int → (Int → (Int → (Int → Prop)))))))))),
 (∃ y557 : (Bool → (qT2 → (Int → (Int → (qT1 → (Int → (Int → (Int → (Int → (Int → Nat)))))))))),
 (Need (z375.length = z375.length) ∧
 ((y556 false [] (0 : Int) (z374.toNat : Int) z375 z376 z377 z378 (z379.toNat : Int) (z380.toNat : Int)) ∧
 (∀ z558 : Bool,
 (∀ z559 : qT2,
 (∀ z560 z561 : Int,
 (∀ z562 : qT1,
 (∀ z563 z564 z565 z566 z567 : Int,
 ((y556 z558 z559 z560 z561 z562 z563 z564 z565 z566 z567) →
 ((((decide (z560 < (y427.length : Int))) = true) →
 (((z558 = true) →
 (Need ((0 ≤ z560) ∧ (z560 < (y427.length : Int))) ∧
 (∃ y571 : Bool,
 (∃ y572 y573 : Nat,
 (∃ y574 y575 y576 y577 : Int,
 (∃ y578 : Nat,
 (∃ y579 : qT0,
 (Need (E 25 [(.tv [] .ref (Option.none )), (.tv [] qt4 (y7, (y8, (y9, (y10, (y11, (y12, ()))))))), (.tv [] (.int .i64) (List.getD y427 z560.toNat (0 : Int)))] [] (.tv [] .bool y571) (hq0 y572 y573 y574 y575 y576 y577 y578 y579)) ∧
 (Need ((0 ≤ z560) ∧ (z560 < (y427.length : Int))) ∧
 (∃ y580 : Int,
 (∃ y581 y582 : Nat,
 (∃ y583 y584 y585 y586 : Int,
 (∃ y587 : Nat,
 (∃ y588 : qT0,
 (Need (E 19 [(.tv [] .ref (Option.none )), (.tv [] (.int .i64) (List.getD y427 z560.toNat (0 : Int)))] [] (.tv [] (.int .i64) y580) (hq0 y581 y582 y583 y584 y585 y586 y587 y588)) ∧
 (Need ((z559.length + (List.length [y580])) ≤ bigN) ∧
 (Need ((-9223372036854775808 ≤ (z560 + 1)) ∧ ((z560 + 1) ≤ 9223372036854775807)) ∧
 (Need (((y7, (y8, (y9, (y10, (y11, (y12, ())))))) = (y7, (y8, (y9, (y10, (y11, (y12, ()))))))) ∧ (z562.length = z562.length)) ∧
 ((y556 y571 (z559 ++ [y580]) (z560 + 1) (z561.toNat : Int) z562 z563 z564 z565 (z566.toNat : Int) (z567.toNat : Int)) ∧
    Need ((y557 y571 (z559 ++ [y580]) (z560 + 1) (z561.toNat : Int) z562 z563 z564 z565 (z566.toNat : Int) (z567.toNat : Int)) < (y557 z558 z559 z560 z561 z562 z563 z564 z565 z566 z567))))))))))))))))))))) ∧
 ((z558 = false) →
 (Need ((0 ≤ z560) ∧ (z560 < (y427.length : Int))) ∧
 (∃ y590 : Int,
 (∃ y591 y592 : Nat,
 (∃ y593 y594 y595 y596 : Int,
 (∃ y597 : Nat,
 (∃ y598 : qT0,
 (Need (E 19 [(.tv [] .ref (Option.none )), (.tv [] (.int .i64) (List.getD y427 z560.toNat (0 : Int)))] [] (.tv [] (.int .i64) y590) (hq0 y591 y592 y593 y594 y595 y596 y597 y598)) ∧
 (Need ((z559.length + (List.length [y590])) ≤ bigN) ∧
 (Need ((-9223372036854775808 ≤ (z560 + 1)) ∧ ((z560 + 1) ≤ 9223372036854775807)) ∧
 (Need (((y7, (y8, (y9, (y10, (y11, (y12, ())))))) = (y7, (y8, (y9, (y10, (y11, (y12, ()))))))) ∧ (z562.length = z562.length)) ∧
 ((y556 false (z559 ++ [y590]) (z560 + 1) (z561.toNat : Int) z562 z563 z564 z565 (z566.toNat : Int) (z567.toNat : Int)) ∧
   Need ((y557 false (z559 ++ [y590]) (z560 + 1) (z561.toNat : Int) z562 z563 z564 z565 (z566.toNat : Int) (z567.toNat : Int)) < (y557 z558 z559 z560 z561 z562 z563 z564 z565 z566 z567)))))))))))))))) ∧
 (((decide (z560 < (y427.length : Int))) = false) →
 (((z558 = true) →
 (∃ y601 : Int,
 (∃ y602 y603 : Nat,
 (∃ y604 y605 y606 y607 : Int,
 (∃ y608 : Nat,
 (∃ y609 : qT0,
 (Need (E 18 [(.tv [] .ref (Option.none )), (.tv [] (.int .i64) z373)] [] (.tv [] (.int .i64) y601) (hq0 y602 y603 y604 y605 y606 y607 y608 y609)) ∧
 (Need ((0 ≤ y601) ∧ (y601 < (y9.length : Int))) ∧
 (∃ y610 : Int,
 (∃ y611 y612 : Nat,
 (∃ y613 y614 y615 y616 : Int,
 (∃ y617 : Nat,
 (∃ y618 : qT0,
 (Need (E 19 [(.tv [] .ref (Option.none )), (.tv [] (.int .i64) z373)] [] (.tv [] (.int .i64) y610) (hq0 y611 y612 y613 y614 y615 y616 y617 y618)) ∧
 ((((decide ((List.getD y9 y601.toNat ((0 : Int), ([], ((0 : Int), ())))).1 = y610)) = true) →
 (∃ y620 : Bool,
 (Need (E 15 [(.tv [] qt8 (List.getD y9 y601.toNat ((0 : Int), ([], ((0 : Int), ())))).2.1), (.tv [] qt8 z559)] [] (.tv [] .bool y620) []) ∧
 (∃ y621 : Bool,
 (∃ y622 y623 : Nat,
 (∃ y624 y625 y626 y627 : Int,
 (∃ y628 : Nat,
 (∃ y629 : qT0,
 (Need (E 25 [(.tv [] .ref (Option.none )), (.tv [] qt4 (y7, (y8, (y9, (y10, (y11, (y12, ()))))))), (.tv [] (.int .i64) z373)] [] (.tv [] .bool y621) (hq0 y622 y623 y624 y625 y626 y627 y628 y629)) ∧
 ((((!(BEq.beq y621 y620)) = true) →
 (Q (.tv [] .bool false) [])) ∧
 (((!(BEq.beq y621 y620)) = false) →
 (Need ((-9223372036854775808 ≤ (z373 + 1)) ∧ ((z373 + 1) ≤ 9223372036854775807)) ∧
 (Need (((y7, (y8, (y9, (y10, (y11, (y12, ())))))) = (y7, (y8, (y9, (y10, (y11, (y12, ()))))))) ∧ (z562.length = z562.length)) ∧
 ((y371 (z373 + 1) (z561.toNat : Int) z562 z563 z564 z565 (z566.toNat : Int) (z567.toNat : Int)) ∧
    Need ((y372 (z373 + 1) (z561.toNat : Int) z562 z563 z564 z565 (z566.toNat : Int) (z567.toNat : Int)) < (y372 z373 z374 z375 z376 z377 z378 z379 z380)))))))))))))))) ∧
 (((decide ((List.getD y9 y601.toNat ((0 : Int), ([], ((0 : Int), ())))).1 = y610)) = false) →
 (∃ y633 : Bool,
 (∃ y634 y635 : Nat,
 (∃ y636 y637 y638 y639 : Int,
 (∃ y640 : Nat,
 (∃ y641 : qT0,
 (Need (E 25 [(.tv [] .ref (Option.none )), (.tv [] qt4 (y7, (y8, (y9, (y10, (y11, (y12, ()))))))), (.tv [] (.int .i64) z373)] [] (.tv [] .bool y633) (hq0 y634 y635 y636 y637 y638 y639 y640 y641)) ∧
 ((((!(BEq.beq y633 false)) = true) →
 (Q (.tv [] .bool false) [])) ∧
 (((!(BEq.beq y633 false)) = false) →
 (Need ((-9223372036854775808 ≤ (z373 + 1)) ∧ ((z373 + 1) ≤ 9223372036854775807)) ∧
 (Need (((y7, (y8, (y9, (y10, (y11, (y12, ())))))) = (y7, (y8, (y9, (y10, (y11, (y12, ()))))))) ∧ (z562.length = z562.length)) ∧
 ((y371 (z373 + 1) (z561.toNat : Int) z562 z563 z564 z565 (z566.toNat : Int) (z567.toNat : Int)) ∧
   Need ((y372 (z373 + 1) (z561.toNat : Int) z562 z563 z564 z565 (z566.toNat : Int) (z567.toNat : Int)) < (y372 z373 z374 z375 z376 z377 z378 z379 z380))))))))))))))))))))))))))))) ∧
 ((z558 = false) →
 (∃ y645 : Bool,
 (∃ y646 y647 : Nat,
 (∃ y648 y649 y650 y651 : Int,
 (∃ y652 : Nat,
 (∃ y653 : qT0,
 (Need (E 25 [(.tv [] .ref (Option.none )), (.tv [] qt4 (y7, (y8, (y9, (y10, (y11, (y12, ()))))))), (.tv [] (.int .i64) z373)] [] (.tv [] .bool y645) (hq0 y646 y647 y648 y649 y650 y651 y652 y653)) ∧
 ((((!(BEq.beq y645 z558)) = true) →
 (Q (.tv [] .bool false) [])) ∧
 (((!(BEq.beq y645 z558)) = false) →
 (Need ((-9223372036854775808 ≤ (z373 + 1)) ∧ ((z373 + 1) ≤ 9223372036854775807)) ∧
 (Need (((y7, (y8, (y9, (y10, (y11, (y12, ())))))) = (y7, (y8, (y9, (y10, (y11, (y12, ()))))))) ∧ (z562.length = z562.length)) ∧
 ((y371 (z373 + 1) (z561.toNat : Int) z562 z563 z564 z565 (z566.toNat : Int) (z567.toNat : Int)) ∧
  Need ((y372 (z373 + 1) (z561.toNat : Int) z562 z563 z564 z565 (z566.toNat : Int) (z567.toNat : Int)) < (y372 z373 z374 z375 z376 z377 z378 z379 z380))))))))))))))))))))))))))))))))))))))))))))))))) ∧
 (((decide (z373 < y382)) = false) →
 (Q (.tv [] .bool y0) [])))))))))))))))))))))))))))))))))))))))))))))))) : EvF PP orc 5 [.tv [] qt9 (x0_0, (x0_1, (x0_2, (x0_3, (x0_4, (x0_5, (x0_6, ()))))))), .tv [] (.slice qt11) x1] [] Q := vcF_ok (sg := sg) (Eq.mp (by kernel_rfl) h)
end Go.Am.T
