/-
  A part of the proof of a law: see the text that states it.
-/
import Derived.Test.YtggaihkjnomflaaDoorHead
set_option linter.all false
namespace Go.Am.D
open Go
set_option maxRecDepth 100000
set_option maxHeartbeats 4000000
theorem vc74 (o0_0:List ((Int×(List Int×((Int×(Int×Unit))×Unit))))) (o0_1:Int) (o0_2_0:List ((List Int×((List Int×(List Int×(Bool×Unit)))×Unit)))) (o0_2_1:List ((List Int×(List Int×(Bool×Unit))))) (o0_2_2:List ((Int×(List qT0×Unit)))) (o0_2_3:List Int) (o0_2_4:List ((List Int×(List qT0×(List Int×(List Int×Unit)))))) (o0_5:Bool) (o0_3:List (List Int×Bool)) (o0_4:List (List Int×Bool)) (Q:AV→Heap→Prop) (h :
((∃ y0:qT0,
 (∃ y1 y2 y3:Int,
 (Need (E 89 [(.op (0,0) []),(.tv [] (.int .i64) (1:Int))] (hq0 o0_0 o0_1 o0_2_0 o0_2_1 o0_2_2 o0_2_3 o0_2_4 o0_5 o0_3 o0_4) (.tup [(.tv [] .str y0),(.op (1,0) [])]) (hq1 y1 y2 y3 o0_0 o0_1 o0_2_0 o0_2_1 o0_2_2 o0_2_3 o0_2_4 o0_5 o0_3 o0_4)) ∧
 (∃ y4:(Int→(Int→(Int→(qT2→(Int→(qT6→(qT9→(qT4→(qT0→(qT3→(Bool→(qT5→(qT5→Prop))))))))))))),
 (∃ y5:(Int→(Int→(Int→(qT2→(Int→(qT6→(qT9→(qT4→(qT0→(qT3→(Bool→(qT5→(qT5→Nat))))))))))))),
 ((y4 y1 y2 y3 o0_0 o0_1 o0_2_0 o0_2_1 o0_2_2 o0_2_3 o0_2_4 o0_5 o0_3 o0_4) ∧
 (∀ z6 z7 z8:Int,
 (∀ z9:qT2,
 (∀ z10:Int,
 (∀ z11:qT6,
 (∀ z12:qT9,
 (∀ z13:qT4,
 (∀ z14:qT0,
 (∀ z15:qT3,
 (∀ z16:Bool,
 (∀ z17 z18:qT5,
 ((y4 z6 z7 z8 z9 z10 z11 z12 z13 z14 z15 z16 z17 z18) →
 (Q (.op (1,0) []) (hq1 z6 z7 z8 z9 z10 z11 z12 z13 z14 z15 z16 z17 z18))))))))))))))))))) ∨
 (∃ y20:qT0,
 (∃ y21:qT2,
 (∃ y22:Int,
 (∃ y23:qT6,
 (∃ y24:qT9,
 (∃ y25:qT4,
 (∃ y26:qT0,
 (∃ y27:qT3,
 (∃ y28:Bool,
 (∃ y29 y30:qT5,
 (Need (E 89 [(.op (0,0) []),(.tv [] (.int .i64) (1:Int))] (hq0 o0_0 o0_1 o0_2_0 o0_2_1 o0_2_2 o0_2_3 o0_2_4 o0_5 o0_3 o0_4) (.tup [(.tv [] .str y20),(.tv [] .ref (Option.none ))]) (hq0 y21 y22 y23 y24 y25 y26 y27 y28 y29 y30)) ∧
 ((∃ y31:qT0,
 (∃ y32 y33 y34:Int,
 (Need (E 89 [(.op (0,0) []),(.tv [] (.int .i64) (6:Int))] (hq0 y21 y22 y23 y24 y25 y26 y27 y28 y29 y30) (.tup [(.tv [] .str y31),(.op (1,0) [])]) (hq1 y32 y33 y34 y21 y22 y23 y24 y25 y26 y27 y28 y29 y30)) ∧
 (∃ y35:(Int→(Int→(Int→(qT2→(Int→(qT6→(qT9→(qT4→(qT0→(qT3→(Bool→(qT5→(qT5→Prop))))))))))))),
 (∃ y36:(Int→(Int→(Int→(qT2→(Int→(qT6→(qT9→(qT4→(qT0→(qT3→(Bool→(qT5→(qT5→Nat))))))))))))),
 ((y35 y32 y33 y34 y21 y22 y23 y24 y25 y26 y27 y28 y29 y30) ∧
 (∀ z37 z38 z39:Int,
 (∀ z40:qT2,
 (∀ z41:Int,
 (∀ z42:qT6,
 (∀ z43:qT9,
 (∀ z44:qT4,
 (∀ z45:qT0,
 (∀ z46:qT3,
 (∀ z47:Bool,
 (∀ z48 z49:qT5,
 ((y35 z37 z38 z39 z40 z41 z42 z43 z44 z45 z46 z47 z48 z49) →
 (Q (.op (1,0) []) (hq1 z37 z38 z39 z40 z41 z42 z43 z44 z45 z46 z47 z48 z49))))))))))))))))))) ∨
 (∃ y51:qT0,
 (∃ y52:qT2,
 (∃ y53:Int,
 (∃ y54:qT6,
 (∃ y55:qT9,
 (∃ y56:qT4,
 (∃ y57:qT0,
 (∃ y58:qT3,
 (∃ y59:Bool,
 (∃ y60 y61:qT5,
 (Need (E 89 [(.op (0,0) []),(.tv [] (.int .i64) (6:Int))] (hq0 y21 y22 y23 y24 y25 y26 y27 y28 y29 y30) (.tup [(.tv [] .str y51),(.tv [] .ref (Option.none ))]) (hq0 y52 y53 y54 y55 y56 y57 y58 y59 y60 y61)) ∧
 (∃ y62:(qT2→(Int→(qT6→(qT9→(qT4→(qT0→(qT3→(Bool→(qT5→(qT5→Prop)))))))))),
 (∃ y63:(qT2→(Int→(qT6→(qT9→(qT4→(qT0→(qT3→(Bool→(qT5→(qT5→Nat)))))))))),
 ((y62 y52 y53 y54 y55 y56 y57 y58 y59 y60 y61) ∧
 (∀ z64:qT2,
 (∀ z65:Int,
 (∀ z66:qT6,
 (∀ z67:qT9,
 (∀ z68:qT4,
 (∀ z69:qT0,
 (∀ z70:qT3,
 (∀ z71:Bool,
 (∀ z72 z73:qT5,
 ((y62 z64 z65 z66 z67 z68 z69 z70 z71 z72 z73) →
 ((∃ y75 y76 y77:Int,
 (∃ y78:qT2,
 (∃ y79:Int,
 (∃ y80:qT6,
 (∃ y81:qT9,
 (∃ y82:qT4,
 (∃ y83:qT0,
 (∃ y84:qT3,
 (∃ y85:Bool,
 (∃ y86 y87:qT5,
 (Need (E 90 [(.op (0,0) []),(.tv [] .str y20)] (hq0 z64 z65 z66 z67 z68 z69 z70 z71 z72 z73) (.op (1,0) []) (hq1 y75 y76 y77 y78 y79 y80 y81 y82 y83 y84 y85 y86 y87)) ∧
 (Q (.op (1,0) []) (hq1 y75 y76 y77 y78 y79 y80 y81 y82 y83 y84 y85 y86 y87))))))))))))) ∨
 (∃ y88:qT2,
 (∃ y89:Int,
 (∃ y90:qT6,
 (∃ y91:qT9,
 (∃ y92:qT4,
 (∃ y93:qT0,
 (∃ y94:qT3,
 (∃ y95:Bool,
 (∃ y96 y97:qT5,
 (Need (E 90 [(.op (0,0) []),(.tv [] .str y20)] (hq0 z64 z65 z66 z67 z68 z69 z70 z71 z72 z73) (.tv [] .ref (Option.none )) (hq0 y88 y89 y90 y91 y92 y93 y94 y95 y96 y97)) ∧
 (∃ y98:Bool,
 (Need (E 91 [(.op (0,0) []),(.tv [] (.int .i64) (7:Int))] (hq0 y88 y89 y90 y91 y92 y93 y94 y95 y96 y97) (.tv [] .bool y98) (hq0 y88 y89 y90 y91 y92 y93 y94 y95 y96 y97)) ∧
 ((((!y98)=true) →
 ((∃ y100:qT0,
 (∃ y101 y102 y103:Int,
 (Need (E 89 [(.op (0,0) []),(.tv [] (.int .i64) (8:Int))] (hq0 y88 y89 y90 y91 y92 y93 y94 y95 y96 y97) (.tup [(.tv [] .str y100),(.op (1,0) [])]) (hq1 y101 y102 y103 y88 y89 y90 y91 y92 y93 y94 y95 y96 y97)) ∧
 (Q (.op (1,0) []) (hq1 y101 y102 y103 y88 y89 y90 y91 y92 y93 y94 y95 y96 y97))))) ∨
 (∃ y104:qT0,
 (∃ y105:qT2,
 (∃ y106:Int,
 (∃ y107:qT6,
 (∃ y108:qT9,
 (∃ y109:qT4,
 (∃ y110:qT0,
 (∃ y111:qT3,
 (∃ y112:Bool,
 (∃ y113 y114:qT5,
 (Need (E 89 [(.op (0,0) []),(.tv [] (.int .i64) (8:Int))] (hq0 y88 y89 y90 y91 y92 y93 y94 y95 y96 y97) (.tup [(.tv [] .str y104),(.tv [] .ref (Option.none ))]) (hq0 y105 y106 y107 y108 y109 y110 y111 y112 y113 y114)) ∧
 (Q (.tv [] .ref (Option.none )) (hq0 y105 y106 y107 y108 y109 y110 y111 y112 y113 y114))))))))))))))) ∧
 (((!y98)=false) →
 (Need ((-9223372036854775808≤(y89+1))∧((y89+1)≤9223372036854775807)) ∧
 ((y62 y88 (y89+1) y90 y91 y92 y93 y94 y95 y96 y97) ∧
 Need ((y63 y88 (y89+1) y90 y91 y92 y93 y94 y95 y96 y97)<(y63 z64 z65 z66 z67 z68 z69 z70 z71 z72 z73))))))))))))))))))))))))))))))))))))))))))))))))))))))))):EvF PP orc 74 [.op (0,0) []] [((0,0),⟨⟨(.pair qt5 (.pair (.int .i64) (.pair qt0 (.pair (.mref .str .bool) (.pair (.mref .str .bool) qt4))))),(o0_0,(o0_1,((o0_2_0,(o0_2_1,(o0_2_2,(o0_2_3,(o0_2_4,()))))),((some (0,1):Option Key),((some (0,2):Option Key),(o0_5,()))))))⟩,[[2,0],[2,1],[2,2],[2,4]]⟩),((0,1),⟨⟨.mp .str .bool,o0_3⟩,[]⟩),((0,2),⟨⟨.mp .str .bool,o0_4⟩,[]⟩)] Q:=vc_of (by kernel_rfl) h
end Go.Am.D
namespace Go.Am.D
open Go
set_option maxRecDepth 100000
set_option maxHeartbeats 4000000
theorem vc48 (o0_0:List ((Int×(List Int×((Int×(Int×Unit))×Unit))))) (o0_1:Int) (o0_2_0:List ((List Int×((List Int×(List Int×(Bool×Unit)))×Unit)))) (o0_2_1:List ((List Int×(List Int×(Bool×Unit))))) (o0_2_2:List ((Int×(List qT0×Unit)))) (o0_2_3:List Int) (o0_2_4:List ((List Int×(List qT0×(List Int×(List Int×Unit)))))) (o0_5:Bool) (o0_3:List (List Int×Bool)) (o0_4:List (List Int×Bool)) (Q:AV→Heap→Prop) (h :
((∃ y0 y1 y2:Int,
 (∃ y3:qT2,
 (∃ y4:Int,
 (∃ y5:qT6,
 (∃ y6:qT9,
 (∃ y7:qT4,
 (∃ y8:qT0,
 (∃ y9:qT3,
 (∃ y10:Bool,
 (∃ y11 y12:qT5,
 (Need (E 72 [(.op (0,0) [])] (hq0 o0_0 o0_1 o0_2_0 o0_2_1 o0_2_2 o0_2_3 o0_2_4 o0_5 o0_3 o0_4) (.op (1,0) []) (hq1 y0 y1 y2 y3 y4 y5 y6 y7 y8 y9 y10 y11 y12)) ∧
 (∃ y13:(Int→(Int→(Int→(qT2→(Int→(qT6→(qT9→(qT4→(qT0→(qT3→(Bool→(qT5→(qT5→Prop))))))))))))),
 (∃ y14:(Int→(Int→(Int→(qT2→(Int→(qT6→(qT9→(qT4→(qT0→(qT3→(Bool→(qT5→(qT5→Nat))))))))))))),
 ((y13 y0 y1 y2 y3 y4 y5 y6 y7 y8 y9 y10 y11 y12) ∧
 (∀ z15 z16 z17:Int,
 (∀ z18:qT2,
 (∀ z19:Int,
 (∀ z20:qT6,
 (∀ z21:qT9,
 (∀ z22:qT4,
 (∀ z23:qT0,
 (∀ z24:qT3,
 (∀ z25:Bool,
 (∀ z26 z27:qT5,
 ((y13 z15 z16 z17 z18 z19 z20 z21 z22 z23 z24 z25 z26 z27) →
 (Q (.op (1,0) []) (hq1 z15 z16 z17 z18 z19 z20 z21 z22 z23 z24 z25 z26 z27))))))))))))))))))))))))))) ∨
 (∃ y29:qT2,
 (∃ y30:Int,
 (∃ y31:qT6,
 (∃ y32:qT9,
 (∃ y33:qT4,
 (∃ y34:qT0,
 (∃ y35:qT3,
 (∃ y36:Bool,
 (∃ y37 y38:qT5,
 (Need (E 72 [(.op (0,0) [])] (hq0 o0_0 o0_1 o0_2_0 o0_2_1 o0_2_2 o0_2_3 o0_2_4 o0_5 o0_3 o0_4) (.tv [] .ref (Option.none )) (hq0 y29 y30 y31 y32 y33 y34 y35 y36 y37 y38)) ∧
 (∃ y39:(qT2→(Int→(qT6→(qT9→(qT4→(qT0→(qT3→(Bool→(qT5→(qT5→Prop)))))))))),
 (∃ y40:(qT2→(Int→(qT6→(qT9→(qT4→(qT0→(qT3→(Bool→(qT5→(qT5→Nat)))))))))),
 ((y39 y29 y30 y31 y32 y33 y34 y35 y36 y37 y38) ∧
 (∀ z41:qT2,
 (∀ z42:Int,
 (∀ z43:qT6,
 (∀ z44:qT9,
 (∀ z45:qT4,
 (∀ z46:qT0,
 (∀ z47:qT3,
 (∀ z48:Bool,
 (∀ z49 z50:qT5,
 ((y39 z41 z42 z43 z44 z45 z46 z47 z48 z49 z50) →
 ((((decide ((z47.length:Int)=(0:Int)))=true) →
 ((∃ y53 y54 y55:Int,
 (∃ y56:qT2,
 (∃ y57:Int,
 (∃ y58:qT6,
 (∃ y59:qT9,
 (∃ y60:qT4,
 (∃ y61:qT0,
 (∃ y62:qT3,
 (∃ y63:Bool,
 (∃ y64 y65:qT5,
 (Need (E 74 [(.op (0,0) [])] (hq0 z41 z42 z43 z44 z45 z46 z47 z48 z49 z50) (.op (1,0) []) (hq1 y53 y54 y55 y56 y57 y58 y59 y60 y61 y62 y63 y64 y65)) ∧
 (Q (.op (1,0) []) (hq1 y53 y54 y55 y56 y57 y58 y59 y60 y61 y62 y63 y64 y65))))))))))))) ∨
 (∃ y66:qT2,
 (∃ y67:Int,
 (∃ y68:qT6,
 (∃ y69:qT9,
 (∃ y70:qT4,
 (∃ y71:qT0,
 (∃ y72:qT3,
 (∃ y73:Bool,
 (∃ y74 y75:qT5,
 (Need (E 74 [(.op (0,0) [])] (hq0 z41 z42 z43 z44 z45 z46 z47 z48 z49 z50) (.tv [] .ref (Option.none )) (hq0 y66 y67 y68 y69 y70 y71 y72 y73 y74 y75)) ∧
 ((y39 y66 y67 y68 y69 y70 y71 y72 y73 y74 y75) ∧
  Need ((y40 y66 y67 y68 y69 y70 y71 y72 y73 y74 y75)<(y40 z41 z42 z43 z44 z45 z46 z47 z48 z49 z50))))))))))))))) ∧
 (((decide ((z47.length:Int)=(0:Int)))=false) →
 ((((decide (z42<(z41.length:Int)))=true) →
 (∃ y78:Int,
 (∃ y79:qT0,
 (∃ y80 y81:Int,
 (Need (E 73 [(.op (0,0) [])] (hq0 z41 z42 z43 z44 z45 z46 z47 z48 z49 z50) (.tv [] qt1 (y78,(y79,((y80,(y81,())),())))) (hq0 z41 z42 z43 z44 z45 z46 z47 z48 z49 z50)) ∧
 ((((decide (y78≠(0:Int)))=true) →
 ((∃ y83 y84 y85:Int,
 (∃ y86:qT2,
 (∃ y87:Int,
 (∃ y88:qT6,
 (∃ y89:qT9,
 (∃ y90:qT4,
 (∃ y91:qT0,
 (∃ y92:qT3,
 (∃ y93:Bool,
 (∃ y94 y95:qT5,
 (Need (E 74 [(.op (0,0) [])] (hq0 z41 z42 z43 z44 z45 z46 z47 z48 z49 z50) (.op (1,0) []) (hq1 y83 y84 y85 y86 y87 y88 y89 y90 y91 y92 y93 y94 y95)) ∧
 (Q (.op (1,0) []) (hq1 y83 y84 y85 y86 y87 y88 y89 y90 y91 y92 y93 y94 y95))))))))))))) ∨
 (∃ y96:qT2,
 (∃ y97:Int,
 (∃ y98:qT6,
 (∃ y99:qT9,
 (∃ y100:qT4,
 (∃ y101:qT0,
 (∃ y102:qT3,
 (∃ y103:Bool,
 (∃ y104 y105:qT5,
 (Need (E 74 [(.op (0,0) [])] (hq0 z41 z42 z43 z44 z45 z46 z47 z48 z49 z50) (.tv [] .ref (Option.none )) (hq0 y96 y97 y98 y99 y100 y101 y102 y103 y104 y105)) ∧
 ((y39 y96 y97 y98 y99 y100 y101 y102 y103 y104 y105) ∧
   Need ((y40 y96 y97 y98 y99 y100 y101 y102 y103 y104 y105)<(y40 z41 z42 z43 z44 z45 z46 z47 z48 z49 z50))))))))))))))) ∧
 (((decide (y78≠(0:Int)))=false) →
 (Q (.tv [] .ref (Option.none )) (hq0 z41 z42 z43 z44 z45 z46 z47 z48 z49 z50))))))))) ∧
 (((decide (z42<(z41.length:Int)))=false) →
 (Q (.tv [] .ref (Option.none )) (hq0 z41 z42 z43 z44 z45 z46 z47 z48 z49 z50))))))))))))))))))))))))))))))):EvF PP orc 48 [.op (0,0) []] [((0,0),⟨⟨(.pair qt5 (.pair (.int .i64) (.pair qt0 (.pair (.mref .str .bool) (.pair (.mref .str .bool) qt4))))),(o0_0,(o0_1,((o0_2_0,(o0_2_1,(o0_2_2,(o0_2_3,(o0_2_4,()))))),((some (0,1):Option Key),((some (0,2):Option Key),(o0_5,()))))))⟩,[[2,0],[2,1],[2,2],[2,4]]⟩),((0,1),⟨⟨.mp .str .bool,o0_3⟩,[]⟩),((0,2),⟨⟨.mp .str .bool,o0_4⟩,[]⟩)] Q:=vc_of (by kernel_rfl) h
theorem vc29 (x0:List ((Int×(List Int×((Int×(Int×Unit))×Unit))))) (Q:AV→Heap→Prop) (h :
((∃ y0 y1 y2:Int,
 (∃ y3:qT2,
 (∃ y4:Int,
 (∃ y5:qT6,
 (∃ y6:qT9,
 (∃ y7:qT4,
 (∃ y8:qT0,
 (∃ y9:qT3,
 (∃ y10:Bool,
 (∃ y11 y12:qT5,
 (Need (E 48 [(.op (0,0) [])] [((0,0),⟨⟨(.pair qt5 (.pair (.int .i64) (.pair qt0 (.pair (.mref .str .bool) (.pair (.mref .str .bool) qt4))))),(x0,((0:Int),(([],([],([],([],([],()))))),((some (0,1)),((some (0,2)),(false,()))))))⟩,[[2,0],[2,1],[2,2],[2,4]]⟩),((0,1),⟨⟨(.mp .str .bool),[]⟩,[]⟩),((0,2),⟨⟨(.mp .str .bool),[]⟩,[]⟩)] (.op (1,0) []) (hq1 y0 y1 y2 y3 y4 y5 y6 y7 y8 y9 y10 y11 y12)) ∧
 (Q (.tup [(.tv [] qt0 ([],([],([],([],([],())))))),(.tv [] qt3 (y0,((y1,(y2,())),())))]) [])))))))))))) ∨
 (∃ y13:qT2,
 (∃ y14:Int,
 (∃ y15:qT6,
 (∃ y16:qT9,
 (∃ y17:qT4,
 (∃ y18:qT0,
 (∃ y19:qT3,
 (∃ y20:Bool,
 (∃ y21 y22:qT5,
 (Need (E 48 [(.op (0,0) [])] [((0,0),⟨⟨(.pair qt5 (.pair (.int .i64) (.pair qt0 (.pair (.mref .str .bool) (.pair (.mref .str .bool) qt4))))),(x0,((0:Int),(([],([],([],([],([],()))))),((some (0,1)),((some (0,2)),(false,()))))))⟩,[[2,0],[2,1],[2,2],[2,4]]⟩),((0,1),⟨⟨(.mp .str .bool),[]⟩,[]⟩),((0,2),⟨⟨(.mp .str .bool),[]⟩,[]⟩)] (.tv [] .ref (Option.none )) (hq0 y13 y14 y15 y16 y17 y18 y19 y20 y21 y22)) ∧
 ((((!y20)=true) →
 (Need (((0:Int)≤(0:Int))∧((0:Int)<(y19.length:Int))) ∧
 (Q (.tup [(.tv [] qt0 (y15,(y16,(y17,((List.getD y19 0 ([],([],([],([],()))))).1,(y19,())))))),(.tv [] qt3 ((0:Int),(((0:Int),((0:Int),())),())))]) []))) ∧
 (((!y20)=false) →
 (Q (.tup [(.tv [] qt0 (y15,(y16,(y17,(y18,(y19,())))))),(.tv [] qt3 ((0:Int),(((0:Int),((0:Int),())),())))]) []))))))))))))))):EvF PP orc 29 [.tv [] qt5 x0] [] Q:=vc_of (by kernel_rfl) h
theorem vc18 (x0:List Int) (Q:AV→Heap→Prop) (h :
(∃ y0:qT2,
 (∃ y1 y2 y3:Int,
 (Need (E 28 [(.tv [] .str x0)] [] (.tup [(.tv [] qt5 y0),(.tv [] qt3 (y1,((y2,(y3,())),())))]) []) ∧
 ((((decide (y1≠(0:Int)))=true) →
 (Q (.tup [(.tv [] qt0 ([],([],([],([],([],())))))),(.tv [] qt3 (y1,((y2,(y3,())),())))]) [])) ∧
 (((decide (y1≠(0:Int)))=false) →
 (∃ y6:qT6,
 (∃ y7:qT9,
 (∃ y8:qT4,
 (∃ y9:qT0,
 (∃ y10:qT3,
 (∃ y11 y12 y13:Int,
 (Need (E 29 [(.tv [] qt5 y0)] [] (.tup [(.tv [] qt0 (y6,(y7,(y8,(y9,(y10,())))))),(.tv [] qt3 (y11,((y12,(y13,())),())))]) []) ∧
 (Q (.tup [(.tv [] qt0 (y6,(y7,(y8,(y9,(y10,())))))),(.tv [] qt3 (y11,((y12,(y13,())),())))]) [])))))))))))))):EvF PP orc 18 [.tv [] .str x0] [] Q:=vc_of (by kernel_rfl) h
end Go.Am.D
