/-
  A part of the proof of a law: see the text that states it.
-/
import Derived.Test.YtfnnapgpcndcjaaGreatDoorHead
set_option linter.all false
namespace Go.Am.Z
open Go
set_option maxRecDepth 100000
set_option maxHeartbeats 4000000
theorem vc4 (x0_0:Int) (x0_1:Int) (x0_2:List (Int)) (x0_3:List (List (Int))) (x0_4:List (Int)) (x0_5:List (Int)) (x0_6:List (Int)) (x1:List (Int)) (x2:List ((Int×(Int×(Int×Unit))))) (x3:List (XT)) (x4:List Int) (x5:Int) (x6:Int) (Q:AV→Heap→Prop) (h :
(∃ y0:Bool,
 (Need (E 6 [] [] (.tv [] .bool y0) []) ∧
 (∃ y1:Bool,
 (Need (E 7 [(.tv [] (.pair (.int .u8) qt14) (x0_0,(x0_1,(x0_2,(x0_3,(x0_4,(x0_5,(x0_6,())))))))),(.tv [] (.int .i64) (20:Int)),(.tv [] (.int .i64) (8:Int))] [] (.tv [] .bool y1) []) ∧
 (∃ y2:Bool,
 (Need (E 8 [(.tv [] (.slice .expr) x3)] [] (.tv [] .bool y2) []) ∧
 ((((!y1)=true) →
 (Q (.tv [] .bool y0) [])) ∧
 (((!y1)=false) →
 ((((!y2)=true) →
 (Q (.tv [] .bool y0) [])) ∧
 (((!y2)=false) →
 ((((decide ((30:Int)<(x1.length:Int)))=true) →
 (Q (.tv [] .bool y0) [])) ∧
 (((decide ((30:Int)<(x1.length:Int)))=false) →
 ((((decide ((30:Int)<(x2.length:Int)))=true) →
 (Q (.tv [] .bool y0) [])) ∧
 (((decide ((30:Int)<(x2.length:Int)))=false) →
 ((((decide ((60:Int)<(x4.length:Int)))=true) →
 (Q (.tv [] .bool y0) [])) ∧
 (((decide ((60:Int)<(x4.length:Int)))=false) →
 (∃ y13 y14:qT8,
 (∃ y15:qT5,
 (∃ y16 y17:qT3,
 (∃ y18:qT8,
 (Need (E 9 [(.tv [] (.pair (.int .u8) qt14) (x0_0,(x0_1,(x0_2,(x0_3,(x0_4,(x0_5,(x0_6,()))))))))] [] (.tv [] qt6 (y13,(y14,(y15,(y16,(y17,(y18,()))))))) []) ∧
 ((∃ y19 y20 y21:Nat,
 (∃ y22:qT2,
 (∃ y23 y24 y25:Int,
 (∃ y26:Nat,
 (∃ y27:qT0,
 (∃ y28 y29:Nat,
 (∃ y30 y31 y32 y33:Int,
 (Need (E 10 [(.tv [] qt6 (y13,(y14,(y15,(y16,(y17,(y18,()))))))),(.tv [] (.slice (.int .u8)) x1),(.tv [] (.slice qt5) x2)] [] (.tup [(.op (1,0) []),(.op (1,1) [])]) [((1,1),⟨⟨qt8,((some (1,3)),((some ((1,4),(y19,(0,y20)))),()))⟩,[]⟩),((1,4),⟨⟨(.arr (Nat.succ y21) y22.length qt2),y22⟩,[]⟩),((1,3),⟨⟨qt5,(y23,(y24,(y25,())))⟩,[]⟩),((1,6),⟨⟨(.arr (Nat.succ y26) y27.length qt0),y27⟩,[]⟩),((1,2),⟨⟨qt3,((some (1,5)),((some ((1,6),(y28,(0,y29)))),(y30,())))⟩,[]⟩),((1,0),⟨⟨qt11,((some (1,2)),())⟩,[]⟩),((1,5),⟨⟨qt5,(y31,(y32,(y33,())))⟩,[]⟩)]) ∧
 (((false=true) →
 (Q (.tv [] .bool false) [])) ∧
 ((false=false) →
 (∃ y36:Int,
 (Need (E 11 [(.op (0,0) [])] (hq3 y28 y29 y30 y31 y32 y33 y26 y27) (.tv [] (.int .i64) y36) (hq3 y28 y29 y30 y31 y32 y33 y26 y27)) ∧
 ((((decide (y36≠(y20:Int)))=true) →
 (Q (.tv [] .bool false) [])) ∧
 (((decide (y36≠(y20:Int)))=false) →
 (∃ y39:(List XT),
 (Need (E 13 [(.tv [] (.slice .expr) x3)] [] (.tv [[]] (.slice .expr) y39) []) ∧
 (∃ y40 y41 y42:Int,
 (Need (E 15 [(.tv [] (.int .i64) x6)] [] (.op (1,0) []) [((1,0),⟨⟨qt5,(y40,(y41,(y42,())))⟩,[]⟩)]) ∧
 (∃ y43:(List qT6),
 (Need (E 12 [(.tv [] (.slice .expr) y39)] [] (.tv [[]] qt15 y43) []) ∧
 (∃ y44 y45 y46 y47 y48 y49:Int,
 (∃ y50 y51:Nat,
 (∃ y52 y53 y54 y55:Int,
 (∃ y56:Nat,
 (∃ y57:qT0,
 (Need (E 14 [(.op (0,0) []),(.tv [] (.int .i64) x5),(.tv [] qt15 y43),(.tv [] .str x4),(.op (0,1) [])] (hq16 y40 y41 y42 y28 y29 y30 y31 y32 y33 y26 y27) (.tup [(.tv [] qt1 (y44,(y45,()))),(.tv [] (.int .i64) y46)]) (hq16 y47 y48 y49 y50 y51 y52 y53 y54 y55 y56 y57)) ∧
 ((((decide (x5<0))=true) →
 (((y0=true) →
 (((((decide (y44=(0:Int)))&&((decide (y45=(0:Int)))&&true))=true) →
 ((((decide (y46=(2:Int)))=true) →
 (∃ y62:Int,
 (Need (E 16 [(.op (0,0) [])] (hq0 y47 y48 y49) (.tv [] (.int .i64) y62) (hq0 y47 y48 y49)) ∧
 (Q (.tv [] .bool (decide (y62=(0:Int)))) [])))) ∧
 (((decide (y46=(2:Int)))=false) →
 (Q (.tv [] .bool false) [])))) ∧
 ((((decide (y44=(0:Int)))&&((decide (y45=(0:Int)))&&true))=false) →
 (Q (.tv [] .bool false) [])))) ∧
 ((y0=false) →
 (Q (.tv [] .bool false) [])))) ∧
 (((decide (x5<0))=false) →
 ((((decide ((y20:Int)≤x5))=true) →
 (((y0=true) →
 (((((decide (y44=(0:Int)))&&((decide (y45=(0:Int)))&&true))=true) →
 ((((decide (y46=(2:Int)))=true) →
 (∃ y71:Int,
 (Need (E 16 [(.op (0,0) [])] (hq0 y47 y48 y49) (.tv [] (.int .i64) y71) (hq0 y47 y48 y49)) ∧
 (Q (.tv [] .bool (decide (y71=(0:Int)))) [])))) ∧
 (((decide (y46=(2:Int)))=false) →
 (Q (.tv [] .bool false) [])))) ∧
 ((((decide (y44=(0:Int)))&&((decide (y45=(0:Int)))&&true))=false) →
 (Q (.tv [] .bool false) [])))) ∧
 ((y0=false) →
 (Q (.tv [] .bool false) [])))) ∧
 (((decide ((y20:Int)≤x5))=false) →
 (∃ y76:Int,
 (∃ y77 y78:Nat,
 (∃ y79 y80 y81:Int,
 (∃ y82:Nat,
 (∃ y83:qT2,
 (Need (E 17 [(.op (0,0) []),(.tv [] (.int .i64) x5),(.tv [] (.slice .expr) y39)] (hq2 y19 y20 y23 y24 y25 y21 y22) (.tv [] (.int .i64) y76) (hq2 y77 y78 y79 y80 y81 y82 y83)) ∧
 (∃ y84:Int,
 (Need (E 18 [(.tv [] (.int .i64) x6)] [] (.tv [] (.int .i64) y84) []) ∧
 ((((decide (y84<y76))=true) →
 (((y0=true) →
 (((((decide (y44=(0:Int)))&&((decide (y45=(0:Int)))&&true))=true) →
 ((((decide (y46=(5:Int)))=true) →
 (∃ y89:Int,
 (Need (E 16 [(.op (0,0) [])] (hq0 y47 y48 y49) (.tv [] (.int .i64) y89) (hq0 y47 y48 y49)) ∧
 (∃ y90:Int,
 (Need (E 18 [(.tv [] (.int .i64) x6)] [] (.tv [] (.int .i64) y90) []) ∧
 (Q (.tv [] .bool (decide (y89≤y90))) [])))))) ∧
 (((decide (y46=(5:Int)))=false) →
 (Q (.tv [] .bool false) [])))) ∧
 ((((decide (y44=(0:Int)))&&((decide (y45=(0:Int)))&&true))=false) →
 (Q (.tv [] .bool false) [])))) ∧
 ((y0=false) →
 (Q (.tv [] .bool false) [])))) ∧
 (((decide (y84<y76))=false) →
 (((y0=true) →
 (∃ y96 y97:Int,
 (∃ y98 y99:Nat,
 (∃ y100 y101 y102:Int,
 (∃ y103:Nat,
 (∃ y104:qT2,
 (Need (E 19 [(.op (0,0) []),(.tv [] (.int .i64) x5),(.tv [] (.slice .expr) y39),(.tv [] .str x4)] (hq2 y77 y78 y79 y80 y81 y82 y83) (.tv [] qt1 (y96,(y97,()))) (hq2 y98 y99 y100 y101 y102 y103 y104)) ∧
 (((((decide (y44=y96))&&((decide (y45=y97))&&true))=true) →
 ((((decide (y46=(0:Int)))=true) →
 (∃ y107:Int,
 (Need (E 16 [(.op (0,0) [])] (hq0 y47 y48 y49) (.tv [] (.int .i64) y107) (hq0 y47 y48 y49)) ∧
 (Q (.tv [] .bool (decide (y107=y76))) [])))) ∧
 (((decide (y46=(0:Int)))=false) →
 (Q (.tv [] .bool false) [])))) ∧
 ((((decide (y44=y96))&&((decide (y45=y97))&&true))=false) →
 (Q (.tv [] .bool false) [])))))))))) ∧
 ((y0=false) →
 (Q (.tv [] .bool false) []))))))))))))))))))))))))))))))))))))))))))) ∨
 (∃ y111 y112 y113:Nat,
 (∃ y114:qT2,
 (∃ y115 y116 y117:Int,
 (Need (E 10 [(.tv [] qt6 (y13,(y14,(y15,(y16,(y17,(y18,()))))))),(.tv [] (.slice (.int .u8)) x1),(.tv [] (.slice qt5) x2)] [] (.tup [(.tv [] .ref (Option.none )),(.op (1,0) [])]) [((1,0),⟨⟨qt8,((some (1,1)),((some ((1,2),(y111,(0,y112)))),()))⟩,[]⟩),((1,2),⟨⟨(.arr (Nat.succ y113) y114.length qt2),y114⟩,[]⟩),((1,1),⟨⟨qt5,(y115,(y116,(y117,())))⟩,[]⟩)]) ∧
 (((true=true) →
 (Q (.tv [] .bool false) [])) ∧
 ((true=false) →
 (∃ y120:Int,
 (Need (E 11 [(.tv [] .ref (Option.none ))] [] (.tv [] (.int .i64) y120) []) ∧
 ((((decide (y120≠(y112:Int)))=true) →
 (Q (.tv [] .bool false) [])) ∧
 (((decide (y120≠(y112:Int)))=false) →
 (∃ y123:(List XT),
 (Need (E 13 [(.tv [] (.slice .expr) x3)] [] (.tv [[]] (.slice .expr) y123) []) ∧
 (∃ y124 y125 y126:Int,
 (Need (E 15 [(.tv [] (.int .i64) x6)] [] (.op (1,0) []) [((1,0),⟨⟨qt5,(y124,(y125,(y126,())))⟩,[]⟩)]) ∧
 (∃ y127:(List qT6),
 (Need (E 12 [(.tv [] (.slice .expr) y123)] [] (.tv [[]] qt15 y127) []) ∧
 (∃ y128 y129 y130 y131 y132 y133:Int,
 (∃ y134 y135:Nat,
 (∃ y136 y137 y138 y139:Int,
 (∃ y140:Nat,
 (∃ y141:qT0,
 (Need (E 14 [(.tv [] .ref (Option.none )),(.tv [] (.int .i64) x5),(.tv [] qt15 y127),(.tv [] .str x4),(.op (0,0) [])] (hq0 y124 y125 y126) (.tup [(.tv [] qt1 (y128,(y129,()))),(.tv [] (.int .i64) y130)]) (hq16 y131 y132 y133 y134 y135 y136 y137 y138 y139 y140 y141)) ∧
 False))))))))))))))))))))))))))))))))))))))))))))):EvF PP orc 4 [.tv [] (.pair (.int .u8) qt14) (x0_0,(x0_1,(x0_2,(x0_3,(x0_4,(x0_5,(x0_6,()))))))),.tv [] (.slice (.int .u8)) x1,.tv [] (.slice qt5) x2,.tv [] (.slice .expr) x3,.tv [] .str x4,.tv [] (.int .i64) x5,.tv [] (.int .i64) x6] [] Q:=vc_of (by kernel_rfl) h
end Go.Am.Z
