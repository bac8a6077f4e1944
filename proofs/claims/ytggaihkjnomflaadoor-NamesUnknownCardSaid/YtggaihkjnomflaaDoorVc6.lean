/-
  A part of the proof of a law: see the text that states it.
-/
import Derived.Test.YtggaihkjnomflaaDoorHead
set_option linter.all false
namespace Go.Am.D
open Go
set_option maxRecDepth 100000
set_option maxHeartbeats 4000000
theorem vc101 (o0_0:List ((Int×(List Int×((Int×(Int×Unit))×Unit))))) (o0_1:Int) (o0_2_0:List ((List Int×((List Int×(List Int×(Bool×Unit)))×Unit)))) (o0_2_1:List ((List Int×(List Int×(Bool×Unit))))) (o0_2_2:List ((Int×(List qT0×Unit)))) (o0_2_3:List Int) (o0_2_4:List ((List Int×(List qT0×(List Int×(List Int×Unit)))))) (o0_5:Bool) (o0_3:List (List Int×Bool)) (o0_4:List (List Int×Bool)) (Q:AV→Heap→Prop) (h :
(∃ y0:Bool,
 (Need (E 91 [(.op (0,0) []),(.tv [] (.int .i64) (3:Int))] (hq0 o0_0 o0_1 o0_2_0 o0_2_1 o0_2_2 o0_2_3 o0_2_4 o0_5 o0_3 o0_4) (.tv [] .bool y0) (hq0 o0_0 o0_1 o0_2_0 o0_2_1 o0_2_2 o0_2_3 o0_2_4 o0_5 o0_3 o0_4)) ∧
 (((y0=true) →
 ((∃ y2:qT0,
 (∃ y3 y4 y5:Int,
 (Need (E 89 [(.op (0,0) []),(.tv [] (.int .i64) (3:Int))] (hq0 o0_0 o0_1 o0_2_0 o0_2_1 o0_2_2 o0_2_3 o0_2_4 o0_5 o0_3 o0_4) (.tup [(.tv [] .str y2),(.op (1,0) [])]) (hq1 y3 y4 y5 o0_0 o0_1 o0_2_0 o0_2_1 o0_2_2 o0_2_3 o0_2_4 o0_5 o0_3 o0_4)) ∧
 (Q (.tup [(.tv [] qt8 (y2,([],(false,())))),(.tv [] .ref (Option.none ))]) (hq0 o0_0 o0_1 o0_2_0 o0_2_1 o0_2_2 o0_2_3 o0_2_4 o0_5 o0_3 o0_4))))) ∨
 (∃ y6:qT0,
 (∃ y7:qT2,
 (∃ y8:Int,
 (∃ y9:qT6,
 (∃ y10:qT9,
 (∃ y11:qT4,
 (∃ y12:qT0,
 (∃ y13:qT3,
 (∃ y14:Bool,
 (∃ y15 y16:qT5,
 (Need (E 89 [(.op (0,0) []),(.tv [] (.int .i64) (3:Int))] (hq0 o0_0 o0_1 o0_2_0 o0_2_1 o0_2_2 o0_2_3 o0_2_4 o0_5 o0_3 o0_4) (.tup [(.tv [] .str y6),(.tv [] .ref (Option.none ))]) (hq0 y7 y8 y9 y10 y11 y12 y13 y14 y15 y16)) ∧
 (Q (.tup [(.tv [] qt8 (y6,([],(false,())))),(.tv [] .ref (Option.none ))]) (hq0 y7 y8 y9 y10 y11 y12 y13 y14 y15 y16))))))))))))))) ∧
 ((y0=false) →
 ((∃ y18:qT0,
 (∃ y19 y20 y21:Int,
 (Need (E 89 [(.op (0,0) []),(.tv [] (.int .i64) (4:Int))] (hq0 o0_0 o0_1 o0_2_0 o0_2_1 o0_2_2 o0_2_3 o0_2_4 o0_5 o0_3 o0_4) (.tup [(.tv [] .str y18),(.op (1,0) [])]) (hq1 y19 y20 y21 o0_0 o0_1 o0_2_0 o0_2_1 o0_2_2 o0_2_3 o0_2_4 o0_5 o0_3 o0_4)) ∧
 (Q (.tup [(.tv [] qt8 ([],([],(false,())))),(.op (1,0) [])]) (hq1 y19 y20 y21 o0_0 o0_1 o0_2_0 o0_2_1 o0_2_2 o0_2_3 o0_2_4 o0_5 o0_3 o0_4))))) ∨
 (∃ y22:qT0,
 (∃ y23:qT2,
 (∃ y24:Int,
 (∃ y25:qT6,
 (∃ y26:qT9,
 (∃ y27:qT4,
 (∃ y28:qT0,
 (∃ y29:qT3,
 (∃ y30:Bool,
 (∃ y31 y32:qT5,
 (Need (E 89 [(.op (0,0) []),(.tv [] (.int .i64) (4:Int))] (hq0 o0_0 o0_1 o0_2_0 o0_2_1 o0_2_2 o0_2_3 o0_2_4 o0_5 o0_3 o0_4) (.tup [(.tv [] .str y22),(.tv [] .ref (Option.none ))]) (hq0 y23 y24 y25 y26 y27 y28 y29 y30 y31 y32)) ∧
 (∃ y33:Bool,
 (Need (E 91 [(.op (0,0) []),(.tv [] (.int .i64) (5:Int))] (hq0 y23 y24 y25 y26 y27 y28 y29 y30 y31 y32) (.tv [] .bool y33) (hq0 y23 y24 y25 y26 y27 y28 y29 y30 y31 y32)) ∧
 (((y33=true) →
 (Need ((-9223372036854775808≤(y24+1))∧((y24+1)≤9223372036854775807)) ∧
 (Q (.tup [(.tv [] qt8 ([],(y22,(y33,())))),(.tv [] .ref (Option.none ))]) (hq3 y23 y24 (1:Int) y25 y26 y27 y28 y29 y30 y31 y32)))) ∧
 ((y33=false) →
 (Q (.tup [(.tv [] qt8 ([],(y22,(y33,())))),(.tv [] .ref (Option.none ))]) (hq0 y23 y24 y25 y26 y27 y28 y29 y30 y31 y32))))))))))))))))))))))):EvF PP orc 101 [.op (0,0) []] [((0,0),⟨⟨(.pair qt5 (.pair (.int .i64) (.pair qt0 (.pair (.mref .str .bool) (.pair (.mref .str .bool) qt4))))),(o0_0,(o0_1,((o0_2_0,(o0_2_1,(o0_2_2,(o0_2_3,(o0_2_4,()))))),((some (0,1):Option Key),((some (0,2):Option Key),(o0_5,()))))))⟩,[[2,0],[2,1],[2,2],[2,4]]⟩),((0,1),⟨⟨.mp .str .bool,o0_3⟩,[]⟩),((0,2),⟨⟨.mp .str .bool,o0_4⟩,[]⟩)] Q:=vc_of (by kernel_rfl) h
theorem vc94 (x1_0:Int) (x1_1:List Int) (x1_2_0:Int) (x1_2_1:Int) (o0_0:List ((Int×(List Int×((Int×(Int×Unit))×Unit))))) (o0_1:Int) (o0_2_0:List ((List Int×((List Int×(List Int×(Bool×Unit)))×Unit)))) (o0_2_1:List ((List Int×(List Int×(Bool×Unit))))) (o0_2_2:List ((Int×(List qT0×Unit)))) (o0_2_3:List Int) (o0_2_4:List ((List Int×(List qT0×(List Int×(List Int×Unit)))))) (o0_5:Bool) (o0_3:List (List Int×Bool)) (o0_4:List (List Int×Bool)) (Q:AV→Heap→Prop) (h :
(∃ y0:Int,
 (∃ y1:qT0,
 (∃ y2 y3:Int,
 (Need (E 73 [(.op (0,0) [])] (hq0 o0_0 o0_1 o0_2_0 o0_2_1 o0_2_2 o0_2_3 o0_2_4 o0_5 o0_3 o0_4) (.tv [] qt1 (y0,(y1,((y2,(y3,())),())))) (hq0 o0_0 o0_1 o0_2_0 o0_2_1 o0_2_2 o0_2_3 o0_2_4 o0_5 o0_3 o0_4)) ∧
 ((∃ y4:qT0,
 (∃ y5 y6 y7:Int,
 (Need (E 89 [(.op (0,0) []),(.tv [] (.int .i64) (1:Int))] (hq0 o0_0 o0_1 o0_2_0 o0_2_1 o0_2_2 o0_2_3 o0_2_4 o0_5 o0_3 o0_4) (.tup [(.tv [] .str y4),(.op (1,0) [])]) (hq1 y5 y6 y7 o0_0 o0_1 o0_2_0 o0_2_1 o0_2_2 o0_2_3 o0_2_4 o0_5 o0_3 o0_4)) ∧
 (Q (.op (1,0) []) (hq1 y5 y6 y7 o0_0 o0_1 o0_2_0 o0_2_1 o0_2_2 o0_2_3 o0_2_4 o0_5 o0_3 o0_4))))) ∨
 (∃ y8:qT0,
 (∃ y9:qT2,
 (∃ y10:Int,
 (∃ y11:qT6,
 (∃ y12:qT9,
 (∃ y13:qT4,
 (∃ y14:qT0,
 (∃ y15:qT3,
 (∃ y16:Bool,
 (∃ y17 y18:qT5,
 (Need (E 89 [(.op (0,0) []),(.tv [] (.int .i64) (1:Int))] (hq0 o0_0 o0_1 o0_2_0 o0_2_1 o0_2_2 o0_2_3 o0_2_4 o0_5 o0_3 o0_4) (.tup [(.tv [] .str y8),(.tv [] .ref (Option.none ))]) (hq0 y9 y10 y11 y12 y13 y14 y15 y16 y17 y18)) ∧
 ((((Pr.mget y17 y1 false)=true) →
 (Q (.op (1,0) []) (hq1 (15:Int) y2 y3 y9 y10 y11 y12 y13 y14 y15 y16 y17 y18))) ∧
 (((Pr.mget y17 y1 false)=false) →
 ((((decide ((20:Int)≤(y11.length:Int)))=true) →
 (Q (.op (1,0) []) (hq1 (3:Int) y2 y3 y9 y10 y11 y12 y13 y14 y15 y16 y17 y18))) ∧
 (((decide ((20:Int)≤(y11.length:Int)))=false) →
 ((∃ y23 y24:qT0,
 (∃ y25:Bool,
 (∃ y26 y27 y28:Int,
 (Need (E 101 [(.op (0,0) [])] (hq0 y9 y10 y11 y12 y13 y14 y15 y16 y17 y18) (.tup [(.tv [] qt8 (y23,(y24,(y25,())))),(.op (1,0) [])]) (hq1 y26 y27 y28 y9 y10 y11 y12 y13 y14 y15 y16 y17 y18)) ∧
 (Q (.op (1,0) []) (hq1 y26 y27 y28 y9 y10 y11 y12 y13 y14 y15 y16 y17 y18)))))) ∨
 (∃ y29 y30:qT0,
 (∃ y31:Bool,
 (∃ y32:qT2,
 (∃ y33:Int,
 (∃ y34:qT6,
 (∃ y35:qT9,
 (∃ y36:qT4,
 (∃ y37:qT0,
 (∃ y38:qT3,
 (∃ y39:Bool,
 (∃ y40 y41:qT5,
 (Need (E 101 [(.op (0,0) [])] (hq0 y9 y10 y11 y12 y13 y14 y15 y16 y17 y18) (.tup [(.tv [] qt8 (y29,(y30,(y31,())))),(.tv [] .ref (Option.none ))]) (hq0 y32 y33 y34 y35 y36 y37 y38 y39 y40 y41)) ∧
 (Need ((y34.length+(List.length [(y1,((y29,(y30,(y31,()))),()))]))≤bigN) ∧
 (Q (.tv [] .ref (Option.none )) [((0,0),⟨⟨(.pair qt5 (.pair (.int .i64) (.pair qt0 (.pair (.mref .str .bool) (.pair (.mref .str .bool) qt4))))),(y32,(y33,(((y34++[(y1,((y29,(y30,(y31,()))),()))]),(y35,(y36,(y37,(y38,()))))),((some (0,1)),((some (0,2)),(y39,()))))))⟩,[[2,0],[2,1],[2,2],[2,4]]⟩),((0,1),⟨⟨(.mp .str .bool),(Pr.mset y40 y1 true)⟩,[]⟩),((0,2),⟨⟨(.mp .str .bool),y41⟩,[]⟩)])))))))))))))))))))))))))))))))))))):EvF PP orc 94 [.op (0,0) [],.tv [] qt1 (x1_0,(x1_1,((x1_2_0,(x1_2_1,())),())))] [((0,0),⟨⟨(.pair qt5 (.pair (.int .i64) (.pair qt0 (.pair (.mref .str .bool) (.pair (.mref .str .bool) qt4))))),(o0_0,(o0_1,((o0_2_0,(o0_2_1,(o0_2_2,(o0_2_3,(o0_2_4,()))))),((some (0,1):Option Key),((some (0,2):Option Key),(o0_5,()))))))⟩,[[2,0],[2,1],[2,2],[2,4]]⟩),((0,1),⟨⟨.mp .str .bool,o0_3⟩,[]⟩),((0,2),⟨⟨.mp .str .bool,o0_4⟩,[]⟩)] Q:=vc_of (by kernel_rfl) h
theorem vc95 (x1_0:Int) (x1_1:List Int) (x1_2_0:Int) (x1_2_1:Int) (o0_0:List ((Int×(List Int×((Int×(Int×Unit))×Unit))))) (o0_1:Int) (o0_2_0:List ((List Int×((List Int×(List Int×(Bool×Unit)))×Unit)))) (o0_2_1:List ((List Int×(List Int×(Bool×Unit))))) (o0_2_2:List ((Int×(List qT0×Unit)))) (o0_2_3:List Int) (o0_2_4:List ((List Int×(List qT0×(List Int×(List Int×Unit)))))) (o0_5:Bool) (o0_3:List (List Int×Bool)) (o0_4:List (List Int×Bool)) (Q:AV→Heap→Prop) (h :
((((decide ((4:Int)≤(o0_2_1.length:Int)))=true) →
 (Q (.op (1,0) []) (hq1 (3:Int) x1_2_0 x1_2_1 o0_0 o0_1 o0_2_0 o0_2_1 o0_2_2 o0_2_3 o0_2_4 o0_5 o0_3 o0_4))) ∧
 (((decide ((4:Int)≤(o0_2_1.length:Int)))=false) →
 ((∃ y2 y3:qT0,
 (∃ y4:Bool,
 (∃ y5 y6 y7:Int,
 (Need (E 101 [(.op (0,0) [])] (hq0 o0_0 o0_1 o0_2_0 o0_2_1 o0_2_2 o0_2_3 o0_2_4 o0_5 o0_3 o0_4) (.tup [(.tv [] qt8 (y2,(y3,(y4,())))),(.op (1,0) [])]) (hq1 y5 y6 y7 o0_0 o0_1 o0_2_0 o0_2_1 o0_2_2 o0_2_3 o0_2_4 o0_5 o0_3 o0_4)) ∧
 (Q (.op (1,0) []) (hq1 y5 y6 y7 o0_0 o0_1 o0_2_0 o0_2_1 o0_2_2 o0_2_3 o0_2_4 o0_5 o0_3 o0_4)))))) ∨
 (∃ y8 y9:qT0,
 (∃ y10:Bool,
 (∃ y11:qT2,
 (∃ y12:Int,
 (∃ y13:qT6,
 (∃ y14:qT9,
 (∃ y15:qT4,
 (∃ y16:qT0,
 (∃ y17:qT3,
 (∃ y18:Bool,
 (∃ y19 y20:qT5,
 (Need (E 101 [(.op (0,0) [])] (hq0 o0_0 o0_1 o0_2_0 o0_2_1 o0_2_2 o0_2_3 o0_2_4 o0_5 o0_3 o0_4) (.tup [(.tv [] qt8 (y8,(y9,(y10,())))),(.tv [] .ref (Option.none ))]) (hq0 y11 y12 y13 y14 y15 y16 y17 y18 y19 y20)) ∧
 (Need ((y14.length+(List.length [(y8,(y9,(y10,())))]))≤bigN) ∧
 (Q (.tv [] .ref (Option.none )) [((0,0),⟨⟨(.pair qt5 (.pair (.int .i64) (.pair qt0 (.pair (.mref .str .bool) (.pair (.mref .str .bool) qt4))))),(y11,(y12,((y13,((y14++[(y8,(y9,(y10,())))]),(y15,(y16,(y17,()))))),((some (0,1)),((some (0,2)),(y18,()))))))⟩,[[2,0],[2,1],[2,2],[2,4]]⟩),((0,1),⟨⟨(.mp .str .bool),y19⟩,[]⟩),((0,2),⟨⟨(.mp .str .bool),y20⟩,[]⟩)])))))))))))))))))):EvF PP orc 95 [.op (0,0) [],.tv [] qt1 (x1_0,(x1_1,((x1_2_0,(x1_2_1,())),())))] [((0,0),⟨⟨(.pair qt5 (.pair (.int .i64) (.pair qt0 (.pair (.mref .str .bool) (.pair (.mref .str .bool) qt4))))),(o0_0,(o0_1,((o0_2_0,(o0_2_1,(o0_2_2,(o0_2_3,(o0_2_4,()))))),((some (0,1):Option Key),((some (0,2):Option Key),(o0_5,()))))))⟩,[[2,0],[2,1],[2,2],[2,4]]⟩),((0,1),⟨⟨.mp .str .bool,o0_3⟩,[]⟩),((0,2),⟨⟨.mp .str .bool,o0_4⟩,[]⟩)] Q:=vc_of (by kernel_rfl) h
end Go.Am.D
namespace Go.Am.D
open Go
set_option maxRecDepth 100000
set_option maxHeartbeats 4000000
theorem vc96 (x1_0:Int) (x1_1:List Int) (x1_2_0:Int) (x1_2_1:Int) (o0_0:List ((Int×(List Int×((Int×(Int×Unit))×Unit))))) (o0_1:Int) (o0_2_0:List ((List Int×((List Int×(List Int×(Bool×Unit)))×Unit)))) (o0_2_1:List ((List Int×(List Int×(Bool×Unit))))) (o0_2_2:List ((Int×(List qT0×Unit)))) (o0_2_3:List Int) (o0_2_4:List ((List Int×(List qT0×(List Int×(List Int×Unit)))))) (o0_5:Bool) (o0_3:List (List Int×Bool)) (o0_4:List (List Int×Bool)) (Q:AV→Heap→Prop) (h :
((((decide ((10:Int)≤(o0_2_2.length:Int)))=true) →
 (Q (.op (1,0) []) (hq1 (3:Int) x1_2_0 x1_2_1 o0_0 o0_1 o0_2_0 o0_2_1 o0_2_2 o0_2_3 o0_2_4 o0_5 o0_3 o0_4))) ∧
 (((decide ((10:Int)≤(o0_2_2.length:Int)))=false) →
 (∃ y2:Int,
 (Need (E 102 [(.tv [] .str x1_1)] [] (.tv [] (.int .i64) y2) []) ∧
 (∃ y3:(Int→(qT8→(qT2→(Int→(qT6→(qT9→(qT4→(qT0→(qT3→(Bool→(qT5→(qT5→Prop)))))))))))),
 (∃ y4:(Int→(qT8→(qT2→(Int→(qT6→(qT9→(qT4→(qT0→(qT3→(Bool→(qT5→(qT5→Nat)))))))))))),
 ((y3 y2 [] o0_0 o0_1 o0_2_0 o0_2_1 o0_2_2 o0_2_3 o0_2_4 o0_5 o0_3 o0_4) ∧
 (∀ z5:Int,
 (∀ z6:qT8,
 (∀ z7:qT2,
 (∀ z8:Int,
 (∀ z9:qT6,
 (∀ z10:qT9,
 (∀ z11:qT4,
 (∀ z12:qT0,
 (∀ z13:qT3,
 (∀ z14:Bool,
 (∀ z15 z16:qT5,
 ((y3 z5 z6 z7 z8 z9 z10 z11 z12 z13 z14 z15 z16) →
 ((((decide ((z6.length:Int)=(0:Int)))=true) →
 (∃ y19:Int,
 (∃ y20:qT0,
 (∃ y21 y22:Int,
 (Need (E 73 [(.op (0,0) [])] (hq0 z7 z8 z9 z10 z11 z12 z13 z14 z15 z16) (.tv [] qt1 (y19,(y20,((y21,(y22,())),())))) (hq0 z7 z8 z9 z10 z11 z12 z13 z14 z15 z16)) ∧
 ((∃ y23:qT0,
 (∃ y24 y25 y26:Int,
 (Need (E 89 [(.op (0,0) []),(.tv [] (.int .i64) (1:Int))] (hq0 z7 z8 z9 z10 z11 z12 z13 z14 z15 z16) (.tup [(.tv [] .str y23),(.op (1,0) [])]) (hq1 y24 y25 y26 z7 z8 z9 z10 z11 z12 z13 z14 z15 z16)) ∧
 (Q (.op (1,0) []) (hq1 y24 y25 y26 z7 z8 z9 z10 z11 z12 z13 z14 z15 z16))))) ∨
 (∃ y27:qT0,
 (∃ y28:qT2,
 (∃ y29:Int,
 (∃ y30:qT6,
 (∃ y31:qT9,
 (∃ y32:qT4,
 (∃ y33:qT0,
 (∃ y34:qT3,
 (∃ y35:Bool,
 (∃ y36 y37:qT5,
 (Need (E 89 [(.op (0,0) []),(.tv [] (.int .i64) (1:Int))] (hq0 z7 z8 z9 z10 z11 z12 z13 z14 z15 z16) (.tup [(.tv [] .str y27),(.tv [] .ref (Option.none ))]) (hq0 y28 y29 y30 y31 y32 y33 y34 y35 y36 y37)) ∧
 ((((Pr.mget y37 y20 false)=true) →
 (Q (.op (1,0) []) (hq1 (15:Int) y21 y22 y28 y29 y30 y31 y32 y33 y34 y35 y36 y37))) ∧
 (((Pr.mget y37 y20 false)=false) →
 (Need ((z6.length+(List.length [y20]))≤bigN) ∧
 ((y3 z5 (z6++[y20]) y28 y29 y30 y31 y32 y33 y34 y35 y36 (Pr.mset y37 y20 true)) ∧
  Need ((y4 z5 (z6++[y20]) y28 y29 y30 y31 y32 y33 y34 y35 y36 (Pr.mset y37 y20 true))<(y4 z5 z6 z7 z8 z9 z10 z11 z12 z13 z14 z15 z16))))))))))))))))))))))) ∧
 (((decide ((z6.length:Int)=(0:Int)))=false) →
 (∃ y41:Bool,
 (Need (E 91 [(.op (0,0) []),(.tv [] (.int .i64) (1:Int))] (hq0 z7 z8 z9 z10 z11 z12 z13 z14 z15 z16) (.tv [] .bool y41) (hq0 z7 z8 z9 z10 z11 z12 z13 z14 z15 z16)) ∧
 (((y41=true) →
 (∃ y43:Int,
 (∃ y44:qT0,
 (∃ y45 y46:Int,
 (Need (E 73 [(.op (0,0) [])] (hq0 z7 z8 z9 z10 z11 z12 z13 z14 z15 z16) (.tv [] qt1 (y43,(y44,((y45,(y46,())),())))) (hq0 z7 z8 z9 z10 z11 z12 z13 z14 z15 z16)) ∧
 ((∃ y47:qT0,
 (∃ y48 y49 y50:Int,
 (Need (E 89 [(.op (0,0) []),(.tv [] (.int .i64) (1:Int))] (hq0 z7 z8 z9 z10 z11 z12 z13 z14 z15 z16) (.tup [(.tv [] .str y47),(.op (1,0) [])]) (hq1 y48 y49 y50 z7 z8 z9 z10 z11 z12 z13 z14 z15 z16)) ∧
 (Q (.op (1,0) []) (hq1 y48 y49 y50 z7 z8 z9 z10 z11 z12 z13 z14 z15 z16))))) ∨
 (∃ y51:qT0,
 (∃ y52:qT2,
 (∃ y53:Int,
 (∃ y54:qT6,
 (∃ y55:qT9,
 (∃ y56:qT4,
 (∃ y57:qT0,
 (∃ y58:qT3,
 (∃ y59:Bool,
 (∃ y60 y61:qT5,
 (Need (E 89 [(.op (0,0) []),(.tv [] (.int .i64) (1:Int))] (hq0 z7 z8 z9 z10 z11 z12 z13 z14 z15 z16) (.tup [(.tv [] .str y51),(.tv [] .ref (Option.none ))]) (hq0 y52 y53 y54 y55 y56 y57 y58 y59 y60 y61)) ∧
 ((((Pr.mget y61 y44 false)=true) →
 (Q (.op (1,0) []) (hq1 (15:Int) y45 y46 y52 y53 y54 y55 y56 y57 y58 y59 y60 y61))) ∧
 (((Pr.mget y61 y44 false)=false) →
 (Need ((z6.length+(List.length [y44]))≤bigN) ∧
 ((y3 z5 (z6++[y44]) y52 y53 y54 y55 y56 y57 y58 y59 y60 (Pr.mset y61 y44 true)) ∧
  Need ((y4 z5 (z6++[y44]) y52 y53 y54 y55 y56 y57 y58 y59 y60 (Pr.mset y61 y44 true))<(y4 z5 z6 z7 z8 z9 z10 z11 z12 z13 z14 z15 z16))))))))))))))))))))))) ∧
 ((y41=false) →
 (Need ((z11.length+(List.length [(z5,(z6,()))]))≤bigN) ∧
 (Q (.tv [] .ref (Option.none )) [((0,0),⟨⟨(.pair qt5 (.pair (.int .i64) (.pair qt0 (.pair (.mref .str .bool) (.pair (.mref .str .bool) qt4))))),(z7,(z8,((z9,(z10,((z11++[(z5,(z6,()))]),(z12,(z13,()))))),((some (0,1)),((some (0,2)),(z14,()))))))⟩,[[2,0],[2,1],[2,2],[2,4]]⟩),((0,1),⟨⟨(.mp .str .bool),z15⟩,[]⟩),((0,2),⟨⟨(.mp .str .bool),z16⟩,[]⟩)])))))))))))))))))))))))))))):EvF PP orc 96 [.op (0,0) [],.tv [] qt1 (x1_0,(x1_1,((x1_2_0,(x1_2_1,())),())))] [((0,0),⟨⟨(.pair qt5 (.pair (.int .i64) (.pair qt0 (.pair (.mref .str .bool) (.pair (.mref .str .bool) qt4))))),(o0_0,(o0_1,((o0_2_0,(o0_2_1,(o0_2_2,(o0_2_3,(o0_2_4,()))))),((some (0,1):Option Key),((some (0,2):Option Key),(o0_5,()))))))⟩,[[2,0],[2,1],[2,2],[2,4]]⟩),((0,1),⟨⟨.mp .str .bool,o0_3⟩,[]⟩),((0,2),⟨⟨.mp .str .bool,o0_4⟩,[]⟩)] Q:=vc_of (by kernel_rfl) h
theorem vc97 (x1_0:Int) (x1_1:List Int) (x1_2_0:Int) (x1_2_1:Int) (o0_0:List ((Int×(List Int×((Int×(Int×Unit))×Unit))))) (o0_1:Int) (o0_2_0:List ((List Int×((List Int×(List Int×(Bool×Unit)))×Unit)))) (o0_2_1:List ((List Int×(List Int×(Bool×Unit))))) (o0_2_2:List ((Int×(List qT0×Unit)))) (o0_2_3:List Int) (o0_2_4:List ((List Int×(List qT0×(List Int×(List Int×Unit)))))) (o0_5:Bool) (o0_3:List (List Int×Bool)) (o0_4:List (List Int×Bool)) (Q:AV→Heap→Prop) (h :
(((o0_5=true) →
 (Q (.op (1,0) []) (hq1 (15:Int) x1_2_0 x1_2_1 o0_0 o0_1 o0_2_0 o0_2_1 o0_2_2 o0_2_3 o0_2_4 o0_5 o0_3 o0_4))) ∧
 ((o0_5=false) →
 ((∃ y2:qT0,
 (∃ y3 y4 y5:Int,
 (Need (E 89 [(.op (0,0) []),(.tv [] (.int .i64) (1:Int))] (hq0 o0_0 o0_1 o0_2_0 o0_2_1 o0_2_2 o0_2_3 o0_2_4 o0_5 o0_3 o0_4) (.tup [(.tv [] .str y2),(.op (1,0) [])]) (hq1 y3 y4 y5 o0_0 o0_1 o0_2_0 o0_2_1 o0_2_2 o0_2_3 o0_2_4 o0_5 o0_3 o0_4)) ∧
 (Q (.op (1,0) []) [((1,0),⟨⟨qt3,(y3,((y4,(y5,())),()))⟩,[]⟩),((0,0),⟨⟨(.pair qt5 (.pair (.int .i64) (.pair qt0 (.pair (.mref .str .bool) (.pair (.mref .str .bool) qt4))))),(o0_0,(o0_1,((o0_2_0,(o0_2_1,(o0_2_2,(y2,(o0_2_4,()))))),((some (0,1)),((some (0,2)),(true,()))))))⟩,[[2,0],[2,1],[2,2],[2,4]]⟩),((0,1),⟨⟨(.mp .str .bool),o0_3⟩,[]⟩),((0,2),⟨⟨(.mp .str .bool),o0_4⟩,[]⟩)])))) ∨
 (∃ y6:qT0,
 (∃ y7:qT2,
 (∃ y8:Int,
 (∃ y9:qT6,
 (∃ y10:qT9,
 (∃ y11:qT4,
 (∃ y12:qT0,
 (∃ y13:qT3,
 (∃ y14:Bool,
 (∃ y15 y16:qT5,
 (Need (E 89 [(.op (0,0) []),(.tv [] (.int .i64) (1:Int))] (hq0 o0_0 o0_1 o0_2_0 o0_2_1 o0_2_2 o0_2_3 o0_2_4 o0_5 o0_3 o0_4) (.tup [(.tv [] .str y6),(.tv [] .ref (Option.none ))]) (hq0 y7 y8 y9 y10 y11 y12 y13 y14 y15 y16)) ∧
 (Q (.tv [] .ref (Option.none )) [((0,0),⟨⟨(.pair qt5 (.pair (.int .i64) (.pair qt0 (.pair (.mref .str .bool) (.pair (.mref .str .bool) qt4))))),(y7,(y8,((y9,(y10,(y11,(y6,(y13,()))))),((some (0,1)),((some (0,2)),(true,()))))))⟩,[[2,0],[2,1],[2,2],[2,4]]⟩),((0,1),⟨⟨(.mp .str .bool),y15⟩,[]⟩),((0,2),⟨⟨(.mp .str .bool),y16⟩,[]⟩)])))))))))))))))):EvF PP orc 97 [.op (0,0) [],.tv [] qt1 (x1_0,(x1_1,((x1_2_0,(x1_2_1,())),())))] [((0,0),⟨⟨(.pair qt5 (.pair (.int .i64) (.pair qt0 (.pair (.mref .str .bool) (.pair (.mref .str .bool) qt4))))),(o0_0,(o0_1,((o0_2_0,(o0_2_1,(o0_2_2,(o0_2_3,(o0_2_4,()))))),((some (0,1):Option Key),((some (0,2):Option Key),(o0_5,()))))))⟩,[[2,0],[2,1],[2,2],[2,4]]⟩),((0,1),⟨⟨.mp .str .bool,o0_3⟩,[]⟩),((0,2),⟨⟨.mp .str .bool,o0_4⟩,[]⟩)] Q:=vc_of (by kernel_rfl) h
end Go.Am.D
namespace Go.Am.D
open Go
set_option maxRecDepth 100000
set_option maxHeartbeats 4000000
theorem vc90 (x1:List Int) (o0_0:List ((Int×(List Int×((Int×(Int×Unit))×Unit))))) (o0_1:Int) (o0_2_0:List ((List Int×((List Int×(List Int×(Bool×Unit)))×Unit)))) (o0_2_1:List ((List Int×(List Int×(Bool×Unit))))) (o0_2_2:List ((Int×(List qT0×Unit)))) (o0_2_3:List Int) (o0_2_4:List ((List Int×(List qT0×(List Int×(List Int×Unit)))))) (o0_5:Bool) (o0_3:List (List Int×Bool)) (o0_4:List (List Int×Bool)) (Q:AV→Heap→Prop) (h :
((((decide ((40:Int)≤(o0_2_4.length:Int)))=true) →
 (∃ y1 y2 y3:Int,
 (Need (E 88 [(.op (0,0) []),(.tv [] (.int .i64) (3:Int))] (hq0 o0_0 o0_1 o0_2_0 o0_2_1 o0_2_2 o0_2_3 o0_2_4 o0_5 o0_3 o0_4) (.op (1,0) []) (hq1 y1 y2 y3 o0_0 o0_1 o0_2_0 o0_2_1 o0_2_2 o0_2_3 o0_2_4 o0_5 o0_3 o0_4)) ∧
 (Q (.op (1,0) []) (hq1 y1 y2 y3 o0_0 o0_1 o0_2_0 o0_2_1 o0_2_2 o0_2_3 o0_2_4 o0_5 o0_3 o0_4))))) ∧
 (((decide ((40:Int)≤(o0_2_4.length:Int)))=false) →
 (∃ y5:(qT0→(qT8→(qT0→(qT0→(qT2→(Int→(qT6→(qT9→(qT4→(qT0→(qT3→(Bool→(qT5→(qT5→Prop)))))))))))))),
 (∃ y6:(qT0→(qT8→(qT0→(qT0→(qT2→(Int→(qT6→(qT9→(qT4→(qT0→(qT3→(Bool→(qT5→(qT5→Nat)))))))))))))),
 ((y5 x1 [] [] [] o0_0 o0_1 o0_2_0 o0_2_1 o0_2_2 o0_2_3 o0_2_4 o0_5 o0_3 o0_4) ∧
 (∀ z7:qT0,
 (∀ z8:qT8,
 (∀ z9 z10:qT0,
 (∀ z11:qT2,
 (∀ z12:Int,
 (∀ z13:qT6,
 (∀ z14:qT9,
 (∀ z15:qT4,
 (∀ z16:qT0,
 (∀ z17:qT3,
 (∀ z18:Bool,
 (∀ z19 z20:qT5,
 ((y5 z7 z8 z9 z10 z11 z12 z13 z14 z15 z16 z17 z18 z19 z20) →
 (∃ y22:Bool,
 (Need (E 91 [(.op (0,0) []),(.tv [] (.int .i64) (1:Int))] (hq0 z11 z12 z13 z14 z15 z16 z17 z18 z19 z20) (.tv [] .bool y22) (hq0 z11 z12 z13 z14 z15 z16 z17 z18 z19 z20)) ∧
 (((y22=true) →
 ((((decide ((8:Int)≤(z8.length:Int)))=true) →
 (∃ y25 y26 y27:Int,
 (Need (E 88 [(.op (0,0) []),(.tv [] (.int .i64) (3:Int))] (hq0 z11 z12 z13 z14 z15 z16 z17 z18 z19 z20) (.op (1,0) []) (hq1 y25 y26 y27 z11 z12 z13 z14 z15 z16 z17 z18 z19 z20)) ∧
 (Q (.op (1,0) []) (hq1 y25 y26 y27 z11 z12 z13 z14 z15 z16 z17 z18 z19 z20))))) ∧
 (((decide ((8:Int)≤(z8.length:Int)))=false) →
 (∃ y29:Int,
 (∃ y30:qT0,
 (∃ y31 y32:Int,
 (Need (E 73 [(.op (0,0) [])] (hq0 z11 z12 z13 z14 z15 z16 z17 z18 z19 z20) (.tv [] qt1 (y29,(y30,((y31,(y32,())),())))) (hq0 z11 z12 z13 z14 z15 z16 z17 z18 z19 z20)) ∧
 (Need ((z8.length+(List.length [y30]))≤bigN) ∧
 (Need ((-9223372036854775808≤(z12+1))∧((z12+1)≤9223372036854775807)) ∧
 ((y5 z7 (z8++[y30]) z9 z10 z11 (z12+1) z13 z14 z15 z16 z17 z18 z19 z20) ∧
  Need ((y6 z7 (z8++[y30]) z9 z10 z11 (z12+1) z13 z14 z15 z16 z17 z18 z19 z20)<(y6 z7 z8 z9 z10 z11 z12 z13 z14 z15 z16 z17 z18 z19 z20)))))))))))) ∧
 ((y22=false) →
 (∃ y34:Bool,
 (Need (E 91 [(.op (0,0) []),(.tv [] (.int .i64) (2:Int))] (hq0 z11 z12 z13 z14 z15 z16 z17 z18 z19 z20) (.tv [] .bool y34) (hq0 z11 z12 z13 z14 z15 z16 z17 z18 z19 z20)) ∧
 (((y34=true) →
 (∃ y36:Int,
 (∃ y37:qT0,
 (∃ y38 y39:Int,
 (Need (E 73 [(.op (0,0) [])] (hq0 z11 z12 z13 z14 z15 z16 z17 z18 z19 z20) (.tv [] qt1 (y36,(y37,((y38,(y39,())),())))) (hq0 z11 z12 z13 z14 z15 z16 z17 z18 z19 z20)) ∧
 ((((decide (y37=[(112:Int),(114:Int),(101:Int),(99:Int)]))=true) →
 (Need ((-9223372036854775808≤(z12+1))∧((z12+1)≤9223372036854775807)) ∧
 ((∃ y41:qT0,
 (∃ y42 y43 y44:Int,
 (Need (E 89 [(.op (0,0) []),(.tv [] (.int .i64) (1:Int))] (hq3 z11 z12 (1:Int) z13 z14 z15 z16 z17 z18 z19 z20) (.tup [(.tv [] .str y41),(.op (1,0) [])]) [((1,0),⟨⟨qt3,(y42,((y43,(y44,())),()))⟩,[]⟩),((0,0),⟨⟨(.pair qt5 (.pair (.int .i64) (.pair qt0 (.pair (.mref .str .bool) (.pair (.mref .str .bool) qt4))))),(z11,((z12+1),((z13,(z14,(z15,(z16,(z17,()))))),((some (0,1)),((some (0,2)),(z18,()))))))⟩,[[2,0],[2,1],[2,2],[2,4]]⟩),((0,1),⟨⟨(.mp .str .bool),z19⟩,[]⟩),((0,2),⟨⟨(.mp .str .bool),z20⟩,[]⟩)]) ∧
 (Q (.op (1,0) []) [((1,0),⟨⟨qt3,(y42,((y43,(y44,())),()))⟩,[]⟩),((0,0),⟨⟨(.pair qt5 (.pair (.int .i64) (.pair qt0 (.pair (.mref .str .bool) (.pair (.mref .str .bool) qt4))))),(z11,((z12+1),((z13,(z14,(z15,(z16,(z17,()))))),((some (0,1)),((some (0,2)),(z18,()))))))⟩,[[2,0],[2,1],[2,2],[2,4]]⟩),((0,1),⟨⟨(.mp .str .bool),z19⟩,[]⟩),((0,2),⟨⟨(.mp .str .bool),z20⟩,[]⟩)])))) ∨
 (∃ y45:qT0,
 (∃ y46:qT2,
 (∃ y47:Int,
 (∃ y48:qT6,
 (∃ y49:qT9,
 (∃ y50:qT4,
 (∃ y51:qT0,
 (∃ y52:qT3,
 (∃ y53:Bool,
 (∃ y54 y55:qT5,
 (Need (E 89 [(.op (0,0) []),(.tv [] (.int .i64) (1:Int))] (hq3 z11 z12 (1:Int) z13 z14 z15 z16 z17 z18 z19 z20) (.tup [(.tv [] .str y45),(.tv [] .ref (Option.none ))]) (hq0 y46 y47 y48 y49 y50 y51 y52 y53 y54 y55)) ∧
 (∃ y56:Bool,
 (Need (E 91 [(.op (0,0) []),(.tv [] (.int .i64) (9:Int))] (hq0 y46 y47 y48 y49 y50 y51 y52 y53 y54 y55) (.tv [] .bool y56) (hq0 y46 y47 y48 y49 y50 y51 y52 y53 y54 y55)) ∧
 (((y56=true) →
 (∃ y58:Int,
 (∃ y59:qT0,
 (∃ y60 y61:Int,
 (Need (E 73 [(.op (0,0) [])] (hq0 y46 y47 y48 y49 y50 y51 y52 y53 y54 y55) (.tv [] qt1 (y58,(y59,((y60,(y61,())),())))) (hq0 y46 y47 y48 y49 y50 y51 y52 y53 y54 y55)) ∧
 (Need ((-9223372036854775808≤(y47+1))∧((y47+1)≤9223372036854775807)) ∧
 (Need ((y52.length+(List.length [(z7,(z8,(y45,(y59,()))))]))≤bigN) ∧
 (Q (.tv [] .ref (Option.none )) (hq5 y46 y47 (1:Int) y48 y49 y50 y51 y52 z7 z8 y45 y59 y53 y54 y55))))))))) ∧
 ((y56=false) →
 (Need ((y52.length+(List.length [(z7,(z8,(y45,(z10,()))))]))≤bigN) ∧
 (Q (.tv [] .ref (Option.none )) (hq6 y46 y47 y48 y49 y50 y51 y52 z7 z8 y45 z10 y53 y54 y55))))))))))))))))))))) ∧
 (((decide (y37=[(112:Int),(114:Int),(101:Int),(99:Int)]))=false) →
 (∃ y64:Bool,
 (Need (E 91 [(.op (0,0) []),(.tv [] (.int .i64) (9:Int))] (hq0 z11 z12 z13 z14 z15 z16 z17 z18 z19 z20) (.tv [] .bool y64) (hq0 z11 z12 z13 z14 z15 z16 z17 z18 z19 z20)) ∧
 (((y64=true) →
 (∃ y66:Int,
 (∃ y67:qT0,
 (∃ y68 y69:Int,
 (Need (E 73 [(.op (0,0) [])] (hq0 z11 z12 z13 z14 z15 z16 z17 z18 z19 z20) (.tv [] qt1 (y66,(y67,((y68,(y69,())),())))) (hq0 z11 z12 z13 z14 z15 z16 z17 z18 z19 z20)) ∧
 (Need ((-9223372036854775808≤(z12+1))∧((z12+1)≤9223372036854775807)) ∧
 (Need ((z17.length+(List.length [(z7,(z8,(z9,(y67,()))))]))≤bigN) ∧
 (Q (.tv [] .ref (Option.none )) (hq5 z11 z12 (1:Int) z13 z14 z15 z16 z17 z7 z8 z9 y67 z18 z19 z20))))))))) ∧
 ((y64=false) →
 (Need ((z17.length+(List.length [(z7,(z8,(z9,(z10,()))))]))≤bigN) ∧
 (Q (.tv [] .ref (Option.none )) (hq6 z11 z12 z13 z14 z15 z16 z17 z7 z8 z9 z10 z18 z19 z20)))))))))))))) ∧
 ((y34=false) →
 (∃ y72:Bool,
 (Need (E 91 [(.op (0,0) []),(.tv [] (.int .i64) (9:Int))] (hq0 z11 z12 z13 z14 z15 z16 z17 z18 z19 z20) (.tv [] .bool y72) (hq0 z11 z12 z13 z14 z15 z16 z17 z18 z19 z20)) ∧
 (((y72=true) →
 (∃ y74:Int,
 (∃ y75:qT0,
 (∃ y76 y77:Int,
 (Need (E 73 [(.op (0,0) [])] (hq0 z11 z12 z13 z14 z15 z16 z17 z18 z19 z20) (.tv [] qt1 (y74,(y75,((y76,(y77,())),())))) (hq0 z11 z12 z13 z14 z15 z16 z17 z18 z19 z20)) ∧
 (Need ((-9223372036854775808≤(z12+1))∧((z12+1)≤9223372036854775807)) ∧
 (Need ((z17.length+(List.length [(z7,(z8,(z9,(y75,()))))]))≤bigN) ∧
 (Q (.tv [] .ref (Option.none )) (hq5 z11 z12 (1:Int) z13 z14 z15 z16 z17 z7 z8 z9 y75 z18 z19 z20))))))))) ∧
 ((y72=false) →
 (Need ((z17.length+(List.length [(z7,(z8,(z9,(z10,()))))]))≤bigN) ∧
 (Q (.tv [] .ref (Option.none )) (hq6 z11 z12 z13 z14 z15 z16 z17 z7 z8 z9 z10 z18 z19 z20)))))))))))))))))))))))))))))))))):EvF PP orc 90 [.op (0,0) [],.tv [] .str x1] [((0,0),⟨⟨(.pair qt5 (.pair (.int .i64) (.pair qt0 (.pair (.mref .str .bool) (.pair (.mref .str .bool) qt4))))),(o0_0,(o0_1,((o0_2_0,(o0_2_1,(o0_2_2,(o0_2_3,(o0_2_4,()))))),((some (0,1):Option Key),((some (0,2):Option Key),(o0_5,()))))))⟩,[[2,0],[2,1],[2,2],[2,4]]⟩),((0,1),⟨⟨.mp .str .bool,o0_3⟩,[]⟩),((0,2),⟨⟨.mp .str .bool,o0_4⟩,[]⟩)] Q:=vc_of (by kernel_rfl) h
end Go.Am.D
