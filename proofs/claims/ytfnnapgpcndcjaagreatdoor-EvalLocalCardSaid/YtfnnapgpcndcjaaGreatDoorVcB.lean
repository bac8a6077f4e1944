/-
  A part of the proof of a law: see the text that states it.
-/
import Derived.Test.YtfnnapgpcndcjaaGreatDoorHead
set_option linter.all false
namespace Go.Am.Z
open Go
set_option maxRecDepth 100000
set_option maxHeartbeats 4000000
theorem vc59 (γ:Nat) (N:Nat) (lo:Nat) (len:Nat) (l:List (Int×Int×Unit)) (Q:AV→Heap→Prop) (h :
(∃ y0:(Int→(Int→(Int→(Int→((List qT4)→Prop))))),
 (∃ y1:(Int→(Int→(Int→(Int→((List qT4)→Nat))))),
 (Need (N=l.length) ∧
 ((y0 (0:Int) (0:Int) (0:Int) (γ:Int) l) ∧
 (∀ z2 z3 z4 z5:Int,
 (∀ z6:(List qT4),
 ((y0 z2 z3 z4 z5 z6) →
 ((((decide (z2<(len:Int)))=true) →
 (Need ((0≤z2)∧(z2<(len:Int))) ∧
 (Need (z5.toNat=γ) ∧
 (Need ((lo+z2.toNat)<z6.length) ∧
 ((((decide ((List.getD z6 (lo+z2.toNat) ((0:Int),((0:Int),()))).1=(3:Int)))=true) →
 (Q (.tup [(.tv [] qt1 (List.getD z6 (lo+z2.toNat) ((0:Int),((0:Int),())))),(.tv [] .bool true)]) (hq15 z5.toNat z6))) ∧
 (((decide ((List.getD z6 (lo+z2.toNat) ((0:Int),((0:Int),()))).1=(3:Int)))=false) →
 (Need ((-9223372036854775808≤(z2+1))∧((z2+1)≤9223372036854775807)) ∧
 (Need (z6.length=z6.length) ∧
 ((y0 (z2+1) z3 z4 (z5.toNat:Int) z6) ∧
  Need ((y1 (z2+1) z3 z4 (z5.toNat:Int) z6)<(y1 z2 z3 z4 z5 z6))))))))))) ∧
 (((decide (z2<(len:Int)))=false) →
 (∃ y12:(Int→(Int→(Int→(Int→((List qT4)→Prop))))),
 (∃ y13:(Int→(Int→(Int→(Int→((List qT4)→Nat))))),
 (Need (z6.length=z6.length) ∧
 ((y12 (0:Int) z3 z4 (z5.toNat:Int) z6) ∧
 (∀ z14 z15 z16 z17:Int,
 (∀ z18:(List qT4),
 ((y12 z14 z15 z16 z17 z18) →
 ((((decide (z14<(len:Int)))=true) →
 (Need ((0≤z14)∧(z14<(len:Int))) ∧
 (Need (z17.toNat=γ) ∧
 (Need ((lo+z14.toNat)<z18.length) ∧
 ((((decide ((List.getD z18 (lo+z14.toNat) ((0:Int),((0:Int),()))).1≠(1:Int)))=true) →
 (∃ y22 y23:Int,
 (Need (E 56 [(.tv [] (.int .i64) (33:Int))] [] (.tv [] qt1 (y22,(y23,()))) []) ∧
 (Q (.tup [(.tv [] qt1 (y22,(y23,()))),(.tv [] .bool true)]) (hq15 z17.toNat z18))))) ∧
 (((decide ((List.getD z18 (lo+z14.toNat) ((0:Int),((0:Int),()))).1≠(1:Int)))=false) →
 (Need ((-9223372036854775808≤(z14+1))∧((z14+1)≤9223372036854775807)) ∧
 (Need (z18.length=z18.length) ∧
 ((y12 (z14+1) z15 z16 (z17.toNat:Int) z18) ∧
  Need ((y13 (z14+1) z15 z16 (z17.toNat:Int) z18)<(y13 z14 z15 z16 z17 z18))))))))))) ∧
 (((decide (z14<(len:Int)))=false) →
 (Q (.tup [(.tv [] qt1 ((0:Int),((0:Int),()))),(.tv [] .bool false)]) (hq15 z17.toNat z18))))))))))))))))))))):EvF PP orc 59 [.tv [] (.sref qt1) (some ((0,0),γ,lo,len))] [((0,0),⟨⟨.arr (Nat.succ γ) N qt1,l⟩,[]⟩)] Q:=vc_of (by kernel_rfl) h
theorem vc60 (x0:List Int) (x1:List Int) (Q:AV→Heap→Prop) (h :
((((decide (x0=[]))=true) →
 (Q (.tv [] .str x0) [])) ∧
 (((decide (x0=[]))=false) →
 ((((decide (x1=[]))=true) →
 (Q (.tv [] .str x0) [])) ∧
 (((decide (x1=[]))=false) →
 ((((decide ((x1.length:Int)=(1:Int)))=true) →
 (Need (((0:Int)≤(0:Int))∧((0:Int)<(x1.length:Int))) ∧
 ((((decide ((List.getD x1 0 (0:Int))<(128:Int)))=true) →
 (Need (((0:Int)≤(0:Int))∧((0:Int)<(x1.length:Int))) ∧
 (∃ y6:qT3,
 (Need (E 90 [(.tv [] .str x0),(.tv [] (.int .u8) (List.getD x1 0 (0:Int)))] [] (.tv [] .str y6) []) ∧
 (Need (((0:Int)≤(0:Int))∧((0:Int)<(x1.length:Int))) ∧
 (∃ y7:qT3,
 (Need (E 89 [(.tv [] .str y6),(.tv [] (.int .u8) (List.getD x1 0 (0:Int)))] [] (.tv [] .str y7) []) ∧
 (Q (.tv [] .str y7) [])))))))) ∧
 (((decide ((List.getD x1 0 (0:Int))<(128:Int)))=false) →
 (∃ y9:(List Bool),
 (∃ y10:Bool,
 (Need (E 91 [(.tv [] .str x1)] [] (.tup [(.tv [] (.arr 0 256 .bool) y9),(.tv [] .bool y10)]) []) ∧
 (((y10=true) →
 (∃ y12:qT3,
 (∃ y13:(List Bool),
 (Need (E 93 [(.tv [] .str x0),(.op (0,0) [])] (hq6 y9) (.tv [] .str y12) (hq6 y13)) ∧
 (∃ y14:qT3,
 (∃ y15:(List Bool),
 (Need (E 92 [(.tv [] .str y12),(.op (0,0) [])] (hq6 y13) (.tv [] .str y14) (hq6 y15)) ∧
 (Q (.tv [] .str y14) [])))))))) ∧
 ((y10=false) →
 (∃ y17:qT3,
 (Need (E 95 [(.tv [] .str x0),(.tv [] .str x1)] [] (.tv [] .str y17) []) ∧
 (∃ y18:qT3,
 (Need (E 94 [(.tv [] .str y17),(.tv [] .str x1)] [] (.tv [] .str y18) []) ∧
 (Q (.tv [] .str y18) [])))))))))))))) ∧
 (((decide ((x1.length:Int)=(1:Int)))=false) →
 (∃ y20:(List Bool),
 (∃ y21:Bool,
 (Need (E 91 [(.tv [] .str x1)] [] (.tup [(.tv [] (.arr 0 256 .bool) y20),(.tv [] .bool y21)]) []) ∧
 (((y21=true) →
 (∃ y23:qT3,
 (∃ y24:(List Bool),
 (Need (E 93 [(.tv [] .str x0),(.op (0,0) [])] (hq6 y20) (.tv [] .str y23) (hq6 y24)) ∧
 (∃ y25:qT3,
 (∃ y26:(List Bool),
 (Need (E 92 [(.tv [] .str y23),(.op (0,0) [])] (hq6 y24) (.tv [] .str y25) (hq6 y26)) ∧
 (Q (.tv [] .str y25) [])))))))) ∧
 ((y21=false) →
 (∃ y28:qT3,
 (Need (E 95 [(.tv [] .str x0),(.tv [] .str x1)] [] (.tv [] .str y28) []) ∧
 (∃ y29:qT3,
 (Need (E 94 [(.tv [] .str y28),(.tv [] .str x1)] [] (.tv [] .str y29) []) ∧
 (Q (.tv [] .str y29) []))))))))))))))))):EvF PP orc 60 [.tv [] .str x0,.tv [] .str x1] [] Q:=vc_of (by kernel_rfl) h
theorem vc61 (x0_0:List ((List Int×((List Int×(List Int×(Bool×Unit)))×Unit)))) (x0_1:List ((List Int×(List Int×(Bool×Unit))))) (g0:Nat) (l0:List ((Int×(List qT3×Unit)))) (x0_3:List Int) (x0_4:List ((List Int×(List qT3×(List Int×(List Int×Unit)))))) (Q:AV→Heap→Prop) (h :
((((decide ((20:Int)<(x0_0.length:Int)))=true) →
 (Q (.tv [] .bool false) (hq2 g0 l0))) ∧
 (((decide ((20:Int)<(x0_0.length:Int)))=false) →
 ((((decide ((4:Int)<(x0_1.length:Int)))=true) →
 (Q (.tv [] .bool false) (hq2 g0 l0))) ∧
 (((decide ((4:Int)<(x0_1.length:Int)))=false) →
 ((((decide ((10:Int)<(l0.length:Int)))=true) →
 (Q (.tv [] .bool false) (hq2 g0 l0))) ∧
 (((decide ((10:Int)<(l0.length:Int)))=false) →
 ((((decide ((x0_4.length:Int)<(1:Int)))=true) →
 (Q (.tv [] .bool false) (hq2 g0 l0))) ∧
 (((decide ((x0_4.length:Int)<(1:Int)))=false) →
 ((((decide ((40:Int)<(x0_4.length:Int)))=true) →
 (Q (.tv [] .bool false) (hq2 g0 l0))) ∧
 (((decide ((40:Int)<(x0_4.length:Int)))=false) →
 (∃ y10:Bool,
 (Need (E 96 [(.tv [] .str x0_3)] [] (.tv [] .bool y10) []) ∧
 ((((!y10)=true) →
 (Q (.tv [] .bool false) (hq2 g0 l0))) ∧
 (((!y10)=false) →
 (∃ y13:(qT8→(Int→(Int→(qT2→Prop)))),
 (∃ y14:(qT8→(Int→(Int→(qT2→Nat)))),
 (Need (l0.length=l0.length) ∧
 ((y13 [] (0:Int) (g0:Int) l0) ∧
 (∀ z15:qT8,
 (∀ z16 z17:Int,
 (∀ z18:qT2,
 ((y13 z15 z16 z17 z18) →
 ((((decide (z16<(x0_0.length:Int)))=true) →
 (Need ((0≤z16)∧(z16<(x0_0.length:Int))) ∧
 (Need ((z15.length+(List.length [(List.getD x0_0 z16.toNat (([]:List Int),(([],([],(false,()))),()))).1]))≤bigN) ∧
 (Need ((0≤z16)∧(z16<(x0_0.length:Int))) ∧
 (∃ y21:Bool,
 (Need (E 97 [(.tv [] (.pair .str (.pair .str (.pair .bool .unit))) (List.getD x0_0 z16.toNat (([]:List Int),(([],([],(false,()))),()))).2.1)] [] (.tv [] .bool y21) []) ∧
 ((((!y21)=true) →
 (Q (.tv [] .bool false) (hq2 z17.toNat z18))) ∧
 (((!y21)=false) →
 (Need ((-9223372036854775808≤(z16+1))∧((z16+1)≤9223372036854775807)) ∧
 (Need (((x0_0,(x0_1,((some ((0,0),(g0,(0,l0.length)))),(x0_3,(x0_4,())))))=(x0_0,(x0_1,((some ((0,0),(g0,(0,l0.length)))),(x0_3,(x0_4,()))))))∧(z18.length=z18.length)) ∧
 ((y13 (z15++[(List.getD x0_0 z16.toNat (([]:List Int),(([],([],(false,()))),()))).1]) (z16+1) (z17.toNat:Int) z18) ∧
  Need ((y14 (z15++[(List.getD x0_0 z16.toNat (([]:List Int),(([],([],(false,()))),()))).1]) (z16+1) (z17.toNat:Int) z18)<(y14 z15 z16 z17 z18))))))))))))) ∧
 (((decide (z16<(x0_0.length:Int)))=false) →
 (∃ y25:(Int→(Int→(qT2→Prop))),
 (∃ y26:(Int→(Int→(qT2→Nat))),
 (Need (z18.length=z18.length) ∧
 ((y25 (0:Int) (z17.toNat:Int) z18) ∧
 (∀ z27 z28:Int,
 (∀ z29:qT2,
 ((y25 z27 z28 z29) →
 ((((decide (z27<(x0_1.length:Int)))=true) →
 (Need ((0≤z27)∧(z27<(x0_1.length:Int))) ∧
 (∃ y32:Bool,
 (Need (E 97 [(.tv [] (.pair .str (.pair .str (.pair .bool .unit))) (List.getD x0_1 z27.toNat ([],([],(false,())))))] [] (.tv [] .bool y32) []) ∧
 ((((!y32)=true) →
 (Q (.tv [] .bool false) (hq2 z28.toNat z29))) ∧
 (((!y32)=false) →
 (Need ((-9223372036854775808≤(z27+1))∧((z27+1)≤9223372036854775807)) ∧
 (Need (((x0_0,(x0_1,((some ((0,0),(g0,(0,l0.length)))),(x0_3,(x0_4,())))))=(x0_0,(x0_1,((some ((0,0),(g0,(0,l0.length)))),(x0_3,(x0_4,()))))))∧(z29.length=z29.length)) ∧
 ((y25 (z27+1) (z28.toNat:Int) z29) ∧
  Need ((y26 (z27+1) (z28.toNat:Int) z29)<(y26 z27 z28 z29))))))))))) ∧
 (((decide (z27<(x0_1.length:Int)))=false) →
 (∃ y36:(qT8→(Int→(Int→(qT2→Prop)))),
 (∃ y37:(qT8→(Int→(Int→(qT2→Nat)))),
 (Need (z29.length=z29.length) ∧
 ((y36 [] (0:Int) (z28.toNat:Int) z29) ∧
 (∀ z38:qT8,
 (∀ z39 z40:Int,
 (∀ z41:qT2,
 ((y36 z38 z39 z40 z41) →
 ((((decide (z39<(l0.length:Int)))=true) →
 (Need ((0≤z39)∧(z39<(l0.length:Int))) ∧
 (Need (z40.toNat=g0) ∧
 (Need ((0+z39.toNat)<z41.length) ∧
 (Need ((z38.length+(List.length (List.getD z41 (0+z39.toNat) ((0:Int),([],()))).2.1))≤bigN) ∧
 ((((decide ((List.getD z41 (0+z39.toNat) ((0:Int),([],()))).1<(1:Int)))=true) →
 (Q (.tv [] .bool false) (hq2 z40.toNat z41))) ∧
 (((decide ((List.getD z41 (0+z39.toNat) ((0:Int),([],()))).1<(1:Int)))=false) →
 ((((decide ((3:Int)<(List.getD z41 (0+z39.toNat) ((0:Int),([],()))).1))=true) →
 (Q (.tv [] .bool false) (hq2 z40.toNat z41))) ∧
 (((decide ((3:Int)<(List.getD z41 (0+z39.toNat) ((0:Int),([],()))).1))=false) →
 ((((decide (((List.length (List.getD z41 (0+z39.toNat) ((0:Int),([],()))).2.1):Int)=(0:Int)))=true) →
 (Q (.tv [] .bool false) (hq2 z40.toNat z41))) ∧
 (((decide (((List.length (List.getD z41 (0+z39.toNat) ((0:Int),([],()))).2.1):Int)=(0:Int)))=false) →
 (Need ((-9223372036854775808≤(z39+1))∧((z39+1)≤9223372036854775807)) ∧
 (Need (((x0_0,(x0_1,((some ((0,0),(g0,(0,l0.length)))),(x0_3,(x0_4,())))))=(x0_0,(x0_1,((some ((0,0),(g0,(0,l0.length)))),(x0_3,(x0_4,()))))))∧(z41.length=z41.length)) ∧
 ((y36 (z38++(List.getD z41 (0+z39.toNat) ((0:Int),([],()))).2.1) (z39+1) (z40.toNat:Int) z41) ∧
  Need ((y37 (z38++(List.getD z41 (0+z39.toNat) ((0:Int),([],()))).2.1) (z39+1) (z40.toNat:Int) z41)<(y37 z38 z39 z40 z41)))))))))))))))) ∧
 (((decide (z39<(l0.length:Int)))=false) →
 (∃ y51:(Int→(Int→(qT2→Prop))),
 (∃ y52:(Int→(Int→(qT2→Nat))),
 (Need (z41.length=z41.length) ∧
 ((y51 (0:Int) (z40.toNat:Int) z41) ∧
 (∀ z53 z54:Int,
 (∀ z55:qT2,
 ((y51 z53 z54 z55) →
 ((((decide (z53<(x0_4.length:Int)))=true) →
 (Need ((0≤z53)∧(z53<(x0_4.length:Int))) ∧
 (∃ y58:Bool,
 (Need (E 96 [(.tv [] .str (List.getD x0_4 z53.toNat ([],([],([],([],()))))).1)] [] (.tv [] .bool y58) []) ∧
 ((((!y58)=true) →
 (Q (.tv [] .bool false) (hq2 z54.toNat z55))) ∧
 (((!y58)=false) →
 ((((decide ((8:Int)<((List.length (List.getD x0_4 z53.toNat ([],([],([],([],()))))).2.1):Int)))=true) →
 (Q (.tv [] .bool false) (hq2 z54.toNat z55))) ∧
 (((decide ((8:Int)<((List.length (List.getD x0_4 z53.toNat ([],([],([],([],()))))).2.1):Int)))=false) →
 ((((!(decide ((List.getD x0_4 z53.toNat ([],([],([],([],()))))).2.2.1=[])))=true) →
 (∃ y64:Bool,
 (Need (E 96 [(.tv [] .str (List.getD x0_4 z53.toNat ([],([],([],([],()))))).2.2.1)] [] (.tv [] .bool y64) []) ∧
 ((((!y64)=true) →
 (Q (.tv [] .bool false) (hq2 z54.toNat z55))) ∧
 (((!y64)=false) →
 (∃ y67:Bool,
 (Need (E 98 [(.tv [] .str (List.getD x0_4 z53.toNat ([],([],([],([],()))))).2.2.2.1)] [] (.tv [] .bool y67) []) ∧
 ((((!y67)=true) →
 (Q (.tv [] .bool false) (hq2 z54.toNat z55))) ∧
 (((!y67)=false) →
 (∃ y70:(Int→(qT3→(qT8→(qT3→(qT3→(Int→(qT2→Prop))))))),
 (∃ y71:(Int→(qT3→(qT8→(qT3→(qT3→(Int→(qT2→Nat))))))),
 (Need (z55.length=z55.length) ∧
 ((y70 (0:Int) (List.getD x0_4 z53.toNat ([],([],([],([],()))))).1 (List.getD x0_4 z53.toNat ([],([],([],([],()))))).2.1 (List.getD x0_4 z53.toNat ([],([],([],([],()))))).2.2.1 (List.getD x0_4 z53.toNat ([],([],([],([],()))))).2.2.2.1 (z54.toNat:Int) z55) ∧
 (∀ z72:Int,
 (∀ z73:qT3,
 (∀ z74:qT8,
 (∀ z75 z76:qT3,
 (∀ z77:Int,
 (∀ z78:qT2,
 ((y70 z72 z73 z74 z75 z76 z77 z78) →
 ((((decide (z72<(z74.length:Int)))=true) →
 (Need ((0≤z72)∧(z72<(z74.length:Int))) ∧
 (∃ y81:Bool,
 (Need (E 96 [(.tv [] .str (List.getD z74 z72.toNat []))] [] (.tv [] .bool y81) []) ∧
 ((((!y81)=true) →
 (Q (.tv [] .bool false) (hq2 z77.toNat z78))) ∧
 (((!y81)=false) →
 (Need ((-9223372036854775808≤(z72+1))∧((z72+1)≤9223372036854775807)) ∧
 (Need (((x0_0,(x0_1,((some ((0,0),(g0,(0,l0.length)))),(x0_3,(x0_4,())))))=(x0_0,(x0_1,((some ((0,0),(g0,(0,l0.length)))),(x0_3,(x0_4,()))))))∧(z78.length=z78.length)) ∧
 ((y70 (z72 + 1) z73 z74 z75 z76 (z77.toNat : Int) z78) ∧
    Need ((y71 (z72+1) z73 z74 z75 z76 (z77.toNat:Int) z78)<(y71 z72 z73 z74 z75 z76 z77 z78))))))))))) ∧
 (((decide (z72<(z74.length:Int)))=false) →
 (Need ((-9223372036854775808≤(z53+1))∧((z53+1)≤9223372036854775807)) ∧
 (Need (((x0_0,(x0_1,((some ((0,0),(g0,(0,l0.length)))),(x0_3,(x0_4,())))))=(x0_0,(x0_1,((some ((0,0),(g0,(0,l0.length)))),(x0_3,(x0_4,()))))))∧(z78.length=z78.length)) ∧
 ((y51 (z53+1) (z77.toNat:Int) z78) ∧
   Need ((y52 (z53+1) (z77.toNat:Int) z78)<(y52 z53 z54 z55))))))))))))))))))))))))))) ∧
 (((!(decide ((List.getD x0_4 z53.toNat ([],([],([],([],()))))).2.2.1=[])))=false) →
 (∃ y86:Bool,
 (Need (E 98 [(.tv [] .str (List.getD x0_4 z53.toNat ([],([],([],([],()))))).2.2.2.1)] [] (.tv [] .bool y86) []) ∧
 ((((!y86)=true) →
 (Q (.tv [] .bool false) (hq2 z54.toNat z55))) ∧
 (((!y86)=false) →
 (∃ y89:(Int→(qT3→(qT8→(qT3→(qT3→(Int→(qT2→Prop))))))),
 (∃ y90:(Int→(qT3→(qT8→(qT3→(qT3→(Int→(qT2→Nat))))))),
 (Need (z55.length=z55.length) ∧
 ((y89 (0:Int) (List.getD x0_4 z53.toNat ([],([],([],([],()))))).1 (List.getD x0_4 z53.toNat ([],([],([],([],()))))).2.1 (List.getD x0_4 z53.toNat ([],([],([],([],()))))).2.2.1 (List.getD x0_4 z53.toNat ([],([],([],([],()))))).2.2.2.1 (z54.toNat:Int) z55) ∧
 (∀ z91:Int,
 (∀ z92:qT3,
 (∀ z93:qT8,
 (∀ z94 z95:qT3,
 (∀ z96:Int,
 (∀ z97:qT2,
 ((y89 z91 z92 z93 z94 z95 z96 z97) →
 ((((decide (z91<(z93.length:Int)))=true) →
 (Need ((0≤z91)∧(z91<(z93.length:Int))) ∧
 (∃ y100:Bool,
 (Need (E 96 [(.tv [] .str (List.getD z93 z91.toNat []))] [] (.tv [] .bool y100) []) ∧
 ((((!y100)=true) →
 (Q (.tv [] .bool false) (hq2 z96.toNat z97))) ∧
 (((!y100)=false) →
 (Need ((-9223372036854775808≤(z91+1))∧((z91+1)≤9223372036854775807)) ∧
 (Need (((x0_0,(x0_1,((some ((0,0),(g0,(0,l0.length)))),(x0_3,(x0_4,())))))=(x0_0,(x0_1,((some ((0,0),(g0,(0,l0.length)))),(x0_3,(x0_4,()))))))∧(z97.length=z97.length)) ∧
 ((y89 (z91+1) z92 z93 z94 z95 (z96.toNat:Int) z97) ∧
   Need ((y90 (z91+1) z92 z93 z94 z95 (z96.toNat:Int) z97)<(y90 z91 z92 z93 z94 z95 z96 z97))))))))))) ∧
 (((decide (z91<(z93.length:Int)))=false) →
 (Need ((-9223372036854775808≤(z53+1))∧((z53+1)≤9223372036854775807)) ∧
 (Need (((x0_0,(x0_1,((some ((0,0),(g0,(0,l0.length)))),(x0_3,(x0_4,())))))=(x0_0,(x0_1,((some ((0,0),(g0,(0,l0.length)))),(x0_3,(x0_4,()))))))∧(z97.length=z97.length)) ∧
 ((y51 (z53+1) (z96.toNat:Int) z97) ∧
  Need ((y52 (z53+1) (z96.toNat:Int) z97)<(y52 z53 z54 z55)))))))))))))))))))))))))))))))) ∧
 (((decide (z53<(x0_4.length:Int)))=false) →
 (∃ y105:Bool,
 (Need (E 99 [(.tv [] (.slice .str) z15)] [] (.tv [] .bool y105) []) ∧
 (((y105=true) →
 (∃ y107:Bool,
 (Need (E 99 [(.tv [] (.slice .str) z38)] [] (.tv [] .bool y107) []) ∧
 (Q (.tv [] .bool y107) (hq2 z54.toNat z55))))) ∧
 ((y105=false) →
 (Q (.tv [] .bool false) (hq2 z54.toNat z55))))))))))))))))))))))))))))))))))))))))))))))))))))))))))):EvF PP orc 61 [.tv [] qt5 (x0_0,(x0_1,((some ((0,0),g0,0,l0.length)),(x0_3,(x0_4,())))))] (hq22 g0 l0) Q:=vc_of (by kernel_rfl) h
theorem vc62 (x0:List qT3) (x1:List Int) (Q:AV→Heap→Prop) (h :
(∃ y0:(Int→Prop),
 (∃ y1:(Int→Nat),
 ((y0 (0:Int)) ∧
 (∀ z2:Int,
 ((y0 z2) →
 ((((decide (z2<(x0.length:Int)))=true) →
 (Need ((0≤z2)∧(z2<(x0.length:Int))) ∧
 ((((decide ((List.getD x0 z2.toNat [])=x1))=true) →
 (Q (.tv [] (.int .i64) z2) [])) ∧
 (((decide ((List.getD x0 z2.toNat [])=x1))=false) →
 (Need ((-9223372036854775808≤(z2+1))∧((z2+1)≤9223372036854775807)) ∧
 ((y0 (z2+1)) ∧
  Need ((y1 (z2+1))<(y1 z2)))))))) ∧
 (((decide (z2<(x0.length:Int)))=false) →
 (Q (.tv [] (.int .i64) (-(1:Int))) []))))))))):EvF PP orc 62 [.tv [] (.slice .str) x0,.tv [] .str x1] [] Q:=vc_of (by kernel_rfl) h
theorem vc63 (x0_0:List ((List Int×((List Int×(List Int×(Bool×Unit)))×Unit)))) (x0_1:List ((List Int×(List Int×(Bool×Unit))))) (g0:Nat) (l0:List ((Int×(List qT3×Unit)))) (x0_3:List Int) (x0_4:List ((List Int×(List qT3×(List Int×(List Int×Unit)))))) (x1:List Int) (Q:AV→Heap→Prop) (h :
(∃ y0:(Int→(Int→(qT2→Prop))),
 (∃ y1:(Int→(Int→(qT2→Nat))),
 (Need (l0.length=l0.length) ∧
 ((y0 (0:Int) (g0:Int) l0) ∧
 (∀ z2 z3:Int,
 (∀ z4:qT2,
 ((y0 z2 z3 z4) →
 ((((decide (z2<(l0.length:Int)))=true) →
 (Need ((0≤z2)∧(z2<(l0.length:Int))) ∧
 (Need (z3.toNat=g0) ∧
 (Need ((0+z2.toNat)<z4.length) ∧
 (Need (z3.toNat=g0) ∧
 (Need ((0+z2.toNat)<z4.length) ∧
 (∃ y7:Int,
 (Need (E 62 [(.tv [] (.slice .str) (List.getD z4 (0+z2.toNat) ((0:Int),([],()))).2.1),(.tv [] .str x1)] [] (.tv [] (.int .i64) y7) []) ∧
 ((((decide (0≤y7))=true) →
 (Need ((-9223372036854775808≤(z2+1))∧((z2+1)≤9223372036854775807)) ∧
 (Q (.tv [] (.int .i64) (z2+1)) (hq2 z3.toNat z4)))) ∧
 (((decide (0≤y7))=false) →
 (Need ((-9223372036854775808≤(z2+1))∧((z2+1)≤9223372036854775807)) ∧
 (Need (((x0_0,(x0_1,((some ((0,0),(g0,(0,l0.length)))),(x0_3,(x0_4,())))))=(x0_0,(x0_1,((some ((0,0),(g0,(0,l0.length)))),(x0_3,(x0_4,()))))))∧(z4.length=z4.length)) ∧
 ((y0 (z2+1) (z3.toNat:Int) z4) ∧
  Need ((y1 (z2+1) (z3.toNat:Int) z4)<(y1 z2 z3 z4))))))))))))))) ∧
 (((decide (z2<(l0.length:Int)))=false) →
 (Q (.tv [] (.int .i64) (0:Int)) (hq2 z3.toNat z4)))))))))))):EvF PP orc 63 [.tv [] qt5 (x0_0,(x0_1,((some ((0,0),g0,0,l0.length)),(x0_3,(x0_4,()))))),.tv [] .str x1] (hq22 g0 l0) Q:=vc_of (by kernel_rfl) h
theorem vc64 (x0_0:List qT3) (x0_1:List qT3) (x0_2:List ((Int×(List (Int)×(Int×Unit))))) (x0_3:List (Int)) (x0_4:List (Int)) (x0_5:List qT3) (x1:List Int) (Q:AV→Heap→Prop) (h :
(∃ y0:Int,
 (Need (E 62 [(.tv [] (.slice .str) x0_0),(.tv [] .str x1)] [] (.tv [] (.int .i64) y0) []) ∧
 ((((decide (0≤y0))=true) →
 (Q (.tv [] (.int .i64) y0) [])) ∧
 (((decide (0≤y0))=false) →
 (∃ y3:Int,
 (Need (E 62 [(.tv [] (.slice .str) x0_1),(.tv [] .str x1)] [] (.tv [] (.int .i64) y3) []) ∧
 ((((decide (0≤y3))=true) →
 (Need ((-9223372036854775808≤((x0_0.length:Int)+y3))∧(((x0_0.length:Int)+y3)≤9223372036854775807)) ∧
 (Q (.tv [] (.int .i64) ((x0_0.length:Int)+y3)) []))) ∧
 (((decide (0≤y3))=false) →
 (Q (.tv [] (.int .i64) (-(1:Int))) [])))))))))):EvF PP orc 64 [.tv [] qt6 (x0_0,(x0_1,(x0_2,(x0_3,(x0_4,(x0_5,())))))),.tv [] .str x1] [] Q:=vc_of (by kernel_rfl) h
theorem vc65 (o0_0:Int) (o0_1:Int) (o0_2:Int) (Q:AV→Heap→Prop) (h :
(Q (.op (1,0) []) [((1,0),⟨⟨qt3,((some (0,0)),((some ((1,1),(0,(0,0)))),((0:Int),())))⟩,[]⟩),((1,1),⟨⟨(.arr 1 0 qt0),[]⟩,[]⟩),((0,0),⟨⟨qt4,(o0_0,(o0_1,(o0_2,())))⟩,[]⟩)])):EvF PP orc 65 [.op (0,0) []] (hq0 o0_0 o0_1 o0_2) Q:=vc_of (by kernel_rfl) h
theorem vc66 (x1_0:Int) (x1_1:Int) (x1_2_0:Int) (x1_2_1:Int) (x1_2_2:Int) (x1_3:List (Int)) (x1_4:Bool) (x1_5:Bool) (x2:Int) (g2:Nat) (l2:List (((Int×(Int×((Int×(Int×(Int×Unit)))×(List (Int)×(Bool×(Bool×Unit))))))×(Int×Unit)))) (n2:Nat) (o0_2:Int) (o0_0_0:Int) (o0_0_1:Int) (o0_0_2:Int) (Q:AV→Heap→Prop) (h :
((((decide (x2<1))=true) →
 (Q (.tup [(.tv [] (.int .i64) (0:Int)),(.tv [] (.int .i64) (1:Int))]) (hq5 g2 n2 o0_2 o0_0_0 o0_0_1 o0_0_2 l2))) ∧
 (((decide (x2<1))=false) →
 (∃ y2 y3 y4 y5:Int,
 (Need (E 50 [(.op (0,0) []),(.tv [] (.int .i64) x2)] (hq0 o0_0_0 o0_0_1 o0_0_2) (.tv [] (.int .i64) y2) (hq0 y3 y4 y5)) ∧
 ((((decide (y2≠(0:Int)))=true) →
 (Q (.tup [(.tv [] (.int .i64) (0:Int)),(.tv [] (.int .i64) y2)]) (hq5 g2 n2 o0_2 y3 y4 y5 l2))) ∧
 (((decide (y2≠(0:Int)))=false) →
 (Need ((g2=g2)∧((n2≤l2.length)∧((0<(List.length [((x1_0,(x1_1,((x1_2_0,(x1_2_1,(x1_2_2,()))),(x1_3,(x1_4,(x1_5,())))))),(x2,()))]))∧((l2.length+(List.length [((x1_0,(x1_1,((x1_2_0,(x1_2_1,(x1_2_2,()))),(x1_3,(x1_4,(x1_5,())))))),(x2,()))]))≤bigN)))) ∧
 (Need ((-9223372036854775808≤(o0_2+x2))∧((o0_2+x2)≤9223372036854775807)) ∧
 (Need ((-9223372036854775808≤((((n2+(List.length [((x1_0,(x1_1,((x1_2_0,(x1_2_1,(x1_2_2,()))),(x1_3,(x1_4,(x1_5,())))))),(x2,()))])):Nat):Int)-(1:Int)))∧(((((n2+(List.length [((x1_0,(x1_1,((x1_2_0,(x1_2_1,(x1_2_2,()))),(x1_3,(x1_4,(x1_5,())))))),(x2,()))])):Nat):Int)-(1:Int))≤9223372036854775807)) ∧
 (Q (.tup [(.tv [] (.int .i64) ((((n2+(List.length [((x1_0,(x1_1,((x1_2_0,(x1_2_1,(x1_2_2,()))),(x1_3,(x1_4,(x1_5,())))))),(x2,()))])):Nat):Int)-(1:Int))),(.tv [] (.int .i64) (0:Int))]) [((0,0),⟨⟨qt3,((some (0,1)),((some ((0,2),((Nat.succ g2),(0,(n2+(List.length [((x1_0,(x1_1,((x1_2_0,(x1_2_1,(x1_2_2,()))),(x1_3,(x1_4,(x1_5,())))))),(x2,()))])))))),((o0_2+x2),())))⟩,[]⟩),((0,1),⟨⟨qt4,(y3,(y4,(y5,())))⟩,[]⟩),((0,2),⟨⟨(.arr (Nat.succ (Nat.succ g2)) (n2+(List.length [((x1_0,(x1_1,((x1_2_0,(x1_2_1,(x1_2_2,()))),(x1_3,(x1_4,(x1_5,())))))),(x2,()))])) qt0),((List.take n2 l2)++[((x1_0,(x1_1,((x1_2_0,(x1_2_1,(x1_2_2,()))),(x1_3,(x1_4,(x1_5,())))))),(x2,()))])⟩,[]⟩)]))))))))))):EvF PP orc 66 [.op (0,0) [],.tv [] qt14 (x1_0,(x1_1,((x1_2_0,(x1_2_1,(x1_2_2,()))),(x1_3,(x1_4,(x1_5,())))))),.tv [] (.int .i64) x2] (hq18 g2 n2 o0_2 o0_0_0 o0_0_1 o0_0_2 l2) Q:=vc_of (by kernel_rfl) h
theorem vc67 (x1:Int) (o0_0:Int) (o0_1:Int) (o0_2:Int) (Q:AV→Heap→Prop) (h :
((((decide (x1<0))=true) →
 (Q (.tv [] (.int .i64) (1:Int)) (hq0 o0_0 o0_1 o0_2))) ∧
 (((decide (x1<0))=false) →
 (Need ((-9223372036854775808≤(o0_0-o0_1))∧((o0_0-o0_1)≤9223372036854775807)) ∧
 ((((decide ((o0_0-o0_1)<x1))=true) →
 (Q (.tv [] (.int .i64) (5:Int)) (hq0 o0_0 o0_1 o0_2))) ∧
 (((decide ((o0_0-o0_1)<x1))=false) →
 (Need ((-9223372036854775808≤(o0_1+x1))∧((o0_1+x1)≤9223372036854775807)) ∧
 ((((decide (o0_2<(o0_1+x1)))=true) →
 (Q (.tv [] (.int .i64) (0:Int)) [((0,0),⟨⟨qt4,(o0_0,((o0_1+x1),((o0_1+x1),())))⟩,[]⟩)])) ∧
 (((decide (o0_2<(o0_1+x1)))=false) →
 (Q (.tv [] (.int .i64) (0:Int)) [((0,0),⟨⟨qt4,(o0_0,((o0_1+x1),(o0_2,())))⟩,[]⟩)])))))))))):EvF PP orc 67 [.op (0,0) [],.tv [] (.int .i64) x1] (hq0 o0_0 o0_1 o0_2) Q:=vc_of (by kernel_rfl) h
theorem vc68 (x0:List (Int)) (x1:Int) (Q:AV→Heap→Prop) (h :
(∃ y0:Int,
 (Need (E 100 [(.tv [] qt7 x0),(.tv [] (.int .i64) x1)] [] (.tv [] (.int .i64) y0) []) ∧
 (Q (.tv [] .bool (decide (0≤y0))) [])))):EvF PP orc 68 [.tv [] qt7 x0,.tv [] (.int .i64) x1] [] Q:=vc_of (by kernel_rfl) h
theorem vc70 (x1:Int) (x2_0:Int) (x2_1:Int) (x2_2_0:Int) (x2_2_1:Int) (x2_2_2:Int) (x2_3:List (Int)) (x2_4:Bool) (x2_5:Bool) (g2:Nat) (l2:List (((Int×(Int×((Int×(Int×(Int×Unit)))×(List (Int)×(Bool×(Bool×Unit))))))×(Int×Unit)))) (n2:Nat) (o0_2:Int) (o0_0_0:Int) (o0_0_1:Int) (o0_0_2:Int) (Q:AV→Heap→Prop) (h :
(∃ y0:Bool,
 (Need (E 76 [(.op (0,0) []),(.tv [] (.int .i64) x1)] (hq5 g2 n2 o0_2 o0_0_0 o0_0_1 o0_0_2 l2) (.tv [] .bool y0) (hq5 g2 n2 o0_2 o0_0_0 o0_0_1 o0_0_2 l2)) ∧
 ((((!y0)=true) →
 (Q (.tv [] .bool false) (hq5 g2 n2 o0_2 o0_0_0 o0_0_1 o0_0_2 l2))) ∧
 (((!y0)=false) →
 (Need ((0≤x1)∧(x1<(n2:Int))) ∧
 (Need (g2=g2) ∧
 (Need ((0+x1.toNat)<l2.length) ∧
 (Need (g2=g2) ∧
 (Need ((0+x1.toNat)<l2.length) ∧
 (Q (.tv [] .bool true) [((0,0),⟨⟨qt3,((some (0,1)),((some ((0,2),(g2,(0,n2)))),(o0_2,())))⟩,[]⟩),((0,1),⟨⟨qt4,(o0_0_0,(o0_0_1,(o0_0_2,())))⟩,[]⟩),((0,2),⟨⟨(.arr (Nat.succ g2) l2.length qt0),(List.set l2 (0+x1.toNat) ((x2_0,(x2_1,((x2_2_0,(x2_2_1,(x2_2_2,()))),(x2_3,(x2_4,(x2_5,())))))),(List.getD l2 (0+x1.toNat) (((0:Int),((0:Int),(((0:Int),((0:Int),((0:Int),()))),([],(false,(false,())))))),((0:Int),()))).2))⟩,[]⟩)]))))))))))):EvF PP orc 70 [.op (0,0) [],.tv [] (.int .i64) x1,.tv [] qt14 (x2_0,(x2_1,((x2_2_0,(x2_2_1,(x2_2_2,()))),(x2_3,(x2_4,(x2_5,()))))))] (hq18 g2 n2 o0_2 o0_0_0 o0_0_1 o0_0_2 l2) Q:=vc_of (by kernel_rfl) h
theorem vc71 (x0:List (Int)) (x1:Int) (Q:AV→Heap→Prop) (h :
(∃ y0:(Int→Prop),
 (∃ y1:(Int→Nat),
 ((y0 (0:Int)) ∧
 (∀ z2:Int,
 ((y0 z2) →
 ((((decide (z2<(x0.length:Int)))=true) →
 (Need ((0≤z2)∧(z2<(x0.length:Int))) ∧
 ((((decide ((List.getD x0 z2.toNat (0:Int))=x1))=true) →
 (Q (.tv [] .bool true) [])) ∧
 (((decide ((List.getD x0 z2.toNat (0:Int))=x1))=false) →
 (Need ((-9223372036854775808≤(z2+1))∧((z2+1)≤9223372036854775807)) ∧
 ((y0 (z2+1)) ∧
  Need ((y1 (z2+1))<(y1 z2)))))))) ∧
 (((decide (z2<(x0.length:Int)))=false) →
 (Q (.tv [] .bool false) []))))))))):EvF PP orc 71 [.tv [] qt7 x0,.tv [] (.int .i64) x1] [] Q:=vc_of (by kernel_rfl) h
theorem vc72 (x0:XT) (Q:AV→Heap→Prop) (h :
((((decide ((XT.kind x0)<(1:Int)))=true) →
 (Q (.tv [] .bool false) [])) ∧
 (((decide ((XT.kind x0)<(1:Int)))=false) →
 ((((decide ((9:Int)<(XT.kind x0)))=true) →
 (Q (.tv [] .bool false) [])) ∧
 (((decide ((9:Int)<(XT.kind x0)))=false) →
 ((((decide ((XT.num x0)<(0:Int)))=true) →
 (Q (.tv [] .bool false) [])) ∧
 (((decide ((XT.num x0)<(0:Int)))=false) →
 ((((decide ((999999999999999999:Int)<(XT.num x0)))=true) →
 (Q (.tv [] .bool false) [])) ∧
 (((decide ((999999999999999999:Int)<(XT.num x0)))=false) →
 ((((decide ((XT.kind x0)=(4:Int)))=true) →
 ((((decide ((4:Int)<(XT.kind x0)))=true) →
 ((((decide (((List.length (XT.kids x0)):Int)≠(2:Int)))=true) →
 (Q (.tv [] .bool false) [])) ∧
 (((decide (((List.length (XT.kids x0)):Int)≠(2:Int)))=false) →
 ((((decide ((0:Int)<(2:Int)))=true) →
 ((((decide ((XT.num x0)≠(0:Int)))=true) →
 (Q (.tv [] .bool false) [])) ∧
 (((decide ((XT.num x0)≠(0:Int)))=false) →
 (∃ y15:(Int→Prop),
 (∃ y16:(Int→Nat),
 ((y15 (0:Int)) ∧
 (∀ z17:Int,
 ((y15 z17) →
 ((((decide (z17<2))=true) →
 (Need ((0≤z17)∧(z17<((List.length (XT.kids x0)):Int))) ∧
 (∃ y20:Bool,
 (Need (E 72 [(.tv [] .expr (List.getD (XT.kids x0) z17.toNat (XT.mk (0:Int) (0:Int) [])))] [] (.tv [] .bool y20) []) ∧
 ((((!y20)=true) →
 (Q (.tv [] .bool false) [])) ∧
 (((!y20)=false) →
 (Need ((-9223372036854775808≤(z17+1))∧((z17+1)≤9223372036854775807)) ∧
 (Need (x0=x0) ∧
 ((y15 (z17 + 1)) ∧
     Need ((y16 (z17+1))<(y16 z17))))))))))) ∧
 (((decide (z17<2))=false) →
 (Q (.tv [] .bool true) []))))))))))) ∧
 (((decide ((0:Int)<(2:Int)))=false) →
 (∃ y25:(Int→Prop),
 (∃ y26:(Int→Nat),
 ((y25 (0:Int)) ∧
 (∀ z27:Int,
 ((y25 z27) →
 ((((decide (z27<2))=true) →
 (Need ((0≤z27)∧(z27<((List.length (XT.kids x0)):Int))) ∧
 (∃ y30:Bool,
 (Need (E 72 [(.tv [] .expr (List.getD (XT.kids x0) z27.toNat (XT.mk (0:Int) (0:Int) [])))] [] (.tv [] .bool y30) []) ∧
 ((((!y30)=true) →
 (Q (.tv [] .bool false) [])) ∧
 (((!y30)=false) →
 (Need ((-9223372036854775808≤(z27+1))∧((z27+1)≤9223372036854775807)) ∧
 (Need (x0=x0) ∧
 ((y25 (z27 + 1)) ∧
    Need ((y26 (z27+1))<(y26 z27))))))))))) ∧
 (((decide (z27<2))=false) →
 (Q (.tv [] .bool true) []))))))))))))) ∧
 (((decide ((4:Int)<(XT.kind x0)))=false) →
 ((((decide (((List.length (XT.kids x0)):Int)≠(1:Int)))=true) →
 (Q (.tv [] .bool false) [])) ∧
 (((decide (((List.length (XT.kids x0)):Int)≠(1:Int)))=false) →
 ((((decide ((0:Int)<(1:Int)))=true) →
 ((((decide ((XT.num x0)≠(0:Int)))=true) →
 (Q (.tv [] .bool false) [])) ∧
 (((decide ((XT.num x0)≠(0:Int)))=false) →
 (∃ y40:(Int→Prop),
 (∃ y41:(Int→Nat),
 ((y40 (0:Int)) ∧
 (∀ z42:Int,
 ((y40 z42) →
 ((((decide (z42<1))=true) →
 (Need ((0≤z42)∧(z42<((List.length (XT.kids x0)):Int))) ∧
 (∃ y45:Bool,
 (Need (E 72 [(.tv [] .expr (List.getD (XT.kids x0) z42.toNat (XT.mk (0:Int) (0:Int) [])))] [] (.tv [] .bool y45) []) ∧
 ((((!y45)=true) →
 (Q (.tv [] .bool false) [])) ∧
 (((!y45)=false) →
 (Need ((-9223372036854775808≤(z42+1))∧((z42+1)≤9223372036854775807)) ∧
 (Need (x0=x0) ∧
 ((y40 (z42 + 1)) ∧
    Need ((y41 (z42+1))<(y41 z42))))))))))) ∧
 (((decide (z42<1))=false) →
 (Q (.tv [] .bool true) []))))))))))) ∧
 (((decide ((0:Int)<(1:Int)))=false) →
 (∃ y50:(Int→Prop),
 (∃ y51:(Int→Nat),
 ((y50 (0:Int)) ∧
 (∀ z52:Int,
 ((y50 z52) →
 ((((decide (z52<1))=true) →
 (Need ((0≤z52)∧(z52<((List.length (XT.kids x0)):Int))) ∧
 (∃ y55:Bool,
 (Need (E 72 [(.tv [] .expr (List.getD (XT.kids x0) z52.toNat (XT.mk (0:Int) (0:Int) [])))] [] (.tv [] .bool y55) []) ∧
 ((((!y55)=true) →
 (Q (.tv [] .bool false) [])) ∧
 (((!y55)=false) →
 (Need ((-9223372036854775808≤(z52+1))∧((z52+1)≤9223372036854775807)) ∧
 (Need (x0=x0) ∧
 ((y50 (z52+1)) ∧
   Need ((y51 (z52+1))<(y51 z52))))))))))) ∧
 (((decide (z52<1))=false) →
 (Q (.tv [] .bool true) []))))))))))))))) ∧
 (((decide ((XT.kind x0)=(4:Int)))=false) →
 ((((decide ((4:Int)<(XT.kind x0)))=true) →
 ((((decide (((List.length (XT.kids x0)):Int)≠(2:Int)))=true) →
 (Q (.tv [] .bool false) [])) ∧
 (((decide (((List.length (XT.kids x0)):Int)≠(2:Int)))=false) →
 ((((decide ((0:Int)<(2:Int)))=true) →
 ((((decide ((XT.num x0)≠(0:Int)))=true) →
 (Q (.tv [] .bool false) [])) ∧
 (((decide ((XT.num x0)≠(0:Int)))=false) →
 (∃ y66:(Int→Prop),
 (∃ y67:(Int→Nat),
 ((y66 (0:Int)) ∧
 (∀ z68:Int,
 ((y66 z68) →
 ((((decide (z68<2))=true) →
 (Need ((0≤z68)∧(z68<((List.length (XT.kids x0)):Int))) ∧
 (∃ y71:Bool,
 (Need (E 72 [(.tv [] .expr (List.getD (XT.kids x0) z68.toNat (XT.mk (0:Int) (0:Int) [])))] [] (.tv [] .bool y71) []) ∧
 ((((!y71)=true) →
 (Q (.tv [] .bool false) [])) ∧
 (((!y71)=false) →
 (Need ((-9223372036854775808≤(z68+1))∧((z68+1)≤9223372036854775807)) ∧
 (Need (x0=x0) ∧
 ((y66 (z68 + 1)) ∧
    Need ((y67 (z68+1))<(y67 z68))))))))))) ∧
 (((decide (z68<2))=false) →
 (Q (.tv [] .bool true) []))))))))))) ∧
 (((decide ((0:Int)<(2:Int)))=false) →
 (∃ y76:(Int→Prop),
 (∃ y77:(Int→Nat),
 ((y76 (0:Int)) ∧
 (∀ z78:Int,
 ((y76 z78) →
 ((((decide (z78<2))=true) →
 (Need ((0≤z78)∧(z78<((List.length (XT.kids x0)):Int))) ∧
 (∃ y81:Bool,
 (Need (E 72 [(.tv [] .expr (List.getD (XT.kids x0) z78.toNat (XT.mk (0:Int) (0:Int) [])))] [] (.tv [] .bool y81) []) ∧
 ((((!y81)=true) →
 (Q (.tv [] .bool false) [])) ∧
 (((!y81)=false) →
 (Need ((-9223372036854775808≤(z78+1))∧((z78+1)≤9223372036854775807)) ∧
 (Need (x0=x0) ∧
 ((y76 (z78+1)) ∧
   Need ((y77 (z78+1))<(y77 z78))))))))))) ∧
 (((decide (z78<2))=false) →
 (Q (.tv [] .bool true) []))))))))))))) ∧
 (((decide ((4:Int)<(XT.kind x0)))=false) →
 ((((decide (((List.length (XT.kids x0)):Int)≠(0:Int)))=true) →
 (Q (.tv [] .bool false) [])) ∧
 (((decide (((List.length (XT.kids x0)):Int)≠(0:Int)))=false) →
 ((((decide ((0:Int)<(0:Int)))=true) →
 ((((decide ((XT.num x0)≠(0:Int)))=true) →
 (Q (.tv [] .bool false) [])) ∧
 (((decide ((XT.num x0)≠(0:Int)))=false) →
 (∃ y91:(Int→Prop),
 (∃ y92:(Int→Nat),
 ((y91 (0:Int)) ∧
 (∀ z93:Int,
 ((y91 z93) →
 ((((decide (z93<0))=true) →
 (Need ((0≤z93)∧(z93<((List.length (XT.kids x0)):Int))) ∧
 (∃ y96:Bool,
 (Need (E 72 [(.tv [] .expr (List.getD (XT.kids x0) z93.toNat (XT.mk (0:Int) (0:Int) [])))] [] (.tv [] .bool y96) []) ∧
 ((((!y96)=true) →
 (Q (.tv [] .bool false) [])) ∧
 (((!y96)=false) →
 (Need ((-9223372036854775808≤(z93+1))∧((z93+1)≤9223372036854775807)) ∧
 (Need (x0=x0) ∧
 ((y91 (z93+1)) ∧
   Need ((y92 (z93+1))<(y92 z93))))))))))) ∧
 (((decide (z93<0))=false) →
 (Q (.tv [] .bool true) []))))))))))) ∧
 (((decide ((0:Int)<(0:Int)))=false) →
 (∃ y101:(Int→Prop),
 (∃ y102:(Int→Nat),
 ((y101 (0:Int)) ∧
 (∀ z103:Int,
 ((y101 z103) →
 ((((decide (z103<0))=true) →
 (Need ((0≤z103)∧(z103<((List.length (XT.kids x0)):Int))) ∧
 (∃ y106:Bool,
 (Need (E 72 [(.tv [] .expr (List.getD (XT.kids x0) z103.toNat (XT.mk (0:Int) (0:Int) [])))] [] (.tv [] .bool y106) []) ∧
 ((((!y106)=true) →
 (Q (.tv [] .bool false) [])) ∧
 (((!y106)=false) →
 (Need ((-9223372036854775808≤(z103+1))∧((z103+1)≤9223372036854775807)) ∧
 (Need (x0=x0) ∧
 ((y101 (z103+1)) ∧
  Need ((y102 (z103+1))<(y102 z103))))))))))) ∧
 (((decide (z103<0))=false) →
 (Q (.tv [] .bool true) []))))))))))))))))))))))))):EvF PP orc 72 [.tv [] .expr x0] [] Q:=vc_of (by kernel_rfl) h
end Go.Am.Z
