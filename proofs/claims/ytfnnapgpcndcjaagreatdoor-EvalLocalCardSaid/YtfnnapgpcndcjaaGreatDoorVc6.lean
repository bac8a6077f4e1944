/-
  A part of the proof of a law: see the text that states it.
-/
import Derived.Test.YtfnnapgpcndcjaaGreatDoorHead
set_option linter.all false
namespace Go.Am.Z
open Go
set_option maxRecDepth 100000
set_option maxHeartbeats 4000000
theorem vc31 (x0_0:List ((List Int×((List Int×(List Int×(Bool×Unit)))×Unit)))) (x0_1:List ((List Int×(List Int×(Bool×Unit))))) (g0:Nat) (l0:List ((Int×(List qT3×Unit)))) (x0_3:List Int) (x0_4:List ((List Int×(List qT3×(List Int×(List Int×Unit)))))) (Q:AV→Heap→Prop) (h :
(∃ y0:Bool,
 (∃ y1:Nat,
 (∃ y2:qT2,
 (Need (E 61 [(.tv [] qt5 (x0_0,(x0_1,((some ((0,0),(g0,(0,l0.length)))),(x0_3,(x0_4,()))))))] (hq2 g0 l0) (.tv [] .bool y0) (hq2 y1 y2)) ∧
 ((((!y0)=true) →
 (Q (.tup [(.tv [] qt6 ([],([],([],([],([],([],()))))))),(.tv [] (.int .i64) (1:Int)),(.tv [] .str (List.map (fun v4=>(((BitVec.toNat (UInt8.toBitVec v4)):Nat):Int)) []))]) (hq2 y1 y2))) ∧
 (((!y0)=false) →
 (∃ y6:(Int→(qT8→(qT8→(qT5→(qT3→(qT3→(qT8→(qT8→(qT8→(qT5→(qT3→(qT3→(qT8→(Int→(qT2→Prop))))))))))))))),
 (∃ y7:(Int→(qT8→(qT8→(qT5→(qT3→(qT3→(qT8→(qT8→(qT8→(qT5→(qT3→(qT3→(qT8→(Int→(qT2→Nat))))))))))))))),
 (Need (y2.length=y2.length) ∧
 ((y6 (0:Int) [(List.map (fun v8=>(((BitVec.toNat (UInt8.toBitVec v8)):Nat):Int)) [(36:UInt8),(101:UInt8),(110:UInt8),(100:UInt8)])] [] [] [(0:Int)] [(0:Int)] [(List.map (fun v9=>(((BitVec.toNat (UInt8.toBitVec v9)):Nat):Int)) [])] [] [] [] [] [] [] (y1:Int) y2) ∧
 (∀ z10:Int,
 (∀ z11 z12:qT8,
 (∀ z13:qT5,
 (∀ z14 z15:qT3,
 (∀ z16 z17 z18:qT8,
 (∀ z19:qT5,
 (∀ z20 z21:qT3,
 (∀ z22:qT8,
 (∀ z23:Int,
 (∀ z24:qT2,
 ((y6 z10 z11 z12 z13 z14 z15 z16 z17 z18 z19 z20 z21 z22 z23 z24) →
 ((((decide (z10<(x0_4.length:Int)))=true) →
 (Need ((0≤z10)∧(z10<(x0_4.length:Int))) ∧
 (∃ y27:Int,
 (Need (E 62 [(.tv [] (.slice .str) z12),(.tv [] .str (List.getD x0_4 z10.toNat ([],([],([],([],()))))).1)] [] (.tv [] (.int .i64) y27) []) ∧
 ((((decide (y27<0))=true) →
 (Need ((0≤z10)∧(z10<(x0_4.length:Int))) ∧
 (Need ((z12.length+(List.length [(List.getD x0_4 z10.toNat ([],([],([],([],()))))).1]))≤bigN) ∧
 (Need ((0≤z10)∧(z10<(x0_4.length:Int))) ∧
 (Need ((z16.length+(List.length [(List.getD x0_4 z10.toNat ([],([],([],([],()))))).2.2.2.1]))≤bigN) ∧
 (Need ((-9223372036854775808≤(z10+1))∧((z10+1)≤9223372036854775807)) ∧
 (Need (((x0_0,(x0_1,((some ((0,0),(g0,(0,l0.length)))),(x0_3,(x0_4,())))))=(x0_0,(x0_1,((some ((0,0),(g0,(0,l0.length)))),(x0_3,(x0_4,()))))))∧(z24.length=z24.length)) ∧
 ((y6 (z10+1) z11 (z12++[(List.getD x0_4 z10.toNat ([],([],([],([],()))))).1]) z13 z14 z15 (z16++[(List.getD x0_4 z10.toNat ([],([],([],([],()))))).2.2.2.1]) z17 z18 z19 z20 z21 z22 (z23.toNat:Int) z24) ∧
   Need ((y7 (z10+1) z11 (z12++[(List.getD x0_4 z10.toNat ([],([],([],([],()))))).1]) z13 z14 z15 (z16++[(List.getD x0_4 z10.toNat ([],([],([],([],()))))).2.2.2.1]) z17 z18 z19 z20 z21 z22 (z23.toNat:Int) z24)<(y7 z10 z11 z12 z13 z14 z15 z16 z17 z18 z19 z20 z21 z22 z23 z24)))))))))) ∧
 (((decide (y27<0))=false) →
 (Need ((0≤z10)∧(z10<(x0_4.length:Int))) ∧
 (Need ((z16.length+(List.length [(List.getD x0_4 z10.toNat ([],([],([],([],()))))).2.2.2.1]))≤bigN) ∧
 (Need ((-9223372036854775808≤(z10+1))∧((z10+1)≤9223372036854775807)) ∧
 (Need (((x0_0,(x0_1,((some ((0,0),(g0,(0,l0.length)))),(x0_3,(x0_4,())))))=(x0_0,(x0_1,((some ((0,0),(g0,(0,l0.length)))),(x0_3,(x0_4,()))))))∧(z24.length=z24.length)) ∧
 ((y6 (z10+1) z11 z12 z13 z14 z15 (z16++[(List.getD x0_4 z10.toNat ([],([],([],([],()))))).2.2.2.1]) z17 z18 z19 z20 z21 z22 (z23.toNat:Int) z24) ∧
  Need ((y7 (z10+1) z11 z12 z13 z14 z15 (z16++[(List.getD x0_4 z10.toNat ([],([],([],([],()))))).2.2.2.1]) z17 z18 z19 z20 z21 z22 (z23.toNat:Int) z24)<(y7 z10 z11 z12 z13 z14 z15 z16 z17 z18 z19 z20 z21 z22 z23 z24))))))))))))) ∧
 (((decide (z10<(x0_4.length:Int)))=false) →
 (∃ y31:(Int→(qT8→(qT8→(qT5→(qT3→(qT3→(qT8→(qT8→(qT8→(qT5→(qT3→(qT3→(qT8→(Int→(qT2→Prop))))))))))))))),
 (∃ y32:(Int→(qT8→(qT8→(qT5→(qT3→(qT3→(qT8→(qT8→(qT8→(qT5→(qT3→(qT3→(qT8→(Int→(qT2→Nat))))))))))))))),
 (Need (z24.length=z24.length) ∧
 ((y31 (0:Int) z11 z12 z13 z14 z15 z16 z17 z18 z19 z20 z21 z22 (z23.toNat:Int) z24) ∧
 (∀ z33:Int,
 (∀ z34 z35:qT8,
 (∀ z36:qT5,
 (∀ z37 z38:qT3,
 (∀ z39 z40 z41:qT8,
 (∀ z42:qT5,
 (∀ z43 z44:qT3,
 (∀ z45:qT8,
 (∀ z46:Int,
 (∀ z47:qT2,
 ((y31 z33 z34 z35 z36 z37 z38 z39 z40 z41 z42 z43 z44 z45 z46 z47) →
 ((((decide (z33<(x0_0.length:Int)))=true) →
 (Need ((0≤z33)∧(z33<(x0_0.length:Int))) ∧
 (∃ y50:Int,
 (Need (E 62 [(.tv [] (.slice .str) z35),(.tv [] .str (List.getD x0_0 z33.toNat (([]:List Int),(([],([],(false,()))),()))).1)] [] (.tv [] (.int .i64) y50) []) ∧
 ((((decide (0≤y50))=true) →
 (Need ((0≤z33)∧(z33<(x0_0.length:Int))) ∧
   False)) ∧
 (((decide (0≤y50))=false) →
 (Need ((0≤z33)∧(z33<(x0_0.length:Int))) ∧
 (Need ((z34.length+(List.length [(List.getD x0_0 z33.toNat (([]:List Int),(([],([],(false,()))),()))).1]))≤bigN) ∧
 (Need ((0≤z33)∧(z33<(x0_0.length:Int))) ∧
 (∃ y53:Int,
 (∃ y54:Nat,
 (∃ y55:qT2,
 (Need (E 63 [(.tv [] qt5 (x0_0,(x0_1,((some ((0,0),(g0,(0,l0.length)))),(x0_3,(x0_4,())))))),(.tv [] .str (List.getD x0_0 z33.toNat (([]:List Int),(([],([],(false,()))),()))).1)] (hq2 z46.toNat z47) (.tv [] (.int .i64) y53) (hq2 y54 y55)) ∧
 (Need ((z37.length+(List.length [y53]))≤bigN) ∧
 (Need ((-9223372036854775808≤(z33+1))∧((z33+1)≤9223372036854775807)) ∧
 (Need (((x0_0,(x0_1,((some ((0,0),(g0,(0,l0.length)))),(x0_3,(x0_4,())))))=(x0_0,(x0_1,((some ((0,0),(g0,(0,l0.length)))),(x0_3,(x0_4,()))))))∧(y55.length=y55.length)) ∧
 ((y31 (z33+1) (z34++[(List.getD x0_0 z33.toNat (([]:List Int),(([],([],(false,()))),()))).1]) z35 z36 (z37++[y53]) z38 z39 z40 z41 z42 z43 z44 z45 (y54:Int) y55) ∧
  Need ((y32 (z33+1) (z34++[(List.getD x0_0 z33.toNat (([]:List Int),(([],([],(false,()))),()))).1]) z35 z36 (z37++[y53]) z38 z39 z40 z41 z42 z43 z44 z45 (y54:Int) y55)<(y32 z33 z34 z35 z36 z37 z38 z39 z40 z41 z42 z43 z44 z45 z46 z47))))))))))))))))))) ∧
 (((decide (z33<(x0_0.length:Int)))=false) →
 (∃ y57:(Int→(qT8→(qT8→(qT5→(qT3→(qT3→(qT8→(qT8→(qT8→(qT5→(qT3→(qT3→(qT8→(Int→(qT2→Prop))))))))))))))),
 (∃ y58:(Int→(qT8→(qT8→(qT5→(qT3→(qT3→(qT8→(qT8→(qT8→(qT5→(qT3→(qT3→(qT8→(Int→(qT2→Nat))))))))))))))),
 (Need (z47.length=z47.length) ∧
 ((y57 (0:Int) z34 z35 z36 z37 z38 z39 z40 z41 z42 z43 z44 z45 (z46.toNat:Int) z47) ∧
 (∀ z59:Int,
 (∀ z60 z61:qT8,
 (∀ z62:qT5,
 (∀ z63 z64:qT3,
 (∀ z65 z66 z67:qT8,
 (∀ z68:qT5,
 (∀ z69 z70:qT3,
 (∀ z71:qT8,
 (∀ z72:Int,
 (∀ z73:qT2,
 ((y57 z59 z60 z61 z62 z63 z64 z65 z66 z67 z68 z69 z70 z71 z72 z73) →
 ((((decide (z59<(l0.length:Int)))=true) →
 (Need ((0≤z59)∧(z59<(l0.length:Int))) ∧
 (Need (z72.toNat=g0) ∧
 (Need ((0+z59.toNat)<z73.length) ∧
 (Need (z72.toNat=g0) ∧
 (Need ((0+z59.toNat)<z73.length) ∧
 (Need ((z64.length+(List.length [(List.getD z73 (0+z59.toNat) ((0:Int),([],()))).1]))≤bigN) ∧
 (Need ((-9223372036854775808≤(z59+1))∧((z59+1)≤9223372036854775807)) ∧
 (Need (((x0_0,(x0_1,((some ((0,0),(g0,(0,l0.length)))),(x0_3,(x0_4,())))))=(x0_0,(x0_1,((some ((0,0),(g0,(0,l0.length)))),(x0_3,(x0_4,()))))))∧(z73.length=z73.length)) ∧
 ((y57 (z59+1) z60 z61 z62 z63 (z64++[(List.getD z73 (0+z59.toNat) ((0:Int),([],()))).1]) z65 z66 z67 z68 z69 z70 z71 (z72.toNat:Int) z73) ∧
  Need ((y58 (z59+1) z60 z61 z62 z63 (z64++[(List.getD z73 (0+z59.toNat) ((0:Int),([],()))).1]) z65 z66 z67 z68 z69 z70 z71 (z72.toNat:Int) z73)<(y58 z59 z60 z61 z62 z63 z64 z65 z66 z67 z68 z69 z70 z71 z72 z73)))))))))))) ∧
 (((decide (z59<(l0.length:Int)))=false) →
 (Need ((-9223372036854775808≤((z60.length:Int)+(z61.length:Int)))∧(((z60.length:Int)+(z61.length:Int))≤9223372036854775807)) ∧
 (∃ y77:Int,
 (Need (E 64 [(.tv [] qt6 (z60,(z61,(z62,(z63,(z64,(z65,()))))))),(.tv [] .str x0_3)] [] (.tv [] (.int .i64) y77) []) ∧
 (∃ y78:(Int→(qT8→(qT8→(qT5→(qT3→(qT3→(qT8→(qT8→(qT8→(qT5→(qT3→(qT3→(qT8→(Int→(qT2→Prop))))))))))))))),
 (∃ y79:(Int→(qT8→(qT8→(qT5→(qT3→(qT3→(qT8→(qT8→(qT8→(qT5→(qT3→(qT3→(qT8→(Int→(qT2→Nat))))))))))))))),
 (Need (z73.length=z73.length) ∧
 ((y78 (0:Int) z60 z61 [(((z60.length:Int)+(z61.length:Int)),([y77],((0:Int),())))] z63 z64 z65 z66 z67 z68 z69 z70 z71 (z72.toNat:Int) z73) ∧
 (∀ z80:Int,
 (∀ z81 z82:qT8,
 (∀ z83:qT5,
 (∀ z84 z85:qT3,
 (∀ z86 z87 z88:qT8,
 (∀ z89:qT5,
 (∀ z90 z91:qT3,
 (∀ z92:qT8,
 (∀ z93:Int,
 (∀ z94:qT2,
 ((y78 z80 z81 z82 z83 z84 z85 z86 z87 z88 z89 z90 z91 z92 z93 z94) →
 ((((decide (z80<(x0_4.length:Int)))=true) →
 (Need ((0≤z80)∧(z80<(x0_4.length:Int))) ∧
 (∃ y97:Int,
 (Need (E 64 [(.tv [] qt6 (z81,(z82,(z83,(z84,(z85,(z86,()))))))),(.tv [] .str (List.getD x0_4 z80.toNat ([],([],([],([],()))))).1)] [] (.tv [] (.int .i64) y97) []) ∧
 (∃ y98:(Int→(Int→(qT3→(Int→(qT3→(qT8→(qT3→(qT3→(qT8→(qT8→(qT5→(qT3→(qT3→(qT8→(qT8→(qT8→(qT5→(qT3→(qT3→(qT8→(Int→(qT2→Prop)))))))))))))))))))))),
 (∃ y99:(Int→(Int→(qT3→(Int→(qT3→(qT8→(qT3→(qT3→(qT8→(qT8→(qT5→(qT3→(qT3→(qT8→(qT8→(qT8→(qT5→(qT3→(qT3→(qT8→(Int→(qT2→Nat)))))))))))))))))))))),
 (Need (z94.length=z94.length) ∧
 ((y98 (0:Int) y97 [] (0:Int) (List.getD x0_4 z80.toNat ([],([],([],([],()))))).1 (List.getD x0_4 z80.toNat ([],([],([],([],()))))).2.1 (List.getD x0_4 z80.toNat ([],([],([],([],()))))).2.2.1 (List.getD x0_4 z80.toNat ([],([],([],([],()))))).2.2.2.1 z81 z82 z83 z84 z85 z86 z87 z88 z89 z90 z91 z92 (z93.toNat:Int) z94) ∧
 (∀ z100 z101:Int,
 (∀ z102:qT3,
 (∀ z103:Int,
 (∀ z104:qT3,
 (∀ z105:qT8,
 (∀ z106 z107:qT3,
 (∀ z108 z109:qT8,
 (∀ z110:qT5,
 (∀ z111 z112:qT3,
 (∀ z113 z114 z115:qT8,
 (∀ z116:qT5,
 (∀ z117 z118:qT3,
 (∀ z119:qT8,
 (∀ z120:Int,
 (∀ z121:qT2,
 ((y98 z100 z101 z102 z103 z104 z105 z106 z107 z108 z109 z110 z111 z112 z113 z114 z115 z116 z117 z118 z119 z120 z121) →
 ((((decide (z100<(z105.length:Int)))=true) →
 (Need ((0≤z100)∧(z100<(z105.length:Int))) ∧
 (∃ y124:Int,
 (Need (E 64 [(.tv [] qt6 (z108,(z109,(z110,(z111,(z112,(z113,()))))))),(.tv [] .str (List.getD z105 z100.toNat []))] [] (.tv [] (.int .i64) y124) []) ∧
 ((((decide (y124<0))=true) →
 (Need ((0≤z100)∧(z100<(z105.length:Int))) ∧
 (Q (.tup [(.tv [] qt6 ([],([],([],([],([],([],()))))))),(.tv [] (.int .i64) (16:Int)),(.tv [] .str (List.getD z105 z100.toNat []))]) (hq2 z120.toNat z121)))) ∧
 (((decide (y124<0))=false) →
 (Need ((z102.length+(List.length [y124]))≤bigN) ∧
 ((((decide (y124<(z108.length:Int)))=true) →
 (Need ((0≤y124)∧(y124<(z111.length:Int))) ∧
 (Need ((-9223372036854775808≤(z100+1))∧((z100+1)≤9223372036854775807)) ∧
 (Need (((x0_0,(x0_1,((some ((0,0),(g0,(0,l0.length)))),(x0_3,(x0_4,())))))=(x0_0,(x0_1,((some ((0,0),(g0,(0,l0.length)))),(x0_3,(x0_4,()))))))∧(z121.length=z121.length)) ∧
 ((y98 (z100 + 1) z101 (z102 ++ [y124]) (List.getD z111 y124.toNat (0 : Int)) z104 z105 z106 z107 z108 z109 z110 z111 z112 z113 z114 z115 z116 z117 z118 z119 (z120.toNat : Int) z121) ∧
    Need ((y99 (z100+1) z101 (z102++[y124]) (List.getD z111 y124.toNat (0:Int)) z104 z105 z106 z107 z108 z109 z110 z111 z112 z113 z114 z115 z116 z117 z118 z119 (z120.toNat:Int) z121)<(y99 z100 z101 z102 z103 z104 z105 z106 z107 z108 z109 z110 z111 z112 z113 z114 z115 z116 z117 z118 z119 z120 z121))))))) ∧
 (((decide (y124<(z108.length:Int)))=false) →
 (Need ((-9223372036854775808≤(z100+1))∧((z100+1)≤9223372036854775807)) ∧
 (Need (((x0_0,(x0_1,((some ((0,0),(g0,(0,l0.length)))),(x0_3,(x0_4,())))))=(x0_0,(x0_1,((some ((0,0),(g0,(0,l0.length)))),(x0_3,(x0_4,()))))))∧(z121.length=z121.length)) ∧
 ((y98 (z100+1) z101 (z102++[y124]) z103 z104 z105 z106 z107 z108 z109 z110 z111 z112 z113 z114 z115 z116 z117 z118 z119 (z120.toNat:Int) z121) ∧
   Need ((y99 (z100+1) z101 (z102++[y124]) z103 z104 z105 z106 z107 z108 z109 z110 z111 z112 z113 z114 z115 z116 z117 z118 z119 (z120.toNat:Int) z121)<(y99 z100 z101 z102 z103 z104 z105 z106 z107 z108 z109 z110 z111 z112 z113 z114 z115 z116 z117 z118 z119 z120 z121)))))))))))))) ∧
 (((decide (z100<(z105.length:Int)))=false) →
 ((((!(decide (z106=[])))=true) →
 (∃ y131:Int,
 (∃ y132:Nat,
 (∃ y133:qT2,
 (Need (E 63 [(.tv [] qt5 (x0_0,(x0_1,((some ((0,0),(g0,(0,l0.length)))),(x0_3,(x0_4,())))))),(.tv [] .str z106)] (hq2 z120.toNat z121) (.tv [] (.int .i64) y131) (hq2 y132 y133)) ∧
 ((((decide (y131=(0:Int)))=true) →
 (Q (.tup [(.tv [] qt6 ([],([],([],([],([],([],()))))))),(.tv [] (.int .i64) (16:Int)),(.tv [] .str z106)]) (hq2 y132 y133))) ∧
 (((decide (y131=(0:Int)))=false) →
 (Need ((z110.length+(List.length [(z101,(z102,(y131,())))]))≤bigN) ∧
 (Need ((-9223372036854775808≤(z80+1))∧((z80+1)≤9223372036854775807)) ∧
 (Need (((x0_0,(x0_1,((some ((0,0),(g0,(0,l0.length)))),(x0_3,(x0_4,())))))=(x0_0,(x0_1,((some ((0,0),(g0,(0,l0.length)))),(x0_3,(x0_4,()))))))∧(y133.length=y133.length)) ∧
 ((y78 (z80+1) z108 z109 (z110++[(z101,(z102,(y131,())))]) z111 z112 z113 z114 z115 z116 z117 z118 z119 (y132:Int) y133) ∧
   Need ((y79 (z80+1) z108 z109 (z110++[(z101,(z102,(y131,())))]) z111 z112 z113 z114 z115 z116 z117 z118 z119 (y132:Int) y133)<(y79 z80 z81 z82 z83 z84 z85 z86 z87 z88 z89 z90 z91 z92 z93 z94))))))))))))) ∧
 (((!(decide (z106=[])))=false) →
 (Need ((z110.length+(List.length [(z101,(z102,(z103,())))]))≤bigN) ∧
 (Need ((-9223372036854775808≤(z80+1))∧((z80+1)≤9223372036854775807)) ∧
 (Need (((x0_0,(x0_1,((some ((0,0),(g0,(0,l0.length)))),(x0_3,(x0_4,())))))=(x0_0,(x0_1,((some ((0,0),(g0,(0,l0.length)))),(x0_3,(x0_4,()))))))∧(z121.length=z121.length)) ∧
 ((y78 (z80+1) z108 z109 (z110++[(z101,(z102,(z103,())))]) z111 z112 z113 z114 z115 z116 z117 z118 z119 (z120.toNat:Int) z121) ∧
  Need ((y79 (z80+1) z108 z109 (z110++[(z101,(z102,(z103,())))]) z111 z112 z113 z114 z115 z116 z117 z118 z119 (z120.toNat:Int) z121)<(y79 z80 z81 z82 z83 z84 z85 z86 z87 z88 z89 z90 z91 z92 z93 z94)))))))))))))))))))))))))))))))))) ∧
 (((decide (z80<(x0_4.length:Int)))=false) →
 (∃ y138:Int,
 (Need (E 62 [(.tv [] (.slice .str) z82),(.tv [] .str x0_3)] [] (.tv [] (.int .i64) y138) []) ∧
 ((((decide (y138<0))=true) →
 (Q (.tup [(.tv [] qt6 ([],([],([],([],([],([],()))))))),(.tv [] (.int .i64) (16:Int)),(.tv [] .str x0_3)]) (hq2 z93.toNat z94))) ∧
 (((decide (y138<0))=false) →
 (Q (.tup [(.tv [] qt6 (z81,(z82,(z83,(z84,(z85,(z86,()))))))),(.tv [] (.int .i64) (0:Int)),(.tv [] .str (List.map (fun v141=>(((BitVec.toNat (UInt8.toBitVec v141)):Nat):Int)) []))]) (hq2 z93.toNat z94)))))))))))))))))))))))))))))))))))))))))))))))))))))))))))))))))))))))))))))))))))):EvF PP orc 31 [.tv [] qt5 (x0_0,(x0_1,((some ((0,0),g0,0,l0.length)),(x0_3,(x0_4,())))))] (hq22 g0 l0) Q:=vc_of (by kernel_rfl) h
end Go.Am.Z
