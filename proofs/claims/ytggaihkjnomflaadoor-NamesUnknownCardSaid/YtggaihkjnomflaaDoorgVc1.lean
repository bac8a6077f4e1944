/-
  A part of the proof of a law: see the text that states it.
-/
import Derived.Test.YtggaihkjnomflaaDoorAm4
import Derived.Test.YtggaihkjnomflaaDoorgOrc
import Derived.KernelRfl
set_option linter.all false
namespace Go.Am.G
open Go
noncomputable abbrev PP:=Go.Proofs.Tryd.prog
def E (f:FuncId) (args:List AV) (h:Heap) (a:AV) (h':Heap):Prop:=Ev PP orc f args h a h'
noncomputable def sgTab:Nat→List Alt
 | 16=>[((.tv [] qt0 ((zero (.slice (.pair .str (.pair (.pair .str (.pair .str (.pair .bool .unit))) .unit)))),((zero (.slice (.pair .str (.pair .str (.pair .bool .unit))))),((some ((1,0),0,0,0)),(zero (.pair .str (.pair (.slice (.pair .str (.pair (.slice .str) (.pair .str (.pair .str .unit))))) .unit))))))),[((1,0),(Ob.mk (Dat.mk (.arr 1 0 (.pair (.int .i64) (.pair (.slice .str) .unit))) []) []))])]
 | _=>[]
noncomputable def fzTab:Nat→List Key
 | 3=>[(2,0),(6,0)]
 | 4=>[(2,0),(6,0)]
 | 5=>[(2,0),(6,0),(7,0)]
 | 6=>[(4,0),(10,0),(12,0),(16,0)]
 | 7=>[(2,0),(3,0),(4,0),(7,0)]
 | 8=>[(2,0)]
 | 9=>[(2,0),(3,0)]
 | 10=>[(2,0)]
 | 11=>[(3,0)]
 | 12=>[(3,0)]
 | 13=>[(3,0)]
 | 14=>[(3,0)]
 | 15=>[(4,0)]
 | 16=>[(2,0),(3,0)]
 | 18=>[(3,0),(4,0),(6,0)]
 | 19=>[(2,0)]
 | 20=>[(2,0),(3,0)]
 | 22=>[(3,0)]
 | 24=>[(3,0)]
 | 25=>[(4,0),(5,0),(6,0),(7,0)]
 | 29=>[(3,0),(4,0),(11,0)]
 | 30=>[(2,0)]
 | 31=>[(2,0)]
 | 32=>[(2,0)]
 | 33=>[(2,0)]
 | 39=>[(3,0)]
 | 46=>[(59,0),(134,0)]
 | 47=>[(5,0)]
 | 51=>[(5,0)]
 | 57=>[(3,0)]
 | 65=>[(40,0)]
 | 66=>[(74,0)]
 | 67=>[(22,0)]
 | 68=>[(52,0)]
 | 73=>[(3,0)]
 | 80=>[(41,0)]
 | 81=>[(2,0)]
 | 88=>[(11,0)]
 | 89=>[(7,0)]
 | 94=>[(4,0),(6,0),(9,0),(32,0),(44,0)]
 | 95=>[(4,0),(6,0),(18,0)]
 | 96=>[(4,0),(20,0)]
 | 97=>[(4,0),(15,0)]
 | 101=>[(3,0)]
 | _=>[]
noncomputable def sg:Sig:=⟨sgTab,fzTab,fun _=>false⟩
theorem ev_of {f:FuncId} {args:List AV} {h:Heap} {a:AV} {h':Heap} (e:EvF PP orc f args h fun a' h''=>a'=a∧h''=h'):E f args h a h':=by
 obtain ⟨a',h'',e,rfl,rfl⟩:=e
 exact e
theorem vc_of {f:FuncId} {args:List AV} {h:Heap} {Q:AV→Heap→Prop} {p:Prop} (e:p=vcF PP orc sg f args h Q) (hp:p):EvF PP orc f args h Q:=vcF_ok (sg:=sg) (Eq.mp e hp)
end Go.Am.G
namespace Go.Am.G
open Go
set_option maxRecDepth 100000
set_option maxHeartbeats 4000000
theorem vc16 (x0_0:Int) (x0_1:Int) (x0_2:List (Int)) (x0_3:List (List (Int))) (x0_4:List (Int)) (x0_5:List (Int)) (x0_6:List (Int)) (Q:AV→Heap→Prop) (h :
(Need ((5:Int)≠(0:Int)) ∧
 (Need (¬ ((IntKind.u8=IntKind.u8)∧(¬ ((0≤x0_0)∧((x0_0<256)∧((0:Int)<(5:Int))))))) ∧
 (Need ((-9223372036854775808≤(Int.tmod x0_0 (5:Int)))∧((Int.tmod x0_0 (5:Int))≤9223372036854775807)) ∧
 (Need ((-9223372036854775808≤((Int.tmod x0_0 (5:Int))+(1:Int)))∧(((Int.tmod x0_0 (5:Int))+(1:Int))≤9223372036854775807)) ∧
 (Need ((4:Int)≠(0:Int)) ∧
 (Need (¬ ((IntKind.u8=IntKind.u8)∧(¬ ((0≤x0_1)∧((x0_1<256)∧((0:Int)<(4:Int))))))) ∧
 (Need ((-9223372036854775808≤(Int.tmod x0_1 (4:Int)))∧((Int.tmod x0_1 (4:Int))≤9223372036854775807)) ∧
 (Need ((-9223372036854775808≤((Int.tmod x0_1 (4:Int))+(1:Int)))∧(((Int.tmod x0_1 (4:Int))+(1:Int))≤9223372036854775807)) ∧
 (∃ y0:(Int→(qT3→((List qT1)→(Int→(Int→((List Int)→(qT2→(Int→(qT0→(Int→(qT0→(Int→(qT0→Prop))))))))))))),
 (∃ y1:(Int→(qT3→((List qT1)→(Int→(Int→((List Int)→(qT2→(Int→(qT0→(Int→(qT0→(Int→(qT0→Nat))))))))))))),
 (Need ((0=0)∧((0=0)∧(0=0))) ∧
 ((y0 (0:Int) [] [] ((0:Nat):Int) ((0:Nat):Int) (List.map (fun v2=>(((BitVec.toNat (UInt8.toBitVec v2)):Nat):Int)) [(83:UInt8)]) [] ((0:Nat):Int) [] ((0:Nat):Int) [] ((0:Nat):Int) []) ∧
 (∀ z3:Int,
 (∀ z4:qT3,
 (∀ z5:(List qT1),
 (∀ z6 z7:Int,
 (∀ z8:(List Int),
 (∀ z9:qT2,
 (∀ z10:Int,
 (∀ z11:qT0,
 (∀ z12:Int,
 (∀ z13:qT0,
 (∀ z14:Int,
 (∀ z15:qT0,
 ((y0 z3 z4 z5 z6 z7 z8 z9 z10 z11 z12 z13 z14 z15) →
 ((((decide (z3<(x0_5.length:Int)))=true) →
 (Need ((0≤z3)∧(z3<(x0_5.length:Int))) ∧
 (Need ((3:Int)≠(0:Int)) ∧
 (Need (¬ ((IntKind.u8=IntKind.u8)∧(¬ (((0:Int)≤(List.getD x0_5 z3.toNat (0:Int)))∧(((List.getD x0_5 z3.toNat (0:Int))<(256:Int))∧((0:Int)<(3:Int))))))) ∧
 (Need ((-9223372036854775808≤(Int.tmod (List.getD x0_5 z3.toNat (0:Int)) (3:Int)))∧((Int.tmod (List.getD x0_5 z3.toNat (0:Int)) (3:Int))≤9223372036854775807)) ∧
 (Need ((-9223372036854775808≤((Int.tmod (List.getD x0_5 z3.toNat (0:Int)) (3:Int))+(1:Int)))∧(((Int.tmod (List.getD x0_5 z3.toNat (0:Int)) (3:Int))+(1:Int))≤9223372036854775807)) ∧
 (Need ((-9223372036854775808≤(z3+1))∧((z3+1)≤9223372036854775807)) ∧
 (Need ((0≤z3)∧((z3≤(z3+1))∧((z3+1)≤(5:Int)))) ∧
 (Need ((z6.toNat=z12.toNat)∧((z7.toNat≤z13.length)∧((0<(List.length [(((Int.tmod (List.getD x0_5 z3.toNat (0:Int)) (3:Int))+(1:Int)),([(cut [(112:Int),(113:Int),(114:Int),(115:Int),(116:Int)] z3.toNat (Int.toNat (z3+1)))],()))]))∧((z13.length+(List.length [(((Int.tmod (List.getD x0_5 z3.toNat (0:Int)) (3:Int))+(1:Int)),([(cut [(112:Int),(113:Int),(114:Int),(115:Int),(116:Int)] z3.toNat (Int.toNat (z3+1)))],()))]))≤bigN)))) ∧
 (Need ((-9223372036854775808≤(z3+1))∧((z3+1)≤9223372036854775807)) ∧
 (Need (((([],([],((some ((3,1),(0,(0,0)))),([],([],()))))):den qt0)=([],([],((some ((3,1),(0,(0,0)))),([],([],()))))))∧((z11.length=z11.length)∧(((z7.toNat+(List.length [(((Int.tmod (List.getD x0_5 z3.toNat (0:Int)) (3:Int))+(1:Int)),([(cut [(112:Int),(113:Int),(114:Int),(115:Int),(116:Int)] z3.toNat (Int.toNat (z3+1)))],()))]))=(List.length ((List.take z7.toNat z13)++[(((Int.tmod (List.getD x0_5 z3.toNat (0:Int)) (3:Int))+(1:Int)),([(cut [(112:Int),(113:Int),(114:Int),(115:Int),(116:Int)] z3.toNat (Int.toNat (z3+1)))],()))])))∧(z15.length=z15.length)))) ∧
 ((y0 (z3+1) z4 z5 (((Nat.succ z12.toNat):Nat):Int) (((z7.toNat+(List.length [(((Int.tmod (List.getD x0_5 z3.toNat (0:Int)) (3:Int))+(1:Int)),([(cut [(112:Int),(113:Int),(114:Int),(115:Int),(116:Int)] z3.toNat (Int.toNat (z3+1)))],()))])):Nat):Int) z8 z9 (z10.toNat:Int) z11 (((Nat.succ z12.toNat):Nat):Int) ((List.take z7.toNat z13)++[(((Int.tmod (List.getD x0_5 z3.toNat (0:Int)) (3:Int))+(1:Int)),([(cut [(112:Int),(113:Int),(114:Int),(115:Int),(116:Int)] z3.toNat (Int.toNat (z3+1)))],()))]) (z14.toNat:Int) z15) ∧
  Need ((y1 (z3+1) z4 z5 (((Nat.succ z12.toNat):Nat):Int) (((z7.toNat+(List.length [(((Int.tmod (List.getD x0_5 z3.toNat (0:Int)) (3:Int))+(1:Int)),([(cut [(112:Int),(113:Int),(114:Int),(115:Int),(116:Int)] z3.toNat (Int.toNat (z3+1)))],()))])):Nat):Int) z8 z9 (z10.toNat:Int) z11 (((Nat.succ z12.toNat):Nat):Int) ((List.take z7.toNat z13)++[(((Int.tmod (List.getD x0_5 z3.toNat (0:Int)) (3:Int))+(1:Int)),([(cut [(112:Int),(113:Int),(114:Int),(115:Int),(116:Int)] z3.toNat (Int.toNat (z3+1)))],()))]) (z14.toNat:Int) z15)<(y1 z3 z4 z5 z6 z7 z8 z9 z10 z11 z12 z13 z14 z15)))))))))))))) ∧
 (((decide (z3<(x0_5.length:Int)))=false) →
 (∃ y19:(Int→(qT3→((List qT1)→(Int→(Int→((List Int)→(qT2→(Int→(qT0→(Int→(qT0→(Int→(qT0→Prop))))))))))))),
 (∃ y20:(Int→(qT3→((List qT1)→(Int→(Int→((List Int)→(qT2→(Int→(qT0→(Int→(qT0→(Int→(qT0→Nat))))))))))))),
 (Need ((z11.length=z11.length)∧((z13.length=z13.length)∧(z15.length=z15.length))) ∧
 ((y19 (0:Int) z4 z5 (z6.toNat:Int) (z7.toNat:Int) z8 z9 (z10.toNat:Int) z11 (z12.toNat:Int) z13 (z14.toNat:Int) z15) ∧
 (∀ z21:Int,
 (∀ z22:qT3,
 (∀ z23:(List qT1),
 (∀ z24 z25:Int,
 (∀ z26:(List Int),
 (∀ z27:qT2,
 (∀ z28:Int,
 (∀ z29:qT0,
 (∀ z30:Int,
 (∀ z31:qT0,
 (∀ z32:Int,
 (∀ z33:qT0,
 ((y19 z21 z22 z23 z24 z25 z26 z27 z28 z29 z30 z31 z32 z33) →
 ((((decide (z21<((Int.tmod x0_0 (5:Int))+(1:Int))))=true) →
 (Need ((-9223372036854775808≤(z21+1))∧((z21+1)≤9223372036854775807)) ∧
 (Need ((0≤z21)∧((z21≤(z21+1))∧((z21+1)≤(5:Int)))) ∧
 (Need ((z22.length+(List.length [(((cut [(97:Int),(98:Int),(99:Int),(100:Int),(101:Int)] z21.toNat (Int.toNat (z21+1))),(((cut [(97:Int),(98:Int),(99:Int),(100:Int),(101:Int)] z21.toNat (Int.toNat (z21+1))),([],(false,()))),())):List Int×(List Int×List Int×Bool×Unit)×Unit)]))≤bigN) ∧
 ((((decide (z21<(x0_6.length:Int)))=true) →
 (Need ((0≤z21)∧(z21<(x0_6.length:Int))) ∧
 (Need ((-9223372036854775808≤(List.getD x0_6 z21.toNat (0:Int)))∧((List.getD x0_6 z21.toNat (0:Int))≤9223372036854775807)) ∧
 (Need ((-9223372036854775808≤((z25.toNat:Int)+(1:Int)))∧(((z25.toNat:Int)+(1:Int))≤9223372036854775807)) ∧
 (Need (((z25.toNat:Int)+(1:Int))≠(0:Int)) ∧
 (Need (¬ ((IntKind.i64=IntKind.u8)∧(¬ (((0:Int)≤(List.getD x0_6 z21.toNat (0:Int)))∧(((List.getD x0_6 z21.toNat (0:Int))<(256:Int))∧((0:Int)<((z25.toNat:Int)+(1:Int)))))))) ∧
 ((((decide ((0:Int)<(Int.tmod (List.getD x0_6 z21.toNat (0:Int)) ((z25.toNat:Int)+(1:Int)))))=true) →
 (Need ((-9223372036854775808≤((Int.tmod (List.getD x0_6 z21.toNat (0:Int)) ((z25.toNat:Int)+(1:Int)))-(1:Int)))∧(((Int.tmod (List.getD x0_6 z21.toNat (0:Int)) ((z25.toNat:Int)+(1:Int)))-(1:Int))≤9223372036854775807)) ∧
 (Need ((-9223372036854775808≤((Int.tmod (List.getD x0_6 z21.toNat (0:Int)) ((z25.toNat:Int)+(1:Int)))-(1:Int)))∧(((Int.tmod (List.getD x0_6 z21.toNat (0:Int)) ((z25.toNat:Int)+(1:Int)))-(1:Int))≤9223372036854775807)) ∧
 (Need (((0:Int)≤((Int.tmod (List.getD x0_6 z21.toNat (0:Int)) ((z25.toNat:Int)+(1:Int)))-(1:Int)))∧(((Int.tmod (List.getD x0_6 z21.toNat (0:Int)) ((z25.toNat:Int)+(1:Int)))-(1:Int))<(z25.toNat:Int))) ∧
 (Need (z30.toNat=z24.toNat) ∧
 (Need ((0+(Int.toNat ((Int.tmod (List.getD x0_6 z21.toNat (0:Int)) ((z25.toNat:Int)+(1:Int)))-(1:Int))))<z31.length) ∧
 (Need (z30.toNat=z24.toNat) ∧
 (Need ((0+(Int.toNat ((Int.tmod (List.getD x0_6 z21.toNat (0:Int)) ((z25.toNat:Int)+(1:Int)))-(1:Int))))<z31.length) ∧
 (Need ((0+(List.length (List.getD z31 (0+(Int.toNat ((Int.tmod (List.getD x0_6 z21.toNat (0:Int)) ((z25.toNat:Int)+(1:Int)))-(1:Int)))) ((0:Int),([],()))).2.1))≤bigN) ∧
 (Need (((List.length ([]++(List.getD z31 (0+(Int.toNat ((Int.tmod (List.getD x0_6 z21.toNat (0:Int)) ((z25.toNat:Int)+(1:Int)))-(1:Int)))) ((0:Int),([],()))).2.1))+(List.length [(cut [(97:Int),(98:Int),(99:Int),(100:Int),(101:Int)] z21.toNat (Int.toNat (z21+1)))]))≤bigN) ∧
 (Need (((0:Int)≤((Int.tmod (List.getD x0_6 z21.toNat (0:Int)) ((z25.toNat:Int)+(1:Int)))-(1:Int)))∧(((Int.tmod (List.getD x0_6 z21.toNat (0:Int)) ((z25.toNat:Int)+(1:Int)))-(1:Int))<(z25.toNat:Int))) ∧
 (Need (z30.toNat=z24.toNat) ∧
 (Need ((0+(Int.toNat ((Int.tmod (List.getD x0_6 z21.toNat (0:Int)) ((z25.toNat:Int)+(1:Int)))-(1:Int))))<z31.length) ∧
 (Need (z30.toNat=z24.toNat) ∧
 (Need ((0+(Int.toNat ((Int.tmod (List.getD x0_6 z21.toNat (0:Int)) ((z25.toNat:Int)+(1:Int)))-(1:Int))))<z31.length) ∧
 (Need ((-9223372036854775808≤(z21+1))∧((z21+1)≤9223372036854775807)) ∧
 (Need (((([],([],((some ((3,1),(0,(0,0)))),([],([],()))))):den qt0)=([],([],((some ((3,1),(0,(0,0)))),([],([],()))))))∧((z29.length=z29.length)∧((z31.length=(List.length (List.set z31 (0+(Int.toNat ((Int.tmod (List.getD x0_6 z21.toNat (0:Int)) ((z25.toNat:Int)+(1:Int)))-(1:Int)))) ((List.getD z31 (0+(Int.toNat ((Int.tmod (List.getD x0_6 z21.toNat (0:Int)) ((z25.toNat:Int)+(1:Int)))-(1:Int)))) ((0:Int),([],()))).1,((([]++(List.getD z31 (0+(Int.toNat ((Int.tmod (List.getD x0_6 z21.toNat (0:Int)) ((z25.toNat:Int)+(1:Int)))-(1:Int)))) ((0:Int),([],()))).2.1)++[(cut [(97:Int),(98:Int),(99:Int),(100:Int),(101:Int)] z21.toNat (Int.toNat (z21+1)))]),(List.getD z31 (0+(Int.toNat ((Int.tmod (List.getD x0_6 z21.toNat (0:Int)) ((z25.toNat:Int)+(1:Int)))-(1:Int)))) ((0:Int),([],()))).2.2)))))∧(z33.length=z33.length)))) ∧
 ((y19 (z21 + 1) (z22 ++ [(((cut [(97 : Int), (98 : Int), (99 : Int), (100 : Int), (101 : Int)] z21.toNat (Int.toNat (z21 + 1))), (((cut [(97 : Int), (98 : Int), (99 : Int), (100 : Int), (101 : Int)] z21.toNat (Int.toNat (z21 + 1))), ([], (false, ()))), ())) : List Int × (List Int × List Int × Bool × Unit) × Unit)]) z23 (z24.toNat : Int) (z25.toNat : Int) z26 z27 (z28.toNat : Int) z29 (z30.toNat : Int) (List.set z31 (0 + (Int.toNat ((Int.tmod (List.getD x0_6 z21.toNat (0 : Int)) ((z25.toNat : Int) + (1 : Int))) - (1 : Int)))) ((List.getD z31 (0 + (Int.toNat ((Int.tmod (List.getD x0_6 z21.toNat (0 : Int)) ((z25.toNat : Int) + (1 : Int))) - (1 : Int)))) ((0 : Int), ([], ()))).1, ((([] ++ (List.getD z31 (0 + (Int.toNat ((Int.tmod (List.getD x0_6 z21.toNat (0 : Int)) ((z25.toNat : Int) + (1 : Int))) - (1 : Int)))) ((0 : Int), ([], ()))).2.1) ++ [(cut [(97 : Int), (98 : Int), (99 : Int), (100 : Int), (101 : Int)] z21.toNat (Int.toNat (z21 + 1)))]), (List.getD z31 (0 + (Int.toNat ((Int.tmod (List.getD x0_6 z21.toNat (0 : Int)) ((z25.toNat : Int) + (1 : Int))) - (1 : Int)))) ((0 : Int), ([], ()))).2.2))) (z32.toNat : Int) z33) ∧
    Need ((y20 (z21+1) (z22++[(((cut [(97:Int),(98:Int),(99:Int),(100:Int),(101:Int)] z21.toNat (Int.toNat (z21+1))),(((cut [(97:Int),(98:Int),(99:Int),(100:Int),(101:Int)] z21.toNat (Int.toNat (z21+1))),([],(false,()))),())):List Int×(List Int×List Int×Bool×Unit)×Unit)]) z23 (z24.toNat:Int) (z25.toNat:Int) z26 z27 (z28.toNat:Int) z29 (z30.toNat:Int) (List.set z31 (0+(Int.toNat ((Int.tmod (List.getD x0_6 z21.toNat (0:Int)) ((z25.toNat:Int)+(1:Int)))-(1:Int)))) ((List.getD z31 (0+(Int.toNat ((Int.tmod (List.getD x0_6 z21.toNat (0:Int)) ((z25.toNat:Int)+(1:Int)))-(1:Int)))) ((0:Int),([],()))).1,((([]++(List.getD z31 (0+(Int.toNat ((Int.tmod (List.getD x0_6 z21.toNat (0:Int)) ((z25.toNat:Int)+(1:Int)))-(1:Int)))) ((0:Int),([],()))).2.1)++[(cut [(97:Int),(98:Int),(99:Int),(100:Int),(101:Int)] z21.toNat (Int.toNat (z21+1)))]),(List.getD z31 (0+(Int.toNat ((Int.tmod (List.getD x0_6 z21.toNat (0:Int)) ((z25.toNat:Int)+(1:Int)))-(1:Int)))) ((0:Int),([],()))).2.2))) (z32.toNat:Int) z33)<(y20 z21 z22 z23 z24 z25 z26 z27 z28 z29 z30 z31 z32 z33)))))))))))))))))))) ∧
 (((decide ((0:Int)<(Int.tmod (List.getD x0_6 z21.toNat (0:Int)) ((z25.toNat:Int)+(1:Int)))))=false) →
 (Need ((-9223372036854775808≤(z21+1))∧((z21+1)≤9223372036854775807)) ∧
 (Need (((([],([],((some ((3,1),(0,(0,0)))),([],([],()))))):den qt0)=([],([],((some ((3,1),(0,(0,0)))),([],([],()))))))∧((z29.length=z29.length)∧((z31.length=z31.length)∧(z33.length=z33.length)))) ∧
 ((y19 (z21+1) (z22++[(((cut [(97:Int),(98:Int),(99:Int),(100:Int),(101:Int)] z21.toNat (Int.toNat (z21+1))),(((cut [(97:Int),(98:Int),(99:Int),(100:Int),(101:Int)] z21.toNat (Int.toNat (z21+1))),([],(false,()))),())):List Int×(List Int×List Int×Bool×Unit)×Unit)]) z23 (z24.toNat:Int) (z25.toNat:Int) z26 z27 (z28.toNat:Int) z29 (z30.toNat:Int) z31 (z32.toNat:Int) z33) ∧
   Need ((y20 (z21+1) (z22++[(((cut [(97:Int),(98:Int),(99:Int),(100:Int),(101:Int)] z21.toNat (Int.toNat (z21+1))),(((cut [(97:Int),(98:Int),(99:Int),(100:Int),(101:Int)] z21.toNat (Int.toNat (z21+1))),([],(false,()))),())):List Int×(List Int×List Int×Bool×Unit)×Unit)]) z23 (z24.toNat:Int) (z25.toNat:Int) z26 z27 (z28.toNat:Int) z29 (z30.toNat:Int) z31 (z32.toNat:Int) z33)<(y20 z21 z22 z23 z24 z25 z26 z27 z28 z29 z30 z31 z32 z33))))))))))))) ∧
 (((decide (z21<(x0_6.length:Int)))=false) →
 (Need ((-9223372036854775808≤(z21+1))∧((z21+1)≤9223372036854775807)) ∧
 (Need (((([],([],((some ((3,1),(0,(0,0)))),([],([],()))))):den qt0)=([],([],((some ((3,1),(0,(0,0)))),([],([],()))))))∧((z29.length=z29.length)∧((z31.length=z31.length)∧(z33.length=z33.length)))) ∧
 ((y19 (z21+1) (z22++[(((cut [(97:Int),(98:Int),(99:Int),(100:Int),(101:Int)] z21.toNat (Int.toNat (z21+1))),(((cut [(97:Int),(98:Int),(99:Int),(100:Int),(101:Int)] z21.toNat (Int.toNat (z21+1))),([],(false,()))),())):List Int×(List Int×List Int×Bool×Unit)×Unit)]) z23 (z24.toNat:Int) (z25.toNat:Int) z26 z27 (z28.toNat:Int) z29 (z30.toNat:Int) z31 (z32.toNat:Int) z33) ∧
  Need ((y20 (z21+1) (z22++[(((cut [(97:Int),(98:Int),(99:Int),(100:Int),(101:Int)] z21.toNat (Int.toNat (z21+1))),(((cut [(97:Int),(98:Int),(99:Int),(100:Int),(101:Int)] z21.toNat (Int.toNat (z21+1))),([],(false,()))),())):List Int×(List Int×List Int×Bool×Unit)×Unit)]) z23 (z24.toNat:Int) (z25.toNat:Int) z26 z27 (z28.toNat:Int) z29 (z30.toNat:Int) z31 (z32.toNat:Int) z33)<(y20 z21 z22 z23 z24 z25 z26 z27 z28 z29 z30 z31 z32 z33))))))))))) ∧
 (((decide (z21<((Int.tmod x0_0 (5:Int))+(1:Int))))=false) →
 (∃ y41:(Int→(qT3→((List qT1)→(Int→(Int→((List Int)→(qT2→(Int→(qT0→(Int→(qT0→(Int→(qT0→Prop))))))))))))),
 (∃ y42:(Int→(qT3→((List qT1)→(Int→(Int→((List Int)→(qT2→(Int→(qT0→(Int→(qT0→(Int→(qT0→Nat))))))))))))),
 (Need ((z29.length=z29.length)∧((z31.length=z31.length)∧(z33.length=z33.length))) ∧
 ((y41 (0:Int) z22 z23 (z24.toNat:Int) (z25.toNat:Int) z26 z27 (z28.toNat:Int) z29 (z30.toNat:Int) z31 (z32.toNat:Int) z33) ∧
 (∀ z43:Int,
 (∀ z44:qT3,
 (∀ z45:(List qT1),
 (∀ z46 z47:Int,
 (∀ z48:(List Int),
 (∀ z49:qT2,
 (∀ z50:Int,
 (∀ z51:qT0,
 (∀ z52:Int,
 (∀ z53:qT0,
 (∀ z54:Int,
 (∀ z55:qT0,
 ((y41 z43 z44 z45 z46 z47 z48 z49 z50 z51 z52 z53 z54 z55) →
 ((((decide (z43<(x0_2.length:Int)))=true) →
 (Need ((0≤z43)∧(z43<(x0_2.length:Int))) ∧
 (Need ((-9223372036854775808≤(List.getD x0_2 z43.toNat (0:Int)))∧((List.getD x0_2 z43.toNat (0:Int))≤9223372036854775807)) ∧
 (Need (((Int.tmod x0_1 (4:Int))+(1:Int))≠(0:Int)) ∧
 (Need (¬ ((IntKind.i64=IntKind.u8)∧(¬ (((0:Int)≤(List.getD x0_2 z43.toNat (0:Int)))∧(((List.getD x0_2 z43.toNat (0:Int))<(256:Int))∧((0:Int)<((Int.tmod x0_1 (4:Int))+(1:Int)))))))) ∧
 (Need ((0≤z43)∧(z43<(x0_2.length:Int))) ∧
 (Need ((-9223372036854775808≤(List.getD x0_2 z43.toNat (0:Int)))∧((List.getD x0_2 z43.toNat (0:Int))≤9223372036854775807)) ∧
 (Need (((Int.tmod x0_1 (4:Int))+(1:Int))≠(0:Int)) ∧
 (Need (¬ ((IntKind.i64=IntKind.u8)∧(¬ (((0:Int)≤(List.getD x0_2 z43.toNat (0:Int)))∧(((List.getD x0_2 z43.toNat (0:Int))<(256:Int))∧((0:Int)<((Int.tmod x0_1 (4:Int))+(1:Int)))))))) ∧
 (Need ((-9223372036854775808≤((Int.tmod (List.getD x0_2 z43.toNat (0:Int)) ((Int.tmod x0_1 (4:Int))+(1:Int)))+(1:Int)))∧(((Int.tmod (List.getD x0_2 z43.toNat (0:Int)) ((Int.tmod x0_1 (4:Int))+(1:Int)))+(1:Int))≤9223372036854775807)) ∧
 (Need (((0:Int)≤(Int.tmod (List.getD x0_2 z43.toNat (0:Int)) ((Int.tmod x0_1 (4:Int))+(1:Int))))∧(((Int.tmod (List.getD x0_2 z43.toNat (0:Int)) ((Int.tmod x0_1 (4:Int))+(1:Int)))≤((Int.tmod (List.getD x0_2 z43.toNat (0:Int)) ((Int.tmod x0_1 (4:Int))+(1:Int)))+(1:Int)))∧(((Int.tmod (List.getD x0_2 z43.toNat (0:Int)) ((Int.tmod x0_1 (4:Int))+(1:Int)))+(1:Int))≤(4:Int)))) ∧
 ((((decide (z43<(x0_3.length:Int)))=true) →
 (∃ y59:(Int→((List Int)→((List (List Int))→((List Int)→((List Int)→(qT3→((List qT1)→(Int→(Int→((List Int)→(qT2→(Int→(qT0→(Int→(qT0→(Int→(qT0→Prop))))))))))))))))),
 (∃ y60:(Int→((List Int)→((List (List Int))→((List Int)→((List Int)→(qT3→((List qT1)→(Int→(Int→((List Int)→(qT2→(Int→(qT0→(Int→(qT0→(Int→(qT0→Nat))))))))))))))))),
 (Need ((z51.length=z51.length)∧((z53.length=z53.length)∧(z55.length=z55.length))) ∧
 ((y59 (0:Int) (cut [(83:Int),(84:Int),(85:Int),(86:Int)] (Int.toNat (Int.tmod (List.getD x0_2 z43.toNat (0:Int)) ((Int.tmod x0_1 (4:Int))+(1:Int)))) (Int.toNat ((Int.tmod (List.getD x0_2 z43.toNat (0:Int)) ((Int.tmod x0_1 (4:Int))+(1:Int)))+(1:Int)))) [] [] [] z44 z45 (z46.toNat:Int) (z47.toNat:Int) z48 z49 (z50.toNat:Int) z51 (z52.toNat:Int) z53 (z54.toNat:Int) z55) ∧
 (∀ z61:Int,
 (∀ z62:(List Int),
 (∀ z63:(List (List Int)),
 (∀ z64 z65:(List Int),
 (∀ z66:qT3,
 (∀ z67:(List qT1),
 (∀ z68 z69:Int,
 (∀ z70:(List Int),
 (∀ z71:qT2,
 (∀ z72:Int,
 (∀ z73:qT0,
 (∀ z74:Int,
 (∀ z75:qT0,
 (∀ z76:Int,
 (∀ z77:qT0,
 ((y59 z61 z62 z63 z64 z65 z66 z67 z68 z69 z70 z71 z72 z73 z74 z75 z76 z77) →
 (Need ((0≤z43)∧(z43<(x0_3.length:Int))) ∧
 ((((decide (z61<((List.length (List.getD x0_3 z43.toNat [])):Int)))=true) →
 (Need ((0≤z43)∧(z43<(x0_3.length:Int))) ∧
 (Need ((0≤z61)∧(z61<((List.length (List.getD x0_3 z43.toNat [])):Int))) ∧
 (Need ((-9223372036854775808≤(List.getD (List.getD x0_3 z43.toNat []) z61.toNat (0:Int)))∧((List.getD (List.getD x0_3 z43.toNat []) z61.toNat (0:Int))≤9223372036854775807)) ∧
 (Need ((-9223372036854775808≤(((Int.tmod x0_0 (5:Int))+(1:Int))+((Int.tmod x0_1 (4:Int))+(1:Int))))∧((((Int.tmod x0_0 (5:Int))+(1:Int))+((Int.tmod x0_1 (4:Int))+(1:Int)))≤9223372036854775807)) ∧
 (Need ((((Int.tmod x0_0 (5:Int))+(1:Int))+((Int.tmod x0_1 (4:Int))+(1:Int)))≠(0:Int)) ∧
 (Need (¬ ((IntKind.i64=IntKind.u8)∧(¬ (((0:Int)≤(List.getD (List.getD x0_3 z43.toNat []) z61.toNat (0:Int)))∧(((List.getD (List.getD x0_3 z43.toNat []) z61.toNat (0:Int))<(256:Int))∧((0:Int)<(((Int.tmod x0_0 (5:Int))+(1:Int))+((Int.tmod x0_1 (4:Int))+(1:Int))))))))) ∧
 (Need ((5:Int)≠(0:Int)) ∧
 (Need (¬ ((IntKind.i64=IntKind.u8)∧(¬ (((0:Int)≤(Int.tmod (List.getD (List.getD x0_3 z43.toNat []) z61.toNat (0:Int)) (((Int.tmod x0_0 (5:Int))+(1:Int))+((Int.tmod x0_1 (4:Int))+(1:Int)))))∧(((Int.tmod (List.getD (List.getD x0_3 z43.toNat []) z61.toNat (0:Int)) (((Int.tmod x0_0 (5:Int))+(1:Int))+((Int.tmod x0_1 (4:Int))+(1:Int))))<(256:Int))∧((0:Int)<(5:Int))))))) ∧
 (Need ((5:Int)≠(0:Int)) ∧
 (Need (¬ ((IntKind.i64=IntKind.u8)∧(¬ (((0:Int)≤(Int.tmod (List.getD (List.getD x0_3 z43.toNat []) z61.toNat (0:Int)) (((Int.tmod x0_0 (5:Int))+(1:Int))+((Int.tmod x0_1 (4:Int))+(1:Int)))))∧(((Int.tmod (List.getD (List.getD x0_3 z43.toNat []) z61.toNat (0:Int)) (((Int.tmod x0_0 (5:Int))+(1:Int))+((Int.tmod x0_1 (4:Int))+(1:Int))))<(256:Int))∧((0:Int)<(5:Int))))))) ∧
 (Need ((-9223372036854775808≤((Int.tmod (Int.tmod (List.getD (List.getD x0_3 z43.toNat []) z61.toNat (0:Int)) (((Int.tmod x0_0 (5:Int))+(1:Int))+((Int.tmod x0_1 (4:Int))+(1:Int)))) (5:Int))+(1:Int)))∧(((Int.tmod (Int.tmod (List.getD (List.getD x0_3 z43.toNat []) z61.toNat (0:Int)) (((Int.tmod x0_0 (5:Int))+(1:Int))+((Int.tmod x0_1 (4:Int))+(1:Int)))) (5:Int))+(1:Int))≤9223372036854775807)) ∧
 (Need (((0:Int)≤(Int.tmod (Int.tmod (List.getD (List.getD x0_3 z43.toNat []) z61.toNat (0:Int)) (((Int.tmod x0_0 (5:Int))+(1:Int))+((Int.tmod x0_1 (4:Int))+(1:Int)))) (5:Int)))∧(((Int.tmod (Int.tmod (List.getD (List.getD x0_3 z43.toNat []) z61.toNat (0:Int)) (((Int.tmod x0_0 (5:Int))+(1:Int))+((Int.tmod x0_1 (4:Int))+(1:Int)))) (5:Int))≤((Int.tmod (Int.tmod (List.getD (List.getD x0_3 z43.toNat []) z61.toNat (0:Int)) (((Int.tmod x0_0 (5:Int))+(1:Int))+((Int.tmod x0_1 (4:Int))+(1:Int)))) (5:Int))+(1:Int)))∧(((Int.tmod (Int.tmod (List.getD (List.getD x0_3 z43.toNat []) z61.toNat (0:Int)) (((Int.tmod x0_0 (5:Int))+(1:Int))+((Int.tmod x0_1 (4:Int))+(1:Int)))) (5:Int))+(1:Int))≤(5:Int)))) ∧
 ((((decide (((Int.tmod x0_0 (5:Int))+(1:Int))≤(Int.tmod (List.getD (List.getD x0_3 z43.toNat []) z61.toNat (0:Int)) (((Int.tmod x0_0 (5:Int))+(1:Int))+((Int.tmod x0_1 (4:Int))+(1:Int))))))=true) →
 (Need ((-9223372036854775808≤((Int.tmod (List.getD (List.getD x0_3 z43.toNat []) z61.toNat (0:Int)) (((Int.tmod x0_0 (5:Int))+(1:Int))+((Int.tmod x0_1 (4:Int))+(1:Int))))-((Int.tmod x0_0 (5:Int))+(1:Int))))∧(((Int.tmod (List.getD (List.getD x0_3 z43.toNat []) z61.toNat (0:Int)) (((Int.tmod x0_0 (5:Int))+(1:Int))+((Int.tmod x0_1 (4:Int))+(1:Int))))-((Int.tmod x0_0 (5:Int))+(1:Int)))≤9223372036854775807)) ∧
 (Need ((-9223372036854775808≤((Int.tmod (List.getD (List.getD x0_3 z43.toNat []) z61.toNat (0:Int)) (((Int.tmod x0_0 (5:Int))+(1:Int))+((Int.tmod x0_1 (4:Int))+(1:Int))))-((Int.tmod x0_0 (5:Int))+(1:Int))))∧(((Int.tmod (List.getD (List.getD x0_3 z43.toNat []) z61.toNat (0:Int)) (((Int.tmod x0_0 (5:Int))+(1:Int))+((Int.tmod x0_1 (4:Int))+(1:Int))))-((Int.tmod x0_0 (5:Int))+(1:Int)))≤9223372036854775807)) ∧
 (Need ((-9223372036854775808≤(((Int.tmod (List.getD (List.getD x0_3 z43.toNat []) z61.toNat (0:Int)) (((Int.tmod x0_0 (5:Int))+(1:Int))+((Int.tmod x0_1 (4:Int))+(1:Int))))-((Int.tmod x0_0 (5:Int))+(1:Int)))+(1:Int)))∧((((Int.tmod (List.getD (List.getD x0_3 z43.toNat []) z61.toNat (0:Int)) (((Int.tmod x0_0 (5:Int))+(1:Int))+((Int.tmod x0_1 (4:Int))+(1:Int))))-((Int.tmod x0_0 (5:Int))+(1:Int)))+(1:Int))≤9223372036854775807)) ∧
 (Need (((0:Int)≤((Int.tmod (List.getD (List.getD x0_3 z43.toNat []) z61.toNat (0:Int)) (((Int.tmod x0_0 (5:Int))+(1:Int))+((Int.tmod x0_1 (4:Int))+(1:Int))))-((Int.tmod x0_0 (5:Int))+(1:Int))))∧((((Int.tmod (List.getD (List.getD x0_3 z43.toNat []) z61.toNat (0:Int)) (((Int.tmod x0_0 (5:Int))+(1:Int))+((Int.tmod x0_1 (4:Int))+(1:Int))))-((Int.tmod x0_0 (5:Int))+(1:Int)))≤(((Int.tmod (List.getD (List.getD x0_3 z43.toNat []) z61.toNat (0:Int)) (((Int.tmod x0_0 (5:Int))+(1:Int))+((Int.tmod x0_1 (4:Int))+(1:Int))))-((Int.tmod x0_0 (5:Int))+(1:Int)))+(1:Int)))∧((((Int.tmod (List.getD (List.getD x0_3 z43.toNat []) z61.toNat (0:Int)) (((Int.tmod x0_0 (5:Int))+(1:Int))+((Int.tmod x0_1 (4:Int))+(1:Int))))-((Int.tmod x0_0 (5:Int))+(1:Int)))+(1:Int))≤(4:Int)))) ∧
 (Need ((z63.length+(List.length [(cut [(83:Int),(84:Int),(85:Int),(86:Int)] (Int.toNat ((Int.tmod (List.getD (List.getD x0_3 z43.toNat []) z61.toNat (0:Int)) (((Int.tmod x0_0 (5:Int))+(1:Int))+((Int.tmod x0_1 (4:Int))+(1:Int))))-((Int.tmod x0_0 (5:Int))+(1:Int)))) (Int.toNat (((Int.tmod (List.getD (List.getD x0_3 z43.toNat []) z61.toNat (0:Int)) (((Int.tmod x0_0 (5:Int))+(1:Int))+((Int.tmod x0_1 (4:Int))+(1:Int))))-((Int.tmod x0_0 (5:Int))+(1:Int)))+(1:Int))))]))≤bigN) ∧
 (Need ((-9223372036854775808≤(z61+1))∧((z61+1)≤9223372036854775807)) ∧
 (Need (((([],([],((some ((3,1),(0,(0,0)))),([],([],()))))):den qt0)=([],([],((some ((3,1),(0,(0,0)))),([],([],()))))))∧((z73.length=z73.length)∧((z75.length=z75.length)∧(z77.length=z77.length)))) ∧
 ((y59 (z61 + 1) z62 (z63 ++ [(cut [(83 : Int), (84 : Int), (85 : Int), (86 : Int)] (Int.toNat ((Int.tmod (List.getD (List.getD x0_3 z43.toNat []) z61.toNat (0 : Int)) (((Int.tmod x0_0 (5 : Int)) + (1 : Int)) + ((Int.tmod x0_1 (4 : Int)) + (1 : Int)))) - ((Int.tmod x0_0 (5 : Int)) + (1 : Int)))) (Int.toNat (((Int.tmod (List.getD (List.getD x0_3 z43.toNat []) z61.toNat (0 : Int)) (((Int.tmod x0_0 (5 : Int)) + (1 : Int)) + ((Int.tmod x0_1 (4 : Int)) + (1 : Int)))) - ((Int.tmod x0_0 (5 : Int)) + (1 : Int))) + (1 : Int))))]) z64 z65 z66 z67 (z68.toNat : Int) (z69.toNat : Int) z70 z71 (z72.toNat : Int) z73 (z74.toNat : Int) z75 (z76.toNat : Int) z77) ∧
     Need ((y60 (z61+1) z62 (z63++[(cut [(83:Int),(84:Int),(85:Int),(86:Int)] (Int.toNat ((Int.tmod (List.getD (List.getD x0_3 z43.toNat []) z61.toNat (0:Int)) (((Int.tmod x0_0 (5:Int))+(1:Int))+((Int.tmod x0_1 (4:Int))+(1:Int))))-((Int.tmod x0_0 (5:Int))+(1:Int)))) (Int.toNat (((Int.tmod (List.getD (List.getD x0_3 z43.toNat []) z61.toNat (0:Int)) (((Int.tmod x0_0 (5:Int))+(1:Int))+((Int.tmod x0_1 (4:Int))+(1:Int))))-((Int.tmod x0_0 (5:Int))+(1:Int)))+(1:Int))))]) z64 z65 z66 z67 (z68.toNat:Int) (z69.toNat:Int) z70 z71 (z72.toNat:Int) z73 (z74.toNat:Int) z75 (z76.toNat:Int) z77)<(y60 z61 z62 z63 z64 z65 z66 z67 z68 z69 z70 z71 z72 z73 z74 z75 z76 z77))))))))))) ∧
 (((decide (((Int.tmod x0_0 (5:Int))+(1:Int))≤(Int.tmod (List.getD (List.getD x0_3 z43.toNat []) z61.toNat (0:Int)) (((Int.tmod x0_0 (5:Int))+(1:Int))+((Int.tmod x0_1 (4:Int))+(1:Int))))))=false) →
 (Need ((z63.length+(List.length [(cut [(97:Int),(98:Int),(99:Int),(100:Int),(101:Int)] (Int.toNat (Int.tmod (Int.tmod (List.getD (List.getD x0_3 z43.toNat []) z61.toNat (0:Int)) (((Int.tmod x0_0 (5:Int))+(1:Int))+((Int.tmod x0_1 (4:Int))+(1:Int)))) (5:Int))) (Int.toNat ((Int.tmod (Int.tmod (List.getD (List.getD x0_3 z43.toNat []) z61.toNat (0:Int)) (((Int.tmod x0_0 (5:Int))+(1:Int))+((Int.tmod x0_1 (4:Int))+(1:Int)))) (5:Int))+(1:Int))))]))≤bigN) ∧
 (Need ((-9223372036854775808≤(z61+1))∧((z61+1)≤9223372036854775807)) ∧
 (Need (((([],([],((some ((3,1),(0,(0,0)))),([],([],()))))):den qt0)=([],([],((some ((3,1),(0,(0,0)))),([],([],()))))))∧((z73.length=z73.length)∧((z75.length=z75.length)∧(z77.length=z77.length)))) ∧
 ((y59 (z61 + 1) z62 (z63 ++ [(cut [(97 : Int), (98 : Int), (99 : Int), (100 : Int), (101 : Int)] (Int.toNat (Int.tmod (Int.tmod (List.getD (List.getD x0_3 z43.toNat []) z61.toNat (0 : Int)) (((Int.tmod x0_0 (5 : Int)) + (1 : Int)) + ((Int.tmod x0_1 (4 : Int)) + (1 : Int)))) (5 : Int))) (Int.toNat ((Int.tmod (Int.tmod (List.getD (List.getD x0_3 z43.toNat []) z61.toNat (0 : Int)) (((Int.tmod x0_0 (5 : Int)) + (1 : Int)) + ((Int.tmod x0_1 (4 : Int)) + (1 : Int)))) (5 : Int)) + (1 : Int))))]) z64 z65 z66 z67 (z68.toNat : Int) (z69.toNat : Int) z70 z71 (z72.toNat : Int) z73 (z74.toNat : Int) z75 (z76.toNat : Int) z77) ∧
    Need ((y60 (z61+1) z62 (z63++[(cut [(97:Int),(98:Int),(99:Int),(100:Int),(101:Int)] (Int.toNat (Int.tmod (Int.tmod (List.getD (List.getD x0_3 z43.toNat []) z61.toNat (0:Int)) (((Int.tmod x0_0 (5:Int))+(1:Int))+((Int.tmod x0_1 (4:Int))+(1:Int)))) (5:Int))) (Int.toNat ((Int.tmod (Int.tmod (List.getD (List.getD x0_3 z43.toNat []) z61.toNat (0:Int)) (((Int.tmod x0_0 (5:Int))+(1:Int))+((Int.tmod x0_1 (4:Int))+(1:Int)))) (5:Int))+(1:Int))))]) z64 z65 z66 z67 (z68.toNat:Int) (z69.toNat:Int) z70 z71 (z72.toNat:Int) z73 (z74.toNat:Int) z75 (z76.toNat:Int) z77)<(y60 z61 z62 z63 z64 z65 z66 z67 z68 z69 z70 z71 z72 z73 z74 z75 z76 z77))))))))))))))))))))) ∧
 (((decide (z61<((List.length (List.getD x0_3 z43.toNat [])):Int)))=false) →
 ((((decide (z43<(x0_4.length:Int)))=true) →
 (Need ((0≤z43)∧(z43<(x0_4.length:Int))) ∧
 (Need ((-9223372036854775808≤(List.getD x0_4 z43.toNat (0:Int)))∧((List.getD x0_4 z43.toNat (0:Int))≤9223372036854775807)) ∧
 (Need ((-9223372036854775808≤((z69.toNat:Int)+(1:Int)))∧(((z69.toNat:Int)+(1:Int))≤9223372036854775807)) ∧
 (Need (((z69.toNat:Int)+(1:Int))≠(0:Int)) ∧
 (Need (¬ ((IntKind.i64=IntKind.u8)∧(¬ (((0:Int)≤(List.getD x0_4 z43.toNat (0:Int)))∧(((List.getD x0_4 z43.toNat (0:Int))<(256:Int))∧((0:Int)<((z69.toNat:Int)+(1:Int)))))))) ∧
 ((((decide ((0:Int)<(Int.tmod (List.getD x0_4 z43.toNat (0:Int)) ((z69.toNat:Int)+(1:Int)))))=true) →
 (Need ((-9223372036854775808≤((Int.tmod (List.getD x0_4 z43.toNat (0:Int)) ((z69.toNat:Int)+(1:Int)))-(1:Int)))∧(((Int.tmod (List.getD x0_4 z43.toNat (0:Int)) ((z69.toNat:Int)+(1:Int)))-(1:Int))≤9223372036854775807)) ∧
 (Need (((0:Int)≤((Int.tmod (List.getD x0_4 z43.toNat (0:Int)) ((z69.toNat:Int)+(1:Int)))-(1:Int)))∧((((Int.tmod (List.getD x0_4 z43.toNat (0:Int)) ((z69.toNat:Int)+(1:Int)))-(1:Int))≤(Int.tmod (List.getD x0_4 z43.toNat (0:Int)) ((z69.toNat:Int)+(1:Int))))∧((Int.tmod (List.getD x0_4 z43.toNat (0:Int)) ((z69.toNat:Int)+(1:Int)))≤(5:Int)))) ∧
 (Need ((z71.length+(List.length [(z62,(z63,((cut [(112:Int),(113:Int),(114:Int),(115:Int),(116:Int)] (Int.toNat ((Int.tmod (List.getD x0_4 z43.toNat (0:Int)) ((z69.toNat:Int)+(1:Int)))-(1:Int))) (Int.toNat (Int.tmod (List.getD x0_4 z43.toNat (0:Int)) ((z69.toNat:Int)+(1:Int))))),(z65,()))))]))≤bigN) ∧
 (Need ((-9223372036854775808≤(z43+1))∧((z43+1)≤9223372036854775807)) ∧
 (Need (((([],([],((some ((3,1),(0,(0,0)))),([],([],()))))):den qt0)=([],([],((some ((3,1),(0,(0,0)))),([],([],()))))))∧((z73.length=z73.length)∧((z75.length=z75.length)∧(z77.length=z77.length)))) ∧
 ((y41 (z43 + 1) z66 z67 (z68.toNat : Int) (z69.toNat : Int) z70 (z71 ++ [(z62, (z63, ((cut [(112 : Int), (113 : Int), (114 : Int), (115 : Int), (116 : Int)] (Int.toNat ((Int.tmod (List.getD x0_4 z43.toNat (0 : Int)) ((z69.toNat : Int) + (1 : Int))) - (1 : Int))) (Int.toNat (Int.tmod (List.getD x0_4 z43.toNat (0 : Int)) ((z69.toNat : Int) + (1 : Int))))), (z65, ()))))]) (z72.toNat : Int) z73 (z74.toNat : Int) z75 (z76.toNat : Int) z77) ∧
     Need ((y42 (z43+1) z66 z67 (z68.toNat:Int) (z69.toNat:Int) z70 (z71++[(z62,(z63,((cut [(112:Int),(113:Int),(114:Int),(115:Int),(116:Int)] (Int.toNat ((Int.tmod (List.getD x0_4 z43.toNat (0:Int)) ((z69.toNat:Int)+(1:Int)))-(1:Int))) (Int.toNat (Int.tmod (List.getD x0_4 z43.toNat (0:Int)) ((z69.toNat:Int)+(1:Int))))),(z65,()))))]) (z72.toNat:Int) z73 (z74.toNat:Int) z75 (z76.toNat:Int) z77)<(y42 z43 z44 z45 z46 z47 z48 z49 z50 z51 z52 z53 z54 z55))))))))) ∧
 (((decide ((0:Int)<(Int.tmod (List.getD x0_4 z43.toNat (0:Int)) ((z69.toNat:Int)+(1:Int)))))=false) →
 (Need ((z71.length+(List.length [(z62,(z63,(z64,(z65,()))))]))≤bigN) ∧
 (Need ((-9223372036854775808≤(z43+1))∧((z43+1)≤9223372036854775807)) ∧
 (Need (((([],([],((some ((3,1),(0,(0,0)))),([],([],()))))):den qt0)=([],([],((some ((3,1),(0,(0,0)))),([],([],()))))))∧((z73.length=z73.length)∧((z75.length=z75.length)∧(z77.length=z77.length)))) ∧
 ((y41 (z43 + 1) z66 z67 (z68.toNat : Int) (z69.toNat : Int) z70 (z71 ++ [(z62, (z63, (z64, (z65, ()))))]) (z72.toNat : Int) z73 (z74.toNat : Int) z75 (z76.toNat : Int) z77) ∧
    Need ((y42 (z43+1) z66 z67 (z68.toNat:Int) (z69.toNat:Int) z70 (z71++[(z62,(z63,(z64,(z65,()))))]) (z72.toNat:Int) z73 (z74.toNat:Int) z75 (z76.toNat:Int) z77)<(y42 z43 z44 z45 z46 z47 z48 z49 z50 z51 z52 z53 z54 z55)))))))))))))) ∧
 (((decide (z43<(x0_4.length:Int)))=false) →
 (Need ((z71.length+(List.length [(z62,(z63,(z64,(z65,()))))]))≤bigN) ∧
 (Need ((-9223372036854775808≤(z43+1))∧((z43+1)≤9223372036854775807)) ∧
 (Need (((([],([],((some ((3,1),(0,(0,0)))),([],([],()))))):den qt0)=([],([],((some ((3,1),(0,(0,0)))),([],([],()))))))∧((z73.length=z73.length)∧((z75.length=z75.length)∧(z77.length=z77.length)))) ∧
 ((y41 (z43+1) z66 z67 (z68.toNat:Int) (z69.toNat:Int) z70 (z71++[(z62,(z63,(z64,(z65,()))))]) (z72.toNat:Int) z73 (z74.toNat:Int) z75 (z76.toNat:Int) z77) ∧
   Need ((y42 (z43+1) z66 z67 (z68.toNat:Int) (z69.toNat:Int) z70 (z71++[(z62,(z63,(z64,(z65,()))))]) (z72.toNat:Int) z73 (z74.toNat:Int) z75 (z76.toNat:Int) z77)<(y42 z43 z44 z45 z46 z47 z48 z49 z50 z51 z52 z53 z54 z55)))))))))))))))))))))))))))))))) ∧
 (((decide (z43<(x0_3.length:Int)))=false) →
 ((((decide (z43<(x0_4.length:Int)))=true) →
 (Need ((0≤z43)∧(z43<(x0_4.length:Int))) ∧
 (Need ((-9223372036854775808≤(List.getD x0_4 z43.toNat (0:Int)))∧((List.getD x0_4 z43.toNat (0:Int))≤9223372036854775807)) ∧
 (Need ((-9223372036854775808≤((z47.toNat:Int)+(1:Int)))∧(((z47.toNat:Int)+(1:Int))≤9223372036854775807)) ∧
 (Need (((z47.toNat:Int)+(1:Int))≠(0:Int)) ∧
 (Need (¬ ((IntKind.i64=IntKind.u8)∧(¬ (((0:Int)≤(List.getD x0_4 z43.toNat (0:Int)))∧(((List.getD x0_4 z43.toNat (0:Int))<(256:Int))∧((0:Int)<((z47.toNat:Int)+(1:Int)))))))) ∧
 ((((decide ((0:Int)<(Int.tmod (List.getD x0_4 z43.toNat (0:Int)) ((z47.toNat:Int)+(1:Int)))))=true) →
 (Need ((-9223372036854775808≤((Int.tmod (List.getD x0_4 z43.toNat (0:Int)) ((z47.toNat:Int)+(1:Int)))-(1:Int)))∧(((Int.tmod (List.getD x0_4 z43.toNat (0:Int)) ((z47.toNat:Int)+(1:Int)))-(1:Int))≤9223372036854775807)) ∧
 (Need (((0:Int)≤((Int.tmod (List.getD x0_4 z43.toNat (0:Int)) ((z47.toNat:Int)+(1:Int)))-(1:Int)))∧((((Int.tmod (List.getD x0_4 z43.toNat (0:Int)) ((z47.toNat:Int)+(1:Int)))-(1:Int))≤(Int.tmod (List.getD x0_4 z43.toNat (0:Int)) ((z47.toNat:Int)+(1:Int))))∧((Int.tmod (List.getD x0_4 z43.toNat (0:Int)) ((z47.toNat:Int)+(1:Int)))≤(5:Int)))) ∧
 (Need ((z49.length+(List.length [(((cut [(83:Int),(84:Int),(85:Int),(86:Int)] (Int.toNat (Int.tmod (List.getD x0_2 z43.toNat (0:Int)) ((Int.tmod x0_1 (4:Int))+(1:Int)))) (Int.toNat ((Int.tmod (List.getD x0_2 z43.toNat (0:Int)) ((Int.tmod x0_1 (4:Int))+(1:Int)))+(1:Int)))),([],((cut [(112:Int),(113:Int),(114:Int),(115:Int),(116:Int)] (Int.toNat ((Int.tmod (List.getD x0_4 z43.toNat (0:Int)) ((z47.toNat:Int)+(1:Int)))-(1:Int))) (Int.toNat (Int.tmod (List.getD x0_4 z43.toNat (0:Int)) ((z47.toNat:Int)+(1:Int))))),([],())))):List Int×List (List Int)×List Int×List Int×Unit)]))≤bigN) ∧
 (Need ((-9223372036854775808≤(z43+1))∧((z43+1)≤9223372036854775807)) ∧
 (Need (((([],([],((some ((3,1),(0,(0,0)))),([],([],()))))):den qt0)=([],([],((some ((3,1),(0,(0,0)))),([],([],()))))))∧((z51.length=z51.length)∧((z53.length=z53.length)∧(z55.length=z55.length)))) ∧
 ((y41 (z43 + 1) z44 z45 (z46.toNat : Int) (z47.toNat : Int) z48 (z49 ++ [(((cut [(83 : Int), (84 : Int), (85 : Int), (86 : Int)] (Int.toNat (Int.tmod (List.getD x0_2 z43.toNat (0 : Int)) ((Int.tmod x0_1 (4 : Int)) + (1 : Int)))) (Int.toNat ((Int.tmod (List.getD x0_2 z43.toNat (0 : Int)) ((Int.tmod x0_1 (4 : Int)) + (1 : Int))) + (1 : Int)))), ([], ((cut [(112 : Int), (113 : Int), (114 : Int), (115 : Int), (116 : Int)] (Int.toNat ((Int.tmod (List.getD x0_4 z43.toNat (0 : Int)) ((z47.toNat : Int) + (1 : Int))) - (1 : Int))) (Int.toNat (Int.tmod (List.getD x0_4 z43.toNat (0 : Int)) ((z47.toNat : Int) + (1 : Int))))), ([], ())))) : List Int × List (List Int) × List Int × List Int × Unit)]) (z50.toNat : Int) z51 (z52.toNat : Int) z53 (z54.toNat : Int) z55) ∧
    Need ((y42 (z43+1) z44 z45 (z46.toNat:Int) (z47.toNat:Int) z48 (z49++[(((cut [(83:Int),(84:Int),(85:Int),(86:Int)] (Int.toNat (Int.tmod (List.getD x0_2 z43.toNat (0:Int)) ((Int.tmod x0_1 (4:Int))+(1:Int)))) (Int.toNat ((Int.tmod (List.getD x0_2 z43.toNat (0:Int)) ((Int.tmod x0_1 (4:Int))+(1:Int)))+(1:Int)))),([],((cut [(112:Int),(113:Int),(114:Int),(115:Int),(116:Int)] (Int.toNat ((Int.tmod (List.getD x0_4 z43.toNat (0:Int)) ((z47.toNat:Int)+(1:Int)))-(1:Int))) (Int.toNat (Int.tmod (List.getD x0_4 z43.toNat (0:Int)) ((z47.toNat:Int)+(1:Int))))),([],())))):List Int×List (List Int)×List Int×List Int×Unit)]) (z50.toNat:Int) z51 (z52.toNat:Int) z53 (z54.toNat:Int) z55)<(y42 z43 z44 z45 z46 z47 z48 z49 z50 z51 z52 z53 z54 z55))))))))) ∧
 (((decide ((0:Int)<(Int.tmod (List.getD x0_4 z43.toNat (0:Int)) ((z47.toNat:Int)+(1:Int)))))=false) →
 (Need ((z49.length+(List.length [(((cut [(83:Int),(84:Int),(85:Int),(86:Int)] (Int.toNat (Int.tmod (List.getD x0_2 z43.toNat (0:Int)) ((Int.tmod x0_1 (4:Int))+(1:Int)))) (Int.toNat ((Int.tmod (List.getD x0_2 z43.toNat (0:Int)) ((Int.tmod x0_1 (4:Int))+(1:Int)))+(1:Int)))),([],([],([],())))):List Int×List (List Int)×List Int×List Int×Unit)]))≤bigN) ∧
 (Need ((-9223372036854775808≤(z43+1))∧((z43+1)≤9223372036854775807)) ∧
 (Need (((([],([],((some ((3,1),(0,(0,0)))),([],([],()))))):den qt0)=([],([],((some ((3,1),(0,(0,0)))),([],([],()))))))∧((z51.length=z51.length)∧((z53.length=z53.length)∧(z55.length=z55.length)))) ∧
 ((y41 (z43+1) z44 z45 (z46.toNat:Int) (z47.toNat:Int) z48 (z49++[(((cut [(83:Int),(84:Int),(85:Int),(86:Int)] (Int.toNat (Int.tmod (List.getD x0_2 z43.toNat (0:Int)) ((Int.tmod x0_1 (4:Int))+(1:Int)))) (Int.toNat ((Int.tmod (List.getD x0_2 z43.toNat (0:Int)) ((Int.tmod x0_1 (4:Int))+(1:Int)))+(1:Int)))),([],([],([],())))):List Int×List (List Int)×List Int×List Int×Unit)]) (z50.toNat:Int) z51 (z52.toNat:Int) z53 (z54.toNat:Int) z55) ∧
   Need ((y42 (z43+1) z44 z45 (z46.toNat:Int) (z47.toNat:Int) z48 (z49++[(((cut [(83:Int),(84:Int),(85:Int),(86:Int)] (Int.toNat (Int.tmod (List.getD x0_2 z43.toNat (0:Int)) ((Int.tmod x0_1 (4:Int))+(1:Int)))) (Int.toNat ((Int.tmod (List.getD x0_2 z43.toNat (0:Int)) ((Int.tmod x0_1 (4:Int))+(1:Int)))+(1:Int)))),([],([],([],())))):List Int×List (List Int)×List Int×List Int×Unit)]) (z50.toNat:Int) z51 (z52.toNat:Int) z53 (z54.toNat:Int) z55)<(y42 z43 z44 z45 z46 z47 z48 z49 z50 z51 z52 z53 z54 z55)))))))))))))) ∧
 (((decide (z43<(x0_4.length:Int)))=false) →
 (Need ((z49.length+(List.length [(((cut [(83:Int),(84:Int),(85:Int),(86:Int)] (Int.toNat (Int.tmod (List.getD x0_2 z43.toNat (0:Int)) ((Int.tmod x0_1 (4:Int))+(1:Int)))) (Int.toNat ((Int.tmod (List.getD x0_2 z43.toNat (0:Int)) ((Int.tmod x0_1 (4:Int))+(1:Int)))+(1:Int)))),([],([],([],())))):List Int×List (List Int)×List Int×List Int×Unit)]))≤bigN) ∧
 (Need ((-9223372036854775808≤(z43+1))∧((z43+1)≤9223372036854775807)) ∧
 (Need (((([],([],((some ((3,1),(0,(0,0)))),([],([],()))))):den qt0)=([],([],((some ((3,1),(0,(0,0)))),([],([],()))))))∧((z51.length=z51.length)∧((z53.length=z53.length)∧(z55.length=z55.length)))) ∧
 ((y41 (z43+1) z44 z45 (z46.toNat:Int) (z47.toNat:Int) z48 (z49++[(((cut [(83:Int),(84:Int),(85:Int),(86:Int)] (Int.toNat (Int.tmod (List.getD x0_2 z43.toNat (0:Int)) ((Int.tmod x0_1 (4:Int))+(1:Int)))) (Int.toNat ((Int.tmod (List.getD x0_2 z43.toNat (0:Int)) ((Int.tmod x0_1 (4:Int))+(1:Int)))+(1:Int)))),([],([],([],())))):List Int×List (List Int)×List Int×List Int×Unit)]) (z50.toNat:Int) z51 (z52.toNat:Int) z53 (z54.toNat:Int) z55) ∧
  Need ((y42 (z43+1) z44 z45 (z46.toNat:Int) (z47.toNat:Int) z48 (z49++[(((cut [(83:Int),(84:Int),(85:Int),(86:Int)] (Int.toNat (Int.tmod (List.getD x0_2 z43.toNat (0:Int)) ((Int.tmod x0_1 (4:Int))+(1:Int)))) (Int.toNat ((Int.tmod (List.getD x0_2 z43.toNat (0:Int)) ((Int.tmod x0_1 (4:Int))+(1:Int)))+(1:Int)))),([],([],([],())))):List Int×List (List Int)×List Int×List Int×Unit)]) (z50.toNat:Int) z51 (z52.toNat:Int) z53 (z54.toNat:Int) z55)<(y42 z43 z44 z45 z46 z47 z48 z49 z50 z51 z52 z53 z54 z55))))))))))))))))))))) ∧
 (((decide (z43<(x0_2.length:Int)))=false) →
 (∃ y93:(Int→(qT3→((List qT1)→(Int→(Int→((List Int)→(qT2→(Int→(qT0→(Int→(qT0→(Int→(qT0→Prop))))))))))))),
 (∃ y94:(Int→(qT3→((List qT1)→(Int→(Int→((List Int)→(qT2→(Int→(qT0→(Int→(qT0→(Int→(qT0→Nat))))))))))))),
 (Need ((z51.length=z51.length)∧((z53.length=z53.length)∧(z55.length=z55.length))) ∧
 ((y93 (0:Int) z44 z45 (z46.toNat:Int) (z47.toNat:Int) z48 z49 (z50.toNat:Int) z51 (z52.toNat:Int) z53 (z54.toNat:Int) z55) ∧
 (∀ z95:Int,
 (∀ z96:qT3,
 (∀ z97:(List qT1),
 (∀ z98 z99:Int,
 (∀ z100:(List Int),
 (∀ z101:qT2,
 (∀ z102:Int,
 (∀ z103:qT0,
 (∀ z104:Int,
 (∀ z105:qT0,
 (∀ z106:Int,
 (∀ z107:qT0,
 ((y93 z95 z96 z97 z98 z99 z100 z101 z102 z103 z104 z105 z106 z107) →
 ((((decide (z95<((Int.tmod x0_1 (4:Int))+(1:Int))))=true) →
 (Need ((-9223372036854775808≤(z95+1))∧((z95+1)≤9223372036854775807)) ∧
 (Need ((0≤z95)∧((z95≤(z95+1))∧((z95+1)≤(4:Int)))) ∧
 (∃ y110:(Bool→(Int→(qT3→((List qT1)→(Int→(Int→((List Int)→(qT2→(Int→(qT0→(Int→(qT0→(Int→(qT0→Prop)))))))))))))),
 (∃ y111:(Bool→(Int→(qT3→((List qT1)→(Int→(Int→((List Int)→(qT2→(Int→(qT0→(Int→(qT0→(Int→(qT0→Nat)))))))))))))),
 (Need ((z103.length=z103.length)∧((z105.length=z105.length)∧(z107.length=z107.length))) ∧
 ((y110 false (0:Int) z96 z97 (z98.toNat:Int) (z99.toNat:Int) z100 z101 (z102.toNat:Int) z103 (z104.toNat:Int) z105 (z106.toNat:Int) z107) ∧
 (∀ z112:Bool,
 (∀ z113:Int,
 (∀ z114:qT3,
 (∀ z115:(List qT1),
 (∀ z116 z117:Int,
 (∀ z118:(List Int),
 (∀ z119:qT2,
 (∀ z120:Int,
 (∀ z121:qT0,
 (∀ z122:Int,
 (∀ z123:qT0,
 (∀ z124:Int,
 (∀ z125:qT0,
 ((y110 z112 z113 z114 z115 z116 z117 z118 z119 z120 z121 z122 z123 z124 z125) →
 ((((decide (z113<(z119.length:Int)))=true) →
 (((z112=true) →
 (Need ((-9223372036854775808≤(z113+1))∧((z113+1)≤9223372036854775807)) ∧
 (Need (((([],([],((some ((3,1),(0,(0,0)))),([],([],()))))):den qt0)=([],([],((some ((3,1),(0,(0,0)))),([],([],()))))))∧((z121.length=z121.length)∧((z123.length=z123.length)∧(z125.length=z125.length)))) ∧
 ((y110 true (z113 + 1) z114 z115 (z116.toNat : Int) (z117.toNat : Int) z118 z119 (z120.toNat : Int) z121 (z122.toNat : Int) z123 (z124.toNat : Int) z125) ∧
    Need ((y111 true (z113+1) z114 z115 (z116.toNat:Int) (z117.toNat:Int) z118 z119 (z120.toNat:Int) z121 (z122.toNat:Int) z123 (z124.toNat:Int) z125)<(y111 z112 z113 z114 z115 z116 z117 z118 z119 z120 z121 z122 z123 z124 z125)))))) ∧
 ((z112=false) →
 (Need ((0≤z113)∧(z113<(z119.length:Int))) ∧
 (Need ((-9223372036854775808≤(z113+1))∧((z113+1)≤9223372036854775807)) ∧
 (Need (((([],([],((some ((3,1),(0,(0,0)))),([],([],()))))):den qt0)=([],([],((some ((3,1),(0,(0,0)))),([],([],()))))))∧((z121.length=z121.length)∧((z123.length=z123.length)∧(z125.length=z125.length)))) ∧
 ((y110 (decide ((List.getD z119 z113.toNat ([],([],([],([],()))))).1=(cut [(83:Int),(84:Int),(85:Int),(86:Int)] z95.toNat (Int.toNat (z95+1))))) (z113+1) z114 z115 (z116.toNat:Int) (z117.toNat:Int) z118 z119 (z120.toNat:Int) z121 (z122.toNat:Int) z123 (z124.toNat:Int) z125) ∧
   Need ((y111 (decide ((List.getD z119 z113.toNat ([],([],([],([],()))))).1=(cut [(83:Int),(84:Int),(85:Int),(86:Int)] z95.toNat (Int.toNat (z95+1))))) (z113+1) z114 z115 (z116.toNat:Int) (z117.toNat:Int) z118 z119 (z120.toNat:Int) z121 (z122.toNat:Int) z123 (z124.toNat:Int) z125)<(y111 z112 z113 z114 z115 z116 z117 z118 z119 z120 z121 z122 z123 z124 z125))))))))) ∧
 (((decide (z113<(z119.length:Int)))=false) →
 ((((!z112)=true) →
 (Need ((z119.length+(List.length [(((cut [(83:Int),(84:Int),(85:Int),(86:Int)] z95.toNat (Int.toNat (z95+1))),([],([],([],())))):List Int×List (List Int)×List Int×List Int×Unit)]))≤bigN) ∧
 (Need ((-9223372036854775808≤(z95+1))∧((z95+1)≤9223372036854775807)) ∧
 (Need (((([],([],((some ((3,1),(0,(0,0)))),([],([],()))))):den qt0)=([],([],((some ((3,1),(0,(0,0)))),([],([],()))))))∧((z121.length=z121.length)∧((z123.length=z123.length)∧(z125.length=z125.length)))) ∧
 ((y93 (z95+1) z114 z115 (z116.toNat:Int) (z117.toNat:Int) z118 (z119++[(((cut [(83:Int),(84:Int),(85:Int),(86:Int)] z95.toNat (Int.toNat (z95+1))),([],([],([],())))):List Int×List (List Int)×List Int×List Int×Unit)]) (z120.toNat:Int) z121 (z122.toNat:Int) z123 (z124.toNat:Int) z125) ∧
   Need ((y94 (z95+1) z114 z115 (z116.toNat:Int) (z117.toNat:Int) z118 (z119++[(((cut [(83:Int),(84:Int),(85:Int),(86:Int)] z95.toNat (Int.toNat (z95+1))),([],([],([],())))):List Int×List (List Int)×List Int×List Int×Unit)]) (z120.toNat:Int) z121 (z122.toNat:Int) z123 (z124.toNat:Int) z125)<(y94 z95 z96 z97 z98 z99 z100 z101 z102 z103 z104 z105 z106 z107))))))) ∧
 (((!z112)=false) →
 (Need ((-9223372036854775808≤(z95+1))∧((z95+1)≤9223372036854775807)) ∧
 (Need (((([],([],((some ((3,1),(0,(0,0)))),([],([],()))))):den qt0)=([],([],((some ((3,1),(0,(0,0)))),([],([],()))))))∧((z121.length=z121.length)∧((z123.length=z123.length)∧(z125.length=z125.length)))) ∧
 ((y93 (z95+1) z114 z115 (z116.toNat:Int) (z117.toNat:Int) z118 z119 (z120.toNat:Int) z121 (z122.toNat:Int) z123 (z124.toNat:Int) z125) ∧
  Need ((y94 (z95+1) z114 z115 (z116.toNat:Int) (z117.toNat:Int) z118 z119 (z120.toNat:Int) z121 (z122.toNat:Int) z123 (z124.toNat:Int) z125)<(y94 z95 z96 z97 z98 z99 z100 z101 z102 z103 z104 z105 z106 z107)))))))))))))))))))))))))))))) ∧
 (((decide (z95<((Int.tmod x0_1 (4:Int))+(1:Int))))=false) →
 (Q (.tv [] qt0 (z96,(z97,((some ((1,0),(z98.toNat,(0,z99.toNat)))),(z100,(z101,())))))) [((1,0),⟨⟨(.arr (Nat.succ z104.toNat) z105.length (.pair (.int .i64) (.pair (.slice .str) .unit))),z105⟩,[]⟩)])))))))))))))))))))))))))))))))))))))))))))))))))))))))))))))))))))))))))))))))))))))):EvF PP orc 16 [.tv [] (.pair (.int .u8) (.pair (.int .u8) (.pair qt3 (.pair (.slice qt3) (.pair qt3 (.pair qt3 (.pair qt3 .unit))))))) (x0_0,(x0_1,(x0_2,(x0_3,(x0_4,(x0_5,(x0_6,())))))))] [] Q:=vc_of (by kernel_rfl) h
end Go.Am.G
