import Derived.Test.YtedimeeleabhnaaGreatDoorA03d
set_option linter.all false
set_option maxRecDepth 100000
set_option maxHeartbeats 4000000
namespace Go.Proofs.YtedimeeleabhnaaGreatDoor
open Vc
open Tryz
noncomputable section
def KJ (O:w7):(Ja3×Int)->Option ((Ja3×Int)⊕Ja3):=fun(a8,aA)=>ite (decide (aA<(O.2.2.2.2.2.2.1.length:Int))) (ite (0<=aA/\aA<(O.2.2.2.2.2.2.1.length:Int)) (ite (0<=aA/\aA<(O.2.2.2.2.2.2.1.length:Int)) (ite ((a8.length+([((9,(O.1,((qH sP O.2.2.2.2.2.2.1 aA).1,()))),((qH sP O.2.2.2.2.2.2.1 aA).2.1,(false,())))]:List rN).length)*64<=140737488355328) (ite (qG (aA+1)) (some (.inl ((a8++([((9,(O.1,((qH sP O.2.2.2.2.2.2.1 aA).1,()))),((qH sP O.2.2.2.2.2.2.1 aA).2.1,(false,())))]:List rN)),(aA+1)))) none) none) none) none) (some (.inr a8))
def TV (O:w7) (a8:pI):Option Ja3:=(OR O.2.2.2.1).bind λaA=>(S0 O.2.2.2.2.1).bind λaB=>(WE O.2.2.2.2.2.1).bind λaC=>rA (rC (KJ O) (([((4,(O.1,(([]:pI),()))),(a8,(false,()))),((5,(O.1,(([]:pI),()))),(O.2.1,(false,()))),((6,(O.1,(([]:pI),()))),(aA,(false,()))),((7,(O.1,(([]:pI),()))),(aB,(false,()))),((8,(O.1,(([]:pI),()))),((qH .str ([([110,101,119]:pI),([102,117,122,122,121]:pI),([116,114,97,110,115,108,97,116,101,100]:pI),([114,101,118,105,101,119,101,100]:pI),([111,98,115,111,108,101,116,101]:pI)]:pJ) O.2.2.2.2.2.1),(false,())))]:List rN),0)) λaD=>(I8 O.1 O.2.2.1).bind λaE=>ite ((aD.length+aE.length)*64<=140737488355328) (some (aD++aE)) none
abbrev a14 (x:(w7×pI)):List qK:=[sv tJ x.1,tv x.2]
@[go_sem] def a15:(w7×pI)->r8:=fun(O,a8)=>rv [] (TV O a8) λz=>([(.val (.list rV) z,some 0)],[.grow 49 5 (z.length)])
@[go_sem] def aMD O a8:=rF a14 qU a15 (O,a8)
@[go_sem] abbrev aFJ:Nat×r7:=mE 37 [.v,.v] a14 qU a15
def aFK:qW prog aFJ:=
 rI (rH (qO tN (qO rX (qO vC (qO D3 (qO F3 (qO D2 (qO MR rG))))))) (qQ ua (qQ Zh (qQ aAN (qQ aAP (qQ aFH rE)))))) func37 67 [(4,none)] rfl λE ⟨O,a8⟩=>by
  have u0:= @TV.eq_1;have u1:= @KJ.eq_1
  let l1:LE (KJ O):=⟨λx=>⟨[(2,rs 0 0),(5,(.val (.list rV) x.1,some 1)),(6,iv x.2)],[(0,.cells tJ O []),(1,.grow 49 5 (x.1.length))],2,67,0⟩⟩
  let x1:XE (KJ O) 0 Ja3:=⟨λx=>⟨[(2,rs 0 0),(5,(.val (.list rV) x,some 1))],[(0,.cells tJ O []),(1,.grow 49 5 (x.length))],2,67,0⟩⟩
  exact rK
def KK (O:pI) (a8:(Ja1×Int)):(Int×Ja3)->Option ((Int×Ja3)⊕Ja3):=fun(aA,aB)=>ite (decide (aA<(a8.1.length:Int))) (ite (0<=aA/\aA<(a8.1.length:Int)) ((TU ((qH rT a8.1 aA).2.1)).bind λaC=>(zZ (aB,()) 11 O ((qH rT a8.1 aA).1) aC.1).bind λaD=>ite (qG (aA+1)) (some (.inl ((aA+1),(aB++([((11,(O,(((qH rT a8.1 aA).1),()))),(aC.1,(false,())))]:List rN))))) none) none) (some (.inr aB))
def KL (O:(Ja3×Unit)) (a8:pI) (aA:pI):Option Ja3:=(KI aA).bind λaB=>ite (!aB) (ite (((([61]:pI)++aA).length:Int)<=9223372036854775807) ((zZ O 10 a8 ([]:pI) (([61]:pI)++aA)).bind λaC=>some (O.1++([((10,(a8,(([]:pI),()))),((([61]:pI)++aA),(false,())))]:List rN))) none) ((KF aA).bind λaD=>(TT aD.1).bind λaE=>(PA aE.1).bind λaF=>(zZ O 10 a8 ([]:pI) aF.1).bind λaG=>(TR aD.1).bind λaH=>rA (rC (KK a8 aH) (0,(O.1++([((10,(a8,(([]:pI),()))),(aF.1,(false,())))]:List rN)))) λaI=>some (aI))
abbrev a16 (x:(pI×pI×(Ja3×Unit)×Nat)):List qK:=[rs 0 0,tv x.1,tv x.2.1]
abbrev a17 (x:(pI×pI×(Ja3×Unit)×Nat)):List qP:=[.cells (.pair (.list rV) .unit) x.2.2.1 [(0,1)],.grow 49 5 x.2.2.2]
@[go_sem] def a18:(pI×pI×(Ja3×Unit)×Nat)->r8:=fun(O,a8,aA,aB)=>rv [aB=(aA.1.length)] (KL aA O a8) λz=>([],[.cells (.pair (.list rV) .unit) (z,()) [(0,1)],.grow 49 5 (z.length)])
@[go_sem] def aME O a8 aA aB:=rF a16 a17 a18 (O,a8,aA,aB)
@[go_sem] abbrev aFL:Nat×r7:=mE 61 [.p (.pair (.list rV) .unit) [0],.v,.v] a16 a17 a18
def aFM:qW prog aFL:=
 rI (rH (qO rX (qO uT (qO HJ (qO WD (qO tu rG))))) (qQ a13 (qQ tz (qQ a1L (qQ aFA (qQ a1O (qQ aFs (qQ aFC rE)))))))) func61 71 [] rfl λE ⟨O,a8,aA,aB⟩=>by
  have u0:= @KL.eq_1;have u1:= @KK.eq_1
  let l1 (aC:(Ja1×Int)):LE (KK O aC):=⟨λx=>⟨[(0,rs 0 0),(1,tv O),(52,(.val (.list rT) aC.1,some 2)),(53,iv (aC.1.length:Int)),(54,iv x.1)],[(0,.cells (.pair (.list rV) .unit) (x.2,()) [(0,1)]),(1,.grow 49 5 (x.2.length)),(2,.grow 128 2 (aC.1.length))],3,71,2⟩⟩
  let x1 aC:XE (KK O aC) 0 Ja3:=⟨λx=>⟨[],[(0,.cells (.pair (.list rV) .unit) (x,()) [(0,1)]),(1,.grow 49 5 (x.length))],2,71,2⟩⟩
  exact rK
def KM (O:uC):(Ja3×Int)->Option ((Ja3×Int)⊕Ja3):=fun(a8,aA)=>ite (decide (aA<(O.2.2.1.length:Int))) (ite (0<=aA/\aA<(O.2.2.1.length:Int)) (ite (0<=aA/\aA<(O.2.2.1.length:Int)) (ite ((a8.length+([((3,(([]:pI),((qH sP O.2.2.1 aA).1,()))),((qH sP O.2.2.1 aA).2.1,(false,())))]:List rN).length)*64<=140737488355328) (ite (qG (aA+1)) (some (.inl ((a8++([((3,(([]:pI),((qH sP O.2.2.1 aA).1,()))),((qH sP O.2.2.1 aA).2.1,(false,())))]:List rN)),(aA+1)))) none) none) none) none) (some (.inr a8))
def GB (O:uC):(Ja3×pI×Int)->Option ((Ja3×pI×Int)⊕Ja3):=fun(a8,aA,aB)=>ite (decide (aB<(O.2.2.2.1.length:Int))) (ite (0<=aB/\aB<(O.2.2.2.1.length:Int)) ((TV (qH tJ O.2.2.2.1 aB) aA).bind λaC=>ite ((a8.length+aC.length)*64<=140737488355328) (ite (0<=aB/\aB<(O.2.2.2.1.length:Int)) (ite (qG (aB+1)) (some (.inl ((a8++aC),(qH tJ O.2.2.2.1 aB).1,(aB+1)))) none) none) none) none) (some (.inr a8))
def TW (O:uC):Option (Ja3×Int):=(TS O).bind λa8=>ite (!a8) (some (([]:List rN),1)) ((OR O.2.1).bind λaA=>rA (rC (KM O) (([((1,(([]:pI),(([]:pI),()))),(O.1,(false,()))),((2,(([]:pI),(([]:pI),()))),(aA,(false,())))]:List rN),0)) λaB=>rA (rC (GB O) (aB,([]:pI),0)) λaC=>some (aC,0))
abbrev a19 (x:uC):List qK:=[sv wE x]
@[go_sem] def a2a:uC->r8:=λO=>rv [] (TW O) λz=>([(.val (.list rV) (z.1),some 0),iv (z.2)],[.grow 49 5 ((z.1).length)])
@[go_sem] def aMF O:=rF a19 qU a2a O
@[go_sem] abbrev aFN:Nat×r7:=mE 14 [.v] a19 qU a2a
def aFO:qW prog aFN:=
 rI (rH (qO rX (qO vC (qO D3 (qO JL (qO E9 (qO F3 (qO D2 (qO MR rG)))))))) (qQ aFu (qQ ua (qQ Zh (qQ aFK rE))))) func14 65 [(2,none),(3,none)] rfl λE O=>by
  have u0:= @TW.eq_1;have u1:= @KM.eq_1
  let l1:LE (KM O):=⟨λx=>⟨[(1,rs 0 0),(4,(.val (.list rV) x.1,some 1)),(5,iv x.2)],[(0,.cells wE O []),(1,.grow 49 5 (x.1.length))],2,65,0⟩⟩
  have u2:= @GB.eq_1
  let l2:LE (GB O):=⟨λx=>⟨[(1,rs 0 0),(4,(.val (.list rV) x.1,some 1)),(6,tv x.2.1),(7,iv x.2.2)],[(0,.cells wE O []),(1,.grow 49 5 (x.1.length))],2,65,0⟩⟩
  let x1:XE (KM O) 0 Ja3:=⟨λx=>⟨[(1,rs 0 0),(4,(.val (.list rV) x,some 1))],[(0,.cells wE O []),(1,.grow 49 5 (x.length))],2,65,0⟩⟩
  let x2:XE (GB O) 2 Ja3:=⟨λx=>⟨[(4,(.val (.list rV) x,some 0))],[(0,.grow 49 5 (x.length))],1,65,0⟩⟩
  exact rK
def PB (O:w7):(Int×Ja3)->Option ((Int×Ja3)⊕Ja3):=fun(a8,aA)=>ite (decide (a8<(O.2.2.2.2.2.2.1.length:Int))) (ite (0<=a8/\a8<(O.2.2.2.2.2.2.1.length:Int)) ((zZ (aA,()) 9 O.1 ((qH sP O.2.2.2.2.2.2.1 a8).1) ((qH sP O.2.2.2.2.2.2.1 a8).2.1)).bind λaB=>ite (qG (a8+1)) (some (.inl ((a8+1),(aA++([((9,(O.1,(((qH sP O.2.2.2.2.2.2.1 a8).1),()))),(((qH sP O.2.2.2.2.2.2.1 a8).2.1),(false,())))]:List rN))))) none) none) (some (.inr aA))
def TX (O:(Ja3×Unit)) (a8:w7) (aA:pI):Option Ja3:=(zZ O 4 a8.1 ([]:pI) aA).bind λaB=>(zZ ((O.1++([((4,(a8.1,(([]:pI),()))),(aA,(false,())))]:List rN)),O.2) 5 a8.1 ([]:pI) a8.2.1).bind λaC=>(OQ a8.2.2.2.1).bind λaD=>(zZ (((O.1++([((4,(a8.1,(([]:pI),()))),(aA,(false,())))]:List rN))++([((5,(a8.1,(([]:pI),()))),(a8.2.1,(false,())))]:List rN)),O.2) 6 a8.1 ([]:pI) aD).bind λaE=>ite (a8.2.2.2.2.1.length<=140737488355328/\List.length (F2 a8.2.2.2.2.1 ([32]:pI))<=140737488355328) ((zZ ((((O.1++([((4,(a8.1,(([]:pI),()))),(aA,(false,())))]:List rN))++([((5,(a8.1,(([]:pI),()))),(a8.2.1,(false,())))]:List rN))++([((6,(a8.1,(([]:pI),()))),(aD,(false,())))]:List rN)),O.2) 7 a8.1 ([]:pI) (F2 a8.2.2.2.2.1 ([32]:pI))).bind λaF=>ite (0<=a8.2.2.2.2.2.1/\a8.2.2.2.2.2.1<(([([110,101,119]:pI),([102,117,122,122,121]:pI),([116,114,97,110,115,108,97,116,101,100]:pI),([114,101,118,105,101,119,101,100]:pI),([111,98,115,111,108,101,116,101]:pI)]:pJ).length:Int)) ((zZ (((((O.1++([((4,(a8.1,(([]:pI),()))),(aA,(false,())))]:List rN))++([((5,(a8.1,(([]:pI),()))),(a8.2.1,(false,())))]:List rN))++([((6,(a8.1,(([]:pI),()))),(aD,(false,())))]:List rN))++([((7,(a8.1,(([]:pI),()))),((F2 a8.2.2.2.2.1 ([32]:pI)),(false,())))]:List rN)),O.2) 8 a8.1 ([]:pI) (qH .str ([([110,101,119]:pI),([102,117,122,122,121]:pI),([116,114,97,110,115,108,97,116,101,100]:pI),([114,101,118,105,101,119,101,100]:pI),([111,98,115,111,108,101,116,101]:pI)]:pJ) a8.2.2.2.2.2.1)).bind λaG=>rA (rC (PB a8) (0,(((((O.1++([((4,(a8.1,(([]:pI),()))),(aA,(false,())))]:List rN))++([((5,(a8.1,(([]:pI),()))),(a8.2.1,(false,())))]:List rN))++([((6,(a8.1,(([]:pI),()))),(aD,(false,())))]:List rN))++([((7,(a8.1,(([]:pI),()))),((F2 a8.2.2.2.2.1 ([32]:pI)),(false,())))]:List rN))++([((8,(a8.1,(([]:pI),()))),((qH .str ([([110,101,119]:pI),([102,117,122,122,121]:pI),([116,114,97,110,115,108,97,116,101,100]:pI),([114,101,118,105,101,119,101,100]:pI),([111,98,115,111,108,101,116,101]:pI)]:pJ) a8.2.2.2.2.2.1),(false,())))]:List rN)))) λaH=>(KL (aH,()) a8.1 a8.2.2.1).bind λaI=>some (aI)) none) none
abbrev a2b (x:(w7×pI×(Ja3×Unit)×Nat)):List qK:=[rs 0 0,sv tJ x.1,tv x.2.1]
abbrev a2c (x:(w7×pI×(Ja3×Unit)×Nat)):List qP:=[.cells (.pair (.list rV) .unit) x.2.2.1 [(0,1)],.grow 49 5 x.2.2.2]
@[go_sem] def a2d:(w7×pI×(Ja3×Unit)×Nat)->r8:=fun(O,a8,aA,aB)=>rv [aB=(aA.1.length)] (TX aA O a8) λz=>([],[.cells (.pair (.list rV) .unit) (z,()) [(0,1)],.grow 49 5 (z.length)])
@[go_sem] def aMG O a8 aA aB:=rF a2b a2c a2d (O,a8,aA,aB)
@[go_sem] abbrev aFP:Nat×r7:=mE 34 [.p (.pair (.list rV) .unit) [0],.v,.v] a2b a2c a2d
def aFQ:qW prog aFP:=
 rI (rH (qO tN (qO rX (qO vC (qO D3 (qO D2 (qO MR rG)))))) (qQ tz (qQ Ze (qQ Kt (qQ aAL (qQ aFM rE)))))) func34 64 [] rfl λE ⟨O,a8,aA,aB⟩=>by
  have u0:= @TX.eq_1;have u1:= @PB.eq_1
  let l1:LE (PB O):=⟨λx=>⟨[(0,rs 0 0),(4,rs 2 0),(43,sv (.list sP) O.2.2.2.2.2.2.1),(44,iv (O.2.2.2.2.2.2.1.length:Int)),(45,iv x.1)],[(0,.cells (.pair (.list rV) .unit) (x.2,()) [(0,1)]),(1,.grow 49 5 (x.2.length)),(2,.cells tJ O [])],3,64,2⟩⟩
  let x1:XE (PB O) 0 Ja3:=⟨λx=>⟨[(0,rs 0 0),(4,rs 2 0)],[(0,.cells (.pair (.list rV) .unit) (x,()) [(0,1)]),(1,.grow 49 5 (x.length)),(2,.cells tJ O [])],3,64,2⟩⟩
  exact rK
attribute [irreducible] TV KL TW TX
end
noncomputable section
def KN (O:uC):(Int×Ja3)->Option ((Int×Ja3)⊕Ja3):=fun(a8,aA)=>ite (decide (a8<(O.2.2.1.length:Int))) (ite (0<=a8/\a8<(O.2.2.1.length:Int)) ((zZ (aA,()) 3 ([]:pI) ((qH sP O.2.2.1 a8).1) ((qH sP O.2.2.1 a8).2.1)).bind λaB=>ite (qG (a8+1)) (some (.inl ((a8+1),(aA++([((3,(([]:pI),(((qH sP O.2.2.1 a8).1),()))),(((qH sP O.2.2.1 a8).2.1),(false,())))]:List rN))))) none) none) (some (.inr aA))
def GD (O:uC):(pI×Int×Ja3)->Option ((pI×Int×Ja3)⊕Ja3):=fun(a8,aA,aB)=>ite (decide (aA<(O.2.2.2.1.length:Int))) (ite (0<=aA/\aA<(O.2.2.2.1.length:Int)) ((TX (aB,()) (qH tJ O.2.2.2.1 aA) a8).bind λaC=>ite (qG (aA+1)) (some (.inl ((qH tJ O.2.2.2.1 aA).1,(aA+1),aC))) none) none) (some (.inr aB))
def KO (O:uC):Option (Ja3×Int):=(TE O).bind λa8=>ite (!a8) (some (([]:List rN),1)) ((zZ (([]:List rN),()) 1 ([]:pI) ([]:pI) O.1).bind λaA=>(OQ O.2.1).bind λaB=>(zZ ((([]:List rN)++([((1,(([]:pI),(([]:pI),()))),(O.1,(false,())))]:List rN)),()) 2 ([]:pI) ([]:pI) aB).bind λaC=>rA (rC (KN O) (0,((([]:List rN)++([((1,(([]:pI),(([]:pI),()))),(O.1,(false,())))]:List rN))++([((2,(([]:pI),(([]:pI),()))),(aB,(false,())))]:List rN)))) λaD=>rA (rC (GD O) (([]:pI),0,aD)) λaE=>some (aE,0))
abbrev a2e (x:uC):List qK:=[sv wE x]
@[go_sem] def a2f:uC->r8:=λO=>rv [] (KO O) λz=>([(.val (.list rV) (z.1),some 0),iv (z.2)],[.grow 49 5 ((z.1).length)])
@[go_sem] def aMH O:=rF a2e qU a2f O
@[go_sem] abbrev wb:Nat×r7:=mE 13 [.v] a2e qU a2f
def wc:qW prog wb:=
 rI (rH (qO rX (qO vC (qO D3 (qO JL (qO E9 (qO F3 (qO D2 (qO Jh (qO MR rG))))))))) (qQ aEx (qQ tz (qQ Ze (qQ aFQ rE))))) func13 56 [(2,none),(3,none)] rfl λE O=>by
  have u0:= @KO.eq_1;have u1:= @KN.eq_1
  let l1:LE (KN O):=⟨λx=>⟨[(1,rs 0 0),(4,rs 1 0),(25,sv (.list sP) O.2.2.1),(26,iv (O.2.2.1.length:Int)),(27,iv x.1)],[(0,.cells wE O []),(1,.cells (.pair (.list rV) .unit) (x.2,()) [(0,2)]),(2,.grow 49 5 (x.2.length))],3,56,0⟩⟩
  have u2:= @GD.eq_1
  let l2:LE (GD O):=⟨λx=>⟨[(4,rs 0 0),(7,tv x.1),(39,sv (.list tJ) O.2.2.2.1),(40,iv (O.2.2.2.1.length:Int)),(41,iv x.2.1)],[(0,.cells (.pair (.list rV) .unit) (x.2.2,()) [(0,1)]),(1,.grow 49 5 (x.2.2.length))],2,56,0⟩⟩
  let x1:XE (KN O) 0 Ja3:=⟨λx=>⟨[(1,rs 0 0),(4,rs 1 0)],[(0,.cells wE O []),(1,.cells (.pair (.list rV) .unit) (x,()) [(0,2)]),(2,.grow 49 5 (x.length))],3,56,0⟩⟩
  let x2:XE (GD O) 2 Ja3:=⟨λx=>⟨[(4,rs 0 0)],[(0,.cells (.pair (.list rV) .unit) (x,()) [(0,1)]),(1,.grow 49 5 (x.length))],2,56,0⟩⟩
  exact rK
attribute [irreducible] KO
end
noncomputable section
def a2g (O:(Ja3×Int)) (a8:(List (zX×pI))):(Ja3×Int)->Option ((Ja3×Int)⊕Ja3):=fun(aA,aB)=>ite (decide (aB<(O.1.length:Int))) (ite (0<=aB/\aB<(O.1.length:Int)) (ite (!(wX wU .str a8 ((qH rV O.1 aB).1))) (ite ((aA.length+([((qH rV O.1 aB).1,(([]:pI),(true,())))]:List rN).length)*64<=140737488355328) (ite (qG (aB+1)) (some (.inl ((aA++([((qH rV O.1 aB).1,(([]:pI),(true,())))]:List rN)),(aB+1)))) none) none) (ite (qG (aB+1)) (some (.inl (aA,(aB+1)))) none)) none) (some (.inr aA))
def a2h (O:(Ja3×Int)) (a8:(List (zX×pI))):(Ja3×Int)->Option ((Ja3×Int)⊕Ja3):=fun(aA,aB)=>ite (decide (aB<(O.1.length:Int))) (ite (0<=aB/\aB<(O.1.length:Int)) (ite ((!(wX wU .str a8 ((qH rV O.1 aB).1)))||(!decide ((sE wU .str a8 ((qH rV O.1 aB).1))=(qH rV O.1 aB).2.1))) (ite ((aA.length+([(qH rV O.1 aB)]:List rN).length)*64<=140737488355328) (ite (qG (aB+1)) (some (.inl ((aA++([(qH rV O.1 aB)]:List rN)),(aB+1)))) none) none) (ite (qG (aB+1)) (some (.inl (aA,(aB+1)))) none)) none) (some (.inr aA))
def a2i (O:(Ja3×Int)):(Ja3×Int)->Option ((Ja3×Int)⊕Ja3):=fun(a8,aA)=>ite (decide (aA<(O.1.length:Int))) (ite (0<=aA/\aA<(O.1.length:Int)) (ite (!false) (ite ((a8.length+([((qH rV O.1 aA).1,(([]:pI),(true,())))]:List rN).length)*64<=140737488355328) (ite (qG (aA+1)) (some (.inl ((a8++([((qH rV O.1 aA).1,(([]:pI),(true,())))]:List rN)),(aA+1)))) none) none) (ite (qG (aA+1)) (some (.inl (a8,(aA+1)))) none)) none) (some (.inr a8))
def a2j (O:(Ja3×Int)) (a8:(List (zX×pI))):(Ja3×Int)->Option ((Ja3×Int)⊕Ja3):=fun(aA,aB)=>ite (decide (aB<(O.1.length:Int))) (ite (0<=aB/\aB<(O.1.length:Int)) (ite ((!(wX wU .str a8 ((qH rV O.1 aB).1)))||(!decide ((sE wU .str a8 ((qH rV O.1 aB).1))=(qH rV O.1 aB).2.1))) (ite ((aA.length+([(qH rV O.1 aB)]:List rN).length)*64<=140737488355328) (ite (qG (aB+1)) (some (.inl ((aA++([(qH rV O.1 aB)]:List rN)),(aB+1)))) none) none) (ite (qG (aB+1)) (some (.inl (aA,(aB+1)))) none)) none) (some (.inr aA))
def a2k (O:(Ja3×Int)) (a8:(List (zX×pI))):(Ja3×Int)->Option ((Ja3×Int)⊕Ja3):=fun(aA,aB)=>ite (decide (aB<(O.1.length:Int))) (ite (0<=aB/\aB<(O.1.length:Int)) (ite (!(wX wU .str a8 ((qH rV O.1 aB).1))) (ite ((aA.length+([((qH rV O.1 aB).1,(([]:pI),(true,())))]:List rN).length)*64<=140737488355328) (ite (qG (aB+1)) (some (.inl ((aA++([((qH rV O.1 aB).1,(([]:pI),(true,())))]:List rN)),(aB+1)))) none) none) (ite (qG (aB+1)) (some (.inl (aA,(aB+1)))) none)) none) (some (.inr aA))
def a2l (O:(Ja3×Int)):(Ja3×Int)->Option ((Ja3×Int)⊕Ja3):=fun(a8,aA)=>ite (decide (aA<(O.1.length:Int))) (ite (0<=aA/\aA<(O.1.length:Int)) (ite ((!false)||(!decide (([]:pI)=(qH rV O.1 aA).2.1))) (ite ((a8.length+([(qH rV O.1 aA)]:List rN).length)*64<=140737488355328) (ite (qG (aA+1)) (some (.inl ((a8++([(qH rV O.1 aA)]:List rN)),(aA+1)))) none) none) (ite (qG (aA+1)) (some (.inl (a8,(aA+1)))) none)) none) (some (.inr a8))
def a2m (O:(Ja3×Int)):(Ja3×Int)->Option ((Ja3×Int)⊕Ja3):=fun(a8,aA)=>ite (decide (aA<(O.1.length:Int))) (ite (0<=aA/\aA<(O.1.length:Int)) (ite (!false) (ite ((a8.length+([((qH rV O.1 aA).1,(([]:pI),(true,())))]:List rN).length)*64<=140737488355328) (ite (qG (aA+1)) (some (.inl ((a8++([((qH rV O.1 aA).1,(([]:pI),(true,())))]:List rN)),(aA+1)))) none) none) (ite (qG (aA+1)) (some (.inl (a8,(aA+1)))) none)) none) (some (.inr a8))
def a2n (O:(Ja3×Int)):(Ja3×Int)->Option ((Ja3×Int)⊕Ja3):=fun(a8,aA)=>ite (decide (aA<(O.1.length:Int))) (ite (0<=aA/\aA<(O.1.length:Int)) (ite ((!false)||(!decide (([]:pI)=(qH rV O.1 aA).2.1))) (ite ((a8.length+([(qH rV O.1 aA)]:List rN).length)*64<=140737488355328) (ite (qG (aA+1)) (some (.inl ((a8++([(qH rV O.1 aA)]:List rN)),(aA+1)))) none) none) (ite (qG (aA+1)) (some (.inl (a8,(aA+1)))) none)) none) (some (.inr a8))
def ff (O:uC) (a8:uC):Option (Ja3×Int):=(KO O).bind λaA=>(KO a8).bind λaB=>ite ((!decide (aA.2=0))||(!decide (aB.2=0))) (some (([]:List rN),1)) (if (EB aA.1).isSome=true then (EB aA.1).bind λaC=>if (EB aB.1).isSome=true then (EB aB.1).bind λaD=>rA (rC (a2g aA aD) (([]:List rN),0)) λaE=>rA (rC (a2h aB aC) (aE,0)) λaF=>some (aF,0) else (S7 aB.1).bind λaG=>rA (rC (a2i aA) (([]:List rN),0)) λaH=>rA (rC (a2j aB aC) (aH,0)) λaI=>some (aI,0) else (S7 aA.1).bind λaJ=>if (EB aB.1).isSome=true then (EB aB.1).bind λaK=>rA (rC (a2k aA aK) (([]:List rN),0)) λaL=>rA (rC (a2l aB) (aL,0)) λaM=>some (aM,0) else (S7 aB.1).bind λaN=>rA (rC (a2m aA) (([]:List rN),0)) λaO=>rA (rC (a2n aB) (aO,0)) λaP=>some (aP,0))
abbrev wd (x:(uC×uC)):List qK:=[sv wE x.1,sv wE x.2]
@[go_sem] def wg:(uC×uC)->r8:=fun(O,a8)=>rv [] (ff O a8) λz=>([(.val (.list rV) (z.1),some 0),iv (z.2)],[.grow 49 5 ((z.1).length)])
@[go_sem] def aMI O a8:=rF wd qU wg (O,a8)
@[go_sem] abbrev aFR:Nat×r7:=mE 18 [.v,.v] wd qU wg
def sF:vP prog [RV,dg,dc,df,de,dj] (AE [wb,Rq]):=⟨⟨rX,⟨E9,⟨F3,⟨MQ,⟨JK,⟨dk,trivial⟩⟩⟩⟩⟩⟩,qQ wc (qQ aB4 rE),FW⟩
def wi:vP prog [RV,dg,dc,df,de,dj] (AE [wb,Rt]):=⟨⟨rX,⟨E9,⟨F3,⟨MQ,⟨JK,⟨dk,trivial⟩⟩⟩⟩⟩⟩,qQ wc (qQ aB5 rE),FW⟩
def aFS:qW prog aFR:=by
 refine MF sF func18 (c:=_) rfl (N:=98) qA (ts:=[(4,none),(5,none)]) rfl (λ_ _=>rfl) ?_;intro⟨O,a8⟩ hs hrow;dsimp only[wd,qU,wg,rv,rJ,BW,sZ,w4,uU,BX,Nat.reduceAdd] at hs hrow|-;have hz:=hs;obtain⟨z0,e⟩:=aNT.1 hz
 try rw[JG e]
 clear hz hs;unfold ff at e;refine s6 sF ?_;obtain⟨aA,hv1,hw1,e⟩:=xR e
 try simp only[go_sem] at hw1
 refine s6 sF ?_ (hp:=by exact(xQ hv1)) (h:=by simp only[go_sem,hw1];rfl);obtain⟨aB,hv2,hw2,e⟩:=xR e
 try simp only[go_sem] at hw2
 refine s6 sF ?_ (hp:=by exact(xQ hv2)) (h:=by simp only[go_sem,hw2];rfl);refine tF (s6 sF ?_ (hp:=by exact⟨id,BZ⟩));refine uS e ?_ ?_<;>intro e Z
 .refine s6 sF ?_;refine B8 (VV ?_);cases e;exact pK [(0,768)]
 refine uW (sS (tF ?_));by_cases hva2:(EB aA.1).isSome=true
 .rw[aM4 hva2] at e;obtain⟨aC,hv3,hw3,e⟩:=xR e
  try simp only[go_sem] at hw3
  refine tT sF ?_ (hp:=by exact(xQ hv3)) (h:=by simp only[go_sem,hw3];rfl);refine sS (tF ?_);by_cases hva3:(EB aB.1).isSome=true
  .rw[aM4 hva3] at e;obtain⟨aD,hv4,hw4,e⟩:=xR e
   try simp only[go_sem] at hw4
   refine tT sF ?_ (hp:=by exact(xQ hv4)) (h:=by simp only[go_sem,hw4];rfl);refine sS (s6 sF ?_);refine tF (s6 sF ?_);refine vL ?_;obtain⟨aE,hy1,e⟩:=qI e;refine AC 0 (λs=>s=(λx=>⟨[(8,(.val (.list rV) aB.1,some 0)),(10,(.val .mp (some 1),none)),(14,(.val (.list rV) x,some 2))],[(0,.grow 49 5 (aB.1.length)),(1,.map wU .str aC),(2,.grow 49 5 (x.length))],3,98,0⟩) aE) ?_ ?_
   .refine B9 hy1 (λx=>⟨[(8,(.val (.list rV) aB.1,some 0)),(10,(.val .mp (some 1),none)),(12,.val .mp (some 2),none),(14,(.val (.list rV) x.1,some 3)),(49,(.val (.list rV) aA.1,some 4)),(50,(.val (.int .i64) (aA.1.length:Int),none)),(51,.val (.int .i64) x.2,none)],[(0,.grow 49 5 (aB.1.length)),(1,.map wU .str aC),(2,.map wU .str aD),(3,.grow 49 5 (x.1.length)),(4,.grow 49 5 (aA.1.length))],5,98,0⟩) ⟨[8,10,12,14,49,50,51],[(0,384),(1,800),(2,1024),(3,1216),(4,160)]⟩ qB ?_;intro x1 w1 n1 d g;obtain⟨aF,aG⟩:=x1;unfold a2g at d;dsimp only at d|-;refine s6 sF ?_;refine tF (uS d (λd Z=>?_) (λd Z=>?_))
    .refine uW (sS (tF (vL ?_)));obtain⟨Y,d⟩:=sJ d;refine s6 sF ?_ (hp:=by exact Y);refine s6 sF ?_;refine s6 sF ?_;refine uS d ?_ ?_<;>intro d Z
     .obtain⟨X,d⟩:=sJ d;refine tT sF ?_ (hp:=by exact⟨qC,X⟩)
      refine vG (sS ?_);obtain⟨W,d⟩:=sJ d;refine tT sF ?_ (hp:=by exact W);cases d;exact wD ⟨⟨[8,10,12,14,49,50,51],[(0,0),(1,1),(2,2),(3,3),(4,4)]⟩,_,by rfl,g⟩
     refine uW (vG (sS ?_));obtain⟨V,d⟩:=sJ d;refine tT sF ?_ (hp:=by exact V);cases d;exact wD ⟨⟨[8,10,12,14,49,50,51],[(0,0),(1,1),(2,2),(3,3),(4,4)]⟩,_,by rfl,g⟩
    refine B7 (BV (BY ?_));cases d;cases g;exact AD ⟨⟨[8,10,14],[(0,0),(1,1),(2,3)]⟩,by rfl⟩
   rintro _ rfl;dsimp only at e|-;refine B6 (sS (tF ?_));refine s6 sF ?_;refine vL ?_;obtain⟨aH,hy1,e⟩:=qI e;refine AC 2 (λs=>s=(λx=>⟨[(14,(.val (.list rV) x,some 0))],[(0,.grow 49 5 (x.length))],1,98,0⟩) aH) ?_ ?_
   .refine B9 hy1 (λx=>⟨[(10,.val .mp (some 0),none),(14,(.val (.list rV) x.1,some 1)),(71,(.val (.list rV) aB.1,some 2)),(72,(.val (.int .i64) (aB.1.length:Int),none)),(73,.val (.int .i64) x.2,none)],[(0,.map wU .str aC),(1,.grow 49 5 (x.1.length)),(2,.grow 49 5 (aB.1.length))],3,98,0⟩) ⟨[10,14,71,72,73],[(0,1),(1,2),(2,0)]⟩ qB ?_;intro x1 w1 n1 d g;obtain⟨aI,aJ⟩:=x1;unfold a2h at d;dsimp only at d|-;refine s6 sF ?_;refine tF (uS d (λd Z=>?_) (λd Z=>?_))
    .refine uW (sS (tF (vL ?_)));obtain⟨U,d⟩:=sJ d;refine s6 sF ?_ (hp:=by exact U);refine s6 sF ?_;refine s6 sF ?_ (hp:=by exact⟨id,id,id,BZ⟩);refine uS d ?_ ?_<;>intro d Z
     .obtain⟨T,d⟩:=sJ d;refine tT sF ?_ (hp:=by exact⟨qC,T⟩)
      refine vG (sS ?_);obtain⟨S,d⟩:=sJ d;refine tT sF ?_ (hp:=by exact S);cases d;exact wD ⟨⟨[10,14,71,72,73],[(0,0),(1,1),(2,2)]⟩,_,by rfl,g⟩
     refine uW (vG (sS ?_));obtain⟨R,d⟩:=sJ d;refine tT sF ?_ (hp:=by exact R);cases d;exact wD ⟨⟨[10,14,71,72,73],[(0,0),(1,1),(2,2)]⟩,_,by rfl,g⟩
    refine B7 (BV (BY ?_));cases d;cases g;exact AD ⟨⟨[14],[(0,1)]⟩,by rfl⟩
   rintro _ rfl;dsimp only at e|-;refine B6 (sS ?_);refine s6 sF ?_;refine B8 ?_;cases e;exact pK [(0,0)]
  rw[aM9 hva3] at e;obtain⟨aK,hv13,hw13,e⟩:=xR e
  try simp only[go_sem] at hw13
  refine tT wi ?_ (hp:=by exact(xQ hv13)) (h:=by simp only[go_sem,hw13];rfl);refine sS (s6 sF ?_);refine tF (s6 sF ?_);refine vL ?_;obtain⟨aL,hy1,e⟩:=qI e;refine AC 0 (λs=>s=(λx=>⟨[(8,(.val (.list rV) aB.1,some 0)),(10,(.val .mp (some 1),none)),(14,(.val (.list rV) x,some 2))],[(0,.grow 49 5 (aB.1.length)),(1,.map wU .str aC),(2,.grow 49 5 (x.length))],3,98,0⟩) aL) ?_ ?_
  .refine B9 hy1 (λx=>⟨[(8,(.val (.list rV) aB.1,some 0)),(10,(.val .mp (some 1),none)),(12,.val .mp none,none),(14,(.val (.list rV) x.1,some 2)),(49,(.val (.list rV) aA.1,some 3)),(50,(.val (.int .i64) (aA.1.length:Int),none)),(51,.val (.int .i64) x.2,none)],[(0,.grow 49 5 (aB.1.length)),(1,.map wU .str aC),(2,.grow 49 5 (x.1.length)),(3,.grow 49 5 (aA.1.length))],4,98,0⟩) ⟨[8,10,12,14,49,50,51],[(0,384),(1,800),(2,1216),(3,160)]⟩ qB ?_;intro x1 w1 n1 d g;obtain⟨aM,aN⟩:=x1;unfold a2i at d;dsimp only at d|-;refine s6 sF ?_;refine tF (uS d (λd Z=>?_) (λd Z=>?_))
   .refine uW (sS (tF (vL ?_)));obtain⟨Q,d⟩:=sJ d;refine s6 sF ?_ (hp:=by exact Q);refine s6 sF ?_;refine s6 sF ?_;refine uS d ?_ ?_<;>intro d Z
    .obtain⟨P,d⟩:=sJ d;refine tT sF ?_ (hp:=by exact⟨qC,P⟩)
     refine vG (sS ?_);obtain⟨M,d⟩:=sJ d;refine tT sF ?_ (hp:=by exact M);cases d;exact wD ⟨⟨[8,10,12,14,49,50,51],[(0,0),(1,1),(2,2),(3,3)]⟩,_,by rfl,g⟩
    refine uW (vG (sS ?_));obtain⟨L,d⟩:=sJ d;refine tT sF ?_ (hp:=by exact L);cases d;exact wD ⟨⟨[8,10,12,14,49,50,51],[(0,0),(1,1),(2,2),(3,3)]⟩,_,by rfl,g⟩
   refine B7 (BV (BY ?_));cases d;cases g;exact AD ⟨⟨[8,10,14],[(0,0),(1,1),(2,2)]⟩,by rfl⟩
  rintro _ rfl;dsimp only at e|-;refine B6 (sS (tF ?_));refine s6 sF ?_;refine vL ?_;obtain⟨aO,hy1,e⟩:=qI e;refine AC 2 (λs=>s=(λx=>⟨[(14,(.val (.list rV) x,some 0))],[(0,.grow 49 5 (x.length))],1,98,0⟩) aO) ?_ ?_
  .refine B9 hy1 (λx=>⟨[(10,.val .mp (some 0),none),(14,(.val (.list rV) x.1,some 1)),(71,(.val (.list rV) aB.1,some 2)),(72,(.val (.int .i64) (aB.1.length:Int),none)),(73,.val (.int .i64) x.2,none)],[(0,.map wU .str aC),(1,.grow 49 5 (x.1.length)),(2,.grow 49 5 (aB.1.length))],3,98,0⟩) ⟨[10,14,71,72,73],[(0,1),(1,2),(2,0)]⟩ qB ?_;intro x1 w1 n1 d g;obtain⟨aP,aQ⟩:=x1;unfold a2j at d;dsimp only at d|-;refine s6 sF ?_;refine tF (uS d (λd Z=>?_) (λd Z=>?_))
   .refine uW (sS (tF (vL ?_)));obtain⟨K,d⟩:=sJ d;refine s6 sF ?_ (hp:=by exact K);refine s6 sF ?_;refine s6 sF ?_ (hp:=by exact⟨id,id,id,BZ⟩);refine uS d ?_ ?_<;>intro d Z
    .obtain⟨J,d⟩:=sJ d;refine tT sF ?_ (hp:=by exact⟨qC,J⟩)
     refine vG (sS ?_);obtain⟨I,d⟩:=sJ d;refine tT sF ?_ (hp:=by exact I);cases d;exact wD ⟨⟨[10,14,71,72,73],[(0,0),(1,1),(2,2)]⟩,_,by rfl,g⟩
    refine uW (vG (sS ?_));obtain⟨H,d⟩:=sJ d;refine tT sF ?_ (hp:=by exact H);cases d;exact wD ⟨⟨[10,14,71,72,73],[(0,0),(1,1),(2,2)]⟩,_,by rfl,g⟩
   refine B7 (BV (BY ?_));cases d;cases g;exact AD ⟨⟨[14],[(0,1)]⟩,by rfl⟩
  rintro _ rfl;dsimp only at e|-;refine B6 (sS ?_);refine s6 sF ?_;refine B8 ?_;cases e;exact pK [(0,0)]
 rw[aM9 hva2] at e;obtain⟨aR,hv22,hw22,e⟩:=xR e
 try simp only[go_sem] at hw22
 refine tT wi ?_ (hp:=by exact(xQ hv22)) (h:=by simp only[go_sem,hw22];rfl);refine sS (tF ?_);by_cases hva12:(EB aB.1).isSome=true
 .rw[aM4 hva12] at e;obtain⟨aS,hv23,hw23,e⟩:=xR e
  try simp only[go_sem] at hw23
  refine tT sF ?_ (hp:=by exact(xQ hv23)) (h:=by simp only[go_sem,hw23];rfl);refine sS (s6 sF ?_);refine tF (s6 sF ?_);refine vL ?_;obtain⟨aT,hy1,e⟩:=qI e;refine AC 0 (λs=>s=(λx=>⟨[(8,(.val (.list rV) aB.1,some 0)),(10,(.val .mp none,none)),(14,(.val (.list rV) x,some 1))],[(0,.grow 49 5 (aB.1.length)),(1,.grow 49 5 (x.length))],2,98,0⟩) aT) ?_ ?_
  .refine B9 hy1 (λx=>⟨[(8,(.val (.list rV) aB.1,some 0)),(10,(.val .mp none,none)),(12,.val .mp (some 1),none),(14,(.val (.list rV) x.1,some 2)),(49,(.val (.list rV) aA.1,some 3)),(50,(.val (.int .i64) (aA.1.length:Int),none)),(51,.val (.int .i64) x.2,none)],[(0,.grow 49 5 (aB.1.length)),(1,.map wU .str aS),(2,.grow 49 5 (x.1.length)),(3,.grow 49 5 (aA.1.length))],4,98,0⟩) ⟨[8,10,12,14,49,50,51],[(0,384),(1,1024),(2,1216),(3,160)]⟩ qB ?_;intro x1 w1 n1 d g;obtain⟨aU,aV⟩:=x1;unfold a2k at d;dsimp only at d|-;refine s6 sF ?_;refine tF (uS d (λd Z=>?_) (λd Z=>?_))
   .refine uW (sS (tF (vL ?_)));obtain⟨G,d⟩:=sJ d;refine s6 sF ?_ (hp:=by exact G);refine s6 sF ?_;refine s6 sF ?_;refine uS d ?_ ?_<;>intro d Z
    .obtain⟨F,d⟩:=sJ d;refine tT sF ?_ (hp:=by exact⟨qC,F⟩)
     refine vG (sS ?_);obtain⟨E,d⟩:=sJ d;refine tT sF ?_ (hp:=by exact E);cases d;exact wD ⟨⟨[8,10,12,14,49,50,51],[(0,0),(1,1),(2,2),(3,3)]⟩,_,by rfl,g⟩
    refine uW (vG (sS ?_));obtain⟨D,d⟩:=sJ d;refine tT sF ?_ (hp:=by exact D);cases d;exact wD ⟨⟨[8,10,12,14,49,50,51],[(0,0),(1,1),(2,2),(3,3)]⟩,_,by rfl,g⟩
   refine B7 (BV (BY ?_));cases d;cases g;exact AD ⟨⟨[8,10,14],[(0,0),(1,2)]⟩,by rfl⟩
  rintro _ rfl;dsimp only at e|-;refine B6 (sS (tF ?_));refine s6 sF ?_;refine vL ?_;obtain⟨aW,hy1,e⟩:=qI e;refine AC 2 (λs=>s=(λx=>⟨[(14,(.val (.list rV) x,some 0))],[(0,.grow 49 5 (x.length))],1,98,0⟩) aW) ?_ ?_
  .refine B9 hy1 (λx=>⟨[(10,.val .mp none,none),(14,(.val (.list rV) x.1,some 0)),(71,(.val (.list rV) aB.1,some 1)),(72,(.val (.int .i64) (aB.1.length:Int),none)),(73,.val (.int .i64) x.2,none)],[(0,.grow 49 5 (x.1.length)),(1,.grow 49 5 (aB.1.length))],2,98,0⟩) ⟨[10,14,71,72,73],[(0,1),(1,0)]⟩ qB ?_;intro x1 w1 n1 d g;obtain⟨aX,aY⟩:=x1;unfold a2l at d;dsimp only at d|-;refine s6 sF ?_;refine tF (uS d (λd Z=>?_) (λd Z=>?_))
   .refine uW (sS (tF (vL ?_)));obtain⟨C,d⟩:=sJ d;refine s6 sF ?_ (hp:=by exact C);refine s6 sF ?_;refine s6 sF ?_ (hp:=by exact⟨id,id,id,(λf=>by first|exact BZ f|exact rfl|exact f.elim|simp_all)⟩)
    refine uS d ?_ ?_<;>intro d Z
    .obtain⟨B,d⟩:=sJ d;refine tT sF ?_ (hp:=by exact⟨qC,B⟩)
     refine vG (sS ?_);obtain⟨A,d⟩:=sJ d;refine tT sF ?_ (hp:=by exact A);cases d;exact wD ⟨⟨[10,14,71,72,73],[(0,0),(1,1)]⟩,_,by rfl,g⟩
    refine uW (vG (sS ?_));obtain⟨z,d⟩:=sJ d;refine tT sF ?_ (hp:=by exact z);cases d;exact wD ⟨⟨[10,14,71,72,73],[(0,0),(1,1)]⟩,_,by rfl,g⟩
   refine B7 (BV (BY ?_));cases d;cases g;exact AD ⟨⟨[14],[(0,0)]⟩,by rfl⟩
  rintro _ rfl;dsimp only at e|-;refine B6 (sS ?_);refine s6 sF ?_;refine B8 ?_;cases e;exact pK [(0,0)]
 rw[aM9 hva12] at e;obtain⟨aZ,hv32,hw32,e⟩:=xR e
 try simp only[go_sem] at hw32
 refine tT wi ?_ (hp:=by exact(xQ hv32)) (h:=by simp only[go_sem,hw32];rfl);refine sS (s6 sF ?_);refine tF (s6 sF ?_);refine vL ?_;obtain⟨bA,hy1,e⟩:=qI e;refine AC 0 (λs=>s=(λx=>⟨[(8,(.val (.list rV) aB.1,some 0)),(10,(.val .mp none,none)),(14,(.val (.list rV) x,some 1))],[(0,.grow 49 5 (aB.1.length)),(1,.grow 49 5 (x.length))],2,98,0⟩) bA) ?_ ?_
 .refine B9 hy1 (λx=>⟨[(8,(.val (.list rV) aB.1,some 0)),(10,(.val .mp none,none)),(12,.val .mp none,none),(14,(.val (.list rV) x.1,some 1)),(49,(.val (.list rV) aA.1,some 2)),(50,(.val (.int .i64) (aA.1.length:Int),none)),(51,.val (.int .i64) x.2,none)],[(0,.grow 49 5 (aB.1.length)),(1,.grow 49 5 (x.1.length)),(2,.grow 49 5 (aA.1.length))],3,98,0⟩) ⟨[8,10,12,14,49,50,51],[(0,384),(1,1216),(2,160)]⟩ qB ?_;intro x1 w1 n1 d g;obtain⟨bB,bC⟩:=x1;unfold a2m at d;dsimp only at d|-;refine s6 sF ?_;refine tF (uS d (λd Z=>?_) (λd Z=>?_))
  .refine uW (sS (tF (vL ?_)));obtain⟨y,d⟩:=sJ d;refine s6 sF ?_ (hp:=by exact y);refine s6 sF ?_;refine s6 sF ?_;refine uS d ?_ ?_<;>intro d Z
   .obtain⟨w,d⟩:=sJ d;refine tT sF ?_ (hp:=by exact⟨qC,w⟩)
    refine vG (sS ?_);obtain⟨v,d⟩:=sJ d;refine tT sF ?_ (hp:=by exact v);cases d;exact wD ⟨⟨[8,10,12,14,49,50,51],[(0,0),(1,1),(2,2)]⟩,_,by rfl,g⟩
   refine uW (vG (sS ?_));obtain⟨u,d⟩:=sJ d;refine tT sF ?_ (hp:=by exact u);cases d;exact wD ⟨⟨[8,10,12,14,49,50,51],[(0,0),(1,1),(2,2)]⟩,_,by rfl,g⟩
  refine B7 (BV (BY ?_));cases d;cases g;exact AD ⟨⟨[8,10,14],[(0,0),(1,1)]⟩,by rfl⟩
 rintro _ rfl;dsimp only at e|-;refine B6 (sS (tF ?_));refine s6 sF ?_;refine vL ?_;obtain⟨bD,hy1,e⟩:=qI e;refine AC 2 (λs=>s=(λx=>⟨[(14,(.val (.list rV) x,some 0))],[(0,.grow 49 5 (x.length))],1,98,0⟩) bD) ?_ ?_
 .refine B9 hy1 (λx=>⟨[(10,.val .mp none,none),(14,(.val (.list rV) x.1,some 0)),(71,(.val (.list rV) aB.1,some 1)),(72,(.val (.int .i64) (aB.1.length:Int),none)),(73,.val (.int .i64) x.2,none)],[(0,.grow 49 5 (x.1.length)),(1,.grow 49 5 (aB.1.length))],2,98,0⟩) ⟨[10,14,71,72,73],[(0,1),(1,0)]⟩ qB ?_;intro x1 w1 n1 d g;obtain⟨bE,bF⟩:=x1;unfold a2n at d;dsimp only at d|-;refine s6 sF ?_;refine tF (uS d (λd Z=>?_) (λd Z=>?_))
  .refine uW (sS (tF (vL ?_)));obtain⟨t,d⟩:=sJ d;refine s6 sF ?_ (hp:=by exact t);refine s6 sF ?_;refine s6 sF ?_ (hp:=by exact⟨id,id,id,(λf=>by first|exact BZ f|exact rfl|exact f.elim|simp_all)⟩)
   refine uS d ?_ ?_<;>intro d Z
   .obtain⟨r,d⟩:=sJ d;refine tT sF ?_ (hp:=by exact⟨qC,r⟩)
    refine vG (sS ?_);obtain⟨q,d⟩:=sJ d;refine tT sF ?_ (hp:=by exact q);cases d;exact wD ⟨⟨[10,14,71,72,73],[(0,0),(1,1)]⟩,_,by rfl,g⟩
   refine uW (vG (sS ?_));obtain⟨p,d⟩:=sJ d;refine tT sF ?_ (hp:=by exact p);cases d;exact wD ⟨⟨[10,14,71,72,73],[(0,0),(1,1)]⟩,_,by rfl,g⟩
  refine B7 (BV (BY ?_));cases d;cases g;exact AD ⟨⟨[14],[(0,0)]⟩,by rfl⟩
 rintro _ rfl;dsimp only at e|-;refine B6 (sS ?_);refine s6 sF ?_;refine B8 ?_;cases e;exact pK [(0,0)]
attribute [irreducible] ff
end
noncomputable section
def TY:Option Bool:=(ff (([120]:pI),(([]:pJ),(([]:List wT),(([(([97]:pI),(([]:pI),(([]:pI),(([]:pJ),(([]:pJ),(0,(([]:List wT),()))))))),(([98]:pI),(([]:pI),(([]:pI),(([]:pJ),(([]:pJ),(0,(([]:List wT),())))))))]:List w7),())))) (([120]:pI),(([]:pJ),(([]:List wT),(([(([98]:pI),(([]:pI),(([]:pI),(([]:pJ),(([]:pJ),(0,(([]:List wT),()))))))),(([97]:pI),(([]:pI),(([]:pI),(([]:pJ),(([]:pJ),(0,(([]:List wT),())))))))]:List w7),()))))).bind λO=>ite ((((O.2=0)&&((O.1.length:Int)=2))==true)=true->0<=(0:Int)/\0<(O.1.length:Int)) (ite (((((O.2=0)&&((O.1.length:Int)=2))&&((((qH rV O.1 0).1.1=4)&&(((qH rV O.1 0).1.2.1=([98]:pI))&&((qH rV O.1 0).1.2.2.1=([]:pI))))&&(((qH rV O.1 0).2.1=([]:pI))&&((qH rV O.1 0).2.2.1==false))))==true)=true->0<=(1:Int)/\1<(O.1.length:Int)) (some ((((O.2=0)&&((O.1.length:Int)=2))&&((((qH rV O.1 0).1.1=4)&&(((qH rV O.1 0).1.2.1=([98]:pI))&&((qH rV O.1 0).1.2.2.1=([]:pI))))&&(((qH rV O.1 0).2.1=([]:pI))&&((qH rV O.1 0).2.2.1==false))))&&((qH rV O.1 1).2.1=([98]:pI)))) none) none
section
abbrev a2o:List qK:=[]
abbrev a2p:List qP:=[]
@[go_sem] def a2q:r8:=⟨[(TY).isSome=true],[(.val .bool (val TY),none)],[]⟩
def a2r:List qK->List qP->Option r8:=DZ (V:=Unit) (λx=>a2o) (λx=>a2p) λx=>a2q
@[go_sem] def aMJ:a2r (no_index a2o) (no_index a2p)=some a2q:=qx (λ_ _ h1 h2=>by cases h1;cases h2;rfl) ()
end
@[go_sem] abbrev aFT:Nat×r7:=(11,⟨[],a2r,[],[],none⟩)
def aFU:qW prog aFT:=
 rI (rH (qO rX (qO JL (qO E9 (qO F3 (qO MQ (qO JK (qO D2 rG))))))) (qQ aFS rE)) func11 41 [(0,none)] rfl λE ⟨⟩=>by
  have u0:= @TY.eq_1;exact rK
def PD (O:uC) (a8:pI):Option Bool:=TY.bind λaA=>ite (!aA) (some (false)) ((SO O).bind λaB=>ite ((!aB)||(300<(a8.length:Int))) (some (true)) ((KO O).bind λaC=>(TW O).bind λaD=>ite (((decide (aC.2=aD.2))==true)=true->(HK aC.1 aD.1).isSome=true) (ite ((((aC.2=aD.2)&&(val (HK aC.1 aD.1)))==true)=true->(KI a8).isSome=true) (ite ((((aC.2=aD.2)&&(val (HK aC.1 aD.1)))==true)=true->(KG a8).isSome=true) (some (((aC.2=aD.2)&&(val (HK aC.1 aD.1)))&&((val (KI a8))==(val (KG a8))))) none) none) none))
section
variable (O:uC) (a8:pI)
abbrev fg:List qK:=[(.val wE O,none),(.val .str a8,none)]
abbrev wj:List qP:=[]
@[go_sem] def XF:r8:=⟨[(PD O a8).isSome=true],[(.val .bool (val (PD O a8)),none)],[]⟩
def wk:List qK->List qP->Option r8:=DZ (V:=(uC×pI)) (λx=>fg x.1 x.2) (λx=>wj) λx=>XF x.1 x.2
@[go_sem] def aFV:wk (no_index (fg O a8)) (no_index wj)=some (XF O a8):=qx (λ⟨_,_⟩⟨_,_⟩ x y=>by cases x;cases y;rfl) (O,a8)
end
@[go_sem] abbrev aFW:Nat×r7:=(3,⟨[.v,.v],wk,[],[],none⟩)
def aFX:qW prog aFW:=
 rI (rH (qO FV (qO rX (qO E9 rG))) (qQ aFU (qQ aDc (qQ wc (qQ aFO (qQ aAA (qQ a13 (qQ a1V rE)))))))) func3 44 [(4,none)] rfl λE ⟨O,a8⟩=>by
  have u0:= @PD.eq_1;exact rK
attribute [irreducible] TY PD
end
end Go.Proofs.YtedimeeleabhnaaGreatDoor
section
end
