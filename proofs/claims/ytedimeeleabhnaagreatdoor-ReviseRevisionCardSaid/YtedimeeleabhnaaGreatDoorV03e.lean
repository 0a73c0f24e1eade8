import Derived.Test.YtedimeeleabhnaaGreatDoorV03d
set_option linter.all false
set_option maxRecDepth 100000
set_option maxHeartbeats 4000000
namespace Go.Proofs.YtedimeeleabhnaaGreatDoor
open Vc
open Tryz
noncomputable section
def PT (O:pJ) (a8:Bool):Option (Ja0×Int×Int×Int×Int):=(PO O).bind λaA=>ite (decide (aA.2.2=6)) (some (([]:List qG),4000,0,0,aA.2.2)) (rD (σ:=(Int×Int×Ja0)) (ite (decide (aA.2.2=0)) ((PS O aA.1 0 (0,(0,())) 0 a8 ([]:pS)).bind λaB=>ite (decide (aB.2.1<(aA.1.length:Int))) ((vV O aA.1 aB.2.1 (aB.2.2.1,(aB.2.2.2.1,())) 3 aB.2.2.2.2).bind λaC=>some (aC.1,aC.2,aB.1)) (some (aB.2.2.1,aB.2.2.2.1,aB.1))) (some (aA.2.1,aA.2.2,([]:List qG)))) fun(aD,aE,aF)=>ite (!decide (aE=0)) (ite (O.length<=4611686018427387904) (WH (de O aD) λaG=>some (([]:List qG),aG.1.1,aG.1.2.1,aG.1.2.2.1,aE)) none) ((KG aF).bind λaH=>ite (decide (4000<aH)) (some (([]:List qG),0,0,0,6)) (some (aF,0,0,0,0))))
abbrev a2n (x:(pJ×Bool)):List qP:=[tv x.1,bv x.2]
@[go_sem] def a2o:(pJ×Bool)->r9:=fun(O,a8)=>rv [] (PT O a8) λz=>([(.val (.list .part) (z.1),some 0),sv EK (z.2.1,(z.2.2.1,(z.2.2.2.1,()))),iv (z.2.2.2.2)],[.grow 183 6 ((z.1).length)])
@[go_sem] def aNT O a8:=rI a2n qV a2o (O,a8)
@[go_sem] abbrev aGL:Nat×r8:=mE 105 [.v,.v] a2n qV a2o
def aGM:qZ prog aGL:=
 rJ (rH (qO tO (qO HW (qO rY (qO BD (qO N7 (qO uW (qO HX (qO A4 (qO zJ rG))))))))) (qS aGj (qS aGK (qS EN (qS aBx (qS Xg rF)))))) func105 67 [(4,none),(5,some 90),(6,none)] rfl λE ⟨O,a8⟩=>by
  have u0:= @PT.eq_1
  let j1:JE 25 (Int×Int×Ja0):=⟨λx=>⟨[(0,tv O),(5,rs 0 0),(8,iv x.1),(9,iv x.2.1),(10,(.val (.list .part) x.2.2,some 1))],[(0,.cells EK (0,(0,(0,()))) []),(1,.grow 183 6 (x.2.2.length))],2,67,0⟩⟩
  exact rM
def PU (O:tP):Int->Option (Int⊕(Unit⊕Bool)):=λa8=>ite (decide (a8<(O.2.2.2.1.length:Int))) (ite (0<=a8/\a8<(O.2.2.2.1.length:Int)) ((SJ O ((qI tJ O.2.2.2.1 a8).1)).bind λaA=>ite (((!decide (aA.1=a8))==false)=true->0<=a8/\a8<(O.2.2.2.1.length:Int)) (ite (((!decide (aA.1=a8))==false)=true->(U1 (qI tJ O.2.2.2.1 a8)).isSome=true) (ite ((!decide (aA.1=a8))||(!((((((((((!decide (((qI tJ O.2.2.2.1 a8).1)=([]:pJ)))&&((((qI tJ O.2.2.2.1 a8).1).length:Int)<=200))&&(((((qI tJ O.2.2.2.1 a8).1).length:Int)<=4000)&&(val (vA ((qI tJ O.2.2.2.1 a8).1)))))&&(((((qI tJ O.2.2.2.1 a8).2.1).length:Int)<=4000)&&(val (vA ((qI tJ O.2.2.2.1 a8).2.1)))))&&(((((qI tJ O.2.2.2.1 a8).2.2.1).length:Int)<=4000)&&(val (vA ((qI tJ O.2.2.2.1 a8).2.2.1)))))&&(val (C6 ((qI tJ O.2.2.2.1 a8).2.2.2.1))))&&(val (GH ((qI tJ O.2.2.2.1 a8).2.2.2.2.1))))&&(0<=((qI tJ O.2.2.2.1 a8).2.2.2.2.2.1)))&&(((qI tJ O.2.2.2.1 a8).2.2.2.2.2.1)<=4))&&(val (FN ((qI tJ O.2.2.2.1 a8).2.2.2.2.2.2.1)))))) (some (.inr (.inr (false)))) (ite (qH (a8+1)) (some (.inl (a8+1))) none)) none) none) none) (some (.inr (.inl ())))
def U4 (O:tP):Option Bool:=(U0 O).bind λa8=>ite ((!a8)||(1000<(O.2.2.2.1.length:Int))) (some (false)) (sK (rC (PU O) 0) λ_=>some (true))
abbrev a2p (x:tP):List qP:=[sv vL x]
@[go_sem] def a2q:tP->r9:=λO=>rv [] (U4 O) λz=>([bv z],[])
@[go_sem] def aNU O:=rI a2p qV a2q O
@[go_sem] abbrev aGN:Nat×r8:=mE 26 [.v] a2p qV a2q
def aGO:qZ prog aGN:=
 rJ (rH (qO rY (qO JY (qO D3 (qO D4 rG)))) (qS aGu (qS aBF (qS aGw rF)))) func26 45 [(2,none)] rfl λE O=>by
  have u0:= @U4.eq_1;have u1:= @PU.eq_1
  let l1:LE (PU O):=⟨λx=>⟨[(1,rs 0 0),(3,iv x)],[(0,.cells vL O [])],1,45,0⟩⟩
  let x1:XE (PU O) 0 Unit:=⟨λ_=>⟨[],[],0,45,0⟩⟩
  exact rM
def KW (O:pJ):Option (Ja0×Int×Int×Int×Int):=(PT O false).bind λa8=>some (a8.1,a8.2.1,a8.2.2.1,a8.2.2.2.1,a8.2.2.2.2)
abbrev a2r (x:pJ):List qP:=[tv x]
@[go_sem] def a2s:pJ->r9:=λO=>rv [] (KW O) λz=>([(.val (.list .part) (z.1),some 0),sv EK (z.2.1,(z.2.2.1,(z.2.2.2.1,()))),iv (z.2.2.2.2)],[.grow 183 6 ((z.1).length)])
@[go_sem] def aNV O:=rI a2r qV a2s O
@[go_sem] abbrev aGP:Nat×r8:=mE 66 [.v] a2r qV a2s
def a2t:qZ prog aGP:=
 rJ (rH (qO uW (qO HX rG)) (qS aGM rF)) func66 10 [(2,none),(3,some 90),(4,none)] rfl λE O=>by
  have u0:= @KW.eq_1;exact rM
def PV (O:Ja0):Option (pJ×Int):=(KU O).bind λa8=>ite (!a8) (some (([]:pJ),1)) ((OW O).bind λaA=>some (aA,0))
abbrev a2u (x:Ja0):List qP:=[sv (.list .part) x]
@[go_sem] def a2v:Ja0->r9:=λO=>rv [] (PV O) λz=>([tv (z.1),iv (z.2)],[])
@[go_sem] def aNW O:=rI a2u qV a2v O
@[go_sem] abbrev aGQ:Nat×r8:=mE 67 [.v] a2u qV a2v
def a2w:qZ prog aGQ:=
 rJ (rH rG (qS xl (qS Zl rF))) func67 9 [(2,none),(3,none)] rfl λE O=>by
  have u0:= @PV.eq_1;exact rM
def U5 (O:Ja0):Option (Ja0×Int):=(KU O).bind λa8=>ite (!a8) (some (([]:List qG),1)) ((XB O).bind λaA=>some (aA,0))
abbrev a2x (x:Ja0):List qP:=[sv (.list .part) x]
@[go_sem] def a2y:Ja0->r9:=λO=>rv [] (U5 O) λz=>([(.val (.list .part) (z.1),some 0),iv (z.2)],[.grow 183 6 ((z.1).length)])
@[go_sem] def aNX O:=rI a2x qV a2y O
@[go_sem] abbrev aGR:Nat×r8:=mE 97 [.v] a2x qV a2y
def aGS:qZ prog aGR:=
 rJ (rH (qO uW rG) (qS xl (qS aEs rF))) func97 9 [(2,none),(3,none)] rfl λE O=>by
  have u0:= @U5.eq_1;exact rM
def U6 (O:Ja0):Option (pJ×Int):=(U2 O).bind λa8=>ite (!a8) (some (([]:pJ),1)) ((OW O).bind λaA=>some (aA,0))
abbrev a2z (x:Ja0):List qP:=[sv (.list .part) x]
@[go_sem] def a2A:Ja0->r9:=λO=>rv [] (U6 O) λz=>([tv (z.1),iv (z.2)],[])
@[go_sem] def aNY O:=rI a2z qV a2A O
@[go_sem] abbrev aGT:Nat×r8:=mE 99 [.v] a2z qV a2A
def aGU:qZ prog aGT:=
 rJ (rH rG (qS aGz (qS Zl rF))) func99 9 [(2,none),(3,none)] rfl λE O=>by
  have u0:= @U6.eq_1;exact rM
def U7 (O:pJ):Option Bool:=(XK O).bind λa8=>some ((a8.2=0)&&(a8.1=O))
abbrev a2B (x:pJ):List qP:=[tv x]
@[go_sem] def a2C:pJ->r9:=λO=>rv [] (U7 O) λz=>([bv z],[])
@[go_sem] def aNZ O:=rI a2B qV a2C O
@[go_sem] abbrev aGV:Nat×r8:=mE 17 [.v] a2B qV a2C
def aGW:qZ prog aGV:=
 rJ (rH rG (qS aGD rF)) func17 17 [(2,none)] rfl λE O=>by
  have u0:= @U7.eq_1;exact rM
def XL (O:pJ):Option (pJ×Int):=(KW O).bind λa8=>ite (!decide (a8.2.2.2.2=0)) (some (([]:pJ),a8.2.2.2.2)) ((PV a8.1).bind λaA=>some (aA.1,aA.2))
abbrev a2D (x:pJ):List qP:=[tv x]
@[go_sem] def a2E:pJ->r9:=λO=>rv [] (XL O) λz=>([tv (z.1),iv (z.2)],[])
@[go_sem] def aN0 O:=rI a2D qV a2E O
@[go_sem] abbrev aGX:Nat×r8:=mE 38 [.v] a2D qV a2E
def aGY:qZ prog aGX:=
 rJ (rH (qO HX rG) (qS a2t (qS a2w rF))) func38 20 [(2,none),(3,none)] rfl λE O=>by
  have u0:= @XL.eq_1;exact rM
def KX (O:pJ) (a8:(Ja1×Int)):(Ja3×Int)->Option ((Ja3×Int)⊕Ja3):=fun(aA,aB)=>ite (decide (aB<(a8.1.length:Int))) (ite (0<=aB/\aB<(a8.1.length:Int)) ((TZ ((qI rV a8.1 aB).2.1)).bind λaC=>ite (0<=aB/\aB<(a8.1.length:Int)) (ite ((aA.length+([((11,(O,((qI rV a8.1 aB).1,()))),(aC.1,(false,())))]:List rK).length)*64<=140737488355328) (ite (qH (aB+1)) (some (.inl ((aA++([((11,(O,((qI rV a8.1 aB).1,()))),(aC.1,(false,())))]:List rK)),(aB+1)))) none) none) none) none) (some (.inr aA))
def IJ (O:pJ) (a8:pJ):Option Ja3:=(U7 a8).bind λaA=>ite (!aA) (ite (((Qd2++a8).length:Int)<=9223372036854775807) (some ([((10,(O,(([]:pJ),()))),((Qd2++a8),(false,())))]:List rK)) none) ((KT a8).bind λaB=>(TX aB.1).bind λaC=>(PJ aC.1).bind λaD=>(TY aB.1).bind λaE=>rD (rC (KX O aE) (([((10,(O,(([]:pJ),()))),(aD.1,(false,())))]:List rK),0)) λaF=>some (aF))
abbrev a2F (x:(pJ×pJ)):List qP:=[tv x.1,tv x.2]
@[go_sem] def a2G:(pJ×pJ)->r9:=fun(O,a8)=>rv [] (IJ O a8) λz=>([(.val (.list rQ) z,some 0)],[.grow 49 5 (z.length)])
@[go_sem] def aN1 O a8:=rI a2F qV a2G (O,a8)
@[go_sem] abbrev aGZ:Nat×r8:=mE 65 [.v,.v] a2F qV a2G
def aG0:qZ prog aGZ:=
 rJ (rH (qO rY (qO D2 (qO uW (qO HX (qO uz (qO Lo rG)))))) (qS aGW (qS vn (qS a10 (qS aGl (qS a1t (qS aGn (qS aGp rF)))))))) func65 78 [(4,none)] rfl λE ⟨O,a8⟩=>by
  have u0:= @IJ.eq_1;have u1:= @KX.eq_1
  let l1 (aA:(Ja1×Int)):LE (KX O aA):=⟨λx=>⟨[(0,tv O),(12,(.val (.list rQ) x.1,some 0)),(13,(.val (.list rV) aA.1,some 1)),(15,iv x.2)],[(0,.grow 49 5 (x.1.length)),(1,.grow 132 2 (aA.1.length))],2,78,0⟩⟩
  let x1 aA:XE (KX O aA) 0 Ja3:=⟨λx=>⟨[(12,(.val (.list rQ) x,some 0))],[(0,.grow 49 5 (x.length))],1,78,0⟩⟩
  exact rM
def U8 (O:pJ):Option Bool:=(XL O).bind λa8=>some ((a8.2=0)&&(a8.1=O))
abbrev a2H (x:pJ):List qP:=[tv x]
@[go_sem] def a2I:pJ->r9:=λO=>rv [] (U8 O) λz=>([bv z],[])
@[go_sem] def aN2 O:=rI a2H qV a2I O
@[go_sem] abbrev aG1:Nat×r8:=mE 16 [.v] a2H qV a2I
def aG2:qZ prog aG1:=
 rJ (rH rG (qS aGY rF)) func16 17 [(2,none)] rfl λE O=>by
  have u0:= @U8.eq_1;exact rM
def KY (O:wD):(Ja3×Int)->Option ((Ja3×Int)⊕Ja3):=fun(a8,aA)=>ite (decide (aA<(O.2.2.2.2.2.2.1.length:Int))) (ite (0<=aA/\aA<(O.2.2.2.2.2.2.1.length:Int)) (ite (0<=aA/\aA<(O.2.2.2.2.2.2.1.length:Int)) (ite ((a8.length+([((9,(O.1,((qI sP O.2.2.2.2.2.2.1 aA).1,()))),((qI sP O.2.2.2.2.2.2.1 aA).2.1,(false,())))]:List rK).length)*64<=140737488355328) (ite (qH (aA+1)) (some (.inl ((a8++([((9,(O.1,((qI sP O.2.2.2.2.2.2.1 aA).1,()))),((qI sP O.2.2.2.2.2.2.1 aA).2.1,(false,())))]:List rK)),(aA+1)))) none) none) none) none) (some (.inr a8))
def U9 (O:wD) (a8:pJ):Option Ja3:=(P5 O.2.2.2.1).bind λaA=>(SM O.2.2.2.2.1).bind λaB=>(WU O.2.2.2.2.2.1).bind λaC=>rD (rC (KY O) (([((4,(O.1,(([]:pJ),()))),(a8,(false,()))),((5,(O.1,(([]:pJ),()))),(O.2.1,(false,()))),((6,(O.1,(([]:pJ),()))),(aA,(false,()))),((7,(O.1,(([]:pJ),()))),(aB,(false,()))),((8,(O.1,(([]:pJ),()))),((qI .str Qd8 O.2.2.2.2.2.1),(false,())))]:List rK),0)) λaD=>(IJ O.1 O.2.2.1).bind λaE=>ite ((aD.length+aE.length)*64<=140737488355328) (some (aD++aE)) none
abbrev a2J (x:(wD×pJ)):List qP:=[sv tJ x.1,tv x.2]
@[go_sem] def a2K:(wD×pJ)->r9:=fun(O,a8)=>rv [] (U9 O a8) λz=>([(.val (.list rQ) z,some 0)],[.grow 49 5 (z.length)])
@[go_sem] def aN3 O a8:=rI a2J qV a2K (O,a8)
@[go_sem] abbrev aG3:Nat×r8:=mE 37 [.v,.v] a2J qV a2K
def aG4:qZ prog aG3:=
 rJ (rH (qO tO (qO rY (qO vF (qO D5 (qO D2 (qO D4 (qO N5 rG))))))) (qS vn (qS a0w (qS aBO (qS aBQ (qS aG0 rF)))))) func37 67 [(4,none)] rfl λE ⟨O,a8⟩=>by
  have u0:= @U9.eq_1;have u1:= @KY.eq_1
  let l1:LE (KY O):=⟨λx=>⟨[(2,rs 0 0),(5,(.val (.list rQ) x.1,some 1)),(6,iv x.2)],[(0,.cells tJ O []),(1,.grow 49 5 (x.1.length))],2,67,0⟩⟩
  let x1:XE (KY O) 0 Ja3:=⟨λx=>⟨[(2,rs 0 0),(5,(.val (.list rQ) x,some 1))],[(0,.cells tJ O []),(1,.grow 49 5 (x.length))],2,67,0⟩⟩
  exact rM
def KZ (O:pJ) (a8:(Ja1×Int)):(Int×Ja3)->Option ((Int×Ja3)⊕Ja3):=fun(aA,aB)=>ite (decide (aA<(a8.1.length:Int))) (ite (0<=aA/\aA<(a8.1.length:Int)) ((U6 ((qI rV a8.1 aA).2.1)).bind λaC=>(A5 (aB,()) 11 O ((qI rV a8.1 aA).1) aC.1).bind λaD=>ite (qH (aA+1)) (some (.inl ((aA+1),(aB++([((11,(O,(((qI rV a8.1 aA).1),()))),(aC.1,(false,())))]:List rK))))) none) none) (some (.inr aB))
def L1 (O:(Ja3×Unit)) (a8:pJ) (aA:pJ):Option Ja3:=(U8 aA).bind λaB=>ite (!aB) (ite (((Qd2++aA).length:Int)<=9223372036854775807) ((A5 O 10 a8 ([]:pJ) (Qd2++aA)).bind λaC=>some (O.1++([((10,(a8,(([]:pJ),()))),((Qd2++aA),(false,())))]:List rK))) none) ((KW aA).bind λaD=>(U5 aD.1).bind λaE=>(PV aE.1).bind λaF=>(A5 O 10 a8 ([]:pJ) aF.1).bind λaG=>(U3 aD.1).bind λaH=>rD (rC (KZ a8 aH) (0,(O.1++([((10,(a8,(([]:pJ),()))),(aF.1,(false,())))]:List rK)))) λaI=>some (aI))
abbrev a2L (x:(pJ×pJ×(Ja3×Unit)×Nat)):List qP:=[rs 0 0,tv x.1,tv x.2.1]
abbrev a2M (x:(pJ×pJ×(Ja3×Unit)×Nat)):List qQ:=[.cells (.pair (.list rQ) .unit) x.2.2.1 [(0,1)],.grow 49 5 x.2.2.2]
@[go_sem] def a2N:(pJ×pJ×(Ja3×Unit)×Nat)->r9:=fun(O,a8,aA,aB)=>rv [aB=(aA.1.length)] (L1 aA O a8) λz=>([],[.cells (.pair (.list rQ) .unit) (z,()) [(0,1)],.grow 49 5 (z.length)])
@[go_sem] def aN4 O a8 aA aB:=rI a2L a2M a2N (O,a8,aA,aB)
@[go_sem] abbrev aG5:Nat×r8:=mE 61 [.p (.pair (.list rQ) .unit) [0],.v,.v] a2L a2M a2N
def aG6:qZ prog aG5:=
 rJ (rH (qO rY (qO uW (qO HX (qO WT (qO vj rG))))) (qS aG2 (qS vm (qS a2t (qS aGS (qS a2w (qS aGB (qS aGU rF)))))))) func61 71 [] rfl λE ⟨O,a8,aA,aB⟩=>by
  have u0:= @L1.eq_1;have u1:= @KZ.eq_1
  let l1 (aC:(Ja1×Int)):LE (KZ O aC):=⟨λx=>⟨[(0,rs 0 0),(1,tv O),(52,(.val (.list rV) aC.1,some 2)),(53,iv (aC.1.length:Int)),(54,iv x.1)],[(0,.cells (.pair (.list rQ) .unit) (x.2,()) [(0,1)]),(1,.grow 49 5 (x.2.length)),(2,.grow 128 2 (aC.1.length))],3,71,2⟩⟩
  let x1 aC:XE (KZ O aC) 0 Ja3:=⟨λx=>⟨[],[(0,.cells (.pair (.list rQ) .unit) (x,()) [(0,1)]),(1,.grow 49 5 (x.length))],2,71,2⟩⟩
  exact rM
attribute [irreducible] PT U4 KW PV U5 U6 U7 XL IJ U8 U9 L1
end
noncomputable section
def L2 (O:tP):(Ja3×Int)->Option ((Ja3×Int)⊕Ja3):=fun(a8,aA)=>ite (decide (aA<(O.2.2.1.length:Int))) (ite (0<=aA/\aA<(O.2.2.1.length:Int)) (ite (0<=aA/\aA<(O.2.2.1.length:Int)) (ite ((a8.length+([((3,(([]:pJ),((qI sP O.2.2.1 aA).1,()))),((qI sP O.2.2.1 aA).2.1,(false,())))]:List rK).length)*64<=140737488355328) (ite (qH (aA+1)) (some (.inl ((a8++([((3,(([]:pJ),((qI sP O.2.2.1 aA).1,()))),((qI sP O.2.2.1 aA).2.1,(false,())))]:List rK)),(aA+1)))) none) none) none) none) (some (.inr a8))
def GN (O:tP):(Ja3×pJ×Int)->Option ((Ja3×pJ×Int)⊕Ja3):=fun(a8,aA,aB)=>ite (decide (aB<(O.2.2.2.1.length:Int))) (ite (0<=aB/\aB<(O.2.2.2.1.length:Int)) ((U9 (qI tJ O.2.2.2.1 aB) aA).bind λaC=>ite ((a8.length+aC.length)*64<=140737488355328) (ite (0<=aB/\aB<(O.2.2.2.1.length:Int)) (ite (qH (aB+1)) (some (.inl ((a8++aC),(qI tJ O.2.2.2.1 aB).1,(aB+1)))) none) none) none) none) (some (.inr a8))
def PW (O:tP):Option (Ja3×Int):=(U4 O).bind λa8=>ite (!a8) (some (([]:List rK),1)) ((P5 O.2.1).bind λaA=>rD (rC (L2 O) (([((1,(([]:pJ),(([]:pJ),()))),(O.1,(false,()))),((2,(([]:pJ),(([]:pJ),()))),(aA,(false,())))]:List rK),0)) λaB=>rD (rC (GN O) (aB,([]:pJ),0)) λaC=>some (aC,0))
abbrev a2O (x:tP):List qP:=[sv vL x]
@[go_sem] def a2P:tP->r9:=λO=>rv [] (PW O) λz=>([(.val (.list rQ) (z.1),some 0),iv (z.2)],[.grow 49 5 ((z.1).length)])
@[go_sem] def aN5 O:=rI a2O qV a2P O
@[go_sem] abbrev aG7:Nat×r8:=mE 14 [.v] a2O qV a2P
def aG8:qZ prog aG7:=
 rJ (rH (qO rY (qO vF (qO D5 (qO JY (qO D3 (qO D2 (qO D4 (qO N5 rG)))))))) (qS aGO (qS vn (qS a0w (qS aG4 rF))))) func14 65 [(2,none),(3,none)] rfl λE O=>by
  have u0:= @PW.eq_1;have u1:= @L2.eq_1
  let l1:LE (L2 O):=⟨λx=>⟨[(1,rs 0 0),(4,(.val (.list rQ) x.1,some 1)),(5,iv x.2)],[(0,.cells vL O []),(1,.grow 49 5 (x.1.length))],2,65,0⟩⟩
  have u2:= @GN.eq_1
  let l2:LE (GN O):=⟨λx=>⟨[(1,rs 0 0),(4,(.val (.list rQ) x.1,some 1)),(6,tv x.2.1),(7,iv x.2.2)],[(0,.cells vL O []),(1,.grow 49 5 (x.1.length))],2,65,0⟩⟩
  let x1:XE (L2 O) 0 Ja3:=⟨λx=>⟨[(1,rs 0 0),(4,(.val (.list rQ) x,some 1))],[(0,.cells vL O []),(1,.grow 49 5 (x.length))],2,65,0⟩⟩
  let x2:XE (GN O) 2 Ja3:=⟨λx=>⟨[(4,(.val (.list rQ) x,some 0))],[(0,.grow 49 5 (x.length))],1,65,0⟩⟩
  exact rM
def L3 (O:(Ja3×Int)) (a8:(Ja3×Int)):(Ja3×Int)->Option ((Ja3×Int)⊕Ja3):=fun(aA,aB)=>ite (decide (aB<(O.1.length:Int))) (ite (0<=aB/\aB<(O.1.length:Int)) ((NB a8.1 ((qI rQ O.1 aB).1)).bind λaC=>ite (decide (aC<0)) (ite (0<=aB/\aB<(O.1.length:Int)) (ite ((aA.length+([((qI rQ O.1 aB).1,(([]:pJ),(true,())))]:List rK).length)*64<=140737488355328) (ite (qH (aB+1)) (some (.inl ((aA++([((qI rQ O.1 aB).1,(([]:pJ),(true,())))]:List rK)),(aB+1)))) none) none) none) (ite (qH (aB+1)) (some (.inl (aA,(aB+1)))) none)) none) (some (.inr aA))
def L4 (O:(Ja3×Int)) (a8:(Ja3×Int)):(Ja3×Int)->Option ((Ja3×Int)⊕Ja3):=fun(aA,aB)=>ite (decide (aB<(a8.1.length:Int))) (ite (0<=aB/\aB<(a8.1.length:Int)) ((NB O.1 ((qI rQ a8.1 aB).1)).bind λaC=>ite (((decide (aC<0))==false)=true->0<=aC/\aC<(O.1.length:Int)) (ite (((decide (aC<0))==false)=true->0<=aB/\aB<(a8.1.length:Int)) (ite ((aC<0)||(!decide ((qI rQ O.1 aC).2.1=(qI rQ a8.1 aB).2.1))) (ite (0<=aB/\aB<(a8.1.length:Int)) (ite ((aA.length+([(qI rQ a8.1 aB)]:List rK).length)*64<=140737488355328) (ite (qH (aB+1)) (some (.inl ((aA++([(qI rQ a8.1 aB)]:List rK)),(aB+1)))) none) none) none) (ite (qH (aB+1)) (some (.inl (aA,(aB+1)))) none)) none) none) none) (some (.inr aA))
def UA (O:tP) (a8:tP):Option (Ja3×Int):=(PW O).bind λaA=>(PW a8).bind λaB=>ite ((!decide (aA.2=0))||(!decide (aB.2=0))) (some (([]:List rK),1)) (rD (rC (L3 aA aB) (([]:List rK),0)) λaC=>rD (rC (L4 aA aB) (aC,0)) λaD=>some (aD,0))
abbrev a2Q (x:(tP×tP)):List qP:=[sv vL x.1,sv vL x.2]
@[go_sem] def a2R:(tP×tP)->r9:=fun(O,a8)=>rv [] (UA O a8) λz=>([(.val (.list rQ) (z.1),some 0),iv (z.2)],[.grow 49 5 ((z.1).length)])
@[go_sem] def aN6 O a8:=rI a2Q qV a2R (O,a8)
@[go_sem] abbrev aG9:Nat×r8:=mE 19 [.v,.v] a2Q qV a2R
def aHa:qZ prog aG9:=
 rJ (rH (qO rY (qO D3 (qO D2 (qO HS (qO G8 rG))))) (qS aG8 (qS aBD rF))) func19 89 [(4,none),(5,none)] rfl λE ⟨O,a8⟩=>by
  have u0:= @UA.eq_1;have u1:= @L3.eq_1
  let l1 (aA:(Ja3×Int)) (aB:(Ja3×Int)):LE (L3 aA aB):=⟨λx=>⟨[(6,(.val (.list rQ) aA.1,some 0)),(8,(.val (.list rQ) aB.1,some 1)),(10,(.val (.list rQ) x.1,some 2)),(11,iv x.2)],[(0,.grow 49 5 (aA.1.length)),(1,.grow 49 5 (aB.1.length)),(2,.grow 49 5 (x.1.length))],3,89,0⟩⟩
  have u2:= @L4.eq_1
  let l2 (aA:(Ja3×Int)) (aB:(Ja3×Int)):LE (L4 aA aB):=⟨λx=>⟨[(6,(.val (.list rQ) aA.1,some 0)),(8,(.val (.list rQ) aB.1,some 1)),(10,(.val (.list rQ) x.1,some 2)),(12,iv x.2)],[(0,.grow 49 5 (aA.1.length)),(1,.grow 49 5 (aB.1.length)),(2,.grow 49 5 (x.1.length))],3,89,0⟩⟩
  let x1 (aA:(Ja3×Int)) (aB:(Ja3×Int)):XE (L3 aA aB) 0 Ja3:=⟨λx=>⟨[(6,(.val (.list rQ) aA.1,some 0)),(8,(.val (.list rQ) aB.1,some 1)),(10,(.val (.list rQ) x,some 2))],[(0,.grow 49 5 (aA.1.length)),(1,.grow 49 5 (aB.1.length)),(2,.grow 49 5 (x.length))],3,89,0⟩⟩
  let x2 aA aB:XE (L4 aA aB) 2 Ja3:=⟨λx=>⟨[(10,(.val (.list rQ) x,some 0))],[(0,.grow 49 5 (x.length))],1,89,0⟩⟩
  exact rM
def PX (O:wD):(Int×Ja3)->Option ((Int×Ja3)⊕Ja3):=fun(a8,aA)=>ite (decide (a8<(O.2.2.2.2.2.2.1.length:Int))) (ite (0<=a8/\a8<(O.2.2.2.2.2.2.1.length:Int)) ((A5 (aA,()) 9 O.1 ((qI sP O.2.2.2.2.2.2.1 a8).1) ((qI sP O.2.2.2.2.2.2.1 a8).2.1)).bind λaB=>ite (qH (a8+1)) (some (.inl ((a8+1),(aA++([((9,(O.1,(((qI sP O.2.2.2.2.2.2.1 a8).1),()))),(((qI sP O.2.2.2.2.2.2.1 a8).2.1),(false,())))]:List rK))))) none) none) (some (.inr aA))
def UB (O:(Ja3×Unit)) (a8:wD) (aA:pJ):Option Ja3:=(A5 O 4 a8.1 ([]:pJ) aA).bind λaB=>(A5 ((O.1++([((4,(a8.1,(([]:pJ),()))),(aA,(false,())))]:List rK)),O.2) 5 a8.1 ([]:pJ) a8.2.1).bind λaC=>(P4 a8.2.2.2.1).bind λaD=>(A5 (((O.1++([((4,(a8.1,(([]:pJ),()))),(aA,(false,())))]:List rK))++([((5,(a8.1,(([]:pJ),()))),(a8.2.1,(false,())))]:List rK)),O.2) 6 a8.1 ([]:pJ) aD).bind λaE=>ite (a8.2.2.2.2.1.length<=140737488355328/\List.length (FG a8.2.2.2.2.1 Qa9)<=140737488355328) ((A5 ((((O.1++([((4,(a8.1,(([]:pJ),()))),(aA,(false,())))]:List rK))++([((5,(a8.1,(([]:pJ),()))),(a8.2.1,(false,())))]:List rK))++([((6,(a8.1,(([]:pJ),()))),(aD,(false,())))]:List rK)),O.2) 7 a8.1 ([]:pJ) (FG a8.2.2.2.2.1 Qa9)).bind λaF=>ite (0<=a8.2.2.2.2.2.1/\a8.2.2.2.2.2.1<(Qd8.length:Int)) ((A5 (((((O.1++([((4,(a8.1,(([]:pJ),()))),(aA,(false,())))]:List rK))++([((5,(a8.1,(([]:pJ),()))),(a8.2.1,(false,())))]:List rK))++([((6,(a8.1,(([]:pJ),()))),(aD,(false,())))]:List rK))++([((7,(a8.1,(([]:pJ),()))),((FG a8.2.2.2.2.1 Qa9),(false,())))]:List rK)),O.2) 8 a8.1 ([]:pJ) (qI .str Qd8 a8.2.2.2.2.2.1)).bind λaG=>rD (rC (PX a8) (0,(((((O.1++([((4,(a8.1,(([]:pJ),()))),(aA,(false,())))]:List rK))++([((5,(a8.1,(([]:pJ),()))),(a8.2.1,(false,())))]:List rK))++([((6,(a8.1,(([]:pJ),()))),(aD,(false,())))]:List rK))++([((7,(a8.1,(([]:pJ),()))),((FG a8.2.2.2.2.1 Qa9),(false,())))]:List rK))++([((8,(a8.1,(([]:pJ),()))),((qI .str Qd8 a8.2.2.2.2.2.1),(false,())))]:List rK)))) λaH=>(L1 (aH,()) a8.1 a8.2.2.1).bind λaI=>some (aI)) none) none
abbrev a2S (x:(wD×pJ×(Ja3×Unit)×Nat)):List qP:=[rs 0 0,sv tJ x.1,tv x.2.1]
abbrev a2T (x:(wD×pJ×(Ja3×Unit)×Nat)):List qQ:=[.cells (.pair (.list rQ) .unit) x.2.2.1 [(0,1)],.grow 49 5 x.2.2.2]
@[go_sem] def a2U:(wD×pJ×(Ja3×Unit)×Nat)->r9:=fun(O,a8,aA,aB)=>rv [aB=(aA.1.length)] (UB aA O a8) λz=>([],[.cells (.pair (.list rQ) .unit) (z,()) [(0,1)],.grow 49 5 (z.length)])
@[go_sem] def aN7 O a8 aA aB:=rI a2S a2T a2U (O,a8,aA,aB)
@[go_sem] abbrev aHb:Nat×r8:=mE 34 [.p (.pair (.list rQ) .unit) [0],.v,.v] a2S a2T a2U
def aHc:qZ prog aHb:=
 rJ (rH (qO tO (qO rY (qO vF (qO D5 (qO D4 (qO N5 rG)))))) (qS vm (qS a0t (qS Md (qS aBM (qS aG6 rF)))))) func34 64 [] rfl λE ⟨O,a8,aA,aB⟩=>by
  have u0:= @UB.eq_1;have u1:= @PX.eq_1
  let l1:LE (PX O):=⟨λx=>⟨[(0,rs 0 0),(4,rs 2 0),(43,sv (.list sP) O.2.2.2.2.2.2.1),(44,iv (O.2.2.2.2.2.2.1.length:Int)),(45,iv x.1)],[(0,.cells (.pair (.list rQ) .unit) (x.2,()) [(0,1)]),(1,.grow 49 5 (x.2.length)),(2,.cells tJ O [])],3,64,2⟩⟩
  let x1:XE (PX O) 0 Ja3:=⟨λx=>⟨[(0,rs 0 0),(4,rs 2 0)],[(0,.cells (.pair (.list rQ) .unit) (x,()) [(0,1)]),(1,.grow 49 5 (x.length)),(2,.cells tJ O [])],3,64,2⟩⟩
  exact rM
def L5 (O:tP):(Int×Ja3)->Option ((Int×Ja3)⊕Ja3):=fun(a8,aA)=>ite (decide (a8<(O.2.2.1.length:Int))) (ite (0<=a8/\a8<(O.2.2.1.length:Int)) ((A5 (aA,()) 3 ([]:pJ) ((qI sP O.2.2.1 a8).1) ((qI sP O.2.2.1 a8).2.1)).bind λaB=>ite (qH (a8+1)) (some (.inl ((a8+1),(aA++([((3,(([]:pJ),(((qI sP O.2.2.1 a8).1),()))),(((qI sP O.2.2.1 a8).2.1),(false,())))]:List rK))))) none) none) (some (.inr aA))
def GO (O:tP):(pJ×Int×Ja3)->Option ((pJ×Int×Ja3)⊕Ja3):=fun(a8,aA,aB)=>ite (decide (aA<(O.2.2.2.1.length:Int))) (ite (0<=aA/\aA<(O.2.2.2.1.length:Int)) ((UB (aB,()) (qI tJ O.2.2.2.1 aA) a8).bind λaC=>ite (qH (aA+1)) (some (.inl ((qI tJ O.2.2.2.1 aA).1,(aA+1),aC))) none) none) (some (.inr aB))
def PY (O:tP):Option (Ja3×Int):=(TR O).bind λa8=>ite (!a8) (some (([]:List rK),1)) ((A5 (([]:List rK),()) 1 ([]:pJ) ([]:pJ) O.1).bind λaA=>(P4 O.2.1).bind λaB=>(A5 ((([]:List rK)++([((1,(([]:pJ),(([]:pJ),()))),(O.1,(false,())))]:List rK)),()) 2 ([]:pJ) ([]:pJ) aB).bind λaC=>rD (rC (L5 O) (0,((([]:List rK)++([((1,(([]:pJ),(([]:pJ),()))),(O.1,(false,())))]:List rK))++([((2,(([]:pJ),(([]:pJ),()))),(aB,(false,())))]:List rK)))) λaD=>rD (rC (GO O) (([]:pJ),0,aD)) λaE=>some (aE,0))
abbrev a2V (x:tP):List qP:=[sv vL x]
@[go_sem] def a2W:tP->r9:=λO=>rv [] (PY O) λz=>([(.val (.list rQ) (z.1),some 0),iv (z.2)],[.grow 49 5 ((z.1).length)])
@[go_sem] def aN8 O:=rI a2V qV a2W O
@[go_sem] abbrev xr:Nat×r8:=mE 13 [.v] a2V qV a2W
def a2X:qZ prog xr:=
 rJ (rH (qO rY (qO vF (qO D5 (qO JY (qO D3 (qO D2 (qO D4 (qO Kr (qO N5 rG))))))))) (qS aFK (qS vm (qS a0t (qS aHc rF))))) func13 56 [(2,none),(3,none)] rfl λE O=>by
  have u0:= @PY.eq_1;have u1:= @L5.eq_1
  let l1:LE (L5 O):=⟨λx=>⟨[(1,rs 0 0),(4,rs 1 0),(25,sv (.list sP) O.2.2.1),(26,iv (O.2.2.1.length:Int)),(27,iv x.1)],[(0,.cells vL O []),(1,.cells (.pair (.list rQ) .unit) (x.2,()) [(0,2)]),(2,.grow 49 5 (x.2.length))],3,56,0⟩⟩
  have u2:= @GO.eq_1
  let l2:LE (GO O):=⟨λx=>⟨[(4,rs 0 0),(7,tv x.1),(39,sv (.list tJ) O.2.2.2.1),(40,iv (O.2.2.2.1.length:Int)),(41,iv x.2.1)],[(0,.cells (.pair (.list rQ) .unit) (x.2.2,()) [(0,1)]),(1,.grow 49 5 (x.2.2.length))],2,56,0⟩⟩
  let x1:XE (L5 O) 0 Ja3:=⟨λx=>⟨[(1,rs 0 0),(4,rs 1 0)],[(0,.cells vL O []),(1,.cells (.pair (.list rQ) .unit) (x,()) [(0,2)]),(2,.grow 49 5 (x.length))],3,56,0⟩⟩
  let x2:XE (GO O) 2 Ja3:=⟨λx=>⟨[(4,rs 0 0)],[(0,.cells (.pair (.list rQ) .unit) (x,()) [(0,1)]),(1,.grow 49 5 (x.length))],2,56,0⟩⟩
  exact rM
attribute [irreducible] PW UA UB PY
end
noncomputable section
def UC (O:(Ja3×Int)) (a8:(List (yF×pJ))):(Ja3×Int)->Option ((Ja3×Int)⊕Ja3):=fun(aA,aB)=>ite (decide (aB<(O.1.length:Int))) (ite (0<=aB/\aB<(O.1.length:Int)) (ite (!(w5 uG .str a8 ((qI rQ O.1 aB).1))) (ite ((aA.length+([((qI rQ O.1 aB).1,(([]:pJ),(true,())))]:List rK).length)*64<=140737488355328) (ite (qH (aB+1)) (some (.inl ((aA++([((qI rQ O.1 aB).1,(([]:pJ),(true,())))]:List rK)),(aB+1)))) none) none) (ite (qH (aB+1)) (some (.inl (aA,(aB+1)))) none)) none) (some (.inr aA))
def UD (O:(Ja3×Int)) (a8:(List (yF×pJ))):(Ja3×Int)->Option ((Ja3×Int)⊕Ja3):=fun(aA,aB)=>ite (decide (aB<(O.1.length:Int))) (ite (0<=aB/\aB<(O.1.length:Int)) (ite ((!(w5 uG .str a8 ((qI rQ O.1 aB).1)))||(!decide ((sC uG .str a8 ((qI rQ O.1 aB).1))=(qI rQ O.1 aB).2.1))) (ite ((aA.length+([(qI rQ O.1 aB)]:List rK).length)*64<=140737488355328) (ite (qH (aB+1)) (some (.inl ((aA++([(qI rQ O.1 aB)]:List rK)),(aB+1)))) none) none) (ite (qH (aB+1)) (some (.inl (aA,(aB+1)))) none)) none) (some (.inr aA))
def a2Y (O:(Ja3×Int)):(Ja3×Int)->Option ((Ja3×Int)⊕Ja3):=fun(a8,aA)=>ite (decide (aA<(O.1.length:Int))) (ite (0<=aA/\aA<(O.1.length:Int)) (ite (!false) (ite ((a8.length+([((qI rQ O.1 aA).1,(([]:pJ),(true,())))]:List rK).length)*64<=140737488355328) (ite (qH (aA+1)) (some (.inl ((a8++([((qI rQ O.1 aA).1,(([]:pJ),(true,())))]:List rK)),(aA+1)))) none) none) (ite (qH (aA+1)) (some (.inl (a8,(aA+1)))) none)) none) (some (.inr a8))
def a2Z (O:(Ja3×Int)) (a8:(List (yF×pJ))):(Ja3×Int)->Option ((Ja3×Int)⊕Ja3):=fun(aA,aB)=>ite (decide (aB<(O.1.length:Int))) (ite (0<=aB/\aB<(O.1.length:Int)) (ite ((!(w5 uG .str a8 ((qI rQ O.1 aB).1)))||(!decide ((sC uG .str a8 ((qI rQ O.1 aB).1))=(qI rQ O.1 aB).2.1))) (ite ((aA.length+([(qI rQ O.1 aB)]:List rK).length)*64<=140737488355328) (ite (qH (aB+1)) (some (.inl ((aA++([(qI rQ O.1 aB)]:List rK)),(aB+1)))) none) none) (ite (qH (aB+1)) (some (.inl (aA,(aB+1)))) none)) none) (some (.inr aA))
def a22 (O:(Ja3×Int)) (a8:(List (yF×pJ))):(Ja3×Int)->Option ((Ja3×Int)⊕Ja3):=fun(aA,aB)=>ite (decide (aB<(O.1.length:Int))) (ite (0<=aB/\aB<(O.1.length:Int)) (ite (!(w5 uG .str a8 ((qI rQ O.1 aB).1))) (ite ((aA.length+([((qI rQ O.1 aB).1,(([]:pJ),(true,())))]:List rK).length)*64<=140737488355328) (ite (qH (aB+1)) (some (.inl ((aA++([((qI rQ O.1 aB).1,(([]:pJ),(true,())))]:List rK)),(aB+1)))) none) none) (ite (qH (aB+1)) (some (.inl (aA,(aB+1)))) none)) none) (some (.inr aA))
def a23 (O:(Ja3×Int)):(Ja3×Int)->Option ((Ja3×Int)⊕Ja3):=fun(a8,aA)=>ite (decide (aA<(O.1.length:Int))) (ite (0<=aA/\aA<(O.1.length:Int)) (ite ((!false)||(!decide (([]:pJ)=(qI rQ O.1 aA).2.1))) (ite ((a8.length+([(qI rQ O.1 aA)]:List rK).length)*64<=140737488355328) (ite (qH (aA+1)) (some (.inl ((a8++([(qI rQ O.1 aA)]:List rK)),(aA+1)))) none) none) (ite (qH (aA+1)) (some (.inl (a8,(aA+1)))) none)) none) (some (.inr a8))
def a24 (O:(Ja3×Int)):(Ja3×Int)->Option ((Ja3×Int)⊕Ja3):=fun(a8,aA)=>ite (decide (aA<(O.1.length:Int))) (ite (0<=aA/\aA<(O.1.length:Int)) (ite (!false) (ite ((a8.length+([((qI rQ O.1 aA).1,(([]:pJ),(true,())))]:List rK).length)*64<=140737488355328) (ite (qH (aA+1)) (some (.inl ((a8++([((qI rQ O.1 aA).1,(([]:pJ),(true,())))]:List rK)),(aA+1)))) none) none) (ite (qH (aA+1)) (some (.inl (a8,(aA+1)))) none)) none) (some (.inr a8))
def a25 (O:(Ja3×Int)):(Ja3×Int)->Option ((Ja3×Int)⊕Ja3):=fun(a8,aA)=>ite (decide (aA<(O.1.length:Int))) (ite (0<=aA/\aA<(O.1.length:Int)) (ite ((!false)||(!decide (([]:pJ)=(qI rQ O.1 aA).2.1))) (ite ((a8.length+([(qI rQ O.1 aA)]:List rK).length)*64<=140737488355328) (ite (qH (aA+1)) (some (.inl ((a8++([(qI rQ O.1 aA)]:List rK)),(aA+1)))) none) none) (ite (qH (aA+1)) (some (.inl (a8,(aA+1)))) none)) none) (some (.inr a8))
def PZ (O:tP) (a8:tP):Option (Ja3×Int):=(PY O).bind λaA=>(PY a8).bind λaB=>ite ((!decide (aA.2=0))||(!decide (aB.2=0))) (some (([]:List rK),1)) (if (C3 aA.1).isSome=true then (C3 aA.1).bind λaC=>if (C3 aB.1).isSome=true then (C3 aB.1).bind λaD=>rD (rC (UC aA aD) (([]:List rK),0)) λaE=>rD (rC (UD aB aC) (aE,0)) λaF=>some (aF,0) else (ST aB.1).bind λaG=>rD (rC (a2Y aA) (([]:List rK),0)) λaH=>rD (rC (a2Z aB aC) (aH,0)) λaI=>some (aI,0) else (ST aA.1).bind λaJ=>if (C3 aB.1).isSome=true then (C3 aB.1).bind λaK=>rD (rC (a22 aA aK) (([]:List rK),0)) λaL=>rD (rC (a23 aB) (aL,0)) λaM=>some (aM,0) else (ST aB.1).bind λaN=>rD (rC (a24 aA) (([]:List rK),0)) λaO=>rD (rC (a25 aB) (aO,0)) λaP=>some (aP,0))
abbrev xu (x:(tP×tP)):List qP:=[sv vL x.1,sv vL x.2]
@[go_sem] def xv:(tP×tP)->r9:=fun(O,a8)=>rv [] (PZ O a8) λz=>([(.val (.list rQ) (z.1),some 0),iv (z.2)],[.grow 49 5 ((z.1).length)])
@[go_sem] def aN9 O a8:=rI xu qV xv (O,a8)
@[go_sem] abbrev aHd:Nat×r8:=mE 18 [.v,.v] xu qV xv
def sH:wY prog [SH,du,dn,dr,dq,dw] (EF [xr,Td]):=⟨⟨rY,⟨D3,⟨D2,⟨HS,⟨G8,⟨dz,trivial⟩⟩⟩⟩⟩⟩,qS a2X (qS aC7 rF),SI⟩
def xw:wY prog [SH,du,dn,dr,dq,dw] (EF [xr,Tg]):=⟨⟨rY,⟨D3,⟨D2,⟨HS,⟨G8,⟨dz,trivial⟩⟩⟩⟩⟩⟩,qS a2X (qS aC8 rF),SI⟩
def a26:qZ prog aHd:=by
 refine WK sH func18 (c:=_) rfl (N:=98) qB (ts:=[(4,none),(5,none)]) rfl (λ_ _=>rfl) ?_;intro⟨O,a8⟩ hs hrow;dsimp only[xu,qV,xv,rv,rL,E8,tD,wR,vB,E9,Nat.reduceAdd] at hs hrow|-;have hz:=hs;obtain⟨z0,e⟩:=aPc.1 hz
 try rw[S5 e]
 clear hz hs;unfold PZ at e;refine sB sH ?_;obtain⟨aA,hv1,hw1,e⟩:=AL e
 try simp only[go_sem] at hw1
 refine sB sH ?_ (hp:=by exact(AK hv1)) (h:=by simp only[go_sem,hw1];rfl);obtain⟨aB,hv2,hw2,e⟩:=AL e
 try simp only[go_sem] at hw2
 refine sB sH ?_ (hp:=by exact(AK hv2)) (h:=by simp only[go_sem,hw2];rfl);refine tW (sB sH ?_ (hp:=by exact⟨id,BZ⟩));refine vE e ?_ ?_<;>intro e Z
 .refine sB sH ?_;refine EC (cj ?_);cases e;exact pL [(0,768)]
 refine vQ (tF (tW ?_));by_cases hva2:(C3 aA.1).isSome=true
 .rw[aOd hva2] at e;obtain⟨aC,hv3,hw3,e⟩:=AL e
  try simp only[go_sem] at hw3
  refine uF sH ?_ (hp:=by exact(AK hv3)) (h:=by simp only[go_sem,hw3];rfl);refine tF (tW ?_);by_cases hva3:(C3 aB.1).isSome=true
  .rw[aOd hva3] at e;obtain⟨aD,hv4,hw4,e⟩:=AL e
   try simp only[go_sem] at hw4
   refine uF sH ?_ (hp:=by exact(AK hv4)) (h:=by simp only[go_sem,hw4];rfl);refine tF (sB sH ?_);refine tW (sB sH ?_);refine xE ?_;obtain⟨aE,hy1,e⟩:=qK e;refine CW 0 (λs=>s=(λx=>⟨[(8,(.val (.list rQ) aB.1,some 0)),(10,(.val .mp (some 1),none)),(14,(.val (.list rQ) x,some 2))],[(0,.grow 49 5 (aB.1.length)),(1,.map uG .str aC),(2,.grow 49 5 (x.length))],3,98,0⟩) aE) ?_ ?_
   .refine ED hy1 (λx=>⟨[(8,(.val (.list rQ) aB.1,some 0)),(10,(.val .mp (some 1),none)),(12,.val .mp (some 2),none),(14,(.val (.list rQ) x.1,some 3)),(49,(.val (.list rQ) aA.1,some 4)),(50,(.val (.int .i64) (aA.1.length:Int),none)),(51,.val (.int .i64) x.2,none)],[(0,.grow 49 5 (aB.1.length)),(1,.map uG .str aC),(2,.map uG .str aD),(3,.grow 49 5 (x.1.length)),(4,.grow 49 5 (aA.1.length))],5,98,0⟩) ⟨[8,10,12,14,49,50,51],[(0,384),(1,800),(2,1024),(3,1216),(4,160)]⟩ qC ?_;intro x1 w1 n1 d g;obtain⟨aF,aG⟩:=x1;unfold UC at d;dsimp only at d|-;refine sB sH ?_;refine tW (vE d (λd Z=>?_) (λd Z=>?_))
    .refine vQ (tF (tW (xE ?_)));obtain⟨Y,d⟩:=sR d;refine sB sH ?_ (hp:=by exact Y);refine sB sH ?_;refine sB sH ?_;refine vE d ?_ ?_<;>intro d Z
     .obtain⟨X,d⟩:=sR d;refine uF sH ?_ (hp:=by exact⟨qD,X⟩)
      refine w7 (tF ?_);obtain⟨W,d⟩:=sR d;refine uF sH ?_ (hp:=by exact W);cases d;exact xP ⟨⟨[8,10,12,14,49,50,51],[(0,0),(1,1),(2,2),(3,3),(4,4)]⟩,_,by rfl,g⟩
     refine vQ (w7 (tF ?_));obtain⟨V,d⟩:=sR d;refine uF sH ?_ (hp:=by exact V);cases d;exact xP ⟨⟨[8,10,12,14,49,50,51],[(0,0),(1,1),(2,2),(3,3),(4,4)]⟩,_,by rfl,g⟩
    refine EB (FD (FE ?_));cases d;cases g;exact CX ⟨⟨[8,10,14],[(0,0),(1,1),(2,3)]⟩,by rfl⟩
   rintro _ rfl;dsimp only at e|-;refine E7 (tF (tW ?_));refine sB sH ?_;refine xE ?_;obtain⟨aH,hy1,e⟩:=qK e;refine CW 2 (λs=>s=(λx=>⟨[(14,(.val (.list rQ) x,some 0))],[(0,.grow 49 5 (x.length))],1,98,0⟩) aH) ?_ ?_
   .refine ED hy1 (λx=>⟨[(10,.val .mp (some 0),none),(14,(.val (.list rQ) x.1,some 1)),(71,(.val (.list rQ) aB.1,some 2)),(72,(.val (.int .i64) (aB.1.length:Int),none)),(73,.val (.int .i64) x.2,none)],[(0,.map uG .str aC),(1,.grow 49 5 (x.1.length)),(2,.grow 49 5 (aB.1.length))],3,98,0⟩) ⟨[10,14,71,72,73],[(0,1),(1,2),(2,0)]⟩ qC ?_;intro x1 w1 n1 d g;obtain⟨aI,aJ⟩:=x1;unfold UD at d;dsimp only at d|-;refine sB sH ?_;refine tW (vE d (λd Z=>?_) (λd Z=>?_))
    .refine vQ (tF (tW (xE ?_)));obtain⟨U,d⟩:=sR d;refine sB sH ?_ (hp:=by exact U);refine sB sH ?_;refine sB sH ?_ (hp:=by exact⟨id,id,id,BZ⟩);refine vE d ?_ ?_<;>intro d Z
     .obtain⟨T,d⟩:=sR d;refine uF sH ?_ (hp:=by exact⟨qD,T⟩)
      refine w7 (tF ?_);obtain⟨S,d⟩:=sR d;refine uF sH ?_ (hp:=by exact S);cases d;exact xP ⟨⟨[10,14,71,72,73],[(0,0),(1,1),(2,2)]⟩,_,by rfl,g⟩
     refine vQ (w7 (tF ?_));obtain⟨R,d⟩:=sR d;refine uF sH ?_ (hp:=by exact R);cases d;exact xP ⟨⟨[10,14,71,72,73],[(0,0),(1,1),(2,2)]⟩,_,by rfl,g⟩
    refine EB (FD (FE ?_));cases d;cases g;exact CX ⟨⟨[14],[(0,1)]⟩,by rfl⟩
   rintro _ rfl;dsimp only at e|-;refine E7 (tF ?_);refine sB sH ?_;refine EC ?_;cases e;exact pL [(0,0)]
  rw[aOi hva3] at e;obtain⟨aK,hv13,hw13,e⟩:=AL e
  try simp only[go_sem] at hw13
  refine uF xw ?_ (hp:=by exact(AK hv13)) (h:=by simp only[go_sem,hw13];rfl);refine tF (sB sH ?_);refine tW (sB sH ?_);refine xE ?_;obtain⟨aL,hy1,e⟩:=qK e;refine CW 0 (λs=>s=(λx=>⟨[(8,(.val (.list rQ) aB.1,some 0)),(10,(.val .mp (some 1),none)),(14,(.val (.list rQ) x,some 2))],[(0,.grow 49 5 (aB.1.length)),(1,.map uG .str aC),(2,.grow 49 5 (x.length))],3,98,0⟩) aL) ?_ ?_
  .refine ED hy1 (λx=>⟨[(8,(.val (.list rQ) aB.1,some 0)),(10,(.val .mp (some 1),none)),(12,.val .mp none,none),(14,(.val (.list rQ) x.1,some 2)),(49,(.val (.list rQ) aA.1,some 3)),(50,(.val (.int .i64) (aA.1.length:Int),none)),(51,.val (.int .i64) x.2,none)],[(0,.grow 49 5 (aB.1.length)),(1,.map uG .str aC),(2,.grow 49 5 (x.1.length)),(3,.grow 49 5 (aA.1.length))],4,98,0⟩) ⟨[8,10,12,14,49,50,51],[(0,384),(1,800),(2,1216),(3,160)]⟩ qC ?_;intro x1 w1 n1 d g;obtain⟨aM,aN⟩:=x1;unfold a2Y at d;dsimp only at d|-;refine sB sH ?_;refine tW (vE d (λd Z=>?_) (λd Z=>?_))
   .refine vQ (tF (tW (xE ?_)));obtain⟨Q,d⟩:=sR d;refine sB sH ?_ (hp:=by exact Q);refine sB sH ?_;refine sB sH ?_;refine vE d ?_ ?_<;>intro d Z
    .obtain⟨P,d⟩:=sR d;refine uF sH ?_ (hp:=by exact⟨qD,P⟩)
     refine w7 (tF ?_);obtain⟨M,d⟩:=sR d;refine uF sH ?_ (hp:=by exact M);cases d;exact xP ⟨⟨[8,10,12,14,49,50,51],[(0,0),(1,1),(2,2),(3,3)]⟩,_,by rfl,g⟩
    refine vQ (w7 (tF ?_));obtain⟨L,d⟩:=sR d;refine uF sH ?_ (hp:=by exact L);cases d;exact xP ⟨⟨[8,10,12,14,49,50,51],[(0,0),(1,1),(2,2),(3,3)]⟩,_,by rfl,g⟩
   refine EB (FD (FE ?_));cases d;cases g;exact CX ⟨⟨[8,10,14],[(0,0),(1,1),(2,2)]⟩,by rfl⟩
  rintro _ rfl;dsimp only at e|-;refine E7 (tF (tW ?_));refine sB sH ?_;refine xE ?_;obtain⟨aO,hy1,e⟩:=qK e;refine CW 2 (λs=>s=(λx=>⟨[(14,(.val (.list rQ) x,some 0))],[(0,.grow 49 5 (x.length))],1,98,0⟩) aO) ?_ ?_
  .refine ED hy1 (λx=>⟨[(10,.val .mp (some 0),none),(14,(.val (.list rQ) x.1,some 1)),(71,(.val (.list rQ) aB.1,some 2)),(72,(.val (.int .i64) (aB.1.length:Int),none)),(73,.val (.int .i64) x.2,none)],[(0,.map uG .str aC),(1,.grow 49 5 (x.1.length)),(2,.grow 49 5 (aB.1.length))],3,98,0⟩) ⟨[10,14,71,72,73],[(0,1),(1,2),(2,0)]⟩ qC ?_;intro x1 w1 n1 d g;obtain⟨aP,aQ⟩:=x1;unfold a2Z at d;dsimp only at d|-;refine sB sH ?_;refine tW (vE d (λd Z=>?_) (λd Z=>?_))
   .refine vQ (tF (tW (xE ?_)));obtain⟨K,d⟩:=sR d;refine sB sH ?_ (hp:=by exact K);refine sB sH ?_;refine sB sH ?_ (hp:=by exact⟨id,id,id,BZ⟩);refine vE d ?_ ?_<;>intro d Z
    .obtain⟨J,d⟩:=sR d;refine uF sH ?_ (hp:=by exact⟨qD,J⟩)
     refine w7 (tF ?_);obtain⟨I,d⟩:=sR d;refine uF sH ?_ (hp:=by exact I);cases d;exact xP ⟨⟨[10,14,71,72,73],[(0,0),(1,1),(2,2)]⟩,_,by rfl,g⟩
    refine vQ (w7 (tF ?_));obtain⟨H,d⟩:=sR d;refine uF sH ?_ (hp:=by exact H);cases d;exact xP ⟨⟨[10,14,71,72,73],[(0,0),(1,1),(2,2)]⟩,_,by rfl,g⟩
   refine EB (FD (FE ?_));cases d;cases g;exact CX ⟨⟨[14],[(0,1)]⟩,by rfl⟩
  rintro _ rfl;dsimp only at e|-;refine E7 (tF ?_);refine sB sH ?_;refine EC ?_;cases e;exact pL [(0,0)]
 rw[aOi hva2] at e;obtain⟨aR,hv22,hw22,e⟩:=AL e
 try simp only[go_sem] at hw22
 refine uF xw ?_ (hp:=by exact(AK hv22)) (h:=by simp only[go_sem,hw22];rfl);refine tF (tW ?_);by_cases hva12:(C3 aB.1).isSome=true
 .rw[aOd hva12] at e;obtain⟨aS,hv23,hw23,e⟩:=AL e
  try simp only[go_sem] at hw23
  refine uF sH ?_ (hp:=by exact(AK hv23)) (h:=by simp only[go_sem,hw23];rfl);refine tF (sB sH ?_);refine tW (sB sH ?_);refine xE ?_;obtain⟨aT,hy1,e⟩:=qK e;refine CW 0 (λs=>s=(λx=>⟨[(8,(.val (.list rQ) aB.1,some 0)),(10,(.val .mp none,none)),(14,(.val (.list rQ) x,some 1))],[(0,.grow 49 5 (aB.1.length)),(1,.grow 49 5 (x.length))],2,98,0⟩) aT) ?_ ?_
  .refine ED hy1 (λx=>⟨[(8,(.val (.list rQ) aB.1,some 0)),(10,(.val .mp none,none)),(12,.val .mp (some 1),none),(14,(.val (.list rQ) x.1,some 2)),(49,(.val (.list rQ) aA.1,some 3)),(50,(.val (.int .i64) (aA.1.length:Int),none)),(51,.val (.int .i64) x.2,none)],[(0,.grow 49 5 (aB.1.length)),(1,.map uG .str aS),(2,.grow 49 5 (x.1.length)),(3,.grow 49 5 (aA.1.length))],4,98,0⟩) ⟨[8,10,12,14,49,50,51],[(0,384),(1,1024),(2,1216),(3,160)]⟩ qC ?_;intro x1 w1 n1 d g;obtain⟨aU,aV⟩:=x1;unfold a22 at d;dsimp only at d|-;refine sB sH ?_;refine tW (vE d (λd Z=>?_) (λd Z=>?_))
   .refine vQ (tF (tW (xE ?_)));obtain⟨G,d⟩:=sR d;refine sB sH ?_ (hp:=by exact G);refine sB sH ?_;refine sB sH ?_;refine vE d ?_ ?_<;>intro d Z
    .obtain⟨F,d⟩:=sR d;refine uF sH ?_ (hp:=by exact⟨qD,F⟩)
     refine w7 (tF ?_);obtain⟨E,d⟩:=sR d;refine uF sH ?_ (hp:=by exact E);cases d;exact xP ⟨⟨[8,10,12,14,49,50,51],[(0,0),(1,1),(2,2),(3,3)]⟩,_,by rfl,g⟩
    refine vQ (w7 (tF ?_));obtain⟨D,d⟩:=sR d;refine uF sH ?_ (hp:=by exact D);cases d;exact xP ⟨⟨[8,10,12,14,49,50,51],[(0,0),(1,1),(2,2),(3,3)]⟩,_,by rfl,g⟩
   refine EB (FD (FE ?_));cases d;cases g;exact CX ⟨⟨[8,10,14],[(0,0),(1,2)]⟩,by rfl⟩
  rintro _ rfl;dsimp only at e|-;refine E7 (tF (tW ?_));refine sB sH ?_;refine xE ?_;obtain⟨aW,hy1,e⟩:=qK e;refine CW 2 (λs=>s=(λx=>⟨[(14,(.val (.list rQ) x,some 0))],[(0,.grow 49 5 (x.length))],1,98,0⟩) aW) ?_ ?_
  .refine ED hy1 (λx=>⟨[(10,.val .mp none,none),(14,(.val (.list rQ) x.1,some 0)),(71,(.val (.list rQ) aB.1,some 1)),(72,(.val (.int .i64) (aB.1.length:Int),none)),(73,.val (.int .i64) x.2,none)],[(0,.grow 49 5 (x.1.length)),(1,.grow 49 5 (aB.1.length))],2,98,0⟩) ⟨[10,14,71,72,73],[(0,1),(1,0)]⟩ qC ?_;intro x1 w1 n1 d g;obtain⟨aX,aY⟩:=x1;unfold a23 at d;dsimp only at d|-;refine sB sH ?_;refine tW (vE d (λd Z=>?_) (λd Z=>?_))
   .refine vQ (tF (tW (xE ?_)));obtain⟨C,d⟩:=sR d;refine sB sH ?_ (hp:=by exact C);refine sB sH ?_;refine sB sH ?_ (hp:=by exact⟨id,id,id,(λf=>by first|exact BZ f|exact rfl|exact f.elim|simp_all)⟩)
    refine vE d ?_ ?_<;>intro d Z
    .obtain⟨B,d⟩:=sR d;refine uF sH ?_ (hp:=by exact⟨qD,B⟩)
     refine w7 (tF ?_);obtain⟨A,d⟩:=sR d;refine uF sH ?_ (hp:=by exact A);cases d;exact xP ⟨⟨[10,14,71,72,73],[(0,0),(1,1)]⟩,_,by rfl,g⟩
    refine vQ (w7 (tF ?_));obtain⟨z,d⟩:=sR d;refine uF sH ?_ (hp:=by exact z);cases d;exact xP ⟨⟨[10,14,71,72,73],[(0,0),(1,1)]⟩,_,by rfl,g⟩
   refine EB (FD (FE ?_));cases d;cases g;exact CX ⟨⟨[14],[(0,0)]⟩,by rfl⟩
  rintro _ rfl;dsimp only at e|-;refine E7 (tF ?_);refine sB sH ?_;refine EC ?_;cases e;exact pL [(0,0)]
 rw[aOi hva12] at e;obtain⟨aZ,hv32,hw32,e⟩:=AL e
 try simp only[go_sem] at hw32
 refine uF xw ?_ (hp:=by exact(AK hv32)) (h:=by simp only[go_sem,hw32];rfl);refine tF (sB sH ?_);refine tW (sB sH ?_);refine xE ?_;obtain⟨bA,hy1,e⟩:=qK e;refine CW 0 (λs=>s=(λx=>⟨[(8,(.val (.list rQ) aB.1,some 0)),(10,(.val .mp none,none)),(14,(.val (.list rQ) x,some 1))],[(0,.grow 49 5 (aB.1.length)),(1,.grow 49 5 (x.length))],2,98,0⟩) bA) ?_ ?_
 .refine ED hy1 (λx=>⟨[(8,(.val (.list rQ) aB.1,some 0)),(10,(.val .mp none,none)),(12,.val .mp none,none),(14,(.val (.list rQ) x.1,some 1)),(49,(.val (.list rQ) aA.1,some 2)),(50,(.val (.int .i64) (aA.1.length:Int),none)),(51,.val (.int .i64) x.2,none)],[(0,.grow 49 5 (aB.1.length)),(1,.grow 49 5 (x.1.length)),(2,.grow 49 5 (aA.1.length))],3,98,0⟩) ⟨[8,10,12,14,49,50,51],[(0,384),(1,1216),(2,160)]⟩ qC ?_;intro x1 w1 n1 d g;obtain⟨bB,bC⟩:=x1;unfold a24 at d;dsimp only at d|-;refine sB sH ?_;refine tW (vE d (λd Z=>?_) (λd Z=>?_))
  .refine vQ (tF (tW (xE ?_)));obtain⟨y,d⟩:=sR d;refine sB sH ?_ (hp:=by exact y);refine sB sH ?_;refine sB sH ?_;refine vE d ?_ ?_<;>intro d Z
   .obtain⟨w,d⟩:=sR d;refine uF sH ?_ (hp:=by exact⟨qD,w⟩)
    refine w7 (tF ?_);obtain⟨v,d⟩:=sR d;refine uF sH ?_ (hp:=by exact v);cases d;exact xP ⟨⟨[8,10,12,14,49,50,51],[(0,0),(1,1),(2,2)]⟩,_,by rfl,g⟩
   refine vQ (w7 (tF ?_));obtain⟨u,d⟩:=sR d;refine uF sH ?_ (hp:=by exact u);cases d;exact xP ⟨⟨[8,10,12,14,49,50,51],[(0,0),(1,1),(2,2)]⟩,_,by rfl,g⟩
  refine EB (FD (FE ?_));cases d;cases g;exact CX ⟨⟨[8,10,14],[(0,0),(1,1)]⟩,by rfl⟩
 rintro _ rfl;dsimp only at e|-;refine E7 (tF (tW ?_));refine sB sH ?_;refine xE ?_;obtain⟨bD,hy1,e⟩:=qK e;refine CW 2 (λs=>s=(λx=>⟨[(14,(.val (.list rQ) x,some 0))],[(0,.grow 49 5 (x.length))],1,98,0⟩) bD) ?_ ?_
 .refine ED hy1 (λx=>⟨[(10,.val .mp none,none),(14,(.val (.list rQ) x.1,some 0)),(71,(.val (.list rQ) aB.1,some 1)),(72,(.val (.int .i64) (aB.1.length:Int),none)),(73,.val (.int .i64) x.2,none)],[(0,.grow 49 5 (x.1.length)),(1,.grow 49 5 (aB.1.length))],2,98,0⟩) ⟨[10,14,71,72,73],[(0,1),(1,0)]⟩ qC ?_;intro x1 w1 n1 d g;obtain⟨bE,bF⟩:=x1;unfold a25 at d;dsimp only at d|-;refine sB sH ?_;refine tW (vE d (λd Z=>?_) (λd Z=>?_))
  .refine vQ (tF (tW (xE ?_)));obtain⟨t,d⟩:=sR d;refine sB sH ?_ (hp:=by exact t);refine sB sH ?_;refine sB sH ?_ (hp:=by exact⟨id,id,id,(λf=>by first|exact BZ f|exact rfl|exact f.elim|simp_all)⟩)
   refine vE d ?_ ?_<;>intro d Z
   .obtain⟨r,d⟩:=sR d;refine uF sH ?_ (hp:=by exact⟨qD,r⟩)
    refine w7 (tF ?_);obtain⟨q,d⟩:=sR d;refine uF sH ?_ (hp:=by exact q);cases d;exact xP ⟨⟨[10,14,71,72,73],[(0,0),(1,1)]⟩,_,by rfl,g⟩
   refine vQ (w7 (tF ?_));obtain⟨p,d⟩:=sR d;refine uF sH ?_ (hp:=by exact p);cases d;exact xP ⟨⟨[10,14,71,72,73],[(0,0),(1,1)]⟩,_,by rfl,g⟩
  refine EB (FD (FE ?_));cases d;cases g;exact CX ⟨⟨[14],[(0,0)]⟩,by rfl⟩
 rintro _ rfl;dsimp only at e|-;refine E7 (tF ?_);refine sB sH ?_;refine EC ?_;cases e;exact pL [(0,0)]
attribute [irreducible] PZ
end
noncomputable section
def UE:Option Bool:=(PZ (([120]:pJ),(([]:pK),(([]:List wZ),(([(([97]:pJ),(([]:pJ),(([]:pJ),(([]:pK),(([]:pK),(0,(([]:List wZ),()))))))),(Qd3,(([]:pJ),(([]:pJ),(([]:pK),(([]:pK),(0,(([]:List wZ),())))))))]:List wD),())))) (([120]:pJ),(([]:pK),(([]:List wZ),(([(Qd3,(([]:pJ),(([]:pJ),(([]:pK),(([]:pK),(0,(([]:List wZ),()))))))),(([97]:pJ),(([]:pJ),(([]:pJ),(([]:pK),(([]:pK),(0,(([]:List wZ),())))))))]:List wD),()))))).bind λO=>ite ((((O.2=0)&&((O.1.length:Int)=2))==true)=true->0<=(0:Int)/\0<(O.1.length:Int)) (ite (((((O.2=0)&&((O.1.length:Int)=2))&&((((qI rQ O.1 0).1.1=4)&&(((qI rQ O.1 0).1.2.1=Qd3)&&((qI rQ O.1 0).1.2.2.1=([]:pJ))))&&(((qI rQ O.1 0).2.1=([]:pJ))&&((qI rQ O.1 0).2.2.1==false))))==true)=true->0<=(1:Int)/\1<(O.1.length:Int)) (some ((((O.2=0)&&((O.1.length:Int)=2))&&((((qI rQ O.1 0).1.1=4)&&(((qI rQ O.1 0).1.2.1=Qd3)&&((qI rQ O.1 0).1.2.2.1=([]:pJ))))&&(((qI rQ O.1 0).2.1=([]:pJ))&&((qI rQ O.1 0).2.2.1==false))))&&((qI rQ O.1 1).2.1=Qd3))) none) none
section
abbrev a27:List qP:=[]
abbrev a28:List qQ:=[]
@[go_sem] def a29:r9:=⟨[(UE).isSome=true],[(.val .bool (val UE),none)],[]⟩
def a3a:List qP->List qQ->Option r9:=EE (V:=Unit) (λx=>a27) (λx=>a28) λx=>a29
@[go_sem] def aOa:a3a (no_index a27) (no_index a28)=some a29:=sp (λ_ _ h1 h2=>by cases h1;cases h2;rfl) ()
end
@[go_sem] abbrev aHe:Nat×r8:=(11,⟨[],a3a,[],[],none⟩)
def aHf:qZ prog aHe:=
 rJ (rH (qO rY (qO JY (qO D3 (qO D2 (qO HS (qO G8 (qO D4 rG))))))) (qS a26 rF)) func11 41 [(0,none)] rfl λE ⟨⟩=>by
  have u0:= @UE.eq_1;exact rM
def Q0 (O:tP) (a8:tP):Option Bool:=UE.bind λaA=>ite (!aA) (some (false)) ((KF O).bind λaB=>ite (((!aB)==false)=true->(KF a8).isSome=true) (ite ((!aB)||(!(val (KF a8)))) (some (true)) ((PZ O a8).bind λaC=>(UA O a8).bind λaD=>ite (((decide (aC.2=aD.2))==true)=true->(N9 aC.1 aD.1).isSome=true) (some ((aC.2=aD.2)&&(val (N9 aC.1 aD.1)))) none)) none)
section
variable (O:tP) (a8:tP)
abbrev ft:List qP:=[(.val vL O,none),(.val vL a8,none)]
abbrev xx:List qQ:=[]
@[go_sem] def XM:r9:=⟨[(Q0 O a8).isSome=true],[(.val .bool (val (Q0 O a8)),none)],[]⟩
def xy:List qP->List qQ->Option r9:=EE (V:=(tP×tP)) (λx=>ft x.1 x.2) (λx=>xx) λx=>XM x.1 x.2
@[go_sem] def aHg:xy (no_index (ft O a8)) (no_index xx)=some (XM O a8):=sp (λ⟨_,_⟩⟨_,_⟩ x y=>by cases x;cases y;rfl) (O,a8)
end
@[go_sem] abbrev aHh:Nat×r8:=(4,⟨[.v,.v],xy,[],[],none⟩)
def aHi:qZ prog aHh:=
 rJ (rH (qO D3 rG) (qS aHf (qS aEf (qS a26 (qS aHa (qS aBz rF)))))) func4 39 [(4,none)] rfl λE ⟨O,a8⟩=>by
  have u0:= @Q0.eq_1;exact rM
attribute [irreducible] UE Q0
end
end Go.Proofs.YtedimeeleabhnaaGreatDoor
section
end
