import Derived.Test.YtedimeeleabhnaaGreatDoorA03
set_option linter.all false
set_option maxRecDepth 100000
set_option maxHeartbeats 4000000
namespace Go.Proofs.YtedimeeleabhnaaGreatDoor
open Vc
open Tryz
noncomputable section
@[go_sem] def Wn (O:(pT×Unit)->rP->Option pT):(rP×(pT×Unit)×Nat)->r8:=fun(a8,aA,aB)=>rv [aB=(aA.1.length)] (O aA a8) λz=>([],[.cells (.pair vA .unit) (((some (0,0)),(z,())),()) [(1,1)],.grow 5 1 (z.length)])
@[go_sem] def aLj (O:(pT×Unit)->rP->Option pT) a8 aA aB:=rF Wl Wm (Wn O) (a8,aA,aB)
@[go_sem] abbrev vd (F:(pT×Unit)->rP->Option pT):Nat×r7:=mE 206 [.p (.pair vA .unit) [1],.v] Wl Wm (Wn F)
section
variable {O:(pT×Unit)->Ja0->Option pT}{a8:(pT×Unit)->rP->Option pT}(hG0:qW prog (eo O)) (hG1:qW prog (vd a8))
include hG0 hG1
def OF (aA:Ja0) (a8:(pT×Unit)->rP->Option pT):(Int×pT)->Option ((Int×pT)⊕pT):=fun(aB,aC)=>ite (decide (aB<(aA.length:Int))) (ite (0<=aB/\aB<(aA.length:Int)) ((a8 (aC,()) (qF.un (qH .part aA aB))).bind λaD=>ite (qG (aB+1)) (some (.inl ((aB+1),aD))) none) none) (some (.inr aC))
def SU (O:(pT×Unit)->Ja0->Option pT) (a8:(pT×Unit)->rP->Option pT) (aE:(pT×Unit)) (aA:Ja0):Option pT:=rA (rC (OF aA a8) (0,aE.1)) λaF=>some (aF)
theorem aDp:qW prog (eo (SU O a8)):=
 rI (rH (qO uT (qO uY rG)) (qQ hG1 rE)) func150 16 [] rfl λE ⟨aA,aE,aG⟩=>by
  have u0:= @SU.eq_1;have u1:= @OF.eq_1
  let l1:LE (OF aA a8):=⟨λx=>⟨[(0,rs 0 0),(6,sv (.list .part) aA),(7,iv (aA.length:Int)),(8,iv x.1)],[(0,.cells (.pair vA .unit) (((some (0,0)),(x.2,())),()) [(1,1)]),(1,.grow 5 1 (x.2.length))],2,16,2⟩⟩
  let x1:XE (OF aA a8) 0 pT:=⟨λx=>⟨[],[(0,.cells (.pair vA .unit) (((some (0,0)),(x,())),()) [(1,1)]),(1,.grow 5 1 (x.length))],2,16,2⟩⟩
  exact rK
def HT (aH:rP) (O:(pT×Unit)->Ja0->Option pT):(Int×pT)->Option ((Int×pT)⊕pT):=fun(aI,aJ)=>ite (decide (aI<(aH.2.2.2.2.1.length:Int))) (ite (0<=aI/\aI<(aH.2.2.2.2.1.length:Int)) ((zE (aJ,()) ([([32]:pI),(qH rT aH.2.2.2.2.1 aI).1,([32,123]:pI)]:pJ)).bind λaK=>(O (aK,()) ((qH rT aH.2.2.2.2.1 aI).2.1)).bind λaL=>(zE (aL,()) ([([125]:pI)]:pJ)).bind λaM=>ite (qG (aI+1)) (some (.inl ((aI+1),aM))) none) none) (some (.inr aJ))
def K0 (O:(pT×Unit)->Ja0->Option pT) (a8:(pT×Unit)->rP->Option pT) (aN:(pT×Unit)) (aH:rP):Option pT:=ite (decide (aH.1=1)) ((NY aH.2.1).bind λaO=>(zE aN ([aO]:pJ)).bind λaP=>some (aP)) (ite (decide (aH.1=10)) ((zE aN ([([35]:pI)]:pJ)).bind λaQ=>some (aQ)) (ite (decide (aH.1=11)) (ite (decide ((aH.2.2.2.2.2.1.length:Int)=0)) ((zE aN ([([60]:pI),aH.2.2.1,([47,62]:pI)]:pJ)).bind λaR=>some (aR)) ((zE aN ([([60]:pI),aH.2.2.1,([62]:pI)]:pJ)).bind λaS=>(O (aS,()) aH.2.2.2.2.2.1).bind λaT=>(zE (aT,()) ([([60,47]:pI),aH.2.2.1,([62]:pI)]:pJ)).bind λaU=>some (aU))) (ite (decide (aH.1=2)) ((zE aN ([([123]:pI),aH.2.2.1,([125]:pI)]:pJ)).bind λaV=>some (aV)) (ite (0<=aH.1/\aH.1<((10:Nat):Int)) ((zE aN ([([123]:pI),aH.2.2.1,([44,32]:pI),(qH .str ([([]:pI),([]:pI),([]:pI),([110,117,109,98,101,114]:pI),([117,110,105,116]:pI),([100,97,116,101]:pI),([108,105,115,116]:pI),([112,108,117,114,97,108]:pI),([111,114,100,105,110,97,108]:pI),([115,101,108,101,99,116]:pI)]:pJ) aH.1)]:pJ)).bind λaW=>rA (σ:=pT) (ite (!decide (aH.2.2.2.1=([]:pI))) ((zE (aW,()) ([([44,32]:pI),aH.2.2.2.1]:pJ)).bind λaX=>some (aX)) (some (aW))) λaY=>rA (σ:=pT) (ite ((7<=aH.1)&&(aH.1<=9)) ((zE (aY,()) ([([44]:pI)]:pJ)).bind λaZ=>some (aZ)) (some (aY))) λbA=>rA (rC (HT aH O) (0,bA)) λbB=>(zE (bB,()) ([([125]:pI)]:pJ)).bind λbC=>some (bC)) none))))
theorem aDq:qW prog (vd (K0 O a8)):=
 rI (rH (qO tN (qO rX (qO vC (qO uT (qO yK (qO uY (qO AK (qO aAd rG)))))))) (qQ Uh (qQ aBz (qQ hG0 (qQ F4 rE))))) func206 101 [] rfl λE ⟨aH,aN,aG⟩=>by
  have u0:= @K0.eq_1;have u1:= @HT.eq_1
  let l1:LE (HT aH O):=⟨λx=>⟨[(0,rs 0 0),(34,sv (.list rT) aH.2.2.2.2.1),(35,iv (aH.2.2.2.2.1.length:Int)),(36,iv x.1)],[(0,.cells (.pair vA .unit) (((some (0,0)),(x.2,())),()) [(1,1)]),(1,.grow 5 1 (x.2.length))],2,101,2⟩⟩
  let j1:JE 21 pT:=⟨λx=>⟨[(0,rs 0 0),(3,rs 2 0)],[(0,.cells (.pair vA .unit) (((some (0,0)),(x,())),()) [(1,1)]),(1,.grow 5 1 (x.length)),(2,.cells sM aH [])],3,101,2⟩⟩
  let j2:JE 29 pT:=⟨λx=>⟨[(0,rs 0 0),(3,rs 2 0)],[(0,.cells (.pair vA .unit) (((some (0,0)),(x,())),()) [(1,1)]),(1,.grow 5 1 (x.length)),(2,.cells sM aH [])],3,101,2⟩⟩
  let x1:XE (HT aH O) 1 pT:=⟨λx=>⟨[(0,rs 0 0)],[(0,.cells (.pair vA .unit) (((some (0,0)),(x,())),()) [(1,1)]),(1,.grow 5 1 (x.length))],2,101,2⟩⟩
  exact rK
end
def aDr (p:((pT×Unit)->Ja0->Option pT)×((pT×Unit)->rP->Option pT)):((pT×Unit)->Ja0->Option pT)×((pT×Unit)->rP->Option pT):=(SU p.1 p.2,K0 p.1 p.2)
def G7 (n:Nat):((pT×Unit)->Ja0->Option pT)×((pT×Unit)->rP->Option pT):=Nat.rec (motive:=λ_=>((pT×Unit)->Ja0->Option pT)×((pT×Unit)->rP->Option pT)) ((λ_ _=>none),(λ_ _=>none)) (λ_ p=>aDr p) n
theorem Wo: ∀n:Nat,qW prog (eo (G7 n).1)/\qW prog (vd (G7 n).2)
 |0=>⟨uX,uX⟩
 |n+1=>have h:=Wo n;⟨aDp h.1 h.2,aDq h.1 h.2⟩
def X6:(pT×Unit)->Ja0->Option pT:=(G7 1000).1
@[go_sem] abbrev aDs:Nat×r7:=eo X6
theorem aDt:qW prog aDs:=(Wo 1000).1
theorem aMP:X6=(G7 1000).1:=rfl
def D6 (O:pI) (a8:Ja2) (aA:Int) (aB:pQ) (aC:pR):Option (pI×Int×Int×Int):=(vQ O a8 aA aB aC).bind λaD=>ite (((!decide (aD=9))==false)=true->0<=aA/\aA<(a8.length:Int)) (ite ((!decide (aD=9))||(!((((qH sN a8 aA).2.1)=([105,110,116,101,103,101,114]:pI))||(((qH sN a8 aA).2.1)=([112,101,114,99,101,110,116]:pI))))) ((vR O a8 aA aB 3 aC).bind λaE=>some (([]:pI),aA,aE.1,aE.2)) ((sT O a8 aA aB 9 aC).bind λaF=>some (aF.1,aF.2.1,aF.2.2.1,aF.2.2.2))) none
abbrev Wp (x:(pI×Ja2×Int×pQ×pR)):List qK:=[rs 0 0,sv .clo (some (255,[]))]
abbrev Wq (x:(pI×Ja2×Int×pQ×pR)):List qP:=[.cells tG (x.1,(x.2.1,(x.2.2.1,((some 1),x.2.2.2.1)))) [],.map .str .bool x.2.2.2.2]
@[go_sem] def Wr:(pI×Ja2×Int×pQ×pR)->r8:=fun(O,a8,aA,aB,aC)=>rv [] (D6 O a8 aA aB aC) λz=>([tv (z.1)],[.cells tG (O,(a8,(z.2.1,((some 1),(z.2.2.1,(z.2.2.2,())))))) [],.map .str .bool aC])
@[go_sem] def aLk O a8 aA aB aC:=rF Wp Wq Wr (O,a8,aA,aB,aC)
@[go_sem] abbrev aDu:Nat×r7:=mE 254 [.p tG [],.v] Wp Wq Wr [(0,3,.m)] [1]
theorem aDv:qW prog aDu:=
 rI (rH (qO tN (qO rX (qO zY (qO zD (qO AJ rG))))) (qQ C2 (qQ aBv (qQ EC (qQ ED rE))))) func254 28 [(4,none)] rfl λE ⟨O,a8,aA,aB,aC⟩=>by
  have u0:= @D6.eq_1;exact rK
def D7 (O:pI) (a8:Ja2) (aA:Int) (aB:pQ) (aC:pR):Option (pI×Int×Int×Int):=(vQ O a8 aA aB aC).bind λaD=>ite (((!decide (aD=9))==false)=true->0<=aA/\aA<(a8.length:Int)) (ite (((!decide (aD=9))==false)=true->(JR ((qH sN a8 aA).2.1)).isSome=true) (ite ((!decide (aD=9))||(!(val (JR ((qH sN a8 aA).2.1))))) ((vR O a8 aA aB 3 aC).bind λaE=>some (([]:pI),aA,aE.1,aE.2)) ((sT O a8 aA aB 9 aC).bind λaF=>some (aF.1,aF.2.1,aF.2.2.1,aF.2.2.2))) none) none
abbrev Ws (x:(pI×Ja2×Int×pQ×pR)):List qK:=[rs 0 0,sv .clo (some (257,[]))]
abbrev Wt (x:(pI×Ja2×Int×pQ×pR)):List qP:=[.cells tG (x.1,(x.2.1,(x.2.2.1,((some 1),x.2.2.2.1)))) [],.map .str .bool x.2.2.2.2]
@[go_sem] def Wu:(pI×Ja2×Int×pQ×pR)->r8:=fun(O,a8,aA,aB,aC)=>rv [] (D7 O a8 aA aB aC) λz=>([tv (z.1)],[.cells tG (O,(a8,(z.2.1,((some 1),(z.2.2.1,(z.2.2.2,())))))) [],.map .str .bool aC])
@[go_sem] def aLl O a8 aA aB aC:=rF Ws Wt Wu (O,a8,aA,aB,aC)
@[go_sem] abbrev aDw:Nat×r7:=mE 254 [.p tG [],.v] Ws Wt Wu [(0,3,.m)] [1]
theorem aDx:qW prog aDw:=
 rI (rH (qO tN (qO rX (qO zY (qO zD (qO AJ rG))))) (qQ C2 (qQ Po (qQ EC (qQ ED rE))))) func254 28 [(4,none)] rfl λE ⟨O,a8,aA,aB,aC⟩=>by
  have u0:= @D7.eq_1;exact rK
def C5 (O:pI) (a8:Ja2) (aA:Int) (aB:pQ) (aC:pR):Option (pI×Int×Int×Int):=(vQ O a8 aA aB aC).bind λaD=>ite (((!decide (aD=9))==false)=true->0<=aA/\aA<(a8.length:Int)) (ite (((!decide (aD=9))==false)=true->(AL ((qH sN a8 aA).2.1)).isSome=true) (ite ((!decide (aD=9))||(!(val (AL ((qH sN a8 aA).2.1))))) ((vR O a8 aA aB 3 aC).bind λaE=>some (([]:pI),aA,aE.1,aE.2)) ((sT O a8 aA aB 9 aC).bind λaF=>some (aF.1,aF.2.1,aF.2.2.1,aF.2.2.2))) none) none
abbrev Wv (x:(pI×Ja2×Int×pQ×pR)):List qK:=[rs 0 0,sv .clo (some (258,[]))]
abbrev Ww (x:(pI×Ja2×Int×pQ×pR)):List qP:=[.cells tG (x.1,(x.2.1,(x.2.2.1,((some 1),x.2.2.2.1)))) [],.map .str .bool x.2.2.2.2]
@[go_sem] def Wx:(pI×Ja2×Int×pQ×pR)->r8:=fun(O,a8,aA,aB,aC)=>rv [] (C5 O a8 aA aB aC) λz=>([tv (z.1)],[.cells tG (O,(a8,(z.2.1,((some 1),(z.2.2.1,(z.2.2.2,())))))) [],.map .str .bool aC])
@[go_sem] def aLm O a8 aA aB aC:=rF Wv Ww Wx (O,a8,aA,aB,aC)
@[go_sem] abbrev aDy:Nat×r7:=mE 254 [.p tG [],.v] Wv Ww Wx [(0,3,.m)] [1]
theorem Wy:qW prog aDy:=
 rI (rH (qO tN (qO rX (qO zY (qO zD (qO AJ rG))))) (qQ C2 (qQ WX (qQ EC (qQ ED rE))))) func254 28 [(4,none)] rfl λE ⟨O,a8,aA,aB,aC⟩=>by
  have u0:= @C5.eq_1;exact rK
def OG (O:(List wT)):Int->Option (Int⊕(Unit⊕Bool)):=λa8=>ite (decide (a8<(O.length:Int))) (ite (0<=a8/\a8<(O.length:Int)) ((N0 ((qH sP O a8).1)).bind λaA=>ite (((!aA)==false)=true->(G4 ((qH sP O a8).2.1)).isSome=true) (ite (((((!aA)||(!(((((qH sP O a8).2.1).length:Int)<=4000)&&(Lib.validD ((qH sP O a8).2.1)))))==false)&&((decide (0<a8))==true))=true->qG (a8- 1)) (ite (((((!aA)||(!(((((qH sP O a8).2.1).length:Int)<=4000)&&(Lib.validD ((qH sP O a8).2.1)))))==false)&&((decide (0<a8))==true))=true->0<=(a8- 1)/\(a8- 1)<(O.length:Int)) (ite (((!aA)||(!(((((qH sP O a8).2.1).length:Int)<=4000)&&(Lib.validD ((qH sP O a8).2.1)))))||((0<a8)&&(!Op.bytesLess (qH sP O (a8- 1)).1 (qH sP O a8).1))) (some (.inr (.inr (false)))) (ite (qG (a8+1)) (some (.inl (a8+1))) none)) none) none) none) none) (some (.inr (.inl ())))
def HU (O:(List wT)):Option Bool:=sK (rC (OG O) 0) λ_=>some (decide ((O.length:Int)<=20))
abbrev Wz (x:(List wT)):List qK:=[sv (.list sP) x]
@[go_sem] def Xa:(List wT)->r8:=λO=>rv [] (HU O) λz=>([bv z],[])
@[go_sem] def aLn O:=rF Wz qU Xa O
@[go_sem] abbrev aDz:Nat×r7:=mE 56 [.v] Wz qU Xa
theorem Xb:qW prog aDz:=
 rI (rH (qO rX (qO D3 (qO MR rG))) (qQ Lw (qQ uk rE))) func56 41 [(2,none)] rfl λE O=>by
  have u0:= @HU.eq_1;have u1:= @OG.eq_1
  let l1:LE (OG O):=⟨λx=>⟨[(0,sv (.list sP) O),(5,sv (.list sP) O),(6,iv (O.length:Int)),(7,iv x)],[],0,41,0⟩⟩
  let x1:XE (OG O) 0 Unit:=⟨λ_=>⟨[(0,sv (.list sP) O)],[],0,41,0⟩⟩
  exact rK
def OH (O:Ja0):Option pI:=(X6 (([]:pT),()) O).bind λa8=>some (tQ a8)
abbrev Xc (x:Ja0):List qK:=[sv (.list .part) x]
@[go_sem] def Xd:Ja0->r8:=λO=>rv [] (OH O) λz=>([tv z],[])
@[go_sem] def aLo O:=rF Xc qU Xd O
@[go_sem] abbrev aDA:Nat×r7:=mE 107 [.v] Xc qU Xd
theorem Xe:qW prog aDA:=
 rI (rH (qO Kb rG) (qQ aDt (qQ dl rE))) func107 8 [(2,none)] rfl λE O=>by
  have u0:= @OH.eq_1;exact rK
attribute [irreducible] SU K0 X6 D6 D7 C5 HU OH
end
noncomputable section
abbrev Xf (x:(Ja1×Ja0×pI×Nat)):List qK:=[(.val (.list rT) x.1,some 0),sv (.list .part) x.2.1,tv x.2.2.1]
abbrev Xg (x:(Ja1×Ja0×pI×Nat)):List qP:=[.grow 128 2 x.2.2.2]
@[go_sem] def Xh (O:Ja1->Ja0->pI->Option Ja1):(Ja1×Ja0×pI×Nat)->r8:=fun(a8,aA,aB,aC)=>rv [aC=(a8.length)] (O a8 aA aB) λz=>([(.val (.list rT) z,some 0)],[.grow 128 2 (z.length)])
@[go_sem] def aLp (O:Ja1->Ja0->pI->Option Ja1) a8 aA aB aC:=rF Xf Xg (Xh O) (a8,aA,aB,aC)
@[go_sem] abbrev ve (F:Ja1->Ja0->pI->Option Ja1):Nat×r7:=mE 136 [.own,.v,.v] Xf Xg (Xh F)
abbrev Xi (x:(rP×pI×Ja1×Nat)):List qK:=[sv sM x.1,tv x.2.1,sv .clo (some (188,[(0,0)]))]
abbrev Xj (x:(rP×pI×Ja1×Nat)):List qP:=[.cells (.list rT) x.2.2.1 [(0,1)],.grow 128 2 x.2.2.2]
@[go_sem] def Xk (O:rP->pI->Ja1->Option Ja1):(rP×pI×Ja1×Nat)->r8:=fun(a8,aA,aB,aC)=>rv [aC=(aB.length)] (O a8 aA aB) λz=>([],[.cells (.list rT) z [(0,1)],.grow 128 2 (z.length)])
@[go_sem] def aLq (O:rP->pI->Ja1->Option Ja1) a8 aA aB aC:=rF Xi Xj (Xk O) (a8,aA,aB,aC)
@[go_sem] abbrev ep (F:rP->pI->Ja1->Option Ja1):Nat×r7:=mE 187 [.v,.v,.f [((.list rT),[0])]] Xi Xj (Xk F)
abbrev Xl (x:(Ja0×pI×Ja1×Nat)):List qK:=[sv (.list .part) x.1,tv x.2.1,rs 0 0]
abbrev Xm (x:(Ja0×pI×Ja1×Nat)):List qP:=[.cells (.list rT) x.2.2.1 [(0,1)],.grow 128 2 x.2.2.2]
@[go_sem] def Xn (O:Ja0->pI->Ja1->Option Ja1):(Ja0×pI×Ja1×Nat)->r8:=fun(a8,aA,aB,aC)=>rv [aC=(aB.length)] (O a8 aA aB) λz=>([],[.cells (.list rT) z [(0,1)],.grow 128 2 (z.length)])
@[go_sem] def aLr (O:Ja0->pI->Ja1->Option Ja1) a8 aA aB aC:=rF Xl Xm (Xn O) (a8,aA,aB,aC)
@[go_sem] abbrev vf (F:Ja0->pI->Ja1->Option Ja1):Nat×r7:=mE 188 [.v,.v,.p (.list rT) [0]] Xl Xm (Xn F)
section
variable {O:Ja1->Ja0->pI->Option Ja1}{a8:rP->pI->Ja1->Option Ja1}{aA:Ja0->pI->Ja1->Option Ja1}(hG0:qW prog (ve O)) (hG1:qW prog (ep a8)) (hG2:qW prog (vf aA))
include hG0 hG1 hG2
def HV (aB:Ja0) (aC:pI) (a8:rP->pI->Ja1->Option Ja1):(Ja0×Int×Int×Ja1)->Option ((Ja0×Int×Int×Ja1)⊕(Ja0×Int×Ja1)):=fun(aD,aE,aF,aG)=>ite (decide (aF<(aB.length:Int))) (ite (0<=aF/\aF<(aB.length:Int)) ((NL (qF.un (qH .part aB aF))).bind λaH=>ite aH (ite ((aD.length+([(qF.of (qF.un (qH .part aB aF)))]:List qF).length)*104<=140737488355328) (ite (qG (aF+1)) (some (.inl ((aD++([(qF.of (qF.un (qH .part aB aF)))]:List qF)),aE,(aF+1),aG))) none) none) (ite (-9223372036854775808<=aE/\aE<=9223372036854775807) (ite (((aC++(Lib.itoa aE)).length:Int)<=9223372036854775807) ((HS aD).bind λaI=>ite ((aG.length+([((aC++(Lib.itoa aE)),(aI,()))]:List qS).length)*40<=140737488355328) (ite (qG (aE+1)) (ite (-9223372036854775808<=(aE+1)/\(aE+1)<=9223372036854775807) (ite (((aC++(Lib.itoa (aE+1))).length:Int)<=9223372036854775807) (ite ((((aC++(Lib.itoa (aE+1)))++([47]:pI)).length:Int)<=9223372036854775807) ((a8 (qF.un (qH .part aB aF)) ((aC++(Lib.itoa (aE+1)))++([47]:pI)) (aG++([((aC++(Lib.itoa aE)),(aI,()))]:List qS))).bind λaJ=>ite (qG (aF+1)) (some (.inl (([]:List qF),(aE+1),(aF+1),aJ))) none) none) none) none) none) none) none) none)) none) (some (.inr (aD,aE,aG)))
def HW (O:Ja1->Ja0->pI->Option Ja1) (a8:rP->pI->Ja1->Option Ja1) (aA:Ja0->pI->Ja1->Option Ja1) (aK:Ja1) (aB:Ja0) (aC:pI):Option Ja1:=rA (rC (HV aB aC a8) (([]:List qF),0,0,aK)) fun(aL,aM,aN)=>ite (-9223372036854775808<=aM/\aM<=9223372036854775807) (ite (((aC++(Lib.itoa aM)).length:Int)<=9223372036854775807) ((HS aL).bind λaO=>ite ((aN.length+([((aC++(Lib.itoa aM)),(aO,()))]:List qS).length)*40<=140737488355328) (some (aN++([((aC++(Lib.itoa aM)),(aO,()))]:List qS))) none) none) none
theorem aDB:qW prog (ve (HW O a8 aA)):=
 rI (rH (qO uT (qO WD (qO tu (qO uY rG)))) (qQ uj (qQ Ks (qQ Wd (qQ hG1 rE))))) func136 54 [(6,none)] rfl λE ⟨aK,aB,aC,aP⟩=>by
  have u0:= @HW.eq_1;have u1:= @HV.eq_1
  let l1:LE (HV aB aC a8):=⟨λx=>⟨[(2,tv aC),(3,rs 1 0),(7,(.val (.list .part) x.1,some 2)),(8,iv x.2.1),(11,sv (.list .part) aB),(12,iv (aB.length:Int)),(13,iv x.2.2.1)],[(0,.grow 128 2 (x.2.2.2.length)),(1,.cells (.list rT) x.2.2.2 [(0,0)]),(2,.grow 183 6 (x.1.length))],3,54,1⟩⟩
  let x1:XE (HV aB aC a8) 0 (Ja0×Int×Ja1):=⟨λx=>⟨[(2,tv aC),(3,rs 1 0),(7,(.val (.list .part) x.1,some 2)),(8,iv x.2.1)],[(0,.grow 128 2 (x.2.2.length)),(1,.cells (.list rT) x.2.2 [(0,0)]),(2,.grow 183 6 (x.1.length))],3,54,1⟩⟩
  exact rK
def OI (aQ:rP) (aR:pI) (aA:Ja0->pI->Ja1->Option Ja1):(Int×Ja1)->Option ((Int×Ja1)⊕Ja1):=fun(aS,aT)=>ite (decide (aS<(aQ.2.2.2.2.1.length:Int))) (ite (0<=aS/\aS<(aQ.2.2.2.2.1.length:Int)) (ite (((aR++(qH rT aQ.2.2.2.2.1 aS).1).length:Int)<=9223372036854775807) (ite ((((aR++(qH rT aQ.2.2.2.2.1 aS).1)++([47]:pI)).length:Int)<=9223372036854775807) ((aA ((qH rT aQ.2.2.2.2.1 aS).2.1) ((aR++(qH rT aQ.2.2.2.2.1 aS).1)++([47]:pI)) aT).bind λaU=>ite (qG (aS+1)) (some (.inl ((aS+1),aU))) none) none) none) none) (some (.inr aT))
def SV (O:Ja1->Ja0->pI->Option Ja1) (a8:rP->pI->Ja1->Option Ja1) (aA:Ja0->pI->Ja1->Option Ja1) (aQ:rP) (aR:pI) (aV:Ja1):Option Ja1:=ite (!((7<=aQ.1)&&(aQ.1<=9))) ((aA aQ.2.2.2.2.2.1 aR aV).bind λaW=>some (aW)) (rA (rC (OI aQ aR aA) (0,aV)) λaX=>some (aX))
theorem aDC:qW prog (ep (SV O a8 aA)):=
 rI (rH (qO tN (qO rX (qO uT (qO yK (qO uY (qO AK rG)))))) (qQ F4 (qQ hG2 rE))) func187 34 [] rfl λE ⟨aQ,aR,aV,aY⟩=>by
  have u0:= @SV.eq_1;have u1:= @OI.eq_1
  let l1:LE (OI aQ aR aA):=⟨λx=>⟨[(1,tv aR),(2,sv .clo (some (188,[(0,0)]))),(18,sv (.list rT) aQ.2.2.2.2.1),(19,iv (aQ.2.2.2.2.1.length:Int)),(20,iv x.1)],[(0,.cells (.list rT) x.2 [(0,1)]),(1,.grow 128 2 (x.2.length))],2,34,2⟩⟩
  let x1:XE (OI aQ aR aA) 0 Ja1:=⟨λx=>⟨[],[(0,.cells (.list rT) x [(0,1)]),(1,.grow 128 2 (x.length))],2,34,2⟩⟩
  exact rK
def SW (O:Ja1->Ja0->pI->Option Ja1) (a8:rP->pI->Ja1->Option Ja1) (aA:Ja0->pI->Ja1->Option Ja1) (aZ:Ja0) (bA:pI) (bB:Ja1):Option Ja1:=(O bB aZ bA).bind λbC=>some (bC)
theorem aDD:qW prog (vf (SW O a8 aA)):=
 rI (rH (qO WD rG) (qQ hG0 rE)) func188 9 [] rfl λE ⟨aZ,bA,bB,aY⟩=>by
  have u0:= @SW.eq_1;exact rK
end
def aDE (p:(Ja1->Ja0->pI->Option Ja1)×(rP->pI->Ja1->Option Ja1)×(Ja0->pI->Ja1->Option Ja1)):(Ja1->Ja0->pI->Option Ja1)×(rP->pI->Ja1->Option Ja1)×(Ja0->pI->Ja1->Option Ja1):=(HW p.1 p.2.1 p.2.2,SV p.1 p.2.1 p.2.2,SW p.1 p.2.1 p.2.2)
def AN (n:Nat):(Ja1->Ja0->pI->Option Ja1)×(rP->pI->Ja1->Option Ja1)×(Ja0->pI->Ja1->Option Ja1):=Nat.rec (motive:=λ_=>(Ja1->Ja0->pI->Option Ja1)×(rP->pI->Ja1->Option Ja1)×(Ja0->pI->Ja1->Option Ja1)) ((λ_ _ _=>none),(λ_ _ _=>none),(λ_ _ _=>none)) (λ_ p=>aDE p) n
theorem Xo: ∀n:Nat,qW prog (ve (AN n).1)/\qW prog (ep (AN n).2.1)/\qW prog (vf (AN n).2.2)
 |0=>⟨uX,uX,uX⟩
 |n+1=>have h:=Xo n;⟨aDB h.1 h.2.1 h.2.2,aDC h.1 h.2.1 h.2.2,aDD h.1 h.2.1 h.2.2⟩
def eq:Ja1->Ja0->pI->Option Ja1:=(AN 1000).1
theorem aMQ:eq=(AN 1000).1:=rfl
def SX:rP->pI->Ja1->Option Ja1:=(AN 1000).2.1
@[go_sem] abbrev aDF:Nat×r7:=ep SX
theorem aDG:qW prog aDF:=(Xo 1000).2.1
theorem aMR:SX=(AN 1000).2.1:=rfl
def er:Ja0->pI->Ja1->Option Ja1:=(AN 1000).2.2
theorem aMS:er=(AN 1000).2.2:=rfl
def et (O:Ja0) (a8:pI):(Ja0×Int×Int×Ja1)->Option ((Ja0×Int×Int×Ja1)⊕(Ja0×Int×Ja1)):=fun(aA,aB,aC,aD)=>ite (decide (aC<(O.length:Int))) (ite (0<=aC/\aC<(O.length:Int)) ((NL (qF.un (qH .part O aC))).bind λaE=>ite aE (ite ((aA.length+([(qF.of (qF.un (qH .part O aC)))]:List qF).length)*104<=140737488355328) (ite (qG (aC+1)) (some (.inl ((aA++([(qF.of (qF.un (qH .part O aC)))]:List qF)),aB,(aC+1),aD))) none) none) (ite (-9223372036854775808<=aB/\aB<=9223372036854775807) (ite (((a8++(Lib.itoa aB)).length:Int)<=9223372036854775807) ((HS aA).bind λaF=>ite ((aD.length+([((a8++(Lib.itoa aB)),(aF,()))]:List qS).length)*40<=140737488355328) (ite (qG (aB+1)) (ite (-9223372036854775808<=(aB+1)/\(aB+1)<=9223372036854775807) (ite (((a8++(Lib.itoa (aB+1))).length:Int)<=9223372036854775807) (ite ((((a8++(Lib.itoa (aB+1)))++([47]:pI)).length:Int)<=9223372036854775807) ((SX (qF.un (qH .part O aC)) ((a8++(Lib.itoa (aB+1)))++([47]:pI)) (aD++([((a8++(Lib.itoa aB)),(aF,()))]:List qS))).bind λaG=>ite (qG (aC+1)) (some (.inl (([]:List qF),(aB+1),(aC+1),aG))) none) none) none) none) none) none) none) none)) none) (some (.inr (aA,aB,aD)))
def SY (O:Ja0) (a8:pI):Option Ja1:=rA (rC (et O a8) (([]:List qF),0,0,([]:List qS))) fun(aA,aB,aC)=>ite (-9223372036854775808<=aB/\aB<=9223372036854775807) (ite (((a8++(Lib.itoa aB)).length:Int)<=9223372036854775807) ((HS aA).bind λaD=>ite ((aC.length+([((a8++(Lib.itoa aB)),(aD,()))]:List qS).length)*40<=140737488355328) (some (aC++([((a8++(Lib.itoa aB)),(aD,()))]:List qS))) none) none) none
abbrev Xp (x:(Ja0×pI)):List qK:=[(.nilS,none),sv (.list .part) x.1,tv x.2]
@[go_sem] def Xq:(Ja0×pI)->r8:=fun(O,a8)=>rv [] (SY O a8) λz=>([(.val (.list rT) z,some 0)],[.grow 128 2 (z.length)])
@[go_sem] def aLs O a8:=rF Xp qU Xq (O,a8)
@[go_sem] abbrev Xr:Nat×r7:=mE 136 [.v,.v,.v] Xp qU Xq
theorem aDH:qW prog Xr:=
 rI (rH (qO uT (qO WD (qO tu (qO uY rG)))) (qQ uj (qQ Ks (qQ Wd (qQ aDG rE))))) func136 54 [(6,none)] rfl λE ⟨O,a8⟩=>by
  have u0:= @SY.eq_1;have u1:= @et.eq_1
  let l1:LE (et O a8):=⟨λx=>⟨[(2,tv a8),(3,rs 0 0),(7,(.val (.list .part) x.1,some 1)),(8,iv x.2.1),(11,sv (.list .part) O),(12,iv (O.length:Int)),(13,iv x.2.2.1)],[(0,.cells (.list rT) x.2.2.2 [(0,2)]),(1,.grow 183 6 (x.1.length)),(2,.grow 128 2 (x.2.2.2.length))],3,54,0⟩⟩
  let x1:XE (et O a8) 0 (Ja0×Int×Ja1):=⟨λx=>⟨[(2,tv a8),(3,rs 0 0),(7,(.val (.list .part) x.1,some 1)),(8,iv x.2.1)],[(0,.cells (.list rT) x.2.2 [(0,2)]),(1,.grow 183 6 (x.1.length)),(2,.grow 128 2 (x.2.2.length))],3,54,0⟩⟩
  exact rK
def OJ (O:Int) (a8:pI):(Int×pT)->Option ((Int×pT)⊕pT):=fun(aA,aB)=>ite (decide (aA<(a8.length:Int))) (ite (decide (O=4)) (ite (0<=aA/\aA<(a8.length:Int)) (ite False ((HL (aB,()) (W4 (qZ a8 aA))).bind λaC=>ite (qG (aA+1)) (some (.inl ((aA+1),(aB++tK (W4 (qZ a8 aA)))))) none) none) none) (ite (0<=aA/\aA<(a8.length:Int)) ((NU O (qZ a8 aA) (decide (aA=0))).bind λaD=>(HL (aB,()) aD).bind λaE=>ite (qG (aA+1)) (some (.inl ((aA+1),(aB++tK aD)))) none) none)) (some (.inr aB))
def SZ (O:Int) (a8:pI):Option pI:=ite (!((1<=O)&&(O<=4))) (some ([]:pI)) (rA (rC (OJ O a8) (0,([]:pT))) λaA=>some (tQ aA))
abbrev Xs (x:(Int×pI)):List qK:=[iv x.1,tv x.2]
@[go_sem] def Xt:(Int×pI)->r8:=fun(O,a8)=>rv [] (SZ O a8) λz=>([tv z],[])
@[go_sem] def aLt O a8:=rF Xs qU Xt (O,a8)
@[go_sem] abbrev aDI:Nat×r7:=mE 58 [.v,.v] Xs qU Xt
theorem aDJ:qW prog aDI:=
 rI (rH (qO rX (qO WA rG)) (qQ aAU (qQ aAp (qQ Mf (qQ aCz (qQ dl rE)))))) func58 32 [(4,none)] rfl λE ⟨O,a8⟩=>by
  have u0:= @SZ.eq_1;have u1:= @OJ.eq_1
  let l1:LE (OJ O a8):=⟨λx=>⟨[(0,iv O),(1,tv a8),(5,rs 0 0),(11,iv (a8.length:Int)),(12,iv x.1)],[(0,.cells vA ((some (0,0)),(x.2,())) [(1,1)]),(1,.grow 5 1 (x.2.length))],2,32,0⟩⟩
  let x1:XE (OJ O a8) 0 pT:=⟨λx=>⟨[(5,rs 0 0)],[(0,.cells vA ((some (0,0)),(x,())) [(1,1)]),(1,.grow 5 1 (x.length))],2,32,0⟩⟩
  exact rK
def K2:(pI×pT)->Option ((pI×pT)⊕pT):=fun(O,a8)=>ite (decide (0<(O.length:Int))) ((NZ O).bind λaA=>ite ((a8.length+([aA.1]:pT).length)*8<=140737488355328) (ite (0<=aA.2/\aA.2<=(O.length:Int)/\(O.length:Int)<=(O.length:Int)) (some (.inl ((s8 O aA.2 (O.length:Int)),(a8++([aA.1]:pT))))) none) none) (some (.inr a8))
def T4 (O:pI):Option pT:=rA (rC K2 (O,([]:pT))) λa8=>some (a8)
abbrev Yb (x:pI):List qK:=[tv x]
@[go_sem] def Yc:pI->r8:=λO=>rv [] (T4 O) λz=>([(.val (.list (.int .i64)) z,some 0)],[.grow 3 1 (z.length)])
@[go_sem] def aLx O:=rF Yb qU Yc O
@[go_sem] abbrev aDR:Nat×r7:=mE 176 [.v] Yb qU Yc
theorem aDS:qW prog aDR:=
 rI (rH (qO rX (qO Kh rG)) (qQ Ut rE)) func176 22 [(2,none)] rfl λE O=>by
  have u0:= @T4.eq_1;have u1:= @K2.eq_1
  let l1:LE K2:=⟨λx=>⟨[(0,tv x.1),(3,(.val (.list (.int .i64)) x.2,some 0))],[(0,.grow 3 1 (x.2.length))],1,22,0⟩⟩
  let x1:XE K2 0 pT:=⟨λx=>⟨[(3,(.val (.list (.int .i64)) x,some 0))],[(0,.grow 3 1 (x.length))],1,22,0⟩⟩
  exact rK
attribute [irreducible] HW SV SW eq SX er SY SZ T4
end
noncomputable section
abbrev Xw (x:(Ja0×pI)):List qK:=[sv (.list .part) x.1,tv x.2]
@[go_sem] def Xx (O:Ja0->pI->Option pI):(Ja0×pI)->r8:=fun(a8,aA)=>rv [] (O a8 aA) λz=>([tv z],[])
@[go_sem] def aLv (O:Ja0->pI->Option pI) a8 aA:=rF Xw qU (Xx O) (a8,aA)
@[go_sem] abbrev eu (F:Ja0->pI->Option pI):Nat×r7:=mE 110 [.v,.v] Xw qU (Xx F)
section
variable {O:Ja0->pI->Option pI}(hG0:qW prog (eu O))
include hG0
def HX (a8:Ja0) (aA:pI) (aB:Int) (O:Ja0->pI->Option pI):(pI×Int)->Option ((pI×Int)⊕pI):=fun(aC,aD)=>ite (decide (aD<(((qF.un (qH .part a8 aB)).2.2.2.2.1).length:Int))) (ite (0<=aD/\aD<(((qF.un (qH .part a8 aB)).2.2.2.2.1).length:Int)) (ite (((aA++(qH rT ((qF.un (qH .part a8 aB)).2.2.2.2.1) aD).1).length:Int)<=9223372036854775807) (ite ((((aA++(qH rT ((qF.un (qH .part a8 aB)).2.2.2.2.1) aD).1)++aA).length:Int)<=9223372036854775807) (ite (((((aA++(qH rT ((qF.un (qH .part a8 aB)).2.2.2.2.1) aD).1)++aA)++([123]:pI)).length:Int)<=9223372036854775807) (ite (0<=aD/\aD<(((qF.un (qH .part a8 aB)).2.2.2.2.1).length:Int)) ((O ((qH rT ((qF.un (qH .part a8 aB)).2.2.2.2.1) aD).2.1) aA).bind λaE=>ite ((((((aA++(qH rT ((qF.un (qH .part a8 aB)).2.2.2.2.1) aD).1)++aA)++([123]:pI))++aE).length:Int)<=9223372036854775807) (ite (((((((aA++(qH rT ((qF.un (qH .part a8 aB)).2.2.2.2.1) aD).1)++aA)++([123]:pI))++aE)++([125]:pI)).length:Int)<=9223372036854775807) (ite (((aC++(((((aA++(qH rT ((qF.un (qH .part a8 aB)).2.2.2.2.1) aD).1)++aA)++([123]:pI))++aE)++([125]:pI))).length:Int)<=9223372036854775807) (ite (qG (aD+1)) (some (.inl ((aC++(((((aA++(qH rT ((qF.un (qH .part a8 aB)).2.2.2.2.1) aD).1)++aA)++([123]:pI))++aE)++([125]:pI))),(aD+1)))) none) none) none) none) none) none) none) none) none) (some (.inr aC))
def K1 (a8:Ja0) (aA:pI) (O:Ja0->pI->Option pI):(pI×Int)->Option ((pI×Int)⊕pI):=fun(aF,aB)=>ite (decide (aB<(a8.length:Int))) (ite (0<=aB/\aB<(a8.length:Int)) (ite (decide ((qF.un (qH .part a8 aB)).1=1)) ((SF ((qF.un (qH .part a8 aB)).2.1)).bind λaG=>ite (((aF++aG).length:Int)<=9223372036854775807) (ite (qG (aB+1)) (some (.inl ((aF++aG),(aB+1)))) none) none) (ite (decide ((qF.un (qH .part a8 aB)).1=10)) (ite (((aF++([35]:pI)).length:Int)<=9223372036854775807) (ite (qG (aB+1)) (some (.inl ((aF++([35]:pI)),(aB+1)))) none) none) (ite (((qF.un (qH .part a8 aB)).1=11)&&((((qF.un (qH .part a8 aB)).2.2.2.2.2.1).length:Int)=0)) (ite (((([60]:pI)++(qF.un (qH .part a8 aB)).2.2.1).length:Int)<=9223372036854775807) (ite ((((([60]:pI)++(qF.un (qH .part a8 aB)).2.2.1)++([47,62]:pI)).length:Int)<=9223372036854775807) (ite (((aF++((([60]:pI)++(qF.un (qH .part a8 aB)).2.2.1)++([47,62]:pI))).length:Int)<=9223372036854775807) (ite (qG (aB+1)) (some (.inl ((aF++((([60]:pI)++(qF.un (qH .part a8 aB)).2.2.1)++([47,62]:pI))),(aB+1)))) none) none) none) none) (ite (decide ((qF.un (qH .part a8 aB)).1=11)) (ite (((([60]:pI)++(qF.un (qH .part a8 aB)).2.2.1).length:Int)<=9223372036854775807) (ite ((((([60]:pI)++(qF.un (qH .part a8 aB)).2.2.1)++([62]:pI)).length:Int)<=9223372036854775807) ((O ((qF.un (qH .part a8 aB)).2.2.2.2.2.1) aA).bind λaH=>ite (((((([60]:pI)++(qF.un (qH .part a8 aB)).2.2.1)++([62]:pI))++aH).length:Int)<=9223372036854775807) (ite ((((((([60]:pI)++(qF.un (qH .part a8 aB)).2.2.1)++([62]:pI))++aH)++([60,47]:pI)).length:Int)<=9223372036854775807) (ite (((((((([60]:pI)++(qF.un (qH .part a8 aB)).2.2.1)++([62]:pI))++aH)++([60,47]:pI))++(qF.un (qH .part a8 aB)).2.2.1).length:Int)<=9223372036854775807) (ite ((((((((([60]:pI)++(qF.un (qH .part a8 aB)).2.2.1)++([62]:pI))++aH)++([60,47]:pI))++(qF.un (qH .part a8 aB)).2.2.1)++([62]:pI)).length:Int)<=9223372036854775807) (ite (((aF++((((((([60]:pI)++(qF.un (qH .part a8 aB)).2.2.1)++([62]:pI))++aH)++([60,47]:pI))++(qF.un (qH .part a8 aB)).2.2.1)++([62]:pI))).length:Int)<=9223372036854775807) (ite (qG (aB+1)) (some (.inl ((aF++((((((([60]:pI)++(qF.un (qH .part a8 aB)).2.2.1)++([62]:pI))++aH)++([60,47]:pI))++(qF.un (qH .part a8 aB)).2.2.1)++([62]:pI))),(aB+1)))) none) none) none) none) none) none) none) none) (ite (decide ((qF.un (qH .part a8 aB)).1=2)) (ite (((([123]:pI)++(qF.un (qH .part a8 aB)).2.2.1).length:Int)<=9223372036854775807) (ite ((((([123]:pI)++(qF.un (qH .part a8 aB)).2.2.1)++([125]:pI)).length:Int)<=9223372036854775807) (ite (((aF++((([123]:pI)++(qF.un (qH .part a8 aB)).2.2.1)++([125]:pI))).length:Int)<=9223372036854775807) (ite (qG (aB+1)) (some (.inl ((aF++((([123]:pI)++(qF.un (qH .part a8 aB)).2.2.1)++([125]:pI))),(aB+1)))) none) none) none) none) (ite ((3<=(qF.un (qH .part a8 aB)).1)&&((qF.un (qH .part a8 aB)).1<=9)) (ite (((([123]:pI)++(qF.un (qH .part a8 aB)).2.2.1).length:Int)<=9223372036854775807) (ite ((((([123]:pI)++(qF.un (qH .part a8 aB)).2.2.1)++([44]:pI)).length:Int)<=9223372036854775807) (ite (((((([123]:pI)++(qF.un (qH .part a8 aB)).2.2.1)++([44]:pI))++aA).length:Int)<=9223372036854775807) (ite (qG ((qF.un (qH .part a8 aB)).1- 3)) (ite (0<=((qF.un (qH .part a8 aB)).1- 3)/\((qF.un (qH .part a8 aB)).1- 3)<(([([110,117,109,98,101,114]:pI),([117,110,105,116]:pI),([100,97,116,101]:pI),([108,105,115,116]:pI),([112,108,117,114,97,108]:pI),([111,114,100,105,110,97,108]:pI),([115,101,108,101,99,116]:pI)]:pJ).length:Int)) (ite ((((((([123]:pI)++(qF.un (qH .part a8 aB)).2.2.1)++([44]:pI))++aA)++(qH .str ([([110,117,109,98,101,114]:pI),([117,110,105,116]:pI),([100,97,116,101]:pI),([108,105,115,116]:pI),([112,108,117,114,97,108]:pI),([111,114,100,105,110,97,108]:pI),([115,101,108,101,99,116]:pI)]:pJ) ((qF.un (qH .part a8 aB)).1- 3))).length:Int)<=9223372036854775807) (ite (((aF++((((([123]:pI)++(qF.un (qH .part a8 aB)).2.2.1)++([44]:pI))++aA)++(qH .str ([([110,117,109,98,101,114]:pI),([117,110,105,116]:pI),([100,97,116,101]:pI),([108,105,115,116]:pI),([112,108,117,114,97,108]:pI),([111,114,100,105,110,97,108]:pI),([115,101,108,101,99,116]:pI)]:pJ) ((qF.un (qH .part a8 aB)).1- 3)))).length:Int)<=9223372036854775807) (rA (σ:=pI) (ite (!decide ((qF.un (qH .part a8 aB)).2.2.2.1=([]:pI))) (ite (((([44]:pI)++aA).length:Int)<=9223372036854775807) (ite ((((([44]:pI)++aA)++(qF.un (qH .part a8 aB)).2.2.2.1).length:Int)<=9223372036854775807) (ite ((((aF++((((([123]:pI)++(qF.un (qH .part a8 aB)).2.2.1)++([44]:pI))++aA)++(qH .str ([([110,117,109,98,101,114]:pI),([117,110,105,116]:pI),([100,97,116,101]:pI),([108,105,115,116]:pI),([112,108,117,114,97,108]:pI),([111,114,100,105,110,97,108]:pI),([115,101,108,101,99,116]:pI)]:pJ) ((qF.un (qH .part a8 aB)).1- 3))))++((([44]:pI)++aA)++(qF.un (qH .part a8 aB)).2.2.2.1)).length:Int)<=9223372036854775807) (some ((aF++((((([123]:pI)++(qF.un (qH .part a8 aB)).2.2.1)++([44]:pI))++aA)++(qH .str ([([110,117,109,98,101,114]:pI),([117,110,105,116]:pI),([100,97,116,101]:pI),([108,105,115,116]:pI),([112,108,117,114,97,108]:pI),([111,114,100,105,110,97,108]:pI),([115,101,108,101,99,116]:pI)]:pJ) ((qF.un (qH .part a8 aB)).1- 3))))++((([44]:pI)++aA)++(qF.un (qH .part a8 aB)).2.2.2.1))) none) none) none) (some (aF++((((([123]:pI)++(qF.un (qH .part a8 aB)).2.2.1)++([44]:pI))++aA)++(qH .str ([([110,117,109,98,101,114]:pI),([117,110,105,116]:pI),([100,97,116,101]:pI),([108,105,115,116]:pI),([112,108,117,114,97,108]:pI),([111,114,100,105,110,97,108]:pI),([115,101,108,101,99,116]:pI)]:pJ) ((qF.un (qH .part a8 aB)).1- 3)))))) λaI=>rA (σ:=pI) (ite (((((qF.un (qH .part a8 aB)).1)=7)||(((qF.un (qH .part a8 aB)).1)=8))||(((qF.un (qH .part a8 aB)).1)=9)) (ite (((aI++([44]:pI)).length:Int)<=9223372036854775807) (some (aI++([44]:pI))) none) (some (aI))) λaJ=>rA (rC (HX a8 aA aB O) (aJ,0)) λaK=>ite (((aK++([125]:pI)).length:Int)<=9223372036854775807) (ite (qG (aB+1)) (some (.inl ((aK++([125]:pI)),(aB+1)))) none) none) none) none) none) none) none) none) none) (ite (qG (aB+1)) (some (.inl (aF,(aB+1)))) none))))))) none) (some (.inr aF))
def T1 (O:Ja0->pI->Option pI) (a8:Ja0) (aA:pI):Option pI:=rA (rC (K1 a8 aA O) (([]:pI),0)) λaL=>some (aL)
theorem aDM:qW prog (eu (T1 O)):=
 rI (rH (qO tN (qO rX (qO vC (qO uT (qO yK (qO uY (qO AK rG))))))) (qQ aCF (qQ hG0 (qQ dn rE)))) func110 154 [(4,none)] rfl λE ⟨a8,aA⟩=>by
  have u0:= @T1.eq_1;have u1:= @K1.eq_1
  let l1:LE (K1 a8 aA O):=⟨λx=>⟨[(0,sv (.list .part) a8),(1,tv aA),(5,tv x.1),(6,(.val (.list .str) ([([110,117,109,98,101,114]:pI),([117,110,105,116]:pI),([100,97,116,101]:pI),([108,105,115,116]:pI),([112,108,117,114,97,108]:pI),([111,114,100,105,110,97,108]:pI),([115,101,108,101,99,116]:pI)]:pJ),some 0)),(7,iv x.2)],[(0,.grow 9 1 (([([110,117,109,98,101,114]:pI),([117,110,105,116]:pI),([100,97,116,101]:pI),([108,105,115,116]:pI),([112,108,117,114,97,108]:pI),([111,114,100,105,110,97,108]:pI),([115,101,108,101,99,116]:pI)]:pJ).length))],1,154,0⟩⟩
  have u2:= @HX.eq_1
  let l2 aB:LE (HX a8 aA aB O):=⟨λx=>⟨[(0,sv (.list .part) a8),(1,tv aA),(5,tv x.1),(6,(.val (.list .str) ([([110,117,109,98,101,114]:pI),([117,110,105,116]:pI),([100,97,116,101]:pI),([108,105,115,116]:pI),([112,108,117,114,97,108]:pI),([111,114,100,105,110,97,108]:pI),([115,101,108,101,99,116]:pI)]:pJ),some 0)),(7,iv aB),(8,rs 1 0),(9,iv x.2)],[(0,.grow 9 1 (([([110,117,109,98,101,114]:pI),([117,110,105,116]:pI),([100,97,116,101]:pI),([108,105,115,116]:pI),([112,108,117,114,97,108]:pI),([111,114,100,105,110,97,108]:pI),([115,101,108,101,99,116]:pI)]:pJ).length)),(1,.cells sM (qF.un (qH .part a8 aB)) [])],2,154,0⟩⟩
  let j1 aB:JE 108 pI:=⟨λx=>⟨[(0,sv (.list .part) a8),(1,tv aA),(5,tv x),(6,(.val (.list .str) ([([110,117,109,98,101,114]:pI),([117,110,105,116]:pI),([100,97,116,101]:pI),([108,105,115,116]:pI),([112,108,117,114,97,108]:pI),([111,114,100,105,110,97,108]:pI),([115,101,108,101,99,116]:pI)]:pJ),some 0)),(7,iv aB),(8,rs 1 0)],[(0,.grow 9 1 (([([110,117,109,98,101,114]:pI),([117,110,105,116]:pI),([100,97,116,101]:pI),([108,105,115,116]:pI),([112,108,117,114,97,108]:pI),([111,114,100,105,110,97,108]:pI),([115,101,108,101,99,116]:pI)]:pJ).length)),(1,.cells sM (qF.un (qH .part a8 aB)) [])],2,154,0⟩⟩
  let j2 aB:JE 118 pI:=⟨λx=>⟨[(0,sv (.list .part) a8),(1,tv aA),(5,tv x),(6,(.val (.list .str) ([([110,117,109,98,101,114]:pI),([117,110,105,116]:pI),([100,97,116,101]:pI),([108,105,115,116]:pI),([112,108,117,114,97,108]:pI),([111,114,100,105,110,97,108]:pI),([115,101,108,101,99,116]:pI)]:pJ),some 0)),(7,iv aB),(8,rs 1 0)],[(0,.grow 9 1 (([([110,117,109,98,101,114]:pI),([117,110,105,116]:pI),([100,97,116,101]:pI),([108,105,115,116]:pI),([112,108,117,114,97,108]:pI),([111,114,100,105,110,97,108]:pI),([115,101,108,101,99,116]:pI)]:pJ).length)),(1,.cells sM (qF.un (qH .part a8 aB)) [])],2,154,0⟩⟩
  let x1:XE (K1 a8 aA O) 0 pI:=⟨λx=>⟨[(5,tv x)],[],0,154,0⟩⟩
  let x2 aB:XE (HX a8 aA aB O) 3 pI:=⟨λx=>⟨[(0,sv (.list .part) a8),(1,tv aA),(5,tv x),(6,(.val (.list .str) ([([110,117,109,98,101,114]:pI),([117,110,105,116]:pI),([100,97,116,101]:pI),([108,105,115,116]:pI),([112,108,117,114,97,108]:pI),([111,114,100,105,110,97,108]:pI),([115,101,108,101,99,116]:pI)]:pJ),some 0)),(7,iv aB)],[(0,.grow 9 1 (([([110,117,109,98,101,114]:pI),([117,110,105,116]:pI),([100,97,116,101]:pI),([108,105,115,116]:pI),([112,108,117,114,97,108]:pI),([111,114,100,105,110,97,108]:pI),([115,101,108,101,99,116]:pI)]:pJ).length))],1,154,0⟩⟩
  exact rK
end
def aDN (p:(Ja0->pI->Option pI)):(Ja0->pI->Option pI):=T1 p
def T2 (n:Nat):(Ja0->pI->Option pI):=Nat.rec (motive:=λ_=>(Ja0->pI->Option pI)) (λ_ _=>none) (λ_ p=>aDN p) n
theorem Xy: ∀n:Nat,qW prog (eu (T2 n))
 |0=>uX
 |n+1=>have h:=Xy n;aDM h
def F8:Ja0->pI->Option pI:=(T2 1000)
@[go_sem] abbrev aDO:Nat×r7:=eu F8
theorem X7:qW prog aDO:=(Xy 1000)
theorem aMT:F8=(T2 1000):=rfl
def G8 (O:pI) (a8:Int):(Int×Int×Int)->Option ((Int×Int×Int)⊕(Int×Int×Int)):=fun(aA,aB,aC)=>ite ((aA<(O.length:Int))&&(!decide (aA=a8))) (ite (0<=aA/\aA<=(O.length:Int)/\(O.length:Int)<=(O.length:Int)) ((NZ (s8 O aA (O.length:Int))).bind λaD=>ite (qG (aA+aD.2)) (ite (qG (aC+1)) (ite (decide (aD.1=10)) (ite (qG (aB+1)) (some (.inl ((aA+aD.2),(aB+1),1))) none) (some (.inl ((aA+aD.2),aB,(aC+1))))) none) none) none) (some (.inr (aA,aB,aC)))
def T3 (O:pI) (a8:Int):Option (Int×Int×Int×Int):=rA (rC (G8 O a8) (0,1,1)) fun(aA,aB,aC)=>ite (!decide (aA=a8)) (some (0,0,0,2)) (some (aA,aB,aC,0))
abbrev Xz (x:(pI×Int)):List qK:=[tv x.1,iv x.2]
@[go_sem] def Ya:(pI×Int)->r8:=fun(O,a8)=>rv [] (T3 O a8) λz=>([sv E8 (z.1,(z.2.1,(z.2.2.1,()))),iv (z.2.2.2)],[])
@[go_sem] def aLw O a8:=rF Xz qU Ya (O,a8)
@[go_sem] abbrev aDP:Nat×r7:=mE 154 [.v,.v] Xz qU Ya
theorem aDQ:qW prog aDP:=
 rI (rH (qO tN (qO rX (qO HJ rG))) (qQ Ut rE)) func154 51 [(4,some 90),(5,none)] rfl λE ⟨O,a8⟩=>by
  have u0:= @T3.eq_1;have u1:= @G8.eq_1
  let l1:LE (G8 O a8):=⟨λx=>⟨[(0,tv O),(1,iv a8),(4,rs 0 0),(6,rs 1 0)],[(0,.cells E8 (0,(0,(0,()))) []),(1,.cells E8 (x.1,(x.2.1,(x.2.2,()))) [])],2,51,0⟩⟩
  let x1:XE (G8 O a8) 0 (Int×Int×Int):=⟨λx=>⟨[(1,iv a8),(4,rs 0 0),(6,rs 1 0)],[(0,.cells E8 (0,(0,(0,()))) []),(1,.cells E8 (x.1,(x.2.1,(x.2.2,()))) [])],2,51,0⟩⟩
  exact rK
def K3 (O:pI):Int->Option (Int⊕(Unit⊕Bool)):=λa8=>ite (decide (a8<(O.length:Int))) (ite (0<=a8/\a8<(O.length:Int)) (ite (!((((((97<=(qZ O a8))&&((qZ O a8)<=122))||((65<=(qZ O a8))&&((qZ O a8)<=90)))||((48<=(qZ O a8))&&((qZ O a8)<=57)))||((qZ O a8)=95))||((qZ O a8)=45))) (some (.inr (.inr (false)))) (ite (qG (a8+1)) (some (.inl (a8+1))) none)) none) (some (.inr (.inl ())))
def vS (O:pI):Option Bool:=sK (rC (K3 O) 0) λ_=>ite ((((1<=(O.length:Int))&&((O.length:Int)<=40))==true)=true->0<=(0:Int)/\0<(O.length:Int)) (some (((1<=(O.length:Int))&&((O.length:Int)<=40))&&((97<=(qZ O 0))&&((qZ O 0)<=122)))) none
abbrev Yf (x:pI):List qK:=[tv x]
@[go_sem] def Yg:pI->r8:=λO=>rv [] (vS O) λz=>([bv z],[])
@[go_sem] def aLz O:=rF Yf qU Yg O
@[go_sem] abbrev aDV:Nat×r7:=mE 216 [.v] Yf qU Yg
theorem T6:qW prog aDV:=
 rI (rH (qO rX rG) (qQ um (qQ Qa rE))) func216 28 [(2,none)] rfl λE O=>by
  have u0:= @vS.eq_1;have u1:= @K3.eq_1
  let l1:LE (K3 O):=⟨λx=>⟨[(0,tv O),(3,iv x)],[],0,28,0⟩⟩
  let x1:XE (K3 O) 0 Unit:=⟨λ_=>⟨[(0,tv O)],[],0,28,0⟩⟩
  exact rK
attribute [irreducible] T1 F8 T3 vS
end
noncomputable section
def OL (O:pI):(Int×pT)->Option ((Int×pT)⊕pT):=fun(a8,aA)=>ite (decide (a8<(O.length:Int))) (ite (0<=a8/\a8<(O.length:Int)) (ite (decide ((qZ O a8)=92)) (ite (qG (a8+1)) (ite (0<=(a8+1)/\(a8+1)<(O.length:Int)) ((FZ (aA,()) (qZ O (a8+1))).bind λaB=>ite (qG ((a8+1)+1)) (some (.inl (((a8+1)+1),(aA++([(qZ O (a8+1))]:pT))))) none) none) none) (ite (0<=a8/\a8<(O.length:Int)) ((FZ (aA,()) (qZ O a8)).bind λaC=>ite (qG (a8+1)) (some (.inl ((a8+1),(aA++([(qZ O a8)]:pT))))) none) none)) none) (some (.inr aA))
end
end Go.Proofs.YtedimeeleabhnaaGreatDoor
