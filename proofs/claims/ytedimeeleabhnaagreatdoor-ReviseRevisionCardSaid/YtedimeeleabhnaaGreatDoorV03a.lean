import Derived.Test.YtedimeeleabhnaaGreatDoorV03
set_option linter.all false
set_option maxRecDepth 100000
set_option maxHeartbeats 4000000
namespace Go.Proofs.YtedimeeleabhnaaGreatDoor
open Vc
open Tryz
noncomputable section
section
variable {O:rR->Option (Ja1×Ja0)}{a8:Ja0->Option Ja0}(hG0:qZ prog (wy O)) (hG1:qZ prog (ez a8))
include hG0 hG1
def ON (aA:Ja1) (a8:Ja0->Option Ja0):(Int×Ja1×Nat)->Option ((Int×Ja1×Nat)⊕(Ja1×Nat)):=fun(aB,aC,aD)=>ite (decide (aB<(((aA.length):Nat):Int))) (ite (0<=aB/\aB<((aD:Nat):Int)) ((a8 ((qI rV aC aB).2.1)).bind λaE=>ite (0<=aB/\aB<((aD:Nat):Int)) (ite (qH (aB+1)) (some (.inl ((aB+1),(List.set aC (Int.toNat aB) ((qI rV aC aB).1,(aE,(qI rV aC aB).2.2))),aD))) none) none) none) (some (.inr (aC,aD)))
def KH (O:rR->Option (Ja1×Ja0)) (a8:Ja0->Option Ja0) (aF:rR):Option (Ja1×Ja0):=ite (!((7<=aF.1)&&(aF.1<=9))) ((a8 aF.2.2.2.2.2.1).bind λaG=>some (aF.2.2.2.2.1,aG)) ((O2 aF.2.2.2.2.1).bind λaA=>rD (rC (ON aA a8) (0,aA,(aA.length))) fun(aH,aI)=>some (aH,aF.2.2.2.2.2.1))
theorem aEo:qZ prog (wy (KH O a8)):=
 rJ (rH (qO tO (qO uW (qO WS (qO v6 rG)))) (qS EL (qS hG1 (qS ew rF)))) func185 41 [(4,some 183)] rfl λE aF=>by
  have u0:= @KH.eq_1;have u1:= @ON.eq_1
  let l1 aA:LE (ON aA a8):=⟨λx=>⟨[(1,sv .clo (some (135,[]))),(2,rs 0 0),(4,rs 1 0),(22,iv (((aA.length):Nat):Int)),(23,iv x.1)],[(0,.cells dm (aF.1,(aF.2.1,(aF.2.2.1,(aF.2.2.2.1,((some (2,x.2.2)),(aF.2.2.2.2.2.1,())))))) []),(1,.cells sN (0,(([]:pJ),(([]:pJ),(([]:pJ),(([]:List qT),(([]:List qG),())))))) [(4,3),(5,4)]),(2,.row 186 rV x.2.1 x.2.2),(3,.grow 186 2 (([]:List qT).length)),(4,.grow 183 6 (([]:List qG).length))],5,41,0⟩⟩
  let x1 aA:XE (ON aA a8) 0 (Ja1×Nat):=⟨λx=>⟨[(2,rs 0 0),(4,rs 1 0)],[(0,.cells dm (aF.1,(aF.2.1,(aF.2.2.1,(aF.2.2.2.1,((some (2,x.2)),(aF.2.2.2.2.2.1,())))))) []),(1,.cells sN (0,(([]:pJ),(([]:pJ),(([]:pJ),(([]:List qT),(([]:List qG),())))))) [(4,3),(5,4)]),(2,.row 186 rV x.1 x.2),(3,.grow 186 2 (([]:List qT).length)),(4,.grow 183 6 (([]:List qG).length))],5,41,0⟩⟩
  have E2:=(rH (qO uW (qO WS (qO v6 (qO AR rG)))) (qS EL (qS hG1 (qS ew rF))));exact rM
def OO (aJ:Ja0) (O:rR->Option (Ja1×Ja0)):(Ja0×Int)->Option ((Ja0×Int)⊕Ja0):=fun(aK,aL)=>ite (decide (aL<(aJ.length:Int))) (ite (0<=aL/\aL<(aJ.length:Int)) ((NY (qG.un (qI .part aJ aL))).bind λaG=>ite (!aG) ((O (qG.un (qI .part aJ aL))).bind λaA=>ite ((aK.length+([(qG.of ((qG.un (qI .part aJ aL)).1,((qG.un (qI .part aJ aL)).2.1,((qG.un (qI .part aJ aL)).2.2.1,((qG.un (qI .part aJ aL)).2.2.2.1,(aA.1,(aA.2,())))))))]:List qG).length)*104<=140737488355328) (ite (qH (aL+1)) (some (.inl ((aK++([(qG.of ((qG.un (qI .part aJ aL)).1,((qG.un (qI .part aJ aL)).2.1,((qG.un (qI .part aJ aL)).2.2.1,((qG.un (qI .part aJ aL)).2.2.2.1,(aA.1,(aA.2,())))))))]:List qG)),(aL+1)))) none) none) (ite (qH (aL+1)) (some (.inl (aK,(aL+1)))) none)) none) (some (.inr aK))
def T9 (O:rR->Option (Ja1×Ja0)) (a8:Ja0->Option Ja0) (aJ:Ja0):Option Ja0:=rD (rC (OO aJ O) (([]:List qG),0)) λaM=>some (aM)
theorem aEp:qZ prog (ez (T9 O a8)):=
 rJ (rH (qO uW (qO v6 rG)) (qS wn (qS hG0 rF))) func135 22 [(2,none)] rfl λE aJ=>by
  have u0:= @T9.eq_1;have u1:= @OO.eq_1
  let l1:LE (OO aJ O):=⟨λx=>⟨[(3,(.val (.list .part) x.1,some 0)),(6,sv (.list .part) aJ),(7,iv (aJ.length:Int)),(8,iv x.2)],[(0,.grow 183 6 (x.1.length))],1,22,0⟩⟩
  let x1:XE (OO aJ O) 0 Ja0:=⟨λx=>⟨[(3,(.val (.list .part) x,some 0))],[(0,.grow 183 6 (x.length))],1,22,0⟩⟩
  exact rM
end
def aEq (p:(rR->Option (Ja1×Ja0))×(Ja0->Option Ja0)):(rR->Option (Ja1×Ja0))×(Ja0->Option Ja0):=(KH p.1 p.2,T9 p.1 p.2)
def BE (n:Nat):(rR->Option (Ja1×Ja0))×(Ja0->Option Ja0):=Nat.rec (motive:=λ_=>(rR->Option (Ja1×Ja0))×(Ja0->Option Ja0)) ((λ_=>none),(λ_=>none)) (λ_ p=>aEq p) n
theorem Xq: ∀n:Nat,qZ prog (wy (BE n).1)/\qZ prog (ez (BE n).2)
 |0=>⟨uZ,uZ⟩
 |n+1=>have h:=Xq n;⟨aEo h.1 h.2,aEp h.1 h.2⟩
def XB:Ja0->Option Ja0:=(BE 1000).2
@[go_sem] abbrev aEr:Nat×r8:=ez XB
theorem aEs:qZ prog aEr:=(Xq 1000).2
theorem aEt:XB=(BE 1000).2:=rfl
abbrev Xr (x:(Ja0×(pU×Unit)×Nat)):List qP:=[rs 0 0,sv (.list .part) x.1]
abbrev Xs (x:(Ja0×(pU×Unit)×Nat)):List qQ:=[.cells (.pair vC .unit) (((some (0,0)),x.2.1),()) [(1,1)],.grow 5 1 x.2.2]
@[go_sem] def Xt (O:(pU×Unit)->Ja0->Option pU):(Ja0×(pU×Unit)×Nat)->r9:=fun(a8,aA,aB)=>rv [aB=(aA.1.length)] (O aA a8) λz=>([],[.cells (.pair vC .unit) (((some (0,0)),(z,())),()) [(1,1)],.grow 5 1 (z.length)])
@[go_sem] def aMG (O:(pU×Unit)->Ja0->Option pU) a8 aA aB:=rI Xr Xs (Xt O) (a8,aA,aB)
@[go_sem] abbrev fa (F:(pU×Unit)->Ja0->Option pU):Nat×r8:=mE 150 [.p (.pair vC .unit) [1],.v] Xr Xs (Xt F)
abbrev Xu (x:(rR×(pU×Unit)×Nat)):List qP:=[rs 0 0,sv sN x.1]
abbrev Xv (x:(rR×(pU×Unit)×Nat)):List qQ:=[.cells (.pair vC .unit) (((some (0,0)),x.2.1),()) [(1,1)],.grow 5 1 x.2.2]
@[go_sem] def Xw (O:(pU×Unit)->rR->Option pU):(rR×(pU×Unit)×Nat)->r9:=fun(a8,aA,aB)=>rv [aB=(aA.1.length)] (O aA a8) λz=>([],[.cells (.pair vC .unit) (((some (0,0)),(z,())),()) [(1,1)],.grow 5 1 (z.length)])
@[go_sem] def aMH (O:(pU×Unit)->rR->Option pU) a8 aA aB:=rI Xu Xv (Xw O) (a8,aA,aB)
@[go_sem] abbrev wz (F:(pU×Unit)->rR->Option pU):Nat×r8:=mE 206 [.p (.pair vC .unit) [1],.v] Xu Xv (Xw F)
section
variable {O:(pU×Unit)->Ja0->Option pU}{a8:(pU×Unit)->rR->Option pU}(hG0:qZ prog (fa O)) (hG1:qZ prog (wz a8))
include hG0 hG1
def OP (aA:Ja0) (a8:(pU×Unit)->rR->Option pU):(Int×pU)->Option ((Int×pU)⊕pU):=fun(aB,aC)=>ite (decide (aB<(aA.length:Int))) (ite (0<=aB/\aB<(aA.length:Int)) ((a8 (aC,()) (qG.un (qI .part aA aB))).bind λaD=>ite (qH (aB+1)) (some (.inl ((aB+1),aD))) none) none) (some (.inr aC))
def TA (O:(pU×Unit)->Ja0->Option pU) (a8:(pU×Unit)->rR->Option pU) (aE:(pU×Unit)) (aA:Ja0):Option pU:=rD (rC (OP aA a8) (0,aE.1)) λaF=>some (aF)
theorem aEu:qZ prog (fa (TA O a8)):=
 rJ (rH (qO uW (qO v6 rG)) (qS hG1 rF)) func150 16 [] rfl λE ⟨aA,aE,aG⟩=>by
  have u0:= @TA.eq_1;have u1:= @OP.eq_1
  let l1:LE (OP aA a8):=⟨λx=>⟨[(0,rs 0 0),(6,sv (.list .part) aA),(7,iv (aA.length:Int)),(8,iv x.1)],[(0,.cells (.pair vC .unit) (((some (0,0)),(x.2,())),()) [(1,1)]),(1,.grow 5 1 (x.2.length))],2,16,2⟩⟩
  let x1:XE (OP aA a8) 0 pU:=⟨λx=>⟨[],[(0,.cells (.pair vC .unit) (((some (0,0)),(x,())),()) [(1,1)]),(1,.grow 5 1 (x.length))],2,16,2⟩⟩
  exact rM
def I3 (aH:rR) (O:(pU×Unit)->Ja0->Option pU):(Int×pU)->Option ((Int×pU)⊕pU):=fun(aI,aJ)=>ite (decide (aI<(aH.2.2.2.2.1.length:Int))) (ite (0<=aI/\aI<(aH.2.2.2.2.1.length:Int)) ((zK (aJ,()) ([Qa9,(qI rV aH.2.2.2.2.1 aI).1,([32,123]:pJ)]:pK)).bind λaK=>(O (aK,()) ((qI rV aH.2.2.2.2.1 aI).2.1)).bind λaL=>(zK (aL,()) ([Qb1]:pK)).bind λaM=>ite (qH (aI+1)) (some (.inl ((aI+1),aM))) none) none) (some (.inr aJ))
def KI (O:(pU×Unit)->Ja0->Option pU) (a8:(pU×Unit)->rR->Option pU) (aN:(pU×Unit)) (aH:rR):Option pU:=ite (decide (aH.1=1)) ((OA aH.2.1).bind λaO=>(zK aN ([aO]:pK)).bind λaP=>some (aP)) (ite (decide (aH.1=10)) ((zK aN ([([35]:pJ)]:pK)).bind λaQ=>some (aQ)) (ite (decide (aH.1=11)) (ite (decide ((aH.2.2.2.2.2.1.length:Int)=0)) ((zK aN ([Qb4,aH.2.2.1,Qd6]:pK)).bind λaR=>some (aR)) ((zK aN ([Qb4,aH.2.2.1,Qb8]:pK)).bind λaS=>(O (aS,()) aH.2.2.2.2.2.1).bind λaT=>(zK (aT,()) ([Qd1,aH.2.2.1,Qb8]:pK)).bind λaU=>some (aU))) (ite (decide (aH.1=2)) ((zK aN ([Qa8,aH.2.2.1,Qb1]:pK)).bind λaV=>some (aV)) (ite (0<=aH.1/\aH.1<((10:Nat):Int)) ((zK aN ([Qa8,aH.2.2.1,([44,32]:pJ),(qI .str ([([]:pJ),([]:pJ),([]:pJ),Qa6,Qa5,Qa4,Qa3,Qa2,Qa1,Qa0]:pK) aH.1)]:pK)).bind λaW=>rD (σ:=pU) (ite (!decide (aH.2.2.2.1=([]:pJ))) ((zK (aW,()) ([([44,32]:pJ),aH.2.2.2.1]:pK)).bind λaX=>some (aX)) (some (aW))) λaY=>rD (σ:=pU) (ite ((7<=aH.1)&&(aH.1<=9)) ((zK (aY,()) ([Qb3]:pK)).bind λaZ=>some (aZ)) (some (aY))) λbA=>rD (rC (I3 aH O) (0,bA)) λbB=>(zK (bB,()) ([Qb1]:pK)).bind λbC=>some (bC)) none))))
theorem aEv:qZ prog (wz (KI O a8)):=
 rJ (rH (qO tO (qO rY (qO vF (qO uW (qO yP (qO v6 (qO AR (qO aBc rG)))))))) (qS Wa (qS aCA (qS hG0 (qS EL rF))))) func206 101 [] rfl λE ⟨aH,aN,aG⟩=>by
  have u0:= @KI.eq_1;have u1:= @I3.eq_1
  let l1:LE (I3 aH O):=⟨λx=>⟨[(0,rs 0 0),(34,sv (.list rV) aH.2.2.2.2.1),(35,iv (aH.2.2.2.2.1.length:Int)),(36,iv x.1)],[(0,.cells (.pair vC .unit) (((some (0,0)),(x.2,())),()) [(1,1)]),(1,.grow 5 1 (x.2.length))],2,101,2⟩⟩
  let j1:JE 21 pU:=⟨λx=>⟨[(0,rs 0 0),(3,rs 2 0)],[(0,.cells (.pair vC .unit) (((some (0,0)),(x,())),()) [(1,1)]),(1,.grow 5 1 (x.length)),(2,.cells sN aH [])],3,101,2⟩⟩
  let j2:JE 29 pU:=⟨λx=>⟨[(0,rs 0 0),(3,rs 2 0)],[(0,.cells (.pair vC .unit) (((some (0,0)),(x,())),()) [(1,1)]),(1,.grow 5 1 (x.length)),(2,.cells sN aH [])],3,101,2⟩⟩
  let x1:XE (I3 aH O) 1 pU:=⟨λx=>⟨[(0,rs 0 0)],[(0,.cells (.pair vC .unit) (((some (0,0)),(x,())),()) [(1,1)]),(1,.grow 5 1 (x.length))],2,101,2⟩⟩
  exact rM
end
def aEw (p:((pU×Unit)->Ja0->Option pU)×((pU×Unit)->rR->Option pU)):((pU×Unit)->Ja0->Option pU)×((pU×Unit)->rR->Option pU):=(TA p.1 p.2,KI p.1 p.2)
def FL (n:Nat):((pU×Unit)->Ja0->Option pU)×((pU×Unit)->rR->Option pU):=Nat.rec (motive:=λ_=>((pU×Unit)->Ja0->Option pU)×((pU×Unit)->rR->Option pU)) ((λ_ _=>none),(λ_ _=>none)) (λ_ p=>aEw p) n
theorem Xx: ∀n:Nat,qZ prog (fa (FL n).1)/\qZ prog (wz (FL n).2)
 |0=>⟨uZ,uZ⟩
 |n+1=>have h:=Xx n;⟨aEu h.1 h.2,aEv h.1 h.2⟩
def XC:(pU×Unit)->Ja0->Option pU:=(FL 1000).1
@[go_sem] abbrev aEx:Nat×r8:=fa XC
theorem aEy:qZ prog aEx:=(Xx 1000).1
theorem aEz:XC=(FL 1000).1:=rfl
def D8 (O:pJ) (a8:Ja2) (aA:Int) (aB:pR) (aC:pS):Option (pJ×Int×Int×Int):=(vU O a8 aA aB aC).bind λaD=>ite (((!decide (aD=9))==false)=true->0<=aA/\aA<(a8.length:Int)) (ite ((!decide (aD=9))||(!((((qI sO a8 aA).2.1)=Qc4)||(((qI sO a8 aA).2.1)=Qc5)))) ((vV O a8 aA aB 3 aC).bind λaE=>some (([]:pJ),aA,aE.1,aE.2)) ((sT O a8 aA aB 9 aC).bind λaF=>some (aF.1,aF.2.1,aF.2.2.1,aF.2.2.2))) none
abbrev Xy (x:(pJ×Ja2×Int×pR×pS)):List qP:=[rs 0 0,sv .clo (some (255,[]))]
abbrev Xz (x:(pJ×Ja2×Int×pR×pS)):List qQ:=[.cells tG (x.1,(x.2.1,(x.2.2.1,((some 1),x.2.2.2.1)))) [],.map .str .bool x.2.2.2.2]
@[go_sem] def Ya:(pJ×Ja2×Int×pR×pS)->r9:=fun(O,a8,aA,aB,aC)=>rv [] (D8 O a8 aA aB aC) λz=>([tv (z.1)],[.cells tG (O,(a8,(z.2.1,((some 1),(z.2.2.1,(z.2.2.2,())))))) [],.map .str .bool aC])
@[go_sem] def aMI O a8 aA aB aC:=rI Xy Xz Ya (O,a8,aA,aB,aC)
@[go_sem] abbrev aEA:Nat×r8:=mE 254 [.p tG [],.v] Xy Xz Ya [(0,3,.m)] [1]
theorem aEB:qZ prog aEA:=
 rJ (rH (qO tO (qO rY (qO A4 (qO zJ (qO AQ rG))))) (qS C2 (qS aCw (qS EN (qS EP rF))))) func254 28 [(4,none)] rfl λE ⟨O,a8,aA,aB,aC⟩=>by
  have u0:= @D8.eq_1;exact rM
attribute [irreducible] KH T9 XB TA KI XC D8
end
noncomputable section
abbrev Yb (x:Ja0):List qP:=[sv (.list .part) x]
@[go_sem] def Yc (O:Ja0->Option Ja0):Ja0->r9:=λa8=>rv [] (O a8) λz=>([(.val (.list .part) z,some 0)],[.grow 183 6 (z.length)])
@[go_sem] def aMJ (O:Ja0->Option Ja0) a8:=rI Yb qV (Yc O) a8
@[go_sem] abbrev fc (F:Ja0->Option Ja0):Nat×r8:=mE 186 [.v] Yb qV (Yc F)
section
variable {O:Ja0->Option Ja0}(hG0:qZ prog (fc O))
include hG0
def OQ (a8:Ja1) (O:Ja0->Option Ja0):(Int×Ja1×Nat)->Option ((Int×Ja1×Nat)⊕(Ja1×Nat)):=fun(aA,aB,aC)=>ite (decide (aA<(((a8.length):Nat):Int))) (ite (0<=aA/\aA<((aC:Nat):Int)) ((O ((qI rV aB aA).2.1)).bind λaD=>ite (0<=aA/\aA<((aC:Nat):Int)) (ite (qH (aA+1)) (some (.inl ((aA+1),(List.set aB (Int.toNat aA) ((qI rV aB aA).1,(aD,(qI rV aB aA).2.2))),aC))) none) none) none) (some (.inr (aB,aC)))
def OR (aE:Ja0) (O:Ja0->Option Ja0):(Ja0×Int)->Option ((Ja0×Int)⊕Ja0):=fun(aF,aG)=>ite (decide (aG<(aE.length:Int))) (ite (0<=aG/\aG<(aE.length:Int)) ((O ((qG.un (qI .part aE aG)).2.2.2.2.2.1)).bind λaH=>(O2 ((qG.un (qI .part aE aG)).2.2.2.2.1)).bind λa8=>rD (rC (OQ a8 O) (0,a8,(a8.length))) fun(aI,aJ)=>ite ((aF.length+([(qG.of ((qG.un (qI .part aE aG)).1,((qG.un (qI .part aE aG)).2.1,((qG.un (qI .part aE aG)).2.2.1,((qG.un (qI .part aE aG)).2.2.2.1,(aI,(aH,())))))))]:List qG).length)*104<=140737488355328) (ite (qH (aG+1)) (some (.inl ((aF++([(qG.of ((qG.un (qI .part aE aG)).1,((qG.un (qI .part aE aG)).2.1,((qG.un (qI .part aE aG)).2.2.1,((qG.un (qI .part aE aG)).2.2.2.1,(aI,(aH,())))))))]:List qG)),(aG+1)))) none) none) none) (some (.inr aF))
def TB (O:Ja0->Option Ja0) (aE:Ja0):Option Ja0:=rD (rC (OR aE O) (([]:List qG),0)) λaK=>some (aK)
theorem aEC:qZ prog (fc (TB O)):=
 rJ (rH (qO uW (qO WS (qO v6 rG))) (qS hG0 (qS ew rF))) func186 46 [(2,none)] rfl λE aE=>by
  have u0:= @TB.eq_1;have u1:= @OR.eq_1
  let l1:LE (OR aE O):=⟨λx=>⟨[(3,(.val (.list .part) x.1,some 0)),(7,sv (.list .part) aE),(8,iv (aE.length:Int)),(9,iv x.2)],[(0,.grow 183 6 (x.1.length))],1,46,0⟩⟩
  have u2:= @OQ.eq_1
  let l2 a8 aF aG aH:LE (OQ a8 O):=⟨λx=>⟨[(3,(.val (.list .part) aF,some 0)),(5,rs 1 0),(7,sv (.list .part) aE),(8,iv (aE.length:Int)),(9,iv aG),(23,iv (((a8.length):Nat):Int)),(24,iv x.1)],[(0,.grow 183 6 (aF.length)),(1,.cells dm ((qG.un (qI .part aE aG)).1,((qG.un (qI .part aE aG)).2.1,((qG.un (qI .part aE aG)).2.2.1,((qG.un (qI .part aE aG)).2.2.2.1,((some (2,x.2.2)),(aH,())))))) []),(2,.row 186 rV x.2.1 x.2.2)],3,46,0⟩⟩
  let x1:XE (OR aE O) 0 Ja0:=⟨λx=>⟨[(3,(.val (.list .part) x,some 0))],[(0,.grow 183 6 (x.length))],1,46,0⟩⟩
  let x2 a8 aF aG aH:XE (OQ a8 O) 2 (Ja1×Nat):=⟨λx=>⟨[(3,(.val (.list .part) aF,some 0)),(5,rs 1 0),(7,sv (.list .part) aE),(8,iv (aE.length:Int)),(9,iv aG)],[(0,.grow 183 6 (aF.length)),(1,.cells dm ((qG.un (qI .part aE aG)).1,((qG.un (qI .part aE aG)).2.1,((qG.un (qI .part aE aG)).2.2.1,((qG.un (qI .part aE aG)).2.2.2.1,((some (2,x.2)),(aH,())))))) []),(2,.row 186 rV x.1 x.2)],3,46,0⟩⟩
  have E2:=(rH (qO uW (qO WS (qO v6 (qO AR rG)))) (qS hG0 (qS ew rF)));exact rM
end
def aED (p:(Ja0->Option Ja0)):(Ja0->Option Ja0):=TB p
def KJ (n:Nat):(Ja0->Option Ja0):=Nat.rec (motive:=λ_=>(Ja0->Option Ja0)) (λ_=>none) (λ_ p=>aED p) n
theorem Yd: ∀n:Nat,qZ prog (fc (KJ n))
 |0=>uZ
 |n+1=>have h:=Yd n;aEC h
def I4:Ja0->Option Ja0:=(KJ 1000)
@[go_sem] abbrev aEE:Nat×r8:=fc I4
theorem Ye:qZ prog aEE:=(Yd 1000)
theorem aEF:I4=(KJ 1000):=rfl
abbrev Yf (x:(Ja1×Ja0×pJ×Nat)):List qP:=[(.val (.list rV) x.1,some 0),sv (.list .part) x.2.1,tv x.2.2.1]
abbrev Yg (x:(Ja1×Ja0×pJ×Nat)):List qQ:=[.grow 128 2 x.2.2.2]
@[go_sem] def Yh (O:Ja1->Ja0->pJ->Option Ja1):(Ja1×Ja0×pJ×Nat)->r9:=fun(a8,aA,aB,aC)=>rv [aC=(a8.length)] (O a8 aA aB) λz=>([(.val (.list rV) z,some 0)],[.grow 128 2 (z.length)])
@[go_sem] def aMK (O:Ja1->Ja0->pJ->Option Ja1) a8 aA aB aC:=rI Yf Yg (Yh O) (a8,aA,aB,aC)
@[go_sem] abbrev xc (F:Ja1->Ja0->pJ->Option Ja1):Nat×r8:=mE 136 [.own,.v,.v] Yf Yg (Yh F)
abbrev Yi (x:(rR×pJ×Ja1×Nat)):List qP:=[sv sN x.1,tv x.2.1,sv .clo (some (188,[(0,0)]))]
abbrev Yj (x:(rR×pJ×Ja1×Nat)):List qQ:=[.cells (.list rV) x.2.2.1 [(0,1)],.grow 128 2 x.2.2.2]
@[go_sem] def Yk (O:rR->pJ->Ja1->Option Ja1):(rR×pJ×Ja1×Nat)->r9:=fun(a8,aA,aB,aC)=>rv [aC=(aB.length)] (O a8 aA aB) λz=>([],[.cells (.list rV) z [(0,1)],.grow 128 2 (z.length)])
@[go_sem] def aML (O:rR->pJ->Ja1->Option Ja1) a8 aA aB aC:=rI Yi Yj (Yk O) (a8,aA,aB,aC)
@[go_sem] abbrev fe (F:rR->pJ->Ja1->Option Ja1):Nat×r8:=mE 187 [.v,.v,.f [((.list rV),[0])]] Yi Yj (Yk F)
abbrev Yl (x:(Ja0×pJ×Ja1×Nat)):List qP:=[sv (.list .part) x.1,tv x.2.1,rs 0 0]
abbrev Ym (x:(Ja0×pJ×Ja1×Nat)):List qQ:=[.cells (.list rV) x.2.2.1 [(0,1)],.grow 128 2 x.2.2.2]
@[go_sem] def Yn (O:Ja0->pJ->Ja1->Option Ja1):(Ja0×pJ×Ja1×Nat)->r9:=fun(a8,aA,aB,aC)=>rv [aC=(aB.length)] (O a8 aA aB) λz=>([],[.cells (.list rV) z [(0,1)],.grow 128 2 (z.length)])
@[go_sem] def aMM (O:Ja0->pJ->Ja1->Option Ja1) a8 aA aB aC:=rI Yl Ym (Yn O) (a8,aA,aB,aC)
@[go_sem] abbrev xd (F:Ja0->pJ->Ja1->Option Ja1):Nat×r8:=mE 188 [.v,.v,.p (.list rV) [0]] Yl Ym (Yn F)
section
variable {O:Ja1->Ja0->pJ->Option Ja1}{a8:rR->pJ->Ja1->Option Ja1}{aA:Ja0->pJ->Ja1->Option Ja1}(hG0:qZ prog (xc O)) (hG1:qZ prog (fe a8)) (hG2:qZ prog (xd aA))
include hG0 hG1 hG2
def I5 (aB:Ja0) (aC:pJ) (a8:rR->pJ->Ja1->Option Ja1):(Ja0×Int×Int×Ja1)->Option ((Ja0×Int×Int×Ja1)⊕(Ja0×Int×Ja1)):=fun(aD,aE,aF,aG)=>ite (decide (aF<(aB.length:Int))) (ite (0<=aF/\aF<(aB.length:Int)) ((NY (qG.un (qI .part aB aF))).bind λaH=>ite aH (ite ((aD.length+([(qG.of (qG.un (qI .part aB aF)))]:List qG).length)*104<=140737488355328) (ite (qH (aF+1)) (some (.inl ((aD++([(qG.of (qG.un (qI .part aB aF)))]:List qG)),aE,(aF+1),aG))) none) none) (ite (-9223372036854775808<=aE/\aE<=9223372036854775807) (ite (((aC++(Lib.itoa aE)).length:Int)<=9223372036854775807) ((I4 aD).bind λaI=>ite ((aG.length+([((aC++(Lib.itoa aE)),(aI,()))]:List qT).length)*40<=140737488355328) (ite (qH (aE+1)) (ite (-9223372036854775808<=(aE+1)/\(aE+1)<=9223372036854775807) (ite (((aC++(Lib.itoa (aE+1))).length:Int)<=9223372036854775807) (ite ((((aC++(Lib.itoa (aE+1)))++Qa7).length:Int)<=9223372036854775807) ((a8 (qG.un (qI .part aB aF)) ((aC++(Lib.itoa (aE+1)))++Qa7) (aG++([((aC++(Lib.itoa aE)),(aI,()))]:List qT))).bind λaJ=>ite (qH (aF+1)) (some (.inl (([]:List qG),(aE+1),(aF+1),aJ))) none) none) none) none) none) none) none) none)) none) (some (.inr (aD,aE,aG)))
def I6 (O:Ja1->Ja0->pJ->Option Ja1) (a8:rR->pJ->Ja1->Option Ja1) (aA:Ja0->pJ->Ja1->Option Ja1) (aK:Ja1) (aB:Ja0) (aC:pJ):Option Ja1:=rD (rC (I5 aB aC a8) (([]:List qG),0,0,aK)) fun(aL,aM,aN)=>ite (-9223372036854775808<=aM/\aM<=9223372036854775807) (ite (((aC++(Lib.itoa aM)).length:Int)<=9223372036854775807) ((I4 aL).bind λaO=>ite ((aN.length+([((aC++(Lib.itoa aM)),(aO,()))]:List qT).length)*40<=140737488355328) (some (aN++([((aC++(Lib.itoa aM)),(aO,()))]:List qT))) none) none) none
theorem aEG:qZ prog (xc (I6 O a8 aA)):=
 rJ (rH (qO uW (qO WT (qO vj (qO v6 rG)))) (qS wn (qS Mc (qS Ye (qS hG1 rF))))) func136 54 [(6,none)] rfl λE ⟨aK,aB,aC,aP⟩=>by
  have u0:= @I6.eq_1;have u1:= @I5.eq_1
  let l1:LE (I5 aB aC a8):=⟨λx=>⟨[(2,tv aC),(3,rs 1 0),(7,(.val (.list .part) x.1,some 2)),(8,iv x.2.1),(11,sv (.list .part) aB),(12,iv (aB.length:Int)),(13,iv x.2.2.1)],[(0,.grow 128 2 (x.2.2.2.length)),(1,.cells (.list rV) x.2.2.2 [(0,0)]),(2,.grow 183 6 (x.1.length))],3,54,1⟩⟩
  let x1:XE (I5 aB aC a8) 0 (Ja0×Int×Ja1):=⟨λx=>⟨[(2,tv aC),(3,rs 1 0),(7,(.val (.list .part) x.1,some 2)),(8,iv x.2.1)],[(0,.grow 128 2 (x.2.2.length)),(1,.cells (.list rV) x.2.2 [(0,0)]),(2,.grow 183 6 (x.1.length))],3,54,1⟩⟩
  exact rM
def OS (aQ:rR) (aR:pJ) (aA:Ja0->pJ->Ja1->Option Ja1):(Int×Ja1)->Option ((Int×Ja1)⊕Ja1):=fun(aS,aT)=>ite (decide (aS<(aQ.2.2.2.2.1.length:Int))) (ite (0<=aS/\aS<(aQ.2.2.2.2.1.length:Int)) (ite (((aR++(qI rV aQ.2.2.2.2.1 aS).1).length:Int)<=9223372036854775807) (ite ((((aR++(qI rV aQ.2.2.2.2.1 aS).1)++Qa7).length:Int)<=9223372036854775807) ((aA ((qI rV aQ.2.2.2.2.1 aS).2.1) ((aR++(qI rV aQ.2.2.2.2.1 aS).1)++Qa7) aT).bind λaU=>ite (qH (aS+1)) (some (.inl ((aS+1),aU))) none) none) none) none) (some (.inr aT))
def TC (O:Ja1->Ja0->pJ->Option Ja1) (a8:rR->pJ->Ja1->Option Ja1) (aA:Ja0->pJ->Ja1->Option Ja1) (aQ:rR) (aR:pJ) (aV:Ja1):Option Ja1:=ite (!((7<=aQ.1)&&(aQ.1<=9))) ((aA aQ.2.2.2.2.2.1 aR aV).bind λaW=>some (aW)) (rD (rC (OS aQ aR aA) (0,aV)) λaX=>some (aX))
theorem aEH:qZ prog (fe (TC O a8 aA)):=
 rJ (rH (qO tO (qO rY (qO uW (qO yP (qO v6 (qO AR rG)))))) (qS EL (qS hG2 rF))) func187 34 [] rfl λE ⟨aQ,aR,aV,aY⟩=>by
  have u0:= @TC.eq_1;have u1:= @OS.eq_1
  let l1:LE (OS aQ aR aA):=⟨λx=>⟨[(1,tv aR),(2,sv .clo (some (188,[(0,0)]))),(18,sv (.list rV) aQ.2.2.2.2.1),(19,iv (aQ.2.2.2.2.1.length:Int)),(20,iv x.1)],[(0,.cells (.list rV) x.2 [(0,1)]),(1,.grow 128 2 (x.2.length))],2,34,2⟩⟩
  let x1:XE (OS aQ aR aA) 0 Ja1:=⟨λx=>⟨[],[(0,.cells (.list rV) x [(0,1)]),(1,.grow 128 2 (x.length))],2,34,2⟩⟩
  exact rM
def TD (O:Ja1->Ja0->pJ->Option Ja1) (a8:rR->pJ->Ja1->Option Ja1) (aA:Ja0->pJ->Ja1->Option Ja1) (aZ:Ja0) (bA:pJ) (bB:Ja1):Option Ja1:=(O bB aZ bA).bind λbC=>some (bC)
theorem aEI:qZ prog (xd (TD O a8 aA)):=
 rJ (rH (qO WT rG) (qS hG0 rF)) func188 9 [] rfl λE ⟨aZ,bA,bB,aY⟩=>by
  have u0:= @TD.eq_1;exact rM
end
def aEJ (p:(Ja1->Ja0->pJ->Option Ja1)×(rR->pJ->Ja1->Option Ja1)×(Ja0->pJ->Ja1->Option Ja1)):(Ja1->Ja0->pJ->Option Ja1)×(rR->pJ->Ja1->Option Ja1)×(Ja0->pJ->Ja1->Option Ja1):=(I6 p.1 p.2.1 p.2.2,TC p.1 p.2.1 p.2.2,TD p.1 p.2.1 p.2.2)
def zC (n:Nat):(Ja1->Ja0->pJ->Option Ja1)×(rR->pJ->Ja1->Option Ja1)×(Ja0->pJ->Ja1->Option Ja1):=Nat.rec (motive:=λ_=>(Ja1->Ja0->pJ->Option Ja1)×(rR->pJ->Ja1->Option Ja1)×(Ja0->pJ->Ja1->Option Ja1)) ((λ_ _ _=>none),(λ_ _ _=>none),(λ_ _ _=>none)) (λ_ p=>aEJ p) n
theorem Yo: ∀n:Nat,qZ prog (xc (zC n).1)/\qZ prog (fe (zC n).2.1)/\qZ prog (xd (zC n).2.2)
 |0=>⟨uZ,uZ,uZ⟩
 |n+1=>have h:=Yo n;⟨aEG h.1 h.2.1 h.2.2,aEH h.1 h.2.1 h.2.2,aEI h.1 h.2.1 h.2.2⟩
def ff:Ja1->Ja0->pJ->Option Ja1:=(zC 1000).1
theorem aEK:ff=(zC 1000).1:=rfl
def TE:rR->pJ->Ja1->Option Ja1:=(zC 1000).2.1
@[go_sem] abbrev aEL:Nat×r8:=fe TE
theorem aEM:qZ prog aEL:=(Yo 1000).2.1
theorem aEN:TE=(zC 1000).2.1:=rfl
def fg:Ja0->pJ->Ja1->Option Ja1:=(zC 1000).2.2
theorem aEO:fg=(zC 1000).2.2:=rfl
def D9 (O:pJ) (a8:Ja2) (aA:Int) (aB:pR) (aC:pS):Option (pJ×Int×Int×Int):=(vU O a8 aA aB aC).bind λaD=>ite (((!decide (aD=9))==false)=true->0<=aA/\aA<(a8.length:Int)) (ite (((!decide (aD=9))==false)=true->(K4 ((qI sO a8 aA).2.1)).isSome=true) (ite ((!decide (aD=9))||(!(val (K4 ((qI sO a8 aA).2.1))))) ((vV O a8 aA aB 3 aC).bind λaE=>some (([]:pJ),aA,aE.1,aE.2)) ((sT O a8 aA aB 9 aC).bind λaF=>some (aF.1,aF.2.1,aF.2.2.1,aF.2.2.2))) none) none
abbrev Yp (x:(pJ×Ja2×Int×pR×pS)):List qP:=[rs 0 0,sv .clo (some (257,[]))]
abbrev Yq (x:(pJ×Ja2×Int×pR×pS)):List qQ:=[.cells tG (x.1,(x.2.1,(x.2.2.1,((some 1),x.2.2.2.1)))) [],.map .str .bool x.2.2.2.2]
@[go_sem] def Yr:(pJ×Ja2×Int×pR×pS)->r9:=fun(O,a8,aA,aB,aC)=>rv [] (D9 O a8 aA aB aC) λz=>([tv (z.1)],[.cells tG (O,(a8,(z.2.1,((some 1),(z.2.2.1,(z.2.2.2,())))))) [],.map .str .bool aC])
@[go_sem] def aMN O a8 aA aB aC:=rI Yp Yq Yr (O,a8,aA,aB,aC)
@[go_sem] abbrev aEP:Nat×r8:=mE 254 [.p tG [],.v] Yp Yq Yr [(0,3,.m)] [1]
theorem aEQ:qZ prog aEP:=
 rJ (rH (qO tO (qO rY (qO A4 (qO zJ (qO AQ rG))))) (qS C2 (qS Ra (qS EN (qS EP rF))))) func254 28 [(4,none)] rfl λE ⟨O,a8,aA,aB,aC⟩=>by
  have u0:= @D9.eq_1;exact rM
attribute [irreducible] TB I4 I6 TC TD ff TE fg D9
end
noncomputable section
abbrev Ys (x:(Ja0×pJ)):List qP:=[sv (.list .part) x.1,tv x.2]
@[go_sem] def Yt (O:Ja0->pJ->Option pJ):(Ja0×pJ)->r9:=fun(a8,aA)=>rv [] (O a8 aA) λz=>([tv z],[])
@[go_sem] def aMO (O:Ja0->pJ->Option pJ) a8 aA:=rI Ys qV (Yt O) (a8,aA)
@[go_sem] abbrev fh (F:Ja0->pJ->Option pJ):Nat×r8:=mE 110 [.v,.v] Ys qV (Yt F)
section
variable {O:Ja0->pJ->Option pJ}(hG0:qZ prog (fh O))
include hG0
def I7 (a8:Ja0) (aA:pJ) (aB:Int) (O:Ja0->pJ->Option pJ):(pJ×Int)->Option ((pJ×Int)⊕pJ):=fun(aC,aD)=>ite (decide (aD<(((qG.un (qI .part a8 aB)).2.2.2.2.1).length:Int))) (ite (0<=aD/\aD<(((qG.un (qI .part a8 aB)).2.2.2.2.1).length:Int)) (ite (((aA++(qI rV ((qG.un (qI .part a8 aB)).2.2.2.2.1) aD).1).length:Int)<=9223372036854775807) (ite ((((aA++(qI rV ((qG.un (qI .part a8 aB)).2.2.2.2.1) aD).1)++aA).length:Int)<=9223372036854775807) (ite (((((aA++(qI rV ((qG.un (qI .part a8 aB)).2.2.2.2.1) aD).1)++aA)++Qa8).length:Int)<=9223372036854775807) (ite (0<=aD/\aD<(((qG.un (qI .part a8 aB)).2.2.2.2.1).length:Int)) ((O ((qI rV ((qG.un (qI .part a8 aB)).2.2.2.2.1) aD).2.1) aA).bind λaE=>ite ((((((aA++(qI rV ((qG.un (qI .part a8 aB)).2.2.2.2.1) aD).1)++aA)++Qa8)++aE).length:Int)<=9223372036854775807) (ite (((((((aA++(qI rV ((qG.un (qI .part a8 aB)).2.2.2.2.1) aD).1)++aA)++Qa8)++aE)++Qb1).length:Int)<=9223372036854775807) (ite (((aC++(((((aA++(qI rV ((qG.un (qI .part a8 aB)).2.2.2.2.1) aD).1)++aA)++Qa8)++aE)++Qb1)).length:Int)<=9223372036854775807) (ite (qH (aD+1)) (some (.inl ((aC++(((((aA++(qI rV ((qG.un (qI .part a8 aB)).2.2.2.2.1) aD).1)++aA)++Qa8)++aE)++Qb1)),(aD+1)))) none) none) none) none) none) none) none) none) none) (some (.inr aC))
def KK (a8:Ja0) (aA:pJ) (O:Ja0->pJ->Option pJ):(pJ×Int)->Option ((pJ×Int)⊕pJ):=fun(aF,aB)=>ite (decide (aB<(a8.length:Int))) (ite (0<=aB/\aB<(a8.length:Int)) (ite (decide ((qG.un (qI .part a8 aB)).1=1)) ((T0 ((qG.un (qI .part a8 aB)).2.1)).bind λaG=>ite (((aF++aG).length:Int)<=9223372036854775807) (ite (qH (aB+1)) (some (.inl ((aF++aG),(aB+1)))) none) none) (ite (decide ((qG.un (qI .part a8 aB)).1=10)) (ite (((aF++([35]:pJ)).length:Int)<=9223372036854775807) (ite (qH (aB+1)) (some (.inl ((aF++([35]:pJ)),(aB+1)))) none) none) (ite (((qG.un (qI .part a8 aB)).1=11)&&((((qG.un (qI .part a8 aB)).2.2.2.2.2.1).length:Int)=0)) (ite (((Qb4++(qG.un (qI .part a8 aB)).2.2.1).length:Int)<=9223372036854775807) (ite ((((Qb4++(qG.un (qI .part a8 aB)).2.2.1)++Qd6).length:Int)<=9223372036854775807) (ite (((aF++((Qb4++(qG.un (qI .part a8 aB)).2.2.1)++Qd6)).length:Int)<=9223372036854775807) (ite (qH (aB+1)) (some (.inl ((aF++((Qb4++(qG.un (qI .part a8 aB)).2.2.1)++Qd6)),(aB+1)))) none) none) none) none) (ite (decide ((qG.un (qI .part a8 aB)).1=11)) (ite (((Qb4++(qG.un (qI .part a8 aB)).2.2.1).length:Int)<=9223372036854775807) (ite ((((Qb4++(qG.un (qI .part a8 aB)).2.2.1)++Qb8).length:Int)<=9223372036854775807) ((O ((qG.un (qI .part a8 aB)).2.2.2.2.2.1) aA).bind λaH=>ite (((((Qb4++(qG.un (qI .part a8 aB)).2.2.1)++Qb8)++aH).length:Int)<=9223372036854775807) (ite ((((((Qb4++(qG.un (qI .part a8 aB)).2.2.1)++Qb8)++aH)++Qd1).length:Int)<=9223372036854775807) (ite (((((((Qb4++(qG.un (qI .part a8 aB)).2.2.1)++Qb8)++aH)++Qd1)++(qG.un (qI .part a8 aB)).2.2.1).length:Int)<=9223372036854775807) (ite ((((((((Qb4++(qG.un (qI .part a8 aB)).2.2.1)++Qb8)++aH)++Qd1)++(qG.un (qI .part a8 aB)).2.2.1)++Qb8).length:Int)<=9223372036854775807) (ite (((aF++((((((Qb4++(qG.un (qI .part a8 aB)).2.2.1)++Qb8)++aH)++Qd1)++(qG.un (qI .part a8 aB)).2.2.1)++Qb8)).length:Int)<=9223372036854775807) (ite (qH (aB+1)) (some (.inl ((aF++((((((Qb4++(qG.un (qI .part a8 aB)).2.2.1)++Qb8)++aH)++Qd1)++(qG.un (qI .part a8 aB)).2.2.1)++Qb8)),(aB+1)))) none) none) none) none) none) none) none) none) (ite (decide ((qG.un (qI .part a8 aB)).1=2)) (ite (((Qa8++(qG.un (qI .part a8 aB)).2.2.1).length:Int)<=9223372036854775807) (ite ((((Qa8++(qG.un (qI .part a8 aB)).2.2.1)++Qb1).length:Int)<=9223372036854775807) (ite (((aF++((Qa8++(qG.un (qI .part a8 aB)).2.2.1)++Qb1)).length:Int)<=9223372036854775807) (ite (qH (aB+1)) (some (.inl ((aF++((Qa8++(qG.un (qI .part a8 aB)).2.2.1)++Qb1)),(aB+1)))) none) none) none) none) (ite ((3<=(qG.un (qI .part a8 aB)).1)&&((qG.un (qI .part a8 aB)).1<=9)) (ite (((Qa8++(qG.un (qI .part a8 aB)).2.2.1).length:Int)<=9223372036854775807) (ite ((((Qa8++(qG.un (qI .part a8 aB)).2.2.1)++Qb3).length:Int)<=9223372036854775807) (ite (((((Qa8++(qG.un (qI .part a8 aB)).2.2.1)++Qb3)++aA).length:Int)<=9223372036854775807) (ite (qH ((qG.un (qI .part a8 aB)).1- 3)) (ite (0<=((qG.un (qI .part a8 aB)).1- 3)/\((qG.un (qI .part a8 aB)).1- 3)<(Qd7.length:Int)) (ite ((((((Qa8++(qG.un (qI .part a8 aB)).2.2.1)++Qb3)++aA)++(qI .str Qd7 ((qG.un (qI .part a8 aB)).1- 3))).length:Int)<=9223372036854775807) (ite (((aF++((((Qa8++(qG.un (qI .part a8 aB)).2.2.1)++Qb3)++aA)++(qI .str Qd7 ((qG.un (qI .part a8 aB)).1- 3)))).length:Int)<=9223372036854775807) (rD (σ:=pJ) (ite (!decide ((qG.un (qI .part a8 aB)).2.2.2.1=([]:pJ))) (ite (((Qb3++aA).length:Int)<=9223372036854775807) (ite ((((Qb3++aA)++(qG.un (qI .part a8 aB)).2.2.2.1).length:Int)<=9223372036854775807) (ite ((((aF++((((Qa8++(qG.un (qI .part a8 aB)).2.2.1)++Qb3)++aA)++(qI .str Qd7 ((qG.un (qI .part a8 aB)).1- 3))))++((Qb3++aA)++(qG.un (qI .part a8 aB)).2.2.2.1)).length:Int)<=9223372036854775807) (some ((aF++((((Qa8++(qG.un (qI .part a8 aB)).2.2.1)++Qb3)++aA)++(qI .str Qd7 ((qG.un (qI .part a8 aB)).1- 3))))++((Qb3++aA)++(qG.un (qI .part a8 aB)).2.2.2.1))) none) none) none) (some (aF++((((Qa8++(qG.un (qI .part a8 aB)).2.2.1)++Qb3)++aA)++(qI .str Qd7 ((qG.un (qI .part a8 aB)).1- 3)))))) λaI=>rD (σ:=pJ) (ite (((((qG.un (qI .part a8 aB)).1)=7)||(((qG.un (qI .part a8 aB)).1)=8))||(((qG.un (qI .part a8 aB)).1)=9)) (ite (((aI++Qb3).length:Int)<=9223372036854775807) (some (aI++Qb3)) none) (some (aI))) λaJ=>rD (rC (I7 a8 aA aB O) (aJ,0)) λaK=>ite (((aK++Qb1).length:Int)<=9223372036854775807) (ite (qH (aB+1)) (some (.inl ((aK++Qb1),(aB+1)))) none) none) none) none) none) none) none) none) none) (ite (qH (aB+1)) (some (.inl (aF,(aB+1)))) none))))))) none) (some (.inr aF))
def TF (O:Ja0->pJ->Option pJ) (a8:Ja0) (aA:pJ):Option pJ:=rD (rC (KK a8 aA O) (([]:pJ),0)) λaL=>some (aL)
theorem aER:qZ prog (fh (TF O)):=
 rJ (rH (qO tO (qO rY (qO vF (qO uW (qO yP (qO v6 (qO AR rG))))))) (qS aDQ (qS hG0 (qS eh rF)))) func110 154 [(4,none)] rfl λE ⟨a8,aA⟩=>by
  have u0:= @TF.eq_1;have u1:= @KK.eq_1
  let l1:LE (KK a8 aA O):=⟨λx=>⟨[(0,sv (.list .part) a8),(1,tv aA),(5,tv x.1),(6,(.val (.list .str) Qd7,some 0)),(7,iv x.2)],[(0,.grow 9 1 (Qd7.length))],1,154,0⟩⟩
  have u2:= @I7.eq_1
  let l2 aB:LE (I7 a8 aA aB O):=⟨λx=>⟨[(0,sv (.list .part) a8),(1,tv aA),(5,tv x.1),(6,(.val (.list .str) Qd7,some 0)),(7,iv aB),(8,rs 1 0),(9,iv x.2)],[(0,.grow 9 1 (Qd7.length)),(1,.cells sN (qG.un (qI .part a8 aB)) [])],2,154,0⟩⟩
  let j1 aB:JE 108 pJ:=⟨λx=>⟨[(0,sv (.list .part) a8),(1,tv aA),(5,tv x),(6,(.val (.list .str) Qd7,some 0)),(7,iv aB),(8,rs 1 0)],[(0,.grow 9 1 (Qd7.length)),(1,.cells sN (qG.un (qI .part a8 aB)) [])],2,154,0⟩⟩
  let j2 aB:JE 118 pJ:=⟨λx=>⟨[(0,sv (.list .part) a8),(1,tv aA),(5,tv x),(6,(.val (.list .str) Qd7,some 0)),(7,iv aB),(8,rs 1 0)],[(0,.grow 9 1 (Qd7.length)),(1,.cells sN (qG.un (qI .part a8 aB)) [])],2,154,0⟩⟩
  let x1:XE (KK a8 aA O) 0 pJ:=⟨λx=>⟨[(5,tv x)],[],0,154,0⟩⟩
  let x2 aB:XE (I7 a8 aA aB O) 3 pJ:=⟨λx=>⟨[(0,sv (.list .part) a8),(1,tv aA),(5,tv x),(6,(.val (.list .str) Qd7,some 0)),(7,iv aB)],[(0,.grow 9 1 (Qd7.length))],1,154,0⟩⟩
  exact rM
end
def aES (p:(Ja0->pJ->Option pJ)):(Ja0->pJ->Option pJ):=TF p
def OT (n:Nat):(Ja0->pJ->Option pJ):=Nat.rec (motive:=λ_=>(Ja0->pJ->Option pJ)) (λ_ _=>none) (λ_ p=>aES p) n
theorem Yu: ∀n:Nat,qZ prog (fh (OT n))
 |0=>uZ
 |n+1=>have h:=Yu n;aER h
def FM:Ja0->pJ->Option pJ:=(OT 1000)
@[go_sem] abbrev aET:Nat×r8:=fh FM
theorem XD:qZ prog aET:=(Yu 1000)
theorem aEU:FM=(OT 1000):=rfl
def fi (O:Ja0) (a8:pJ):(Ja0×Int×Int×Ja1)->Option ((Ja0×Int×Int×Ja1)⊕(Ja0×Int×Ja1)):=fun(aA,aB,aC,aD)=>ite (decide (aC<(O.length:Int))) (ite (0<=aC/\aC<(O.length:Int)) ((NY (qG.un (qI .part O aC))).bind λaE=>ite aE (ite ((aA.length+([(qG.of (qG.un (qI .part O aC)))]:List qG).length)*104<=140737488355328) (ite (qH (aC+1)) (some (.inl ((aA++([(qG.of (qG.un (qI .part O aC)))]:List qG)),aB,(aC+1),aD))) none) none) (ite (-9223372036854775808<=aB/\aB<=9223372036854775807) (ite (((a8++(Lib.itoa aB)).length:Int)<=9223372036854775807) ((I4 aA).bind λaF=>ite ((aD.length+([((a8++(Lib.itoa aB)),(aF,()))]:List qT).length)*40<=140737488355328) (ite (qH (aB+1)) (ite (-9223372036854775808<=(aB+1)/\(aB+1)<=9223372036854775807) (ite (((a8++(Lib.itoa (aB+1))).length:Int)<=9223372036854775807) (ite ((((a8++(Lib.itoa (aB+1)))++Qa7).length:Int)<=9223372036854775807) ((TE (qG.un (qI .part O aC)) ((a8++(Lib.itoa (aB+1)))++Qa7) (aD++([((a8++(Lib.itoa aB)),(aF,()))]:List qT))).bind λaG=>ite (qH (aC+1)) (some (.inl (([]:List qG),(aB+1),(aC+1),aG))) none) none) none) none) none) none) none) none)) none) (some (.inr (aA,aB,aD)))
def TG (O:Ja0) (a8:pJ):Option Ja1:=rD (rC (fi O a8) (([]:List qG),0,0,([]:List qT))) fun(aA,aB,aC)=>ite (-9223372036854775808<=aB/\aB<=9223372036854775807) (ite (((a8++(Lib.itoa aB)).length:Int)<=9223372036854775807) ((I4 aA).bind λaD=>ite ((aC.length+([((a8++(Lib.itoa aB)),(aD,()))]:List qT).length)*40<=140737488355328) (some (aC++([((a8++(Lib.itoa aB)),(aD,()))]:List qT))) none) none) none
abbrev Yv (x:(Ja0×pJ)):List qP:=[(.nilS,none),sv (.list .part) x.1,tv x.2]
@[go_sem] def Yw:(Ja0×pJ)->r9:=fun(O,a8)=>rv [] (TG O a8) λz=>([(.val (.list rV) z,some 0)],[.grow 128 2 (z.length)])
@[go_sem] def aMP O a8:=rI Yv qV Yw (O,a8)
@[go_sem] abbrev Yx:Nat×r8:=mE 136 [.v,.v,.v] Yv qV Yw
theorem aEV:qZ prog Yx:=
 rJ (rH (qO uW (qO WT (qO vj (qO v6 rG)))) (qS wn (qS Mc (qS Ye (qS aEM rF))))) func136 54 [(6,none)] rfl λE ⟨O,a8⟩=>by
  have u0:= @TG.eq_1;have u1:= @fi.eq_1
  let l1:LE (fi O a8):=⟨λx=>⟨[(2,tv a8),(3,rs 0 0),(7,(.val (.list .part) x.1,some 1)),(8,iv x.2.1),(11,sv (.list .part) O),(12,iv (O.length:Int)),(13,iv x.2.2.1)],[(0,.cells (.list rV) x.2.2.2 [(0,2)]),(1,.grow 183 6 (x.1.length)),(2,.grow 128 2 (x.2.2.2.length))],3,54,0⟩⟩
  let x1:XE (fi O a8) 0 (Ja0×Int×Ja1):=⟨λx=>⟨[(2,tv a8),(3,rs 0 0),(7,(.val (.list .part) x.1,some 1)),(8,iv x.2.1)],[(0,.cells (.list rV) x.2.2 [(0,2)]),(1,.grow 183 6 (x.1.length)),(2,.grow 128 2 (x.2.2.length))],3,54,0⟩⟩
  exact rM
attribute [irreducible] TF FM TG
end
noncomputable section
def C5 (O:pJ) (a8:Ja2) (aA:Int) (aB:pR) (aC:pS):Option (pJ×Int×Int×Int):=(vU O a8 aA aB aC).bind λaD=>ite (((!decide (aD=9))==false)=true->0<=aA/\aA<(a8.length:Int)) (ite (((!decide (aD=9))==false)=true->(AS ((qI sO a8 aA).2.1)).isSome=true) (ite ((!decide (aD=9))||(!(val (AS ((qI sO a8 aA).2.1))))) ((vV O a8 aA aB 3 aC).bind λaE=>some (([]:pJ),aA,aE.1,aE.2)) ((sT O a8 aA aB 9 aC).bind λaF=>some (aF.1,aF.2.1,aF.2.2.1,aF.2.2.2))) none) none
abbrev Yy (x:(pJ×Ja2×Int×pR×pS)):List qP:=[rs 0 0,sv .clo (some (258,[]))]
abbrev Yz (x:(pJ×Ja2×Int×pR×pS)):List qQ:=[.cells tG (x.1,(x.2.1,(x.2.2.1,((some 1),x.2.2.2.1)))) [],.map .str .bool x.2.2.2.2]
@[go_sem] def Za:(pJ×Ja2×Int×pR×pS)->r9:=fun(O,a8,aA,aB,aC)=>rv [] (C5 O a8 aA aB aC) λz=>([tv (z.1)],[.cells tG (O,(a8,(z.2.1,((some 1),(z.2.2.1,(z.2.2.2,())))))) [],.map .str .bool aC])
@[go_sem] def aMQ O a8 aA aB aC:=rI Yy Yz Za (O,a8,aA,aB,aC)
@[go_sem] abbrev aEW:Nat×r8:=mE 254 [.p tG [],.v] Yy Yz Za [(0,3,.m)] [1]
def Zb:qZ prog aEW:=
 rJ (rH (qO tO (qO rY (qO A4 (qO zJ (qO AQ rG))))) (qS C2 (qS X7 (qS EN (qS EP rF))))) func254 28 [(4,none)] rfl λE ⟨O,a8,aA,aB,aC⟩=>by
  have u0:= @C5.eq_1;exact rM
def OU (O:(List wZ)):Int->Option (Int⊕(Unit⊕Bool)):=λa8=>ite (decide (a8<(O.length:Int))) (ite (0<=a8/\a8<(O.length:Int)) ((NE ((qI sP O a8).1)).bind λaA=>ite (((!aA)==false)=true->(GI ((qI sP O a8).2.1)).isSome=true) (ite (((((!aA)||(!(((((qI sP O a8).2.1).length:Int)<=4000)&&(Lib.validD ((qI sP O a8).2.1)))))==false)&&((decide (0<a8))==true))=true->qH (a8- 1)) (ite (((((!aA)||(!(((((qI sP O a8).2.1).length:Int)<=4000)&&(Lib.validD ((qI sP O a8).2.1)))))==false)&&((decide (0<a8))==true))=true->0<=(a8- 1)/\(a8- 1)<(O.length:Int)) (ite (((!aA)||(!(((((qI sP O a8).2.1).length:Int)<=4000)&&(Lib.validD ((qI sP O a8).2.1)))))||((0<a8)&&(!Op.bytesLess (qI sP O (a8- 1)).1 (qI sP O a8).1))) (some (.inr (.inr (false)))) (ite (qH (a8+1)) (some (.inl (a8+1))) none)) none) none) none) none) (some (.inr (.inl ())))
def I8 (O:(List wZ)):Option Bool:=sK (rC (OU O) 0) λ_=>some (decide ((O.length:Int)<=20))
abbrev Zc (x:(List wZ)):List qP:=[sv (.list sP) x]
@[go_sem] def Zd:(List wZ)->r9:=λO=>rv [] (I8 O) λz=>([bv z],[])
@[go_sem] def aMR O:=rI Zc qV Zd O
@[go_sem] abbrev aEX:Nat×r8:=mE 56 [.v] Zc qV Zd
def Ze:qZ prog aEX:=
 rJ (rH (qO rY (qO D5 (qO N5 rG))) (qS Ni (qS wo rF))) func56 41 [(2,none)] rfl λE O=>by
  have u0:= @I8.eq_1;have u1:= @OU.eq_1
  let l1:LE (OU O):=⟨λx=>⟨[(0,sv (.list sP) O),(5,sv (.list sP) O),(6,iv (O.length:Int)),(7,iv x)],[],0,41,0⟩⟩
  let x1:XE (OU O) 0 Unit:=⟨λ_=>⟨[(0,sv (.list sP) O)],[],0,41,0⟩⟩
  exact rM
def OV (O:Int) (a8:pJ):(Int×pU)->Option ((Int×pU)⊕pU):=fun(aA,aB)=>ite (decide (aA<(a8.length:Int))) (ite (decide (O=4)) (ite (0<=aA/\aA<(a8.length:Int)) (ite False ((HY (aB,()) (WL (r7 a8 aA))).bind λaC=>ite (qH (aA+1)) (some (.inl ((aA+1),(aB++tK (WL (r7 a8 aA)))))) none) none) none) (ite (0<=aA/\aA<(a8.length:Int)) ((O6 O (r7 a8 aA) (decide (aA=0))).bind λaD=>(HY (aB,()) aD).bind λaE=>ite (qH (aA+1)) (some (.inl ((aA+1),(aB++tK aD)))) none) none)) (some (.inr aB))
def TH (O:Int) (a8:pJ):Option pJ:=ite (!((1<=O)&&(O<=4))) (some ([]:pJ)) (rD (rC (OV O a8) (0,([]:pU))) λaA=>some (tU aA))
abbrev Zf (x:(Int×pJ)):List qP:=[iv x.1,tv x.2]
@[go_sem] def Zg:(Int×pJ)->r9:=fun(O,a8)=>rv [] (TH O a8) λz=>([tv z],[])
@[go_sem] def aMS O a8:=rI Zf qV Zg (O,a8)
@[go_sem] abbrev aEY:Nat×r8:=mE 58 [.v,.v] Zf qV Zg
def aEZ:qZ prog aEY:=
 rJ (rH (qO rY (qO WR rG)) (qS aBV (qS aBo (qS Ns (qS aDK (qS ee rF)))))) func58 32 [(4,none)] rfl λE ⟨O,a8⟩=>by
  have u0:= @TH.eq_1;have u1:= @OV.eq_1
  let l1:LE (OV O a8):=⟨λx=>⟨[(0,iv O),(1,tv a8),(5,rs 0 0),(11,iv (a8.length:Int)),(12,iv x.1)],[(0,.cells vC ((some (0,0)),(x.2,())) [(1,1)]),(1,.grow 5 1 (x.2.length))],2,32,0⟩⟩
  let x1:XE (OV O a8) 0 pU:=⟨λx=>⟨[(5,rs 0 0)],[(0,.cells vC ((some (0,0)),(x,())) [(1,1)]),(1,.grow 5 1 (x.length))],2,32,0⟩⟩
  exact rM
def XF (O:pJ):Option Unit:=(GI O).bind λa8=>some (())
abbrev Zh (x:pJ):List qP:=[tv x]
@[go_sem] def Zi:pJ->r9:=λO=>rv [] (XF O) λz=>([bv (!(((O.length:Int)<=4000)&&(Lib.validD O)))],[])
@[go_sem] def aMT O:=rI Zh qV Zi O
@[go_sem] abbrev aE0:Nat×r8:=mE 87 [.v] Zh qV Zi
def aE1:qZ prog aE0:=
 rJ (rH rG (qS wo rF)) func87 6 [(2,none)] rfl λE O=>by
  have u0:= @XF.eq_1;exact rM
def OW (O:Ja0):Option pJ:=(XC (([]:pU),()) O).bind λa8=>some (tU a8)
abbrev Zj (x:Ja0):List qP:=[sv (.list .part) x]
@[go_sem] def Zk:Ja0->r9:=λO=>rv [] (OW O) λz=>([tv z],[])
@[go_sem] def aMU O:=rI Zj qV Zk O
@[go_sem] abbrev aE2:Nat×r8:=mE 107 [.v] Zj qV Zk
def Zl:qZ prog aE2:=
 rJ (rH (qO Lk rG) (qS aEy (qS ee rF))) func107 8 [(2,none)] rfl λE O=>by
  have u0:= @OW.eq_1;exact rM
def GK (O:pJ) (a8:Int):(Int×Int×Int)->Option ((Int×Int×Int)⊕(Int×Int×Int)):=fun(aA,aB,aC)=>ite ((aA<(O.length:Int))&&(!decide (aA=a8))) (ite (0<=aA/\aA<=(O.length:Int)/\(O.length:Int)<=(O.length:Int)) ((OB (s8 O aA (O.length:Int))).bind λaD=>ite (qH (aA+aD.2)) (ite (qH (aC+1)) (ite (decide (aD.1=10)) (ite (qH (aB+1)) (some (.inl ((aA+aD.2),(aB+1),1))) none) (some (.inl ((aA+aD.2),aB,(aC+1))))) none) none) none) (some (.inr (aA,aB,aC)))
def TJ (O:pJ) (a8:Int):Option (Int×Int×Int×Int):=rD (rC (GK O a8) (0,1,1)) fun(aA,aB,aC)=>ite (!decide (aA=a8)) (some (0,0,0,2)) (some (aA,aB,aC,0))
abbrev Zm (x:(pJ×Int)):List qP:=[tv x.1,iv x.2]
@[go_sem] def Zn:(pJ×Int)->r9:=fun(O,a8)=>rv [] (TJ O a8) λz=>([sv EK (z.1,(z.2.1,(z.2.2.1,()))),iv (z.2.2.2)],[])
@[go_sem] def aMV O a8:=rI Zm qV Zn (O,a8)
@[go_sem] abbrev aE3:Nat×r8:=mE 154 [.v,.v] Zm qV Zn
def aE4:qZ prog aE3:=
 rJ (rH (qO tO (qO rY (qO HX rG))) (qS Wm rF)) func154 51 [(4,some 90),(5,none)] rfl λE ⟨O,a8⟩=>by
  have u0:= @TJ.eq_1;have u1:= @GK.eq_1
  let l1:LE (GK O a8):=⟨λx=>⟨[(0,tv O),(1,iv a8),(4,rs 0 0),(6,rs 1 0)],[(0,.cells EK (0,(0,(0,()))) []),(1,.cells EK (x.1,(x.2.1,(x.2.2,()))) [])],2,51,0⟩⟩
  let x1:XE (GK O a8) 0 (Int×Int×Int):=⟨λx=>⟨[(1,iv a8),(4,rs 0 0),(6,rs 1 0)],[(0,.cells EK (0,(0,(0,()))) []),(1,.cells EK (x.1,(x.2.1,(x.2.2,()))) [])],2,51,0⟩⟩
  exact rM
def KL:(pJ×pU)->Option ((pJ×pU)⊕pU):=fun(O,a8)=>ite (decide (0<(O.length:Int))) ((OB O).bind λaA=>ite ((a8.length+([aA.1]:pU).length)*8<=140737488355328) (ite (0<=aA.2/\aA.2<=(O.length:Int)/\(O.length:Int)<=(O.length:Int)) (some (.inl ((s8 O aA.2 (O.length:Int)),(a8++([aA.1]:pU))))) none) none) (some (.inr a8))
def TK (O:pJ):Option pU:=rD (rC KL (O,([]:pU))) λa8=>some (a8)
abbrev Zo (x:pJ):List qP:=[tv x]
@[go_sem] def Zp:pJ->r9:=λO=>rv [] (TK O) λz=>([(.val (.list (.int .i64)) z,some 0)],[.grow 3 1 (z.length)])
@[go_sem] def aMW O:=rI Zo qV Zp O
@[go_sem] abbrev aE5:Nat×r8:=mE 176 [.v] Zo qV Zp
def aE6:qZ prog aE5:=
 rJ (rH (qO rY (qO Lr rG)) (qS Wm rF)) func176 22 [(2,none)] rfl λE O=>by
  have u0:= @TK.eq_1;have u1:= @KL.eq_1
  let l1:LE KL:=⟨λx=>⟨[(0,tv x.1),(3,(.val (.list (.int .i64)) x.2,some 0))],[(0,.grow 3 1 (x.2.length))],1,22,0⟩⟩
  let x1:XE KL 0 pU:=⟨λx=>⟨[(3,(.val (.list (.int .i64)) x,some 0))],[(0,.grow 3 1 (x.length))],1,22,0⟩⟩
  exact rM
def OX (O:pJ):(Int×pU)->Option ((Int×pU)⊕pU):=fun(a8,aA)=>ite (decide (a8<(O.length:Int))) (ite (0<=a8/\a8<(O.length:Int)) (ite (decide ((r7 O a8)=92)) (ite (qH (a8+1)) (ite (0<=(a8+1)/\(a8+1)<(O.length:Int)) ((GD (aA,()) (r7 O (a8+1))).bind λaB=>ite (qH ((a8+1)+1)) (some (.inl (((a8+1)+1),(aA++([(r7 O (a8+1))]:pU))))) none) none) none) (ite (0<=a8/\a8<(O.length:Int)) ((GD (aA,()) (r7 O a8)).bind λaC=>ite (qH (a8+1)) (some (.inl ((a8+1),(aA++([(r7 O a8)]:pU))))) none) none)) none) (some (.inr aA))
def TL (O:pJ):Option (pJ×Int×Int):=(OE O).bind λa8=>ite (decide (a8<(O.length:Int))) (some (([]:pJ),a8,3)) (rD (rC (OX O) (0,([]:pU))) λaA=>some ((tU aA),0,0))
abbrev Zq (x:pJ):List qP:=[tv x]
@[go_sem] def Zr:pJ->r9:=λO=>rv [] (TL O) λz=>([tv (z.1),iv (z.2.1),iv (z.2.2)],[])
@[go_sem] def aMX O:=rI Zq qV Zr O
@[go_sem] abbrev aE7:Nat×r8:=mE 194 [.v] Zq qV Zr
def aE8:qZ prog aE7:=
 rJ (rH (qO rY (qO WR rG)) (qS Wr (qS Ql (qS ee rF)))) func194 32 [(2,none),(3,none),(4,none)] rfl λE O=>by
  have u0:= @TL.eq_1;have u1:= @OX.eq_1
  let l1:LE (OX O):=⟨λx=>⟨[(0,tv O),(6,rs 0 0),(7,iv x.1)],[(0,.cells vC ((some (0,0)),(x.2,())) [(1,1)]),(1,.grow 5 1 (x.2.length))],2,32,0⟩⟩
  let x1:XE (OX O) 0 pU:=⟨λx=>⟨[(6,rs 0 0)],[(0,.cells vC ((some (0,0)),(x,())) [(1,1)]),(1,.grow 5 1 (x.length))],2,32,0⟩⟩
  exact rM
def KM (O:pJ):Int->Option (Int⊕(Unit⊕Bool)):=λa8=>ite (decide (a8<(O.length:Int))) (ite (0<=a8/\a8<(O.length:Int)) (ite (!((((((97<=(r7 O a8))&&((r7 O a8)<=122))||((65<=(r7 O a8))&&((r7 O a8)<=90)))||((48<=(r7 O a8))&&((r7 O a8)<=57)))||((r7 O a8)=95))||((r7 O a8)=45))) (some (.inr (.inr (false)))) (ite (qH (a8+1)) (some (.inl (a8+1))) none)) none) (some (.inr (.inl ())))
def vW (O:pJ):Option Bool:=sK (rC (KM O) 0) λ_=>ite ((((1<=(O.length:Int))&&((O.length:Int)<=40))==true)=true->0<=(0:Int)/\0<(O.length:Int)) (some (((1<=(O.length:Int))&&((O.length:Int)<=40))&&((97<=(r7 O 0))&&((r7 O 0)<=122)))) none
abbrev Zs (x:pJ):List qP:=[tv x]
@[go_sem] def Zt:pJ->r9:=λO=>rv [] (vW O) λz=>([bv z],[])
@[go_sem] def aMY O:=rI Zs qV Zt O
@[go_sem] abbrev aE9:Nat×r8:=mE 216 [.v] Zs qV Zt
def TM:qZ prog aE9:=
 rJ (rH (qO rY rG) (qS vp (qS Rn rF))) func216 28 [(2,none)] rfl λE O=>by
  have u0:= @vW.eq_1;have u1:= @KM.eq_1
  let l1:LE (KM O):=⟨λx=>⟨[(0,tv O),(3,iv x)],[],0,28,0⟩⟩
  let x1:XE (KM O) 0 Unit:=⟨λ_=>⟨[(0,tv O)],[],0,28,0⟩⟩
  exact rM
def TN (O:rR) (a8:Bool):Option Bool:=rD (σ:=(Bool×pJ×pJ×pJ)) (ite (decide (O.1=1)) (some ((!decide (O.2.1=([]:pJ))),O.2.1,([]:pJ),([]:pJ))) (ite (decide (O.1=10)) (some (a8,([]:pJ),([]:pJ),([]:pJ))) (ite (decide (O.1=2)) ((vW O.2.2.1).bind λaA=>some (aA,([]:pJ),O.2.2.1,([]:pJ))) (rD (σ:=Bool) (ite (decide (O.1=3)) (some (decide (O.1=3))) (ite (decide (O.1=4)) (some (decide (O.1=4))) (ite (decide (O.1=5)) (some (decide (O.1=5))) (some (decide (O.1=6)))))) λaB=>ite aB ((vW O.2.2.1).bind λaC=>ite (decide (O.1=3)) (some ((aC&&(((O.2.2.2.1=([]:pJ))||(O.2.2.2.1=Qc4))||(O.2.2.2.1=Qc5))),([]:pJ),O.2.2.1,O.2.2.2.1)) (ite (decide (O.1=5)) (ite ((aC==true)=true->(EM O.2.2.2.1).isSome=true) (some ((aC&&(val (EM O.2.2.2.1))),([]:pJ),O.2.2.1,O.2.2.2.1)) none) (ite ((aC==true)=true->(vW O.2.2.2.1).isSome=true) (some ((aC&&(val (vW O.2.2.2.1))),([]:pJ),O.2.2.1,O.2.2.2.1)) none))) (some (false,([]:pJ),([]:pJ),([]:pJ))))))) fun(aD,aE,aF,aG)=>some (((((aD&&((O.2.2.2.2.1.length:Int)=0))&&((O.2.2.2.2.2.1.length:Int)=0))&&(O.2.1=aE))&&(O.2.2.1=aF))&&(O.2.2.2.1=aG))
abbrev Zu (x:(rR×Bool)):List qP:=[sv sN x.1,bv x.2]
@[go_sem] def Zv:(rR×Bool)->r9:=fun(O,a8)=>rv [] (TN O a8) λz=>([bv z],[])
@[go_sem] def aMZ O a8:=rI Zu qV Zv (O,a8)
@[go_sem] abbrev aFa:Nat×r8:=mE 220 [.v,.v] Zu qV Zv
def aFb:qZ prog aFa:=
 rJ (rH (qO tO (qO rY (qO uW (qO yP (qO v6 rG))))) (qS TM (qS Rt rF))) func220 113 [(4,none)] rfl λE ⟨O,a8⟩=>by
  have u0:= @TN.eq_1
  let j1:JE 0 (Bool×pJ×pJ×pJ):=⟨λx=>⟨[(2,rs 0 0),(5,rs 1 0),(6,bv x.1)],[(0,.cells sN O []),(1,.cells sN (O.1,(x.2.1,(x.2.2.1,(x.2.2.2,(([]:List qT),(([]:List qG),())))))) [(4,2),(5,3)]),(2,.grow 186 2 (([]:List qT).length)),(3,.grow 183 6 (([]:List qG).length))],4,113,0⟩⟩
  let j2:JE 31 Bool:=⟨λx=>⟨[(2,rs 0 0),(5,rs 1 0),(6,bv false),(31,bv x)],[(0,.cells sN O []),(1,.cells sN (O.1,(([]:pJ),(([]:pJ),(([]:pJ),(([]:List qT),(([]:List qG),())))))) [(4,2),(5,3)]),(2,.grow 186 2 (([]:List qT).length)),(3,.grow 183 6 (([]:List qG).length))],4,113,0⟩⟩
  exact rM
def Zw (O:Int):Unit:=()
abbrev Zx (x:Int):List qP:=[sv (.int .u8) x]
@[go_sem] def Zy:Int->r9:=λO=>⟨[],[bv ((((((((97<=O)&&(O<=122))||((65<=O)&&(O<=90)))||((48<=O)&&(O<=57)))||(O=95))||(O=45))||(O=46))||(O=61))],[]⟩
@[go_sem] def aM0 O:=rI Zx qV Zy O
@[go_sem] abbrev aFc:Nat×r8:=mE 263 [.v] Zx qV Zy
def aFd:qZ prog aFc:=
 rJ (rH rG (qS vp rF)) func263 13 [(2,none)] rfl λE O=>by
  have u0:= @Zw.eq_1;have q0: ∃z,(Zw O)=z:=⟨_,rfl⟩;exact xF
attribute [irreducible] C5 I8 TH XF OW TJ TK TL vW TN
end
end Go.Proofs.YtedimeeleabhnaaGreatDoor
