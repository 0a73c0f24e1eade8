import Derived.Test.YtedimeeleabhnaaGreatDoorA03c
set_option linter.all false
set_option maxRecDepth 100000
set_option maxHeartbeats 4000000
namespace Go.Proofs.YtedimeeleabhnaaGreatDoor
open Vc
open Tryz
noncomputable section
abbrev a1j (x:(Int×Bool×pI×Ja2×Int×pQ×pR)):List qK:=[rs 0 0,iv x.1,bv x.2.1]
abbrev a1k (x:(Int×Bool×pI×Ja2×Int×pQ×pR)):List qP:=[.cells tG (x.2.2.1,(x.2.2.2.1,(x.2.2.2.2.1,((some 1),x.2.2.2.2.2.1)))) [],.map .str .bool x.2.2.2.2.2.2]
@[go_sem] def a1l (O:pI->Ja2->Int->pQ->Int->Bool->pR->Option (Ja0×Int×Int×Int×pR)):(Int×Bool×pI×Ja2×Int×pQ×pR)->r8:=fun(a8,aA,aB,aC,aD,aE,aF)=>rv [] (O aB aC aD aE a8 aA aF) λz=>([(.val (.list .part) (z.1),some 2)],[.cells tG (aB,(aC,(z.2.1,((some 1),(z.2.2.1,(z.2.2.2.1,())))))) [],.map .str .bool (z.2.2.2.2),.grow 183 6 ((z.1).length)])
@[go_sem] def aMk (O:pI->Ja2->Int->pQ->Int->Bool->pR->Option (Ja0×Int×Int×Int×pR)) a8 aA aB aC aD aE aF:=rF a1j a1k (a1l O) (a8,aA,aB,aC,aD,aE,aF)
@[go_sem] abbrev fe (F:pI->Ja2->Int->pQ->Int->Bool->pR->Option (Ja0×Int×Int×Int×pR)):Nat×r7:=mE 145 [.p tG [],.v,.v] a1j a1k (a1l F) [(0,3,.m)] []
abbrev a1m (x:(Int×Bool×pI×Ja2×Int×pQ×pR)):List qK:=[rs 0 0,iv x.1,bv x.2.1]
abbrev a1n (x:(Int×Bool×pI×Ja2×Int×pQ×pR)):List qP:=[.cells tG (x.2.2.1,(x.2.2.2.1,(x.2.2.2.2.1,((some 1),x.2.2.2.2.2.1)))) [],.map .str .bool x.2.2.2.2.2.2]
@[go_sem] def a1o (O:pI->Ja2->Int->pQ->Int->Bool->pR->Option (pI×Ja0×Int×Int×Int×pR)):(Int×Bool×pI×Ja2×Int×pQ×pR)->r8:=fun(a8,aA,aB,aC,aD,aE,aF)=>rv [] (O aB aC aD aE a8 aA aF) λz=>([sv sM (11,(([]:pI),(z.1,(([]:pI),(([]:List qS),(z.2.1,()))))))],[.cells tG (aB,(aC,(z.2.2.1,((some 1),(z.2.2.2.1,(z.2.2.2.2.1,())))))) [],.map .str .bool (z.2.2.2.2.2)])
@[go_sem] def aMl (O:pI->Ja2->Int->pQ->Int->Bool->pR->Option (pI×Ja0×Int×Int×Int×pR)) a8 aA aB aC aD aE aF:=rF a1m a1n (a1o O) (a8,aA,aB,aC,aD,aE,aF)
@[go_sem] abbrev vp (F:pI->Ja2->Int->pQ->Int->Bool->pR->Option (pI×Ja0×Int×Int×Int×pR)):Nat×r7:=mE 197 [.p tG [],.v,.v] a1m a1n (a1o F) [(0,3,.m)] []
abbrev a1p (x:(Int×Bool×pI×Ja2×Int×pQ×pR)):List qK:=[rs 0 0,iv x.1,bv x.2.1]
abbrev a1q (x:(Int×Bool×pI×Ja2×Int×pQ×pR)):List qP:=[.cells tG (x.2.2.1,(x.2.2.2.1,(x.2.2.2.2.1,((some 1),x.2.2.2.2.2.1)))) [],.map .str .bool x.2.2.2.2.2.2]
@[go_sem] def a1r (O:pI->Ja2->Int->pQ->Int->Bool->pR->Option (Int×pI×pI×Ja1×Int×Int×Int×pR)):(Int×Bool×pI×Ja2×Int×pQ×pR)->r8:=fun(a8,aA,aB,aC,aD,aE,aF)=>rv [] (O aB aC aD aE a8 aA aF) λz=>([sv sM (z.1,(([]:pI),(z.2.1,(z.2.2.1,(z.2.2.2.1,(([]:List qF),()))))))],[.cells tG (aB,(aC,(z.2.2.2.2.1,((some 1),(z.2.2.2.2.2.1,(z.2.2.2.2.2.2.1,())))))) [],.map .str .bool (z.2.2.2.2.2.2.2)])
@[go_sem] def aMm (O:pI->Ja2->Int->pQ->Int->Bool->pR->Option (Int×pI×pI×Ja1×Int×Int×Int×pR)) a8 aA aB aC aD aE aF:=rF a1p a1q (a1r O) (a8,aA,aB,aC,aD,aE,aF)
@[go_sem] abbrev vq (F:pI->Ja2->Int->pQ->Int->Bool->pR->Option (Int×pI×pI×Ja1×Int×Int×Int×pR)):Nat×r7:=mE 198 [.p tG [],.v,.v] a1p a1q (a1r F) [(0,3,.m)] []
abbrev a1s (x:(Int×Int×Bool×pI×Ja2×Int×pQ×pR)):List qK:=[rs 0 0,iv x.1,iv x.2.1,bv x.2.2.1]
abbrev a1t (x:(Int×Int×Bool×pI×Ja2×Int×pQ×pR)):List qP:=[.cells tG (x.2.2.2.1,(x.2.2.2.2.1,(x.2.2.2.2.2.1,((some 1),x.2.2.2.2.2.2.1)))) [],.map .str .bool x.2.2.2.2.2.2.2]
@[go_sem] def a1u (O:pI->Ja2->Int->pQ->Int->Int->Bool->pR->Option (Ja1×Int×Int×Int×pR)):(Int×Int×Bool×pI×Ja2×Int×pQ×pR)->r8:=fun(a8,aA,aB,aC,aD,aE,aF,aG)=>rv [] (O aC aD aE aF a8 aA aB aG) λz=>([(.val (.list rT) (z.1),some 2)],[.cells tG (aC,(aD,(z.2.1,((some 1),(z.2.2.1,(z.2.2.2.1,())))))) [],.map .str .bool (z.2.2.2.2),.grow 186 2 ((z.1).length)])
@[go_sem] def aMn (O:pI->Ja2->Int->pQ->Int->Int->Bool->pR->Option (Ja1×Int×Int×Int×pR)) a8 aA aB aC aD aE aF aG:=rF a1s a1t (a1u O) (a8,aA,aB,aC,aD,aE,aF,aG)
@[go_sem] abbrev vu (F:pI->Ja2->Int->pQ->Int->Int->Bool->pR->Option (Ja1×Int×Int×Int×pR)):Nat×r7:=mE 256 [.p tG [],.v,.v,.v] a1s a1t (a1u F) [(0,3,.m)] []
section
variable {O:pI->Ja2->Int->pQ->Int->Bool->pR->Option (Ja0×Int×Int×Int×pR)}{a8:pI->Ja2->Int->pQ->Int->Bool->pR->Option (pI×Ja0×Int×Int×Int×pR)}{aA:pI->Ja2->Int->pQ->Int->Bool->pR->Option (Int×pI×pI×Ja1×Int×Int×Int×pR)}{aB:pI->Ja2->Int->pQ->Int->Int->Bool->pR->Option (Ja1×Int×Int×Int×pR)}(hG0:qW prog (fe O)) (hG1:qW prog (vp a8)) (hG2:qW prog (vq aA)) (hG3:qW prog (vu aB))
include hG0 hG1 hG2 hG3
def x9 (aC:pI) (aD:Ja2) (aE:Int) (aF:Bool) (a8:pI->Ja2->Int->pQ->Int->Bool->pR->Option (pI×Ja0×Int×Int×Int×pR)) (aA:pI->Ja2->Int->pQ->Int->Bool->pR->Option (Int×pI×pI×Ja1×Int×Int×Int×pR)):(Ja0×Int×Int×Int×pR)->Option ((Ja0×Int×Int×Int×pR)⊕((Ja0×Int×Int×Int×pR)⊕(Ja0×Int×Int×Int×pR))):=fun(aG,aH,aI,aJ,aK)=>ite (decide (aJ=0)) ((vQ aC aD aH (aI,(aJ,())) aK).bind λaL=>ite (decide (aL=1)) ((sT aC aD aH (aI,(aJ,())) 1 aK).bind λaM=>(T5 aM.1).bind λaN=>ite ((aG.length+([(qF.of (1,(aN.1,(([]:pI),(([]:pI),(([]:List qS),(([]:List qF),())))))))]:List qF).length)*104<=140737488355328) (some (.inl ((aG++([(qF.of (1,(aN.1,(([]:pI),(([]:pI),(([]:List qS),(([]:List qF),())))))))]:List qF)),aM.2.1,aM.2.2.1,aM.2.2.2,aK))) none) (ite (decide (aL=4)) (ite (!aF) ((vR aC aD aH (aI,(aJ,())) 3 aK).bind λaO=>(sT aC aD aH (aO.1,(aO.2,())) 4 aK).bind λaP=>ite ((aG.length+([(qF.of (10,(([]:pI),(([]:pI),(([]:pI),(([]:List qS),(([]:List qF),())))))))]:List qF).length)*104<=140737488355328) (some (.inl ((aG++([(qF.of (10,(([]:pI),(([]:pI),(([]:pI),(([]:List qS),(([]:List qF),())))))))]:List qF)),aP.2.1,aP.2.2.1,aP.2.2.2,aK))) none) ((sT aC aD aH (aI,(aJ,())) 4 aK).bind λaQ=>ite ((aG.length+([(qF.of (10,(([]:pI),(([]:pI),(([]:pI),(([]:List qS),(([]:List qF),())))))))]:List qF).length)*104<=140737488355328) (some (.inl ((aG++([(qF.of (10,(([]:pI),(([]:pI),(([]:pI),(([]:List qS),(([]:List qF),())))))))]:List qF)),aQ.2.1,aQ.2.2.1,aQ.2.2.2,aK))) none)) (ite (decide (aL=7)) (ite (qG (aE+1)) ((EE aC aD aH (aI,(aJ,())) (aE+1) aK).bind λaR=>(sT aC aD aH (aR.1,(aR.2,())) 7 aK).bind λaS=>ite ((aG.length+([(qF.of (11,(([]:pI),(aS.1,(([]:pI),(([]:List qS),(([]:List qF),())))))))]:List qF).length)*104<=140737488355328) (some (.inl ((aG++([(qF.of (11,(([]:pI),(aS.1,(([]:pI),(([]:List qS),(([]:List qF),())))))))]:List qF)),aS.2.1,aS.2.2.1,aS.2.2.2,aK))) none) none) (ite (decide (aL=5)) (ite (qG (aE+1)) ((a8 aC aD aH (aI,(aJ,())) (aE+1) aF aK).bind λaT=>ite ((aG.length+([(qF.of (11,(([]:pI),(aT.1,(([]:pI),(([]:List qS),(aT.2.1,())))))))]:List qF).length)*104<=140737488355328) (some (.inl ((aG++([(qF.of (11,(([]:pI),(aT.1,(([]:pI),(([]:List qS),(aT.2.1,())))))))]:List qF)),aT.2.2.1,aT.2.2.2.1,aT.2.2.2.2.1,aT.2.2.2.2.2))) none) none) (ite (decide (aL=2)) ((aA aC aD aH (aI,(aJ,())) aE aF aK).bind λaU=>ite ((aG.length+([(qF.of (aU.1,(([]:pI),(aU.2.1,(aU.2.2.1,(aU.2.2.2.1,(([]:List qF),())))))))]:List qF).length)*104<=140737488355328) (some (.inl ((aG++([(qF.of (aU.1,(([]:pI),(aU.2.1,(aU.2.2.1,(aU.2.2.2.1,(([]:List qF),())))))))]:List qF)),aU.2.2.2.2.1,aU.2.2.2.2.2.1,aU.2.2.2.2.2.2.1,aU.2.2.2.2.2.2.2))) none) (some (.inr (.inr (aG,aH,aI,aJ,aK))))))))) (some (.inr (.inl (aG,aH,aI,aJ,aK))))
def I6 (O:pI->Ja2->Int->pQ->Int->Bool->pR->Option (Ja0×Int×Int×Int×pR)) (a8:pI->Ja2->Int->pQ->Int->Bool->pR->Option (pI×Ja0×Int×Int×Int×pR)) (aA:pI->Ja2->Int->pQ->Int->Bool->pR->Option (Int×pI×pI×Ja1×Int×Int×Int×pR)) (aB:pI->Ja2->Int->pQ->Int->Int->Bool->pR->Option (Ja1×Int×Int×Int×pR)) (aC:pI) (aD:Ja2) (aV:Int) (aW:pQ) (aE:Int) (aF:Bool) (aX:pR):Option (Ja0×Int×Int×Int×pR):=sK (rC (x9 aC aD aE aF a8 aA) (([]:List qF),aV,aW.1,aW.2.1,aX)) fun(aY,aZ,bA,bB,bC)=>some (aY,aZ,bA,bB,bC)
theorem aFe:qW prog (fe (I6 O a8 aA aB)):=
 rI (rH (qO BA (qO uT (qO zD (qO uY rG)))) (qQ C2 (qQ ED (qQ aDU (qQ EC (qQ SH (qQ hG1 (qQ hG2 rE)))))))) func145 77 [(6,none)] rfl λE ⟨aE,aF,aC,aD,aV,aW,aX⟩=>by
  have u0:= @I6.eq_1;have u1:= @x9.eq_1
  let l1:LE (x9 aC aD aE aF a8 aA):=⟨λx=>⟨[(0,rs 0 0),(1,iv aE),(2,bv aF),(7,(.val (.list .part) x.1,some 2))],[(0,.cells tG (aC,(aD,(x.2.1,((some 1),(x.2.2.1,(x.2.2.2.1,())))))) []),(1,.map .str .bool x.2.2.2.2),(2,.grow 183 6 (x.1.length))],3,77,2⟩⟩
  let x1:XE (x9 aC aD aE aF a8 aA) 0 (Ja0×Int×Int×Int×pR):=⟨λx=>⟨[(7,(.val (.list .part) x.1,some 2))],[(0,.cells tG (aC,(aD,(x.2.1,((some 1),(x.2.2.1,(x.2.2.2.1,())))))) []),(1,.map .str .bool x.2.2.2.2),(2,.grow 183 6 (x.1.length))],3,77,2⟩⟩
  exact rK
def EI (O:pI->Ja2->Int->pQ->Int->Bool->pR->Option (Ja0×Int×Int×Int×pR)) (a8:pI->Ja2->Int->pQ->Int->Bool->pR->Option (pI×Ja0×Int×Int×Int×pR)) (aA:pI->Ja2->Int->pQ->Int->Bool->pR->Option (Int×pI×pI×Ja1×Int×Int×Int×pR)) (aB:pI->Ja2->Int->pQ->Int->Int->Bool->pR->Option (Ja1×Int×Int×Int×pR)) (bD:pI) (bE:Ja2) (bF:Int) (bG:pQ) (bH:Int) (bI:Bool) (bJ:pR):Option (pI×Ja0×Int×Int×Int×pR):=(EE bD bE bF bG bH bJ).bind λbK=>(sT bD bE bF (bK.1,(bK.2,())) 5 bJ).bind λbM=>(O bD bE bM.2.1 (bM.2.2.1,(bM.2.2.2,())) bH bI bJ).bind λbN=>(vQ bD bE bN.2.1 (bN.2.2.1,(bN.2.2.2.1,())) bN.2.2.2.2).bind λbO=>ite (((!decide (bO=6))==false)=true->0<=bN.2.1/\bN.2.1<(bE.length:Int)) (ite ((!decide (bO=6))||(!decide ((qH sN bE bN.2.1).2.1=bM.1))) ((vR bD bE bN.2.1 (bN.2.2.1,(bN.2.2.2.1,())) 3 bN.2.2.2.2).bind λbP=>(sT bD bE bN.2.1 (bP.1,(bP.2,())) 6 bN.2.2.2.2).bind λbQ=>some (bM.1,bN.1,bQ.2.1,bQ.2.2.1,bQ.2.2.2,bN.2.2.2.2)) ((sT bD bE bN.2.1 (bN.2.2.1,(bN.2.2.2.1,())) 6 bN.2.2.2.2).bind λbR=>some (bM.1,bN.1,bR.2.1,bR.2.2.1,bR.2.2.2,bN.2.2.2.2))) none
theorem aFf:qW prog (vp (EI O a8 aA aB)):=
 rI (rH (qO tN (qO rX (qO uT (qO zY (qO zD (qO uY (qO AJ rG))))))) (qQ SH (qQ ED (qQ hG0 (qQ C2 (qQ EC rE)))))) func197 43 [(6,some 183)] rfl λE ⟨bH,bI,bD,bE,bF,bG,bJ⟩=>by
  have u0:= @EI.eq_1;exact rK
def KC (O:pI->Ja2->Int->pQ->Int->Bool->pR->Option (Ja0×Int×Int×Int×pR)) (a8:pI->Ja2->Int->pQ->Int->Bool->pR->Option (pI×Ja0×Int×Int×Int×pR)) (aA:pI->Ja2->Int->pQ->Int->Bool->pR->Option (Int×pI×pI×Ja1×Int×Int×Int×pR)) (aB:pI->Ja2->Int->pQ->Int->Int->Bool->pR->Option (Ja1×Int×Int×Int×pR)) (aC:pI) (aD:Ja2) (aV:Int) (aW:pQ) (aE:Int) (aF:Bool) (aX:pR):Option (Int×pI×pI×Ja1×Int×Int×Int×pR):=(sT aC aD aV aW 2 aX).bind λbS=>(K4 aC aD bS.2.1 (bS.2.2.1,(bS.2.2.2,())) aX).bind λbT=>(vQ aC aD bT.2.1 (bT.2.2.1,(bT.2.2.2.1,())) bT.2.2.2.2).bind λbU=>ite (decide (bU=3)) ((sT aC aD bT.2.1 (bT.2.2.1,(bT.2.2.2.1,())) 3 bT.2.2.2.2).bind λbV=>some (2,bT.1,([]:pI),([]:List qS),bV.2.1,bV.2.2.1,bV.2.2.2,bT.2.2.2.2)) ((sT aC aD bT.2.1 (bT.2.2.1,(bT.2.2.2.1,())) 8 bT.2.2.2.2).bind λbW=>(vQ aC aD bW.2.1 (bW.2.2.1,(bW.2.2.2,())) bT.2.2.2.2).bind λbX=>ite (((decide (bX=9))==true)=true->0<=bW.2.1/\bW.2.1<(aD.length:Int)) (rA (σ:=(Int×Int)) (ite ((bX=9)&&((7<=(sE .str (.int .i64) (rL .str (.int .i64) ([115,101,108,101,99,116]:pI) 9 (rL .str (.int .i64) ([111,114,100,105,110,97,108]:pI) 8 (rL .str (.int .i64) ([112,108,117,114,97,108]:pI) 7 (rL .str (.int .i64) ([108,105,115,116]:pI) 6 (rL .str (.int .i64) ([100,97,116,101]:pI) 5 (rL .str (.int .i64) ([117,110,105,116]:pI) 4 (rL .str (.int .i64) ([110,117,109,98,101,114]:pI) 3 ([]:List (pI×Int))))))))) ((qH sN aD bW.2.1).2.1)))&&((sE .str (.int .i64) (rL .str (.int .i64) ([115,101,108,101,99,116]:pI) 9 (rL .str (.int .i64) ([111,114,100,105,110,97,108]:pI) 8 (rL .str (.int .i64) ([112,108,117,114,97,108]:pI) 7 (rL .str (.int .i64) ([108,105,115,116]:pI) 6 (rL .str (.int .i64) ([100,97,116,101]:pI) 5 (rL .str (.int .i64) ([117,110,105,116]:pI) 4 (rL .str (.int .i64) ([110,117,109,98,101,114]:pI) 3 ([]:List (pI×Int))))))))) ((qH sN aD bW.2.1).2.1))<=9))) (ite (qG (aE+1)) ((EE aC aD bW.2.1 (bW.2.2.1,(bW.2.2.2,())) (aE+1) bT.2.2.2.2).bind λbZ=>some (bZ.1,bZ.2)) none) (some (bW.2.2.1,bW.2.2.2))) fun(c7,c8)=>(EF aC aD bW.2.1 (c7,(c8,())) bT.2.2.2.2 (rL .str (.int .i64) ([115,101,108,101,99,116]:pI) 9 (rL .str (.int .i64) ([111,114,100,105,110,97,108]:pI) 8 (rL .str (.int .i64) ([112,108,117,114,97,108]:pI) 7 (rL .str (.int .i64) ([108,105,115,116]:pI) 6 (rL .str (.int .i64) ([100,97,116,101]:pI) 5 (rL .str (.int .i64) ([117,110,105,116]:pI) 4 (rL .str (.int .i64) ([110,117,109,98,101,114]:pI) 3 ([]:List (pI×Int)))))))))).bind λc9=>ite (!decide (c9.2.2.2=0)) ((sT aC aD c9.2.1 (c9.2.2.1,(c9.2.2.2,())) 3 bT.2.2.2.2).bind λcA=>some ((sE .str (.int .i64) (rL .str (.int .i64) ([115,101,108,101,99,116]:pI) 9 (rL .str (.int .i64) ([111,114,100,105,110,97,108]:pI) 8 (rL .str (.int .i64) ([112,108,117,114,97,108]:pI) 7 (rL .str (.int .i64) ([108,105,115,116]:pI) 6 (rL .str (.int .i64) ([100,97,116,101]:pI) 5 (rL .str (.int .i64) ([117,110,105,116]:pI) 4 (rL .str (.int .i64) ([110,117,109,98,101,114]:pI) 3 ([]:List (pI×Int))))))))) c9.1),bT.1,([]:pI),([]:List qS),cA.2.1,cA.2.2.1,cA.2.2.2,bT.2.2.2.2)) (ite (decide ((sE .str (.int .i64) (rL .str (.int .i64) ([115,101,108,101,99,116]:pI) 9 (rL .str (.int .i64) ([111,114,100,105,110,97,108]:pI) 8 (rL .str (.int .i64) ([112,108,117,114,97,108]:pI) 7 (rL .str (.int .i64) ([108,105,115,116]:pI) 6 (rL .str (.int .i64) ([100,97,116,101]:pI) 5 (rL .str (.int .i64) ([117,110,105,116]:pI) 4 (rL .str (.int .i64) ([110,117,109,98,101,114]:pI) 3 ([]:List (pI×Int))))))))) c9.1)=3)) ((vQ aC aD c9.2.1 (c9.2.2.1,(c9.2.2.2,())) bT.2.2.2.2).bind λcB=>ite (decide (cB=8)) ((sT aC aD c9.2.1 (c9.2.2.1,(c9.2.2.2,())) 8 bT.2.2.2.2).bind λcC=>(D6 aC aD cC.2.1 (cC.2.2.1,(cC.2.2.2,())) bT.2.2.2.2).bind λcD=>(sT aC aD cD.2.1 (cD.2.2.1,(cD.2.2.2,())) 3 bT.2.2.2.2).bind λcE=>some ((sE .str (.int .i64) (rL .str (.int .i64) ([115,101,108,101,99,116]:pI) 9 (rL .str (.int .i64) ([111,114,100,105,110,97,108]:pI) 8 (rL .str (.int .i64) ([112,108,117,114,97,108]:pI) 7 (rL .str (.int .i64) ([108,105,115,116]:pI) 6 (rL .str (.int .i64) ([100,97,116,101]:pI) 5 (rL .str (.int .i64) ([117,110,105,116]:pI) 4 (rL .str (.int .i64) ([110,117,109,98,101,114]:pI) 3 ([]:List (pI×Int))))))))) c9.1),bT.1,cD.1,([]:List qS),cE.2.1,cE.2.2.1,cE.2.2.2,bT.2.2.2.2)) ((sT aC aD c9.2.1 (c9.2.2.1,(c9.2.2.2,())) 3 bT.2.2.2.2).bind λcF=>some ((sE .str (.int .i64) (rL .str (.int .i64) ([115,101,108,101,99,116]:pI) 9 (rL .str (.int .i64) ([111,114,100,105,110,97,108]:pI) 8 (rL .str (.int .i64) ([112,108,117,114,97,108]:pI) 7 (rL .str (.int .i64) ([108,105,115,116]:pI) 6 (rL .str (.int .i64) ([100,97,116,101]:pI) 5 (rL .str (.int .i64) ([117,110,105,116]:pI) 4 (rL .str (.int .i64) ([110,117,109,98,101,114]:pI) 3 ([]:List (pI×Int))))))))) c9.1),bT.1,([]:pI),([]:List qS),cF.2.1,cF.2.2.1,cF.2.2.2,bT.2.2.2.2))) (ite ((7<=(sE .str (.int .i64) (rL .str (.int .i64) ([115,101,108,101,99,116]:pI) 9 (rL .str (.int .i64) ([111,114,100,105,110,97,108]:pI) 8 (rL .str (.int .i64) ([112,108,117,114,97,108]:pI) 7 (rL .str (.int .i64) ([108,105,115,116]:pI) 6 (rL .str (.int .i64) ([100,97,116,101]:pI) 5 (rL .str (.int .i64) ([117,110,105,116]:pI) 4 (rL .str (.int .i64) ([110,117,109,98,101,114]:pI) 3 ([]:List (pI×Int))))))))) c9.1))&&((sE .str (.int .i64) (rL .str (.int .i64) ([115,101,108,101,99,116]:pI) 9 (rL .str (.int .i64) ([111,114,100,105,110,97,108]:pI) 8 (rL .str (.int .i64) ([112,108,117,114,97,108]:pI) 7 (rL .str (.int .i64) ([108,105,115,116]:pI) 6 (rL .str (.int .i64) ([100,97,116,101]:pI) 5 (rL .str (.int .i64) ([117,110,105,116]:pI) 4 (rL .str (.int .i64) ([110,117,109,98,101,114]:pI) 3 ([]:List (pI×Int))))))))) c9.1)<=9)) ((sT aC aD c9.2.1 (c9.2.2.1,(c9.2.2.2,())) 8 bT.2.2.2.2).bind λcG=>ite (qG (aE+1)) ((aB aC aD cG.2.1 (cG.2.2.1,(cG.2.2.2,())) (sE .str (.int .i64) (rL .str (.int .i64) ([115,101,108,101,99,116]:pI) 9 (rL .str (.int .i64) ([111,114,100,105,110,97,108]:pI) 8 (rL .str (.int .i64) ([112,108,117,114,97,108]:pI) 7 (rL .str (.int .i64) ([108,105,115,116]:pI) 6 (rL .str (.int .i64) ([100,97,116,101]:pI) 5 (rL .str (.int .i64) ([117,110,105,116]:pI) 4 (rL .str (.int .i64) ([110,117,109,98,101,114]:pI) 3 ([]:List (pI×Int))))))))) c9.1) (aE+1) aF bT.2.2.2.2).bind λcH=>(sT aC aD cH.2.1 (cH.2.2.1,(cH.2.2.2.1,())) 3 cH.2.2.2.2).bind λcI=>some ((sE .str (.int .i64) (rL .str (.int .i64) ([115,101,108,101,99,116]:pI) 9 (rL .str (.int .i64) ([111,114,100,105,110,97,108]:pI) 8 (rL .str (.int .i64) ([112,108,117,114,97,108]:pI) 7 (rL .str (.int .i64) ([108,105,115,116]:pI) 6 (rL .str (.int .i64) ([100,97,116,101]:pI) 5 (rL .str (.int .i64) ([117,110,105,116]:pI) 4 (rL .str (.int .i64) ([110,117,109,98,101,114]:pI) 3 ([]:List (pI×Int))))))))) c9.1),bT.1,([]:pI),cH.1,cI.2.1,cI.2.2.1,cI.2.2.2,cH.2.2.2.2)) none) ((sT aC aD c9.2.1 (c9.2.2.1,(c9.2.2.2,())) 8 bT.2.2.2.2).bind λcJ=>ite (decide ((sE .str (.int .i64) (rL .str (.int .i64) ([115,101,108,101,99,116]:pI) 9 (rL .str (.int .i64) ([111,114,100,105,110,97,108]:pI) 8 (rL .str (.int .i64) ([112,108,117,114,97,108]:pI) 7 (rL .str (.int .i64) ([108,105,115,116]:pI) 6 (rL .str (.int .i64) ([100,97,116,101]:pI) 5 (rL .str (.int .i64) ([117,110,105,116]:pI) 4 (rL .str (.int .i64) ([110,117,109,98,101,114]:pI) 3 ([]:List (pI×Int))))))))) c9.1)=5)) ((D7 aC aD cJ.2.1 (cJ.2.2.1,(cJ.2.2.2,())) bT.2.2.2.2).bind λcK=>(sT aC aD cK.2.1 (cK.2.2.1,(cK.2.2.2,())) 3 bT.2.2.2.2).bind λcL=>some ((sE .str (.int .i64) (rL .str (.int .i64) ([115,101,108,101,99,116]:pI) 9 (rL .str (.int .i64) ([111,114,100,105,110,97,108]:pI) 8 (rL .str (.int .i64) ([112,108,117,114,97,108]:pI) 7 (rL .str (.int .i64) ([108,105,115,116]:pI) 6 (rL .str (.int .i64) ([100,97,116,101]:pI) 5 (rL .str (.int .i64) ([117,110,105,116]:pI) 4 (rL .str (.int .i64) ([110,117,109,98,101,114]:pI) 3 ([]:List (pI×Int))))))))) c9.1),bT.1,cK.1,([]:List qS),cL.2.1,cL.2.2.1,cL.2.2.2,bT.2.2.2.2)) ((C5 aC aD cJ.2.1 (cJ.2.2.1,(cJ.2.2.2,())) bT.2.2.2.2).bind λcN=>(sT aC aD cN.2.1 (cN.2.2.1,(cN.2.2.2,())) 3 bT.2.2.2.2).bind λcO=>some ((sE .str (.int .i64) (rL .str (.int .i64) ([115,101,108,101,99,116]:pI) 9 (rL .str (.int .i64) ([111,114,100,105,110,97,108]:pI) 8 (rL .str (.int .i64) ([112,108,117,114,97,108]:pI) 7 (rL .str (.int .i64) ([108,105,115,116]:pI) 6 (rL .str (.int .i64) ([100,97,116,101]:pI) 5 (rL .str (.int .i64) ([117,110,105,116]:pI) 4 (rL .str (.int .i64) ([110,117,109,98,101,114]:pI) 3 ([]:List (pI×Int))))))))) c9.1),bT.1,cN.1,([]:List qS),cO.2.1,cO.2.2.1,cO.2.2.2,bT.2.2.2.2)))))) none)
theorem aFg:qW prog (vq (KC O a8 aA aB)):=
 rI (rH (qO tN (qO rX (qO BA (qO zY (qO zD (qO yK (qO uY (qO AJ (qO MT rG))))))))) (qQ ED (qQ ew (qQ C2 (qQ WJ (qQ F4 (qQ SH (qQ aDa (qQ hG3 rE))))))))) func198 100 [(6,some 183)] rfl λE ⟨aE,aF,aC,aD,aV,aW,aX⟩=>by
  have u0:= @KC.eq_1
  let j1 (bW:(pI×Int×Int×Int)) (bT:(pI×Int×Int×Int×pR)):JE 43 (Int×Int):=⟨λx=>⟨[(0,rs 0 0),(1,iv aE),(2,bv aF),(6,rs 2 0),(7,rs 3 0),(8,rs 4 0),(9,sv .clo (some (253,[(4,0)])))],[(0,.cells tG (aC,(aD,(bW.2.1,((some 1),(x.1,(x.2,())))))) []),(1,.map .str .bool bT.2.2.2.2),(2,.cells sM (0,(([]:pI),(([]:pI),(([]:pI),(([]:List qS),(([]:List qF),())))))) [(4,5),(5,6)]),(3,.cells sM (2,(([]:pI),(bT.1,(([]:pI),(([]:List qS),(([]:List qF),())))))) [(4,7),(5,8)]),(4,.cells .mp (some 9) []),(5,.grow 186 2 (([]:List qS).length)),(6,.grow 183 6 (([]:List qF).length)),(7,.grow 186 2 (([]:List qS).length)),(8,.grow 183 6 (([]:List qF).length)),(9,.map .str (.int .i64) (rL .str (.int .i64) ([115,101,108,101,99,116]:pI) 9 (rL .str (.int .i64) ([111,114,100,105,110,97,108]:pI) 8 (rL .str (.int .i64) ([112,108,117,114,97,108]:pI) 7 (rL .str (.int .i64) ([108,105,115,116]:pI) 6 (rL .str (.int .i64) ([100,97,116,101]:pI) 5 (rL .str (.int .i64) ([117,110,105,116]:pI) 4 (rL .str (.int .i64) ([110,117,109,98,101,114]:pI) 3 ([]:List (pI×Int))))))))))],10,100,2⟩⟩
  have E2:=(rH (qO tN (qO rX (qO BA (qO zY (qO zD (qO yK (qO uY (qO AJ (qO MT rG))))))))) (qQ ED (qQ ew (qQ C2 (qQ WJ (qQ F4 (qQ SH (qQ aDv (qQ hG3 rE)))))))));have E3:=(rH (qO tN (qO rX (qO BA (qO zY (qO zD (qO yK (qO uY (qO AJ (qO MT rG))))))))) (qQ ED (qQ ew (qQ C2 (qQ WJ (qQ F4 (qQ SH (qQ hG3 (qQ aDx rE)))))))));have E4:=(rH (qO tN (qO rX (qO BA (qO zY (qO zD (qO yK (qO uY (qO AJ (qO MT rG))))))))) (qQ ED (qQ ew (qQ C2 (qQ WJ (qQ F4 (qQ SH (qQ hG3 (qQ Wy rE)))))))));exact rK
def C7 (aC:pI) (aD:Ja2) (aE:Int) (aF:Int) (cP:Bool) (O:pI->Ja2->Int->pQ->Int->Bool->pR->Option (Ja0×Int×Int×Int×pR)):(Ja1×Bool×Int×Int×Int×pR×pR)->Option ((Ja1×Bool×Int×Int×Int×pR×pR)⊕(Ja1×Int×Int×Int×pR×pR)):=fun(cQ,cS,cT,cU,cV,cW,cX)=>ite (cS==false) (ite ((cS==false)=true->(vQ aC aD cT (cU,(cV,())) cW).isSome=true) (ite (cS||((val (vQ aC aD cT (cU,(cV,())) cW))=9)) ((vQ aC aD cT (cU,(cV,())) cW).bind λcY=>ite (((decide (cY=9))==true)=true->0<=cT/\cT<(aD.length:Int)) (ite (((decide (cY=9))==true)=true->(D9 aE ((qH sN aD cT).2.1)).isSome=true) (rA (σ:=(Int×Int)) (ite ((cY=9)&&(val (D9 aE ((qH sN aD cT).2.1)))) (rA (σ:=(Int×Int)) (ite (decide (20<=(cQ.length:Int))) ((vR aC aD cT (cU,(cV,())) 6 cW).bind λcZ=>some (cZ.1,cZ.2)) (some (cU,cV))) fun(d5,d6)=>ite (0<=cT/\cT<(aD.length:Int)) (ite (sE .str .bool cX ((qH sN aD cT).2.1)) ((vR aC aD cT (d5,(d6,())) 9 cW).bind λd7=>some (d7.1,d7.2)) (some (d5,d6))) none) (some (cU,cV))) fun(d9,dA)=>(EH aC aD cT (d9,(dA,())) aE cW).bind λdB=>(sT aC aD dB.2.1 (dB.2.2.1,(dB.2.2.2,())) 2 cW).bind λdC=>(O aC aD dC.2.1 (dC.2.2.1,(dC.2.2.2,())) aF (cP||(!decide (aE=9))) cW).bind λdD=>(sT aC aD dD.2.1 (dD.2.2.1,(dD.2.2.2.1,())) 3 dD.2.2.2.2).bind λdE=>ite ((cQ.length+([(dB.1,(dD.1,()))]:List qS).length)*40<=140737488355328) (some (.inl ((cQ++([(dB.1,(dD.1,()))]:List qS)),false,dE.2.1,dE.2.2.1,dE.2.2.2,dD.2.2.2.2,(rL .str .bool dB.1 true cX)))) none) none) none) (some (.inr (cQ,cT,cU,cV,cW,cX)))) none) (ite true ((vQ aC aD cT (cU,(cV,())) cW).bind λdF=>ite (((decide (dF=9))==true)=true->0<=cT/\cT<(aD.length:Int)) (ite (((decide (dF=9))==true)=true->(D9 aE ((qH sN aD cT).2.1)).isSome=true) (rA (σ:=(Int×Int)) (ite ((dF=9)&&(val (D9 aE ((qH sN aD cT).2.1)))) (rA (σ:=(Int×Int)) (ite (decide (20<=(cQ.length:Int))) ((vR aC aD cT (cU,(cV,())) 6 cW).bind λdG=>some (dG.1,dG.2)) (some (cU,cV))) fun(dI,dJ)=>ite (0<=cT/\cT<(aD.length:Int)) (ite (sE .str .bool cX ((qH sN aD cT).2.1)) ((vR aC aD cT (dI,(dJ,())) 9 cW).bind λdK=>some (dK.1,dK.2)) (some (dI,dJ))) none) (some (cU,cV))) fun(dL,dM)=>(EH aC aD cT (dL,(dM,())) aE cW).bind λdN=>(sT aC aD dN.2.1 (dN.2.2.1,(dN.2.2.2,())) 2 cW).bind λdO=>(O aC aD dO.2.1 (dO.2.2.1,(dO.2.2.2,())) aF (cP||(!decide (aE=9))) cW).bind λdP=>(sT aC aD dP.2.1 (dP.2.2.1,(dP.2.2.2.1,())) 3 dP.2.2.2.2).bind λdQ=>ite ((cQ.length+([(dN.1,(dP.1,()))]:List qS).length)*40<=140737488355328) (some (.inl ((cQ++([(dN.1,(dP.1,()))]:List qS)),false,dQ.2.1,dQ.2.2.1,dQ.2.2.2,dP.2.2.2.2,(rL .str .bool dN.1 true cX)))) none) none) none) (some (.inr (cQ,cT,cU,cV,cW,cX))))
def I7 (O:pI->Ja2->Int->pQ->Int->Bool->pR->Option (Ja0×Int×Int×Int×pR)) (a8:pI->Ja2->Int->pQ->Int->Bool->pR->Option (pI×Ja0×Int×Int×Int×pR)) (aA:pI->Ja2->Int->pQ->Int->Bool->pR->Option (Int×pI×pI×Ja1×Int×Int×Int×pR)) (aB:pI->Ja2->Int->pQ->Int->Int->Bool->pR->Option (Ja1×Int×Int×Int×pR)) (aC:pI) (aD:Ja2) (aV:Int) (aW:pQ) (aE:Int) (aF:Int) (cP:Bool) (dR:pR):Option (Ja1×Int×Int×Int×pR):=rA (rC (C7 aC aD aE aF cP O) (([]:List qS),true,aV,aW.1,aW.2.1,dR,([]:pR))) fun(dT,dU,dV,dW,dX,dY)=>(vQ aC aD dU (dV,(dW,())) dX).bind λdZ=>ite ((dZ=3)&&(!(sE .str .bool dY ([111,116,104,101,114]:pI)))) ((vR aC aD dU (dV,(dW,())) 13 dX).bind λe8=>some (dT,dU,e8.1,e8.2,dX)) (some (dT,dU,dV,dW,dX))
theorem aFh:qW prog (vu (I7 O a8 aA aB)):=
 rI (rH (qO tN (qO FV (qO rX (qO MW (qO uT (qO zY (qO zD (qO yK (qO AK (qO AJ rG)))))))))) (qQ C2 (qQ vj (qQ EC (qQ aEX (qQ ED (qQ hG0 rE))))))) func256 93 [(8,none)] rfl λE ⟨aE,aF,cP,aC,aD,aV,aW,dR⟩=>by
  have u0:= @I7.eq_1;have u1:= @C7.eq_1
  let l1:LE (C7 aC aD aE aF cP O):=⟨λx=>⟨[(0,rs 0 0),(2,iv aF),(3,bv cP),(5,rs 2 0),(9,(.val (.list rT) x.1,some 3)),(10,sv .mp (some 4)),(11,bv x.2.1)],[(0,.cells tG (aC,(aD,(x.2.2.1,((some 1),(x.2.2.2.1,(x.2.2.2.2.1,())))))) []),(1,.map .str .bool x.2.2.2.2.2.1),(2,.cells (.int .i64) aE []),(3,.grow 186 2 (x.1.length)),(4,.map .str .bool x.2.2.2.2.2.2)],5,93,2⟩⟩
  let j1 cQ cY cT cW cX:JE 37 (Int×Int):=⟨λx=>⟨[(0,rs 0 0),(2,iv aF),(3,bv cP),(5,rs 2 0),(9,(.val (.list rT) cQ,some 3)),(10,sv .mp (some 4)),(17,iv cY)],[(0,.cells tG (aC,(aD,(cT,((some 1),(x.1,(x.2,())))))) []),(1,.map .str .bool cW),(2,.cells (.int .i64) aE []),(3,.grow 186 2 (cQ.length)),(4,.map .str .bool cX)],5,93,2⟩⟩
  let j2 cQ cY cT cW cX:JE 40 (Int×Int):=⟨λx=>⟨[(0,rs 0 0),(2,iv aF),(3,bv cP),(5,rs 2 0),(9,(.val (.list rT) cQ,some 3)),(10,sv .mp (some 4)),(17,iv cY)],[(0,.cells tG (aC,(aD,(cT,((some 1),(x.1,(x.2,())))))) []),(1,.map .str .bool cW),(2,.cells (.int .i64) aE []),(3,.grow 186 2 (cQ.length)),(4,.map .str .bool cX)],5,93,2⟩⟩
  let j3 cQ cT cW cX:JE 37 (Int×Int):=⟨λx=>⟨[(0,rs 0 0),(2,iv aF),(3,bv cP),(5,rs 2 0),(9,(.val (.list rT) cQ,some 3)),(10,sv .mp (some 4))],[(0,.cells tG (aC,(aD,(cT,((some 1),(x.1,(x.2,())))))) []),(1,.map .str .bool cW),(2,.cells (.int .i64) aE []),(3,.grow 186 2 (cQ.length)),(4,.map .str .bool cX)],5,93,2⟩⟩
  let j4 cQ cT cW cX:JE 40 (Int×Int):=⟨λx=>⟨[(0,rs 0 0),(2,iv aF),(3,bv cP),(5,rs 2 0),(9,(.val (.list rT) cQ,some 3)),(10,sv .mp (some 4))],[(0,.cells tG (aC,(aD,(cT,((some 1),(x.1,(x.2,())))))) []),(1,.map .str .bool cW),(2,.cells (.int .i64) aE []),(3,.grow 186 2 (cQ.length)),(4,.map .str .bool cX)],5,93,2⟩⟩
  let x1:XE (C7 aC aD aE aF cP O) 0 (Ja1×Int×Int×Int×pR×pR):=⟨λx=>⟨[(0,rs 0 0),(9,(.val (.list rT) x.1,some 2)),(10,sv .mp (some 3))],[(0,.cells tG (aC,(aD,(x.2.1,((some 1),(x.2.2.1,(x.2.2.2.1,())))))) []),(1,.map .str .bool x.2.2.2.2.1),(2,.grow 186 2 (x.1.length)),(3,.map .str .bool x.2.2.2.2.2)],4,93,2⟩⟩
  let s1:pX:=[1000000002]
  exact rK
end
def aFi (p:(pI->Ja2->Int->pQ->Int->Bool->pR->Option (Ja0×Int×Int×Int×pR))×(pI->Ja2->Int->pQ->Int->Bool->pR->Option (pI×Ja0×Int×Int×Int×pR))×(pI->Ja2->Int->pQ->Int->Bool->pR->Option (Int×pI×pI×Ja1×Int×Int×Int×pR))×(pI->Ja2->Int->pQ->Int->Int->Bool->pR->Option (Ja1×Int×Int×Int×pR))):(pI->Ja2->Int->pQ->Int->Bool->pR->Option (Ja0×Int×Int×Int×pR))×(pI->Ja2->Int->pQ->Int->Bool->pR->Option (pI×Ja0×Int×Int×Int×pR))×(pI->Ja2->Int->pQ->Int->Bool->pR->Option (Int×pI×pI×Ja1×Int×Int×Int×pR))×(pI->Ja2->Int->pQ->Int->Int->Bool->pR->Option (Ja1×Int×Int×Int×pR)):=(I6 p.1 p.2.1 p.2.2.1 p.2.2.2,EI p.1 p.2.1 p.2.2.1 p.2.2.2,KC p.1 p.2.1 p.2.2.1 p.2.2.2,I7 p.1 p.2.1 p.2.2.1 p.2.2.2)
def TO (n:Nat):(pI->Ja2->Int->pQ->Int->Bool->pR->Option (Ja0×Int×Int×Int×pR))×(pI->Ja2->Int->pQ->Int->Bool->pR->Option (pI×Ja0×Int×Int×Int×pR))×(pI->Ja2->Int->pQ->Int->Bool->pR->Option (Int×pI×pI×Ja1×Int×Int×Int×pR))×(pI->Ja2->Int->pQ->Int->Int->Bool->pR->Option (Ja1×Int×Int×Int×pR)):=Nat.rec (motive:=λ_=>(pI->Ja2->Int->pQ->Int->Bool->pR->Option (Ja0×Int×Int×Int×pR))×(pI->Ja2->Int->pQ->Int->Bool->pR->Option (pI×Ja0×Int×Int×Int×pR))×(pI->Ja2->Int->pQ->Int->Bool->pR->Option (Int×pI×pI×Ja1×Int×Int×Int×pR))×(pI->Ja2->Int->pQ->Int->Int->Bool->pR->Option (Ja1×Int×Int×Int×pR))) ((λ_ _ _ _ _ _ _=>none),(λ_ _ _ _ _ _ _=>none),(λ_ _ _ _ _ _ _=>none),(λ_ _ _ _ _ _ _ _=>none)) (λ_ p=>aFi p) n
theorem a1v: ∀n:Nat,qW prog (fe (TO n).1)/\qW prog (vp (TO n).2.1)/\qW prog (vq (TO n).2.2.1)/\qW prog (vu (TO n).2.2.2)
 |0=>⟨uX,uX,uX,uX⟩
 |n+1=>have h:=a1v n;⟨aFe h.1 h.2.1 h.2.2.1 h.2.2.2,aFf h.1 h.2.1 h.2.2.1 h.2.2.2,aFg h.1 h.2.1 h.2.2.1 h.2.2.2,aFh h.1 h.2.1 h.2.2.1 h.2.2.2⟩
def KD:pI->Ja2->Int->pQ->Int->Bool->pR->Option (Ja0×Int×Int×Int×pR):=(TO 1000).1
@[go_sem] abbrev aFj:Nat×r7:=fe KD
theorem aFk:qW prog aFj:=(a1v 1000).1
theorem a3I:KD=(TO 1000).1:=rfl
attribute [irreducible] I6 EI KC I7 KD
end
noncomputable section
def TP (O:w7):Option Unit:=ite ((((!decide (O.1=([]:pI)))&&((O.1.length:Int)<=200))==true)=true->(G9 O.1).isSome=true) (ite (((((!decide (O.1=([]:pI)))&&((O.1.length:Int)<=200))&&(((O.1.length:Int)<=4000)&&(val (v6 O.1))))==true)=true->(G9 O.2.1).isSome=true) (ite ((((((!decide (O.1=([]:pI)))&&((O.1.length:Int)<=200))&&(((O.1.length:Int)<=4000)&&(val (v6 O.1))))&&(((O.2.1.length:Int)<=4000)&&(val (v6 O.2.1))))==true)=true->(G9 O.2.2.1).isSome=true) (ite (((((((!decide (O.1=([]:pI)))&&((O.1.length:Int)<=200))&&(((O.1.length:Int)<=4000)&&(val (v6 O.1))))&&(((O.2.1.length:Int)<=4000)&&(val (v6 O.2.1))))&&(((O.2.2.1.length:Int)<=4000)&&(val (v6 O.2.2.1))))==true)=true->(C6 O.2.2.2.1).isSome=true) (ite ((((((((!decide (O.1=([]:pI)))&&((O.1.length:Int)<=200))&&(((O.1.length:Int)<=4000)&&(val (v6 O.1))))&&(((O.2.1.length:Int)<=4000)&&(val (v6 O.2.1))))&&(((O.2.2.1.length:Int)<=4000)&&(val (v6 O.2.2.1))))&&(val (C6 O.2.2.2.1)))==true)=true->(G5 O.2.2.2.2.1).isSome=true) (ite (((((((((((!decide (O.1=([]:pI)))&&((O.1.length:Int)<=200))&&(((O.1.length:Int)<=4000)&&(val (v6 O.1))))&&(((O.2.1.length:Int)<=4000)&&(val (v6 O.2.1))))&&(((O.2.2.1.length:Int)<=4000)&&(val (v6 O.2.2.1))))&&(val (C6 O.2.2.2.1)))&&(val (G5 O.2.2.2.2.1)))&&(0<=O.2.2.2.2.2.1))&&(O.2.2.2.2.2.1<=4))==true)=true->(FA O.2.2.2.2.2.2.1).isSome=true) (some (())) none) none) none) none) none) none
abbrev a1w (x:w7):List qK:=[sv tJ x]
@[go_sem] def a1x:w7->r8:=λO=>rv [] (TP O) λz=>([bv ((((((((((!decide (O.1=([]:pI)))&&((O.1.length:Int)<=200))&&(((O.1.length:Int)<=4000)&&(val (v6 O.1))))&&(((O.2.1.length:Int)<=4000)&&(val (v6 O.2.1))))&&(((O.2.2.1.length:Int)<=4000)&&(val (v6 O.2.2.1))))&&(val (C6 O.2.2.2.1)))&&(val (G5 O.2.2.2.2.1)))&&(0<=O.2.2.2.2.2.1))&&(O.2.2.2.2.2.1<=4))&&(val (FA O.2.2.2.2.2.2.1)))],[])
@[go_sem] def aMo O:=rF a1w qU a1x O
@[go_sem] abbrev aFl:Nat×r7:=mE 50 [.v] a1w qU a1x
def aFm:qW prog aFl:=
 rI (rH (qO tN (qO rX (qO vC (qO D3 (qO D2 rG))))) (qQ vh (qQ a0Z (qQ aCx (qQ a02 rE))))) func50 52 [(2,none)] rfl λE O=>by
  have u0:= @TP.eq_1;exact rK
def P8 (O:pI) (a8:Bool):Option (Ja0×Int×Int×Int×Int):=(P3 O).bind λaA=>ite (decide (aA.2.2=6)) (some (([]:List qF),4000,0,0,aA.2.2)) (rA (σ:=(Int×Int×Ja0)) (ite (decide (aA.2.2=0)) ((KD O aA.1 0 (0,(0,())) 0 a8 ([]:pR)).bind λaB=>ite (decide (aB.2.1<(aA.1.length:Int))) ((vR O aA.1 aB.2.1 (aB.2.2.1,(aB.2.2.2.1,())) 3 aB.2.2.2.2).bind λaC=>some (aC.1,aC.2,aB.1)) (some (aB.2.2.1,aB.2.2.2.1,aB.1))) (some (aA.2.1,aA.2.2,([]:List qF)))) fun(aD,aE,aF)=>ite (!decide (aE=0)) (ite (O.length<=4611686018427387904) (VY (cj O aD) λaG=>some (([]:List qF),aG.1.1,aG.1.2.1,aG.1.2.2.1,aE)) none) ((JZ aF).bind λaH=>ite (decide (4000<aH)) (some (([]:List qF),0,0,0,6)) (some (aF,0,0,0,0))))
abbrev a1y (x:(pI×Bool)):List qK:=[tv x.1,bv x.2]
@[go_sem] def a1z:(pI×Bool)->r8:=fun(O,a8)=>rv [] (P8 O a8) λz=>([(.val (.list .part) (z.1),some 0),sv E8 (z.2.1,(z.2.2.1,(z.2.2.2.1,()))),iv (z.2.2.2.2)],[.grow 183 6 ((z.1).length)])
@[go_sem] def aMp O a8:=rF a1y qU a1z (O,a8)
@[go_sem] abbrev aFn:Nat×r7:=mE 105 [.v,.v] a1y qU a1z
def aFo:qW prog aFn:=
 rI (rH (qO tN (qO FV (qO rX (qO BA (qO MW (qO uT (qO HJ (qO zY (qO zD rG))))))))) (qQ aEZ (qQ aFk (qQ EC (qQ aAy (qQ Vt rE)))))) func105 67 [(4,none),(5,some 90),(6,none)] rfl λE ⟨O,a8⟩=>by
  have u0:= @P8.eq_1
  let j1:JE 25 (Int×Int×Ja0):=⟨λx=>⟨[(0,tv O),(5,rs 0 0),(8,iv x.1),(9,iv x.2.1),(10,(.val (.list .part) x.2.2,some 1))],[(0,.cells E8 (0,(0,(0,()))) []),(1,.grow 183 6 (x.2.2.length))],2,67,0⟩⟩
  exact rK
def KE (O:Ja0):Option Bool:=(P7 O false).bind λa8=>some (a8)
abbrev a1A (x:Ja0):List qK:=[sv (.list .part) x]
@[go_sem] def a1B:Ja0->r8:=λO=>rv [] (KE O) λz=>([bv z],[])
@[go_sem] def aMq O:=rF a1A qU a1B O
@[go_sem] abbrev a1C:Nat×r7:=mE 106 [.v] a1A qU a1B
def vw:qW prog a1C:=
 rI (rH rG (qQ a1d rE)) func106 5 [(2,none)] rfl λE O=>by
  have u0:= @KE.eq_1;exact rK
def TQ (O:Ja0):Option Bool:=(P7 O true).bind λa8=>some (a8)
abbrev a1D (x:Ja0):List qK:=[sv (.list .part) x]
@[go_sem] def a1E:Ja0->r8:=λO=>rv [] (TQ O) λz=>([bv z],[])
@[go_sem] def aMr O:=rF a1D qU a1E O
@[go_sem] abbrev aFp:Nat×r7:=mE 137 [.v] a1D qU a1E
def aFq:qW prog aFp:=
 rI (rH rG (qQ a1d rE)) func137 5 [(2,none)] rfl λE O=>by
  have u0:= @TQ.eq_1;exact rK
def TR (O:Ja0):Option (Ja1×Int):=(KE O).bind λa8=>ite (!a8) (some (([]:List qS),1)) ((SY O ([]:pI)).bind λaA=>some (aA,0))
abbrev vz (x:Ja0):List qK:=[sv (.list .part) x]
@[go_sem] def wa:Ja0->r8:=λO=>rv [] (TR O) λz=>([(.val (.list rT) (z.1),some 0),iv (z.2)],[.grow 128 2 ((z.1).length)])
@[go_sem] def aMs O:=rF vz qU wa O
@[go_sem] abbrev aFr:Nat×r7:=mE 98 [.v] vz qU wa
def XB:vP prog [tt] (AE [a1C,Xr]):=⟨⟨WD,trivial⟩,qQ vw (qQ aDH rE),FW⟩
def aFs:qW prog aFr:=by
 refine MF XB func98 (c:=_) rfl (N:=9) qA (ts:=[(2,none),(3,none)]) rfl (λ_ _=>rfl) ?_;intro O hs hrow;dsimp only[vz,qU,wa,rv,rJ,BW,sZ,w4,uU,BX,Nat.reduceAdd] at hs hrow|-;have hz:=hs;obtain⟨z0,d⟩:=aNT.1 hz
 try rw[JG d]
 clear hz hs;unfold TR at d;refine s6 XB ?_;refine tF ?_;obtain⟨a8,hv1,hw1,d⟩:=xR d
 try simp only[go_sem] at hw1
 refine s6 XB ?_ (hp:=by exact(xQ hv1)) (h:=by simp only[go_sem,hw1];rfl);refine uS d ?_ ?_<;>intro d Z
 .refine s6 XB ?_;refine B8 (VV ?_);cases d;exact pK [(0,160)]
 refine uW (sS ?_);obtain⟨aA,hv2,hw2,d⟩:=xR d
 try simp only[go_sem] at hw2
 refine s6 (a8K 124 XB) ?_ (hp:=by exact(xQ hv2)) (h:=by simp only[go_sem,hw2];rfl);refine B8 ?_;cases d;exact pK [(0,192)]
def P9 (O:uC):Int->Option (Int⊕(Unit⊕Bool)):=λa8=>ite (decide (a8<(O.2.2.2.1.length:Int))) (ite (0<=a8/\a8<(O.2.2.2.1.length:Int)) ((RX O ((qH tJ O.2.2.2.1 a8).1)).bind λaA=>ite (((!decide (aA.1=a8))==false)=true->0<=a8/\a8<(O.2.2.2.1.length:Int)) (ite (((!decide (aA.1=a8))==false)=true->(TP (qH tJ O.2.2.2.1 a8)).isSome=true) (ite ((!decide (aA.1=a8))||(!((((((((((!decide (((qH tJ O.2.2.2.1 a8).1)=([]:pI)))&&((((qH tJ O.2.2.2.1 a8).1).length:Int)<=200))&&(((((qH tJ O.2.2.2.1 a8).1).length:Int)<=4000)&&(val (v6 ((qH tJ O.2.2.2.1 a8).1)))))&&(((((qH tJ O.2.2.2.1 a8).2.1).length:Int)<=4000)&&(val (v6 ((qH tJ O.2.2.2.1 a8).2.1)))))&&(((((qH tJ O.2.2.2.1 a8).2.2.1).length:Int)<=4000)&&(val (v6 ((qH tJ O.2.2.2.1 a8).2.2.1)))))&&(val (C6 ((qH tJ O.2.2.2.1 a8).2.2.2.1))))&&(val (G5 ((qH tJ O.2.2.2.1 a8).2.2.2.2.1))))&&(0<=((qH tJ O.2.2.2.1 a8).2.2.2.2.2.1)))&&(((qH tJ O.2.2.2.1 a8).2.2.2.2.2.1)<=4))&&(val (FA ((qH tJ O.2.2.2.1 a8).2.2.2.2.2.2.1)))))) (some (.inr (.inr (false)))) (ite (qG (a8+1)) (some (.inl (a8+1))) none)) none) none) none) (some (.inr (.inl ())))
def TS (O:uC):Option Bool:=(TN O).bind λa8=>ite ((!a8)||(1000<(O.2.2.2.1.length:Int))) (some (false)) (sK (rC (P9 O) 0) λ_=>some (true))
abbrev a1F (x:uC):List qK:=[sv wE x]
@[go_sem] def a1G:uC->r8:=λO=>rv [] (TS O) λz=>([bv z],[])
@[go_sem] def aMt O:=rF a1F qU a1G O
@[go_sem] abbrev aFt:Nat×r7:=mE 26 [.v] a1F qU a1G
def aFu:qW prog aFt:=
 rI (rH (qO rX (qO JL (qO E9 (qO D2 rG)))) (qQ aFc (qQ aAE (qQ aFm rE)))) func26 45 [(2,none)] rfl λE O=>by
  have u0:= @TS.eq_1;have u1:= @P9.eq_1
  let l1:LE (P9 O):=⟨λx=>⟨[(1,rs 0 0),(3,iv x)],[(0,.cells wE O [])],1,45,0⟩⟩
  let x1:XE (P9 O) 0 Unit:=⟨λ_=>⟨[],[],0,45,0⟩⟩
  exact rK
def XC (O:pI):Option (pI×Int):=(KB O).bind λa8=>ite (!decide (a8.2.2.2.2=0)) (some (([]:pI),a8.2.2.2.2)) ((P2 a8.1).bind λaA=>some (aA.1,aA.2))
abbrev a1H (x:pI):List qK:=[tv x]
@[go_sem] def a1I:pI->r8:=λO=>rv [] (XC O) λz=>([tv (z.1),iv (z.2)],[])
@[go_sem] def aMu O:=rF a1H qU a1I O
@[go_sem] abbrev aFv:Nat×r7:=mE 39 [.v] a1H qU a1I
def aFw:qW prog aFv:=
 rI (rH (qO HJ rG) (qQ a1i (qQ a0R rE))) func39 20 [(2,none),(3,none)] rfl λE O=>by
  have u0:= @XC.eq_1;exact rK
def KF (O:pI):Option (Ja0×Int×Int×Int×Int):=(P8 O false).bind λa8=>some (a8.1,a8.2.1,a8.2.2.1,a8.2.2.2.1,a8.2.2.2.2)
abbrev a1J (x:pI):List qK:=[tv x]
@[go_sem] def a1K:pI->r8:=λO=>rv [] (KF O) λz=>([(.val (.list .part) (z.1),some 0),sv E8 (z.2.1,(z.2.2.1,(z.2.2.2.1,()))),iv (z.2.2.2.2)],[.grow 183 6 ((z.1).length)])
@[go_sem] def aMv O:=rF a1J qU a1K O
@[go_sem] abbrev aFx:Nat×r7:=mE 66 [.v] a1J qU a1K
def a1L:qW prog aFx:=
 rI (rH (qO uT (qO HJ rG)) (qQ aFo rE)) func66 10 [(2,none),(3,some 90),(4,none)] rfl λE O=>by
  have u0:= @KF.eq_1;exact rK
def PA (O:Ja0):Option (pI×Int):=(KE O).bind λa8=>ite (!a8) (some (([]:pI),1)) ((OH O).bind λaA=>some (aA,0))
abbrev a1M (x:Ja0):List qK:=[sv (.list .part) x]
@[go_sem] def a1N:Ja0->r8:=λO=>rv [] (PA O) λz=>([tv (z.1),iv (z.2)],[])
@[go_sem] def aMw O:=rF a1M qU a1N O
@[go_sem] abbrev aFy:Nat×r7:=mE 67 [.v] a1M qU a1N
def a1O:qW prog aFy:=
 rI (rH rG (qQ vw (qQ Xe rE))) func67 9 [(2,none),(3,none)] rfl λE O=>by
  have u0:= @PA.eq_1;exact rK
def TT (O:Ja0):Option (Ja0×Int):=(KE O).bind λa8=>ite (!a8) (some (([]:List qF),1)) ((X2 O).bind λaA=>some (aA,0))
abbrev a1P (x:Ja0):List qK:=[sv (.list .part) x]
@[go_sem] def a1Q:Ja0->r8:=λO=>rv [] (TT O) λz=>([(.val (.list .part) (z.1),some 0),iv (z.2)],[.grow 183 6 ((z.1).length)])
@[go_sem] def aMx O:=rF a1P qU a1Q O
@[go_sem] abbrev aFz:Nat×r7:=mE 97 [.v] a1P qU a1Q
def aFA:qW prog aFz:=
 rI (rH (qO uT rG) (qQ vw (qQ aDh rE))) func97 9 [(2,none),(3,none)] rfl λE O=>by
  have u0:= @TT.eq_1;exact rK
def TU (O:Ja0):Option (pI×Int):=(TQ O).bind λa8=>ite (!a8) (some (([]:pI),1)) ((OH O).bind λaA=>some (aA,0))
abbrev a1R (x:Ja0):List qK:=[sv (.list .part) x]
@[go_sem] def a1S:Ja0->r8:=λO=>rv [] (TU O) λz=>([tv (z.1),iv (z.2)],[])
@[go_sem] def aMy O:=rF a1R qU a1S O
@[go_sem] abbrev aFB:Nat×r7:=mE 99 [.v] a1R qU a1S
def aFC:qW prog aFB:=
 rI (rH rG (qQ aFq (qQ Xe rE))) func99 9 [(2,none),(3,none)] rfl λE O=>by
  have u0:= @TU.eq_1;exact rK
def KG (O:pI):Option Bool:=(XC O).bind λa8=>some ((a8.2=0)&&(a8.1=O))
abbrev a1T (x:pI):List qK:=[tv x]
@[go_sem] def a1U:pI->r8:=λO=>rv [] (KG O) λz=>([bv z],[])
@[go_sem] def aMz O:=rF a1T qU a1U O
@[go_sem] abbrev aFD:Nat×r7:=mE 17 [.v] a1T qU a1U
def a1V:qW prog aFD:=
 rI (rH rG (qQ aFw rE)) func17 17 [(2,none)] rfl λE O=>by
  have u0:= @KG.eq_1;exact rK
def XD (O:pI):Option (pI×Int):=(KF O).bind λa8=>ite (!decide (a8.2.2.2.2=0)) (some (([]:pI),a8.2.2.2.2)) ((PA a8.1).bind λaA=>some (aA.1,aA.2))
abbrev a1W (x:pI):List qK:=[tv x]
@[go_sem] def a1X:pI->r8:=λO=>rv [] (XD O) λz=>([tv (z.1),iv (z.2)],[])
@[go_sem] def aMA O:=rF a1W qU a1X O
@[go_sem] abbrev aFE:Nat×r7:=mE 38 [.v] a1W qU a1X
def aFF:qW prog aFE:=
 rI (rH (qO HJ rG) (qQ a1L (qQ a1O rE))) func38 20 [(2,none),(3,none)] rfl λE O=>by
  have u0:= @XD.eq_1;exact rK
def KH (O:pI) (a8:(Ja1×Int)):(Ja3×Int)->Option ((Ja3×Int)⊕Ja3):=fun(aA,aB)=>ite (decide (aB<(a8.1.length:Int))) (ite (0<=aB/\aB<(a8.1.length:Int)) ((TM ((qH rT a8.1 aB).2.1)).bind λaC=>ite (0<=aB/\aB<(a8.1.length:Int)) (ite ((aA.length+([((11,(O,((qH rT a8.1 aB).1,()))),(aC.1,(false,())))]:List rN).length)*64<=140737488355328) (ite (qG (aB+1)) (some (.inl ((aA++([((11,(O,((qH rT a8.1 aB).1,()))),(aC.1,(false,())))]:List rN)),(aB+1)))) none) none) none) none) (some (.inr aA))
def I8 (O:pI) (a8:pI):Option Ja3:=(KG a8).bind λaA=>ite (!aA) (ite (((([61]:pI)++a8).length:Int)<=9223372036854775807) (some ([((10,(O,(([]:pI),()))),((([61]:pI)++a8),(false,())))]:List rN)) none) ((KB a8).bind λaB=>(TK aB.1).bind λaC=>(P2 aC.1).bind λaD=>(TL aB.1).bind λaE=>rA (rC (KH O aE) (([((10,(O,(([]:pI),()))),(aD.1,(false,())))]:List rN),0)) λaF=>some (aF))
abbrev a1Y (x:(pI×pI)):List qK:=[tv x.1,tv x.2]
@[go_sem] def a1Z:(pI×pI)->r8:=fun(O,a8)=>rv [] (I8 O a8) λz=>([(.val (.list rV) z,some 0)],[.grow 49 5 (z.length)])
@[go_sem] def aMB O a8:=rF a1Y qU a1Z (O,a8)
@[go_sem] abbrev aFG:Nat×r7:=mE 65 [.v,.v] a1Y qU a1Z
def aFH:qW prog aFG:=
 rI (rH (qO rX (qO F3 (qO uT (qO HJ (qO tm (qO Kf rG)))))) (qQ a1V (qQ ua (qQ a1i (qQ aE3 (qQ a0R (qQ aE5 (qQ aE7 rE)))))))) func65 78 [(4,none)] rfl λE ⟨O,a8⟩=>by
  have u0:= @I8.eq_1;have u1:= @KH.eq_1
  let l1 (aA:(Ja1×Int)):LE (KH O aA):=⟨λx=>⟨[(0,tv O),(12,(.val (.list rV) x.1,some 0)),(13,(.val (.list rT) aA.1,some 1)),(15,iv x.2)],[(0,.grow 49 5 (x.1.length)),(1,.grow 132 2 (aA.1.length))],2,78,0⟩⟩
  let x1 aA:XE (KH O aA) 0 Ja3:=⟨λx=>⟨[(12,(.val (.list rV) x,some 0))],[(0,.grow 49 5 (x.length))],1,78,0⟩⟩
  exact rK
def KI (O:pI):Option Bool:=(XD O).bind λa8=>some ((a8.2=0)&&(a8.1=O))
abbrev a10 (x:pI):List qK:=[tv x]
@[go_sem] def a11:pI->r8:=λO=>rv [] (KI O) λz=>([bv z],[])
@[go_sem] def aMC O:=rF a10 qU a11 O
@[go_sem] abbrev aFI:Nat×r7:=mE 16 [.v] a10 qU a11
def a13:qW prog aFI:=
 rI (rH rG (qQ aFF rE)) func16 17 [(2,none)] rfl λE O=>by
  have u0:= @KI.eq_1;exact rK
attribute [irreducible] TP P8 KE TQ TR TS XC KF PA TT TU KG XD I8 KI
end
end Go.Proofs.YtedimeeleabhnaaGreatDoor
