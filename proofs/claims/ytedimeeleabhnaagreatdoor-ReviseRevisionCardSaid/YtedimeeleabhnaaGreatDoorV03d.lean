import Derived.Test.YtedimeeleabhnaaGreatDoorV03c
set_option linter.all false
set_option maxRecDepth 100000
set_option maxHeartbeats 4000000
namespace Go.Proofs.YtedimeeleabhnaaGreatDoor
open Vc
open Tryz
noncomputable section
def PO (O:pJ):Option (Ja2×Int×Int):=ite (decide (4000<(O.length:Int))) (some (([]:List rE),4000,6)) (sK (rC (KS O) (([]:List rE),0,false,([]:List Bool),0)) fun(a8,aA,aB)=>ite (decide (0<((aB:Nat):Int))) (some (([]:List rE),(O.length:Int),3)) (some (a8,0,0)))
abbrev a1H (x:pJ):List qP:=[tv x]
@[go_sem] def a1I:pJ->r9:=λO=>rv [] (PO O) λz=>([(.val (.list sO) (z.1),some 0),iv (z.2.1),iv (z.2.2)],[.grow 215 4 ((z.1).length)])
@[go_sem] def aNC O:=rI a1H qV a1I O
@[go_sem] abbrev aGi:Nat×r8:=mE 144 [.v] a1H qV a1I
def aGj:qZ prog aGi:=
 rJ (rH (qO HW (qO rY (qO A4 (qO aBd (qO AQ rG))))) (qS aF3 rF)) func144 100 [(2,none),(3,none),(4,none)] rfl λE O=>by
  have u0:= @PO.eq_1;have u1:= @KS.eq_1
  let l1:LE (KS O):=⟨λx=>⟨[(0,tv O),(2,(.val (.list sO) x.1,some 0)),(3,iv x.2.1),(5,(.own 1 x.2.2.2.2,none)),(6,bv x.2.2.1)],[(0,.grow 215 4 (x.1.length)),(1,.row 4 .bool x.2.2.2.1 x.2.2.2.2)],2,100,0⟩⟩
  let j1 a8 aA (aB:(Int×pJ×Int)):JE 2 (Bool×(List Bool)×Nat):=⟨λx=>⟨[(0,tv O),(2,(.val (.list sO) a8,some 0)),(3,iv aA),(5,(.own 1 x.2.2,none)),(6,bv x.1),(7,iv aB.1),(8,tv aB.2.1),(9,iv aB.2.2)],[(0,.grow 215 4 (a8.length)),(1,.row 4 .bool x.2.1 x.2.2)],2,100,0⟩⟩
  let j2 a8 aA aC aD (aB:(Int×pJ×Int)) aE:JE 47 Bool:=⟨λx=>⟨[(0,tv O),(2,(.val (.list sO) a8,some 0)),(3,iv aA),(5,(.own 1 aC,none)),(6,bv aD),(7,iv aB.1),(8,tv aB.2.1),(9,iv aB.2.2),(47,bv x)],[(0,.grow 215 4 (a8.length)),(1,.row 4 .bool aE aC)],2,100,0⟩⟩
  let x1:XE (KS O) 0 (Ja2×(List Bool)×Nat):=⟨λx=>⟨[(0,tv O),(2,(.val (.list sO) x.1,some 0)),(5,(.own 1 x.2.2,none))],[(0,.grow 215 4 (x.1.length)),(1,.row 4 .bool x.2.1 x.2.2)],2,100,0⟩⟩
  exact rM
def TX (O:Ja0):Option (Ja0×Int):=(KQ O).bind λa8=>ite (!a8) (some (([]:List qG),1)) ((X4 O).bind λaA=>some (aA,0))
abbrev a1J (x:Ja0):List qP:=[sv (.list .part) x]
@[go_sem] def a1K:Ja0->r9:=λO=>rv [] (TX O) λz=>([(.val (.list .part) (z.1),some 0),iv (z.2)],[.grow 183 6 ((z.1).length)])
@[go_sem] def aND O:=rI a1J qV a1K O
@[go_sem] abbrev aGk:Nat×r8:=mE 102 [.v] a1J qV a1K
def aGl:qZ prog aGk:=
 rJ (rH (qO uW rG) (qS xi (qS aDs rF))) func102 9 [(2,none),(3,none)] rfl λE O=>by
  have u0:= @TX.eq_1;exact rM
def TY (O:Ja0):Option (Ja1×Int):=(KQ O).bind λa8=>ite (!a8) (some (([]:List qT),1)) ((X5 O ([]:pJ)).bind λaA=>some (aA,0))
abbrev a1L (x:Ja0):List qP:=[sv (.list .part) x]
@[go_sem] def a1M:Ja0->r9:=λO=>rv [] (TY O) λz=>([(.val (.list rV) (z.1),some 0),iv (z.2)],[.grow 132 2 ((z.1).length)])
@[go_sem] def aNE O:=rI a1L qV a1M O
@[go_sem] abbrev aGm:Nat×r8:=mE 103 [.v] a1L qV a1M
def aGn:qZ prog aGm:=
 rJ (rH (qO uz rG) (qS xi (qS aDx rF))) func103 9 [(2,none),(3,none)] rfl λE O=>by
  have u0:= @TY.eq_1;exact rM
def TZ (O:Ja0):Option (pJ×Int):=(TU O).bind λa8=>ite (!a8) (some (([]:pJ),1)) ((FM O Qa9).bind λaA=>some (aA,0))
abbrev a1N (x:Ja0):List qP:=[sv (.list .part) x]
@[go_sem] def a1O:Ja0->r9:=λO=>rv [] (TZ O) λz=>([tv (z.1),iv (z.2)],[])
@[go_sem] def aNF O:=rI a1N qV a1O O
@[go_sem] abbrev aGo:Nat×r8:=mE 104 [.v] a1N qV a1O
def aGp:qZ prog aGo:=
 rJ (rH rG (qS aF1 (qS XD rF))) func104 9 [(2,none),(3,none)] rfl λE O=>by
  have u0:= @TZ.eq_1;exact rM
def PP (O:pJ) (a8:Bool):Option (Ja0×Int×Int×Int×Int):=(PD O).bind λaA=>ite (decide (aA.2.2=6)) (some (([]:List qG),aA.2.1,0,0,aA.2.2)) ((PG (aA.1,((O.length:Int),(([]:pK),(aA.2.1,(aA.2.2,()))))) 1 a8).bind λaB=>rD (σ:=(Int×Int)) (ite ((aB.2.2.2.2=0)&&(0<(aB.2.1.length:Int))) ((xZ (aB.2.1,((O.length:Int),(aB.2.2.1,(aB.2.2.2.1,(aB.2.2.2.2,()))))) 3).bind λaC=>some (aC.1,aC.2)) (some (aB.2.2.2.1,aB.2.2.2.2))) fun(aD,aE)=>ite (!decide (aE=0)) ((TJ O aD).bind λaF=>some (([]:List qG),aF.1,aF.2.1,aF.2.2.1,aE)) ((FM aB.1 Qa9).bind λaG=>ite (decide (4000<(aG.length:Int))) (some (([]:List qG),0,0,0,6)) (some (aB.1,0,0,0,0))))
abbrev a1P (x:(pJ×Bool)):List qP:=[tv x.1,bv x.2]
@[go_sem] def a1Q:(pJ×Bool)->r9:=fun(O,a8)=>rv [] (PP O a8) λz=>([(.val (.list .part) (z.1),some 0),sv EK (z.2.1,(z.2.2.1,(z.2.2.2.1,()))),iv (z.2.2.2.2)],[.grow 183 6 ((z.1).length)])
@[go_sem] def aNG O a8:=rI a1P qV a1Q (O,a8)
@[go_sem] abbrev aGq:Nat×r8:=mE 108 [.v,.v] a1P qV a1Q
def aGr:qZ prog aGq:=
 rJ (rH (qO tO (qO rY (qO BD (qO uW (qO HX (qO dv (qO HV rG))))))) (qS aFN (qS aFU (qS O7 (qS aE4 (qS XD rF)))))) func108 76 [(4,none),(5,some 90),(6,none)] rfl λE ⟨O,a8⟩=>by
  have u0:= @PP.eq_1
  let j1 (aA:(Ja0×Ja2×pK×Int×Int)):JE 47 (Int×Int):=⟨λx=>⟨[(0,tv O),(5,rs 0 0),(10,rs 1 0),(11,(.val (.list .part) aA.1,some 2))],[(0,.cells EK (0,(0,(0,()))) []),(1,.cells tZ (aA.2.1,((O.length:Int),(aA.2.2.1,(x.1,(x.2,()))))) [(2,3)]),(2,.grow 183 6 (aA.1.length)),(3,.grow 9 1 (aA.2.2.1.length))],4,76,0⟩⟩
  exact rM
def PQ (O:Ja0) (a8:Bool):Option Bool:=(XI ([]:pS) O 0 a8).bind λaA=>ite (((aA.1&&((aA.2.length:Int)<=20))==true)=true->(KG O).isSome=true) (some ((aA.1&&((aA.2.length:Int)<=20))&&((val (KG O))<=4000))) none
abbrev a1R (x:(Ja0×Bool)):List qP:=[sv (.list .part) x.1,bv x.2]
@[go_sem] def a1S:(Ja0×Bool)->r9:=fun(O,a8)=>rv [] (PQ O a8) λz=>([bv z],[])
@[go_sem] def aNH O a8:=rI a1R qV a1S (O,a8)
@[go_sem] abbrev aGs:Nat×r8:=mE 149 [.v,.v] a1R qV a1S
def a1T:qZ prog aGs:=
 rJ (rH (qO HW (qO rY (qO N7 (qO vk rG)))) (qS aGf (qS Xg rF))) func149 23 [(4,none)] rfl λE ⟨O,a8⟩=>by
  have u0:= @PQ.eq_1;exact rM
def U0 (O:tP):Option Bool:=(SY O.1).bind λa8=>ite ((a8==true)=true->(C6 O.2.1).isSome=true) (ite (((a8&&(val (C6 O.2.1)))==true)=true->(FN O.2.2.1).isSome=true) (some ((a8&&(val (C6 O.2.1)))&&(val (FN O.2.2.1)))) none) none
abbrev a1U (x:tP):List qP:=[sv vL x]
@[go_sem] def a1V:tP->r9:=λO=>rv [] (U0 O) λz=>([bv z],[])
@[go_sem] def aNI O:=rI a1U qV a1V O
@[go_sem] abbrev aGt:Nat×r8:=mE 48 [.v] a1U qV a1V
def aGu:qZ prog aGt:=
 rJ (rH (qO rY (qO vF (qO D5 (qO D3 rG)))) (qS aDF (qS a1w (qS a1G rF)))) func48 16 [(2,none)] rfl λE O=>by
  have u0:= @U0.eq_1;exact rM
def U1 (O:wD):Option Unit:=ite ((((!decide (O.1=([]:pJ)))&&((O.1.length:Int)<=200))==true)=true->(GM O.1).isSome=true) (ite (((((!decide (O.1=([]:pJ)))&&((O.1.length:Int)<=200))&&(((O.1.length:Int)<=4000)&&(val (vA O.1))))==true)=true->(GM O.2.1).isSome=true) (ite ((((((!decide (O.1=([]:pJ)))&&((O.1.length:Int)<=200))&&(((O.1.length:Int)<=4000)&&(val (vA O.1))))&&(((O.2.1.length:Int)<=4000)&&(val (vA O.2.1))))==true)=true->(GM O.2.2.1).isSome=true) (ite (((((((!decide (O.1=([]:pJ)))&&((O.1.length:Int)<=200))&&(((O.1.length:Int)<=4000)&&(val (vA O.1))))&&(((O.2.1.length:Int)<=4000)&&(val (vA O.2.1))))&&(((O.2.2.1.length:Int)<=4000)&&(val (vA O.2.2.1))))==true)=true->(C6 O.2.2.2.1).isSome=true) (ite ((((((((!decide (O.1=([]:pJ)))&&((O.1.length:Int)<=200))&&(((O.1.length:Int)<=4000)&&(val (vA O.1))))&&(((O.2.1.length:Int)<=4000)&&(val (vA O.2.1))))&&(((O.2.2.1.length:Int)<=4000)&&(val (vA O.2.2.1))))&&(val (C6 O.2.2.2.1)))==true)=true->(GH O.2.2.2.2.1).isSome=true) (ite (((((((((((!decide (O.1=([]:pJ)))&&((O.1.length:Int)<=200))&&(((O.1.length:Int)<=4000)&&(val (vA O.1))))&&(((O.2.1.length:Int)<=4000)&&(val (vA O.2.1))))&&(((O.2.2.1.length:Int)<=4000)&&(val (vA O.2.2.1))))&&(val (C6 O.2.2.2.1)))&&(val (GH O.2.2.2.2.1)))&&(0<=O.2.2.2.2.2.1))&&(O.2.2.2.2.2.1<=4))==true)=true->(FN O.2.2.2.2.2.2.1).isSome=true) (some (())) none) none) none) none) none) none
abbrev a1W (x:wD):List qP:=[sv tJ x]
@[go_sem] def a1X:wD->r9:=λO=>rv [] (U1 O) λz=>([bv ((((((((((!decide (O.1=([]:pJ)))&&((O.1.length:Int)<=200))&&(((O.1.length:Int)<=4000)&&(val (vA O.1))))&&(((O.2.1.length:Int)<=4000)&&(val (vA O.2.1))))&&(((O.2.2.1.length:Int)<=4000)&&(val (vA O.2.2.1))))&&(val (C6 O.2.2.2.1)))&&(val (GH O.2.2.2.2.1)))&&(0<=O.2.2.2.2.2.1))&&(O.2.2.2.2.2.1<=4))&&(val (FN O.2.2.2.2.2.2.1)))],[])
@[go_sem] def aNJ O:=rI a1W qV a1X O
@[go_sem] abbrev aGv:Nat×r8:=mE 50 [.v] a1W qV a1X
def aGw:qZ prog aGv:=
 rJ (rH (qO tO (qO rY (qO vF (qO D5 (qO D4 rG))))) (qS xe (qS a1w (qS aDH (qS a1G rF))))) func50 52 [(2,none)] rfl λE O=>by
  have u0:= @U1.eq_1;exact rM
def KT (O:pJ):Option (Ja0×Int×Int×Int×Int):=(PP O false).bind λa8=>some (a8.1,a8.2.1,a8.2.2.1,a8.2.2.2.1,a8.2.2.2.2)
abbrev a1Y (x:pJ):List qP:=[tv x]
@[go_sem] def a1Z:pJ->r9:=λO=>rv [] (KT O) λz=>([(.val (.list .part) (z.1),some 0),sv EK (z.2.1,(z.2.2.1,(z.2.2.2.1,()))),iv (z.2.2.2.2)],[.grow 183 6 ((z.1).length)])
@[go_sem] def aNK O:=rI a1Y qV a1Z O
@[go_sem] abbrev aGx:Nat×r8:=mE 68 [.v] a1Y qV a1Z
def a10:qZ prog aGx:=
 rJ (rH (qO uW (qO HX rG)) (qS aGr rF)) func68 10 [(2,none),(3,some 90),(4,none)] rfl λE O=>by
  have u0:= @KT.eq_1;exact rM
def KU (O:Ja0):Option Bool:=(PQ O false).bind λa8=>some (a8)
abbrev a11 (x:Ja0):List qP:=[sv (.list .part) x]
@[go_sem] def a13:Ja0->r9:=λO=>rv [] (KU O) λz=>([bv z],[])
@[go_sem] def aNL O:=rI a11 qV a13 O
@[go_sem] abbrev a14:Nat×r8:=mE 106 [.v] a11 qV a13
def xl:qZ prog a14:=
 rJ (rH rG (qS a1T rF)) func106 5 [(2,none)] rfl λE O=>by
  have u0:= @KU.eq_1;exact rM
def U2 (O:Ja0):Option Bool:=(PQ O true).bind λa8=>some (a8)
abbrev a15 (x:Ja0):List qP:=[sv (.list .part) x]
@[go_sem] def a16:Ja0->r9:=λO=>rv [] (U2 O) λz=>([bv z],[])
@[go_sem] def aNM O:=rI a15 qV a16 O
@[go_sem] abbrev aGy:Nat×r8:=mE 137 [.v] a15 qV a16
def aGz:qZ prog aGy:=
 rJ (rH rG (qS a1T rF)) func137 5 [(2,none)] rfl λE O=>by
  have u0:= @U2.eq_1;exact rM
def U3 (O:Ja0):Option (Ja1×Int):=(KU O).bind λa8=>ite (!a8) (some (([]:List qT),1)) ((TG O ([]:pJ)).bind λaA=>some (aA,0))
abbrev xm (x:Ja0):List qP:=[sv (.list .part) x]
@[go_sem] def xn:Ja0->r9:=λO=>rv [] (U3 O) λz=>([(.val (.list rV) (z.1),some 0),iv (z.2)],[.grow 128 2 ((z.1).length)])
@[go_sem] def aNN O:=rI xm qV xn O
@[go_sem] abbrev aGA:Nat×r8:=mE 98 [.v] xm qV xn
def XJ:wY prog [vi] (EF [a14,Yx]):=⟨⟨WT,trivial⟩,qS xl (qS aEV rF),SI⟩
def aGB:qZ prog aGA:=by
 refine WK XJ func98 (c:=_) rfl (N:=9) qB (ts:=[(2,none),(3,none)]) rfl (λ_ _=>rfl) ?_;intro O hs hrow;dsimp only[xm,qV,xn,rv,rL,E8,tD,wR,vB,E9,Nat.reduceAdd] at hs hrow|-;have hz:=hs;obtain⟨z0,d⟩:=aPc.1 hz
 try rw[S5 d]
 clear hz hs;unfold U3 at d;refine sB XJ ?_;refine tW ?_;obtain⟨a8,hv1,hw1,d⟩:=AL d
 try simp only[go_sem] at hw1
 refine sB XJ ?_ (hp:=by exact(AK hv1)) (h:=by simp only[go_sem,hw1];rfl);refine vE d ?_ ?_<;>intro d Z
 .refine sB XJ ?_;refine EC (cj ?_);cases d;exact pL [(0,160)]
 refine vQ (tF ?_);obtain⟨aA,hv2,hw2,d⟩:=AL d
 try simp only[go_sem] at hw2
 refine sB (a9J 124 XJ) ?_ (hp:=by exact(AK hv2)) (h:=by simp only[go_sem,hw2];rfl);refine EC ?_;cases d;exact pL [(0,192)]
def XK (O:pJ):Option (pJ×Int):=(KT O).bind λa8=>ite (!decide (a8.2.2.2.2=0)) (some (([]:pJ),a8.2.2.2.2)) ((PJ a8.1).bind λaA=>some (aA.1,aA.2))
abbrev a17 (x:pJ):List qP:=[tv x]
@[go_sem] def a18:pJ->r9:=λO=>rv [] (XK O) λz=>([tv (z.1),iv (z.2)],[])
@[go_sem] def aNO O:=rI a17 qV a18 O
@[go_sem] abbrev aGC:Nat×r8:=mE 39 [.v] a17 qV a18
def aGD:qZ prog aGC:=
 rJ (rH (qO HX rG) (qS a10 (qS a1t rF))) func39 20 [(2,none),(3,none)] rfl λE O=>by
  have u0:= @XK.eq_1;exact rM
attribute [irreducible] PO TX TY TZ PP PQ U0 U1 KT KU U2 U3 XK
end
noncomputable section
abbrev a19 (x:(Int×Bool×pJ×Ja2×Int×pR×pS)):List qP:=[rs 0 0,iv x.1,bv x.2.1]
abbrev a2a (x:(Int×Bool×pJ×Ja2×Int×pR×pS)):List qQ:=[.cells tG (x.2.2.1,(x.2.2.2.1,(x.2.2.2.2.1,((some 1),x.2.2.2.2.2.1)))) [],.map .str .bool x.2.2.2.2.2.2]
@[go_sem] def a2b (O:pJ->Ja2->Int->pR->Int->Bool->pS->Option (Ja0×Int×Int×Int×pS)):(Int×Bool×pJ×Ja2×Int×pR×pS)->r9:=fun(a8,aA,aB,aC,aD,aE,aF)=>rv [] (O aB aC aD aE a8 aA aF) λz=>([(.val (.list .part) (z.1),some 2)],[.cells tG (aB,(aC,(z.2.1,((some 1),(z.2.2.1,(z.2.2.2.1,())))))) [],.map .str .bool (z.2.2.2.2),.grow 183 6 ((z.1).length)])
@[go_sem] def aNP (O:pJ->Ja2->Int->pR->Int->Bool->pS->Option (Ja0×Int×Int×Int×pS)) a8 aA aB aC aD aE aF:=rI a19 a2a (a2b O) (a8,aA,aB,aC,aD,aE,aF)
@[go_sem] abbrev fq (F:pJ->Ja2->Int->pR->Int->Bool->pS->Option (Ja0×Int×Int×Int×pS)):Nat×r8:=mE 145 [.p tG [],.v,.v] a19 a2a (a2b F) [(0,3,.m)] []
abbrev a2c (x:(Int×Bool×pJ×Ja2×Int×pR×pS)):List qP:=[rs 0 0,iv x.1,bv x.2.1]
abbrev a2d (x:(Int×Bool×pJ×Ja2×Int×pR×pS)):List qQ:=[.cells tG (x.2.2.1,(x.2.2.2.1,(x.2.2.2.2.1,((some 1),x.2.2.2.2.2.1)))) [],.map .str .bool x.2.2.2.2.2.2]
@[go_sem] def a2e (O:pJ->Ja2->Int->pR->Int->Bool->pS->Option (pJ×Ja0×Int×Int×Int×pS)):(Int×Bool×pJ×Ja2×Int×pR×pS)->r9:=fun(a8,aA,aB,aC,aD,aE,aF)=>rv [] (O aB aC aD aE a8 aA aF) λz=>([sv sN (11,(([]:pJ),(z.1,(([]:pJ),(([]:List qT),(z.2.1,()))))))],[.cells tG (aB,(aC,(z.2.2.1,((some 1),(z.2.2.2.1,(z.2.2.2.2.1,())))))) [],.map .str .bool (z.2.2.2.2.2)])
@[go_sem] def aNQ (O:pJ->Ja2->Int->pR->Int->Bool->pS->Option (pJ×Ja0×Int×Int×Int×pS)) a8 aA aB aC aD aE aF:=rI a2c a2d (a2e O) (a8,aA,aB,aC,aD,aE,aF)
@[go_sem] abbrev xo (F:pJ->Ja2->Int->pR->Int->Bool->pS->Option (pJ×Ja0×Int×Int×Int×pS)):Nat×r8:=mE 197 [.p tG [],.v,.v] a2c a2d (a2e F) [(0,3,.m)] []
abbrev a2f (x:(Int×Bool×pJ×Ja2×Int×pR×pS)):List qP:=[rs 0 0,iv x.1,bv x.2.1]
abbrev a2g (x:(Int×Bool×pJ×Ja2×Int×pR×pS)):List qQ:=[.cells tG (x.2.2.1,(x.2.2.2.1,(x.2.2.2.2.1,((some 1),x.2.2.2.2.2.1)))) [],.map .str .bool x.2.2.2.2.2.2]
@[go_sem] def a2h (O:pJ->Ja2->Int->pR->Int->Bool->pS->Option (Int×pJ×pJ×Ja1×Int×Int×Int×pS)):(Int×Bool×pJ×Ja2×Int×pR×pS)->r9:=fun(a8,aA,aB,aC,aD,aE,aF)=>rv [] (O aB aC aD aE a8 aA aF) λz=>([sv sN (z.1,(([]:pJ),(z.2.1,(z.2.2.1,(z.2.2.2.1,(([]:List qG),()))))))],[.cells tG (aB,(aC,(z.2.2.2.2.1,((some 1),(z.2.2.2.2.2.1,(z.2.2.2.2.2.2.1,())))))) [],.map .str .bool (z.2.2.2.2.2.2.2)])
@[go_sem] def aNR (O:pJ->Ja2->Int->pR->Int->Bool->pS->Option (Int×pJ×pJ×Ja1×Int×Int×Int×pS)) a8 aA aB aC aD aE aF:=rI a2f a2g (a2h O) (a8,aA,aB,aC,aD,aE,aF)
@[go_sem] abbrev xp (F:pJ->Ja2->Int->pR->Int->Bool->pS->Option (Int×pJ×pJ×Ja1×Int×Int×Int×pS)):Nat×r8:=mE 198 [.p tG [],.v,.v] a2f a2g (a2h F) [(0,3,.m)] []
abbrev a2i (x:(Int×Int×Bool×pJ×Ja2×Int×pR×pS)):List qP:=[rs 0 0,iv x.1,iv x.2.1,bv x.2.2.1]
abbrev a2j (x:(Int×Int×Bool×pJ×Ja2×Int×pR×pS)):List qQ:=[.cells tG (x.2.2.2.1,(x.2.2.2.2.1,(x.2.2.2.2.2.1,((some 1),x.2.2.2.2.2.2.1)))) [],.map .str .bool x.2.2.2.2.2.2.2]
@[go_sem] def a2k (O:pJ->Ja2->Int->pR->Int->Int->Bool->pS->Option (Ja1×Int×Int×Int×pS)):(Int×Int×Bool×pJ×Ja2×Int×pR×pS)->r9:=fun(a8,aA,aB,aC,aD,aE,aF,aG)=>rv [] (O aC aD aE aF a8 aA aB aG) λz=>([(.val (.list rV) (z.1),some 2)],[.cells tG (aC,(aD,(z.2.1,((some 1),(z.2.2.1,(z.2.2.2.1,())))))) [],.map .str .bool (z.2.2.2.2),.grow 186 2 ((z.1).length)])
@[go_sem] def aNS (O:pJ->Ja2->Int->pR->Int->Int->Bool->pS->Option (Ja1×Int×Int×Int×pS)) a8 aA aB aC aD aE aF aG:=rI a2i a2j (a2k O) (a8,aA,aB,aC,aD,aE,aF,aG)
@[go_sem] abbrev xq (F:pJ->Ja2->Int->pR->Int->Int->Bool->pS->Option (Ja1×Int×Int×Int×pS)):Nat×r8:=mE 256 [.p tG [],.v,.v,.v] a2i a2j (a2k F) [(0,3,.m)] []
section
variable {O:pJ->Ja2->Int->pR->Int->Bool->pS->Option (Ja0×Int×Int×Int×pS)}{a8:pJ->Ja2->Int->pR->Int->Bool->pS->Option (pJ×Ja0×Int×Int×Int×pS)}{aA:pJ->Ja2->Int->pR->Int->Bool->pS->Option (Int×pJ×pJ×Ja1×Int×Int×Int×pS)}{aB:pJ->Ja2->Int->pR->Int->Int->Bool->pS->Option (Ja1×Int×Int×Int×pS)}(hG0:qZ prog (fq O)) (hG1:qZ prog (xo a8)) (hG2:qZ prog (xp aA)) (hG3:qZ prog (xq aB))
include hG0 hG1 hG2 hG3
def xG (aC:pJ) (aD:Ja2) (aE:Int) (aF:Bool) (a8:pJ->Ja2->Int->pR->Int->Bool->pS->Option (pJ×Ja0×Int×Int×Int×pS)) (aA:pJ->Ja2->Int->pR->Int->Bool->pS->Option (Int×pJ×pJ×Ja1×Int×Int×Int×pS)):(Ja0×Int×Int×Int×pS)->Option ((Ja0×Int×Int×Int×pS)⊕((Ja0×Int×Int×Int×pS)⊕(Ja0×Int×Int×Int×pS))):=fun(aG,aH,aI,aJ,aK)=>ite (decide (aJ=0)) ((vU aC aD aH (aI,(aJ,())) aK).bind λaL=>ite (decide (aL=1)) ((sT aC aD aH (aI,(aJ,())) 1 aK).bind λaM=>(TL aM.1).bind λaN=>ite ((aG.length+([(qG.of (1,(aN.1,(([]:pJ),(([]:pJ),(([]:List qT),(([]:List qG),())))))))]:List qG).length)*104<=140737488355328) (some (.inl ((aG++([(qG.of (1,(aN.1,(([]:pJ),(([]:pJ),(([]:List qT),(([]:List qG),())))))))]:List qG)),aM.2.1,aM.2.2.1,aM.2.2.2,aK))) none) (ite (decide (aL=4)) (ite (!aF) ((vV aC aD aH (aI,(aJ,())) 3 aK).bind λaO=>(sT aC aD aH (aO.1,(aO.2,())) 4 aK).bind λaP=>ite ((aG.length+([(qG.of (10,(([]:pJ),(([]:pJ),(([]:pJ),(([]:List qT),(([]:List qG),())))))))]:List qG).length)*104<=140737488355328) (some (.inl ((aG++([(qG.of (10,(([]:pJ),(([]:pJ),(([]:pJ),(([]:List qT),(([]:List qG),())))))))]:List qG)),aP.2.1,aP.2.2.1,aP.2.2.2,aK))) none) ((sT aC aD aH (aI,(aJ,())) 4 aK).bind λaQ=>ite ((aG.length+([(qG.of (10,(([]:pJ),(([]:pJ),(([]:pJ),(([]:List qT),(([]:List qG),())))))))]:List qG).length)*104<=140737488355328) (some (.inl ((aG++([(qG.of (10,(([]:pJ),(([]:pJ),(([]:pJ),(([]:List qT),(([]:List qG),())))))))]:List qG)),aQ.2.1,aQ.2.2.1,aQ.2.2.2,aK))) none)) (ite (decide (aL=7)) (ite (qH (aE+1)) ((EO aC aD aH (aI,(aJ,())) (aE+1) aK).bind λaR=>(sT aC aD aH (aR.1,(aR.2,())) 7 aK).bind λaS=>ite ((aG.length+([(qG.of (11,(([]:pJ),(aS.1,(([]:pJ),(([]:List qT),(([]:List qG),())))))))]:List qG).length)*104<=140737488355328) (some (.inl ((aG++([(qG.of (11,(([]:pJ),(aS.1,(([]:pJ),(([]:List qT),(([]:List qG),())))))))]:List qG)),aS.2.1,aS.2.2.1,aS.2.2.2,aK))) none) none) (ite (decide (aL=5)) (ite (qH (aE+1)) ((a8 aC aD aH (aI,(aJ,())) (aE+1) aF aK).bind λaT=>ite ((aG.length+([(qG.of (11,(([]:pJ),(aT.1,(([]:pJ),(([]:List qT),(aT.2.1,())))))))]:List qG).length)*104<=140737488355328) (some (.inl ((aG++([(qG.of (11,(([]:pJ),(aT.1,(([]:pJ),(([]:List qT),(aT.2.1,())))))))]:List qG)),aT.2.2.1,aT.2.2.2.1,aT.2.2.2.2.1,aT.2.2.2.2.2))) none) none) (ite (decide (aL=2)) ((aA aC aD aH (aI,(aJ,())) aE aF aK).bind λaU=>ite ((aG.length+([(qG.of (aU.1,(([]:pJ),(aU.2.1,(aU.2.2.1,(aU.2.2.2.1,(([]:List qG),())))))))]:List qG).length)*104<=140737488355328) (some (.inl ((aG++([(qG.of (aU.1,(([]:pJ),(aU.2.1,(aU.2.2.1,(aU.2.2.2.1,(([]:List qG),())))))))]:List qG)),aU.2.2.2.2.1,aU.2.2.2.2.2.1,aU.2.2.2.2.2.2.1,aU.2.2.2.2.2.2.2))) none) (some (.inr (.inr (aG,aH,aI,aJ,aK))))))))) (some (.inr (.inl (aG,aH,aI,aJ,aK))))
def IH (O:pJ->Ja2->Int->pR->Int->Bool->pS->Option (Ja0×Int×Int×Int×pS)) (a8:pJ->Ja2->Int->pR->Int->Bool->pS->Option (pJ×Ja0×Int×Int×Int×pS)) (aA:pJ->Ja2->Int->pR->Int->Bool->pS->Option (Int×pJ×pJ×Ja1×Int×Int×Int×pS)) (aB:pJ->Ja2->Int->pR->Int->Int->Bool->pS->Option (Ja1×Int×Int×Int×pS)) (aC:pJ) (aD:Ja2) (aV:Int) (aW:pR) (aE:Int) (aF:Bool) (aX:pS):Option (Ja0×Int×Int×Int×pS):=sK (rC (xG aC aD aE aF a8 aA) (([]:List qG),aV,aW.1,aW.2.1,aX)) fun(aY,aZ,bA,bB,bC)=>some (aY,aZ,bA,bB,bC)
theorem aGE:qZ prog (fq (IH O a8 aA aB)):=
 rJ (rH (qO BD (qO uW (qO zJ (qO v6 rG)))) (qS C2 (qS EP (qS aE8 (qS EN (qS T2 (qS hG1 (qS hG2 rF)))))))) func145 77 [(6,none)] rfl λE ⟨aE,aF,aC,aD,aV,aW,aX⟩=>by
  have u0:= @IH.eq_1;have u1:= @xG.eq_1
  let l1:LE (xG aC aD aE aF a8 aA):=⟨λx=>⟨[(0,rs 0 0),(1,iv aE),(2,bv aF),(7,(.val (.list .part) x.1,some 2))],[(0,.cells tG (aC,(aD,(x.2.1,((some 1),(x.2.2.1,(x.2.2.2.1,())))))) []),(1,.map .str .bool x.2.2.2.2),(2,.grow 183 6 (x.1.length))],3,77,2⟩⟩
  let x1:XE (xG aC aD aE aF a8 aA) 0 (Ja0×Int×Int×Int×pS):=⟨λx=>⟨[(7,(.val (.list .part) x.1,some 2))],[(0,.cells tG (aC,(aD,(x.2.1,((some 1),(x.2.2.1,(x.2.2.2.1,())))))) []),(1,.map .str .bool x.2.2.2.2),(2,.grow 183 6 (x.1.length))],3,77,2⟩⟩
  exact rM
def EU (O:pJ->Ja2->Int->pR->Int->Bool->pS->Option (Ja0×Int×Int×Int×pS)) (a8:pJ->Ja2->Int->pR->Int->Bool->pS->Option (pJ×Ja0×Int×Int×Int×pS)) (aA:pJ->Ja2->Int->pR->Int->Bool->pS->Option (Int×pJ×pJ×Ja1×Int×Int×Int×pS)) (aB:pJ->Ja2->Int->pR->Int->Int->Bool->pS->Option (Ja1×Int×Int×Int×pS)) (bD:pJ) (bE:Ja2) (bF:Int) (bG:pR) (bH:Int) (bI:Bool) (bJ:pS):Option (pJ×Ja0×Int×Int×Int×pS):=(EO bD bE bF bG bH bJ).bind λbK=>(sT bD bE bF (bK.1,(bK.2,())) 5 bJ).bind λbM=>(O bD bE bM.2.1 (bM.2.2.1,(bM.2.2.2,())) bH bI bJ).bind λbN=>(vU bD bE bN.2.1 (bN.2.2.1,(bN.2.2.2.1,())) bN.2.2.2.2).bind λbO=>ite (((!decide (bO=6))==false)=true->0<=bN.2.1/\bN.2.1<(bE.length:Int)) (ite ((!decide (bO=6))||(!decide ((qI sO bE bN.2.1).2.1=bM.1))) ((vV bD bE bN.2.1 (bN.2.2.1,(bN.2.2.2.1,())) 3 bN.2.2.2.2).bind λbP=>(sT bD bE bN.2.1 (bP.1,(bP.2,())) 6 bN.2.2.2.2).bind λbQ=>some (bM.1,bN.1,bQ.2.1,bQ.2.2.1,bQ.2.2.2,bN.2.2.2.2)) ((sT bD bE bN.2.1 (bN.2.2.1,(bN.2.2.2.1,())) 6 bN.2.2.2.2).bind λbR=>some (bM.1,bN.1,bR.2.1,bR.2.2.1,bR.2.2.2,bN.2.2.2.2))) none
theorem aGF:qZ prog (xo (EU O a8 aA aB)):=
 rJ (rH (qO tO (qO rY (qO uW (qO A4 (qO zJ (qO v6 (qO AQ rG))))))) (qS T2 (qS EP (qS hG0 (qS C2 (qS EN rF)))))) func197 43 [(6,some 183)] rfl λE ⟨bH,bI,bD,bE,bF,bG,bJ⟩=>by
  have u0:= @EU.eq_1;exact rM
def KV (O:pJ->Ja2->Int->pR->Int->Bool->pS->Option (Ja0×Int×Int×Int×pS)) (a8:pJ->Ja2->Int->pR->Int->Bool->pS->Option (pJ×Ja0×Int×Int×Int×pS)) (aA:pJ->Ja2->Int->pR->Int->Bool->pS->Option (Int×pJ×pJ×Ja1×Int×Int×Int×pS)) (aB:pJ->Ja2->Int->pR->Int->Int->Bool->pS->Option (Ja1×Int×Int×Int×pS)) (aC:pJ) (aD:Ja2) (aV:Int) (aW:pR) (aE:Int) (aF:Bool) (aX:pS):Option (Int×pJ×pJ×Ja1×Int×Int×Int×pS):=(sT aC aD aV aW 2 aX).bind λbS=>(KN aC aD bS.2.1 (bS.2.2.1,(bS.2.2.2,())) aX).bind λbT=>(vU aC aD bT.2.1 (bT.2.2.1,(bT.2.2.2.1,())) bT.2.2.2.2).bind λbU=>ite (decide (bU=3)) ((sT aC aD bT.2.1 (bT.2.2.1,(bT.2.2.2.1,())) 3 bT.2.2.2.2).bind λbV=>some (2,bT.1,([]:pJ),([]:List qT),bV.2.1,bV.2.2.1,bV.2.2.2,bT.2.2.2.2)) ((sT aC aD bT.2.1 (bT.2.2.1,(bT.2.2.2.1,())) 8 bT.2.2.2.2).bind λbW=>(vU aC aD bW.2.1 (bW.2.2.1,(bW.2.2.2,())) bT.2.2.2.2).bind λbX=>ite (((decide (bX=9))==true)=true->0<=bW.2.1/\bW.2.1<(aD.length:Int)) (rD (σ:=(Int×Int)) (ite ((bX=9)&&((7<=(sC .str (.int .i64) (rN .str (.int .i64) Qa0 9 (rN .str (.int .i64) Qa1 8 (rN .str (.int .i64) Qa2 7 (rN .str (.int .i64) Qa3 6 (rN .str (.int .i64) Qa4 5 (rN .str (.int .i64) Qa5 4 (rN .str (.int .i64) Qa6 3 ([]:List (pJ×Int))))))))) ((qI sO aD bW.2.1).2.1)))&&((sC .str (.int .i64) (rN .str (.int .i64) Qa0 9 (rN .str (.int .i64) Qa1 8 (rN .str (.int .i64) Qa2 7 (rN .str (.int .i64) Qa3 6 (rN .str (.int .i64) Qa4 5 (rN .str (.int .i64) Qa5 4 (rN .str (.int .i64) Qa6 3 ([]:List (pJ×Int))))))))) ((qI sO aD bW.2.1).2.1))<=9))) (ite (qH (aE+1)) ((EO aC aD bW.2.1 (bW.2.2.1,(bW.2.2.2,())) (aE+1) bT.2.2.2.2).bind λbZ=>some (bZ.1,bZ.2)) none) (some (bW.2.2.1,bW.2.2.2))) fun(c7,c8)=>(EQ aC aD bW.2.1 (c7,(c8,())) bT.2.2.2.2 (rN .str (.int .i64) Qa0 9 (rN .str (.int .i64) Qa1 8 (rN .str (.int .i64) Qa2 7 (rN .str (.int .i64) Qa3 6 (rN .str (.int .i64) Qa4 5 (rN .str (.int .i64) Qa5 4 (rN .str (.int .i64) Qa6 3 ([]:List (pJ×Int)))))))))).bind λc9=>ite (!decide (c9.2.2.2=0)) ((sT aC aD c9.2.1 (c9.2.2.1,(c9.2.2.2,())) 3 bT.2.2.2.2).bind λcA=>some ((sC .str (.int .i64) (rN .str (.int .i64) Qa0 9 (rN .str (.int .i64) Qa1 8 (rN .str (.int .i64) Qa2 7 (rN .str (.int .i64) Qa3 6 (rN .str (.int .i64) Qa4 5 (rN .str (.int .i64) Qa5 4 (rN .str (.int .i64) Qa6 3 ([]:List (pJ×Int))))))))) c9.1),bT.1,([]:pJ),([]:List qT),cA.2.1,cA.2.2.1,cA.2.2.2,bT.2.2.2.2)) (ite (decide ((sC .str (.int .i64) (rN .str (.int .i64) Qa0 9 (rN .str (.int .i64) Qa1 8 (rN .str (.int .i64) Qa2 7 (rN .str (.int .i64) Qa3 6 (rN .str (.int .i64) Qa4 5 (rN .str (.int .i64) Qa5 4 (rN .str (.int .i64) Qa6 3 ([]:List (pJ×Int))))))))) c9.1)=3)) ((vU aC aD c9.2.1 (c9.2.2.1,(c9.2.2.2,())) bT.2.2.2.2).bind λcB=>ite (decide (cB=8)) ((sT aC aD c9.2.1 (c9.2.2.1,(c9.2.2.2,())) 8 bT.2.2.2.2).bind λcC=>(D8 aC aD cC.2.1 (cC.2.2.1,(cC.2.2.2,())) bT.2.2.2.2).bind λcD=>(sT aC aD cD.2.1 (cD.2.2.1,(cD.2.2.2,())) 3 bT.2.2.2.2).bind λcE=>some ((sC .str (.int .i64) (rN .str (.int .i64) Qa0 9 (rN .str (.int .i64) Qa1 8 (rN .str (.int .i64) Qa2 7 (rN .str (.int .i64) Qa3 6 (rN .str (.int .i64) Qa4 5 (rN .str (.int .i64) Qa5 4 (rN .str (.int .i64) Qa6 3 ([]:List (pJ×Int))))))))) c9.1),bT.1,cD.1,([]:List qT),cE.2.1,cE.2.2.1,cE.2.2.2,bT.2.2.2.2)) ((sT aC aD c9.2.1 (c9.2.2.1,(c9.2.2.2,())) 3 bT.2.2.2.2).bind λcF=>some ((sC .str (.int .i64) (rN .str (.int .i64) Qa0 9 (rN .str (.int .i64) Qa1 8 (rN .str (.int .i64) Qa2 7 (rN .str (.int .i64) Qa3 6 (rN .str (.int .i64) Qa4 5 (rN .str (.int .i64) Qa5 4 (rN .str (.int .i64) Qa6 3 ([]:List (pJ×Int))))))))) c9.1),bT.1,([]:pJ),([]:List qT),cF.2.1,cF.2.2.1,cF.2.2.2,bT.2.2.2.2))) (ite ((7<=(sC .str (.int .i64) (rN .str (.int .i64) Qa0 9 (rN .str (.int .i64) Qa1 8 (rN .str (.int .i64) Qa2 7 (rN .str (.int .i64) Qa3 6 (rN .str (.int .i64) Qa4 5 (rN .str (.int .i64) Qa5 4 (rN .str (.int .i64) Qa6 3 ([]:List (pJ×Int))))))))) c9.1))&&((sC .str (.int .i64) (rN .str (.int .i64) Qa0 9 (rN .str (.int .i64) Qa1 8 (rN .str (.int .i64) Qa2 7 (rN .str (.int .i64) Qa3 6 (rN .str (.int .i64) Qa4 5 (rN .str (.int .i64) Qa5 4 (rN .str (.int .i64) Qa6 3 ([]:List (pJ×Int))))))))) c9.1)<=9)) ((sT aC aD c9.2.1 (c9.2.2.1,(c9.2.2.2,())) 8 bT.2.2.2.2).bind λcG=>ite (qH (aE+1)) ((aB aC aD cG.2.1 (cG.2.2.1,(cG.2.2.2,())) (sC .str (.int .i64) (rN .str (.int .i64) Qa0 9 (rN .str (.int .i64) Qa1 8 (rN .str (.int .i64) Qa2 7 (rN .str (.int .i64) Qa3 6 (rN .str (.int .i64) Qa4 5 (rN .str (.int .i64) Qa5 4 (rN .str (.int .i64) Qa6 3 ([]:List (pJ×Int))))))))) c9.1) (aE+1) aF bT.2.2.2.2).bind λcH=>(sT aC aD cH.2.1 (cH.2.2.1,(cH.2.2.2.1,())) 3 cH.2.2.2.2).bind λcI=>some ((sC .str (.int .i64) (rN .str (.int .i64) Qa0 9 (rN .str (.int .i64) Qa1 8 (rN .str (.int .i64) Qa2 7 (rN .str (.int .i64) Qa3 6 (rN .str (.int .i64) Qa4 5 (rN .str (.int .i64) Qa5 4 (rN .str (.int .i64) Qa6 3 ([]:List (pJ×Int))))))))) c9.1),bT.1,([]:pJ),cH.1,cI.2.1,cI.2.2.1,cI.2.2.2,cH.2.2.2.2)) none) ((sT aC aD c9.2.1 (c9.2.2.1,(c9.2.2.2,())) 8 bT.2.2.2.2).bind λcJ=>ite (decide ((sC .str (.int .i64) (rN .str (.int .i64) Qa0 9 (rN .str (.int .i64) Qa1 8 (rN .str (.int .i64) Qa2 7 (rN .str (.int .i64) Qa3 6 (rN .str (.int .i64) Qa4 5 (rN .str (.int .i64) Qa5 4 (rN .str (.int .i64) Qa6 3 ([]:List (pJ×Int))))))))) c9.1)=5)) ((D9 aC aD cJ.2.1 (cJ.2.2.1,(cJ.2.2.2,())) bT.2.2.2.2).bind λcK=>(sT aC aD cK.2.1 (cK.2.2.1,(cK.2.2.2,())) 3 bT.2.2.2.2).bind λcL=>some ((sC .str (.int .i64) (rN .str (.int .i64) Qa0 9 (rN .str (.int .i64) Qa1 8 (rN .str (.int .i64) Qa2 7 (rN .str (.int .i64) Qa3 6 (rN .str (.int .i64) Qa4 5 (rN .str (.int .i64) Qa5 4 (rN .str (.int .i64) Qa6 3 ([]:List (pJ×Int))))))))) c9.1),bT.1,cK.1,([]:List qT),cL.2.1,cL.2.2.1,cL.2.2.2,bT.2.2.2.2)) ((C5 aC aD cJ.2.1 (cJ.2.2.1,(cJ.2.2.2,())) bT.2.2.2.2).bind λcN=>(sT aC aD cN.2.1 (cN.2.2.1,(cN.2.2.2,())) 3 bT.2.2.2.2).bind λcO=>some ((sC .str (.int .i64) (rN .str (.int .i64) Qa0 9 (rN .str (.int .i64) Qa1 8 (rN .str (.int .i64) Qa2 7 (rN .str (.int .i64) Qa3 6 (rN .str (.int .i64) Qa4 5 (rN .str (.int .i64) Qa5 4 (rN .str (.int .i64) Qa6 3 ([]:List (pJ×Int))))))))) c9.1),bT.1,cN.1,([]:List qT),cO.2.1,cO.2.2.1,cO.2.2.2,bT.2.2.2.2)))))) none)
theorem aGG:qZ prog (xp (KV O a8 aA aB)):=
 rJ (rH (qO tO (qO rY (qO BD (qO A4 (qO zJ (qO yP (qO v6 (qO AQ (qO N6 rG))))))))) (qS EP (qS fj (qS C2 (qS WZ (qS EL (qS T2 (qS aEl (qS hG3 rF))))))))) func198 100 [(6,some 183)] rfl λE ⟨aE,aF,aC,aD,aV,aW,aX⟩=>by
  have u0:= @KV.eq_1
  let j1 (bW:(pJ×Int×Int×Int)) (bT:(pJ×Int×Int×Int×pS)):JE 43 (Int×Int):=⟨λx=>⟨[(0,rs 0 0),(1,iv aE),(2,bv aF),(6,rs 2 0),(7,rs 3 0),(8,rs 4 0),(9,sv .clo (some (253,[(4,0)])))],[(0,.cells tG (aC,(aD,(bW.2.1,((some 1),(x.1,(x.2,())))))) []),(1,.map .str .bool bT.2.2.2.2),(2,.cells sN (0,(([]:pJ),(([]:pJ),(([]:pJ),(([]:List qT),(([]:List qG),())))))) [(4,5),(5,6)]),(3,.cells sN (2,(([]:pJ),(bT.1,(([]:pJ),(([]:List qT),(([]:List qG),())))))) [(4,7),(5,8)]),(4,.cells .mp (some 9) []),(5,.grow 186 2 (([]:List qT).length)),(6,.grow 183 6 (([]:List qG).length)),(7,.grow 186 2 (([]:List qT).length)),(8,.grow 183 6 (([]:List qG).length)),(9,.map .str (.int .i64) (rN .str (.int .i64) Qa0 9 (rN .str (.int .i64) Qa1 8 (rN .str (.int .i64) Qa2 7 (rN .str (.int .i64) Qa3 6 (rN .str (.int .i64) Qa4 5 (rN .str (.int .i64) Qa5 4 (rN .str (.int .i64) Qa6 3 ([]:List (pJ×Int))))))))))],10,100,2⟩⟩
  have E2:=(rH (qO tO (qO rY (qO BD (qO A4 (qO zJ (qO yP (qO v6 (qO AQ (qO N6 rG))))))))) (qS EP (qS fj (qS C2 (qS WZ (qS EL (qS T2 (qS aEB (qS hG3 rF)))))))));have E3:=(rH (qO tO (qO rY (qO BD (qO A4 (qO zJ (qO yP (qO v6 (qO AQ (qO N6 rG))))))))) (qS EP (qS fj (qS C2 (qS WZ (qS EL (qS T2 (qS hG3 (qS aEQ rF)))))))));have E4:=(rH (qO tO (qO rY (qO BD (qO A4 (qO zJ (qO yP (qO v6 (qO AQ (qO N6 rG))))))))) (qS EP (qS fj (qS C2 (qS WZ (qS EL (qS T2 (qS hG3 (qS Zb rF)))))))));exact rM
def C7 (aC:pJ) (aD:Ja2) (aE:Int) (aF:Int) (cP:Bool) (O:pJ->Ja2->Int->pR->Int->Bool->pS->Option (Ja0×Int×Int×Int×pS)):(Ja1×Bool×Int×Int×Int×pS×pS)->Option ((Ja1×Bool×Int×Int×Int×pS×pS)⊕(Ja1×Int×Int×Int×pS×pS)):=fun(cQ,cS,cT,cU,cV,cW,cX)=>ite (cS==false) (ite ((cS==false)=true->(vU aC aD cT (cU,(cV,())) cW).isSome=true) (ite (cS||((val (vU aC aD cT (cU,(cV,())) cW))=9)) ((vU aC aD cT (cU,(cV,())) cW).bind λcY=>ite (((decide (cY=9))==true)=true->0<=cT/\cT<(aD.length:Int)) (ite (((decide (cY=9))==true)=true->(DB aE ((qI sO aD cT).2.1)).isSome=true) (rD (σ:=(Int×Int)) (ite ((cY=9)&&(val (DB aE ((qI sO aD cT).2.1)))) (rD (σ:=(Int×Int)) (ite (decide (20<=(cQ.length:Int))) ((vV aC aD cT (cU,(cV,())) 6 cW).bind λcZ=>some (cZ.1,cZ.2)) (some (cU,cV))) fun(d5,d6)=>ite (0<=cT/\cT<(aD.length:Int)) (ite (sC .str .bool cX ((qI sO aD cT).2.1)) ((vV aC aD cT (d5,(d6,())) 9 cW).bind λd7=>some (d7.1,d7.2)) (some (d5,d6))) none) (some (cU,cV))) fun(d9,dA)=>(ES aC aD cT (d9,(dA,())) aE cW).bind λdB=>(sT aC aD dB.2.1 (dB.2.2.1,(dB.2.2.2,())) 2 cW).bind λdC=>(O aC aD dC.2.1 (dC.2.2.1,(dC.2.2.2,())) aF (cP||(!decide (aE=9))) cW).bind λdD=>(sT aC aD dD.2.1 (dD.2.2.1,(dD.2.2.2.1,())) 3 dD.2.2.2.2).bind λdE=>ite ((cQ.length+([(dB.1,(dD.1,()))]:List qT).length)*40<=140737488355328) (some (.inl ((cQ++([(dB.1,(dD.1,()))]:List qT)),false,dE.2.1,dE.2.2.1,dE.2.2.2,dD.2.2.2.2,(rN .str .bool dB.1 true cX)))) none) none) none) (some (.inr (cQ,cT,cU,cV,cW,cX)))) none) (ite true ((vU aC aD cT (cU,(cV,())) cW).bind λdF=>ite (((decide (dF=9))==true)=true->0<=cT/\cT<(aD.length:Int)) (ite (((decide (dF=9))==true)=true->(DB aE ((qI sO aD cT).2.1)).isSome=true) (rD (σ:=(Int×Int)) (ite ((dF=9)&&(val (DB aE ((qI sO aD cT).2.1)))) (rD (σ:=(Int×Int)) (ite (decide (20<=(cQ.length:Int))) ((vV aC aD cT (cU,(cV,())) 6 cW).bind λdG=>some (dG.1,dG.2)) (some (cU,cV))) fun(dI,dJ)=>ite (0<=cT/\cT<(aD.length:Int)) (ite (sC .str .bool cX ((qI sO aD cT).2.1)) ((vV aC aD cT (dI,(dJ,())) 9 cW).bind λdK=>some (dK.1,dK.2)) (some (dI,dJ))) none) (some (cU,cV))) fun(dL,dM)=>(ES aC aD cT (dL,(dM,())) aE cW).bind λdN=>(sT aC aD dN.2.1 (dN.2.2.1,(dN.2.2.2,())) 2 cW).bind λdO=>(O aC aD dO.2.1 (dO.2.2.1,(dO.2.2.2,())) aF (cP||(!decide (aE=9))) cW).bind λdP=>(sT aC aD dP.2.1 (dP.2.2.1,(dP.2.2.2.1,())) 3 dP.2.2.2.2).bind λdQ=>ite ((cQ.length+([(dN.1,(dP.1,()))]:List qT).length)*40<=140737488355328) (some (.inl ((cQ++([(dN.1,(dP.1,()))]:List qT)),false,dQ.2.1,dQ.2.2.1,dQ.2.2.2,dP.2.2.2.2,(rN .str .bool dN.1 true cX)))) none) none) none) (some (.inr (cQ,cT,cU,cV,cW,cX))))
def II (O:pJ->Ja2->Int->pR->Int->Bool->pS->Option (Ja0×Int×Int×Int×pS)) (a8:pJ->Ja2->Int->pR->Int->Bool->pS->Option (pJ×Ja0×Int×Int×Int×pS)) (aA:pJ->Ja2->Int->pR->Int->Bool->pS->Option (Int×pJ×pJ×Ja1×Int×Int×Int×pS)) (aB:pJ->Ja2->Int->pR->Int->Int->Bool->pS->Option (Ja1×Int×Int×Int×pS)) (aC:pJ) (aD:Ja2) (aV:Int) (aW:pR) (aE:Int) (aF:Int) (cP:Bool) (dR:pS):Option (Ja1×Int×Int×Int×pS):=rD (rC (C7 aC aD aE aF cP O) (([]:List qT),true,aV,aW.1,aW.2.1,dR,([]:pS))) fun(dT,dU,dV,dW,dX,dY)=>(vU aC aD dU (dV,(dW,())) dX).bind λdZ=>ite ((dZ=3)&&(!(sC .str .bool dY Qb5))) ((vV aC aD dU (dV,(dW,())) 13 dX).bind λe8=>some (dT,dU,e8.1,e8.2,dX)) (some (dT,dU,dV,dW,dX))
theorem aGH:qZ prog (xq (II O a8 aA aB)):=
 rJ (rH (qO tO (qO HW (qO rY (qO N7 (qO uW (qO A4 (qO zJ (qO yP (qO AR (qO AQ rG)))))))))) (qS C2 (qS xj (qS EN (qS aF8 (qS EP (qS hG0 rF))))))) func256 93 [(8,none)] rfl λE ⟨aE,aF,cP,aC,aD,aV,aW,dR⟩=>by
  have u0:= @II.eq_1;have u1:= @C7.eq_1
  let l1:LE (C7 aC aD aE aF cP O):=⟨λx=>⟨[(0,rs 0 0),(2,iv aF),(3,bv cP),(5,rs 2 0),(9,(.val (.list rV) x.1,some 3)),(10,sv .mp (some 4)),(11,bv x.2.1)],[(0,.cells tG (aC,(aD,(x.2.2.1,((some 1),(x.2.2.2.1,(x.2.2.2.2.1,())))))) []),(1,.map .str .bool x.2.2.2.2.2.1),(2,.cells (.int .i64) aE []),(3,.grow 186 2 (x.1.length)),(4,.map .str .bool x.2.2.2.2.2.2)],5,93,2⟩⟩
  let j1 cQ cY cT cW cX:JE 37 (Int×Int):=⟨λx=>⟨[(0,rs 0 0),(2,iv aF),(3,bv cP),(5,rs 2 0),(9,(.val (.list rV) cQ,some 3)),(10,sv .mp (some 4)),(17,iv cY)],[(0,.cells tG (aC,(aD,(cT,((some 1),(x.1,(x.2,())))))) []),(1,.map .str .bool cW),(2,.cells (.int .i64) aE []),(3,.grow 186 2 (cQ.length)),(4,.map .str .bool cX)],5,93,2⟩⟩
  let j2 cQ cY cT cW cX:JE 40 (Int×Int):=⟨λx=>⟨[(0,rs 0 0),(2,iv aF),(3,bv cP),(5,rs 2 0),(9,(.val (.list rV) cQ,some 3)),(10,sv .mp (some 4)),(17,iv cY)],[(0,.cells tG (aC,(aD,(cT,((some 1),(x.1,(x.2,())))))) []),(1,.map .str .bool cW),(2,.cells (.int .i64) aE []),(3,.grow 186 2 (cQ.length)),(4,.map .str .bool cX)],5,93,2⟩⟩
  let j3 cQ cT cW cX:JE 37 (Int×Int):=⟨λx=>⟨[(0,rs 0 0),(2,iv aF),(3,bv cP),(5,rs 2 0),(9,(.val (.list rV) cQ,some 3)),(10,sv .mp (some 4))],[(0,.cells tG (aC,(aD,(cT,((some 1),(x.1,(x.2,())))))) []),(1,.map .str .bool cW),(2,.cells (.int .i64) aE []),(3,.grow 186 2 (cQ.length)),(4,.map .str .bool cX)],5,93,2⟩⟩
  let j4 cQ cT cW cX:JE 40 (Int×Int):=⟨λx=>⟨[(0,rs 0 0),(2,iv aF),(3,bv cP),(5,rs 2 0),(9,(.val (.list rV) cQ,some 3)),(10,sv .mp (some 4))],[(0,.cells tG (aC,(aD,(cT,((some 1),(x.1,(x.2,())))))) []),(1,.map .str .bool cW),(2,.cells (.int .i64) aE []),(3,.grow 186 2 (cQ.length)),(4,.map .str .bool cX)],5,93,2⟩⟩
  let x1:XE (C7 aC aD aE aF cP O) 0 (Ja1×Int×Int×Int×pS×pS):=⟨λx=>⟨[(0,rs 0 0),(9,(.val (.list rV) x.1,some 2)),(10,sv .mp (some 3))],[(0,.cells tG (aC,(aD,(x.2.1,((some 1),(x.2.2.1,(x.2.2.2.1,())))))) []),(1,.map .str .bool x.2.2.2.2.1),(2,.grow 186 2 (x.1.length)),(3,.map .str .bool x.2.2.2.2.2)],4,93,2⟩⟩
  let s1:pY:=[1000000002]
  exact rM
end
def aGI (p:(pJ->Ja2->Int->pR->Int->Bool->pS->Option (Ja0×Int×Int×Int×pS))×(pJ->Ja2->Int->pR->Int->Bool->pS->Option (pJ×Ja0×Int×Int×Int×pS))×(pJ->Ja2->Int->pR->Int->Bool->pS->Option (Int×pJ×pJ×Ja1×Int×Int×Int×pS))×(pJ->Ja2->Int->pR->Int->Int->Bool->pS->Option (Ja1×Int×Int×Int×pS))):(pJ->Ja2->Int->pR->Int->Bool->pS->Option (Ja0×Int×Int×Int×pS))×(pJ->Ja2->Int->pR->Int->Bool->pS->Option (pJ×Ja0×Int×Int×Int×pS))×(pJ->Ja2->Int->pR->Int->Bool->pS->Option (Int×pJ×pJ×Ja1×Int×Int×Int×pS))×(pJ->Ja2->Int->pR->Int->Int->Bool->pS->Option (Ja1×Int×Int×Int×pS)):=(IH p.1 p.2.1 p.2.2.1 p.2.2.2,EU p.1 p.2.1 p.2.2.1 p.2.2.2,KV p.1 p.2.1 p.2.2.1 p.2.2.2,II p.1 p.2.1 p.2.2.1 p.2.2.2)
def PR (n:Nat):(pJ->Ja2->Int->pR->Int->Bool->pS->Option (Ja0×Int×Int×Int×pS))×(pJ->Ja2->Int->pR->Int->Bool->pS->Option (pJ×Ja0×Int×Int×Int×pS))×(pJ->Ja2->Int->pR->Int->Bool->pS->Option (Int×pJ×pJ×Ja1×Int×Int×Int×pS))×(pJ->Ja2->Int->pR->Int->Int->Bool->pS->Option (Ja1×Int×Int×Int×pS)):=Nat.rec (motive:=λ_=>(pJ->Ja2->Int->pR->Int->Bool->pS->Option (Ja0×Int×Int×Int×pS))×(pJ->Ja2->Int->pR->Int->Bool->pS->Option (pJ×Ja0×Int×Int×Int×pS))×(pJ->Ja2->Int->pR->Int->Bool->pS->Option (Int×pJ×pJ×Ja1×Int×Int×Int×pS))×(pJ->Ja2->Int->pR->Int->Int->Bool->pS->Option (Ja1×Int×Int×Int×pS))) ((λ_ _ _ _ _ _ _=>none),(λ_ _ _ _ _ _ _=>none),(λ_ _ _ _ _ _ _=>none),(λ_ _ _ _ _ _ _ _=>none)) (λ_ p=>aGI p) n
theorem a2l: ∀n:Nat,qZ prog (fq (PR n).1)/\qZ prog (xo (PR n).2.1)/\qZ prog (xp (PR n).2.2.1)/\qZ prog (xq (PR n).2.2.2)
 |0=>⟨uZ,uZ,uZ,uZ⟩
 |n+1=>have h:=a2l n;⟨aGE h.1 h.2.1 h.2.2.1 h.2.2.2,aGF h.1 h.2.1 h.2.2.1 h.2.2.2,aGG h.1 h.2.1 h.2.2.1 h.2.2.2,aGH h.1 h.2.1 h.2.2.1 h.2.2.2⟩
def PS:pJ->Ja2->Int->pR->Int->Bool->pS->Option (Ja0×Int×Int×Int×pS):=(PR 1000).1
@[go_sem] abbrev aGJ:Nat×r8:=fq PS
theorem aGK:qZ prog aGJ:=(a2l 1000).1
theorem a2m:PS=(PR 1000).1:=rfl
attribute [irreducible] IH EU KV II PS
end
noncomputable section
end
end Go.Proofs.YtedimeeleabhnaaGreatDoor
