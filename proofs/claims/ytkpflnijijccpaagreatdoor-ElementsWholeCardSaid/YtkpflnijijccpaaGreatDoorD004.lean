/- Packed by a program of mine (wip/tools/pack.py): the same texts with short names and few blanks. -/
import Derived.KernelRfl
import Derived.Laws.BitsLemmas
import Derived.Lib.CountLaws
import Derived.Lib.Index
import Derived.Lib.IndexAny
import Derived.Lib.IndexMore
import Derived.Lib.MapLaws
import Derived.Lib.RowBridge
import Derived.Lib.TrimAscii
import Derived.Lib.TrimUEq
import Derived.Lib.ValidLaws
import Derived.Sort.Walk0
import Derived.Test.YtkpflnijijccpaaGreatDoorD003
set_option linter.defProp false
set_option linter.unusedVariables false
set_option linter.unusedSimpArgs false
set_option linter.unusedSectionVars false
set_option maxRecDepth 100000
set_option maxHeartbeats 4000000
namespace Go.Proofs.YtkpflnijijccpaaGreatDoor
open Vc
noncomputable section
def EN (O:((List s9)×Int×Int×pC×pD×(List r6)×pL)):((List s9)×Int×Int×(List sF)×pL×pJ)→Option (((List s9)×Int×Int×(List sF)×pL×pJ)⊕((List s9)×Int×Int×(List sF)×pL×pJ)):=fun(Z,aA,aB,aC,aD,aE)=>if (decide (aB=(0:Int)))=true then (zV Z aA aB (O.2.2.2.1,(O.2.2.2.2.1,(O.2.2.2.2.2.1,(aC,())))) (aD,()) aE).bind fun aF=>(AE aF aA aB (O.2.2.2.1,(O.2.2.2.2.1,(O.2.2.2.2.2.1,(aC,())))) (aD,()) aE).bind fun aG=>if (decide (aG.1=(3:Int)))=true then some (.inr (aF,aA,aB,aC,aD,aE)) else (BR aF aA aB (O.2.2.2.1,(O.2.2.2.2.1,(O.2.2.2.2.2.1,(aC,())))) (aD,()) aE).bind fun aH=>some (.inl (aH.1,aH.2.1,aH.2.2.1,aH.2.2.2.1,aH.2.2.2.2.1,aH.2.2.2.2.2)) else some (.inr (Z,aA,aB,aC,aD,aE))
def yO (O:pC):Option ((List s9)×Int×Int×pC×pD×(List r6)×(List sF)×pL×pJ):=(Gs.slices_Collect_elements_token_elements_tokensF1 O).bind fun Z=>(BQ Z (0:Int) (0:Int) (([]:pC),(([]:pD),(([]:List r6),(([]:List sF),())))) (([]:pL),()) ([]:pJ)).bind fun aA=>sJ (rU (EN aA) (aA.1,aA.2.1,aA.2.2.1,([]:List sF),aA.2.2.2.2.2.2,([]:pJ))) fun(aB,aC,aD,aE,aF,aG)=>(B2 aB aC aD (aA.2.2.2.1,(aA.2.2.2.2.1,(aA.2.2.2.2.2.1,(aE,())))) (aF,()) ([101,110,116,114,105,101,115]:pC) aG).bind fun aH=>sJ (σ:=(List s9)) (if (decide (aH.2.2=(0:Int)))=true then (zV aH.1 aH.2.1 aH.2.2 (aA.2.2.2.1,(aA.2.2.2.2.1,(aA.2.2.2.2.2.1,(aE,())))) (aF,()) aG).bind fun aI=>some (aI) else some (aH.1) ) fun aJ=>(B2 aJ aH.2.1 aH.2.2 (aA.2.2.2.1,(aA.2.2.2.2.1,(aA.2.2.2.2.2.1,(aE,())))) (aF,()) ([99,97,116,97,108,111,103]:pC) aG).bind fun aK=>sJ (σ:=(List s9)) (if (decide (aK.2.2=(0:Int)))=true then (zV aK.1 aK.2.1 aK.2.2 (aA.2.2.2.1,(aA.2.2.2.2.1,(aA.2.2.2.2.2.1,(aE,())))) (aF,()) aG).bind fun aL=>some (aL) else some (aK.1) ) fun aM=>if 0≤(0:Int)∧(0:Int)<(aM.length:Int) then if (!decide ((qU sM aM (0:Int)).1=(4:Int)))=true then (zD aM aK.2.1 aK.2.2 (aA.2.2.2.1,(aA.2.2.2.2.1,(aA.2.2.2.2.2.1,(aE,())))) (aF,()) (3:Int) aG).bind fun aN=>some ((aM,aN.1,aN.2,aA.2.2.2.1,aA.2.2.2.2.1,aA.2.2.2.2.2.1,aE,aF,aG)) else some ((aM,aK.2.1,aK.2.2,aA.2.2.2.1,aA.2.2.2.2.1,aA.2.2.2.2.2.1,aE,aF,aG)) else none
section
variable (O:pC)
abbrev a7R:List qB:=[(.val .str O,none)]
abbrev a7S:List q9:=[]
@[go_sem] def a7T:qH:=⟨[((yO O)).isSome=true],[(.val .ref (some (0,0)),none)],[.cells sN ((val (yO O)).1,((val (yO O)).2.1,((val (yO O)).2.2.1,(((val (yO O)).2.2.2.1,((val (yO O)).2.2.2.2.1,((val (yO O)).2.2.2.2.2.1,((val (yO O)).2.2.2.2.2.2.1,())))),((some 1),((val (yO O)).2.2.2.2.2.2.2.1,())))))) [(6,2),(8,3)],.map .str .bool ((val (yO O)).2.2.2.2.2.2.2.2),.grow 53 7 (((val (yO O)).2.2.2.2.2.2.1).length),.grow 3 1 (((val (yO O)).2.2.2.2.2.2.2.1).length)]⟩
def aFp:List qB→List q9→Option qH:=rP (V:=pC) (a7R) (fun x=>a7S) fun x=>a7T x
@[go_sem] def aQ9:aFp (no_index (a7R O)) (no_index a7S)=some (a7T O):=rR (fun a0 b0 h1 h2=>by cases h1;cases h2;rfl) O
end
@[go_sem] abbrev a7U:Nat×qW:=(26,⟨[.v],aFp,[],[],none⟩)
def zG:rI Tryz.prog [xK,B0,sL,CL,CJ,IW,BI,AC,yZ] (rJ [aCK,a2f,aFm,O1,HG,aFo,S3,L5]):=⟨⟨yA,⟨CN,⟨sO,⟨E8,⟨GO,⟨NL,⟨DB,⟨FF,⟨zU,trivial⟩⟩⟩⟩⟩⟩⟩⟩⟩,qK aLt (qK aLo (qK aMn (qK RQ (qK JC (qK aMp (qK X5 (qK NM rN))))))),rL⟩
def aFq:r5 Tryz.prog a7U:=by
 refine rS zG Tryz.func26 (c:=_) rfl (N:=54) pT (ts:=[(2,none)]) rfl (fun _ _=>rfl) ?_;intro O hs hrow;dsimp only[a7R,a7S,a7T,rM,qM,qY,r7,rO,Nat.reduceAdd] at hs hrow|-;have hz:=hs;obtain⟨z0,e⟩:=aRh.1 hz
 try rw[rY e]
 clear hz hs;unfold yO at e;refine q8 zG ?_;obtain⟨Z,hv1,hw1,e⟩:=qQ e
 try simp only[go_sem] at hw1
 refine q8 zG ?_ (hp:=by exact⟨pS,(qP hv1)⟩) (h:=by simp only[go_sem,hw1];rfl)
 obtain⟨aA,hv2,hw2,e⟩:=qQ e
 try simp only[go_sem] at hw2
 refine q8 zG ?_ (hp:=by exact⟨pS,pS,pS,pS,(qP hv2)⟩) (h:=by simp only[go_sem,hw2];rfl)
 refine qS (rW ?_);obtain⟨y1,hy1,e⟩:=qI e;refine uV 0 (fun s=>s=(fun x=>⟨[(3,(.val .ref (some (0,0)),none))],[(0,.cells sN (x.1,(x.2.1,(x.2.2.1,((aA.2.2.2.1,(aA.2.2.2.2.1,(aA.2.2.2.2.2.1,(x.2.2.2.1,())))),((some 1),(x.2.2.2.2.1,())))))) [(6,2),(8,3)]),(1,.map .str .bool x.2.2.2.2.2),(2,.grow 53 7 (x.2.2.2.1.length)),(3,.grow 3 1 (x.2.2.2.2.1.length))],4,54,0⟩) y1) ?_ ?_
 .refine uP hy1 (fun x=>⟨[(3,(.val .ref (some (0,0)),none))],[(0,.cells sN (x.1,(x.2.1,(x.2.2.1,((aA.2.2.2.1,(aA.2.2.2.2.1,(aA.2.2.2.2.2.1,(x.2.2.2.1,())))),((some 1),(x.2.2.2.2.1,())))))) [(6,2),(8,3)]),(1,.map .str .bool x.2.2.2.2.2),(2,.grow 53 7 (x.2.2.2.1.length)),(3,.grow 3 1 (x.2.2.2.2.1.length))],4,54,0⟩) ⟨[3],[(0,192),(1,128),(2,195),(3,196)]⟩ pU ?_;intro x1 w1 n1 d f;obtain⟨aB,aC,aD,aE,aF,aG⟩:=x1;unfold EN at d;dsimp only at d|-;refine qS ?_;refine q8 zG ?_;refine qV d (fun d hc1=> ?_) (fun d hc1=> ?_)
  .refine r8 (qO (rW ?_));obtain⟨aH,hv3,hw3,d⟩:=qQ d
   try simp only[go_sem] at hw3
   refine q8 zG ?_ (hp:=by exact⟨pS,pS,pS,pS,pS,(qP hv3)⟩) (h:=by simp only[go_sem,hw3];rfl)
   refine qS ?_;obtain⟨aI,hv4,hw4,d⟩:=qQ d
   try simp only[go_sem] at hw4
   refine q8 zG ?_ (hp:=by exact⟨pS,pS,pS,pS,pS,pS,(qP hv4)⟩) (h:=by simp only[go_sem,hw4];rfl)
   refine qV d (fun d hc2=> ?_) (fun d hc2=> ?_)
   .refine uJ (uI (aBF pG (uL ?_)));cases d;cases f;exact uK ⟨⟨[3],[(0,0),(1,1),(2,2),(3,3)]⟩,by rfl⟩
   .refine r8 (qO ?_);obtain⟨aJ,hv5,hw5,d⟩:=qQ d
    try simp only[go_sem] at hw5
    refine rF zG ?_ (hp:=by exact⟨pS,pS,(qP hv5)⟩) (h:=by simp only[go_sem,hw5];rfl)
    refine rT ?_;cases d;exact tC ⟨⟨[3],[(0,0),(1,1),(2,2),(3,3)]⟩,_,by rfl,f⟩
  .refine uJ (uI (uL ?_));cases d;cases f;exact uK ⟨⟨[3],[(0,0),(1,1),(2,2),(3,3)]⟩,by rfl⟩
 .rintro _ rfl;obtain⟨aK,aL,aM,aN,aO,aP⟩:=y1;dsimp only at e|-;refine uU (qO ?_);obtain⟨aQ,hv6,hw6,e⟩:=qQ e
  try simp only[go_sem] at hw6
  refine q8 zG ?_ (hp:=by exact⟨pS,pS,pS,pS,pS,(qP hv6)⟩) (h:=by simp only[go_sem,hw6];rfl)
  refine qS ?_;refine q8 zG ?_;obtain⟨aR,d,e⟩:=qI e;refine yY (fun s=>s=(fun x=>⟨[(3,(.val .ref (some (0,0)),none))],[(0,.cells sN (x,(aQ.2.1,(aQ.2.2,((aA.2.2.2.1,(aA.2.2.2.2.1,(aA.2.2.2.2.2.1,(aN,())))),((some 1),(aO,())))))) [(6,2),(8,3)]),(1,.map .str .bool aP),(2,.grow 53 7 (aN.length)),(3,.grow 3 1 (aO.length))],4,54,0⟩) aR) ?_ ?_
  .refine qV d (fun d hc3=> ?_) (fun d hc3=> ?_)
   .obtain⟨aS,hv7,hw7,d⟩:=qQ d
    try simp only[go_sem] at hw7
    refine rF zG ?_ (hp:=by exact⟨pS,pS,pS,pS,pS,(qP hv7)⟩) (h:=by simp only[go_sem,hw7];rfl)
    cases d;exact tY ⟨⟨[3],[(0,0),(1,1),(2,2),(3,3)]⟩,by rfl⟩
   .refine r8 ?_;cases d;exact tY ⟨⟨[3],[(0,0),(1,1),(2,2),(3,3)]⟩,by rfl⟩
  .rintro _ rfl;dsimp only at e|-;refine qO ?_;obtain⟨aT,hv8,hw8,e⟩:=qQ e
   try simp only[go_sem] at hw8
   refine q8 zG ?_ (hp:=by exact⟨pS,pS,pS,pS,pS,(qP hv8)⟩) (h:=by simp only[go_sem,hw8];rfl)
   refine qS ?_;refine q8 zG ?_;obtain⟨aU,d,e⟩:=qI e;refine yY (fun s=>s=(fun x=>⟨[(3,(.val .ref (some (0,0)),none))],[(0,.cells sN (x,(aT.2.1,(aT.2.2,((aA.2.2.2.1,(aA.2.2.2.2.1,(aA.2.2.2.2.2.1,(aN,())))),((some 1),(aO,())))))) [(6,2),(8,3)]),(1,.map .str .bool aP),(2,.grow 53 7 (aN.length)),(3,.grow 3 1 (aO.length))],4,54,0⟩) aU) ?_ ?_
   .refine qV d (fun d hc4=> ?_) (fun d hc4=> ?_)
    .obtain⟨aV,hv9,hw9,d⟩:=qQ d
     try simp only[go_sem] at hw9
     refine rF zG ?_ (hp:=by exact⟨pS,pS,pS,pS,pS,(qP hv9)⟩) (h:=by simp only[go_sem,hw9];rfl)
     cases d;exact tY ⟨⟨[3],[(0,0),(1,1),(2,2),(3,3)]⟩,by rfl⟩
    .refine r8 ?_;cases d;exact tY ⟨⟨[3],[(0,0),(1,1),(2,2),(3,3)]⟩,by rfl⟩
   .rintro _ rfl;dsimp only at e|-;refine qO (qS ?_);obtain⟨hg10,e⟩:=qG e;refine q8 zG ?_ (hp:=by exact hg10);refine qV e (fun e hc5=> ?_) (fun e hc5=> ?_)
    .obtain⟨aW,hv11,hw11,e⟩:=qQ e
     try simp only[go_sem] at hw11
     refine rF zG ?_ (hp:=by exact⟨pS,pS,pS,pS,pS,(qP hv11)⟩) (h:=by simp only[go_sem,hw11];rfl)
     refine qO ?_;refine q8 zG ?_;refine qR ?_;cases e;exact pE [(0,0),(1,1),(2,2),(3,3)]
    .refine r8 (qO ?_);refine q8 zG ?_;refine qR ?_;cases e;exact pE [(0,0),(1,1),(2,2),(3,3)]
def OB (O:pC) (Z:((List s9)×Int×Int×pC×pD×(List r6)×(List sF)×pL×pJ)):(Int×pD)→Option ((Int×pD)⊕pD):=fun(aA,aB)=>if (decide (aA<(Z.2.2.2.2.2.2.2.1.length:Int)))=true then if qC (aA- (1:Int)) then if 0≤(aA- (1:Int))∧(aA- (1:Int))<(Z.2.2.2.2.2.2.2.1.length:Int) then if 0≤aA∧aA<(Z.2.2.2.2.2.2.2.1.length:Int) then if 0≤(qU (.int .i64) Z.2.2.2.2.2.2.2.1 (aA- (1:Int)))∧(qU (.int .i64) Z.2.2.2.2.2.2.2.1 (aA- (1:Int)))≤(qU (.int .i64) Z.2.2.2.2.2.2.2.1 aA)∧(qU (.int .i64) Z.2.2.2.2.2.2.2.1 aA)≤(O.length:Int) then if (aB.length+([(sC O (qU (.int .i64) Z.2.2.2.2.2.2.2.1 (aA- (1:Int))) (qU (.int .i64) Z.2.2.2.2.2.2.2.1 aA))]:pD).length)*16≤140737488355328 then if qC (aA+(1:Int)) then some (.inl ((aA+(1:Int)),(aB++([(sC O (qU (.int .i64) Z.2.2.2.2.2.2.2.1 (aA- (1:Int))) (qU (.int .i64) Z.2.2.2.2.2.2.2.1 aA))]:pD)))) else none else none else none else none else none else none else some (.inr aB)
def zX (O:pC):Option (pC×pD×pC×Int):=(yO O).bind fun Z=>if (!decide (Z.2.2.1=(0:Int)))=true then some ((([]:pC),([]:pD),([]:pC),Z.2.2.1)) else if 0≤(0:Int)∧(0:Int)<(Z.2.2.2.2.2.2.2.1.length:Int) then if 0≤(0:Int)∧(0:Int)≤(qU (.int .i64) Z.2.2.2.2.2.2.2.1 (0:Int))∧(qU (.int .i64) Z.2.2.2.2.2.2.2.1 (0:Int))≤(O.length:Int) then if qC ((Z.2.2.2.2.2.2.2.1.length:Int)- (1:Int)) then if 0≤((Z.2.2.2.2.2.2.2.1.length:Int)- (1:Int))∧((Z.2.2.2.2.2.2.2.1.length:Int)- (1:Int))<(Z.2.2.2.2.2.2.2.1.length:Int) then if 0≤(qU (.int .i64) Z.2.2.2.2.2.2.2.1 ((Z.2.2.2.2.2.2.2.1.length:Int)- (1:Int)))∧(qU (.int .i64) Z.2.2.2.2.2.2.2.1 ((Z.2.2.2.2.2.2.2.1.length:Int)- (1:Int)))≤(O.length:Int)∧(O.length:Int)≤(O.length:Int) then sJ (rU (OB O Z) ((1:Int),([]:pD))) fun aA=>some (((sC O (0:Int) (qU (.int .i64) Z.2.2.2.2.2.2.2.1 (0:Int))),aA,(sC O (qU (.int .i64) Z.2.2.2.2.2.2.2.1 ((Z.2.2.2.2.2.2.2.1.length:Int)- (1:Int))) (O.length:Int)),(0:Int))) else none else none else none else none else none
section
variable (O:pC)
abbrev a7V:List qB:=[(.val .str O,none)]
abbrev a7W:List q9:=[]
@[go_sem] def a7X:qH:=⟨[((zX O)).isSome=true],[(.val xA ((val (zX O)).1,((val (zX O)).2.1,((val (zX O)).2.2.1,()))),none),(.val (.int .i64) ((val (zX O)).2.2.2),none)],[]⟩
def aFr:List qB→List q9→Option qH:=rP (V:=pC) (a7V) (fun x=>a7W) fun x=>a7X x
@[go_sem] def aRa:aFr (no_index (a7V O)) (no_index a7W)=some (a7X O):=rR (fun a0 b0 h1 h2=>by cases h1;cases h2;rfl) O
end
@[go_sem] abbrev aFs:Nat×qW:=(9,⟨[.v],aFr,[],[],none⟩)
def EO:rI Tryz.prog [xK,sL,wE,GP,CL,GR,BI] (rJ [a7U]):=⟨⟨yA,⟨sO,⟨x4,⟨L2,⟨E8,⟨L4,⟨DB,trivial⟩⟩⟩⟩⟩⟩⟩,qK aFq rN,rL⟩
def aMq:r5 Tryz.prog aFs:=by
 refine rS EO Tryz.func9 (c:=_) rfl (N:=74) pT (ts:=[(2,some 26),(3,none)]) rfl (fun _ _=>rfl) ?_;intro O hs hrow;dsimp only[a7V,a7W,a7X,rM,qM,qY,r7,rO,Nat.reduceAdd] at hs hrow|-;have hz:=hs;obtain⟨z0,e⟩:=aRh.1 hz
 try rw[rY e]
 clear hz hs;unfold zX at e;refine q8 EO ?_;obtain⟨Z,hv1,hw1,e⟩:=qQ e
 try simp only[go_sem] at hw1
 refine q8 EO ?_ (hp:=by exact(qP hv1)) (h:=by simp only[go_sem,hw1];rfl);refine qS ?_;refine q8 EO ?_;refine qV e (fun e hc1=> ?_) (fun e hc1=> ?_)
 .refine vQ EO ?_;refine qR (rQ ?_);cases e;exact pE []
 .refine r8 (qO ?_);obtain⟨hg2,e⟩:=qG e;obtain⟨hg3,e⟩:=qG e;obtain⟨hg4,e⟩:=qG e;obtain⟨hg5,e⟩:=qG e;obtain⟨hg6,e⟩:=qG e;refine vQ EO ?_ (hp:=by exact⟨hg2,hg3,hg4,hg5,hg6⟩);refine qS ?_;refine q8 EO ?_;refine rW ?_;obtain⟨aA,hy1,e⟩:=qI e;refine uV 0 (fun s=>s=(fun x=>⟨[(2,(.val .ref (some (0,0)),none)),(5,(.val .ref (some (1,0)),none))],[(0,.cells xA (([]:pC),(([]:pD),(([]:pC),()))) [(1,2)]),(1,.cells xA ((sC O (0:Int) (qU (.int .i64) Z.2.2.2.2.2.2.2.1 (0:Int))),(x,((sC O (qU (.int .i64) Z.2.2.2.2.2.2.2.1 ((Z.2.2.2.2.2.2.2.1.length:Int)- (1:Int))) (O.length:Int)),()))) [(1,3)]),(2,.grow 9 1 (([]:pD).length)),(3,.grow 9 1 (x.length))],4,74,0⟩) aA) ?_ ?_
  .refine uP hy1 (fun x=>⟨[(0,(.val .str O,none)),(2,(.val .ref (some (0,0)),none)),(4,(.val .ref (some (1,0)),none)),(5,(.val .ref (some (2,0)),none)),(6,(.val (.int .i64) x.1,none))],[(0,.cells xA (([]:pC),(([]:pD),(([]:pC),()))) [(1,3)]),(1,.cells sN (Z.1,(Z.2.1,(Z.2.2.1,((Z.2.2.2.1,(Z.2.2.2.2.1,(Z.2.2.2.2.2.1,(Z.2.2.2.2.2.2.1,())))),((some 4),(Z.2.2.2.2.2.2.2.1,())))))) [(6,5),(8,6)]),(2,.cells xA ((sC O (0:Int) (qU (.int .i64) Z.2.2.2.2.2.2.2.1 (0:Int))),(x.2,((sC O (qU (.int .i64) Z.2.2.2.2.2.2.2.1 ((Z.2.2.2.2.2.2.2.1.length:Int)- (1:Int))) (O.length:Int)),()))) [(1,7)]),(3,.grow 9 1 (([]:pD).length)),(4,.map .str .bool Z.2.2.2.2.2.2.2.2),(5,.grow 53 7 (Z.2.2.2.2.2.2.1.length)),(6,.grow 3 1 (Z.2.2.2.2.2.2.2.1.length)),(7,.grow 9 1 (x.2.length))],8,74,0⟩) ⟨[0,2,4,5,6],[(0,0),(1,96),(2,1056),(3,1),(4,97),(5,98),(6,99),(7,1088)]⟩ pU ?_;intro x1 w1 n1 d f;obtain⟨aB,aC⟩:=x1;unfold OB at d;dsimp only at d|-;refine qS ?_;refine q8 EO ?_;refine qV d (fun d hc2=> ?_) (fun d hc2=> ?_)
   .refine r8 (qO (qS (rW ?_)));obtain⟨hg7,d⟩:=qG d;obtain⟨hg8,d⟩:=qG d;obtain⟨hg9,d⟩:=qG d;obtain⟨hg10,d⟩:=qG d;obtain⟨hg11,d⟩:=qG d;refine AW EO ?_ (hp:=by exact⟨hg7,hg8,hg9,hg10,pS,hg11⟩)
    refine rT (qO ?_);obtain⟨hg12,d⟩:=qG d;refine rF EO ?_ (hp:=by exact hg12);cases d;exact tC ⟨⟨[0,2,4,5,6],[(0,0),(1,1),(2,2),(3,3),(4,4),(5,5),(6,6),(7,7)]⟩,_,by rfl,f⟩
   .refine uJ (uI (uL ?_));cases d;cases f;exact uK ⟨⟨[2,5],[(0,0),(1,2),(2,3),(3,7)]⟩,by rfl⟩
  .rintro _ rfl;dsimp only at e|-;refine uU (qO ?_);refine q8 EO ?_;refine qR ?_;cases e;exact pE []
attribute [irreducible] yO zX
end
noncomputable section
def B4 (O:pC):Option (pC×pD×(List r6)×(List sF)×Int×Int):=(yO O).bind fun Z=>if (!decide (Z.2.2.1=(0:Int)))=true then some ((([]:pC),([]:pD),([]:List r6),([]:List sF),Z.2.1,Z.2.2.1)) else some ((Z.2.2.2.1,Z.2.2.2.2.1,Z.2.2.2.2.2.1,Z.2.2.2.2.2.2.1,(0:Int),(0:Int)))
section
variable (O:pC)
abbrev a7Y:List qB:=[(.val .str O,none)]
abbrev a7Z:List q9:=[]
@[go_sem] def a71:qH:=⟨[((B4 O)).isSome=true],[(.val IP ((val (B4 O)).1,((val (B4 O)).2.1,((val (B4 O)).2.2.1,((val (B4 O)).2.2.2.1,())))),none),(.val (.int .i64) ((val (B4 O)).2.2.2.2.1),none),(.val (.int .i64) ((val (B4 O)).2.2.2.2.2),none)],[]⟩
def aFt:List qB→List q9→Option qH:=rP (V:=pC) (a7Y) (fun x=>a7Z) fun x=>a71 x
@[go_sem] def aRb:aFt (no_index (a7Y O)) (no_index a7Z)=some (a71 O):=rR (fun a0 b0 h1 h2=>by cases h1;cases h2;rfl) O
end
@[go_sem] abbrev a73:Nat×qW:=(12,⟨[.v],aFt,[],[],none⟩)
def OC:rI Tryz.prog [xK,CL,DA,BI] (rJ [a7U]):=⟨⟨yA,⟨E8,⟨FI,⟨DB,trivial⟩⟩⟩⟩,qK aFq rN,rL⟩
def aFu:r5 Tryz.prog a73:=by
 refine rS OC Tryz.func12 (c:=_) rfl (N:=26) pT (ts:=[(2,some 36),(3,none),(4,none)]) rfl (fun _ _=>rfl) ?_;intro O hs hrow;dsimp only[a7Y,a7Z,a71,rM,qM,qY,r7,rO,Nat.reduceAdd] at hs hrow|-;have hz:=hs;obtain⟨z0,e⟩:=aRh.1 hz
 try rw[rY e]
 clear hz hs;unfold B4 at e;refine q8 OC ?_;obtain⟨Z,hv1,hw1,e⟩:=qQ e
 try simp only[go_sem] at hw1
 refine q8 OC ?_ (hp:=by exact(qP hv1)) (h:=by simp only[go_sem,hw1];rfl);refine qS ?_;refine q8 OC ?_;refine qV e (fun e hc1=> ?_) (fun e hc1=> ?_)
 .refine vQ OC ?_;refine qR (rQ ?_);cases e;exact pE []
 .refine r8 (qO ?_);refine q8 OC ?_;refine qR ?_;cases e;exact pE []
def OD:Option Bool:=(B4 ([60,99,97,116,97,108,111,103,32,116,97,103,61,34,100,101,34,62,60,101,110,116,114,105,101,115,62,60,101,110,116,114,121,32,105,100,61,34,97,34,62,60,116,97,114,103,101,116,62,120,60,47,116,97,114,103,101,116,62,60,47,101,110,116,114,121,62,60,47,101,110,116,114,105,101,115,62,60,47,99,97,116,97,108,111,103,62]:pC)).bind fun O=>if (((((decide (O.2.2.2.2.2=(0:Int)))&&(decide (O.1=([100,101]:pC))))&&(decide ((O.2.2.2.1.length:Int)=(1:Int))))==true)=true→0≤(0:Int)∧(0:Int)<(O.2.2.2.1.length:Int)) then if ((((((decide (O.2.2.2.2.2=(0:Int)))&&(decide (O.1=([100,101]:pC))))&&(decide ((O.2.2.2.1.length:Int)=(1:Int))))&&(decide ((qU tU O.2.2.2.1 (0:Int)).1=([97]:pC))))==true)=true→0≤(0:Int)∧(0:Int)<(O.2.2.2.1.length:Int)) then some ((((((decide (O.2.2.2.2.2=(0:Int)))&&(decide (O.1=([100,101]:pC))))&&(decide ((O.2.2.2.1.length:Int)=(1:Int))))&&(decide ((qU tU O.2.2.2.1 (0:Int)).1=([97]:pC))))&&(decide ((qU tU O.2.2.2.1 (0:Int)).2.2.1=([120]:pC))))) else none else none
section
abbrev a74:List qB:=[]
abbrev a77:List q9:=[]
@[go_sem] def a78:qH:=⟨[(OD).isSome=true],[(.val .bool (val OD),none)],[]⟩
def aFv:List qB→List q9→Option qH:=rP (V:=Unit) (fun x=>a74) (fun x=>a77) fun x=>a78
@[go_sem] def aRc:aFv (no_index a74) (no_index a77)=some a78:=rR (fun _ _ h1 h2=>by cases h1;cases h2;rfl) ()
end
@[go_sem] abbrev aFw:Nat×qW:=(8,⟨[],aFv,[],[],none⟩)
def XC:rI Tryz.prog [sL,IT,DA,zT] (rJ [a73]):=⟨⟨sO,⟨NK,⟨FI,⟨AY,trivial⟩⟩⟩⟩,qK aFu rN,rL⟩
def aMr:r5 Tryz.prog aFw:=by
 refine rS XC Tryz.func8 (c:=_) rfl (N:=38) pT (ts:=[(0,none)]) rfl (fun _ _=>rfl) ?_;intro⟨⟩ hs hrow;dsimp only[a74,a77,a78,rM,qM,qY,r7,rO,Nat.reduceAdd] at hs hrow|-;have hz:=hs;obtain⟨z0,e⟩:=aRh.1 hz
 try rw[rY e]
 clear hz hs;unfold OD at e;refine q8 XC ?_ (h:=by simp only[List.append_eq,go_sem];rfl);obtain⟨O,hv1,hw1,e⟩:=qQ e
 try simp only[go_sem] at hw1
 refine q8 XC ?_ (hp:=by exact(qP hv1)) (h:=by simp only[List.append_eq,go_sem,hw1];rfl);obtain⟨hg2,e⟩:=qG e;obtain⟨hg3,e⟩:=qG e;refine q8 XC ?_ (hp:=by exact⟨id,id,sY,id,id,id,sY,id,id,hg2,id,id,id,sY,id,id,hg3,id,id,id,sY⟩) (h:=by simp only[List.append_eq,go_sem];rfl);refine qR ?_;cases e;exact pE []
attribute [irreducible] B4 OD
end
noncomputable section
def LS (O:pC):Option Bool:=OD.bind fun Z=>if (!Z)=true then some (false) else if (decide ((4000:Int)<(O.length:Int)))=true then some (true) else (zX O).bind fun aA=>(B4 O).bind fun aB=>if ((!decide (aA.2.2.2=(0:Int)))||(!decide (aB.2.2.2.2.2=(0:Int))))=true then some ((decide (aA.2.2.2=aB.2.2.2.2.2))) else (JB (aB.1,(aB.2.1,(aB.2.2.1,(aB.2.2.2.1,()))))).bind fun aC=>(zX aC.1).bind fun aD=>(EK (aB.1,(aB.2.1,(aB.2.2.1,(aB.2.2.2.1,()))))).bind fun aE=>(H4 (aA.1,(aA.2.1,(aA.2.2.1,())))).bind fun aF=>if (((((((decide (aF=O))&&(decide ((aA.2.1.length:Int)=(aB.2.2.2.1.length:Int))))&&(decide (aC.2=(0:Int))))&&(decide (aD.2.2.2=(0:Int))))&&(decide (aE.2.2.2=(0:Int))))==true)=true→((J6 (aD.1,(aD.2.1,(aD.2.2.1,()))) (aE.1,(aE.2.1,(aE.2.2.1,()))))).isSome=true) then some (((((((decide (aF=O))&&(decide ((aA.2.1.length:Int)=(aB.2.2.2.1.length:Int))))&&(decide (aC.2=(0:Int))))&&(decide (aD.2.2.2=(0:Int))))&&(decide (aE.2.2.2=(0:Int))))&&(val (J6 (aD.1,(aD.2.1,(aD.2.2.1,()))) (aE.1,(aE.2.1,(aE.2.2.1,()))))))) else none
section
variable (O:pC)
abbrev SB:List qB:=[(.val .str O,none)]
abbrev XD:List q9:=[]
@[go_sem] def OE:qH:=⟨[((LS O)).isSome=true],[(.val .bool (val (LS O)),none)],[]⟩
def a79:List qB→List q9→Option qH:=rP (V:=pC) (SB) (fun x=>XD) fun x=>OE x
@[go_sem] def aMs:a79 (no_index (SB O)) (no_index XD)=some (OE O):=rR (fun a0 b0 h1 h2=>by cases h1;cases h2;rfl) O
end
@[go_sem] abbrev aMt:Nat×qW:=(7,⟨[.v],a79,[],[],none⟩)
def BS:rI Tryz.prog [sL,wE,GP,IT,DA] (rJ [aFw,aFs,a73,aE7,a7a,a4W,aCD,aEm]):=⟨⟨sO,⟨x4,⟨L2,⟨NK,⟨FI,trivial⟩⟩⟩⟩⟩,qK aMr (qK aMq (qK aFu (qK aMc (qK aE3 (qK aDV (qK aLr (qK aLY rN))))))),rL⟩
def aMu:r5 Tryz.prog aMt:=by
 refine rS BS Tryz.func7 (c:=_) rfl (N:=86) pT (ts:=[(2,none)]) rfl (fun _ _=>rfl) ?_;intro O hs hrow;dsimp only[SB,XD,OE,rM,qM,qY,r7,rO,Nat.reduceAdd] at hs hrow|-;have hz:=hs;obtain⟨z0,e⟩:=aRh.1 hz
 try rw[rY e]
 clear hz hs;unfold LS at e;refine q8 BS ?_;refine qS ?_;obtain⟨Z,hv1,hw1,e⟩:=qQ e
 try simp only[go_sem] at hw1
 refine q8 BS ?_ (hp:=by exact(qP hv1)) (h:=by simp only[go_sem,hw1];rfl);refine qV e (fun e hc1=> ?_) (fun e hc1=> ?_)
 .refine q8 BS ?_;refine qR (rQ ?_);cases e;exact pE []
 .refine r8 (qO (qS ?_));refine q8 BS ?_;refine qV e (fun e hc2=> ?_) (fun e hc2=> ?_)
  .refine q8 BS ?_;refine qR (rQ ?_);cases e;exact pE []
  .refine r8 (qO ?_);obtain⟨aA,hv2,hw2,e⟩:=qQ e
   try simp only[go_sem] at hw2
   refine q8 BS ?_ (hp:=by exact(qP hv2)) (h:=by simp only[go_sem,hw2];rfl);obtain⟨aB,hv3,hw3,e⟩:=qQ e
   try simp only[go_sem] at hw3
   refine q8 BS ?_ (hp:=by exact(qP hv3)) (h:=by simp only[go_sem,hw3];rfl);refine qS ?_;refine q8 BS ?_ (hp:=by exact⟨id,sU⟩);refine qV e (fun e hc3=> ?_) (fun e hc3=> ?_)
   .refine q8 BS ?_;refine qR (rQ ?_);cases e;exact pE []
   .refine r8 (qO ?_);obtain⟨aC,hv4,hw4,e⟩:=qQ e
    try simp only[go_sem] at hw4
    refine q8 BS ?_ (hp:=by exact(qP hv4)) (h:=by simp only[go_sem,hw4];rfl);obtain⟨aD,hv5,hw5,e⟩:=qQ e
    try simp only[go_sem] at hw5
    refine q8 BS ?_ (hp:=by exact(qP hv5)) (h:=by simp only[go_sem,hw5];rfl);obtain⟨aE,hv6,hw6,e⟩:=qQ e
    try simp only[go_sem] at hw6
    refine q8 BS ?_ (hp:=by exact(qP hv6)) (h:=by simp only[go_sem,hw6];rfl);obtain⟨aF,hv7,hw7,e⟩:=qQ e
    try simp only[go_sem] at hw7
    obtain⟨hg8,e⟩:=qG e;refine vQ BS ?_ (hp:=by exact⟨qP hv7,id,id,id,id,id,id,sY,id,sY,id,sY,id,sY,id,id,id,id,hg8,sY⟩) (h:=by simp only[go_sem,hw7];rfl);refine qR ?_;cases e;exact pE []
attribute [irreducible] LS
end
end Go.Proofs.YtkpflnijijccpaaGreatDoor
section
end
namespace Go.Proofs.YtkpflnijijccpaaGreatDoor
open Vc
theorem EP {σ ρ:Type}(f:σ→Option (σ⊕ρ)) (x:σ):rU f x=(f x).bind fun w=>match w with
    | .inl y=>rU f y
    | .inr r=>some r:=by
  cases h:f x with
  | none=>
    cases h2:rU f x with
    |none=>rfl
    | some r=>
      obtain⟨n,hn⟩:=VZ h2;cases n with
      |zero=>cases hn
      |succ n=>unfold iter at hn;rw[h] at hn;cases hn
  | some w=>
    cases w with
    |inl y=>exact w4 h
    |inr r=>exact vM h
theorem EQ {t:Ty}{l:List t.den}{i:Nat}(h:i<l.length):qU t l (i:Int)=l[i]:=by
  unfold qU;rw[aR0,aRO,aRr h];rfl
theorem aFx {l:pC}{i:Nat}(h:i<l.length):tM l (i:Int)=(l[i].toNat:Int):=by
  unfold tM;rw[aR0,aRO,aRr h];rfl
def x5 {β:Type}(f:Nat→β) (b:β):pO→β
  |some k=>f k
  |none=>b
theorem aFy {α ρ:Type}{f:Int→Option (Int⊕(Unit⊕ρ))}{l:List α}(p:α→Bool) (g:Nat→ρ)
    (hf: ∀(i:Nat) (h:i<l.length),f i=if p l[i]=true then some (.inr (.inr (g i))) else some (.inl (i+1)))
    (he:f l.length=some (.inr (.inl ()))): ∀(n j:Nat),j+n=l.length→rU f j=some (x5 (fun k=> .inr (g (j+k))) (.inl ()) ((l.drop j).findIdx? p))
  | 0,j,hj=>by
    have:j=l.length:=by omega
    subst this;rw[aSh,EP,he];rfl
  | n+1,j,hj=>by
    have hlt:j<l.length:=by omega
    rw[EP,hf j hlt,aRW hlt,aSZ];by_cases hp:p l[j]=true
    · rw[aRf hp,aRf hp]
      rfl
    · rw[aRk hp,aRk hp]
      show rU f ((j:Int)+1)=_;have:=aFy p g hf he n (j+1) pF;rw[show ((j:Int)+1)=((j+1:Nat):Int) by omega,this];cases(l.drop (j+1)).findIdx? p with
      |none=>rfl
      | some k=>
        show some (Sum.inr (g (j+1+k)))=some (Sum.inr (g (j+(k+1))));rw[show j+1+k=j+(k+1) by omega]
theorem HH {α ρ:Type}{f:Int→Option (Int⊕(Unit⊕ρ))}{l:List α}(p:α→Bool) (g:Nat→ρ)
    (hf: ∀(i:Nat) (h:i<l.length),f i=if p l[i]=true then some (.inr (.inr (g i))) else some (.inl (i+1)))
    (he:f l.length=some (.inr (.inl ()))):rU f 0=some (x5 (fun k=> .inr (g k)) (.inl ()) (l.findIdx? p)):=by
  have:=aFy p g hf he l.length 0 pF;simpa using this
theorem aFz {s:pC}{i:Nat}(h:i<s.length) (ha:s[i].toNat<128):xP s i=(s[i].toNat:Int)∧AQ s i=i+1:=by
  have h1:=Lib.decodeL_drop ⟨s.toArray⟩ i
  have h2:(⟨s.toArray⟩:ByteArray).data.toList.drop i=s[i]::s.drop (i+1):=by
    show s.drop i=_;rw[aRW h]
  rw[h2,Lib.decodeL_ascii _ _ ha] at h1;unfold xP AQ ZP;rw[←h1,aRf h];exact⟨rfl,rfl⟩
theorem aMv {n b0 b1 b2 b3:Nat}(h:128≤b0):128≤(Lib.decodeN n b0 b1 b2 b3).1:=by
  unfold Lib.decodeN
  repeat' split
  all_goals first|omega|(dsimp only;omega)
theorem aFA {s:pC}{i:Nat}(h:i<s.length) (ha:128≤s[i].toNat):128≤xP s i:=by
  unfold xP;rw[Lib.decode_at]
  have:(⟨s.toArray⟩:ByteArray).get! i=s[i]:=by
    show s.toArray[i]! =_;simp [h]
  rw[this];exact Int.ofNat_le.2 (aMv ha)
theorem aFB {ρ:Type}{f:Nat→Option (Nat⊕(Unit⊕ρ))}{s:pC}(p:Int→Bool) (g:Nat→ρ) (hb: ∀c,128≤c→p c=true)
    (hf: ∀(i:Nat) (h:i<s.length),f i=if p (xP s i)=true then some (.inr (.inr (g i))) else some (.inl (AQ s i)))
    (he:f s.length=some (.inr (.inl ()))): ∀(n j:Nat),j+n=s.length→rU f j=some (x5 (fun k=> .inr (g (j+k))) (.inl ()) ((s.drop j).findIdx? (fun b=>p b.toNat)))
  | 0,j,hj=>by
    have:j=s.length:=by omega
    subst this;rw[aSh,EP,he];rfl
  | n+1,j,hj=>by
    have hlt:j<s.length:=by omega
    rw[EP,hf j hlt,aRW hlt,aSZ];by_cases ha:s[j].toNat<128
    · obtain⟨e1,e2⟩:=aFz hlt ha
      rw[e1,e2];by_cases hp:p (s[j].toNat:Int)=true
      · rw[aRf hp,aRf hp]
        rfl
      · rw[aRk hp,aRk hp]
        show rU f (j+1)=_;rw[aFB p g hb hf he n (j+1) pF];cases(s.drop (j+1)).findIdx? (fun b=>p b.toNat) with
        |none=>rfl
        | some k=>
          show some (Sum.inr (g (j+1+k)))=some (Sum.inr (g (j+(k+1))));rw[show j+1+k=j+(k+1) by omega]
    · rw[aRf (hb _ (aFA hlt pF)),aRf (hb _ pF)]
      rfl
theorem aMw {ρ:Type}{f:Nat→Option (Nat⊕(Unit⊕ρ))}{s:pC}(p:Int→Bool) (g:Nat→ρ) (hb: ∀c,128≤c→p c=true)
    (hf: ∀(i:Nat) (h:i<s.length),f i=if p (xP s i)=true then some (.inr (.inr (g i))) else some (.inl (AQ s i)))
    (he:f s.length=some (.inr (.inl ()))):rU f 0=some (x5 (fun k=> .inr (g k)) (.inl ()) (s.findIdx? (fun b=>p b.toNat))):=by
  have:=aFB p g hb hf he s.length 0 pF;simpa using this
def sH {α:Type}(l:List α):Prop:=l.length≤4000000000
theorem x6 {i:Nat}(h:i≤4000000000):qC ((i:Int)+1):=by unfold qC;omega
theorem uM {i n:Nat}(h:i<n):0≤(i:Int)∧(i:Int)<(n:Int):=⟨pF,pF⟩
theorem vT {i n:Nat}(h:i<n):decide ((i:Int)<(n:Int))=true:=by simpa using h
theorem x7 (n:Nat): ¬decide ((n:Int)<(n:Int))=true:=by simp
theorem aFC {α:Type}{p:α→Bool}: ∀{l:List α},(l.findIdx? p).isSome=l.any p
  |[]=>rfl
  | x::l=>by
    rw[aSZ,List.any_cons];cases p x with
    |true=>rfl
    |false=>simp [aFC (l:=l)]
theorem SC {α β:Type}{p:α→Bool}{l:List α}{f:Nat→β}{b:β}:x5 f b (l.findIdx? p)=if l.any p=true then f ((l.findIdx? p).getD 0) else b:=by
  rw[←aFC];cases l.findIdx? p with
  |none=>rfl
  |some k=>rfl
def LT (c:Int):Bool:=(((!((decide ((97:Int)≤c))&&(decide (c≤(122:Int)))))&&(!((decide ((48:Int)≤c))&&(decide (c≤(57:Int))))))&&(!decide (c=(45:Int))))&&((decide (c<(65:Int)))||(decide ((90:Int)<c)))
def xC (s:pC):Bool:= !(s.any fun b=>LT b.toNat)&&((decide ((1:Int)≤(s.length:Int)))&&(decide ((s.length:Int)≤(40:Int))))
def XE (c:Int):Bool:=((((decide (c<(97:Int)))||(decide ((122:Int)<c)))&&((decide (c<(65:Int)))||(decide ((90:Int)<c))))&&((decide (c<(48:Int)))||(decide ((57:Int)<c))))&&(!decide (c=(45:Int)))
theorem aMx (c:Int):XE c=LT c:=by
  unfold XE LT;rw[aTe];simp;omega
theorem a8a (s:pC):EA s=some (xC s):=by
  have h:=aMw (f:=R4 s) (s:=s) (fun c=>XE c) (fun _=>false) (fun c h=>by unfold XE;simp;omega) (fun i h=>by
    unfold R4;rw[aRf (by simpa using h),aRf (by simpa using h)];rfl) (by
    unfold R4;rw[aRk pH])
  unfold EA;rw[h,SC];simp only[aMx];unfold xC;cases s.any fun b=>LT b.toNat<;>rfl
def yP (c:Int):Bool:=((((!((decide ((97:Int)≤c))&&(decide (c≤(122:Int)))))&&(!((decide ((48:Int)≤c))&&(decide (c≤(57:Int))))))&&(!decide (c=(45:Int))))&&(!decide (c=(95:Int))))&&(!decide (c=(46:Int)))
def zH (c:Int):Bool:=(decide ((97:Int)≤c))&&(decide (c≤(122:Int)))
def uQ:pC→Bool
  |[]=>false
  |b::t=>(!decide (40<t.length+1)&&zH b.toNat)&& !(t.any fun b=>yP b.toNat)
theorem aFD (s:pC): ∀(n j:Nat),j+n=s.length→rU (NN s) j=some (if (s.drop j).any (fun b=>yP b.toNat)=true∨(j=0∧s≠[]∧zH (s.getD 0 0).toNat=false) then .inr false else .inl ())
  | 0,j,hj=>by
    have:j=s.length:=by omega
    subst this;rw[aSh,EP];unfold NN;rw[aRk pH];by_cases h0:s=[]
    .subst h0;simp
    · have:s.length≠0:=by simpa using h0
      simp [this]
  | n+1,j,hj=>by
    have hlt:j<s.length:=by omega
    have ih:=aFD s n (j+1) pF;rw[EP,aRW hlt,List.any_cons]
    have hstep:NN s j=if (yP (s[j].toNat:Int)=true∨(j=0∧zH (s[j].toNat:Int)=false)) then some (.inr (.inr false)) else some (.inl (j+1)):=by
      unfold NN;rw[aRf (by simpa using hlt),aRf (by simpa using hlt),aRf (by simpa using hlt)];by_cases ha:s[j].toNat<128
      · obtain⟨e1,e2⟩:=aFz hlt ha
        rw[e1,e2];by_cases h1:zH (s[j].toNat:Int)=true
        · rw[aRf (by unfold zH at h1;exact h1),aRk]
          unfold zH at h1;simp only[aRw,aRG] at h1;simp [yP,zH];omega
        · have h1':zH (s[j].toNat:Int)=false:=by simpa using h1
          rw[aRk (by unfold zH at h1;exact h1)]
          have h2: ¬(97≤(s[j].toNat:Int)∧(s[j].toNat:Int)≤122):=by
            unfold zH at h1;simpa using h1
          by_cases h3:yP (s[j].toNat:Int)=true∨j=0
          · rw[aRk,aRf]
            · rcases h3 with h3|h3
              .exact .inl h3
              .exact .inr ⟨h3,h1'⟩
            · simp [yP] at h3|-
              omega
          · rw[aRf,aRk]
            · intro h
              rcases h with h|⟨h,_⟩
              .exact h3 (.inl h)
              .exact h3 (.inr h)
            · simp [yP] at h3|-
              omega
      · have hb:=aFA hlt pF
        rw[aRk pI,aRk pI,aRf (.inl (by simp [yP];omega))]
    rw[hstep];have hd:s.getD 0 0=s[0]'pF:=by simp [aRO,aRr (show 0<s.length by omega)]
    have hne:s≠[]:=by intro h;subst h;simp at hlt
    by_cases hp:yP (s[j].toNat:Int)=true∨(j=0∧zH (s[j].toNat:Int)=false)
    · rw[aRf hp,aRf]
      .rfl
      · rcases hp with hp|⟨rfl,hp⟩
        .left;simp [hp]
        .right;exact⟨rfl,hne,by rw[hd];exact hp⟩
    · rw[aRk hp]
      show rU _ (j+1)=_;rw[ih]
      have hnb:yP (s[j].toNat:Int)=false:=by
        cases h:yP (s[j].toNat:Int) with
        |true=>exact absurd (.inl h) hp
        |false=>rfl
      simp only[hnb,Bool.false_or];congr 2;apply propext;constructor
      · rintro(h|⟨h,_⟩)
        .exact .inl h
        .omega
      · rintro(h|⟨rfl,_,h⟩)
        .exact .inl h
        · rw[hd] at h
          exact absurd (.inr ⟨rfl,h⟩) hp
theorem SD (s:pC):CO s=some (uQ s):=by
  have h:=aFD s s.length 0 pF;unfold CO;rw[h,aSH];cases s with
  |nil=>simp [uQ,vA]
  | cons b t=>
    simp only[List.any_cons,List.getD_cons_zero,ne_eq,reduceCtorEq,not_false_eq_true,true_and,uQ];cases hs:zH b.toNat with
    |false=>simp [vA]
    | true=>
      have hn:yP b.toNat=false:=by
        unfold zH at hs;simp only[aRw,aRG] at hs;simp [yP];omega
      simp only[hn,Bool.false_or];cases t.any (fun b=>yP b.toNat) with
      |true=>simp [vA]
      | false=>
        simp only[aS0,false_or,and_false,aTn];show some (decide ((1:Int)≤((b::t).length:Int))&&decide (((b::t).length:Int)≤40))=_;congr 1;rw[aTe];simp only[aRj,aRw,aRG,aRK,aR1,Bool.not_false,and_true];omega
theorem LU {β:Type}{f:Nat→β}{b:β}{o:pO}:vA (some (x5 (fun k=> .inr (f k)) (.inl ()) o)) (fun _=>some b)=some (x5 f b o):=by
  cases o<;>rfl
theorem aFE (l:pD) (s:pC) (hl:sH l):BK l s=some (x5 (fun k=>(k:Int)) (-1) (l.findIdx? fun x=>decide (s=x))):=by
  unfold sH at hl
  have h:=HH (f:=R5 l s) (l:=l) (fun x=>decide (s=x)) (fun k=>(k:Int)) (fun i h=>by
    unfold R5;rw[aRf (vT h),aRf (uM h),EQ (t:= .str) h,aRf (x6 pF)]) (by
    unfold R5;rw[aRk (x7 _)])
  unfold BK;rw[h,LU]
theorem OF {α:Type}{p:α→Bool}{l:List α}:decide ((0:Int)≤x5 (fun k=>(k:Int)) (-1) (l.findIdx? p))=l.any p:=by
  rw[SC];cases l.any p
  .rfl
  .simp only[aSU,aRG];omega
theorem aFF (l:pD) (s:pC) (hl:sH l):EC l s=some (l.any fun x=>decide (x=s)):=by
  unfold EC;rw[aFE l s hl];show some (decide _)=_;rw[OF];simp only[eq_comm]
def HI:pD:=[[110,101,119],[102,117,122,122,121],[116,114,97,110,115,108,97,116,101,100],[114,101,118,105,101,119,101,100],[111,98,115,111,108,101,116,101]]
def AG (s:pC):Int:=x5 (fun k=>(k:Int)) (-1) (HI.findIdx? fun x=>decide (x=s))
abbrev rZ:=pC×pC×Unit
abbrev tF:Ty:= .pair .str (.pair .str .unit)
def B5 (l:List rZ) (n:pC):pO:=l.findIdx? fun x=>decide (x.1=n)
def OG (l:List rZ) (n:pC):pC×Bool:=x5 (fun k=>((l.getD k ([],[],())).2.1,true)) ([],false) (B5 l n)
theorem aMy (l:List rZ) (n:pC):(OG l n).2=l.any fun x=>decide (x.1=n):=by
  unfold OG B5;rw[SC];cases l.any fun x=>decide (x.1=n)<;>rfl
theorem aFG (l:List rZ) (n:pC) (hl:sH l):H7 l n=some (x5 (fun k=>(k:Int)) (-1) (B5 l n)):=by
  unfold sH at hl
  have h:=HH (f:=RE l n) (l:=l) (fun x=>decide (x.1=n)) (fun k=>(k:Int)) (fun i h=>by
    unfold RE;rw[aRf (vT h),aRf (uM h),EQ (t:=tF) h,aRf (x6 pF)]) (by
    unfold RE;rw[aRk (x7 _)])
  unfold H7 NT;rw[h,LU];rfl
theorem aFH {l:List rZ}{n:pC}{k:Nat}(h:B5 l n=some k):k<l.length:=by
  unfold B5 at h;exact(aSf.1 h).1
theorem aFI (l:List rZ) (n:pC) (hl:sH l):HC l n=some (OG l n):=by
  unfold HC;rw[aFG l n hl];unfold OG;cases h:B5 l n with
  |none=>rfl
  | some k=>
    have hk:=aFH h;simp only[x5,aRe];rw[aRk pH,aRf (uM hk),EQ (t:=tF) hk];simp only[x5,aRO,aRr hk];rfl
def FT (l:List rZ) (n:pC):Nat:=(l.findIdx? fun x=> !(Op.bytesLess x.1 n||decide (x.1=n))).getD l.length
def FU (l:List rZ) (n v:pC):List rZ:=x5 (fun k=>l.set k (n,v,())) (l.take (FT l n)++[(n,v,())]++l.drop (FT l n)) (B5 l n)
theorem aMz (l:List rZ) (n:pC):FT l n≤l.length:=by
  unfold FT;cases h:l.findIdx? fun x=> !(Op.bytesLess x.1 n||decide (x.1=n)) with
  |none=>exact aRE _
  |some k=>exact Nat.le_of_lt (aSf.1 h).1
theorem aFJ (l:List rZ) (n v:pC):(FU l n v).length≤l.length+1:=by
  have:=aMz l n;unfold FU;cases B5 l n with
  |none=>simp [x5];omega
  |some k=>simp [x5]
theorem aMA {l:List rZ}{n:pC}{k:Nat}(h:B5 l n=some k) (hk:k<l.length):l[k].1=n:=by
  unfold B5 at h;have:=(aSf.1 h).2.1;simpa using this
theorem aFK (l:List rZ) (n v:pC) (hl:sH l):H9 l n v=some (FU l n v):=by
  have hl':=hl;unfold sH at hl';unfold H9 J1;rw[aRf pF];show (H7 ([]++l) n).bind _=_;rw[List.nil_append,aFG l n hl];unfold FU;cases h:B5 l n with
  | some k=>
    have hk:=aFH h;simp only[x5,aRe];rw[aRf pH,aRf (uM hk),EQ (t:=tF) hk,aR0];congr 2;exact Prod.ext (aMA h hk) rfl
  | none=>
    simp only[x5,aRe];rw[aRk pG]
    have h2:=HH (f:=RF l n) (l:=l) (fun x=> !(Op.bytesLess x.1 n||decide (x.1=n))) (fun k=>(k:Int)) (fun i h=>by
      unfold RF;rw[aRf (vT h),aRf (uM h),EQ (t:=tF) h,aRf (x6 pF)]) (by
      unfold RF;rw[aRk (x7 _)])
    unfold NU;rw[h2,LU];unfold FT;cases h3:l.findIdx? fun x=> !(Op.bytesLess x.1 n||decide (x.1=n)) with
    | none=>
      simp only[x5,aRe];rw[aRf pG,aRf ⟨pF,aSz _⟩,aRf pI];simp [BG,x5]
    | some k=>
      have hk:k<l.length:=(aSf.1 h3).1;simp only[x5,aRe];rw[aRk pH,aRf ⟨pF,pF⟩,aRf pI];simp [BG,x5]
theorem aFL {α:Type}{f:Int→Option (Int⊕Int)}{l:List α}(p:α→Bool)
    (hf: ∀(i:Nat) (h:i<l.length),f i=if p l[i]=true then some (.inl (i+1)) else some (.inr i)) (he:f l.length=some (.inr l.length)):
    ∀(n j:Nat),j+n=l.length→rU f j=some (((j+((l.drop j).findIdx? fun x=> !p x).getD n:Nat)):Int)
  | 0,j,hj=>by
    have:j=l.length:=by omega
    subst this;rw[aSh,EP,he];simp
  | n+1,j,hj=>by
    have hlt:j<l.length:=by omega
    rw[EP,hf j hlt,aRW hlt,aSZ];by_cases hp:p l[j]=true
    · rw[aRf hp,aRk (by simp [hp])]
      show rU f ((j:Int)+1)=_;rw[show ((j:Int)+1)=((j+1:Nat):Int) by omega,aFL p hf he n (j+1) pF];cases(l.drop (j+1)).findIdx? fun x=> !p x with
      |none=>simp;omega
      |some k=>simp;omega
    · rw[aRk hp,aRf (by simpa using hp)]
      simp
theorem aMB {α:Type}{f:Int→Option (Int⊕Int)}{l:List α}(p:α→Bool)
    (hf: ∀(i:Nat) (h:i<l.length),f i=if p l[i]=true then some (.inl (i+1)) else some (.inr i)) (he:f l.length=some (.inr l.length)):
    rU f 0=some (((l.findIdx? fun x=> !p x).getD l.length:Nat):Int):=by
  have:=aFL p hf he l.length 0 pF;simpa using this
theorem a8b {α:Type}{l:List α}{k:Nat}:sC l 0 (k:Int)=l.take k:=by unfold sC;simp
theorem SE {α:Type}{l:List α}{k:Nat}:sC l (k:Int) (l.length:Int)=l.drop k:=by
  unfold sC;rw[aR0,aR0,List.take_of_length_le];rw[aRA];exact aRE _
def SF (n:Int):Prop:=0≤n∧n≤1114111∧(n<55296∨57343<n)
def FV (n:Int):Bool:=(((decide ((0:Int)≤n))&&(decide (n≤(1114111:Int))))&&((decide (n<(55296:Int)))||(decide ((57343:Int)<n))))
theorem aMC (n:Int):FV n=true↔SF n:=by
  unfold FV SF;simp;omega
theorem a8c {n:Int}{k:Int}{j:Nat}(hj:k.toNat=j) (h32:j≤32):yE .i32 n k=n/2^j:=by
  unfold yE;rw[hj,show min j IntKind.i32.bits=j from Nat.min_eq_left h32,Int.fdiv_eq_ediv_of_nonneg];exact Int.pow_nonneg pG
theorem aMD {n:Int}(p:pL) (h:SF n) (hp:sH p):J5 p n=some (p++Lib.encodeRuneZ n):=by
  obtain⟨h0,h1,hs⟩:=h;unfold sH at hp;have u:IntKind.u32.wrap n=n:=by rw[IntKind.wrap_u32];omega
  have s6:yE .i32 n 6=n/64:=a8c (j:=6) rfl pG;have s12:yE .i32 n 12=n/4096:=a8c (j:=12) rfl pG;have s18:yE .i32 n 18=n/262144:=a8c (j:=18) rfl pG
  have b0:bits .or .u8 128 (bits .and .u8 (n%256) 63)=128+n%64:=by
    rw[u8_and63 (x:=n%256) pF pF,show n%256%64=n%64 by omega,u8_or128 (y:=n%64) pF pF]
  have b1:bits .or .u8 128 (bits .and .u8 (n/64%256) 63)=128+n/64%64:=by
    rw[u8_and63 (x:=n/64%256) pF pF,show n/64%256%64=n/64%64 by omega,u8_or128 (y:=n/64%64) pF pF]
  have b2:bits .or .u8 128 (bits .and .u8 (n/4096%256) 63)=128+n/4096%64:=by
    rw[u8_and63 (x:=n/4096%256) pF pF,show n/4096%256%64=n/4096%64 by omega,u8_or128 (y:=n/4096%64) pF pF]
  unfold J5;rw[u];by_cases c1:n≤127
  .rw[aRf (by simpa using c1),aRf pI,Lib.encodeRuneZ_one h0 c1,IntKind.wrap_u8,show n%256=n by omega]
  · rw[aRk (by simpa using c1)]
    unfold LD;simp only[u,s6,s12,s18,IntKind.wrap_u8,b0,b1,b2];by_cases c2:n≤2047
    · rw[aRf (by simpa using c2),aRf pI,Lib.encodeRuneZ_two pF c2,show n/64%256=n/64 by omega,u8_or192 (y:=n/64) pF pF]
      rfl
    · rw[aRk (by simpa using c2)]
      by_cases c3:n≤65535
      · have hx:(if decide (n<55296)=true then some (decide (n<55296)) else some ((decide (57343<n))&&(decide (n≤65535))))=some true:=by
          by_cases c:n<55296
          .rw[aRf (by simpa using c)];simp [c]
          .rw[aRk (by simpa using c)];simp;omega
        rw[hx];simp only[sJ,aRe];rw[aRf trivial,aRf pI,Lib.encodeRuneZ_three pF,show n/4096%256=n/4096 by omega,u8_or224 (y:=n/4096) pF pF];rfl
      · have hx:(if decide (n<55296)=true then some (decide (n<55296)) else some ((decide (57343<n))&&(decide (n≤65535))))=some false:=by
          rw[aRk pI];simp;omega
        rw[hx];simp only[sJ,aRe];rw[aRk pG,aRf pI,aRf pI,Lib.encodeRuneZ_four pF h1,show n/262144%256=n/262144 by omega,u8_or240 (y:=n/262144) pF pF];rfl
theorem aFM (n:Int):(Lib.encodeRuneZ n).length≤4:=by
  unfold Lib.encodeRuneZ
  repeat' split
  all_goals simp
theorem aFN {n:Int}(p:pL) (h:SF n) (hp:sH p): ∃k,FP (p,()) n=some (k,p++Lib.encodeRuneZ n):=by
  have h4:=aFM n;unfold sH at hp;unfold FP;rw[aMD p h hp];simp only[aRe];rw[aRf (by unfold qC;simp;omega)];exact⟨_,rfl⟩
theorem aME (n:Int):S0 [n] (0,[])=some (.inl (1,if FV n=true then Lib.encodeRuneZ n else Lib.encodeRuneZ 65533)):=by
  unfold S0;have hn:qU (.int .i64) [n] 0=n:=rfl;dsimp only;rw[aRf pH,aRf ⟨aSz _,by simp⟩];simp only[hn];by_cases hs:FV n=true
  · have hsc:=(aMC n).1 hs
    obtain⟨k,hk⟩:=aFN (n:=n) [] hsc (by unfold sH;simp)
    have wn:IntKind.i32.wrap n=n:=by
      obtain⟨a,b,c⟩:=hsc;rw[IntKind.wrap_i32];omega
    rw[aRf hs];unfold FV at hs;rw[aRk (by rw[hs];decide),wn,hk];simp only[aRe,List.nil_append];rw[aRf (by unfold qC;omega)];rfl
  · rw[aRk hs]
    unfold FV at hs;obtain⟨k,hk⟩:=aFN (n:=65533) [] (by unfold SF;omega) (by unfold sH;simp);rw[aRf (by simp only[aRK] at hs|-;simpa using hs),show IntKind.i32.wrap 65533=65533 from rfl,hk];simp only[aRe,List.nil_append];rw[aRf (by unfold qC;omega)];rfl
theorem aMF (n:Int):JA n=some (if FV n=true then Lib.encodeRune n else Lib.encodeRune 65533):=by
  unfold JA O6;rw[w4 (aME n),vM (r:=if FV n=true then Lib.encodeRuneZ n else Lib.encodeRuneZ 65533) (by unfold S0;simp)];simp only[sJ,aRe];by_cases hs:FV n=true
  .rw[aRf hs,aRf hs];rfl
  .rw[aRk hs,aRk hs];rfl
def BT (s:pC) (i:Nat):Bool:=decide ((s.getD i 0).toNat/64=2)
theorem aMG (n:Int):(Lib.encodeRune n).length≤4:=by
  unfold Lib.encodeRune;rw[aR6];exact aFM n
def sW (s:pC):Bool:=decide ((s.length:Int)≤4000)&&Lib.validD s
theorem OH (s:pC) (hs:sH s):EF s=some ():=by
  unfold sH at hs;unfold EF RA;rw[aRf (fun _=>by rw[aRf pF];rfl)]
theorem FW {p:Prop}{α:Type}{v:α}:p→(some v).isSome=true:=fun _=>rfl
theorem aFO {ρ:Type}{f:Int→Option (Int⊕(Unit⊕ρ))}{n:Nat}(p:Nat→Bool) (g:Nat→ρ)
    (hf: ∀(i:Nat),i<n→f i=if p i=true then some (.inr (.inr (g i))) else some (.inl (i+1)))
    (he:f n=some (.inr (.inl ()))):rU f 0=some (x5 (fun k=> .inr (g k)) (.inl ()) ((List.range n).findIdx? p)):=by
  refine HH (l:=List.range n) p g (fun i h=> ?_) (by rw[List.length_range];exact he);have hi:i<n:=by rw[List.length_range] at h;exact h
  rw[List.getElem_range];exact hf i hi
theorem aMH (a b:pC):(!Op.bytesLess a b)=(Op.bytesLess b a||decide (b=a)):=by
  rw[bytesLess_eq,bytesLess_eq,aTe];simp only[aRK,aR1,aSl,aRG];constructor
  · intro h
    exact(List.le_iff_lt_or_eq.1 (List.not_lt.1 h))
  · rintro(h|h)
    .exact List.lt_asymm h
    .rw[h];exact List.lt_irrefl _
theorem aFP {n:Nat}{p:Nat→Bool}{b:Bool}:vA (some (x5 (fun _=>Sum.inr false) (Sum.inl ()) ((List.range n).findIdx? p))) (fun _:Unit=>some b)=some (!((List.range n).any p)&&b):=by
  rw[SC];cases(List.range n).any p<;>rfl
def wG (l:pD):Bool:=decide ((l.length:Int)≤20)&& !(l.any fun x=> !sW x)
theorem aMI (l:pD) (hl:sH l) (hx: ∀x∈l,sH x):BO l=some (l.any fun x=> !sW x):=by
  unfold sH at hl
  have h:=HH (f:=RY l) (l:=l) (fun x=> !sW x) (fun k=>(k:Int)) (fun i h=>by
    have h1:=OH l[i] (hx _ (aSK h));unfold RY RW;rw[aRf (vT h),aRf (uM h),EQ (t:= .str) h,h1,aRe,aRe,aRf (x6 pF)];rfl) (by
    unfold RY;rw[aRk (x7 _)])
  unfold BO O5;rw[h,LU];show some (decide _)=_;rw[OF]
theorem aFQ (l:pD) (hl:sH l) (hx: ∀x∈l,sH x):LK l=some ()∧((decide ((l.length:Int)≤20))&&(!(val (BO l))))=wG l:=by
  unfold LK;rw[aMI l hl hx];exact⟨aRf FW,rfl⟩
def XF (l:pD) (i:Nat):Bool:=(!uQ (l.getD i []))||(decide (0<i)&& !Op.bytesLess (l.getD (i-1) []) (l.getD i []))
def FX (l:pD):Bool:= !((List.range l.length).any (XF l))&&decide ((l.length:Int)≤20)
theorem aFR {l:pD}{i:Nat}:qU .str l (i:Int)=l.getD i []:=by unfold qU;rw[aR0];rfl
theorem aMJ {l:pD}{i:Nat}:qU .str l ((i:Int)-1)=l.getD (i-1) []:=by
  unfold qU;rw[show ((i:Int)-1).toNat=i-1 by omega];rfl
theorem aFS {i:Nat}:decide ((0:Int)<(i:Int))=decide (0<i):=by simp
theorem aMK (l:pD) (hl:sH l):GT l=some (FX l):=by
  unfold sH at hl
  have h:=aFO (f:=R7 l) (n:=l.length) (XF l) (fun _=>false) (fun i h=>by
    unfold R7;rw[aRf (vT h),aRf (uM h),aFR,aMJ,SD,aRe,aFS]
    have h0: ∀q:Bool,((q==false)&&(decide (0<i)==true))=true→0<i:=fun q hq=>by
      simp only[aRw,beq_iff_eq,aRG] at hq;exact hq.2
    rw[aRf (fun hq=>by have:=h0 _ hq;unfold qC;omega),aRf (fun hq=>by have:=h0 _ hq;omega),aRf (x6 pF)];rfl) (by
    unfold R7;rw[aRk (x7 _)])
  unfold GT;rw[h,aFP];rfl
abbrev fD:rZ:=([],([],()))
def XG (l:List rZ) (i:Nat):Bool:=((!uQ (l.getD i fD).1)||(!sW (l.getD i fD).2.1))||(decide (0<i)&& !Op.bytesLess (l.getD (i-1) fD).1 (l.getD i fD).1)
def vU (l:List rZ):Bool:= !((List.range l.length).any (XG l))&&decide ((l.length:Int)≤20)
theorem aFT {l:List rZ}{i:Nat}:qU (.pair .str (.pair .str .unit)) l (i:Int)=l.getD i fD:=by unfold qU;rw[aR0];rfl
theorem aML {l:List rZ}{i:Nat}:qU (.pair .str (.pair .str .unit)) l ((i:Int)-1)=l.getD (i-1) fD:=by
  unfold qU;rw[show ((i:Int)-1).toNat=i-1 by omega];rfl
def XH (x:rZ):Prop:=sH x.1∧sH x.2.1
theorem SG {α:Type}{l:List α}{i:Nat}{d:α}(h:i<l.length):l.getD i d∈l:=by
  rw[aRO,aRr h];exact aSK h
theorem aFU {i:Nat}{q:Bool}(hq:((q==false)&&(decide (0<i)==true))=true):0<i:=by
  simp only[aRw,beq_iff_eq,aRG] at hq;exact hq.2
theorem aFV (l:List rZ) (hl:sH l) (hx: ∀x∈l,XH x):FO l=some (vU l):=by
  unfold sH at hl
  have h:=aFO (f:=RV l) (n:=l.length) (XG l) (fun _=>false) (fun i h=>by
    unfold RV;have hf:=hx _ (SG (d:=fD) h);rw[aRf (vT h),aRf (uM h),aFT,aML,SD,aRe,aFS,OH _ hf.2];rw[aRf FW,aRf (fun hq=>by have:=aFU hq;unfold qC;omega),aRf (fun hq=>by have:=aFU hq;omega),aRf (x6 pF)];rfl) (by
    unfold RV;rw[aRk (x7 _)])
  unfold FO;rw[h,aFP];rfl
abbrev uE:=sF
structure aFW (x:uE):Prop where
  id:sH x.1
  src:sH x.2.1
  tgt:sH x.2.2.1
  com:sH x.2.2.2.1∧∀y∈x.2.2.2.1,sH y
  flg:sH x.2.2.2.2.1∧∀y∈x.2.2.2.2.1,sH y
  fld:sH x.2.2.2.2.2.2.1∧∀y∈x.2.2.2.2.2.2.1,XH y
def yQ (x:uE):Bool:=
  (((((((!decide (x.1=[]))&&decide ((x.1.length:Int)≤200))&&sW x.1)&&sW x.2.1)&&sW x.2.2.1)&&wG x.2.2.2.1)&&FX x.2.2.2.2.1)&&(decide (0≤x.2.2.2.2.2.1)&&decide (x.2.2.2.2.2.1≤4))&&vU x.2.2.2.2.2.2.1
theorem aMM (x:uE) (h:aFW x):J8 x=some (yQ x):=by
  obtain⟨t1,t2⟩:=aFQ _ h.com.1 h.com.2;have e1:=aMK _ h.flg.1;have e2:=aFV _ h.fld.1 h.fld.2;unfold J8;rw[OH _ h.id,OH _ h.src,OH _ h.tgt,t1,t2,e1,e2];have k: ∀s:pC,(decide ((s.length:Int)≤4000)&&Lib.validD s)=sW s:=fun s=>rfl;rw[aRf FW,aRe,aRf FW,aRf FW,aRf FW,aRf FW,k,k,k];unfold yQ;show (if _ then some false else some _)=_;have a1:decide ((200:Int)<(x.1.length:Int))= !decide ((x.1.length:Int)≤200):=by rw[←decide_not];exact aSJ.2 pF
  have a2:decide (x.2.2.2.2.2.1<(0:Int))= !decide ((0:Int)≤x.2.2.2.2.2.1):=by rw[←decide_not];exact aSJ.2 pF
  have a3:decide ((4:Int)<x.2.2.2.2.2.1)= !decide (x.2.2.2.2.2.1≤(4:Int)):=by rw[←decide_not];exact aSJ.2 pF
  rw[a1,a2,a3];show (if _ then some false else some (((((sW x.2.1&&sW x.2.2.1)&&wG x.2.2.2.1)&&FX x.2.2.2.2.1))&&vU x.2.2.2.2.2.2.1))=_;generalize decide (x.1=[])=b1;generalize decide ((x.1.length:Int)≤200)=b2;generalize sW x.1=b3;generalize sW x.2.1=b4;generalize sW x.2.2.1=b5;generalize wG x.2.2.2.1=b6;generalize FX x.2.2.2.2.1=b7;generalize decide ((0:Int)≤x.2.2.2.2.2.1)=b8;generalize decide (x.2.2.2.2.2.1≤(4:Int))=b9;generalize vU x.2.2.2.2.2.2.1=b10;cases b1<;>cases b2<;>cases b3<;>cases b8<;>cases b9<;>simp
theorem aMN {a b:UInt8}:((a.toNat:Int)=(b.toNat:Int))↔a=b:=by
  rw[Int.ofNat_inj];exact UInt8.toNat_inj
theorem eqB {a:UInt8}{n:Int}(b:UInt8) (hb:n=(b.toNat:Int)):decide ((a.toNat:Int)=n)=decide (a=b):=by
  rw[hb];simp only[aMN]
theorem XI (a b:pC):uR (a++b)=uR a++uR b:=by simp [uR]
theorem a8e (a:pC):vG (uR a)=a:=by
  unfold vG uR;rw[List.map_map]
  conv=>rhs;rw[←List.map_id a]
  congr 1;funext b;simp
theorem aMO {x:pL}{c:Int}(hx:x.length≤10000000000000):LC (x,()) c=some ():=by
  unfold LC;exact aRf (by simp only[aSB,aS3];omega)
theorem aMP {x:pL}{t:pC}(hx:x.length≤10000000000000) (ht:t.length≤4000000000):DD (x,()) t=some ():=by
  unfold DD;exact aRf (by dsimp only;omega)
theorem aMQ {p:Prop}{α:Type}{v:α}:p→(some v).isSome=true:=fun _=>rfl
abbrev C4:=pC×(pD×(List rZ×(List sF×Unit)))
theorem LV {v:Ty}(a b:pC) (y:v.den): ∀l:List (pC×v.den),rV .str v (tJ .str v a y l) b=if b=a then y else rV .str v l b
  | []=>by
    show (if decide (b=a)=true then y else v.zero)=if b=a then y else v.zero;by_cases h:b=a<;>simp [h]
  | (x,z)::r=>by
    have ih:=LV a b y r;show rV .str v (if decide (a=x)=true then(a,y)::r else(x,z)::tJ .str v a y r) b=if b=a then y else(if decide (b=x)=true then z else rV .str v r b);by_cases h:a=x
    · rw[aRf (aRF h)]
      show (if decide (b=a)=true then y else rV .str v r b)=_;by_cases hb:b=a
      .rw[aRf (aRF hb),aRf hb]
      .rw[aRk (by simpa using hb),aRk hb,aRk (by rw[←h];simpa using hb)]
    · rw[aRk (by simpa using h)]
      show (if decide (b=x)=true then z else rV .str v (tJ .str v a y r) b)=_;rw[ih];by_cases hb:b=a
      .rw[aRf hb,aRf hb,aRk (by rw[hb];simpa using h)]
      .rw[aRk hb,aRk hb]
theorem HJ: ∀(x y:pC),Op.bytesLess x y=decide (x<y)
  |[],[]=>by simp [Op.bytesLess]
  |_::_,[]=>by simp [Op.bytesLess]
  |[],_::_=>by simp [Op.bytesLess]
  | a::x,b::y=>by
    rw[Op.bytesLess,HJ x y];simp only[List.cons_lt_cons_iff];by_cases h1:a<b<;>by_cases h2:a=b<;>by_cases h3:x<y<;>simp [h1,h2,h3]
theorem aFX (l:pD):(sG l).Pairwise (·≤·):=by
  have:=List.pairwise_mergeSort (le:=fun x y:pC=>decide (x≤y)) (fun a b c h1 h2=>aRF (List.le_trans (aRU h1) (aRU h2))) (fun a b=>by simpa using List.le_total a b) l;exact this.imp (fun h=>aRU h)
theorem a8f (l:pD):(sG l).Perm l:=List.mergeSort_perm l _
theorem XJ (l:pD):(sG l).length=l.length:=(a8f l).length_eq
theorem aMR {σ ρ:Type}{f:σ→Option (σ⊕ρ)}{x y:σ}(h:f x=some (.inl y)):rU f x=rU f y:=by
  rw[EP,h];rfl
theorem aMS {σ ρ:Type}{f:σ→Option (σ⊕ρ)}{x:σ}{r:ρ}(h:f x=some (.inr r)):rU f x=some r:=by
  rw[EP,h];rfl
def LW (ids:pJ) (es:List sF):Prop:= ∀x,rV .str .bool ids x=es.any fun y=>decide (y.1=x)
theorem a8g {ids:pJ}{es:List sF}(h:LW ids es) (e:sF) (x:pC) (he:e.1=x):LW (tJ .str .bool x true ids) (es++[e]):=by
  intro y;rw[LV,List.any_append,←h y];by_cases hy:y=x
  .rw[aRf hy];simp [he,hy]
  · rw[aRk hy]
    have:decide (e.1=y)=false:=by rw[he];simpa using fun hh=>hy hh.symm
    simp [this]
theorem aFY {σ ρ:Type}{f:σ→Option (σ⊕ρ)}{n:Nat}(st:Nat→σ) {r:ρ}(h: ∀i,i<n→f (st i)=some (.inl (st (i+1)))) (he:f (st n)=some (.inr r)): ∀(k i:Nat),i+k=n→rU f (st i)=some r
  | 0,i,hi=>by
    have:i=n:=by omega
    subst this;exact aMS he
  | k+1,i,hi=>by
    rw[aMR (h i pF)];exact aFY st h he k (i+1) pF
theorem aMT (d:vI) (h:d.2.1.length≤5000):H5 d d=some ([],0):=by
  have hn:((([d.1]:pD)++d.2.1)++([d.2.2.1]:pD)).length=d.2.1.length+2:=by simp
  have hA:L6 d=some ():=by
    unfold L6;rw[aRf pI,aRf pI]
  have hloop:=aFY (f:=RO d d) (n:=d.2.1.length+2) (fun i=>(([]:List (Int×pC×Unit)),(i:Int))) (r:=[])
    (fun i hi=>by
      unfold RO;dsimp only;rw[hn,aRf (vT hi),aRf (uM hi),aRf (uM hi),aRk pH,aRf (x6 pF)];rfl)
    (by
      unfold RO;dsimp only;rw[hn,aRk (x7 _)]) (d.2.1.length+2) 0 pF
  unfold H5;rw[aRk pH,hA,aRe,aRe,show (([]:List (Int×pC×Unit)),(0:Int))=(([]:List (Int×pC×Unit)),((0:Nat):Int)) from rfl,hloop];rfl
theorem aMU (d:vI) (h:d.2.1.length≤5000):J6 d d=some true:=by
  unfold J6;rw[aMT d h];rfl
abbrev eD:uE:=([],([],([],([],([],(0,([],())))))))
def HK (es:List uE) (i:Nat):Bool:=((es.take i).any fun y=>decide (y.1=(es.getD i eD).1))|| !yQ (es.getD i eD)
def xU (c:C4):Bool:=((xC c.1&&wG c.2.1)&&vU c.2.2.1)&&(decide ((c.2.2.2.1.length:Int)≤1000)&& !((List.range c.2.2.2.1.length).any (HK c.2.2.2.1)))
theorem aFZ {l:List uE}{i:Nat}:qU tU l (i:Int)=l.getD i eD:=by unfold qU;rw[aR0];rfl
structure a8h (c:C4):Prop where
  tag:sH c.1
  com:sH c.2.1∧∀y∈c.2.1,sH y
  fld:sH c.2.2.1∧∀y∈c.2.2.1,XH y
  len:c.2.2.2.1.length≤5000
  ent: ∀x∈c.2.2.2.1,aFW x
theorem aMV {α:Type}{l:List α}{i:Nat}{d:α}(h:i<l.length):l.take (i+1)=l.take i++[l.getD i d]:=by
  rw[List.take_add_one,aRr h,aRO,aRr h];rfl
theorem aF0 {c:C4}(hc:a8h c): ∀(n i:Nat) (m:pJ),i+n=c.2.2.2.1.length→LW m (c.2.2.2.1.take i)→
    rU (LL c) ((i:Int),m)=some (if (List.range' i n).any (HK c.2.2.2.1)=true then .inr false else .inl ())
  | 0,i,m,hi,_=>by
    have:i=c.2.2.2.1.length:=by omega
    subst this;refine vM ?_;unfold LL;dsimp only;rw[aRk (x7 _)];rfl
  | n+1,i,m,hi,hm=>by
    have h:i<c.2.2.2.1.length:=by omega
    have he:=hc.ent _ (SG (d:=eD) h);have hl:=hc.len
    have hst:LL c ((i:Int),m)=if HK c.2.2.2.1 i=true then some (.inr (.inr false)) else some (.inl (((i+1:Nat):Int),tJ .str .bool (c.2.2.2.1.getD i eD).1 true m)):=by
      unfold LL;dsimp only;rw[aRf (vT h),aRf (uM h),aFZ,hm,aMM _ he,aRf FW,aRf (x6 pF)];rfl
    rw[aTm,List.any_cons];by_cases hb:HK c.2.2.2.1 i=true
    · rw[aRf hb] at hst
      rw[hb,Bool.true_or,aRf rfl];exact vM hst
    · rw[aRk hb] at hst
      rw[w4 hst,aF0 hc n (i+1) _ pF (by rw[aMV (d:=eD) h];exact a8g hm _ _ rfl)];simp only[aSt] at hb;rw[hb,Bool.false_or]
theorem aMW {c:C4}(hc:a8h c):LM c=some (xU c):=by
  obtain⟨t1,t2⟩:=aFQ _ hc.com.1 hc.com.2;have e2:=aFV _ hc.fld.1 hc.fld.2;have hlp:=aF0 hc c.2.2.2.1.length 0 [] pF (fun x=>by rfl);rw[←List.range_eq_range'] at hlp;have hlp':rU (LL c) ((0:Int),[])=_:=hlp;have a1:decide ((1000:Int)<(c.2.2.2.1.length:Int))= !decide ((c.2.2.2.1.length:Int)≤1000):=by rw[←decide_not];exact aSJ.2 pF
  unfold LM;rw[a8a,aRe,t1,t2,e2,aRf FW,aRf FW,hlp',a1];unfold xU;show (if (((!xC c.1)||(!wG c.2.1))||(!vU c.2.2.1)||_)=true then some false else _)=_
  generalize xC c.1=b1;generalize wG c.2.1=b2;generalize vU c.2.2.1=b3;generalize decide ((c.2.2.2.1.length:Int)≤1000)=b4;generalize (List.range c.2.2.2.1.length).any (HK c.2.2.2.1)=b5;cases b1<;>cases b2<;>cases b3<;>cases b4<;>cases b5<;>rfl
def FY (l:pD):Prop:=l.length≤6000∧∀x∈l,x.length≤6000
def LX (l:List rZ):Prop:=l.length≤6000∧∀x∈l,x.1.length≤6000∧x.2.1.length≤6000
structure LY (x:uE):Prop where
  id:x.1.length≤6000
  src:x.2.1.length≤6000
  tgt:x.2.2.1.length≤6000
  com:FY x.2.2.2.1
  flg:FY x.2.2.2.2.1
  fld:LX x.2.2.2.2.2.2.1
structure JD (c:C4):Prop where
  tag:c.1.length≤100
  com:FY c.2.1
  fld:LX c.2.2.1
  len:c.2.2.2.1.length≤1000
  ent: ∀x∈c.2.2.2.1,LY x
theorem aF1 {σ ρ α:Type}{f:σ→Option (σ⊕ρ)}(st:Int→List α→σ) (out:List α→ρ) {n M B:Nat}(g:Nat→List α) (hg: ∀i,i<n→(g i).length≤B)
    (hf: ∀(i:Nat) s,i<n→s.length+B≤M→f (st i s)=some (.inl (st ((i:Int)+1) (s++g i)))) (he: ∀s,f (st n s)=some (.inr (out s))):
    ∀(k i:Nat) (s:List α),i+k=n→s.length+k*B≤M→rU f (st i s)=some (out (s++(List.range' i k).flatMap g))
  | 0,i,s,hi,_=>by
    have:i=n:=by omega
    subst this;rw[vM (he s)];simp
  | k+1,i,s,hi,hM=>by
    rw[aSm] at hM;have hgi:=hg i pF;rw[w4 (hf i s pF pF),show ((i:Int)+1)=((i+1:Nat):Int) by omega,aF1 st out g hg hf he k (i+1) (s++g i) pF (by rw[aRg];omega),aTm,aR9,aRl]
theorem SH {σ ρ α:Type}{f:σ→Option (σ⊕ρ)}(st:Int→List α→σ) (out:List α→ρ) {n M B:Nat}(g:Nat→List α) (hg: ∀i,i<n→(g i).length≤B) (s:List α) (hM:s.length+n*B≤M)
    (hf: ∀(i:Nat) s,i<n→s.length+B≤M→f (st i s)=some (.inl (st ((i:Int)+1) (s++g i)))) (he: ∀s,f (st n s)=some (.inr (out s))):
    rU f (st 0 s)=some (out (s++(List.range' 0 n).flatMap g)):=aF1 st out g hg hf he n 0 s pF hM
theorem SI {α β:Type}{l:List α}{d:α}(h:α→List β):(List.range' 0 l.length).flatMap (fun i=>h (l.getD i d))=l.flatMap h:=by
  have e:(List.range' 0 l.length).map (fun i=>l.getD i d)=l:=by
    apply List.ext_getElem
    .simp
    · intro i h1 h2
      simp [aRO,h2]
  conv=>rhs;rw[←e]
  rw[List.flatMap_map]
theorem LZ {α β:Type}{l:List α}{h:α→List β}{B:Nat}(hb: ∀x∈l,(h x).length≤B):(l.flatMap h).length≤l.length*B:=by
  induction l with
  |nil=>simp
  | cons x l ih=>
    rw[aR9,aRg,aRj,aSm];have h1:=hb x aRm;have h2:=ih fun y hy=>hb y (aRo _ hy);omega
theorem aMX {s:pC}{i:Nat}:tM s (i:Int)=((s.getD i 0).toNat:Int):=by unfold tM;rw[aR0]
theorem aMY {l:pP}{g:Nat→pC}:l.flatMap (fun i=>uR (g i))=uR (l.flatMap g):=by
  induction l with
  |nil=>rfl
  |cons x l ih=>rw[aR9,aR9,XI,ih]
theorem XK (l:pC):(uR l).length=l.length:=by simp [uR]
def ER (h:pC) (l:pD) (t:pC):pC:=h++(l.flatten++t)
theorem aF2 {f:(Int×pC)→pL→Option (pL⊕pC)}(hf: ∀it b,b.length+it.2.length≤140737488355328→f it b=some (.inl (b++uR it.2))): ∀(l:List (Int×pC)) (b:pL),
    b.length+((l.map (·.2)).flatten).length≤140737488355328→zC f l b=some (.inl (b++uR (l.map (·.2)).flatten))
  |[],b,_=>by simp [zC,uR]
  | it::l,b,h=>by
    simp only[aSi,aR8,aRg] at h;unfold zC;rw[hf it b pF,aRe];show zC f l _=_;rw[aF2 hf l _ (by rw[aRg,XK];omega)];simp only[aSi,aR8,XI,aRl]
theorem aF3 (d:vI):((CH d).map (·.2)).flatten=ER d.1 d.2.1 d.2.2.1:=by
  unfold CH ER
  have e:(List.range d.2.1.length).map (fun j=>d.2.1.getD j [])=d.2.1:=by
    apply List.ext_getElem
    .simp
    · intro i h1 h2
      simp [aRO,h2]
  have e2:(((List.range d.2.1.length).map fun j:Nat=>((j:Int)+1,d.2.1.getD j [])).map (·.2))=d.2.1:=by
    rw[List.map_map];exact e
  simp only[aSi,List.map_append,List.map_nil,aR8,List.flatten_append,List.flatten_nil,List.append_nil,e2,aRl]
theorem a8i (d:vI) (hl:d.2.1.length≤900000) (hb:(ER d.1 d.2.1 d.2.2.1).length≤140737488355328):H4 d=some (ER d.1 d.2.1 d.2.2.1):=by
  have h:=aF2 (f:=WY) (fun it b h=>by
    unfold WY DD;rw[aRf h,aRe]) (CH d) [] (by rw[aF3];simpa using hb)
  unfold H4;rw[aRf pF,h,aF3];unfold vA;dsimp only;rw[aRe];simp only[List.nil_append,a8e]
theorem SJ {l:pC}{n:Nat}(h:l.length≤n) (hn:n≤9223372036854775807):(l.length:Int)≤9223372036854775807:=by omega
theorem a8j {l:pD}(h:FY l) {i:Nat}(hi:i<l.length):(l.getD i []).length≤6000:=h.2 _ (SG hi)
theorem XL {l:List rZ}(h:LX l) {i:Nat}(hi:i<l.length):(l.getD i fD).1.length≤6000∧(l.getD i fD).2.1.length≤6000:=h.2 _ (SG hi)
theorem aMZ {n:Int}(h0:0≤n) (h1:n≤4):(qU .str HI n).length≤10:=by
  have:n=0∨n=1∨n=2∨n=3∨n=4:=by omega
  rcases this with rfl|rfl|rfl|rfl|rfl<;>decide
theorem aF4 {α β:Type}{f:α→β}{l:List α}:l.flatMap (fun x=>[f x])=l.map f:=by
  induction l with
  |nil=>rfl
  |cons x l ih=>rw[aR9,ih];rfl
theorem a8k {c:C4}(hok:xU c=true) {i:Nat}(hi:i<c.2.2.2.1.length):yQ (c.2.2.2.1.getD i eD)=true:=by
  unfold xU at hok;simp only[aRw,aRK,aRV,aSx] at hok;have:=hok.2.2 i hi;unfold HK at this;simp only[aSl,aRK,not_or,Bool.not_eq_false] at this;exact this.2
theorem aF5 {x:uE}(h:yQ x=true):0≤x.2.2.2.2.2.1∧x.2.2.2.2.2.1≤4:=by
  unfold yQ at h;simp only[aRw,aRG] at h;exact h.1.2
theorem a8l {l:pC}(h: ∀b∈l,b.toNat<128):Lib.validD l=true:=by
  rw[Lib.validD_ascii l.length l (fun b hb=>h b (List.mem_of_mem_take hb)),aSh];rfl
theorem aF6 {b:UInt8}(h:yP b.toNat=false):b.toNat<128:=by
  unfold yP at h;simp only[aS4,aSw,aRw,aRG] at h;omega
theorem a8m {x:pC}(h:uQ x=true):sW x=true:=by
  cases x with
  |nil=>cases h
  | cons b t=>
    unfold uQ at h;simp only[aRw,aRK,aRV,aSt,aR1] at h;obtain⟨⟨h0,h1⟩,h2⟩:=h;unfold sW;rw[aRw,aRG];refine⟨by simp only[aRj];omega,a8l fun c hc=> ?_⟩;rcases aRu.1 hc with rfl|hc
    · unfold zH at h1
      simp only[aRw,aRG] at h1;omega
    .exact aF6 (h2 c hc)
theorem M0 {l:pD}(h:wG l=true):l.length≤20∧∀x∈l,sW x=true:=by
  unfold wG at h;simp only[aRw,aRK,aRV,aRG,aSt,aSw] at h;exact⟨pF,fun x hx=>by simpa using h.2 x hx⟩
theorem a8n {α:Type}{r:α→α→Prop}(tr: ∀a b c,r a b→r b c→r a c) {l:List α}(h: ∀(i:Nat) (hi:i+1<l.length),r l[i] l[i+1]):l.Pairwise r:=by
  rw[aSq];intro i j hi hj hij;obtain⟨k,rfl⟩: ∃k,j=i+1+k:=⟨j-i-1,pF⟩
  induction k with
  |zero=>exact h i hj
  |succ k ih=>exact tr _ _ _ (ih pF pF) (h (i+1+k) hj)
theorem BU {α:Type}{l:List α}{i:Nat}{d:α}(h:i<l.length):l.getD i d=l[i]:=by
  rw[aRO,aRr h];rfl
theorem SK {l:pD}(h:FX l=true):l.length≤20∧(∀x∈l,uQ x=true)∧l.Pairwise (· < ·):=by
  unfold FX at h;simp only[aRw,aRK,aRV,aRG,aSx,aSt] at h;obtain⟨h1,h2⟩:=h;unfold XF at h1;simp only[aR3,aS4,aSw,aR1] at h1;refine⟨pF,fun x hx=> ?_,a8n (r:=fun a b:pC=>a<b) (fun a b c=>List.lt_trans) fun i hi=> ?_⟩
  · obtain⟨i,hi,rfl⟩:=aSW hx
    have:=(h1 i hi).1;rwa [BU hi] at this
  · have:=(h1 (i+1) hi).2
    rw[BU hi,Nat.add_sub_cancel,BU (show i<l.length by omega),HJ] at this;exact aRU (this.resolve_left pF)
theorem HL {l:List rZ}(h:vU l=true):l.length≤20∧(∀x∈l,uQ x.1=true∧sW x.1=true∧sW x.2.1=true)∧l.Pairwise (fun a b=>a.1<b.1):=by
  unfold vU at h;simp only[aRw,aRK,aRV,aRG,aSx,aSt] at h;obtain⟨h1,h2⟩:=h;unfold XG at h1;simp only[aR3,aS4,aSw,aR1] at h1;refine⟨pF,fun x hx=> ?_,a8n (r:=fun a b:rZ=>a.1<b.1) (fun a b c=>List.lt_trans) fun i hi=> ?_⟩
  · obtain⟨i,hi,rfl⟩:=aSW hx
    have:=(h1 i hi).1;rw[BU hi] at this;exact⟨this.1,a8m this.1,this.2⟩
  · have:=(h1 (i+1) hi).2
    rw[BU hi,Nat.add_sub_cancel,BU (show i<l.length by omega),HJ] at this;exact aRU (this.resolve_left pF)
theorem aM0 {es:List uE}(h: ∀i,i<es.length→HK es i=false):es.Pairwise (fun a b=>a.1≠b.1):=by
  rw[aSq];intro i j hi hj hij he;have h1:=h j hj;unfold HK at h1;simp only[aR3,aRV,aRG] at h1;rw[BU hj] at h1;exact h1.1 es[i] (by rw[List.mem_take_iff_getElem];exact⟨i,pF,rfl⟩) he
theorem SL {c:C4}(h:xU c=true):xC c.1=true∧wG c.2.1=true∧vU c.2.2.1=true∧c.2.2.2.1.length≤1000∧(∀x∈c.2.2.2.1,yQ x=true)∧c.2.2.2.1.Pairwise (fun a b=>a.1≠b.1):=by
  have h':=h;unfold xU at h';simp only[aRw,aRK,aRV,aSx,aRG,aSt] at h';obtain⟨⟨⟨h1,h2⟩,h3⟩,h4,h5⟩:=h';refine⟨h1,h2,h3,pF,fun x hx=> ?_,aM0 h5⟩;obtain⟨i,hi,rfl⟩:=aSW hx;have:=a8k h hi;rwa [BU hi] at this
theorem aF7 {a b:pC}(h: ¬a<b) (hne:a≠b):b<a:=by
  have:=aMH a b;rw[HJ,HJ] at this;have h1:decide (a<b)=false:=by simpa using h
  have h2:decide (b=a)=false:=by simpa using fun e=>hne e.symm
  rw[h1,h2] at this;simpa using this.symm
theorem aF8 {α:Type}(f:α→pC) {x:α}{p:α→Bool}: ∀{l:List α},l.Pairwise (fun a b=>f a<f b)→(∀y∈l,f y≠f x)→(∀y∈l,p y= !decide (f y<f x))→
    (l.take ((l.findIdx? p).getD l.length)++[x]++l.drop ((l.findIdx? p).getD l.length)).Pairwise (fun a b=>f a<f b)
  |[],_,_,_=>by simp
  | a::t,hp,hne,hpp=>by
    rw[aTc] at hp;have hpa:=hpp a aRm;rw[aSZ];by_cases h:f a<f x
    · have hpf:p a=false:=by rw[hpa];simpa using h
      rw[hpf];have ih:=aF8 f (x:=x) hp.2 (fun y hy=>hne y (aRo _ hy)) (fun y hy=>hpp y (aRo _ hy))
      have e:((if false=true then some 0 else(t.findIdx? p).map fun i=>i+1).getD (a::t).length)=(t.findIdx? p).getD t.length+1:=by
        cases t.findIdx? p<;>rfl
      rw[e,List.take_succ_cons,aTl,List.cons_append,List.cons_append,aTc];refine⟨fun y hy=> ?_,ih⟩;rw[aRl] at hy;rcases aR2.1 hy with hy|hy
      .exact hp.1 y (List.mem_of_mem_take hy)
      · rcases aRu.1 hy with rfl|hy
        .exact h
        .exact hp.1 y (List.mem_of_mem_drop hy)
    · have hpt:p a=true:=by rw[hpa];simpa using h
      rw[hpt];have hx:f x<f a:=aF7 h (hne a aRm);show ([]++[x]++(a::t)).Pairwise _;rw[List.nil_append,List.singleton_append,aTc];refine⟨fun y hy=> ?_,aTc.2 hp⟩;rcases aRu.1 hy with rfl|hy
      .exact hx
      .exact List.lt_trans hx (hp.1 y hy)
theorem aM1 {α:Type}{l:List α}{x y:α}{k:Nat}(h:y∈l.take k++[x]++l.drop k):y=x∨y∈l:=by
  rw[aRl] at h;rcases aR2.1 h with h|h
  .exact .inr (List.mem_of_mem_take h)
  · rcases aRu.1 h with h|h
    .exact .inl h
    .exact .inr (List.mem_of_mem_drop h)
theorem aM2 {α:Type}{l:List α}{x:α}{k:Nat}:(l.take k++[x]++l.drop k).length=l.length+1:=by
  simp only[aRg,aRD,aRA,aSB];omega
theorem aM3 {l:pD}(h:l.length≤20) (hx: ∀x∈l,sW x=true):wG l=true:=by
  unfold wG;simp only[aRw,aRK,aRV,aRG,aSw,aSt];exact⟨pF,fun x hxl=>by simpa using hx x hxl⟩
theorem aF9 {α:Type}{r:α→α→Prop}{l:List α}(h:l.Pairwise r) {i:Nat}(h0:0<i) (hi:i<l.length):r l[i-1] l[i]:=by
  rw[aSq] at h;exact h (i-1) i pF hi pF
theorem aM4 {l:pD}(h:l.length≤20) (hx: ∀x∈l,uQ x=true) (hp:l.Pairwise (· < ·)):FX l=true:=by
  unfold FX;simp only[aRw,aRK,aRV,aRG,aSx,aSt];refine⟨fun i hi=> ?_,pF⟩;unfold XF;rw[BU hi,hx _ (aSK hi)];by_cases h0:0<i
  · rw[BU (show i-1<l.length by omega),HJ]
    simp [aF9 hp h0 hi]
  .simp [h0]
theorem aM5 {l:List rZ}(h:l.length≤20) (hx: ∀x∈l,uQ x.1=true∧sW x.2.1=true) (hp:l.Pairwise (fun a b=>a.1<b.1)):vU l=true:=by
  unfold vU;simp only[aRw,aRK,aRV,aRG,aSx,aSt];refine⟨fun i hi=> ?_,pF⟩;unfold XG;obtain⟨a,b⟩:=hx _ (aSK hi);rw[BU hi,a,b];by_cases h0:0<i
  · rw[BU (show i-1<l.length by omega),HJ]
    simp [aF9 hp h0 hi]
  .simp [h0]
theorem aM6 {l:pD}{x:pC}(h:wG l=true) (hl: ¬20≤l.length) (hx:sW x=true):wG (l++[x])=true:=by
  obtain⟨h1,h2⟩:=M0 h;refine aM3 (by rw[aRg,aSB];omega) fun y hy=> ?_;rcases aR2.1 hy with hy|hy
  .exact h2 y hy
  .rw[aRv.1 hy];exact hx
theorem aM7 {l:List rZ}{n v:pC}(h:vU l=true) (hl: ¬20≤l.length) (hx:uQ n=true) (hv:sW v=true) (hn: ¬(l.any fun y=>decide (y.1=n))=true):vU (FU l n v)=true:=by
  obtain⟨h1,h2,h3⟩:=HL h;have hne: ∀y∈l,y.1≠n:=fun y hy e=>hn (List.any_eq_true.2 ⟨y,hy,by simp [e]⟩)
  have hk:B5 l n=none:=by
    unfold B5;rw[aSS];intro y hy;simpa using hne y hy
  unfold FU;rw[hk];show vU (l.take (FT l n)++[(n,v,())]++l.drop (FT l n))=true;unfold FT;refine aM5 (by rw[aM2];omega) (fun y hy=> ?_) (aF8 (fun y:rZ=>y.1) (x:=(n,v,())) h3 hne fun y hy=> ?_)
  · rcases aM1 hy with rfl|hy
    .exact⟨hx,hv⟩
    .exact⟨(h2 y hy).1,(h2 y hy).2.2⟩
  · rw[HJ]
    have:decide (y.1=n)=false:=by simpa using hne y hy
    rw[this,Bool.or_false]
structure ES (es:List uE):Prop where
  len:es.length≤1000
  ok: ∀x∈es,yQ x=true
  pw:es.Pairwise (fun a b=>a.1≠b.1)
section
variable {s:pC}(hsm:s.length≤4000000000) {bad:Int}{ends:pL}{tag:pC}{cms:pD}{fds:List rZ}{es:List uE}
include hsm
omit hsm in
theorem aGa {c:C4}(h1:xC c.1=true) (h2:wG c.2.1=true) (h3:vU c.2.2.1=true) (h4:ES c.2.2.2.1):xU c=true:=by
  unfold xU;rw[h1,h2,h3,aRF (show ((c.2.2.2.1.length:Int))≤1000 by have:=h4.len;omega)];simp only[Bool.true_and,aRK,aRV,aSx,aSt];intro i hi;unfold HK;rw[BU hi,h4.ok _ (aSK hi)];simp only[Bool.not_true,Bool.or_false,aRV,aRG];intro y hy;rw[List.mem_take_iff_getElem] at hy;obtain⟨j,hj,rfl⟩:=hy;exact aSq.1 h4.pw j i pF hi pF
end
theorem zY {x:pC}(h:sW x=true):x.length≤4000:=by
  unfold sW at h;simp only[aRw,aRG] at h;omega
structure a8o (x:uE):Prop where
  id:x.1.length≤4000
  src:x.2.1.length≤4000
  tgt:x.2.2.1.length≤4000
  com:x.2.2.2.1.length≤20∧∀y∈x.2.2.2.1,y.length≤4000
  flg:x.2.2.2.2.1.length≤20∧∀y∈x.2.2.2.2.1,y.length≤4000
  fld:x.2.2.2.2.2.2.1.length≤20∧∀y∈x.2.2.2.2.2.2.1,y.1.length≤4000∧y.2.1.length≤4000
theorem aM8 {x:uE}(h:yQ x=true):a8o x:=by
  have h':=h;unfold yQ at h';simp only[aRw] at h';obtain⟨⟨⟨⟨⟨⟨⟨⟨hne,h200⟩,hid⟩,hsrc⟩,htgt⟩,hcom⟩,hflg⟩,_⟩,hfld⟩:=h';obtain⟨c1,c2⟩:=M0 hcom;obtain⟨f1,f2,f3⟩:=SK hflg;obtain⟨g1,g2,g3⟩:=HL hfld;exact⟨zY hid,zY hsrc,zY htgt,⟨c1,fun y hy=>zY (c2 y hy)⟩,⟨f1,fun y hy=>zY (a8m (f2 y hy))⟩,⟨g1,fun y hy=>⟨zY (g2 y hy).2.1,zY (g2 y hy).2.2⟩⟩⟩
theorem a8p {l:pD}(h:l.length≤20∧∀y∈l,y.length≤4000):FY l:=⟨pF,fun y hy=>by have:=h.2 y hy;omega⟩
theorem aGb {l:List rZ}(h:l.length≤20∧∀y∈l,y.1.length≤4000∧y.2.1.length≤4000):LX l:=⟨pF,fun y hy=>by have:=h.2 y hy;omega⟩
theorem a8o.few {x:uE}(h:a8o x):LY x:=⟨by have:=h.id;omega,by have:=h.src;omega,by have:=h.tgt;omega,a8p h.com,a8p h.flg,aGb h.fld⟩
theorem aM9 {c:C4}(h:xU c=true):JD c:=by
  obtain⟨h1,h2,h3,h4,h5,_⟩:=SL h;obtain⟨c1,c2⟩:=M0 h2;obtain⟨g1,g2,g3⟩:=HL h3;refine⟨?_,a8p ⟨c1,fun y hy=>zY (c2 y hy)⟩,aGb ⟨g1,fun y hy=>⟨zY (g2 y hy).2.1,zY (g2 y hy).2.2⟩⟩,h4,fun x hx=>(aM8 (h5 x hx)).few⟩;unfold xC at h1;simp only[aRw,aRG] at h1;omega
def DH:Nat→pD→pP
  |_,[]=>[]
  |a,x::ps=>(a+x.length)::DH (a+x.length) ps
theorem aGc: ∀(a:Nat) (ps:pD),(DH a ps).length=ps.length
  |_,[]=>rfl
  |a,x::ps=>by rw[DH,aRj,aRj,aGc]
theorem aGd: ∀(ps:pD) (a j:Nat),j≤ps.length→(a::DH a ps).getD j 0=a+(ps.take j).flatten.length
  |_,a,0,_=>by simp
  |[],_,_+1,h=>by simp at h
  | x::ps,a,j+1,h=>by
    rw[DH,List.getD_cons_succ,aGd ps (a+x.length) j (by simpa using h),List.take_succ_cons,aR8,aRg];omega
theorem aGe (ps:pD) (j:Nat):ps.flatten=(ps.take j).flatten++(ps.drop j).flatten:=by
  rw[←List.flatten_append,aSQ]
theorem aNa {s a b c:pC}(h:s=a++(b++c)):sC s (a.length:Nat) ((a.length+b.length:Nat):Int)=b:=by
  unfold sC;rw[aR0,aR0,h,aSD,aR5,aSd]
noncomputable section
def uG (b:Nat):pC:=(J4 (b:Int)).getD []
theorem aNb:((List.range 256).all fun b=>decide (J4 (b:Int)=some (uG b))&&([true,false].all fun f=>decide (a5e 4 (b:Int) f=some (uG b)))&&decide ((uG b).length≤6))=true:=by kernel_rfl
theorem a8q (b:UInt8) (f:Bool):J4 (b.toNat:Int)=some (uG b.toNat)∧a5e 4 (b.toNat:Int) f=some (uG b.toNat)∧(uG b.toNat).length≤6:=by
  have h:=aRX.1 aNb b.toNat (aSx.2 (UInt8.toNat_lt b));simp only[aRw,aRG] at h;have h2:=aRX.1 h.1.2 f (by cases f<;>simp)
  exact⟨h.1.1,aRU h2,h.2⟩
def uW (s:pC):pC:=s.flatMap fun b=>uG b.toNat
theorem OI (s:pC):(uW s).length≤6*s.length:=by
  have:=LZ (l:=s) (h:=fun b:UInt8=>uG b.toNat) (B:=6) fun b _=>(a8q b true).2.2;unfold uW;omega
theorem aNc {s:pC}(hs:sH s):LJ (4:Int) s=some (uW s):=by
  unfold sH at hs
  have h:=SH (f:=RX (4:Int) s) (fun i b=>(i,b)) (fun b=>b) (n:=s.length) (M:=10000000000000) (B:=6) (fun i=>uR (uG (s.getD i 0).toNat)) (fun i _=>by rw[XK];exact(a8q _ true).2.2) [] pI (fun i b hi hM=>by
    obtain⟨e1,_,e3⟩:=a8q (s.getD i 0) true;unfold RX;dsimp only;rw[aRf (vT hi),aRf pG,aRf (uM hi),aMX,e1,aRe];unfold DD;rw[aRf (by dsimp only;omega),aRe,aRf (x6 pF)]) (fun b=>by
    unfold RX;dsimp only;rw[aRk (x7 _)])
  unfold LJ;rw[aRk pH,h,aMY,SI (l:=s) (d:=0) fun b:UInt8=>uG b.toNat];unfold sJ;rw[aRe,List.nil_append,a8e];rfl
def xD (s p:pC):pC×Bool:=if s.take p.length=p then(s.drop p.length,true) else(s,false)
theorem aNd {s p:pC}:((decide ((List.length p:Int)≤(List.length s:Int)))&&decide (sC s (0:Int) (List.length p:Int)=p))=decide (s.take p.length=p):=by
  rw[a8b];by_cases h:s.take p.length=p
  · have:=aRx List.length h
    rw[aRD] at this;simp [h];omega
  .simp [h]
theorem XM (s p:pC):EG s p=some (xD s p):=by
  unfold EG LA internal_stringslite_HasPrefix;rw[aRf (fun h=>⟨aSz _,pF,by simpa using h⟩),aRe,aNd];unfold xD;by_cases h:s.take p.length=p
  · have:=aRx List.length h
    rw[aRD] at this;rw[aRk (by simp [h]),aRf ⟨pF,pF,aSz _⟩,aRf h,SE];rfl
  .rw[aRf (by simp [h]),aRk h];rfl
theorem aNe (s:pC) (base:Int) (hs:sH s): ∃n b,FN s base=some (n,b):=by
  unfold sH at hs
  have loop: ∀(k i:Nat) (n:Int),i+k=s.length→∃r,rU (J0 s base) (n,(i:Int))=some r:=by
    intro k
    induction k with
    | zero=>
      intro i n hi;obtain rfl:i=s.length:=by omega
      refine⟨Sum.inl n,vM (r:=Sum.inl n) ?_⟩
      · unfold J0
        dsimp only;rw[aRk (x7 _)]
    | succ k ih=>
      intro i n hi;have h:i<s.length:=by omega
      obtain⟨r2,e2⟩: ∃d:Int,(sJ (σ:=Int) (
       if ((decide ((65:Int)≤(tM s i)))&&(decide ((tM s i)≤(70:Int))))=true then
        if 0≤(i:Int)∧(i:Int)<(List.length s:Int) then
         some ((IntKind.wrap .i64 ((IntKind.wrap .i64 (IntKind.wrap .u8 ((tM s i)- (65:Int))))+(10:Int))))
        else none
       else
        some ((v7 ([48,49,50,51,52,53,54,55,56,57,97,98,99,100,101,102]:pC) (tM s i)))
      ) fun d=>some d)=some d:=by
        unfold sJ;split
        .rw[aRf (uM h)];exact⟨_,rfl⟩
        .exact⟨_,rfl⟩
      have hw:IntKind.wrap .i64 ((i:Int)+1)=((i+1:Nat):Int):=by
        rw[IntWalk.i64_in _ pF];rfl
      have hst:(∃r,J0 s base (n,(i:Int))=some (.inr r))∨∃m,J0 s base (n,(i:Int))=some (.inl (m,((i+1:Nat):Int))):=by
        unfold J0;dsimp only;rw[aRf (vT h),aRf (uM h),aRf (uM h),aRf (fun _=>uM h),hw];unfold sJ at e2|-;generalize (if ((decide ((65:Int)≤(tM s i)))&&(decide ((tM s i)≤(70:Int))))=true then
        if 0≤(i:Int)∧(i:Int)<(List.length s:Int) then
         some ((IntKind.wrap .i64 ((IntKind.wrap .i64 (IntKind.wrap .u8 ((tM s i)- (65:Int))))+(10:Int))))
        else none
       else
        some ((v7 ([48,49,50,51,52,53,54,55,56,57,97,98,99,100,101,102]:pC) (tM s i))))=o at e2|-
        cases o with
        |none=>cases e2
        | some d=>
          rw[aRe];split
          .exact .inl ⟨_,rfl⟩
          .exact .inr ⟨_,rfl⟩
      rcases hst with⟨r,hr⟩ |⟨m,hm⟩
      .exact⟨_,vM hr⟩
      · rw[w4 hm]
        exact ih (i+1) m pF
  obtain⟨r,hr⟩:=loop s.length 0 0 pF;have hr':rU (J0 s base) ((0:Int),(0:Int))=some r:=hr;unfold FN;rw[hr'];cases r with
  |inl n=>exact⟨_,_,rfl⟩
  |inr x=>obtain⟨n,b⟩:=x;exact⟨n,b,rfl⟩
def rE (l:pC):pC×Int:=(EI l).getD ([],0)
theorem OJ (l:pC) (b:UInt8):Lib.indexByte l b<l.length∧ -1≤Lib.indexByte l b:=WE l b
theorem aNf (n:Int):(if FV n=true then Lib.encodeRune n else Lib.encodeRune 65533).length≤4:=by
  split<;>exact aMG _
theorem aGf {l t:pC}(h38:l=38::t) (hf:sH l):EI l=some (rE l)∧(rE l).1.length≤4∧((rE l).2=0∨((rE l).2=Lib.indexByte l 59+1∧1≤Lib.indexByte l 59)):=by
  have hix:v7 l 59=Lib.indexByte l 59:=rfl;have hr:=OJ l 59
  have h1:Lib.indexByte l 59<0∨1≤Lib.indexByte l 59:=by
    rw[h38] at hr|-;unfold Lib.indexByte at hr|-;rw[aRk pG] at hr|-;split
    .left;decide
    · have:=OJ t 59
      rename_i h;have h':Lib.indexByte t 59≠ -1:=by simpa using h
      omega
  suffices h: ∃x k,EI l=some (x,k)∧x.length≤4∧(k=0∨(k=Lib.indexByte l 59+1∧1≤Lib.indexByte l 59)) by
    obtain⟨x,k,e,h2,h3⟩:=h;have:rE l=(x,k):=by unfold rE;rw[e];rfl
    rw[this];exact⟨e,h2,h3⟩
  unfold sH at hf;unfold EI;rw[hix];by_cases hk:Lib.indexByte l 59<0
  · rw[aRf (aRF hk)]
    exact⟨[],0,rfl,by simp,.inl rfl⟩
  · have hk1:1≤Lib.indexByte l 59:=by omega
    have hi:qC (Lib.indexByte l 59+1):=by unfold qC;omega
    rw[aRk (by simpa using hk),aRf ⟨pG,hk1,pF⟩,aRf hi,aRf hi,aRf hi,aRf hi,aRf hi]
    have hnl:(sC l 1 (Lib.indexByte l 59)).length≤l.length:=by
      unfold sC;rw[aRD,aRA];omega
    generalize sC l 1 (Lib.indexByte l 59)=nm at hnl|-;split
    .exact⟨_,_,rfl,by simp,.inr ⟨rfl,hk1⟩⟩
    split
    .exact⟨_,_,rfl,by simp,.inr ⟨rfl,hk1⟩⟩
    split
    .exact⟨_,_,rfl,by simp,.inr ⟨rfl,hk1⟩⟩
    split
    .exact⟨_,_,rfl,by simp,.inr ⟨rfl,hk1⟩⟩
    split
    .exact⟨_,_,rfl,by simp,.inr ⟨rfl,hk1⟩⟩
    rw[XM,aRe]
    have h2:(xD nm [35]).1.length≤l.length:=by
      unfold xD;split
      .rw[aRA];omega
      .exact hnl
    generalize xD nm [35]=c1 at h2|-;split
    .exact⟨[],0,rfl,by simp,.inl rfl⟩
    rw[XM,aRe]
    have h3:(xD c1.1 [120]).1.length≤l.length:=by
      unfold xD;split
      .rw[aRA];omega
      .exact h2
    generalize xD c1.1 [120]=c2 at h3|-
    obtain⟨u,e,hu⟩: ∃u:pC×Int×Int,(if c2.2=true then some ((c2.1,(16:Int),(6:Int))) else some ((c1.1,(10:Int),(7:Int))))=some u∧u.1.length≤l.length:=by
      split
      .exact⟨_,rfl,h3⟩
      .exact⟨_,rfl,h2⟩
    unfold sJ;rw[e,aRe];obtain⟨u1,u2,u3⟩:=u;dsimp only at hu|-;obtain⟨n,b,ed⟩:=aNe u1 u2 (by unfold sH;omega);rw[ed,aRe];split
    .exact⟨[],0,rfl,by simp,.inl rfl⟩
    rw[aMF,aRe];split
    .exact⟨[],0,rfl,by simp,.inl rfl⟩
    .exact⟨_,_,rfl,aNf n,.inr ⟨rfl,hk1⟩⟩
def yC:Nat→pC→Option pC
  |0,_=>some []
  |_+1,[]=>some []
  |n+1,b::t=>if b=38 then(if (rE (b::t)).2=0 then none else(yC n ((b::t).drop (rE (b::t)).2.toNat)).map ((rE (b::t)).1++ ·)) else if b=60∨b=34 then none else(yC n t).map (b:: ·)
theorem aGg {s:pC}{i:Nat}(h:i≤s.length):sC s (i:Int) (s.length:Int)=s.drop i:=SE
theorem aGh (b:UInt8):LB 4 (b.toNat:Int)=(decide (b=60)||decide (b=34)):=by
  unfold LB;rw[aRk pG];simp only[a1i];show (decide ((b.toNat:Int)=60)||decide ((b.toNat:Int)=34))=_
  rw[eqB (n:=60) 60 rfl,eqB (n:=34) 34 rfl]
theorem a8r {s:pC}(hs:sH s): ∀(k i:Nat) (x:pL),i≤s.length→s.length-i≤k→x.length+4*(s.length-i)≤5000000000000→
    ∃ r,rU (EJ 4 s) ((i:Int),x)=some r∧(match yC k (s.drop i) with
      |some y=>r= .inl (x++uR y)
      |none=> ∃j,r= .inr ([],j,3))
  | k,i,x,hi,hk,hx=>by
    have hs':=hs;unfold sH at hs';by_cases he:i=s.length
    · subst he
      refine⟨.inl x,vM ?_,?_⟩
      · unfold EJ
        dsimp only;rw[aRk (x7 _)]
      · rw[aSh]
        cases k<;>simp [yC,uR]
    · have h:i<s.length:=by omega
      cases k with
      |zero=>omega
      | succ k=>
        rw[aRW h];have hb:tM s (i:Int)=(s[i].toNat:Int):=aFx h;unfold yC;by_cases h38:s[i]=38
        · have hd:s.drop i=38::s.drop (i+1):=by rw[aRW h,h38]
          obtain⟨e1,e2,e3⟩:=aGf (l:=s.drop i) hd (by unfold sH;rw[aRA];omega);rw[aRf h38,h38,←hd];have hr:=OJ (s.drop i) 59;rw[aRA] at hr;by_cases h0:(rE (s.drop i)).2=0
          · rw[aRf h0]
            refine⟨.inr ([],(i:Int),3),vM ?_,⟨_,rfl⟩⟩;unfold EJ;dsimp only;rw[aRf (vT h),aRf (uM h),hb,h38,aRf pG,aRf ⟨pF,pF,aSz _⟩,aGg pF,e1,aRe,aRf (aRF h0)]
          · rw[aRk h0]
            have hk2:(rE (s.drop i)).2=Lib.indexByte (s.drop i) 59+1∧1≤Lib.indexByte (s.drop i) 59:=by
              rcases e3 with e|e
              .exact absurd e h0
              .exact e
            have hst:EJ 4 s ((i:Int),x)=some (.inl (((i+(rE (s.drop i)).2.toNat:Nat):Int),x++uR (rE (s.drop i)).1)):=by
              unfold EJ;dsimp only;rw[aRf (vT h),aRf (uM h),hb,h38,aRf pG,aRf ⟨pF,pF,aSz _⟩,aGg pF,e1,aRe,aRk (by simpa using h0),aMP pF pF,aRe,aRf (by unfold qC;omega)];rw[show (i:Int)+(rE (s.drop i)).2=((i+(rE (s.drop i)).2.toNat:Nat):Int) by omega]
            obtain⟨r,hr1,hr2⟩:=a8r hs k (i+(rE (s.drop i)).2.toNat) (x++uR (rE (s.drop i)).1) pF pF (by rw[aRg,XK];omega);refine⟨r,by rw[w4 hst];exact hr1,?_⟩;rw[aSX];cases hu:yC k (s.drop (i+(rE (s.drop i)).2.toNat)) with
            |none=>rw[hu] at hr2;exact hr2
            | some y=>
              rw[hu] at hr2;simp only[Option.map_some];rw[hr2,XI,aRl]
        · rw[aRk h38]
          have h38': ¬decide ((s[i].toNat:Int)=38)=true:=by rw[eqB (n:=38) 38 rfl];simpa using h38
          by_cases hf:s[i]=60∨s[i]=34
          · rw[aRf hf]
            refine⟨.inr ([],(i:Int),3),vM ?_,⟨_,rfl⟩⟩;unfold EJ;dsimp only;rw[aRf (vT h),aRf (uM h),hb,aRk h38',aRf (uM h),aGh,aRf (by simpa using hf)]
          · rw[aRk hf]
            have hst:EJ 4 s ((i:Int),x)=some (.inl (((i+1:Nat):Int),x++uR [s[i]])):=by
              unfold EJ;dsimp only;rw[aRf (vT h),aRf (uM h),hb,aRk h38',aRf (uM h),aGh,aRk (by simpa using hf),aRf (uM h),aMO pF,aRe,aRf (x6 pF)];rfl
            obtain⟨r,hr1,hr2⟩:=a8r hs k (i+1) (x++uR [s[i]]) pF pF (by rw[aRg,XK];simp only[aRj,aRq];omega);refine⟨r,by rw[w4 hst];exact hr1,?_⟩;cases hu:yC k (s.drop (i+1)) with
            |none=>rw[hu] at hr2;exact hr2
            | some y=>
              rw[hu] at hr2;simp only[Option.map_some];rw[hr2,aRl,←XI];rfl
def xM (s:pC):Option pC:=match yC s.length s with
  |some t=>if sW t=true then some t else none
  |none=>none
theorem aGi {s:pC}(hs:sH s): ∃r,HF 4 s=some r∧(match yC s.length s with
      |some y=>r=(y,0,0)
      |none=>r.1=[]∧r.2.2=3):=by
  have hs':=hs;unfold sH at hs';obtain⟨r,hr1,hr2⟩:=a8r hs s.length 0 [] pF pF pI;have hr1':rU (EJ 4 s) ((0:Int),[])=some r:=hr1;rw[aSH] at hr2;unfold HF;rw[aRk pG,aRf pG,hr1'];cases hu:yC s.length s with
  | none=>
    rw[hu] at hr2;obtain⟨j,rfl⟩:=hr2;exact⟨_,rfl,rfl,rfl⟩
  | some y=>
    rw[hu] at hr2;dsimp only at hr2;subst hr2;refine⟨_,rfl,?_⟩;show (vG ([]++uR y),(0:Int),(0:Int))=(y,0,0);rw[List.nil_append,a8e]
theorem XN: ∀(k:Nat) (l r:pC),sH l→yC k l=some r→r.length≤4*k
  |0,l,r,_,h=>by unfold yC at h;cases h;simp
  |k+1,[],r,_,h=>by unfold yC at h;cases h;simp
  | k+1,b::t,r,hf,h=>by
    have hf':sH t:=by unfold sH at hf|-;simp only[aRj] at hf;omega
    unfold yC at h;split at h
    · rename_i hb
      split at h
      .cases h
      · obtain⟨y,hy,rfl⟩:=aRn.1 h
        have h1:=(aGf (l:=b::t) (t:=t) (by rw[hb]) hf).2.1;have h2:=XN k _ y (by unfold sH at hf|-;rw[aRA];omega) hy;rw[aRg];omega
    · split at h
      .cases h
      · obtain⟨y,hy,rfl⟩:=aRn.1 h
        have h2:=XN k t y hf' hy;simp only[aRj];omega
theorem aGj {s:pC}(hs:s.length≤1000000000): ∃t,FQ s=some (t,(xM s).isSome)∧(∀y,xM s=some y→t=y):=by
  have hf:sH s:=by unfold sH;omega
  obtain⟨r,hr,hm⟩:=aGi hf;unfold FQ xM;rw[hr,aRe];cases hu:yC s.length s with
  | none=>
    rw[hu] at hm;have hne:decide (r.2.2=0)=false:=by rw[hm.2];rfl
    rw[hne,aRf (fun h=>by cases h)];exact⟨_,rfl,fun y h=>by cases h⟩
  | some y=>
    rw[hu] at hm;dsimp only at hm;subst hm;have hl:=XN _ _ _ hf hu;have h1:=OH y (by unfold sH;omega);dsimp only;rw[aRf (fun _=>by rw[h1];rfl)];refine⟨y,?_,fun z hz=> ?_⟩
    · show some (y,(_&&sW y))=_
      cases sW y<;>rfl
    · split at hz
      .exact aRi hz
      .cases hz
theorem aGk {t:pC}{c:UInt8}: ∀{e:pC},0≤Lib.indexByte e c→Lib.indexByte (e++t) c=Lib.indexByte e c
  |[],h=>by simp [Lib.indexByte] at h
  | b::e,h=>by
    rw[List.cons_append];unfold Lib.indexByte at h|-;by_cases hb:(b==c)=true
    .rw[aRf hb,aRf hb]
    · rw[aRk hb] at h
      rw[aRk hb,aRk hb];by_cases h1:(Lib.indexByte e c== -1)=true
      .rw[aRf h1] at h;simp at h
      · have h2:Lib.indexByte e c≠ -1:=by simpa using h1
        have h3:=OJ e c;have ih:=aGk (e:=e) (t:=t) (c:=c) pF;rw[ih]
theorem aNg {e t:pC}(h:0≤Lib.indexByte e 59):rE (e++t)=rE e:=by
  have hix: ∀l,v7 l 59=Lib.indexByte l 59:=fun _=>rfl;have hr:=OJ e 59;unfold rE EI;rw[hix,hix,aGk h,aRg]
  have hc:sC (e++t) 1 (Lib.indexByte e 59)=sC e 1 (Lib.indexByte e 59):=by
    unfold sC;cases e with
    |nil=>simp [Lib.indexByte] at h
    | cons b e=>
      show (e++t).take _=e.take _;rw[aSa];simp only[aRj] at hr;show (Lib.indexByte (b::e) 59).toNat-1≤e.length;omega
  rw[hc];have hn: ¬decide (Lib.indexByte e 59<0)=true:=by simp;omega
  rw[aRk hn,aRk hn];by_cases h1:1≤Lib.indexByte e 59
  .rw[aRf (show 0≤(1:Int)∧(1:Int)≤Lib.indexByte e 59∧Lib.indexByte e 59≤((e.length+t.length:Nat):Int) from⟨pG,h1,pF⟩),aRf (show 0≤(1:Int)∧(1:Int)≤Lib.indexByte e 59∧Lib.indexByte e 59≤(e.length:Int) from⟨pG,h1,pF⟩)]
  .rw[aRk (fun hh=>h1 hh.2.1),aRk (fun hh=>h1 hh.2.1)]
theorem aNh:((List.range 256).all fun b=>decide (uG b≠[])&&((decide ((uG b).head? =some 38)&&decide (0≤Lib.indexByte (uG b) 59)&&decide (rE (uG b)=([b.toUInt8],((uG b).length:Int))))||(decide (uG b=[b.toUInt8])&&decide (b≠38)&&decide (b≠60)&&decide (b≠34))))=true:=by kernel_rfl
theorem aNi (b:UInt8):(∃e,uG b.toNat=38::e∧0≤Lib.indexByte (uG b.toNat) 59∧rE (uG b.toNat)=([b],((uG b.toNat).length:Int)))∨(uG b.toNat=[b]∧b≠38∧b≠60∧b≠34):=by
  have h:=aRX.1 aNh b.toNat (aSx.2 (UInt8.toNat_lt b));have hb:b.toNat.toUInt8=b:=by simp
  rw[hb] at h;simp only[aRw,aSl,aRG] at h;rcases h.2 with⟨⟨h1,h2⟩,h3⟩ |⟨⟨⟨h1,h2⟩,h3⟩,h4⟩
  · left
    cases hq:uG b.toNat with
    |nil=>rw[hq] at h1;cases h1
    | cons c e=>
      rw[hq] at h1;have:c=38:=by simpa using h1
      subst this;exact⟨e,rfl,by rw[←hq];exact h2,by rw[←hq];exact h3⟩
  · right
    exact⟨h1,fun e=>h2 (by rw[e];rfl),fun e=>h3 (by rw[e];rfl),fun e=>h4 (by rw[e];rfl)⟩
theorem a8s: ∀(s:pC) (k:Nat),(uW s).length≤k→yC k (uW s)=some s
  |[],k,_=>by cases k<;>rfl
  | b::s,k,hk=>by
    have he:uW (b::s)=uG b.toNat++uW s:=by simp [uW]
    rw[he] at hk|-;rw[aRg] at hk;rcases aNi b with⟨e,h1,h2,h3⟩ |⟨h1,h2,h3,h4⟩
    · cases k with
      |zero=>rw[h1] at hk;simp at hk
      | succ k=>
        have hr:=aNg (t:=uW s) h2;rw[h3] at hr;have hlen:(uG b.toNat).length=e.length+1:=by rw[h1];rfl
        have hform:uG b.toNat++uW s=38::(e++uW s):=by rw[h1];rfl
        rw[hform] at hr|-;unfold yC;rw[aRf rfl,hr,aRk (by show¬((uG b.toNat).length:Int)=0;omega)];show ((yC k ((38::(e++uW s)).drop (((uG b.toNat).length:Int).toNat))).map ([b]++ ·))=_;rw[aR0,←hform,aSD,a8s s k pF];rfl
    · rw[h1] at hk|-
      cases k with
      |zero=>simp at hk
      | succ k=>
        simp only[aRj,aRq] at hk;show yC (k+1) (b::uW s)=_;unfold yC;rw[aRk h2,aRk (by rintro(h|h);exact h3 h;exact h4 h),a8s s k pF];rfl
theorem a8t {s:pC}(h:sW s=true):xM (uW s)=some s:=by
  unfold xM;rw[a8s s _ (aRE _)];exact aRf h
end
noncomputable section
def blk (b:UInt8):Bool:=([32,9,10,13]:pC).contains b
def JE (s:pC):Bool:=s.all blk
theorem XO (s:pC):Lib.trimLeftS s ([32,9,10,13]:pC)=s.dropWhile blk:=rfl
theorem a8u {α:Type}{p:α→Bool}: ∀{l:List α},l.dropWhile p=[]↔l.all p=true
  |[]=>by simp
  | x::l=>by
    rw[List.dropWhile_cons,List.all_cons];cases h:p x with
    |true=>simp [a8u (l:=l)]
    |false=>simp
theorem aGl (s:pC):decide (Lib.trimS s ([32,9,10,13]:pC)=[])=JE s:=by
  have h:Lib.trimS s ([32,9,10,13]:pC)=[]↔JE s=true:=by
    unfold Lib.trimS Lib.trimLeftS Lib.trimRightS;rw[a8u]
    have h2:((s.reverse.dropWhile (([32,9,10,13]:pC).contains ·)).reverse).all (([32,9,10,13]:pC).contains ·)=true↔s.reverse.dropWhile (([32,9,10,13]:pC).contains ·)=[]:=by
      rw[List.all_reverse];constructor
      · intro h
        cases hq:s.reverse.dropWhile (([32,9,10,13]:pC).contains ·) with
        |nil=>rfl
        | cons b r=>
          have hb:=List.head?_dropWhile_not (([32,9,10,13]:pC).contains ·) s.reverse;rw[hq] at hb h;simp only[List.head?_cons,List.all_cons,aRw] at hb h;rw[h.1] at hb;cases hb
      .intro h;rw[h];rfl
    rw[h2,a8u,List.all_reverse];rfl
  cases hb:JE s with
  |true=>exact aRF (h.2 hb)
  |false=>exact decide_eq_false fun hh=>by rw[h.1 hh] at hb;cases hb
def B6 (b:UInt8):Bool:=decide ((97:Int)≤(b.toNat:Int))&&decide ((b.toNat:Int)≤122)
def tD (s:pC):Nat:=(s.findIdx? fun b=> !B6 b).getD s.length
theorem SM (s:pC):tD s≤s.length:=by
  unfold tD;cases h:s.findIdx? fun b=> !B6 b with
  |none=>exact aRE _
  |some k=>exact Nat.le_of_lt (aSf.1 h).1
theorem a8v {s:pC}(hs:s.length≤1000000000):ED s=some (s.take (tD s),s.drop (tD s)):=by
  have h:=aMB (f:=R9 s) (l:=s) B6 (fun i h=>by
    unfold R9;rw[aRf (fun _=>uM h),aRf (fun _=>uM h),aFx h]
    have h1:((((decide ((i:Int)<(List.length s:Int)))&&(decide ((97:Int)≤(s[i].toNat:Int))))&&(decide ((s[i].toNat:Int)≤(122:Int))))=true)=(B6 s[i]=true):=by
      unfold B6;rw[vT h,Bool.true_and]
    simp only[h1];rw[aRf (x6 pF)]) (by
    unfold R9;have h0:decide ((s.length:Int)<(s.length:Int))=false:=by simp
    rw[h0];rw[aRf (fun h=>by cases h),aRf (fun h=>by cases h)];rfl)
  have hle:=SM s;unfold ED;rw[h];unfold sJ;rw[aRe];show (if 0≤(0:Int)∧(0:Int)≤(tD s:Int)∧(tD s:Int)≤(s.length:Int) then(if 0≤(tD s:Int)∧(tD s:Int)≤(s.length:Int)∧(s.length:Int)≤(s.length:Int) then some (sC s 0 (tD s:Int),sC s (tD s:Int) (s.length:Int)) else none) else none)=_;rw[aRf ⟨pF,pF,pF⟩,aRf ⟨pF,pF,pF⟩,a8b,SE]
def CV (s:pC):pC×pC×Bool:=if 0≤Lib.indexByte s 34 then(s.take (Lib.indexByte s 34).toNat,s.drop ((Lib.indexByte s 34).toNat+1),true) else(s,[],false)
theorem aNj {s:pC}(hs:s.length≤1000000000):H8 s [34]=some (CV s):=by
  have hi:yK s [34]=Lib.indexByte s 34:=Lib.index_one s 34;have hr:=OJ s 34;unfold H8 IZ CV;rw[hi,aRf pF];by_cases h:0≤Lib.indexByte s 34
  · rw[aRf (aRF h),aRf ⟨pF,h,pF⟩,aRf (by simp;unfold qC;omega),aRf ⟨by simp;omega,by simp;omega,aSz _⟩,aRf h]
    unfold sC;simp only[aRe,aRj,aRq];rw[aR0];have e1:(Lib.indexByte s 34+((0+1:Nat):Int)).toNat=(Lib.indexByte s 34).toNat+1:=by omega
    rw[e1];have e2:(s.drop ((Lib.indexByte s 34).toNat+1)).take (s.length- ((Lib.indexByte s 34).toNat+1))=s.drop ((Lib.indexByte s 34).toNat+1):=List.take_of_length_le (by rw[aRA];omega);rw[e2];simp
  .rw[aRk (by simpa using h),aRk h];rfl
def HM (s:pC):Option (pC×pC×pC):=
  if tD s=0 then none else
  if (xD (s.drop (tD s)) [61,34]).2=false then none else
  if (CV (xD (s.drop (tD s)) [61,34]).1).2.2=false then none else
  match xM (CV (xD (s.drop (tD s)) [61,34]).1).1 with
  |some v=>some (s.take (tD s),v,(CV (xD (s.drop (tD s)) [61,34]).1).2.1)
  |none=>none
theorem aGm (s p:pC):(xD s p).1.length≤s.length:=by
  unfold xD;split
  .rw[aRA];omega
  .exact aRE _
theorem aGn (s:pC):(CV s).1.length≤s.length∧(CV s).2.1.length≤s.length:=by
  unfold CV;split
  .rw[aRD,aRA];exact⟨pF,pF⟩
  .exact⟨aRE _,by simp⟩
theorem aNk {s:pC}(hs:s.length≤1000000000): ∃r,FR s=some r∧r.2.2.1.length≤s.length∧(match HM s with
    |some (n,v,rest)=>r=(n,v,rest,true)
    |none=>r.2.2.2=false):=by
  have hw:=a8v hs;have h1:=aGm (s.drop (tD s)) [61,34];rw[aRA] at h1;have h2:=aGn (xD (s.drop (tD s)) [61,34]).1;obtain⟨t,ht1,ht2⟩:=aGj (s:=(CV (xD (s.drop (tD s)) [61,34]).1).1) pF;unfold FR;rw[hw,aRe,XM,aRe,aNj (by show (xD (s.drop (tD s)) [61,34]).1.length≤1000000000;omega),aRe,ht1,aRe];refine⟨_,rfl,by dsimp only;omega,?_⟩;unfold HM
  have hk:(s.take (tD s)=[])↔tD s=0:=by
    have:=SM s;constructor
    · intro h
      have:=aRx List.length h;rw[aRD] at this;simp only[aRq] at this;omega
    .intro h;rw[h];rfl
  by_cases c1:tD s=0
  · rw[aRf c1]
    simp [hk.2 c1]
  · rw[aRk c1]
    have c1':(!decide (s.take (tD s)=[]))=true:=by simp only[aRK,aR1];exact fun h=>c1 (hk.1 h)
    cases c2:(xD (s.drop (tD s)) [61,34]).2 with
    |false=>simp
    | true=>
      rw[aRk pG];cases c3:(CV (xD (s.drop (tD s)) [61,34]).1).2.2 with
      |false=>simp
      | true=>
        rw[aRk pG];cases c4:xM (CV (xD (s.drop (tD s)) [61,34]).1).1 with
        |none=>simp
        | some v=>
          dsimp only;rw[ht2 v c4,c1'];rfl
abbrev xN:=Int×pC×List rZ×Bool
def DI:Nat→pC→List rZ→Bool→Option (List rZ×Bool)
  |0,_,_,_=>none
  | n+1,s,l,tw=>if s.dropWhile blk=[] then some (l,tw) else
    match HM (s.dropWhile blk) with
    |none=>none
    |some (a,v,rest)=>if (s.dropWhile blk).length=s.length then none else DI n rest (l++[(a,v,())]) (tw||l.any fun x=>decide (x.1=a))
def AH (t:pC):Option xN:=
  if ((t.drop 1).take (t.length-2)).take 1=[47] then
    (if tD (((t.drop 1).take (t.length-2)).drop 1)=0∨JE ((((t.drop 1).take (t.length-2)).drop 1).drop (tD (((t.drop 1).take (t.length-2)).drop 1)))=false then none
     else some (3,(((t.drop 1).take (t.length-2)).drop 1).take (tD (((t.drop 1).take (t.length-2)).drop 1)),[],false))
  else
    (fun(u:pC×Int)=>if tD u.1=0 then none else(DI (u.1.length+1) (u.1.drop (tD u.1)) [] false).map fun r=>(u.2,u.1.take (tD u.1),r.1,r.2))
      (if ((t.drop 1).take (t.length-2)).drop (t.length-3)=[47] then(((t.drop 1).take (t.length-2)).take (t.length-3),2) else((t.drop 1).take (t.length-2),1))
theorem aGo {α:Type}(p:α→Bool) (l:List α):(l.dropWhile p).length≤l.length:=(List.dropWhile_suffix p).length_le
theorem aNl (l:List rZ) (a:pC) (v:pC) (hl:sH l):J2 l (a,(v,()))=some (l.any fun x=>decide (x.1=a)):=by
  unfold sH at hl
  have h:=HH (f:=RI l (a,(v,()))) (l:=l) (fun x=>decide (x.1=a)) (fun k=>(k:Int)) (fun i h=>by
    unfold RI;rw[aRf (vT h),aRf (uM h),EQ (t:= .pair .str (.pair .str .unit)) h,aRf (x6 pF)]) (by
    unfold RI;rw[aRk (x7 _)])
  unfold J2 NW;rw[h,LU];show some (decide _)=_;rw[OF]
theorem aGp {form:Int}{w:pC×pC}(hw:w.1≠[]): ∀(n:Nat) (s:pC) (l:List rZ) (tw:Bool),s.length<n→s.length+l.length≤1000000000→
    ∃ r,rU (FS form w) (s,l,tw)=some r∧(match DI n s l tw with
      |some (l',tw')=>r= .inr (form,w.1,l',tw',true)
      |none=>r= .inl ())
  |0,s,_,_,h,_=>by omega
  | n+1,s,l,tw,h,hb=>by
    have hd:=aGo blk s;have hn:(!decide (w.1=([]:pC)))=true:=by simpa using hw
    unfold DI;by_cases h0:s.dropWhile blk=[]
    · rw[aRf h0]
      refine⟨_,vM ?_,rfl⟩;unfold FS;dsimp only;rw[XO,aRf hn,aRf (aRF h0)]
    · rw[aRk h0]
      obtain⟨r,hr1,hr2,hr3⟩:=aNk (s:=s.dropWhile blk) pF;cases ha:HM (s.dropWhile blk) with
      | none=>
        rw[ha] at hr3;refine⟨_,vM ?_,rfl⟩;unfold FS;dsimp only;rw[XO,aRf hn,aRk (by simpa using h0),hr1,aRe,aRf (by rw[hr3];rfl)]
      | some x=>
        obtain⟨a,v,rest⟩:=x;rw[ha] at hr3;dsimp only at hr3;subst hr3;dsimp only at hr2|-;by_cases hl:(s.dropWhile blk).length=s.length
        · rw[aRf hl]
          refine⟨_,vM ?_,rfl⟩;unfold FS;dsimp only;rw[XO,aRf hn,aRk (by simpa using h0),hr1,aRe,aRf (by simp [hl])]
        · rw[aRk hl]
          have hc:=aNl l a v (by unfold sH;omega)
          have hst:FS form w (s,l,tw)=some (.inl (rest,l++[(a,v,())],tw||l.any fun x=>decide (x.1=a))):=by
            unfold FS;dsimp only;rw[XO,aRf hn,aRk (by simpa using h0),hr1,aRe,aRk pI,hc];cases tw with
            | false=>
              rw[aRf pG,aRf (show ((false==false)=true→(some (l.any fun x=>decide (x.1=a))).isSome=true) from fun _=>rfl),aRf pI];rfl
            | true=>
              rw[aRk pG,aRf pI];rfl
          have hrl:rest.length<s.length:=by omega
          obtain⟨r,e1,e2⟩:=aGp hw n rest (l++[(a,v,())]) (tw||l.any fun x=>decide (x.1=a)) pF pI
          exact⟨r,by rw[w4 hst];exact e1,e2⟩
theorem aNm (s:pC) (hs:s.length≤1000000000):J7 s [47]=some (if s.drop (s.length-1)=[47] then(s.take (s.length-1),true) else(s,false)):=by
  have hi:qC ((s.length:Int)- ((1:Nat):Int)):=by unfold qC;omega
  unfold J7 LI RC;simp only[aRj,aRq,aRP];rw[aRf (fun _=>hi),aRf (fun h=>⟨by simp at h;omega,pF,aSz _⟩),aRe];by_cases h0:s=[]
  .subst h0;rfl
  · have hp:1≤s.length:=aRL.2 h0
    have e:(s.length:Int)- ((1:Nat):Int)=((s.length-1:Nat):Int):=by omega
    rw[e,SE,a8b];have h1:decide (((1:Nat):Int)≤(s.length:Int))=true:=by simp;omega
    rw[h1,Bool.true_and];by_cases h:s.drop (s.length-1)=[47]
    .rw[aRk (by simp [h]),aRf (by unfold qC;omega),aRf ⟨pF,pF,pF⟩,aRf h];rfl
    .rw[aRf (by simp [h]),aRk h];rfl
theorem aNn {t:pC}(h2:2≤t.length) (ht:t.length≤1000000000):EM t=some (match AH t with
    |some x=>(x.1,x.2.1,x.2.2.1,x.2.2.2,true)
    |none=>(0,[],[],false,false)):=by
  have hc:sC t (1:Int) ((t.length:Int)-1)=(t.drop 1).take (t.length-2):=by
    unfold sC;rw[show ((t.length:Int)-1).toNat- (1:Int).toNat=t.length-2 by omega];rfl
  have hl:((t.drop 1).take (t.length-2)).length=t.length-2:=by rw[aRD,aRA];omega
  unfold EM;rw[aRf (by unfold qC;omega),aRf ⟨pF,pF,pF⟩,hc,XM,aRe];unfold AH;have e3:t.length-3=((t.drop 1).take (t.length-2)).length-1:=by rw[hl];omega
  rw[e3];generalize (t.drop 1).take (t.length-2)=s at hl|-;unfold xD;by_cases h47:s.take 1=[47]
  · rw[aRf (show s.take ([47]:pC).length=[47] from h47),aRf h47]
    have hw:=a8v (s:=s.drop 1) (by rw[aRA];omega);have hle:=SM (s.drop 1);show (if true=true then _ else _)=_;rw[aRf rfl];show (ED (s.drop 1)).bind _=_;rw[hw,aRe];dsimp only;rw[aRf (fun _=>⟨pG,pG⟩),aRf (fun _=>by rw[aRA,aRA];omega),aGl]
    have hk:((s.drop 1).take (tD (s.drop 1))=[])↔tD (s.drop 1)=0:=by
      constructor
      · intro h
        have:=aRx List.length h;rw[aRD] at this;simp only[aRq] at this;omega
      .intro h;rw[h];rfl
    by_cases c:tD (s.drop 1)=0∨JE ((s.drop 1).drop (tD (s.drop 1)))=false
    · rw[aRf c,aRf]
      rcases c with c|c
      .rw[aRF (hk.2 c)];rfl
      .rw[c];simp
    · rw[aRk c,aRk]
      simp only[aSl,aRG,aRK,not_or];exact⟨fun h=>c (.inl (hk.1 h)),fun h=>c (.inr h)⟩
  · rw[aRk (show¬s.take ([47]:pC).length=[47] from h47),aRk h47]
    show (if false=true then _ else _)=_;rw[aRk pG,aNm s pF,aRe]
    obtain⟨u,hu1,hu2,hu3⟩: ∃u:pC×Int,sJ (σ:=(pC×Int)) (
      if (if s.drop (s.length-1)=[47] then(s.take (s.length-1),true) else(s,false)).2=true then
       some (((if s.drop (s.length-1)=[47] then(s.take (s.length-1),true) else(s,false)).1,(2:Int)))
      else
       some ((s,(1:Int)))) (fun u=>some u)=some u∧(if s.drop (s.length-1)=[47] then(s.take (s.length-1),(2:Int)) else(s,1))=u∧u.1.length≤s.length:=by
      by_cases h:s.drop (s.length-1)=[47]
      · simp only[aRf h]
        exact⟨_,rfl,rfl,by rw[aRD];omega⟩
      · simp only[aRk h]
        exact⟨_,rfl,rfl,aRE _⟩
    rw[hu2];unfold sJ at hu1|-
    generalize (if (if s.drop (s.length-1)=[47] then(s.take (s.length-1),true) else(s,false)).2=true then
       some (((if s.drop (s.length-1)=[47] then(s.take (s.length-1),true) else(s,false)).1,(2:Int)))
      else
       some ((s,(1:Int))))=o at hu1|-
    cases o with
    |none=>cases hu1
    | some u'=>
      obtain rfl:u'=u:=aRi hu1;rw[aRe];obtain⟨v,form⟩:=u';dsimp only at hu3|-;have hw:=a8v (s:=v) pF;have hle:=SM v
      have hk:(v.take (tD v)=[])↔tD v=0:=by
        constructor
        · intro h
          have:=aRx List.length h;rw[aRD] at this;simp only[aRq] at this;omega
        .intro h;rw[h];rfl
      rw[hw,aRe];by_cases c:tD v=0
      · rw[aRf c]
        have hst:FS form (v.take (tD v),v.drop (tD v)) (v.drop (tD v),[],false)=some (.inr (.inl ())):=by
          unfold FS;dsimp only;rw[aRk (by simp [hk.2 c])]
        dsimp only;rw[vM hst];rfl
      · rw[aRk c]
        obtain⟨r,e1,e2⟩:=aGp (form:=form) (w:=(v.take (tD v),v.drop (tD v))) (fun h=>c (hk.1 h)) (v.length+1) (v.drop (tD v)) [] false (by rw[aRA];omega) (by rw[aRA];simp;omega);dsimp only at e1|-;rw[e1];cases ha:DI (v.length+1) (v.drop (tD v)) [] false with
        | none=>
          rw[ha] at e2;dsimp only at e2;subst e2;rfl
        | some x=>
          obtain⟨l',tw'⟩:=x;rw[ha] at e2;dsimp only at e2;subst e2;rfl
end
noncomputable section
abbrev t6:=Int×pC×Int×Unit
abbrev TE:=Int×pC
def er (t:t6):TE:=(t.1,t.2.1)
structure wH (l:List t6):Prop where
  ne:l≠[]
  txt: ∀t∈l,t.2.1.length≤1000000000
  pos: ∀t∈l,0≤t.2.2.1∧t.2.2.1≤1000000000
  tag: ∀t∈l,t.1=2→2≤t.2.1.length
  last: ∀t,l.getLast? =some t→t.1=0∨t.1=4
  len:l.length≤1000000000
theorem wH.drop {l:List t6}(h:wH l) {k:Nat}(hk:k<l.length):wH (l.drop k):=by
  have hs:=List.drop_subset k l;refine⟨fun e=> ?_,fun t ht=>h.txt t (hs ht),fun t ht=>h.pos t (hs ht),fun t ht=>h.tag t (hs ht),fun t ht=> ?_,by rw[aRA];have:=h.len;omega⟩
  · have:=aRx List.length e
    rw[aRA,aRq] at this;omega
  · refine h.last t ?_
    rw[List.getLast?_drop,aRk pF] at ht;exact ht
theorem wH.head {l:List t6}(h:wH l): ∃t r,l=t::r:=by
  cases l with
  |nil=>exact absurd rfl h.ne
  |cons t r=>exact⟨t,r,rfl⟩
def uH (l' l:List t6):Prop:= ∃k,k<l.length∧l'=l.drop k
theorem uH.refl {l:List t6}(h:wH l):uH l l:=⟨0,aRL.2 h.ne,rfl⟩
theorem uH.trans {a b c:List t6}(h:uH a b) (k:uH b c):uH a c:=by
  obtain⟨i,hi,rfl⟩:=h;obtain⟨j,hj,rfl⟩:=k;rw[aRA] at hi;exact⟨j+i,pF,by rw[aSX]⟩
theorem uH.ok {a b:List t6}(h:uH a b) (hb:wH b):wH a:=by
  obtain⟨i,hi,rfl⟩:=h;exact hb.drop hi
theorem uH.le {a b:List t6}(h:uH a b):a.length≤b.length:=by
  obtain⟨i,hi,rfl⟩:=h;rw[aRA];omega
theorem JF {t:t6}{r:List t6}:qU (.pair (.int .i64) (.pair .str (.pair (.int .i64) .unit))) (t::r) (0:Int)=t:=rfl
theorem FZ {t:t6}{r:List t6}:0≤(0:Int)∧(0:Int)<((t::r).length:Int):=⟨aSz _,by simp only[aRj];omega⟩
section
variable {l:List t6}(hl:wH l) (a e:Int) (c:sV) (en:pL×Unit) (m:pJ)
include hl
def wR (l:List t6) (e:Int):List t6:=if e=0∧1<l.length then l.drop 1 else l
theorem JG:uH (wR l e) l:=by
  unfold wR;split
  .rename_i h;exact⟨1,h.2,rfl⟩
  .exact uH.refl hl
theorem ET:xT l a e c en m=some (wR l e):=by
  obtain⟨t,r,rfl⟩:=hl.head;have h1:=hl.txt t aRm;have h2:=hl.pos t aRm;unfold xT wR;rw[aRf FZ,aRf FZ,JF,aRf (by unfold qC;omega)];by_cases h:e=0∧1<(t::r).length
  · have h':(decide (e=0)&&decide ((1:Int)<((t::r).length:Int)))=true:=by
      rw[aRF h.1,Bool.true_and];exact aRF pF
    have e1:=SE (l:=t::r) (k:=1);rw[aRf h',aRf ⟨pG,pF,aSz _⟩,aRf h];exact aRx some e1
  · rw[aRk,aRk h]
    simp only[aRw,aRG];exact fun hh=>h ⟨hh.1,pF⟩
def DJ (l:List t6) (a e code:Int):Int×Int:=if e=0 then((qU (.pair (.int .i64) (.pair .str (.pair (.int .i64) .unit))) l 0).2.2.1,code) else(a,e)
theorem JH (code:Int):zD l a e c en code m=some (DJ l a e code):=by
  obtain⟨t,r,rfl⟩:=hl.head;unfold zD DJ;by_cases h:e=0
  .rw[aRf (aRF h),aRf FZ,aRf h]
  .rw[aRk (by simpa using h),aRk h]
omit hl in
theorem G0 {code:Int}(hc:code≠0):(DJ l a e code).2≠0:=by
  unfold DJ;split
  .exact hc
  .assumption
omit hl in
theorem a8w {code:Int}(he:e≠0):DJ l a e code=(a,e):=aRk he
def zZ (l:List t6) (a e:Int) (w t m:Bool):Int×Int:=if w=true then DJ l a e 3 else if t=true then DJ l a e 9 else if m=true then DJ l a e 6 else(a,e)
theorem BV (w t u:Bool):xL l a e c en w t u m=some (zZ l a e w t u):=by
  unfold xL zZ;rw[JH hl,JH hl,JH hl];cases w<;>cases t<;>cases u<;>rfl
omit hl in
theorem G1 (w t u:Bool):(zZ l a e w t u).2=0↔(e=0∧w=false∧t=false∧u=false):=by
  have h3:=G0 (l:=l) a e (code:=3) pG;have h9:=G0 (l:=l) a e (code:=9) pG;have h6:=G0 (l:=l) a e (code:=6) pG;unfold zZ;cases w<;>cases t<;>cases u<;>simp_all
omit hl in
theorem aGq (he:e≠0) (w t u:Bool):zZ l a e w t u=(a,e):=by
  unfold zZ;rw[a8w _ _ he,a8w _ _ he,a8w _ _ he];cases w<;>cases t<;>cases u<;>rfl
def vC (t:TE):Bool:=decide (t.1=1)||(decide (t.1=3)&&JE t.2)
def qZ (l:List TE):List TE:=l.dropWhile vC
def tG (l:List t6):List t6:=l.dropWhile fun t=>vC (er t)
omit hl in
theorem OK (l:List t6):(tG l).map er=qZ (l.map er):=by
  unfold tG qZ;rw[List.dropWhile_map];rfl
omit hl in
theorem JI: ∀{l:List t6},wH l→uH (tG l) l
  |[],h=>absurd rfl h.ne
  | [t],h=>by
    have:=h.last t rfl;unfold tG;rw[List.dropWhile_cons,aRk]
    .exact⟨0,by simp,rfl⟩
    · unfold vC er
      rcases this with h0|h0<;>simp [h0]
  | t::u::r,h=>by
    unfold tG;rw[List.dropWhile_cons];split
    · have h1:=h.drop (k:=1) pH
      obtain⟨k,hk,e⟩:=JI h1;exact⟨k+1,by simp only[aRj,aTl,aSH] at hk|-;omega,e⟩
    .exact⟨0,by simp,rfl⟩
theorem aGr (e:Int): ∀(n:Nat) (l:List t6),wH l→l.length≤n→rU (RP a e c en m) l=some (if e=0 then tG l else l)
  | 0,l,h,hn=>by
    have:=aRL.2 h.ne;omega
  | n+1,l,h,hn=>by
    obtain⟨t,r,rfl⟩:=h.head;have h1:=h.txt t aRm
    have hcond:((decide (e=(0:Int)))&&((decide (t.1=(1:Int)))||((decide (t.1=(3:Int)))&&(decide ((Lib.trimS (t.2.1) ([32,9,10,13]:pC))=([]:pC))))))=(decide (e=0)&&vC (er t)):=by
      rw[aGl];rfl
    have hst:RP a e c en m (t::r)=if (decide (e=0)&&vC (er t))=true then some (.inl (wR (t::r) e)) else some (.inr (t::r)):=by
      unfold RP;rw[aRf (fun _=>FZ),aRf (fun _=>FZ),aRf (fun _=>FZ),aRf (fun _=>⟨pG,pG⟩),aRf (fun _=>by rw[JF];omega),JF,hcond,ET h];rfl
    by_cases he:e=0
    · rw[aRf he]
      by_cases hg:vC (er t)=true
      · rw[aRf (by simp [he,hg])] at hst
        have hr:r≠[]:=by
          rintro rfl;have:=h.last t rfl;unfold vC er at hg;rcases this with h0|h0<;>simp [h0] at hg
        have hs:wR (t::r) e=r:=by
          unfold wR;rw[aRf ⟨he,by have:=aRL.2 hr;simp only[aRj];omega⟩];rfl
        rw[hs] at hst;have h2:=h.drop (k:=1) (by have:=aRL.2 hr;simp only[aRj];omega);rw[w4 hst,aGr e n r h2 (by simp only[aRj] at hn;omega),aRf he];unfold tG;rw[List.dropWhile_cons,aRf hg]
      · rw[aRk (by simp [hg])] at hst
        rw[vM hst];unfold tG;rw[List.dropWhile_cons,aRk hg]
    · rw[aRk he]
      rw[aRk (by simp [he])] at hst;exact vM hst
theorem BW:zV l a e c en m=some (if e=0 then tG l else l):=by
  unfold zV;rw[aGr hl a c en m e l.length l hl (aRE _)];rfl
def eN:xN:=(0,[],[],false)
def uX (t:TE):xN:=if t.1=2 then(AH t.2).getD eN else eN
def rD:List TE→xN
  |[]=>eN
  |t::_=>uX t
theorem BX:AE l a e c en m=some (if e=0 then rD (l.map er) else eN):=by
  obtain⟨t,r,rfl⟩:=hl.head;have h1:=hl.txt t aRm;unfold AE;rw[aRf (fun _=>FZ),JF];by_cases he:e=0
  · rw[aRf he]
    show _=some (uX (er t));unfold uX er;by_cases h2:t.1=2
    · have h3:=hl.tag t aRm h2
      rw[aRk (by simp [he,h2]),aRf FZ,aNn h3 h1,aRe,aRf h2];cases AH t.2.1 with
      |none=>rfl
      |some x=>rfl
    .rw[aRf (by simp [h2]),aRk h2];rfl
  .rw[aRk he,aRf (by simp [he])];rfl
def uN (name:pC):List TE→Option (List TE)
  |[]=>none
  |t::r=>if (uX t).1=3∧(uX t).2.1=name then some r else none
structure KK (l l':List t6) (e e':Int):Prop where
  suf:uH l' l
  bad:e≠0→e'≠0
omit hl in
theorem SN {t:TE}(h:(uX t).1≠0):t.1=2:=by
  unfold uX at h;by_cases h2:t.1=2
  .exact h2
  .rw[aRk h2] at h;exact absurd rfl h
omit hl in
theorem wH.more {t:t6}{r:List t6}(h:wH (t::r)) (h2:t.1=2∨t.1=3∨t.1=1):1<(t::r).length:=by
  cases r with
  | nil=>
    have:=h.last t rfl;omega
  |cons u r=>simp
theorem OL (name:pC): ∃l' a' e',B2 l a e c en name m=some (l',a',e')∧KK l l' e e'∧(e=0→match uN name (l.map er) with
    |some r=>e'=0∧l'.map er=r
    |none=>e'≠0):=by
  unfold B2;rw[BX hl,aRe];by_cases he:e=0
  · subst he
    rw[aRf rfl];obtain⟨t,r,rfl⟩:=hl.head;show∃l' a' e',(if ((!decide ((uX (er t)).1=(3:Int)))||(!decide ((uX (er t)).2.1=name)))=true then _ else _)=_∧_
    show∃l' a' e',_∧_∧((0:Int)=0→match (if (uX (er t)).1=3∧(uX (er t)).2.1=name then some (r.map er) else none) with|some r=>_|none=>_)
    by_cases h:(uX (er t)).1=3∧(uX (er t)).2.1=name
    · have h2:t.1=2:=SN (t:=er t) (by rw[h.1];decide)
      rw[aRk (by simp [h.1,h.2]),aRf h];rw[ET hl,aRe]
      have hs:wR (t::r) 0=r:=by
        unfold wR;rw[aRf ⟨rfl,hl.more (.inl h2)⟩];rfl
      exact⟨_,_,_,rfl,⟨JG hl 0,fun h0=>absurd rfl h0⟩,fun _=>⟨rfl,by rw[hs]⟩⟩
    · rw[aRf,aRk h,JH hl,aRe,ET hl,aRe]
      .exact⟨_,_,_,rfl,⟨JG hl _,fun h0=>absurd rfl h0⟩,fun _=>G0 _ _ pG⟩
      · simp only[aSl,aRK,aR1]
        exact(Decidable.not_and_iff_not_or_not.1 h)
  · rw[aRk he,aRf (by simp [eN]),JH hl,aRe,ET hl,aRe]
    exact⟨_,_,_,rfl,⟨JG hl _,fun _=>G0 _ _ pG⟩,fun h=>absurd h he⟩
def xV (x:xN):List TE→Option (pC×List TE)
  |[]=>none
  | _::r=>if x.1=2 then some ([],r) else
    match r with
    |[]=>none
    | u ::r2=>if u.1=3 then(match xM u.2 with
        |some s=>(uN x.2.1 r2).map fun q=>(s,q)
        |none=>none) else(uN x.2.1 (u::r2)).map fun q=>([],q)
theorem SO (x:xN) (hx:e=0→∃t r,l=t::r∧t.1=2): ∃s l' a' e',B3 l a e c en (x.1,(x.2.1,(x.2.2.1,(x.2.2.2,())))) m=some (s,l',a',e')∧KK l l' e e'∧s.length≤5000000000∧(e=0→match xV x (l.map er) with
    |some (s',r)=>e'=0∧l'.map er=r∧s=s'∧l'.length<l.length
    |none=>e'≠0):=by
  unfold B3;rw[ET hl,aRe];have hs1:=JG hl e;have hl1:=hs1.ok hl;by_cases h2:x.1=2
  · rw[aRf (aRF h2)]
    refine⟨_,_,_,_,rfl,⟨hs1,id⟩,by simp,fun he=> ?_⟩;obtain⟨t,r,rfl,ht⟩:=hx he
    have hs:wR (t::r) e=r:=by
      unfold wR;rw[aRf ⟨he,hl.more (.inl ht)⟩];rfl
    have hc:xV x ((t::r).map er)=some ([],r.map er):=by
      show (if x.1=2 then some (([]:pC),r.map er) else _)=_;rw[aRf h2]
    rw[hc];exact⟨he,by rw[hs],rfl,by rw[hs];simp⟩
  · rw[aRk (by simpa using h2)]
    obtain⟨u,r2,hu⟩:=hl1.head;rw[hu] at hs1 hl1|-;rw[aRf FZ,JF]
    have hcl:e=0→∃t,l=t::u::r2:=fun he=>by
      obtain⟨t,r,rfl,ht⟩:=hx he
      have hs:wR (t::r) e=r:=by
        unfold wR;rw[aRf ⟨he,hl.more (.inl ht)⟩];rfl
      rw[hs] at hu;exact⟨t,by rw[hu]⟩
    by_cases h3:u.1=3
    · have h1:=hl1.txt u aRm
      obtain⟨s,e1,e2⟩:=aGj h1
      have hsl:s.length≤5000000000:=by
        obtain⟨r,hr,hm⟩:=aGi (s:=u.2.1) (by unfold sH;omega);unfold FQ at e1;rw[hr,aRe] at e1;split at e1
        · have e3:=aRx Prod.fst (aRi e1)
          dsimp only at e3;rw[←e3];cases hun:yC u.2.1.length u.2.1 with
          |none=>rw[hun] at hm;rw[hm.1];simp
          | some y=>
            rw[hun] at hm;dsimp only at hm;rw[hm];have:=XN _ _ _ (by unfold sH;omega) hun;dsimp only;omega
        .cases e1
      rw[aRf (aRF h3),aRf FZ,e1,aRe]
      obtain⟨q,hq1,hq2,hq3⟩: ∃q:Int×Int,sJ (σ:=(Int×Int)) (if (!(xM u.2.1).isSome)=true then
        (zD (u::r2) a e (c.1,(c.2.1,(c.2.2.1,(c.2.2.2.1,())))) (en.1,()) (3:Int) m).bind fun O=>some ((O.1,O.2))
       else some ((a,e))) (fun q=>some q)=some q∧(e≠0→q.2≠0)∧(e=0→if (xM u.2.1).isSome=true then q.2=0 else q.2≠0):=by
        cases(xM u.2.1).isSome with
        |true=>exact⟨_,rfl,id,id⟩
        | false=>
          rw[aRf pG,JH hl1];refine⟨_,rfl,fun _=>G0 _ _ pG,fun _=> ?_⟩;rw[aRk pG];exact G0 _ _ pG
      unfold sJ at hq1|-
      generalize (if (!(xM u.2.1).isSome)=true then
        (zD (u::r2) a e (c.1,(c.2.1,(c.2.2.1,(c.2.2.2.1,())))) (en.1,()) (3:Int) m).bind fun O=>some ((O.1,O.2))
       else some ((a,e)))=o at hq1|-
      cases o with
      |none=>cases hq1
      |some q'=>
      obtain rfl:q'=q:=aRi hq1;clear hq1;obtain⟨a1,e3⟩:=q';dsimp only at hq2 hq3;rw[aRe];dsimp only;rw[ET hl1,aRe];have hs2:=JG hl1 e3;have hl2:=hs2.ok hl1;obtain⟨l3,a3,e4,h4,p4,m4⟩:=OL hl2 a1 e3 (c.1,(c.2.1,(c.2.2.1,(c.2.2.2.1,())))) (en.1,()) m x.2.1;rw[h4,aRe];refine⟨_,_,_,_,rfl,⟨(p4.suf.trans hs2).trans hs1,fun he=>p4.bad (hq2 he)⟩,hsl,fun he=> ?_⟩;obtain⟨t,ht⟩:=hcl he;rw[ht]
      show match (if x.1=2 then some ([],(u::r2).map er) else if u.1=3 then(match xM u.2.1 with
        |some s=>(uN x.2.1 (r2.map er)).map fun q=>(s,q)
        |none=>none) else(uN x.2.1 ((u::r2).map er)).map fun q=>([],q)) with|some (s',q)=>_|none=>_
      rw[aRk h2,aRf h3];have hq3':=hq3 he;cases htx:xM u.2.1 with
      | none=>
        rw[htx] at hq3';exact p4.bad (by simpa using hq3')
      | some y=>
        rw[htx] at hq3';have he3:e3=0:=by simpa using hq3'
        have hst:wR (u::r2) e3=r2:=by
          unfold wR;rw[aRf ⟨he3,hl1.more (.inr (.inl h3))⟩];rfl
        have m4':=m4 he3;rw[hst] at m4' p4;dsimp only;cases hnd:uN x.2.1 (r2.map er) with
        |none=>rw[hnd] at m4';exact m4'
        | some q=>
          rw[hnd] at m4';exact⟨m4'.1,m4'.2,e2 y htx,by have:=p4.suf.le;simp only[aRj];omega⟩
    · rw[aRk (by simpa using h3)]
      obtain⟨l3,a3,e4,h4,p4,m4⟩:=OL hl1 a e (c.1,(c.2.1,(c.2.2.1,(c.2.2.2.1,())))) (en.1,()) m x.2.1;rw[h4,aRe];refine⟨_,_,_,_,rfl,⟨p4.suf.trans hs1,p4.bad⟩,by simp,fun he=> ?_⟩;obtain⟨t,ht⟩:=hcl he;rw[ht]
      show match (if x.1=2 then some ([],(u::r2).map er) else if u.1=3 then(match xM u.2.1 with
        |some s=>(uN x.2.1 (r2.map er)).map fun q=>(s,q)
        |none=>none) else(uN x.2.1 ((u::r2).map er)).map fun q=>([],q)) with|some (s',q)=>_|none=>_
      rw[aRk h2,aRk h3];have m4':=m4 he;cases hnd:uN x.2.1 ((u::r2).map er) with
      |none=>rw[hnd] at m4';exact m4'
      | some q=>
        rw[hnd] at m4';exact⟨m4'.1,m4'.2,rfl,by have:=p4.suf.le;simp only[aRj] at this|-;omega⟩
end
end
noncomputable section
theorem aGs {σ ρ:Type}{f:σ->Option (σ⊕ρ)}{x:σ}(h:f x=none):rU f x=none:=by rw[EP,h];rfl
theorem aGt (a b:pC) (y:pC): ∀l:List (pC×pC),vK .str .str (tJ .str .str a y l) b=(decide (a=b)||vK .str .str l b)
 |[]=>by
  show (if decide (b=a)=true then true else false)=(decide (a=b)||false)
  by_cases h:b=a
  .simp [h]
  .have: ¬a=b:=fun e=>h e.symm;simp [h,this]
 |(x,z)::r=>by
  have ih:=aGt a b y r;show vK .str .str (if decide (a=x)=true then(a,y)::r else(x,z)::tJ .str .str a y r) b=(decide (a=b)||(if decide (b=x)=true then true else vK .str .str r b))
  by_cases h:a=x
  .subst h;rw[aRf pH];show (if decide (b=a)=true then true else vK .str .str r b)=_;by_cases hb:b=a
   .simp [hb]
   .have: ¬a=b:=fun e=>hb e.symm;simp [hb,this]
  .rw[aRk (by simpa using h)];show (if decide (b=x)=true then true else vK .str .str (tJ .str .str a y r) b)=_;rw[ih];by_cases hb:b=x
   .simp [hb]
   .simp [hb]
def M1 (m:List (pC×pC)) (a:rZ):List (pC×pC):=tJ .str .str a.1 a.2.1 m
def G2 (l:List rZ):List (pC×pC):=l.foldl M1 []
def s0 (l:List rZ) (n:pC):pC:=l.foldl (fun v a=>if n=a.1 then a.2.1 else v) []
theorem aGu (n:pC): ∀(l:List rZ) (m:List (pC×pC)),rV .str .str (l.foldl M1 m) n=l.foldl (fun v a=>if n=a.1 then a.2.1 else v) (rV .str .str m n)
 |[],_=>rfl
 |a::l,m=>by
  rw[List.foldl_cons,List.foldl_cons,aGu n l];unfold M1;rw[LV]
theorem SP (l:List rZ) (n:pC):rV .str .str (G2 l) n=s0 l n:=aGu n l []
theorem aGv (n:pC): ∀(l:List rZ) (m:List (pC×pC)),vK .str .str (l.foldl M1 m) n=(vK .str .str m n||l.any fun a=>decide (a.1=n))
 |[],m=>by simp
 |a::l,m=>by
  rw[List.foldl_cons,aGv n l,List.any_cons];unfold M1;rw[aGt];cases decide (a.1=n)<;>cases vK .str .str m n<;>rfl
theorem aGw (l:List rZ) (n:pC):vK .str .str (G2 l) n=l.any fun a=>decide (a.1=n):=aGv n l []
theorem aGx {l:List rZ}{n:pC}: ∀{l:List rZ}{v:pC},(l.any fun a=>decide (a.1=n))=true->∃a∈l,a.1=n/\l.foldl (fun v a=>if n=a.1 then a.2.1 else v) v=a.2.1
 |[],_,h=>by cases h
 |a::l,v,h=>by
  by_cases hl:(l.any fun a=>decide (a.1=n))=true
  .obtain⟨b,h1,h2,h3⟩:=aGx (l:=l) (v:=if n=a.1 then a.2.1 else v) hl;exact⟨b,aRo _ h1,h2,h3⟩
  .have ha:a.1=n:=by
    rw[List.any_cons,aSl] at h;rcases h with h|h
    .exact aRU h
    .exact absurd h hl
   have hno: ∀(l:List rZ) (v:pC),¬(l.any fun a=>decide (a.1=n))=true->l.foldl (fun v a=>if n=a.1 then a.2.1 else v) v=v:=by
    intro l
    induction l with
    |nil=>intros;rfl
    |cons b l ih=>
     intro v hh;rw[List.any_cons,aSl,not_or] at hh;rw[List.foldl_cons,aRk (fun e=>hh.1 (aRF e.symm))];exact ih v hh.2
   refine⟨a,aRm,ha,?_⟩;rw[List.foldl_cons,aRf ha.symm];exact hno l _ hl
theorem a8x {ρ:Type}{f:(Int×List (pC×pC))->Option ((Int×List (pC×pC))⊕((List (pC×pC))⊕ρ))}{l:List rZ}(p:rZ->Bool) (r:Option (((List (pC×pC))⊕ρ)))
  (hf: ∀(i:Nat) (h:i<l.length) m,f ((i:Int),m)=if p l[i]=true then some (.inl ((i:Int)+1,M1 m l[i])) else r.map .inr)
  (he: ∀m,f ((l.length:Int),m)=some (.inr (.inl m))): ∀(n i:Nat) m,i+n=l.length->rU f ((i:Int),m)=if (l.drop i).all p=true then some (.inl ((l.drop i).foldl M1 m)) else r
 |0,i,m,hi=>by
  obtain rfl:i=l.length:=by omega
  rw[aSh,vM (he m)];rfl
 |n+1,i,m,hi=>by
  have h:i<l.length:=by omega
  rw[aRW h,List.all_cons,List.foldl_cons];have hs:=hf i h m;cases hp:p l[i] with
  |true=>
   rw[hp,aRf rfl] at hs;rw[w4 hs,Bool.true_and];exact a8x p r hf he n (i+1) _ pF
  |false=>
   rw[hp,aRk pG] at hs;rw[Bool.false_and,aRk pG];cases r with
   |none=>exact aGs hs
   |some x=>exact vM hs
def xE (l:List rZ) (N F:pD):Bool:=(l.all fun a=>F.any fun x=>decide (x=a.1))&&(N.all fun n=>l.any fun a=>decide (a.1=n))
theorem aGy {α:Type}{p:α->Bool}{l:List α}:(l.any fun x=> !p x)= !(l.all p):=by
 rw[List.not_all_eq_any_not]
theorem M2 {l:List rZ}{i:Nat}(h:i<l.length):qU (.pair .str (.pair .str .unit)) l (i:Int)=l[i]:=EQ (t:= .pair .str (.pair .str .unit)) h
theorem OM (x:xN) (names opt:pC) (hx:x.2.2.1.length<=1000000000) (h1:names.length<=100) (h2:opt.length<=100) (h3:(names.all fun b=>decide (b.toNat<128))=true) (h4:(opt.all fun b=>decide (b.toNat<128))=true)
  (h5:(Lib.fields ((names++[32])++opt)).length<=1000) (h6:(Lib.fields names).length<=1000):
  wF (x.1,(x.2.1,(x.2.2.1,(x.2.2.2,())))) names opt=(if xE x.2.2.1 (Lib.fields names) (Lib.fields ((names++[32])++opt))=true then some (G2 x.2.2.1) else none)/\
  (xE x.2.2.1 (Lib.fields names) (Lib.fields ((names++[32])++opt))=false->DE (x.1,(x.2.1,(x.2.2.1,(x.2.2.2,())))) names opt=some ()):=by
 obtain⟨fm,nm,l,tw⟩:=x;dsimp only at hx|-;have c1:((names++([32]:pC)).length:Int)<=9223372036854775807:=by simp;omega
 have c2:(((names++([32]:pC))++opt).length:Int)<=9223372036854775807:=by simp;omega
 have c3:(List.all ((names++([32]:pC))++opt) fun b=>decide (b.toNat<128))=true/\List.length ((names++([32]:pC))++opt)<4294967281:=by
  refine⟨?_,by simp;omega⟩;rw[List.all_append,List.all_append,h3,h4];rfl
 have c4:(List.all names fun b=>decide (b.toNat<128))=true/\List.length names<4294967281:=⟨h3,pF⟩;have hcon: ∀a,EC (Lib.fields ((names++([32]:pC))++opt)) a=some ((Lib.fields ((names++([32]:pC))++opt)).any fun y=>decide (y=a)):=fun a=>aFF _ a (by unfold sH;omega);have A:=a8x (f:=NX (fm,(nm,(l,(tw,())))) names opt) (l:=l) (fun a=>(Lib.fields ((names++[32])++opt)).any fun y=>decide (y=a.1)) none (fun i h m=>by
  unfold NX;dsimp only;rw[aRf (vT h),aRf (uM h),aRf c1,aRf c2,aRf c3,M2 h,hcon,aRe,aRf (x6 pF)];cases(Lib.fields ((names++[32])++opt)).any fun y=>decide (y=l[i].1)<;>rfl) (fun m=>by
  unfold NX;dsimp only;rw[aRk (x7 _)]) l.length 0 [] pF
 have B:=a8x (f:=NZ (fm,(nm,(l,(tw,())))) names opt) (l:=l) (fun a=>(Lib.fields ((names++[32])++opt)).any fun y=>decide (y=a.1)) (some (.inr ())) (fun i h m=>by
  unfold NZ;dsimp only;rw[aRf (vT h),aRf (uM h),aRf c1,aRf c2,aRf c3,M2 h,hcon,aRe,aRf (x6 pF)];cases(Lib.fields ((names++[32])++opt)).any fun y=>decide (y=l[i].1)<;>rfl) (fun m=>by
  unfold NZ;dsimp only;rw[aRk (x7 _)]) l.length 0 [] pF
 rw[aSH] at A B;have A':rU (NX (fm,(nm,(l,(tw,())))) names opt) ((0:Int),[])=_:=A;have B':rU (NZ (fm,(nm,(l,(tw,())))) names opt) ((0:Int),[])=_:=B;have C: ∀m,rU (J3 names m) (0:Int)=if (Lib.fields names).all (fun n=>vK .str .str m n)=true then some (.inl ()) else none:=by
  intro m;have go: ∀(n i:Nat),i+n=(Lib.fields names).length->rU (J3 names m) (i:Int)=if ((Lib.fields names).drop i).all (fun n=>vK .str .str m n)=true then some (.inl ()) else none:=by
   intro n
   induction n with
   |zero=>
    intro i hi;obtain rfl:i=(Lib.fields names).length:=by omega
    rw[aSh];refine vM ?_;unfold J3;rw[aRk (x7 _)]
   |succ n ih=>
    intro i hi;have h:i<(Lib.fields names).length:=by omega
    have hs:J3 names m (i:Int)=if vK .str .str m (Lib.fields names)[i]=true then some (.inl ((i+1:Nat):Int)) else none:=by
     unfold J3;rw[aRf (vT h),aRf (uM h),EQ (t:= .str) h,aRf (x6 pF)];cases vK .str .str m (Lib.fields names)[i]<;>rfl
    rw[aRW h,List.all_cons];cases hm:vK .str .str m (Lib.fields names)[i] with
    |true=>
     rw[hm,aRf rfl] at hs;rw[w4 hs,Bool.true_and];exact ih (i+1) pF
    |false=>
     rw[hm,aRk pG] at hs;rw[aGs hs];rfl
  have h0:=go (Lib.fields names).length 0 pF;rw[aSH] at h0;exact h0
 have D: ∀m,(Lib.fields names).all (fun n=>vK .str .str m n)=false->rU (LF names m) (0:Int)=some (.inr ()):=by
  intro m hm;have h:=HH (f:=LF names m) (l:=Lib.fields names) (fun n=> !vK .str .str m n) (fun _=>()) (fun i h=>by
   unfold LF;rw[aRf (vT h),aRf (uM h),EQ (t:= .str) h,aRf (x6 pF)]) (by
   unfold LF;rw[aRk (x7 _)])
  rw[h,SC,aRf];rw[aGy,hm];rfl
 unfold xE;constructor
 .unfold wF;rw[A'];cases hp:l.all fun a=>(Lib.fields ((names++[32])++opt)).any fun y=>decide (y=a.1) with
  |false=>rfl
  |true=>
   rw[aRf rfl];show (if _ then vA (rU (J3 names (G2 l)) (0:Int)) (fun _=>some (G2 l)) else none)=_;rw[aRf c4,C];have e:(Lib.fields names).all (fun n=>vK .str .str (G2 l) n)=(Lib.fields names).all fun n=>l.any fun a=>decide (a.1=n):=by
    congr 1;funext n;exact aGw l n
   rw[e,Bool.true_and];cases(Lib.fields names).all fun n=>l.any fun a=>decide (a.1=n)<;>rfl
 .intro hf;unfold DE;rw[B'];cases hp:l.all fun a=>(Lib.fields ((names++[32])++opt)).any fun y=>decide (y=a.1) with
  |false=>rfl
  |true=>
   rw[aRf rfl];show (if _ then vA (rU (LF names (G2 l)) (0:Int)) (fun _=>none) else none)=_;rw[aRf c4,D]
   .rfl
   .rw[hp,Bool.true_and] at hf;have e:(Lib.fields names).all (fun n=>vK .str .str (G2 l) n)=(Lib.fields names).all fun n=>l.any fun a=>decide (a.1=n):=by
     congr 1;funext n;exact aGw l n
    rw[e];exact hf
def tK (s:pC):pD:=u7 (sZ s [32])
theorem aGz (s:pC):0<(sZ s [32]).length/\(sZ s [32]).length<=s.length+1:=by
 have h1:=Lib.splitB_all ⟨List.toArray ([32]:pC)⟩ pG 0 _ ⟨List.toArray s⟩ rfl;have h2:=Lib.countB_le ⟨List.toArray ([32]:pC)⟩ pG (List.length s) ⟨List.toArray s⟩ (aRE _);have h3:(⟨List.toArray s⟩:ByteArray).size=s.length:=rfl;rw[h3] at h2;unfold sZ;rw[aR6,h1];exact⟨pF,pF⟩
theorem aGA (l:pD):(u7 l).length<=l.length:=List.length_filter_le _ _
theorem a8y {s:pC}(hs:s.length<=1000000000):H0 s=some ((tK s).all uQ):=by
 have hl:=aGz s;have hn:=aGA (sZ s [32]);have hf:(tK s).length<=1000000001:=by unfold tK;omega
 have h:=HH (f:=RH (tK s)) (l:=tK s) (fun x=> !uQ x) (fun k=>(k:Int)) (fun i h=>by
  unfold RH NQ;rw[aRf (vT h),aRf (uM h),EQ (t:= .str) h,SD,aRe,aRe,aRf (x6 pF)]) (by
  unfold RH;rw[aRk (x7 _)])
 unfold H0;rw[aRf ⟨pG,pF⟩,aRf ⟨hl.1,pF⟩];show (LE (tK s)).bind _=_;unfold LE NV;rw[h,LU];show some (!decide _)=_;rw[OF,aGy,Bool.not_not]
abbrev tZ:pC:=[105,100]
abbrev x8:pC:=[115,116,97,116,101]
abbrev uB:pC:=[102,108,97,103,115]
abbrev vD:pC:=[110,97,109,101]
abbrev w7:pC:=[116,97,103]
abbrev yD:pC:=[99,111,109,109,101,110,116]
abbrev xW:pC:=[102,105,101,108,100]
abbrev wI:pC:=[115,111,117,114,99,101]
abbrev yR:pC:=[116,97,114,103,101,116]
abbrev z7:pC:=[101,110,116,114,121]
abbrev xX:pC:=[101,110,116,114,105,101,115]
abbrev yS:pC:=[99,97,116,97,108,111,103]
def AI (a:rZ):Bool:=if a.1=tZ then(decide (a.2.1=[])||decide (200<(a.2.1.length:Int))) else if a.1=x8 then !decide (0<=AG a.2.1) else !((tK a.2.1).all uQ)
theorem aNo {a:rZ}(ha:a.2.1.length<=1000000000):LH a=some (AI a):=by
 unfold LH AI;by_cases h1:a.1=tZ
 .rw[aRf (aRF h1),aRf h1]
 .rw[aRk (by simpa using h1),aRk h1];by_cases h2:a.1=x8
  .have h:=aFF HI a.2.1 (by unfold sH;decide);rw[aRf (aRF h2),aRf h2];show (EC HI a.2.1).bind _=_;rw[h,aRe,<-OF];rfl
  .rw[aRk (by simpa using h2),aRk h2,a8y ha];rfl
theorem aNp {l:List rZ}(hl:l.length<=1000000000) (ha: ∀a∈l,a.2.1.length<=1000000000):DG l=some (l.any AI):=by
 have h:=HH (f:=RU l) (l:=l) AI (fun k=>(k:Int)) (fun i h=>by
  unfold RU;rw[aRf (vT h),aRf (uM h),M2 h,aNo (ha _ (aSK h)),aRe,aRf (x6 pF)]) (by
  unfold RU;rw[aRk (x7 _)])
 unfold DG O2;rw[h,LU];show some (decide _)=_;rw[OF]
theorem aNq (s:pC):BK HI s=some (AG s):=by
 rw[aFE HI s (by unfold sH;decide)];unfold AG;have:(fun x:pC=>decide (s=x))=fun x=>decide (x=s):=by
  funext x;exact aSJ.2 ⟨Eq.symm,Eq.symm⟩
 rw[this]
theorem a8z {f:Bool×Int->Option ((Bool×Int)⊕Bool)}{l:List rZ}(p:rZ->Bool) (hf: ∀(i:Nat) (h:i<l.length) g,f (g,(i:Int))=some (.inl (g&&p l[i],(i:Int)+1))) (he: ∀g,f (g,(l.length:Int))=some (.inr g)):
  ∀(n i:Nat) g,i+n=l.length->rU f (g,(i:Int))=some (g&&(l.drop i).all p)
 |0,i,g,hi=>by
  obtain rfl:i=l.length:=by omega
  rw[aSh,vM (he g)];simp
 |n+1,i,g,hi=>by
  have h:i<l.length:=by omega
  rw[w4 (hf i h g),aRW h,List.all_cons,<-Bool.and_assoc];exact a8z p hf he n (i+1) _ pF
end
noncomputable section
theorem ON:Lib.fields (([]++[32])++([]:pC))=[]:=by kernel_rfl
theorem OO:Lib.fields ([]:pC)=[]:=by kernel_rfl
theorem a8A (l:List rZ):xE l [] []=decide (l=[]):=by
 unfold xE;cases l with
 |nil=>rfl
 |cons a l=>simp
theorem aGB:Lib.fields ((vD++[32])++([]:pC))=[vD]:=by kernel_rfl
theorem aGC:Lib.fields vD=[vD]:=by kernel_rfl
def A0 (x:xN) (cms:pD) (L:List TE):Option (pD×List TE):=
 if x.2.2.1=[]/\x.2.2.2=false/\cms.length≠20 then(xV x L).map fun r=>(cms++[r.1],r.2) else none
theorem XP (n:Nat):decide ((n:Int)=20)=decide (n=20):=aSJ.2 pF
section
variable {l:List t6}(hl:wH l) (a e:Int) (c:sV) (en:pL×Unit) (m:pJ)
include hl
theorem aGD (x:xN) (b:sF) (hx:e=0->∃t r,l=t::r/\t.1=2) (ha:x.2.2.1.length<=1000000000) (hb:b.2.2.2.1.length<=1000):
  ∃l' a' e' cs,CS l a e c en (x.1,(x.2.1,(x.2.2.1,(x.2.2.2,())))) b m=some (l',a',e',cs)/\KK l l' e e'/\(e=0->match A0 x b.2.2.2.1 (l.map er) with
   |some (cs',r)=>e'=0/\l'.map er=r/\cs=cs'/\l'.length<l.length
   |none=>e'≠0):=by
 obtain⟨v1,v2⟩:=OM x [] [] ha pG pG pG pG (by rw[ON];decide) (by rw[OO];decide);rw[ON,OO,a8A] at v1 v2;unfold CS;by_cases h:x.2.2.1=[]
 .rw[aRF h,aRf rfl] at v1;rw[v1,aRf pU,aRe,BV hl,aRe];have hck:=G1 (l:=l) a e (!true) x.2.2.2 (decide ((b.2.2.2.1.length:Int)=20));have hid:=fun he=>aGq (l:=l) a e he (!true) x.2.2.2 (decide ((b.2.2.2.1.length:Int)=20));dsimp only;generalize zZ l a e (!true) x.2.2.2 (decide ((b.2.2.2.1.length:Int)=20))=q at hck hid|-;obtain⟨a1,e1⟩:=q;dsimp only at hck hid|-;obtain⟨s,l2,a2,e2,h2,p2,s2,m2⟩:=SO hl a1 e1 (c.1,(c.2.1,(c.2.2.1,(c.2.2.2.1,())))) (en.1,()) m x (fun he=>hx (hck.1 he).1);rw[h2,aRe,aRf pI];refine⟨_,_,_,_,rfl,⟨p2.suf,fun he=>p2.bad (by rw[show e1=e from aRx Prod.snd (hid he)];exact he)⟩,fun he=> ?_⟩;unfold A0;by_cases hc:x.2.2.1=[]/\x.2.2.2=false/\b.2.2.2.1.length≠20
  .rw[aRf hc];have he1:e1=0:=hck.2 ⟨he,rfl,hc.2.1,by rw[XP];exact decide_eq_false hc.2.2⟩;have m2':=m2 he1;cases hct:xV x (l.map er) with
   |none=>rw[hct] at m2';exact m2'
   |some r=>
    rw[hct] at m2';exact⟨m2'.1,m2'.2.1,by rw[m2'.2.2.1],m2'.2.2.2⟩
  .rw[aRk hc];refine p2.bad fun he1=>hc ⟨h,(hck.1 he1).2.2.1,?_⟩;have:=(hck.1 he1).2.2.2;rw[XP] at this;exact of_decide_eq_false this
 .rw[decide_eq_false h,aRk pG] at v1;rw[v1,aRk pG,v2 (decide_eq_false h),aRe,BV hl,aRe];have hck:=G1 (l:=l) a e (!false) x.2.2.2 (decide ((b.2.2.2.1.length:Int)=20));dsimp only;generalize zZ l a e (!false) x.2.2.2 (decide ((b.2.2.2.1.length:Int)=20))=q at hck|-;obtain⟨a1,e1⟩:=q;dsimp only at hck|-;have he1:e1≠0:=fun h0=>by have:=(hck.1 h0).2.1;cases this
  obtain⟨s,l2,a2,e2,h2,p2,s2,m2⟩:=SO hl a1 e1 (c.1,(c.2.1,(c.2.2.1,(c.2.2.2.1,())))) (en.1,()) m x (fun h0=>absurd h0 he1);rw[h2,aRe,aRf pI];refine⟨_,_,_,_,rfl,⟨p2.suf,fun _=>p2.bad he1⟩,fun he=> ?_⟩;unfold A0;rw[aRk (fun hh=>h hh.1)];exact p2.bad he1
omit hl in
theorem aGE {x:yM}(hx:x.2.2.1.length<=1000000000) {f:Bool×Int->Option ((Bool×Int)⊕Bool)}(hf:f=S5 x\/f=S6 x):
  rU f (true,(0:Int))=some (x.2.2.1.all fun a=>uQ a.2.1):=by
 have h:=a8z (f:=f) (l:=x.2.2.1) (fun a=>uQ a.2.1) (fun i h g=>by
  rcases hf with rfl|rfl
  .unfold S5;dsimp only;rw[aRf (vT h),aRf (uM h),M2 h,SD,aRf (by exact fun _=>rfl),aRf (x6 pF)];rfl
  .unfold S6;dsimp only;rw[aRf (vT h),aRf (uM h),M2 h,SD,aRf (by exact fun _=>rfl),aRf (x6 pF)];rfl) (fun g=>by
  rcases hf with rfl|rfl
  .unfold S5;dsimp only;rw[aRk (x7 _)]
  .unfold S6;dsimp only;rw[aRk (x7 _)]) x.2.2.1.length 0 true pF
 rw[aSH,Bool.true_and] at h;exact h
def A1 (x:xN) (fds:List rZ) (L:List TE):Option (List rZ×List TE):=
 if xE x.2.2.1 [vD] [vD]=true/\(x.2.2.1.all fun a=>uQ a.2.1)=true/\x.2.2.2=false/\(fds.any fun f=>decide (f.1=s0 x.2.2.1 vD))=false/\fds.length≠20 then(xV x L).map fun r=>(FU fds (s0 x.2.2.1 vD) r.1,r.2) else none
theorem aGF (x:xN) (b:sF) (hx:e=0->∃t r,l=t::r/\t.1=2) (ha:x.2.2.1.length<=1000000000) (hb:b.2.2.2.2.2.2.1.length<=1000):
  ∃l' a' e' fs,CT l a e c en (x.1,(x.2.1,(x.2.2.1,(x.2.2.2,())))) b m=some (l',a',e',fs)/\KK l l' e e'/\(e=0->match A1 x b.2.2.2.2.2.2.1 (l.map er) with
   |some (fs',r)=>e'=0/\l'.map er=r/\fs=fs'/\l'.length<l.length
   |none=>e'≠0):=by
 have hfit:sH b.2.2.2.2.2.2.1:=by unfold sH;omega
 obtain⟨v1,v2⟩:=OM x vD [] ha pG pG pG pG (by rw[aGB];decide) (by rw[aGC];decide);rw[aGB,aGC] at v1 v2;unfold CT;by_cases h:xE x.2.2.1 [vD] [vD]=true
 .rw[h,aRf rfl] at v1;rw[v1,aRf pU,aRe,SP,aFI _ _ hfit,aRe,aGE (x:=(x.1,(x.2.1,(x.2.2.1,(x.2.2.2,()))))) ha (.inl rfl)];unfold sJ;rw[aRe,BV hl,aRe,aMy];dsimp only;have hck:=G1 (l:=l) a e ((!true)||(!(x.2.2.1.all fun a=>uQ a.2.1))) (x.2.2.2||(b.2.2.2.2.2.2.1.any fun f=>decide (f.1=s0 x.2.2.1 vD))) (decide ((b.2.2.2.2.2.2.1.length:Int)=20))
  have hid:=fun he=>aGq (l:=l) a e he ((!true)||(!(x.2.2.1.all fun a=>uQ a.2.1))) (x.2.2.2||(b.2.2.2.2.2.2.1.any fun f=>decide (f.1=s0 x.2.2.1 vD))) (decide ((b.2.2.2.2.2.2.1.length:Int)=20))
  generalize zZ l a e ((!true)||(!(x.2.2.1.all fun a=>uQ a.2.1))) (x.2.2.2||(b.2.2.2.2.2.2.1.any fun f=>decide (f.1=s0 x.2.2.1 vD))) (decide ((b.2.2.2.2.2.2.1.length:Int)=20))=q at hck hid|-
  obtain⟨a1,e1⟩:=q;dsimp only at hck hid|-;obtain⟨s,l2,a2,e2,h2,p2,s2,m2⟩:=SO hl a1 e1 (c.1,(c.2.1,(c.2.2.1,(c.2.2.2.1,())))) (en.1,()) m x (fun he=>hx (hck.1 he).1);rw[h2,aRe,aFK _ _ _ hfit,aRe];refine⟨_,_,_,_,rfl,⟨p2.suf,fun he=>p2.bad (by rw[show e1=e from aRx Prod.snd (hid he)];exact he)⟩,fun he=> ?_⟩;unfold A1;by_cases hc:xE x.2.2.1 [vD] [vD]=true/\(x.2.2.1.all fun a=>uQ a.2.1)=true/\x.2.2.2=false/\(b.2.2.2.2.2.2.1.any fun f=>decide (f.1=s0 x.2.2.1 vD))=false/\b.2.2.2.2.2.2.1.length≠20
  .rw[aRf hc];have he1:e1=0:=hck.2 ⟨he,by rw[hc.2.1];rfl,by rw[hc.2.2.1,hc.2.2.2.1];rfl,by rw[XP];exact decide_eq_false hc.2.2.2.2⟩;have m2':=m2 he1;cases hct:xV x (l.map er) with
   |none=>rw[hct] at m2';exact m2'
   |some r=>
    rw[hct] at m2';exact⟨m2'.1,m2'.2.1,by rw[m2'.2.2.1],m2'.2.2.2⟩
  .rw[aRk hc];refine p2.bad fun he1=>hc ?_;obtain⟨_,k1,k2,k3⟩:=hck.1 he1;rw[XP] at k3;simp only[aR3,aSw] at k1 k2;exact⟨h,k1.2,k2.1,k2.2,of_decide_eq_false k3⟩
 .have h':xE x.2.2.1 [vD] [vD]=false:=by simpa using h
  rw[h',aRk pG] at v1;rw[v1,aRk pG,v2 h',aRe,aFI _ _ hfit,aRe,aGE (x:=(x.1,(x.2.1,(x.2.2.1,(x.2.2.2,()))))) ha (.inr rfl)];unfold sJ;rw[aRe,BV hl,aRe];dsimp only;have hck:=G1 (l:=l) a e ((!false)||(!(x.2.2.1.all fun a=>uQ a.2.1))) (x.2.2.2||(OG b.2.2.2.2.2.2.1 []).2) (decide ((b.2.2.2.2.2.2.1.length:Int)=20))
  generalize zZ l a e ((!false)||(!(x.2.2.1.all fun a=>uQ a.2.1))) (x.2.2.2||(OG b.2.2.2.2.2.2.1 []).2) (decide ((b.2.2.2.2.2.2.1.length:Int)=20))=q at hck|-
  obtain⟨a1,e1⟩:=q;dsimp only at hck|-;have he1:e1≠0:=fun h0=>by have:=(hck.1 h0).2.1;cases this
  obtain⟨s,l2,a2,e2,h2,p2,s2,m2⟩:=SO hl a1 e1 (c.1,(c.2.1,(c.2.2.1,(c.2.2.2.1,())))) (en.1,()) m x (fun h0=>absurd h0 he1);rw[h2,aRe,aFK _ _ _ hfit,aRe];refine⟨_,_,_,_,rfl,⟨p2.suf,fun _=>p2.bad he1⟩,fun he=> ?_⟩;unfold A1;rw[aRk (fun hh=>h hh.1)];exact p2.bad he1
end
abbrev EU:=pC×pC×pD×List rZ×Bool×Bool
def tP:Nat->EU->List TE->Option (EU×List TE)
 |0,_,_=>none
 |n+1,st,L=>
  if (rD (qZ L)).1=3\/(rD (qZ L)).1=0 then(uN z7 (qZ L)).map fun r=>(st,r)
  else if (rD (qZ L)).2.1=yD then(match A0 (rD (qZ L)) st.2.2.1 (qZ L) with
   |some (cs,r)=>tP n (st.1,st.2.1,cs,st.2.2.2.1,st.2.2.2.2.1,st.2.2.2.2.2) r
   |none=>none)
  else if (rD (qZ L)).2.1=xW then(match A1 (rD (qZ L)) st.2.2.2.1 (qZ L) with
   |some (fs,r)=>tP n (st.1,st.2.1,st.2.2.1,fs,st.2.2.2.2.1,st.2.2.2.2.2) r
   |none=>none)
  else if (rD (qZ L)).2.1=wI then(if (rD (qZ L)).2.2.1=[]/\(rD (qZ L)).2.2.2=false/\st.2.2.2.2.1=false then(match xV (rD (qZ L)) (qZ L) with
   |some (s,r)=>tP n (s,st.2.1,st.2.2.1,st.2.2.2.1,true,st.2.2.2.2.2) r
   |none=>none) else none)
  else if (rD (qZ L)).2.1=yR then(if (rD (qZ L)).2.2.1=[]/\(rD (qZ L)).2.2.2=false/\st.2.2.2.2.2=false then(match xV (rD (qZ L)) (qZ L) with
   |some (s,r)=>tP n (st.1,s,st.2.2.1,st.2.2.2.1,st.2.2.2.2.1,true) r
   |none=>none) else none)
  else none
def EV (l:List t6):Int:=(qU (.pair (.int .i64) (.pair .str (.pair (.int .i64) .unit))) l 0).2.2.1
def B7 (l:List t6):Prop:= ∀i (h:i+1<l.length),(l[i+1]'h).2.2.1=(l[i]'pF).2.2.1+((l[i]'pF).2.1.length:Int)
theorem B7.drop {l:List t6}(h:B7 l) (k:Nat):B7 (l.drop k):=by
 intro i hi;rw[aRA] at hi;simp only[List.getElem_drop];have:=h (k+i) pF;simpa[aRZ] using this
theorem uH.cont {a b:List t6}(h:uH a b) (hb:B7 b):B7 a:=by
 obtain⟨k,_,rfl⟩:=h;exact hb.drop k
end
noncomputable section
abbrev R8:=Int×List t6×Int×Int×pC×pC×pD×List rZ
theorem a8B {t:t6}{r:List t6}(hc:B7 (t::r)) (hr:r≠[]):t.2.2.1+(t.2.1.length:Int)=EV r:=by
 cases r with
 |nil=>exact absurd rfl hr
 |cons u r=>exact(hc 0 pH).symm
theorem aNr {l l':List t6}{name:pC}{r:List TE}(hl:wH l) (hc:B7 l) (hs:uH l' l) (h:uN name (l.map er)=some r) (hm:l'.map er=r):
  (qU (.pair (.int .i64) (.pair .str (.pair (.int .i64) .unit))) l 0).2.2.1+((qU (.pair (.int .i64) (.pair .str (.pair (.int .i64) .unit))) l 0).2.1.length:Int)=EV l'/\l'.length<l.length:=by
 obtain⟨t,q,rfl⟩:=hl.head;have h':(if (uX (er t)).1=3/\(uX (er t)).2.1=name then some (q.map er) else none)=some r:=h;split at h'
 .rename_i h3;have h2:t.1=2:=SN (t:=er t) (by rw[h3.1];decide);have hmore:=hl.more (.inl h2);have hq:l'=q:=by
   obtain⟨k,hk,rfl⟩:=hs;have e1:=aRx List.length hm;rw[<-aRi h',aR6,aR6,aRA] at e1;simp only[aRj] at e1 hk;obtain rfl:k=1:=by omega
   rfl
  subst hq;refine⟨a8B hc ?_,by simp⟩;rintro rfl;simp at hmore
 .cases h'
section
variable {c:sV}{en:pL×Unit}{p:sF}{ids:pJ}
theorem OP {l:List t6}(hl:wH l) {a e:Int}(he:e≠0) (sr tg:pC) (cm:pD) (fd:List rZ) (m:pJ):
  ∃r:R8,rU (zW c en p ids) (l,a,e,sr,tg,cm,fd,m)=some r/\uH r.2.1 l/\r.2.2.2.1≠0:=by
 obtain⟨l',a',e',h1,p1,_⟩:=OL hl a e (c.1,(c.2.1,(c.2.2.1,(c.2.2.2.1,())))) (en.1,()) ids z7;refine⟨((qU (.pair (.int .i64) (.pair .str (.pair (.int .i64) .unit))) l 0).2.2.1+((qU (.pair (.int .i64) (.pair .str (.pair (.int .i64) .unit))) l 0).2.1.length:Int),l',a',e',sr,tg,cm,fd),vM ?_,p1.suf,p1.bad he⟩
 .unfold zW;dsimp only;rw[BW hl,aRe,aRk he,BX hl,aRe,aRk he,aRf pG,h1,aRe]
theorem aGG {l:List t6}(hl:wH l) (h:(rD (l.map er)).1≠0): ∃t r,l=t::r/\t.1=2:=by
 obtain⟨t,r,rfl⟩:=hl.head;exact⟨t,r,rfl,SN (t:=er t) h⟩
theorem aGH: ∀(n:Nat) (s:pC) (l:List rZ) (tw:Bool) (l':List rZ) (tw':Bool),DI n s l tw=some (l',tw')->l'.length<=l.length+s.length
 |0,_,_,_,_,_,h=>by cases h
 |n+1,s,l,tw,l',tw',h=>by
  have hd:=aGo blk s;unfold DI at h;split at h
  .cases h;omega
  .split at h
   .cases h
   .rename_i a v rest ha;split at h
    .cases h
    .have ih:=aGH n _ _ _ _ _ h;have hr:rest.length+1<=(s.dropWhile blk).length:=by
      unfold HM at ha;split at ha
      .cases ha
      .rename_i hw;split at ha
       .cases ha
       .split at ha
        .cases ha
        .split at ha
         .cases ha;have h1:=aGm ((s.dropWhile blk).drop (tD (s.dropWhile blk))) [61,34];have h2:=(aGn (xD ((s.dropWhile blk).drop (tD (s.dropWhile blk))) [61,34]).1).2;rw[aRA] at h1;have:=SM (s.dropWhile blk);omega
         .cases ha
     rw[aRg] at ih;simp only[aRj,aRq] at ih;omega
theorem aNs {t:TE}(h:t.2.length<=1000000000):(uX t).2.2.1.length<=1000000000:=by
 unfold uX;split
 .cases hr:AH t.2 with
  |none=>simp [eN]
  |some x=>
   show x.2.2.1.length<=_;unfold AH at hr;split at hr
   .split at hr
    .cases hr
    .cases hr;simp
   .dsimp only at hr;generalize hu:(if ((t.2.drop 1).take (t.2.length-2)).drop (t.2.length-3)=[47] then(((t.2.drop 1).take (t.2.length-2)).take (t.2.length-3),(2:Int)) else((t.2.drop 1).take (t.2.length-2),1))=u at hr;have hul:u.1.length<=t.2.length:=by
     rw[<-hu];split<;>simp<;>omega
    split at hr
    .cases hr
    .obtain⟨q,hq,rfl⟩:=aRn.1 hr;have:=aGH _ _ _ _ _ _ hq;dsimp only;simp only[aRq,aRA,aRP] at this;omega
 .simp [eN]
theorem XQ {l:List t6}(hl:wH l):(rD (l.map er)).2.2.1.length<=1000000000:=by
 obtain⟨t,r,rfl⟩:=hl.head;exact aNs (t:=er t) (hl.txt t aRm)
theorem SQ: ∀(n:Nat) (l:List t6) (a e:Int) (sr tg:pC) (cm:pD) (fd:List rZ) (m:pJ) (sS sT:Bool),
  l.length<=n->wH l->B7 l->rV .str .bool m wI=sS->rV .str .bool m yR=sT->(e=0->cm.length<=20/\fd.length<=20)->
  ∃r:R8,rU (zW c en p ids) (l,a,e,sr,tg,cm,fd,m)=some r/\uH r.2.1 l/\(e≠0->r.2.2.2.1≠0)/\(e=0->match tP (n+1) (sr,tg,cm,fd,sS,sT) (l.map er) with
   |some (st,q)=>r.2.2.2.1=0/\r.2.1.map er=q/\r.2.2.2.2=(st.1,st.2.1,st.2.2.1,st.2.2.2.1)/\r.1=EV r.2.1/\r.2.1.length<l.length
   |none=>r.2.2.2.1≠0)
 |n,l,a,e,sr,tg,cm,fd,m,sS,sT,hn,hl,hcn,hS,hT,hb=>by
  by_cases he:e=0
  .subst he;have hsk:=JI hl;have hl1:=hsk.ok hl;have hc1:=hsk.cont hcn;have hle1:=hsk.le;have her:=OK l;obtain⟨hb1,hb2⟩:=hb rfl;have hxl:=XQ hl1;unfold tP;rw[<-her];generalize hx:rD ((tG l).map er)=x at hxl;by_cases h30:x.1=3\/x.1=0
   .obtain⟨l2,a2,e2,h2,p2,m2⟩:=OL hl1 a 0 (c.1,(c.2.1,(c.2.2.1,(c.2.2.2.1,())))) (en.1,()) ids z7;have hst:zW c en p ids (l,a,0,sr,tg,cm,fd,m)=some (.inr ((qU (.pair (.int .i64) (.pair .str (.pair (.int .i64) .unit))) (tG l) 0).2.2.1+((qU (.pair (.int .i64) (.pair .str (.pair (.int .i64) .unit))) (tG l) 0).2.1.length:Int),l2,a2,e2,sr,tg,cm,fd)):=by
     unfold zW;dsimp only;rw[BW hl,aRe,aRf rfl,BX hl1,aRe,aRf rfl,hx,aRf (by simpa using h30),h2,aRe]
    refine⟨_,vM hst,p2.suf.trans hsk,fun h=>absurd rfl h,fun _=> ?_⟩;rw[aRf h30];have m2':=m2 rfl;cases hnd:uN z7 ((tG l).map er) with
    |none=>rw[hnd] at m2';exact m2'
    |some r=>
     rw[hnd] at m2';have hp:=aNr hl1 hc1 p2.suf hnd m2'.2;exact⟨m2'.1,m2'.2,rfl,hp.1,by have:=hp.2;dsimp only at this|-;omega⟩
   .rw[aRk h30];have hx0:x.1≠0:=fun h=>h30 (.inr h);have hhd:(0:Int)=0->∃t r,tG l=t::r/\t.1=2:=fun _=>aGG hl1 (by rw[hx];exact hx0);cases n with
    |zero=>
     have:=aRL.2 hl.ne;omega
    |succ n=>
    by_cases hkc:x.2.1=yD
    .rw[aRf hkc];obtain⟨l2,a2,e2,cs,h2,p2,m2⟩:=aGD hl1 a 0 (c.1,(c.2.1,(c.2.2.1,(c.2.2.2.1,())))) (en.1,()) ids x (p.1,(sr,(tg,(cm,(p.2.2.2.2.1,(p.2.2.2.2.2.1,(fd,()))))))) hhd hxl (by dsimp only;omega);have hst:zW c en p ids (l,a,0,sr,tg,cm,fd,m)=some (.inl (l2,a2,e2,sr,tg,cs,fd,m)):=by
      unfold zW;dsimp only;rw[BW hl,aRe,aRf rfl,BX hl1,aRe,aRf rfl,hx,aRk (by simpa using h30),aRf (aRF hkc),h2,aRe]
     have m2':=m2 rfl;dsimp only at m2';have hl2:=p2.suf.ok hl1;cases hcm:A0 x cm ((tG l).map er) with
     |none=>
      rw[hcm] at m2';obtain⟨r,hr1,hr2,hr3⟩:=OP (c:=c) (en:=en) (p:=p) (ids:=ids) hl2 (a:=a2) m2' sr tg cs fd m;exact⟨r,by rw[w4 hst];exact hr1,(hr2.trans p2.suf).trans hsk,fun h=>absurd rfl h,fun _=>hr3⟩
     |some cr=>
      obtain⟨cs',r'⟩:=cr;rw[hcm] at m2';obtain⟨k1,k2,k3,k4⟩:=m2';subst k1 k3;have hcs:cs.length<=20:=by
       unfold A0 at hcm;split at hcm
       .rename_i hh;obtain⟨q,_,hq⟩:=aRn.1 hcm;have:=aRx Prod.fst hq;dsimp only at this;rw[<-this,aRg];simp only[aRj,aRq];have:=hh.2.2;omega
       .cases hcm
      obtain⟨r,hr1,hr2,hr3,hr4⟩:=SQ n l2 a2 0 sr tg cs fd m sS sT pF hl2 (p2.suf.cont hc1) hS hT (fun _=>⟨hcs,hb2⟩);refine⟨r,by rw[w4 hst];exact hr1,(hr2.trans p2.suf).trans hsk,fun h=>absurd rfl h,fun _=> ?_⟩;have hr4':=hr4 rfl;rw[k2] at hr4';dsimp only;cases hin:tP (n+1) (sr,tg,cs,fd,sS,sT) r' with
      |none=>rw[hin] at hr4';exact hr4'
      |some w=>
       rw[hin] at hr4';exact⟨hr4'.1,hr4'.2.1,hr4'.2.2.1,hr4'.2.2.2.1,by have:=hr4'.2.2.2.2;omega⟩
    .rw[aRk hkc];by_cases hkf:x.2.1=xW
     .rw[aRf hkf];obtain⟨l2,a2,e2,fs,h2,p2,m2⟩:=aGF hl1 a 0 (c.1,(c.2.1,(c.2.2.1,(c.2.2.2.1,())))) (en.1,()) ids x (p.1,(sr,(tg,(cm,(p.2.2.2.2.1,(p.2.2.2.2.2.1,(fd,()))))))) hhd hxl (by dsimp only;omega);have hst:zW c en p ids (l,a,0,sr,tg,cm,fd,m)=some (.inl (l2,a2,e2,sr,tg,cm,fs,m)):=by
       unfold zW;dsimp only;rw[BW hl,aRe,aRf rfl,BX hl1,aRe,aRf rfl,hx,aRk (by simpa using h30),aRk (by simpa using hkc),aRf (aRF hkf),h2,aRe]
      have m2':=m2 rfl;dsimp only at m2';have hl2:=p2.suf.ok hl1;cases hcm:A1 x fd ((tG l).map er) with
      |none=>
       rw[hcm] at m2';obtain⟨r,hr1,hr2,hr3⟩:=OP (c:=c) (en:=en) (p:=p) (ids:=ids) hl2 (a:=a2) m2' sr tg cm fs m;exact⟨r,by rw[w4 hst];exact hr1,(hr2.trans p2.suf).trans hsk,fun h=>absurd rfl h,fun _=>hr3⟩
      |some cr=>
       obtain⟨fs',r'⟩:=cr;rw[hcm] at m2';obtain⟨k1,k2,k3,k4⟩:=m2';subst k1 k3;have hcs:fs.length<=20:=by
        unfold A1 at hcm;split at hcm
        .rename_i hh;obtain⟨q,_,hq⟩:=aRn.1 hcm;have:=aRx Prod.fst hq;dsimp only at this;rw[<-this];have h3:=aFJ fd (s0 x.2.2.1 vD) q.1;have:=hh.2.2.2.2;omega
        .cases hcm
       obtain⟨r,hr1,hr2,hr3,hr4⟩:=SQ n l2 a2 0 sr tg cm fs m sS sT pF hl2 (p2.suf.cont hc1) hS hT (fun _=>⟨hb1,hcs⟩);refine⟨r,by rw[w4 hst];exact hr1,(hr2.trans p2.suf).trans hsk,fun h=>absurd rfl h,fun _=> ?_⟩;have hr4':=hr4 rfl;rw[k2] at hr4';dsimp only;cases hin:tP (n+1) (sr,tg,cm,fs,sS,sT) r' with
       |none=>rw[hin] at hr4';exact hr4'
       |some w=>
        rw[hin] at hr4';exact⟨hr4'.1,hr4'.2.1,hr4'.2.2.1,hr4'.2.2.2.1,by have:=hr4'.2.2.2.2;omega⟩
     .rw[aRk hkf];by_cases hst2:x.2.1=wI\/x.2.1=yR
      ·
       obtain⟨v1,v2⟩:=OM x [] [] hxl pG pG pG pG (by rw[ON];decide) (by rw[OO];decide);rw[ON,OO,a8A] at v1 v2;obtain⟨o,ho⟩: ∃o:Bool,o=decide (x.2.2.1=[]):=⟨_,rfl⟩;have hck:=G1 (l:=tG l) a 0 (!o) (x.2.2.2||rV .str .bool m x.2.1) false
       generalize hq:zZ (tG l) a 0 (!o) (x.2.2.2||rV .str .bool m x.2.1) false=q at hck
       obtain⟨a1,e1⟩:=q;dsimp only at hck;obtain⟨s,l2,a2,e2,h2,p2,s2,m2⟩:=SO hl1 a1 e1 (c.1,(c.2.1,(c.2.2.1,(c.2.2.2.1,())))) (en.1,()) ids x (fun _=>hhd rfl);have hbn:(sJ (σ:=Bool) (if (decide (x.2.1=wI))=true then some ((decide (x.2.1=wI))) else some ((decide (x.2.1=yR)))) fun q=>some q)=some true:=by
        unfold sJ;rcases hst2 with h|h
        .rw[aRf (aRF h),aRF h];rfl
        .rw[aRk (by rw[h];decide),aRF h];rfl
       have hst:zW c en p ids (l,a,0,sr,tg,cm,fd,m)=some (.inl (if x.2.1=wI then(l2,a2,e2,s,tg,cm,fd,tJ .str .bool x.2.1 true m) else(l2,a2,e2,sr,s,cm,fd,tJ .str .bool x.2.1 true m))):=by
        unfold zW;dsimp only;rw[BW hl,aRe,aRf rfl,BX hl1,aRe,aRf rfl,hx,aRk (by simpa using h30),aRk (by simpa using hkc),aRk (by simpa using hkf)];unfold sJ at hbn|-;generalize (if (decide (x.2.1=wI))=true then some ((decide (x.2.1=wI))) else some ((decide (x.2.1=yR))))=oo at hbn|-;cases oo with
        |none=>cases hbn
        |some bb=>
         obtain rfl:bb=true:=aRi hbn;rw[aRe,aRf rfl];cases o with
         |true=>
          rw[<-ho,aRf rfl] at v1;rw[v1,aRf pU,aRe,BV hl1,hq,aRe];dsimp only;rw[h2,aRe];by_cases hs:x.2.1=wI
          .rw[aRf (aRF hs),aRf hs]
          .rw[aRk (by simpa using hs),aRk hs]
         |false=>
          rw[<-ho,aRk pG] at v1;rw[v1,aRk pG,v2 ho.symm,aRe,BV hl1,hq,aRe];dsimp only;rw[h2,aRe];by_cases hs:x.2.1=wI
          .rw[aRf (aRF hs),aRf hs]
          .rw[aRk (by simpa using hs),aRk hs]
       have hl2:=p2.suf.ok hl1;have hbad:e2≠0->∃r:R8,rU (zW c en p ids) (l,a,0,sr,tg,cm,fd,m)=some r/\uH r.2.1 l/\r.2.2.2.1≠0:=fun h0=>by
        rw[w4 hst];by_cases hs:x.2.1=wI
        .rw[aRf hs];obtain⟨r,hr1,hr2,hr3⟩:=OP (c:=c) (en:=en) (p:=p) (ids:=ids) hl2 (a:=a2) h0 s tg cm fd (tJ .str .bool x.2.1 true m);exact⟨r,hr1,(hr2.trans p2.suf).trans hsk,hr3⟩
        .rw[aRk hs];obtain⟨r,hr1,hr2,hr3⟩:=OP (c:=c) (en:=en) (p:=p) (ids:=ids) hl2 (a:=a2) h0 sr s cm fd (tJ .str .bool x.2.1 true m);exact⟨r,hr1,(hr2.trans p2.suf).trans hsk,hr3⟩
       have hnone:e2≠0->∀w:Option (EU×List TE),w=none->∃r:R8,rU (zW c en p ids) (l,a,0,sr,tg,cm,fd,m)=some r/\uH r.2.1 l/\((0:Int)≠0->r.2.2.2.1≠0)/\((0:Int)=0->match w with
         |some (st,q)=>r.2.2.2.1=0/\r.2.1.map er=q/\r.2.2.2.2=(st.1,st.2.1,st.2.2.1,st.2.2.2.1)/\r.1=EV r.2.1/\r.2.1.length<l.length
         |none=>r.2.2.2.1≠0):=fun h0 w hw=>by
        obtain⟨r,hr1,hr2,hr3⟩:=hbad h0;subst hw;exact⟨r,hr1,hr2,fun h=>absurd rfl h,fun _=>hr3⟩
       by_cases hs:x.2.1=wI
       .rw[aRf hs];by_cases hok:x.2.2.1=[]/\x.2.2.2=false/\sS=false
        .have hcond:x.2.2.1=[]/\x.2.2.2=false/\(sr,tg,cm,fd,sS,sT).2.2.2.2.1=false:=hok;rw[aRf hcond];have he1:e1=0:=hck.2 ⟨rfl,by rw[ho,aRF hok.1];rfl,by rw[hok.2.1,hs,hS,hok.2.2];rfl,rfl⟩;have m2':=m2 he1;cases hct:xV x ((tG l).map er) with
         |none=>rw[hct] at m2';exact hnone m2' _ rfl
         |some w=>
          obtain⟨s',r'⟩:=w;rw[hct] at m2';obtain⟨k1,k2,k3,k4⟩:=m2';subst k1 k3;rw[aRf hs] at hst;obtain⟨r,hr1,hr2,hr3,hr4⟩:=SQ n l2 a2 0 s tg cm fd (tJ .str .bool x.2.1 true m) true sT pF hl2 (p2.suf.cont hc1) (by rw[LV,hs,aRf rfl]) (by rw[LV,hs,aRk pG];exact hT) (fun _=>⟨hb1,hb2⟩);refine⟨r,by rw[w4 hst];exact hr1,(hr2.trans p2.suf).trans hsk,fun h=>absurd rfl h,fun _=> ?_⟩;have hr4':=hr4 rfl;rw[k2] at hr4';dsimp only;cases hin:tP (n+1) (s,tg,cm,fd,true,sT) r' with
          |none=>rw[hin] at hr4';exact hr4'
          |some w=>
           rw[hin] at hr4';exact⟨hr4'.1,hr4'.2.1,hr4'.2.2.1,hr4'.2.2.2.1,by have:=hr4'.2.2.2.2;omega⟩
        .have hcond: ¬(x.2.2.1=[]/\x.2.2.2=false/\(sr,tg,cm,fd,sS,sT).2.2.2.2.1=false):=hok;rw[aRk hcond];refine hnone (p2.bad fun he1=>hok ?_) _ rfl;obtain⟨_,q1,q2,_⟩:=hck.1 he1;rw[ho] at q1;rw[hs,hS,aR3] at q2;exact⟨by simpa using q1,q2.1,q2.2⟩
       .rw[aRk hs];have hs2:x.2.1=yR:=by
         rcases hst2 with h|h
         .exact absurd h hs
         .exact h
        rw[aRf hs2];by_cases hok:x.2.2.1=[]/\x.2.2.2=false/\sT=false
        .have hcond:x.2.2.1=[]/\x.2.2.2=false/\(sr,tg,cm,fd,sS,sT).2.2.2.2.2=false:=hok;rw[aRf hcond];have he1:e1=0:=hck.2 ⟨rfl,by rw[ho,aRF hok.1];rfl,by rw[hok.2.1,hs2,hT,hok.2.2];rfl,rfl⟩;have m2':=m2 he1;cases hct:xV x ((tG l).map er) with
         |none=>rw[hct] at m2';exact hnone m2' _ rfl
         |some w=>
          obtain⟨s',r'⟩:=w;rw[hct] at m2';obtain⟨k1,k2,k3,k4⟩:=m2';subst k1 k3;rw[aRk hs] at hst;obtain⟨r,hr1,hr2,hr3,hr4⟩:=SQ n l2 a2 0 sr s cm fd (tJ .str .bool x.2.1 true m) sS true pF hl2 (p2.suf.cont hc1) (by rw[LV,hs2,aRk pG];exact hS) (by rw[LV,hs2,aRf rfl]) (fun _=>⟨hb1,hb2⟩);refine⟨r,by rw[w4 hst];exact hr1,(hr2.trans p2.suf).trans hsk,fun h=>absurd rfl h,fun _=> ?_⟩;have hr4':=hr4 rfl;rw[k2] at hr4';dsimp only;cases hin:tP (n+1) (sr,s,cm,fd,sS,true) r' with
          |none=>rw[hin] at hr4';exact hr4'
          |some w=>
           rw[hin] at hr4';exact⟨hr4'.1,hr4'.2.1,hr4'.2.2.1,hr4'.2.2.2.1,by have:=hr4'.2.2.2.2;omega⟩
        .have hcond: ¬(x.2.2.1=[]/\x.2.2.2=false/\(sr,tg,cm,fd,sS,sT).2.2.2.2.2=false):=hok;rw[aRk hcond];refine hnone (p2.bad fun he1=>hok ?_) _ rfl;obtain⟨_,q1,q2,_⟩:=hck.1 he1;rw[ho] at q1;rw[hs2,hT,aR3] at q2;exact⟨by simpa using q1,q2.1,q2.2⟩
      ·
       have hs1: ¬x.2.1=wI:=fun h=>hst2 (.inl h);have hs2: ¬x.2.1=yR:=fun h=>hst2 (.inr h);rw[aRk hs1,aRk hs2];have hst:zW c en p ids (l,a,0,sr,tg,cm,fd,m)=some (.inl (tG l,(DJ (tG l) a 0 3).1,(DJ (tG l) a 0 3).2,sr,tg,cm,fd,m)):=by
        unfold zW;dsimp only;rw[BW hl,aRe,aRf rfl,BX hl1,aRe,aRf rfl,hx,aRk (by simpa using h30),aRk (by simpa using hkc),aRk (by simpa using hkf)];have hbn:(if (decide (x.2.1=wI))=true then some ((decide (x.2.1=wI))) else some ((decide (x.2.1=yR))))=some false:=by
         rw[aRk (by simpa using hs1),decide_eq_false hs2]
        unfold sJ;rw[hbn,aRe,aRk pG,JH hl1,aRe]
       obtain⟨r,hr1,hr2,hr3⟩:=OP (c:=c) (en:=en) (p:=p) (ids:=ids) hl1 (a:=(DJ (tG l) a 0 3).1) (G0 (l:=tG l) a 0 (code:=3) pG) sr tg cm fd m;exact⟨r,by rw[w4 hst];exact hr1,hr2.trans hsk,fun h=>absurd rfl h,fun _=>hr3⟩
  .obtain⟨r,hr1,hr2,hr3⟩:=OP (c:=c) (en:=en) (p:=p) (ids:=ids) hl (a:=a) he sr tg cm fd m;exact⟨r,hr1,hr2,fun _=>hr3,fun h=>absurd h he⟩
end
end
noncomputable section
theorem aGI:Lib.fields ((tZ++[32])++([115,116,97,116,101,32,102,108,97,103,115]:pC))=[tZ,x8,uB]:=by kernel_rfl
theorem aGJ:Lib.fields tZ=[tZ]:=by kernel_rfl
def HN (l:pD):Bool:=decide ((Lib.compact (sG l)).length<(sG l).length)
def AJ:EU:=([],[],[],[],false,false)
def xY (es:List sF) (x:xN) (L:List TE):Option (sF×List TE):=
  if (x.1=1∨x.1=2)∧x.2.1=z7∧xE x.2.2.1 [tZ] [tZ,x8,uB]=true∧x.2.2.1.any AI=false∧x.2.2.2=false∧(es.any fun y=>decide (y.1=s0 x.2.2.1 tZ))=false∧
    HN (tK (s0 x.2.2.1 uB))=false∧(tK (s0 x.2.2.1 uB)).length≤20∧es.length≠1000 then
    (if x.1=1 then tP L.length AJ (L.drop 1) else some (AJ,L.drop 1)).map fun r=>
      ((s0 x.2.2.1 tZ,(r.1.1,(r.1.2.1,(r.1.2.2.1,(sG (tK (s0 x.2.2.1 uB)),(max 0 (AG (s0 x.2.2.1 x8)),(r.1.2.2.2.1,()))))))),r.2)
  else none
theorem aNt {l:List rZ}{n:pC}(h: ∀a∈l,a.2.1.length≤4000):(s0 l n).length≤4000:=by
  have go: ∀(l:List rZ) (v:pC),(∀a∈l,a.2.1.length≤4000)→v.length≤4000→(l.foldl (fun v a=>if n=a.1 then a.2.1 else v) v).length≤4000:=by
    intro l
    induction l with
    |nil=>intro v _ hv;exact hv
    | cons a l ih=>
      intro v hl hv;rw[List.foldl_cons];refine ih _ (fun b hb=>hl b (aRo _ hb)) ?_;split
      .exact hl a aRm
      .exact hv
  exact go l [] h pH
theorem aNu {s n v r:pC}(h:HM s=some (n,v,r)):sW v=true:=by
  unfold HM at h;split at h
  .cases h
  · split at h
    .cases h
    · split at h
      .cases h
      · split at h
        · rename_i hv
          cases h;unfold xM at hv;split at hv
          · split at hv
            .rename_i ht;cases hv;exact ht
            .cases hv
          .cases hv
        .cases h
theorem aGK: ∀(n:Nat) (s:pC) (l:List rZ) (tw:Bool) (l':List rZ) (tw':Bool),DI n s l tw=some (l',tw')→(∀a∈l,sW a.2.1=true)→∀a∈l',sW a.2.1=true
  |0,_,_,_,_,_,h,_=>by cases h
  | n+1,s,l,tw,l',tw',h,hl=>by
    unfold DI at h;split at h
    .cases h;exact hl
    · split at h
      .cases h
      · rename_i a v rest ha
        split at h
        .cases h
        · refine aGK n _ _ _ _ _ h fun b hb=> ?_
          rcases aR2.1 hb with hb|hb
          .exact hl b hb
          .rw[aRv.1 hb];exact aNu ha
theorem aNv (t:TE): ∀a∈(uX t).2.2.1,sW a.2.1=true:=by
  unfold uX;split
  · cases hr:AH t.2 with
    |none=>intro a ha;cases ha
    | some x=>
      show∀a∈x.2.2.1,_;unfold AH at hr;split at hr
      · split at hr
        .cases hr
        .cases hr;intro a ha;cases ha
      · dsimp only at hr
        generalize (if ((t.2.drop 1).take (t.2.length-2)).drop (t.2.length-3)=[47] then(((t.2.drop 1).take (t.2.length-2)).take (t.2.length-3),(2:Int)) else((t.2.drop 1).take (t.2.length-2),1))=u at hr;split at hr
        .cases hr
        · obtain⟨q,hq,rfl⟩:=aRn.1 hr
          exact aGK _ _ _ _ _ _ hq (fun a ha=>by cases ha)
  .intro a ha;cases ha
theorem aGL (L:List TE): ∀a∈(rD L).2.2.1,sW a.2.1=true:=by
  cases L with
  |nil=>intro a ha;cases ha
  |cons t r=>exact aNv t
theorem aNw {x:pC}(h:sW x=true):x.length≤4000:=zY h
section
variable {l:List t6}(hl:wH l) (hcn:B7 l) (a:Int) (c:sV) (en:pL×Unit) (ids:pJ)
include hl hcn
theorem aNx (hids:LW ids c.2.2.2.1) (hes:c.2.2.2.1.length≤1000) (hen:en.1.length≤5000): ∃l' a' e' es' en' ids',BR l a 0 c en ids=some (l',a',e',es',en',ids')∧uH l' l∧
    (match xY c.2.2.2.1 (rD (l.map er)) (l.map er) with
      |some (y,r)=>e'=0∧l'.map er=r∧es'=c.2.2.2.1++[y]∧en'=en.1++[EV l']∧LW ids' es'∧l'.length<l.length
      |none=>e'≠0):=by
  have hxl:=XQ hl;have htx:=aGL (l.map er);have hpk:=aGG hl;unfold BR;rw[BX hl,aRe,aRf rfl];generalize rD (l.map er)=x at hxl htx hpk;obtain⟨v1,v2⟩:=OM x tZ [115,116,97,116,101,32,102,108,97,103,115] hxl pG pG pG pG (by rw[aGI];decide) (by rw[aGJ];decide);rw[aGI,aGJ] at v1 v2;have hv4: ∀a∈x.2.2.1,a.2.1.length≤4000:=fun a ha=>aNw (htx a ha);have haw:=aNp (l:=x.2.2.1) hxl (fun a ha=>by have:=hv4 a ha;omega);have hsm: ∀n,(s0 x.2.2.1 n).length≤4000:=fun n=>aNt hv4
  have hfl: ∀v:pC,v.length≤4000→(tK v).length≤4001:=fun v hv=>by
    have h1:=aGz v;have h2:=aGA (sZ v [32]);unfold tK;omega
  have hclone: ∀q:pD,q.length≤4001→yN q=some q:=fun q hq=>by
    unfold yN;rw[aRf pF];rfl
  by_cases h:xE x.2.2.1 [tZ] [tZ,x8,uB]=true
  · rw[h,aRf rfl] at v1
    rw[v1,aRf pU,aRe,SP,SP,SP];have hF:=hfl _ (hsm uB);have hS:(sG (tK (s0 x.2.2.1 uB))).length≤4001:=by rw[XJ];exact hF
    rw[a8y (by show (s0 x.2.2.1 uB).length≤_;have:=hsm uB;omega),aRe];show∃l' a' e' es' en' ids',(if (tK (s0 x.2.2.1 uB)).length<4611686018427387904 then _ else none)=_∧_;rw[aRf pF,aRf (fun _=>by rw[haw];rfl),haw,hids];obtain⟨w,hw⟩: ∃w:Bool,((((!decide (x.1=(1:Int)))&&(!decide (x.1=(2:Int))))||(!decide (x.2.1=z7)))||val (some (x.2.2.1.any AI)))=w:=⟨_,rfl⟩
    have hw':w=false↔(x.1=1∨x.1=2)∧x.2.1=z7∧x.2.2.1.any AI=false:=by
      rw[←hw];show (_||x.2.2.1.any AI)=false↔_
      simp only[aR3,aS4,aSw,aRG];constructor
      .rintro⟨⟨h1,h2⟩,h3⟩;exact⟨h1,h2,h3⟩
      .rintro⟨h1,h2,h3⟩;exact⟨⟨h1,h2⟩,h3⟩
    obtain⟨u,hu⟩: ∃u:Bool,((decide ((20:Int)<((sG (tK (s0 x.2.2.1 uB))).length:Int)))||(decide ((c.2.2.2.1.length:Int)=(1000:Int))))=u:=⟨_,rfl⟩
    have hu':u=false↔(tK (s0 x.2.2.1 uB)).length≤20∧c.2.2.2.1.length≠1000:=by
      rw[←hu,XJ];simp only[aR3,aR1];constructor
      .rintro⟨h1,h2⟩;exact⟨pF,pF⟩
      .rintro⟨h1,h2⟩;exact⟨pF,pF⟩
    have tail: ∀(q:Int×Int),q.2≠0∨(q.2=0∧(xY c.2.2.2.1 x (l.map er)=((if x.1=1 then tP (l.map er).length AJ ((l.map er).drop 1) else some (AJ,(l.map er).drop 1)).map fun r=>((s0 x.2.2.1 tZ,(r.1.1,(r.1.2.1,(r.1.2.2.1,(sG (tK (s0 x.2.2.1 uB)),(max 0 (AG (s0 x.2.2.1 x8)),(r.1.2.2.2.1,()))))))),r.2)))∧(x.1=1∨x.1=2)∧c.2.2.2.1.length≠1000)→
        (q.2≠0→xY c.2.2.2.1 x (l.map er)=none)→
        ∃l' a' e' es' en' ids',(if (!decide (q.2=(0:Int)))=true then
         some ((l,q.1,q.2,c.2.2.2.1,en.1,ids))
        else
         (BK ([([110,101,119]:pC),([102,117,122,122,121]:pC),([116,114,97,110,115,108,97,116,101,100]:pC),([114,101,118,105,101,119,101,100]:pC),([111,98,115,111,108,101,116,101]:pC)]:pD) (s0 x.2.2.1 x8)).bind fun O=>
         (xT l q.1 q.2 (c.1,(c.2.1,(c.2.2.1,(c.2.2.2.1,())))) (en.1,()) (tJ .str .bool (s0 x.2.2.1 tZ) true ids)).bind fun Z=>
         sJ (σ:=(Int×(List s9)×Int×Int×pC×pC×pD×(List r6))) (
           if (decide (x.1=(1:Int)))=true then
            (z6 Z q.1 q.2 (c.1,(c.2.1,(c.2.2.1,(c.2.2.2.1,())))) (en.1,()) (s0 x.2.2.1 tZ,(([]:pC),(([]:pC),(([]:pD),((sG (tK (s0 x.2.2.1 uB))),((max (0:Int) O),(([]:List r6),()))))))) (tJ .str .bool (s0 x.2.2.1 tZ) true ids)).bind fun aA=>
            some ((aA.1,aA.2.1,aA.2.2.1,aA.2.2.2.1,aA.2.2.2.2.1,aA.2.2.2.2.2.1,aA.2.2.2.2.2.2.1,aA.2.2.2.2.2.2.2))
           else
            some ((((qU (.pair (.int .i64) (.pair .str (.pair (.int .i64) .unit))) l (0:Int)).2.2.1+(List.length ((qU (.pair (.int .i64) (.pair .str (.pair (.int .i64) .unit))) l (0:Int)).2.1):Int)),Z,q.1,q.2,([]:pC),([]:pC),([]:pD),([]:List r6)))
          ) fun(aB,aC,aD,aE,aF,aG,aH,aI)=>
         if (List.length c.2.2.2.1+List.length ([(s0 x.2.2.1 tZ,(aF,(aG,(aH,((sG (tK (s0 x.2.2.1 uB))),((max (0:Int) O),(aI,())))))))]:List sF))*128≤140737488355328 then
          if (List.length en.1+List.length ([aB]:pL))*8≤140737488355328 then
           some ((aC,aD,aE,(c.2.2.2.1++([(s0 x.2.2.1 tZ,(aF,(aG,(aH,((sG (tK (s0 x.2.2.1 uB))),((max (0:Int) O),(aI,())))))))]:List sF)),(en.1++([aB]:pL)),(tJ .str .bool (s0 x.2.2.1 tZ) true ids)))
          else none
         else none)=some (l',a',e',es',en',ids')∧uH l' l∧
        (match xY c.2.2.2.1 x (l.map er) with
          |some (y,r)=>e'=0∧l'.map er=r∧es'=c.2.2.2.1++[y]∧en'=en.1++[EV l']∧LW ids' es'∧l'.length<l.length
          |none=>e'≠0):=by
      rintro⟨a1,e1⟩ hq hq0;dsimp only at hq hq0|-;by_cases he1:e1=0
      · subst he1
        rcases hq with hq|⟨_,hq,hform,hlen⟩
        .exact absurd rfl hq
        obtain⟨t,r,hlr,ht⟩:=hpk (by rcases hform with h|h<;>rw[h]<;>decide)
        subst hlr;have hmore:=hl.more (.inl ht)
        have hs1:wR (t::r) 0=r:=by
          unfold wR;rw[aRf ⟨rfl,hmore⟩];rfl
        have hr:r≠[]:=by rintro rfl;simp at hmore
        have hsuf:uH r (t::r):=⟨1,hmore,rfl⟩;have hl1:=hsuf.ok hl;have hc1:=hsuf.cont hcn;rw[aRk pH];show∃l' a' e' es' en' ids',(BK HI (s0 x.2.2.1 x8)).bind _=_∧_;rw[aNq,aRe,ET hl,hs1,aRe];rw[hq];by_cases hf1:x.1=1
        · rw[aRf (aRF hf1),aRf hf1]
          obtain⟨w8,hw1,hw2,hw3,hw4⟩:=SQ (c:=(c.1,(c.2.1,(c.2.2.1,(c.2.2.2.1,()))))) (en:=(en.1,())) (p:=(s0 x.2.2.1 tZ,(([]:pC),(([]:pC),(([]:pD),((sG (tK (s0 x.2.2.1 uB))),((max (0:Int) (AG (s0 x.2.2.1 x8))),(([]:List r6),())))))))) (ids:=tJ .str .bool (s0 x.2.2.1 tZ) true ids) r.length r a1 0 [] [] [] [] [] false false (aRE _) hl1 hc1 rfl rfl (fun _=>⟨by simp,by simp⟩)
          have hins:z6 r a1 0 (c.1,(c.2.1,(c.2.2.1,(c.2.2.2.1,())))) (en.1,()) (s0 x.2.2.1 tZ,(([]:pC),(([]:pC),(([]:pD),((sG (tK (s0 x.2.2.1 uB))),((max (0:Int) (AG (s0 x.2.2.1 x8))),(([]:List r6),()))))))) (tJ .str .bool (s0 x.2.2.1 tZ) true ids)=some w8:=by
            unfold z6;exact hw1
          unfold sJ;rw[hins,aRe,aRe];dsimp only;rw[aRf (by simp only[aRj,aRq];omega),aRf (by simp only[aRj,aRq];omega)];refine⟨_,_,_,_,_,_,rfl,hw2.trans hsuf,?_⟩;have hw4':=hw4 rfl;have hdr:((t::r).map er).drop 1=r.map er:=rfl;have hln:((t::r).map er).length=r.length+1:=by simp
          rw[hdr,hln];unfold AJ;cases hin:tP (r.length+1) ([],[],[],[],false,false) (r.map er) with
          |none=>rw[hin] at hw4';exact hw4'
          | some v=>
            rw[hin] at hw4';obtain⟨k1,k2,k3,k4,k5⟩:=hw4';obtain⟨z1,z2,z3,z4,z5⟩:=w8;dsimp only at k1 k2 k3 k4 k5|-;subst k3;refine⟨k1,k2,rfl,by rw[k4],?_,by simp only[aRj];omega⟩;exact a8g hids _ _ rfl
        · rw[aRk (by simpa using hf1),aRk hf1]
          unfold sJ;rw[aRe];dsimp only;rw[aRf (by simp only[aRj,aRq];omega),aRf (by simp only[aRj,aRq];omega)];refine⟨_,_,_,_,_,_,rfl,hsuf,rfl,rfl,rfl,?_,?_,by simp⟩
          .rw[JF,a8B hcn hr]
          .exact a8g hids _ _ rfl
      · rw[aRf (by simpa using he1)]
        refine⟨_,_,_,_,_,_,rfl,uH.refl hl,?_⟩;rw[hq0 he1];exact he1
    have hspec: ∀(tw:Bool) (q:Int×Int),zZ l a 0 w tw u=q→(tw=false↔x.2.2.2=false∧(c.2.2.2.1.any fun y=>decide (y.1=s0 x.2.2.1 tZ))=false∧HN (tK (s0 x.2.2.1 uB))=false)→
        (q.2≠0∨(q.2=0∧(xY c.2.2.2.1 x (l.map er)=((if x.1=1 then tP (l.map er).length AJ ((l.map er).drop 1) else some (AJ,(l.map er).drop 1)).map fun r=>((s0 x.2.2.1 tZ,(r.1.1,(r.1.2.1,(r.1.2.2.1,(sG (tK (s0 x.2.2.1 uB)),(max 0 (AG (s0 x.2.2.1 x8)),(r.1.2.2.2.1,()))))))),r.2)))∧(x.1=1∨x.1=2)∧c.2.2.2.1.length≠1000))∧
        (q.2≠0→xY c.2.2.2.1 x (l.map er)=none):=by
      rintro tw q rfl htw;have hck:=G1 (l:=l) a 0 w tw u;constructor
      · by_cases h0:(zZ l a 0 w tw u).2=0
        · right
          obtain⟨_,k1,k2,k3⟩:=hck.1 h0;have j1:=hw'.1 k1;have j2:=htw.1 k2;have j3:=hu'.1 k3;refine⟨h0,?_,j1.1,j3.2⟩;unfold xY;rw[aRf ⟨j1.1,j1.2.1,h,j1.2.2,j2.1,j2.2.1,j2.2.2,j3.1,j3.2⟩]
        .exact .inl h0
      · intro h0
        unfold xY;rw[aRk];rintro⟨j1,j2,_,j4,j5,j6,j7,j8,j9⟩;exact h0 (hck.2 ⟨rfl,hw'.2 ⟨j1,j2,j4⟩,htw.2 ⟨j5,j6,j7⟩,hu'.2 ⟨j8,j9⟩⟩)
    by_cases hG:((x.2.2.2||(c.2.2.2.1.any fun y=>decide (y.1=s0 x.2.2.1 tZ)))==false)=true
    · rw[aRf hG]
      have hcl:=hclone (sG (tK (s0 x.2.2.1 uB))) hS;show∃l' a' e' es' en' ids',(if _→(yN (sG (tK (s0 x.2.2.1 uB)))).isSome=true then _ else none)=_∧_;rw[aRf (fun _=>by rw[hcl];rfl)];show∃l' a' e' es' en' ids',(if _→(val (yN (sG (tK (s0 x.2.2.1 uB))))).length≤9223372036854775807 then _ else none)=_∧_;rw[aRf (fun _=>by rw[hcl];show (sG _).length≤_;omega),BV hl,aRe]
      have hd:decide ((((List.length (Lib.compact (val (yN (sG (tK (s0 x.2.2.1 uB))))))):Nat):Int)<(List.length (sG (tK (s0 x.2.2.1 uB))):Int))=HN (tK (s0 x.2.2.1 uB)):=by
        rw[hcl];unfold HN;exact aSJ.2 (by show ((Lib.compact (sG (tK (s0 x.2.2.1 uB)))).length:Int)<_↔_;omega)
      obtain⟨s1,s2⟩:=hspec ((x.2.2.2||(c.2.2.2.1.any fun y=>decide (y.1=s0 x.2.2.1 tZ)))||HN (tK (s0 x.2.2.1 uB))) _ rfl (by simp only[aR3];exact⟨fun⟨⟨p,q⟩,r⟩=>⟨p,q,r⟩,fun⟨p,q,r⟩=>⟨⟨p,q⟩,r⟩⟩)
      obtain⟨l',a',e',es',en',ids',k1,k2,k3⟩:=tail _ s1 s2;refine⟨l',a',e',es',en',ids',?_,k2,k3⟩;rw[←k1,←hd,←hw,←hu];rfl
    · rw[aRk hG,BV hl,aRe]
      have hG':(x.2.2.2||(c.2.2.2.1.any fun y=>decide (y.1=s0 x.2.2.1 tZ)))=true:=(by decide: ∀b:Bool,¬(b==false)=true→b=true) _ hG
      obtain⟨s1,s2⟩:=hspec true _ rfl (by
        constructor
        .intro h;cases h
        .rintro⟨p,q,_⟩;rw[p,q] at hG';cases hG')
      obtain⟨l',a',e',es',en',ids',k1,k2,k3⟩:=tail _ s1 s2;refine⟨l',a',e',es',en',ids',?_,k2,k3⟩;rw[←k1,←hw,←hu];rfl
  ·
    have h':xE x.2.2.1 [tZ] [tZ,x8,uB]=false:=by simpa using h
    have hno:xY c.2.2.2.1 x (l.map er)=none:=by
      unfold xY;rw[aRk (fun hh=>h hh.2.2.1)]
    rw[h',aRk pG] at v1;have hF0:(tK []).length≤4001:=hfl [] pH;have hS0:(sG (tK [])).length≤4001:=by rw[XJ];exact hF0
    have hcl:=hclone (sG (tK [])) hS0;rw[v1,aRk pG,v2 h',aRe,a8y pH,aRe];show∃l' a' e' es' en' ids',(if (tK []).length<4611686018427387904 then _ else none)=_∧_;rw[aRf pF,aRf (fun _=>by rw[haw];rfl),haw,hno]
    have bad: ∀(w tw u:Bool),w=true→(zZ l a 0 w tw u).2≠0:=fun w tw u hw h0=>by
      have:=((G1 (l:=l) a 0 w tw u).1 h0).2.1;rw[hw] at this;cases this
    by_cases hG:((x.2.2.2||(rV .str .bool ids ([]:pC)))==false)=true
    · rw[aRf hG]
      show∃l' a' e' es' en' ids',(if _→(yN (sG (tK []))).isSome=true then _ else none)=_∧_;rw[aRf (fun _=>by rw[hcl];rfl)];show∃l' a' e' es' en' ids',(if _→(val (yN (sG (tK [])))).length≤9223372036854775807 then _ else none)=_∧_;rw[aRf (fun _=>by rw[hcl];show (sG _).length≤_;omega),BV hl,aRe]
      have hb:=bad (((((!decide (x.1=(1:Int)))&&(!decide (x.1=(2:Int))))||(!decide (x.2.1=z7)))||true)||val (some (x.2.2.1.any AI)))
        ((x.2.2.2||(rV .str .bool ids ([]:pC)))||(decide ((((List.length (Lib.compact (val (yN (sG (tK [])))))):Nat):Int)<(List.length (sG (tK [])):Int))))
        ((decide ((20:Int)<(List.length (sG (tK [])):Int)))||(decide ((List.length c.2.2.2.1:Int)=(1000:Int)))) pH
      rw[aRf]
      .exact⟨_,_,_,_,_,_,rfl,uH.refl hl,hb⟩
      · simp only[aRK,aR1]
        exact hb
    · rw[aRk hG,BV hl,aRe]
      have hb:=bad (((((!decide (x.1=(1:Int)))&&(!decide (x.1=(2:Int))))||(!decide (x.2.1=z7)))||true)||val (some (x.2.2.1.any AI))) true
        ((decide ((20:Int)<(List.length (sG (tK [])):Int)))||(decide ((List.length c.2.2.2.1:Int)=(1000:Int)))) pH
      rw[aRf]
      .exact⟨_,_,_,_,_,_,rfl,uH.refl hl,hb⟩
      · simp only[aRK,aR1]
        exact hb
end
end
noncomputable section
theorem aGM:Lib.fields ((w7++[32])++([]:pC))=[w7]:=by kernel_rfl
theorem aGN:Lib.fields w7=[w7]:=by kernel_rfl
abbrev G3:=pD×List rZ
def w9:Nat->G3->List TE->Option (G3×List TE)
 |0,_,_=>none
 |n+1,st,L=>
  if (rD (qZ L)).2.1=yD/\(rD (qZ L)).1≠3 then(match A0 (rD (qZ L)) st.1 (qZ L) with
   |some (cs,r)=>w9 n (cs,st.2) r
   |none=>none)
  else if (rD (qZ L)).2.1=xW/\(rD (qZ L)).1≠3 then(match A1 (rD (qZ L)) st.2 (qZ L) with
   |some (fs,r)=>w9 n (st.1,fs) r
   |none=>none)
  else if (rD (qZ L)).1=1/\(rD (qZ L)).2.1=xX/\(rD (qZ L)).2.2.1=[]/\(rD (qZ L)).2.2.2=false then some (st,(qZ L).drop 1)
  else none
def EW (L:List TE):Option (pC×G3×List TE):=
 if (rD (qZ L)).1=1/\(rD (qZ L)).2.1=yS/\xE (rD (qZ L)).2.2.1 [w7] [w7]=true/\((rD (qZ L)).2.2.1.all fun a=>xC a.2.1)=true/\(rD (qZ L)).2.2.2=false then
  (w9 (qZ L).length ([],[]) ((qZ L).drop 1)).map fun r=>(s0 (rD (qZ L)).2.2.1 w7,r.1,r.2)
 else none
theorem aGO {l:List t6}(hl:wH l) {x:xN}(hx:rD (l.map er)=x) (h:x.2.1≠[]): ∃t r,l=t::r/\t.1=2:=by
 obtain⟨t,r,rfl⟩:=hl.head;refine⟨t,r,rfl,?_⟩;by_cases h2:t.1=2
 .exact h2
 .have:uX (er t)=eN:=by unfold uX;exact aRk h2
  have hx':uX (er t)=x:=hx;rw[<-hx',this] at h;exact absurd rfl h
theorem aGP {x:xN}(hx:x.2.2.1.length<=1000000000) {f:Bool×Int->Option ((Bool×Int)⊕Bool)}(hf:f=S9 x\/f=SA x):
  rU f (true,(0:Int))=some (x.2.2.1.all fun a=>xC a.2.1):=by
 have h:=a8z (f:=f) (l:=x.2.2.1) (fun a=>xC a.2.1) (fun i h g=>by
  rcases hf with rfl|rfl
  .unfold S9;dsimp only;rw[aRf (vT h),aRf (uM h),M2 h,a8a,aRf (by exact fun _=>rfl),aRf (x6 pF)];rfl
  .unfold SA;dsimp only;rw[aRf (vT h),aRf (uM h),M2 h,a8a,aRf (by exact fun _=>rfl),aRf (x6 pF)];rfl) (fun g=>by
  rcases hf with rfl|rfl
  .unfold S9;dsimp only;rw[aRk (x7 _)]
  .unfold SA;dsimp only;rw[aRk (x7 _)]) x.2.2.1.length 0 true pF
 rw[aSH,Bool.true_and] at h;exact h
section
variable {c:sV}{en:pL×Unit}{ids:pJ}{mm:List (pC×pC)}
abbrev HR:=((List s9)×Int×Int)⊕((List s9)×Int×Int×pC×pD×(List r6)×pL)
def SR (l:List t6) (r:HR):Prop:= ∃l' a' e',uH l' l/\e'≠0/\(r= .inl (l',a',e')\/∃q,r= .inr (l',a',e',q))
theorem SR.trans {l l2:List t6}{r:HR}(h:SR l2 r) (k:uH l2 l):SR l r:=by
 obtain⟨l',a',e',h1,h2,h3⟩:=h;exact⟨l',a',e',h1.trans k,h2,h3⟩
theorem aGQ {l:List t6}(hl:wH l) {a e:Int}(he:e≠0) (f:Int) (nm:pC) (at':List r6) (tw:Bool) (cm:pD) (fd:List rZ):
  ∃r,rU (CU c en ids mm) (l,a,e,f,nm,at',tw,cm,fd)=some r/\SR l r:=by
 refine⟨.inl (l,a,e),vM ?_,l,a,e,uH.refl hl,he,.inl rfl⟩;unfold CU;dsimp only;rw[aRk (by simpa using he)]
theorem a8C (hen:en.1.length<=1000): ∀(n:Nat) (l:List t6) (a:Int) (f:Int) (nm:pC) (at':List r6) (tw:Bool) (cm:pD) (fd:List rZ),
  l.length<=n->wH l->B7 l->cm.length<=20->fd.length<=20->
  ∃r,rU (CU c en ids mm) (l,a,0,f,nm,at',tw,cm,fd)=some r/\(match w9 (n+1) (cm,fd) (l.map er) with
   |some (st,q)=> ∃l' a',r= .inr (l',a',0,rV .str .str mm w7,st.1,st.2,en.1++[EV l'])/\l'.map er=q/\uH l' l/\l'.length<l.length
   |none=>SR l r)
 |n,l,a,f,nm,at',tw,cm,fd,hn,hl,hcn,hb1,hb2=>by
  have hsk:=JI hl;have hl1:=hsk.ok hl;have hc1:=hsk.cont hcn;have hle1:=hsk.le;have her:=OK l;have hxl:=XQ hl1;unfold w9;rw[<-her];generalize hx:rD ((tG l).map er)=x at hxl;have hhd:x.2.1≠[]->(0:Int)=0->∃t r,tG l=t::r/\t.1=2:=fun h _=>aGO hl1 hx h;have hnp:0<l.length:=aRL.2 hl.ne;obtain⟨n,rfl⟩: ∃k,n=k+1:=⟨n-1,pF⟩;by_cases hkc:x.2.1=yD/\x.1≠3
  .rw[aRf hkc];obtain⟨l2,a2,e2,cs,h2,p2,m2⟩:=aGD hl1 a 0 (rV .str .str mm w7,(c.2.1,(c.2.2.1,(c.2.2.2.1,())))) (en.1,()) ids x (([]:pC),(([]:pC),(([]:pC),(cm,(([]:pD),((0:Int),(fd,()))))))) (hhd (by rw[hkc.1];decide)) hxl (by dsimp only;omega);have hst:CU c en ids mm (l,a,0,f,nm,at',tw,cm,fd)=some (.inl (l2,a2,e2,x.1,x.2.1,x.2.2.1,x.2.2.2,cs,fd)):=by
    unfold CU;dsimp only;rw[aRf pG,BW hl,aRe,aRf rfl,BX hl1,aRe,aRf rfl,hx,aRf (by simpa using hkc),h2,aRe]
   have m2':=m2 rfl;dsimp only at m2';have hl2:=p2.suf.ok hl1;have hs2:=p2.suf.trans hsk;cases hcm:A0 x cm ((tG l).map er) with
   |none=>
    rw[hcm] at m2';obtain⟨r,hr1,hr2⟩:=aGQ (c:=c) (en:=en) (ids:=ids) (mm:=mm) hl2 (a:=a2) m2' x.1 x.2.1 x.2.2.1 x.2.2.2 cs fd;exact⟨r,by rw[w4 hst];exact hr1,hr2.trans hs2⟩
   |some cr=>
    obtain⟨cs',r'⟩:=cr;rw[hcm] at m2';obtain⟨k1,k2,k3,k4⟩:=m2';subst k1 k3;have hcs:cs.length<=20:=by
     unfold A0 at hcm;split at hcm
     .rename_i hh;obtain⟨q,_,hq⟩:=aRn.1 hcm;have:=aRx Prod.fst hq;dsimp only at this;rw[<-this,aRg];simp only[aRj,aRq];have:=hh.2.2;omega
     .cases hcm
    obtain⟨r,hr1,hr2⟩:=a8C hen n l2 a2 x.1 x.2.1 x.2.2.1 x.2.2.2 cs fd pF hl2 (p2.suf.cont hc1) hcs hb2;refine⟨r,by rw[w4 hst];exact hr1,?_⟩;rw[k2] at hr2;dsimp only;cases hin:w9 (n+1) (cs,fd) r' with
    |none=>rw[hin] at hr2;exact hr2.trans hs2
    |some w=>
     rw[hin] at hr2;obtain⟨l',a',q1,q2,q3,q4⟩:=hr2;exact⟨l',a',q1,q2,q3.trans hs2,pF⟩
  .rw[aRk hkc];by_cases hkf:x.2.1=xW/\x.1≠3
   .rw[aRf hkf];obtain⟨l2,a2,e2,fs,h2,p2,m2⟩:=aGF hl1 a 0 (rV .str .str mm w7,(c.2.1,(c.2.2.1,(c.2.2.2.1,())))) (en.1,()) ids x (([]:pC),(([]:pC),(([]:pC),(cm,(([]:pD),((0:Int),(fd,()))))))) (hhd (by rw[hkf.1];decide)) hxl (by dsimp only;omega);have hst:CU c en ids mm (l,a,0,f,nm,at',tw,cm,fd)=some (.inl (l2,a2,e2,x.1,x.2.1,x.2.2.1,x.2.2.2,cm,fs)):=by
     unfold CU;dsimp only;rw[aRf pG,BW hl,aRe,aRf rfl,BX hl1,aRe,aRf rfl,hx,aRk (by simpa using hkc),aRf (by simpa using hkf),h2,aRe]
    have m2':=m2 rfl;dsimp only at m2';have hl2:=p2.suf.ok hl1;have hs2:=p2.suf.trans hsk;cases hcm:A1 x fd ((tG l).map er) with
    |none=>
     rw[hcm] at m2';obtain⟨r,hr1,hr2⟩:=aGQ (c:=c) (en:=en) (ids:=ids) (mm:=mm) hl2 (a:=a2) m2' x.1 x.2.1 x.2.2.1 x.2.2.2 cm fs;exact⟨r,by rw[w4 hst];exact hr1,hr2.trans hs2⟩
    |some cr=>
     obtain⟨fs',r'⟩:=cr;rw[hcm] at m2';obtain⟨k1,k2,k3,k4⟩:=m2';subst k1 k3;have hcs:fs.length<=20:=by
      unfold A1 at hcm;split at hcm
      .rename_i hh;obtain⟨q,_,hq⟩:=aRn.1 hcm;have:=aRx Prod.fst hq;dsimp only at this;rw[<-this];have h3:=aFJ fd (s0 x.2.2.1 vD) q.1;have:=hh.2.2.2.2;omega
      .cases hcm
     obtain⟨r,hr1,hr2⟩:=a8C hen n l2 a2 x.1 x.2.1 x.2.2.1 x.2.2.2 cm fs pF hl2 (p2.suf.cont hc1) hb1 hcs;refine⟨r,by rw[w4 hst];exact hr1,?_⟩;rw[k2] at hr2;dsimp only;cases hin:w9 (n+1) (cm,fs) r' with
     |none=>rw[hin] at hr2;exact hr2.trans hs2
     |some w=>
      rw[hin] at hr2;obtain⟨l',a',q1,q2,q3,q4⟩:=hr2;exact⟨l',a',q1,q2,q3.trans hs2,pF⟩
   .rw[aRk hkf];obtain⟨v1,v2⟩:=OM x [] [] hxl pG pG pG pG (by rw[ON];decide) (by rw[OO];decide);rw[ON,OO,a8A] at v1 v2;obtain⟨o,ho⟩: ∃o:Bool,o=decide (x.2.2.1=[]):=⟨_,rfl⟩;have hck:=G1 (l:=tG l) a 0 (((!decide (x.1=(1:Int)))||(!decide (x.2.1=xX)))||(!o)) x.2.2.2 false
    generalize hq:zZ (tG l) a 0 (((!decide (x.1=(1:Int)))||(!decide (x.2.1=xX)))||(!o)) x.2.2.2 false=q at hck
    obtain⟨a1,e1⟩:=q;dsimp only at hck;have hst:CU c en ids mm (l,a,0,f,nm,at',tw,cm,fd)=some (.inr (.inr (wR (tG l) e1,a1,e1,rV .str .str mm w7,cm,fd,en.1++[(qU (.pair (.int .i64) (.pair .str (.pair (.int .i64) .unit))) (tG l) 0).2.2.1+((qU (.pair (.int .i64) (.pair .str (.pair (.int .i64) .unit))) (tG l) 0).2.1.length:Int)]))):=by
     unfold CU;dsimp only;rw[aRf pG,BW hl,aRe,aRf rfl,BX hl1,aRe,aRf rfl,hx,aRk (by simpa using hkc),aRk (by simpa using hkf)];cases o with
     |true=>
      rw[<-ho,aRf rfl] at v1;simp only[Bool.not_true,Bool.or_false] at hq;rw[v1,aRf pU,aRe,BV hl1,hq,aRe];dsimp only;rw[ET hl1,aRe,aRf (by simp only[aRj,aRq];omega)]
     |false=>
      rw[<-ho,aRk pG] at v1;simp only[Bool.not_false] at hq;rw[v1,aRk pG,v2 ho.symm,aRe,BV hl1,hq,aRe];dsimp only;rw[ET hl1,aRe,aRf (by simp only[aRj,aRq];omega)]
    refine⟨_,vM hst,?_⟩;have hs2:=(JG hl1 e1).trans hsk;by_cases hok:x.1=1/\x.2.1=xX/\x.2.2.1=[]/\x.2.2.2=false
    .rw[aRf hok];have he1:e1=0:=hck.2 ⟨rfl,by rw[ho,aRF hok.1,aRF hok.2.1,aRF hok.2.2.1];rfl,hok.2.2.2,rfl⟩;subst he1;obtain⟨t,r,hlr,ht⟩:=hhd (by rw[hok.2.1];decide) rfl;rw[hlr] at hl1 hc1 hs2 hle1|-;have hmore:=hl1.more (.inl ht);have hs1:wR (t::r) 0=r:=by
      unfold wR;rw[aRf ⟨rfl,hmore⟩];rfl
     have hr:r≠[]:=by rintro rfl;simp at hmore
     rw[hs1] at hs2|-;refine⟨r,a1,?_,rfl,hs2,by simp only[aRj] at hle1;omega⟩;rw[JF,a8B hc1 hr]
    .rw[aRk hok];refine⟨_,_,_,hs2,fun h0=>hok ?_,.inr ⟨_,rfl⟩⟩;obtain⟨_,k1,k2,_⟩:=hck.1 h0;rw[ho] at k1;simp only[aR3,aSw,aRG] at k1;exact⟨k1.1.1,k1.1.2,k1.2,k2⟩
end
abbrev c0:sV:=(([]:pC),(([]:pD),(([]:List r6),(([]:List sF),()))))
theorem aNy {l:List t6}(hl:wH l) (hcn:B7 l): ∃l' a' e' tag cms fds en',BQ l 0 0 c0 ([],()) []=some (l',a',e',tag,cms,fds,en')/\uH l' l/\(match EW (l.map er) with
  |some (tg,st,q)=>e'=0/\l'.map er=q/\tag=tg/\cms=st.1/\fds=st.2/\en'=[EV l']/\l'.length<l.length
  |none=>e'≠0):=by
 have hsk:=JI hl;have hl1:=hsk.ok hl;have hc1:=hsk.cont hcn;have hle1:=hsk.le;have her:=OK l;have hxl:=XQ hl1;unfold EW BQ;rw[BW hl,aRe,aRf rfl,BX hl1,aRe,aRf rfl,<-her];generalize hx:rD ((tG l).map er)=x at hxl;obtain⟨v1,v2⟩:=OM x w7 [] hxl pG pG pG pG (by rw[aGM];decide) (by rw[aGN];decide);rw[aGM,aGN] at v1 v2;by_cases h:xE x.2.2.1 [w7] [w7]=true
 .rw[h,aRf rfl] at v1;rw[v1,aRf pU,aRe,aGP hxl (.inl rfl)];unfold sJ;rw[aRe,BV hl1,aRe];have hck:=G1 (l:=tG l) 0 0 (((!decide (x.1=(1:Int)))||(!decide (x.2.1=yS)))||(!(x.2.2.1.all fun a=>xC a.2.1))) x.2.2.2 false
  dsimp only;generalize zZ (tG l) 0 0 (((!decide (x.1=(1:Int)))||(!decide (x.2.1=yS)))||(!(x.2.2.1.all fun a=>xC a.2.1))) x.2.2.2 false=q at hck|-
  obtain⟨a1,e1⟩:=q;dsimp only at hck|-;rw[ET hl1,aRe];have hs1:=JG hl1 e1;have hl2:=hs1.ok hl1;by_cases he1:e1=0
  .subst he1;obtain⟨_,k1,k2,_⟩:=hck.1 rfl;simp only[aR3,aSw,aRG] at k1;rw[aRf ⟨k1.1.1,k1.1.2,h,k1.2,k2⟩];obtain⟨t,r,hlr,ht⟩:=aGO hl1 hx (by rw[k1.1.2];decide);have hmore:1<(t::r).length:=by rw[hlr] at hl1;exact hl1.more (.inl ht)
   have hst:wR (tG l) 0=r:=by
    unfold wR;rw[hlr,aRf ⟨rfl,hmore⟩];rfl
   rw[hst] at hs1 hl2|-;obtain⟨w,hw1,hw2⟩:=a8C (c:=c0) (en:=([],())) (ids:=[]) (mm:=G2 x.2.2.1) pH r.length r a1 x.1 x.2.1 x.2.2.1 x.2.2.2 [] [] (aRE _) hl2 (hs1.cont hc1) pH pH;have hlen:((tG l).map er).length=r.length+1:=by rw[hlr];simp
   have hdr:((tG l).map er).drop 1=r.map er:=by rw[hlr];rfl
   rw[hlen,hdr,hw1];cases hin:w9 (r.length+1) ([],[]) (r.map er) with
   |none=>
    rw[hin] at hw2;obtain⟨l',a',e',q1,q2,q3|⟨z,q3⟩⟩:=hw2
    .subst q3;exact⟨_,_,_,_,_,_,_,rfl,(q1.trans hs1).trans hsk,q2⟩
    .subst q3;obtain⟨z1,z2,z3,z4⟩:=z;exact⟨_,_,_,_,_,_,_,rfl,(q1.trans hs1).trans hsk,q2⟩
   |some v=>
    obtain⟨st,q⟩:=v;rw[hin] at hw2;obtain⟨l',a',q1,q2,q3,q4⟩:=hw2;subst q1;refine⟨_,_,_,_,_,_,_,rfl,(q3.trans hs1).trans hsk,rfl,q2,SP _ _,rfl,rfl,rfl,?_⟩;have:=hs1.le;omega
  .have hst:CU c0 ([],()) [] (G2 x.2.2.1) (wR (tG l) e1,a1,e1,x.1,x.2.1,x.2.2.1,x.2.2.2,[],[])=some (.inr (.inl (wR (tG l) e1,a1,e1))):=by
    unfold CU;dsimp only;rw[aRk (by simpa using he1)]
   rw[vM hst,aRk]
   .exact⟨_,_,_,_,_,_,_,rfl,hs1.trans hsk,he1⟩
   .rintro⟨k1,k2,_,k4,k5⟩;exact he1 (hck.2 ⟨rfl,by rw[aRF k1,aRF k2,k4];rfl,k5,rfl⟩)
 .have h':xE x.2.2.1 [w7] [w7]=false:=by simpa using h
  rw[h',aRk pG] at v1;rw[v1,aRk pG,v2 h',aRe,aGP hxl (.inr rfl)];unfold sJ;rw[aRe,BV hl1,aRe];have hck:=G1 (l:=tG l) 0 0 ((((!decide (x.1=(1:Int)))||(!decide (x.2.1=yS)))||true)||(!(x.2.2.1.all fun a=>xC a.2.1))) x.2.2.2 false
  dsimp only;generalize zZ (tG l) 0 0 ((((!decide (x.1=(1:Int)))||(!decide (x.2.1=yS)))||true)||(!(x.2.2.1.all fun a=>xC a.2.1))) x.2.2.2 false=q at hck|-
  obtain⟨a1,e1⟩:=q;dsimp only at hck|-;have he1:e1≠0:=fun h0=>by
   have:=(hck.1 h0).2.1;simp at this
  rw[ET hl1,aRe];have hst:XB c0 ([],()) [] (wR (tG l) e1,a1,e1,x.1,x.2.1,x.2.2.1,x.2.2.2,[],[])=some (.inr (.inl (wR (tG l) e1,a1,e1))):=by
   unfold XB;dsimp only;rw[aRk (by simpa using he1)]
  rw[vM hst,aRk (fun hh=>h hh.2.2.1)];exact⟨_,_,_,_,_,_,_,rfl,(JG hl1 e1).trans hsk,he1⟩
end
noncomputable section
def HO:Nat→pC→List TE
  |0,_=>[]
  |n+1,s=>if s=[] then[(4,[])] else rX s::(if (rX s).1=0 then[] else HO n (s.drop (rX s).2.length))
def tT (s:pC):List TE:=HO (s.length+1) s
theorem aGR (s:pC): ∀(n i:Nat),(wY s n i).map er=HO n (s.drop i)
  |0,i=>rfl
  | n+1,i=>by
    unfold wY HO;by_cases h:i<s.length
    · have hne:s.drop i≠[]:=by
        intro e;have:=aRx List.length e;rw[aRA,aRq] at this;omega
      rw[aRf h,aRk hne,aSi];show rX (s.drop i)::_=_;congr 1;split
      .rfl
      .rw[aGR s n,aSX]
    · have hnil:s.drop i=[]:=List.drop_eq_nil_of_le pF
      rw[aRk h,aRf hnil];rfl
theorem aGS (s:pC):(vS s).map er=tT s:=by
  have:=aGR s (s.length+1) 0;rw[aSH] at this;exact this
theorem OQ {s:pC}(hs:s≠[]):(rX s).2.length≤s.length∧((rX s).1≠0→0<(rX s).2.length)∧((rX s).1=2→2≤(rX s).2.length)∧((rX s).1=0∨(rX s).1=1∨(rX s).1=2∨(rX s).1=3):=by
  have hle:=a17 s hs;have hpos:0<s.length:=aRL.2 hs;unfold rX;split
  .exact⟨by simp,fun h=>absurd rfl h,fun h=>by simp at h,.inl rfl⟩
  · rename_i h0
    rw[aRD];refine⟨pF,fun _=>by omega,fun h2=> ?_,?_⟩
    · dsimp only at h2|-
      have hfn:(vR s).2=AX s+1∧s.head? =some 60:=by
        unfold vR at h2 h0|-;split at h2
        .simp at h2
        · rename_i hn
          rw[aRk hn] at h0|-;split at h2
          · rename_i h60
            rw[aRf h60] at h0|-;dsimp only at h0|-;split at h0
            .exact absurd pG h0
            · rename_i hz
              rw[aRk hz];exact⟨rfl,h60⟩
          .simp at h2
      have hc:AX s≠0:=by
        cases s with
        |nil=>exact absurd rfl hs
        | cons b r=>
          have hb:b=60:=by simpa using hfn.2
          subst hb;unfold AX clo;rw[aRk pG,aRk pG];cases clo false r with
          |none=>decide
          |some k=>show ((k+1:Nat):Int)≠0;omega
      have:=a16 s;rw[hfn.1];rw[hfn.1] at h0;omega
    · unfold vR
      split
      .exact .inr (.inl rfl)
      · split
        .exact .inr (.inr (.inl rfl))
        .exact .inr (.inr (.inr rfl))
theorem a8D {s:pC}{n i:Nat}(hn:s.length<n+i) (hi:i≤s.length): ∃t r,wY s n i=t::r∧t.2.2.1=(i:Int):=by
  cases n with
  |zero=>omega
  | succ n=>
    unfold wY;split
    .exact⟨_,_,rfl,rfl⟩
    .exact⟨_,_,rfl,by show (s.length:Int)=i;omega⟩
theorem a8E (s:pC) (hs:s.length≤900000000): ∀(n i:Nat),s.length<n+i→i≤s.length→
    (∀t∈wY s n i,t.2.1.length≤s.length∧(i:Int)≤t.2.2.1∧t.2.2.1≤s.length∧(t.1=2→2≤t.2.1.length))∧(∀t,(wY s n i).getLast? =some t→t.1=0∨t.1=4)∧(wY s n i).length≤s.length-i+1∧B7 (wY s n i)
  |0,i,hn,hi=>by omega
  | n+1,i,hn,hi=>by
    by_cases h:i<s.length
    · have hne:s.drop i≠[]:=by
        intro e;have:=aRx List.length e;rw[aRA,aRq] at this;omega
      obtain⟨f1,f2,f3,f4⟩:=OQ hne;rw[aRA] at f1;have hu:wY s (n+1) i=((rX (s.drop i)).1,(rX (s.drop i)).2,(i:Int),())::(if (rX (s.drop i)).1=0 then[] else wY s n (i+(rX (s.drop i)).2.length)):=by rw[wY,aRf h]
      rw[hu];by_cases h0:(rX (s.drop i)).1=0
      · rw[aRf h0]
        refine⟨fun t ht=> ?_,fun t ht=> ?_,by simp,fun j hj=>by simp at hj⟩
        · rw[aRv.1 ht]
          exact⟨by dsimp only;omega,by dsimp only;omega,by dsimp only;omega,fun h2=>f3 h2⟩
        · left
          simp only[List.getLast?_singleton,aRd] at ht;rw[←ht];exact h0
      · rw[aRk h0]
        have hp:=f2 h0;obtain⟨g1,g2,g3,g4⟩:=a8E s hs n (i+(rX (s.drop i)).2.length) pF pF;obtain⟨t0,r0,e0,e1⟩:=a8D (s:=s) (n:=n) (i:=i+(rX (s.drop i)).2.length) pF pF;refine⟨fun t ht=> ?_,fun t ht=> ?_,?_,fun j hj=> ?_⟩
        · rcases aRu.1 ht with rfl|ht
          .exact⟨by dsimp only;omega,by dsimp only;omega,by dsimp only;omega,fun h2=>f3 h2⟩
          · obtain⟨k1,k2,k3,k4⟩:=g1 t ht
            exact⟨k1,pF,k3,k4⟩
        · rw[e0] at ht g2
          rw[List.getLast?_cons_cons] at ht;exact g2 t ht
        .simp only[aRj];omega
        · cases j with
          | zero=>
            simp only[e0,List.getElem_cons_zero,List.getElem_cons_succ];rw[e1];simp
          | succ j=>
            simp only[aRj] at hj;simp only[List.getElem_cons_succ];exact g4 j pF
    · have hi':i=s.length:=by omega
      have hu:wY s (n+1) i=[(4,[],(s.length:Int),())]:=by rw[wY,aRk h]
      rw[hu];refine⟨fun t ht=> ?_,fun t ht=> ?_,by simp,fun j hj=>by simp at hj⟩
      · rw[aRv.1 ht]
        exact⟨by simp,by show (i:Int)≤s.length;omega,aSz _,fun h2=>by simp at h2⟩
      · right
        simp only[List.getLast?_singleton,aRd] at ht;rw[←ht]
theorem aGT {s:pC}(hs:s.length≤900000000):wH (vS s)∧B7 (vS s):=by
  obtain⟨g1,g2,g3,g4⟩:=a8E s hs (s.length+1) 0 pF (aSo _);obtain⟨t,r,e,_⟩:=a8D (s:=s) (n:=s.length+1) (i:=0) pF (aSo _);refine⟨⟨?_,fun t ht=> ?_,fun t ht=> ?_,fun t ht=>(g1 t ht).2.2.2,g2,?_⟩,g4⟩
  · show wY s (s.length+1) 0≠[]
    rw[e];simp
  .have:=(g1 t ht).1;omega
  · obtain⟨_,h2,h3,_⟩:=g1 t ht
    exact⟨h2,pF⟩
  · show (wY s (s.length+1) 0).length≤_
    omega
theorem aNz {s:pC}(hs:s.length≤900000000):Gs.slices_Collect_elements_token_elements_tokensF1 s=some (vS s):=by
  obtain⟨_,_,g3,_⟩:=a8E s hs (s.length+1) 0 pF (aSo _)
  have go: ∀(l b:List t6),(b.length+l.length)*32≤140737488355328→zC (Gs.slices_AppendSeq_elements_token_elements_tokensF1_step1) l b=some (.inl (b++l)):=by
    intro l
    induction l with
    |nil=>intro b _;simp [zC]
    | cons t l ih=>
      intro b hb;simp only[aRj] at hb;unfold zC
      have:Gs.slices_AppendSeq_elements_token_elements_tokensF1_step1 t b=some (.inl (b++[t])):=by
        unfold Gs.slices_AppendSeq_elements_token_elements_tokensF1_step1;rw[aRf (by simp only[aRj,aRq];omega)]
      rw[this,aRe];show zC _ l (b++[t])=_;rw[ih (b++[t]) (by rw[aRg];simp only[aRj,aRq];omega)];simp
  unfold Gs.slices_Collect_elements_token_elements_tokensF1 Gs.slices_AppendSeq_elements_token_elements_tokensF1;rw[aRf pF,go (vS s) [] (by show (0+(wY s (s.length+1) 0).length)*32≤_;omega)];rfl
def EX:Nat→List sF→pP→List TE→Option (List sF×pP×List TE)
  |0,_,_,_=>none
  | n+1,es,ks,L=>if (rD (qZ L)).1=3 then some (es,ks,qZ L) else
    match xY es (rD (qZ L)) (qZ L) with
    |some (y,r)=>EX n (es++[y]) (ks++[r.length]) r
    |none=>none
def CW (L:List TE):Option (sV×pP):=
  match EW L with
  |none=>none
  | some (tag,st,r)=>match EX (r.length+1) [] [r.length] r with
    |none=>none
    | some (es,ks,r1)=>match uN xX r1 with
      |none=>none
      | some r2=>match uN yS (qZ r2) with
        |none=>none
        |some r3=>if (qZ r3).head?.map (·.1)=some 4 then some ((tag,(st.1,(st.2,(es,())))),ks) else none
def z8 (T:List t6) (k:Nat):Int:=EV (T.drop (T.length-k))
theorem aGU {T l:List t6}(h:uH l T):z8 T l.length=EV l:=by
  obtain⟨k,hk,rfl⟩:=h;unfold z8;rw[aRA,show T.length- (T.length-k)=k by omega]
theorem aNA {es:List sF}{x:xN}{L:List TE}{y:sF}{r:List TE}(h:xY es x L=some (y,r)):es.length≠1000:=by
  unfold xY at h;split at h
  .rename_i hh;exact hh.2.2.2.2.2.2.2.2
  .cases h
section
variable {T:List t6}(hT:wH T) (hTc:B7 T) {rr:(List s9)×Int×Int×pC×pD×(List r6)×pL}
include hT hTc
theorem aGV: ∀(n:Nat) (l:List t6) (a:Int) (es:List sF) (ks:pP) (ids:pJ),l.length≤n→uH l T→es.length≤1000→ks.length=es.length+1→LW ids es→
    ∃ l' a' e' es' en' ids',rU (EN rr) (l,a,0,es,ks.map (z8 T),ids)=some (l',a',e',es',en',ids')∧uH l' T∧(match EX (n+1) es ks (l.map er) with
      |some (es2,ks2,q)=>e'=0∧es'=es2∧en'=ks2.map (z8 T)∧l'.map er=q
      |none=>e'≠0)
  | n,l,a,es,ks,ids,hn,hsT,he,hk,hid=>by
    have hl:=hsT.ok hT;have hcn:=hsT.cont hTc;have hsk:=JI hl;have hl1:=hsk.ok hl;have hc1:=hsk.cont hcn;have hle1:=hsk.le;have her:=OK l;have hnp:0<l.length:=aRL.2 hl.ne;obtain⟨n,rfl⟩: ∃k,n=k+1:=⟨n-1,pF⟩;unfold EX;rw[←her];by_cases h3:(rD ((tG l).map er)).1=3
    · have hst:EN rr (l,a,0,es,ks.map (z8 T),ids)=some (.inr (tG l,a,0,es,ks.map (z8 T),ids)):=by
        unfold EN;dsimp only;rw[aRf pG,BW hl,aRe,aRf rfl,BX hl1,aRe,aRf rfl,aRf (aRF h3)]
      rw[aRf h3];exact⟨_,_,_,_,_,_,vM hst,hsk.trans hsT,rfl,rfl,rfl,rfl⟩
    · obtain⟨l2,a2,e2,es2,en2,ids2,h2,s2,m2⟩:=aNx hl1 hc1 a (rr.2.2.2.1,(rr.2.2.2.2.1,(rr.2.2.2.2.2.1,(es,())))) (ks.map (z8 T),()) ids hid he (by dsimp only;rw[aR6];omega)
      have hst:EN rr (l,a,0,es,ks.map (z8 T),ids)=some (.inl (l2,a2,e2,es2,en2,ids2)):=by
        unfold EN;dsimp only;rw[aRf pG,BW hl,aRe,aRf rfl,BX hl1,aRe,aRf rfl,aRk (by simpa using h3),h2,aRe]
      have hs2:=(s2.trans hsk).trans hsT;rw[aRk h3];cases hx:xY es (rD ((tG l).map er)) ((tG l).map er) with
      | none=>
        rw[hx] at m2;dsimp only at m2
        have hst2:EN rr (l2,a2,e2,es2,en2,ids2)=some (.inr (l2,a2,e2,es2,en2,ids2)):=by
          unfold EN;dsimp only;rw[aRk (by simpa using m2)]
        exact⟨_,_,_,_,_,_,by rw[w4 hst,vM hst2],hs2,m2⟩
      | some v=>
        obtain⟨y,r⟩:=v;rw[hx] at m2;obtain⟨k1,k2,k3,k4,k5,k6⟩:=m2;dsimp only at k3 k4|-;subst k1 k3;have hlen:r.length=l2.length:=by rw[←k2,aR6]
        have hen:en2=(ks++[r.length]).map (z8 T):=by
          rw[k4,List.map_append,hlen];show _=_++[z8 T l2.length];rw[aGU hs2]
        subst hen;have h1000:=aNA hx;obtain⟨l',a',e',es',en',ids',q1,q2,q3⟩:=aGV n l2 a2 (es++[y]) (ks++[r.length]) ids2 pF hs2 (by rw[aRg];simp only[aRj,aRq];omega) (by rw[aRg,aRg,hk];rfl) k5;rw[k2] at q3;exact⟨l',a',e',es',en',ids',by rw[w4 hst];exact q1,q2,q3⟩
end
theorem aNB {l:List t6}(hl:wH l):((qZ (l.map er)).head?.map (·.1)=some 4)↔(qU (.pair (.int .i64) (.pair .str (.pair (.int .i64) .unit))) (tG l) 0).1=4:=by
  obtain⟨t,r,h⟩:=((JI hl).ok hl).head;rw[←OK,h];show (some t.1=some 4)↔t.1=4;simp
def HP (L:List TE):Bool:=match uN xX L with
  |none=>false
  | some r2=>match uN yS (qZ r2) with
    |none=>false
    |some r3=>decide ((qZ r3).head?.map (·.1)=some 4)
theorem a8F {L:List TE}(h:uN xX L=none):HP L=false:=by unfold HP;rw[h]
theorem a8G {L r2:List TE}(h:uN xX L=some r2) (h2:uN yS (qZ r2)=none):HP L=false:=by
  unfold HP;rw[h];dsimp only;rw[h2]
theorem XR {L r2 r3:List TE}(h:uN xX L=some r2) (h2:uN yS (qZ r2)=some r3):HP L=decide ((qZ r3).head?.map (·.1)=some 4):=by
  unfold HP;rw[h];dsimp only;rw[h2]
theorem aGW {s:pC}(hs:s.length≤900000000): ∃r,yO s=some r∧(match CW (tT s) with
    |some (c,ks)=>r.2.2.1=0∧(r.2.2.2.1,(r.2.2.2.2.1,(r.2.2.2.2.2.1,(r.2.2.2.2.2.2.1,()))))=c∧r.2.2.2.2.2.2.2.1=ks.map (z8 (vS s))
    |none=>r.2.2.1≠0):=by
  obtain⟨hT,hTc⟩:=aGT hs;obtain⟨l1,a1,e1,tag,cms,fds,en1,h1,s1,m1⟩:=aNy hT hTc;unfold yO;rw[aNz hs,aRe,h1,aRe];rw[aGS] at m1;unfold CW;have hl1:=s1.ok hT;dsimp only
  have tail: ∀(l:List t6) (a e:Int) (es:List sF) (en:pL) (ids:pJ),uH l (vS s)→∃r:((List s9)×Int×Int×pC×pD×(List r6)×(List sF)×pL×pJ),
      ((B2 l a e (tag,(cms,(fds,(es,())))) (en,()) ([101,110,116,114,105,101,115]:pC) ids).bind fun O=>
 sJ (σ:=(List s9)) (
   if (decide (O.2.2=(0:Int)))=true then
    (zV O.1 O.2.1 O.2.2 (tag,(cms,(fds,(es,())))) (en,()) ids).bind fun Z=>
    some (Z)
   else
    some (O.1)
  ) fun aA=>
 (B2 aA O.2.1 O.2.2 (tag,(cms,(fds,(es,())))) (en,()) ([99,97,116,97,108,111,103]:pC) ids).bind fun aB=>
 sJ (σ:=(List s9)) (
   if (decide (aB.2.2=(0:Int)))=true then
    (zV aB.1 aB.2.1 aB.2.2 (tag,(cms,(fds,(es,())))) (en,()) ids).bind fun aC=>
    some (aC)
   else
    some (aB.1)
  ) fun aD=>
 if 0≤(0:Int)∧(0:Int)<(List.length aD:Int) then
  if (!decide ((qU (.pair (.int .i64) (.pair .str (.pair (.int .i64) .unit))) aD (0:Int)).1=(4:Int)))=true then
   (zD aD aB.2.1 aB.2.2 (tag,(cms,(fds,(es,())))) (en,()) (3:Int) ids).bind fun aE=>
   some ((aD,aE.1,aE.2,tag,cms,fds,es,en,ids))
  else
   some ((aD,aB.2.1,aB.2.2,tag,cms,fds,es,en,ids))
 else none)=some r∧(e≠0→r.2.2.1≠0)∧(r.2.2.2.1,(r.2.2.2.2.1,(r.2.2.2.2.2.1,(r.2.2.2.2.2.2.1,()))))=(tag,(cms,(fds,(es,()))))∧r.2.2.2.2.2.2.2.1=en∧
      (e=0→if HP (l.map er)=true then r.2.2.1=0 else r.2.2.1≠0):=by
    intro l a e es en ids hls;have hl:=hls.ok hT;obtain⟨l2,a2,e2,h2,p2,m2⟩:=OL hl a e (tag,(cms,(fds,(es,())))) (en,()) ids xX;have hl2:=p2.suf.ok hl;rw[h2,aRe];dsimp only
    obtain⟨l3,h3,s3,m3⟩: ∃l3:List t6,(if (decide (e2=(0:Int)))=true then
      (zV l2 a2 e2 (tag,(cms,(fds,(es,())))) (en,()) ids).bind fun Z=>some (Z)
     else some l2)=some l3∧uH l3 l2∧(e2=0→l3=tG l2):=by
      by_cases h0:e2=0
      · rw[aRf (aRF h0),BW hl2,aRf h0]
        exact⟨_,rfl,JI hl2,fun _=>rfl⟩
      · rw[aRk (by simpa using h0)]
        exact⟨_,rfl,uH.refl hl2,fun h=>absurd h h0⟩
    unfold sJ;rw[h3,aRe];have hl3:=s3.ok hl2;obtain⟨l4,a4,e4,h4,p4,m4⟩:=OL hl3 a2 e2 (tag,(cms,(fds,(es,())))) (en,()) ids yS;have hl4:=p4.suf.ok hl3;rw[h4,aRe];dsimp only
    obtain⟨l5,h5,s5,m5⟩: ∃l5:List t6,(if (decide (e4=(0:Int)))=true then
      (zV l4 a4 e4 (tag,(cms,(fds,(es,())))) (en,()) ids).bind fun aC=>some (aC)
     else some l4)=some l5∧uH l5 l4∧(e4=0→l5=tG l4):=by
      by_cases h0:e4=0
      · rw[aRf (aRF h0),BW hl4,aRf h0]
        exact⟨_,rfl,JI hl4,fun _=>rfl⟩
      · rw[aRk (by simpa using h0)]
        exact⟨_,rfl,uH.refl hl4,fun h=>absurd h h0⟩
    rw[h5,aRe];have hl5:=s5.ok hl4;have hpos5:0≤(0:Int)∧(0:Int)<(l5.length:Int):=⟨aSz _,by have:=aRL.2 hl5.ne;omega⟩;rw[aRf hpos5];obtain⟨q,hq1,hq2,hq3⟩: ∃q:Int×Int,(if (!decide ((qU (.pair (.int .i64) (.pair .str (.pair (.int .i64) .unit))) l5 (0:Int)).1=(4:Int)))=true then
   (zD l5 a4 e4 (tag,(cms,(fds,(es,())))) (en,()) (3:Int) ids).bind fun aE=>
   some ((l5,aE.1,aE.2,tag,cms,fds,es,en,ids))
  else
   some ((l5,a4,e4,tag,cms,fds,es,en,ids)))=some (l5,q.1,q.2,tag,cms,fds,es,en,ids)∧(e4≠0→q.2≠0)∧(e4=0→if (qU (.pair (.int .i64) (.pair .str (.pair (.int .i64) .unit))) l5 0).1=4 then q.2=0 else q.2≠0):=by
      by_cases h44:(qU (.pair (.int .i64) (.pair .str (.pair (.int .i64) .unit))) l5 0).1=4
      · rw[aRk (by simp [h44])]
        exact⟨(a4,e4),rfl,id,fun h=>by rw[aRf h44];exact h⟩
      · rw[aRf (by simpa using h44),JH hl5]
        exact⟨DJ l5 a4 e4 3,rfl,fun _=>G0 _ _ pG,fun _=>by rw[aRk h44];exact G0 _ _ pG⟩
    rw[hq1];refine⟨_,rfl,fun he=>hq2 (p4.bad (p2.bad he)),rfl,rfl,fun he=> ?_⟩;have m2':=m2 he;cases hn1:uN xX (l.map er) with
    | none=>
      rw[hn1] at m2';rw[a8F hn1,aRk pG];exact hq2 (p4.bad m2')
    | some r2=>
      rw[hn1] at m2';obtain⟨k1,k2⟩:=m2';have m4':=m4 k1;rw[m3 k1,OK,k2] at m4';cases hn2:uN yS (qZ r2) with
      | none=>
        rw[hn2] at m4';rw[a8G hn1 hn2,aRk pG];exact hq2 m4'
      | some r3=>
        rw[hn2] at m4';obtain⟨j1,j2⟩:=m4';have hq3':=hq3 j1;rw[m5 j1] at hq3';have h44:=aNB hl4;rw[j2] at h44;rw[XR hn1 hn2];by_cases hd:(qZ r3).head?.map (·.1)=some 4
        · rw[aRf (aRF hd)]
          rw[aRf (h44.1 hd)] at hq3';exact hq3'
        · rw[aRk (by simpa using hd)]
          rw[aRk (fun h=>hd (h44.2 h))] at hq3';exact hq3'
  cases hh:EW (tT s) with
  | none=>
    rw[hh] at m1;dsimp only at m1
    have hst:EN (l1,a1,e1,tag,cms,fds,en1) (l1,a1,e1,[],en1,[])=some (.inr (l1,a1,e1,[],en1,[])):=by
      unfold EN;dsimp only;rw[aRk (by simpa using m1)]
    rw[vM hst];obtain⟨r,t1,t2,_⟩:=tail l1 a1 e1 [] en1 [] s1;refine⟨r,?_,t2 m1⟩;unfold sJ at t1|-;rw[aRe];exact t1
  | some v=>
    obtain⟨tg,st,q⟩:=v;rw[hh] at m1;obtain⟨k1,k2,k3,k4,k5,k6,k7⟩:=m1;dsimp only;subst k1 k3 k4 k5;have hqlen:q.length=l1.length:=by rw[←k2,aR6]
    have hen:en1=[q.length].map (z8 (vS s)):=by
      rw[k6,hqlen];show _=[z8 (vS s) l1.length];rw[aGU s1]
    subst hen;obtain⟨l',a',e',es',en',ids',q1,q2,q3⟩:=aGV hT hTc (rr:=(l1,a1,0,tag,st.1,st.2,[q.length].map (z8 (vS s)))) l1.length l1 a1 [] [q.length] [] (aRE _) s1 pH rfl (fun x=>by rfl);rw[q1];obtain⟨r,t1,t2,t3,t4,t5⟩:=tail l' a' e' es' en' ids' q2;refine⟨r,?_,?_⟩
    · unfold sJ at t1|-
      rw[aRe];exact t1
    · rw[k2] at q3
      rw[hqlen];rw[hqlen] at q3;cases hen:EX (l1.length+1) [] [l1.length] q with
      | none=>
        rw[hen] at q3;exact t2 q3
      | some w=>
        obtain⟨es2,ks2,r1⟩:=w;rw[hen] at q3;obtain⟨j1,j2,j3,j4⟩:=q3;have t5':=t5 j1;rw[j4] at t5';dsimp only;subst j2 j3;cases hn1:uN xX r1 with
        |none=>rw[a8F hn1,aRk pG] at t5';exact t5'
        | some r2=>
          dsimp only;cases hn2:uN yS (qZ r2) with
          |none=>rw[a8G hn1 hn2,aRk pG] at t5';exact t5'
          | some r3=>
            rw[XR hn1 hn2] at t5';dsimp only;by_cases hd:(qZ r3).head?.map (·.1)=some 4
            · rw[aRf (aRF hd)] at t5'
              rw[aRf hd];exact⟨t5',t3,t4⟩
            · rw[aRk (by simpa using hd)] at t5'
              rw[aRk hd];exact t5'
end
noncomputable section
theorem M3 {l:pC}(h:l.length<=6000):sH l:=by unfold sH;omega
theorem a8H {l:pD}(h:FY l):sH l/\∀y∈l,sH y:=⟨by have:=h.1;unfold sH;omega,fun y hy=>M3 (h.2 y hy)⟩
theorem aGX {l:List rZ}(h:LX l):sH l/\∀y∈l,XH y:=⟨by have:=h.1;unfold sH;omega,fun y hy=>⟨M3 (h.2 y hy).1,M3 (h.2 y hy).2⟩⟩
theorem JD.fitP {c:C4}(h:JD c):a8h c:=
 ⟨by have:=h.tag;unfold sH;omega,a8H h.com,aGX h.fld,by have:=h.len;omega,fun x hx=>by
  have e:=h.ent x hx;exact⟨M3 e.id,M3 e.src,M3 e.tgt,a8H e.com,a8H e.flg,aGX e.fld⟩⟩
theorem aNC:((List.range 256).all fun b=>(yP (b:Int)||decide (uG b=[b.toUInt8]))&&(LT (b:Int)||decide (uG b=[b.toUInt8]))&&(!zH (b:Int)||decide (uG b=[b.toUInt8])))=true:=by kernel_rfl
theorem SS (b:UInt8):(yP (b.toNat:Int)=false->uG b.toNat=[b])/\(LT (b.toNat:Int)=false->uG b.toNat=[b])/\(zH (b.toNat:Int)=true->uG b.toNat=[b]):=by
 have h:=aRX.1 aNC b.toNat (aSx.2 (UInt8.toNat_lt b));have hb:b.toNat.toUInt8=b:=by simp
 rw[hb] at h;simp only[aRw,aSl,aRG,aRK] at h;exact⟨fun e=>h.1.1.resolve_left (by rw[e];decide),fun e=>h.1.2.resolve_left (by rw[e];decide),fun e=>h.2.resolve_left (by rw[e];decide)⟩
theorem a8I {s:pC}(h: ∀b∈s,uG b.toNat=[b]):uW s=s:=by
 induction s with
 |nil=>rfl
 |cons b s ih=>
  unfold uW at ih|-;rw[aR9,h b aRm,ih (fun c hc=>h c (aRo _ hc))];rfl
theorem aND {s:pC}(h:xC s=true):uW s=s:=by
 unfold xC at h;simp only[aRw,aRK,aRV] at h;exact a8I fun b hb=>(SS b).2.1 (by simpa using h.1 b hb)
theorem aNE {s:pC}(h:uQ s=true):uW s=s:=by
 cases s with
 |nil=>rfl
 |cons b t=>
  unfold uQ at h;simp only[aRw,aRK,aRV] at h;refine a8I fun c hc=> ?_;rcases aRu.1 hc with rfl|hc
  .exact(SS c).2.2 h.1.2
  .exact(SS c).1 (by simpa using h.2 c hc)
theorem BY {l:pC}(h:l.length<=1000000000:=by simp only[aRg,aRj,aRq];omega):(l.length:Int)<=9223372036854775807:=by omega
def DK (ind name attrs s:pC):pC:=(((((((([10]++ind)++[60])++name)++attrs)++[62])++uW s)++[60,47])++name)++[62]
theorem ST {ind name attrs s:pC}(hi:ind.length<=4) (hn:name.length<=8) (ha:attrs.length<=6010) (hs:s.length<=6000):(DK ind name attrs s).length<=42040:=by
 have:=OI s;simp only[DK,aRg,aRj,aRq];omega
theorem aGY {s:pC}(hs:s.length<=6000):J9 s=some (uW s):=by
 unfold J9;rw[aNc (M3 hs)];rfl
theorem XS {ind name attrs s:pC}(hi:ind.length<=4) (hn:name.length<=8) (ha:attrs.length<=6010) (hs:s.length<=6000):EH ind name attrs s=some (DK ind name attrs s):=by
 have he:=OI s;unfold EH;rw[aGY hs,aRe]
 iterate 9 rw[aRf BY]
 rfl
def G4 (ind s:pC):pC:=DK ind yD [] s
def CX (ind:pC) (l:pD):pC:=l.flatMap (G4 ind)
def HQ (n:pC):pC:=([32,110,97,109,101,61,34]++n)++[34]
def DL (ind:pC) (f:rZ):pC:=DK ind xW (HQ f.1) f.2.1
def G5 (ind:pC) (l:List rZ):pC:=l.flatMap (DL ind)
theorem aGZ {n:pC}(h:n.length<=6000):(HQ n).length<=6010:=by
 simp only[HQ,aRg,aRj,aRq];omega
theorem a8J {ind s:pC}(hi:ind.length<=4) (h:s.length<=6000):(G4 ind s).length<=42040:=ST hi pH pH h
theorem a8K {ind:pC}{f:rZ}(hi:ind.length<=4) (h:f.1.length<=6000/\f.2.1.length<=6000):(DL ind f).length<=42040:=ST hi pH (aGZ h.1) h.2
theorem SU {ind:pC}(hi:ind.length<=4) {l:pD}(h:FY l):(CX ind l).length<=252240000:=by
 have:=LZ (l:=l) (h:=G4 ind) (B:=42040) fun x hx=>a8J hi (h.2 x hx);have h1:=h.1;unfold CX
 calc _<=l.length*42040:=this
  _<=6000*42040:=aSu _ h1
theorem XT {ind:pC}(hi:ind.length<=4) {l:List rZ}(h:LX l):(G5 ind l).length<=252240000:=by
 have:=LZ (l:=l) (h:=DL ind) (B:=42040) fun x hx=>a8K hi (h.2 x hx);have h1:=h.1;unfold G5
 calc _<=l.length*42040:=this
  _<=6000*42040:=aSu _ h1
theorem a8L {ind:pC}(hi:ind.length<=4) {cl:pD}(hc:FY cl) {fl:List rZ}(hf:LX fl) {b:pC}(hb:b.length<=100000):HE ind cl b fl=some ((CX ind cl++b)++G5 ind fl):=by
 have hl:=hc.1;have hl2:=hf.1;have c1:=SU hi hc;have k:=SH (f:=S1 ind cl) (fun i s=>(s,i)) (fun s=>s) (n:=cl.length) (M:=1000000000) (B:=42040) (fun i=>G4 ind (cl.getD i [])) (fun i hi2=>a8J hi (a8j hc hi2)) [] pI (fun i s hi2 hM=>by
  have h1:=a8J hi (a8j hc hi2);have e:=XS (ind:=ind) (name:=yD) (attrs:=[]) hi pH pH (a8j hc hi2);unfold S1;dsimp only;rw[aRf (vT hi2),aRf (uM hi2),aFR,e,aRe,aRf (SJ (n:=1000000000) (by rw[aRg];show s.length+(G4 ind (cl.getD i [])).length<=_;omega) pG),aRf (x6 pF)];rfl) (fun b=>by
  unfold S1;dsimp only;rw[aRk (x7 _)])
 have k2:=SH (f:=O7 ind fl) (fun i s=>(s,i)) (fun s=>s) (n:=fl.length) (M:=1000000000) (B:=42040) (fun i=>DL ind (fl.getD i fD)) (fun i hi2=>a8K hi (XL hf hi2)) (CX ind cl++b) (by rw[aRg];omega) (fun i s hi2 hM=>by
  have h1:=a8K hi (XL hf hi2);have h2:=(XL hf hi2).1;have h3:=aGZ h2;have e:EH ind xW (([32,110,97,109,101,61,34]++(fl.getD i fD).1)++[34]) (fl.getD i fD).2.1=_:=XS (ind:=ind) (name:=xW) (attrs:=HQ (fl.getD i fD).1) hi pH h3 (XL hf hi2).2;unfold O7;dsimp only;rw[aRf (vT hi2),aRf (uM hi2),aFT,aRf BY,aRf BY,e,aRe,aRf (SJ (n:=1000000000) (by rw[aRg];show s.length+(DL ind (fl.getD i fD)).length<=_;omega) pG),aRf (x6 pF)];rfl) (fun b=>by
  unfold O7;dsimp only;rw[aRk (x7 _)])
 unfold HE;rw[k,SI (l:=cl) (d:=[]) (G4 ind)];unfold sJ;rw[aRe,List.nil_append];show (if ((CX ind cl++b).length:Int)<=_ then(rU (O7 ind fl) (CX ind cl++b,0)).bind _ else none)=_;rw[aRf (SJ (n:=1000000000) (by rw[aRg];omega) pG),k2,SI (l:=fl) (d:=fD) (DL ind)];rfl
end
noncomputable section
abbrev aNF:pC:=[32,102,108,97,103,115,61,34]
theorem XU (x:pC) (r:pD):vN (x::r) [32]=x++r.flatMap (fun y=>[32]++y):=by
 unfold vN;rw[Lib.join_cons];unfold Lib.joinTail;rw[List.flatMap_def]
theorem aG0 {l:pD}(h:FY l):(vN l [32]).length<=36012000:=by
 cases l with
 |nil=>simp [vN,Lib.join_nil]
 |cons x r=>
  rw[XU,aRg];have h1:=h.1;have h2:=h.2 x aRm;have h3:=LZ (l:=r) (h:=fun y=>[32]++y) (B:=6001) fun y hy=>by
   have:=h.2 y (aRo _ hy);simp only[aRg,aRj,aRq];omega
  simp only[aRj] at h1;have h4:r.length*6001<=6000*6001:=aSu _ pF;omega
def G6 (l:pD):pC:=if l=[] then[] else(aNF++vN l [32])++[34]
theorem aNG {l:pD}(h:FY l):(G6 l).length<=36012100:=by
 have:=aG0 h;unfold G6;split
 .simp
 .simp only[aRg,aRj,aRq];omega
theorem a8M {σ ρ:Type}{x:Option σ}{y:σ}{k:σ->Option ρ}{r:Option ρ}(h1:x=some y) (h2:k y=r):sJ x k=r:=by
 unfold sJ;rw[h1];exact h2
abbrev i4:pC:=[32,32,32,32]
abbrev i2:pC:=[32,32]
abbrev sId:pC:=[10,32,32,60,101,110,116,114,121,32,105,100,61,34]
abbrev sSt:pC:=[32,115,116,97,116,101,61,34]
abbrev aNI:pC:=[10,32,32,60,47,101,110,116,114,121,62]
def HS (n:Int):pC:=if n=0 then[] else(sSt++qU .str ([[110,101,119],[102,117,122,122,121],[116,114,97,110,115,108,97,116,101,100],[114,101,118,105,101,119,101,100],[111,98,115,111,108,101,116,101]]:pD) n)++[34]
def JJ (x:uE):pC:=(((sId++uW x.1)++[34])++HS x.2.2.2.2.2.1)++G6 x.2.2.2.2.1
def EY (x:uE):pC:=if x.2.1=[] then[] else DK i4 wI [] x.2.1
def DM (x:uE):pC:=if x.2.2.1=[] then[] else DK i4 yR [] x.2.2.1
def yT (x:uE):pC:=((JJ x++[62])++((CX i4 x.2.2.2.1++(EY x++DM x))++G5 i4 x.2.2.2.2.2.2.1))++aNI
theorem aG2 {n:Int}(h0:0<=n) (h1:n<=4):(qU .str ([[110,101,119],[102,117,122,122,121],[116,114,97,110,115,108,97,116,101,100],[114,101,118,105,101,119,101,100],[111,98,115,111,108,101,116,101]]:pD) n).length<=10:=aMZ h0 h1
theorem a8N {n:Int}(h0:0<=n) (h1:n<=4):(HS n).length<=30:=by
 have:=aG2 h0 h1;unfold HS;split
 .simp
 .simp only[aRg,aRj,aRq];omega
theorem aG3 {x:uE}(h:LY x):(EY x).length<=42040:=by
 unfold EY;split
 .simp
 .exact ST pH pH pH h.src
theorem aG4 {x:uE}(h:LY x):(DM x).length<=42040:=by
 unfold DM;split
 .simp
 .exact ST pH pH pH h.tgt
theorem aG5 {x:uE}(h:LY x) (r0:0<=x.2.2.2.2.2.1) (r4:x.2.2.2.2.2.1<=4):(JJ x).length<=36100000:=by
 have h1:=OI x.1;have h2:=a8N r0 r4;have h3:=aNG h.flg;have h4:=h.id;simp only[JJ,aRg,aRj,aRq];omega
theorem aNJ {x:uE}(h:LY x) (r0:0<=x.2.2.2.2.2.1) (r4:x.2.2.2.2.2.1<=4):(yT x).length<=600000000:=by
 have h1:=aG5 h r0 r4;have h2:=SU (ind:=i4) pH h.com;have h3:=XT (ind:=i4) pH h.fld;have h4:=aG3 h;have h5:=aG4 h;simp only[yT,aRg,aRj,aRq];omega
theorem aNK {x:uE}(h:LY x) (r0:0<=x.2.2.2.2.2.1) (r4:x.2.2.2.2.2.1<=4):LN x=some (yT x):=by
 have e1:=OI x.1;have e2:=h.id;have e3:=aG2 r0 r4;have e4:=a8N r0 r4;have e5:=aG0 h.flg;have e6:=aG5 h r0 r4;have e7:=h.flg.1;have c1:=SU (ind:=i4) pH h.com;have c2:=XT (ind:=i4) pH h.fld;have c3:=aG3 h;have c4:=aG4 h;unfold LN;rw[aGY h.id,aRe,aRf BY,aRf BY];refine a8M (y:=((sId++uW x.1)++[34])++HS x.2.2.2.2.2.1) ?_ ?_
 .by_cases hs:x.2.2.2.2.2.1=0
  .rw[aRk (by simp [hs])];simp [HS,hs]
  .rw[aRf (by simpa using hs),aRf ⟨r0,by simp only[aRj,aRq];omega⟩]
   iterate 3 rw[aRf BY]
   unfold HS;rw[aRk hs]
 refine a8M (y:=JJ x) ?_ ?_
 .by_cases hf:x.2.2.2.2.1=[]
  .rw[aRk (by simp [hf])];simp [JJ,G6,hf]
  .have hp:=aRL.2 hf;rw[aRf pI,aRf ⟨pF,pF⟩]
   iterate 3 rw[aRf BY]
   unfold JJ G6;rw[aRk hf]
 refine a8M (y:=EY x) ?_ ?_
 .by_cases hs:x.2.1=[]
  .rw[aRk (by simp [hs])];simp [EY,hs]
  .have e:=XS (ind:=i4) (name:=wI) (attrs:=[]) pH pH pH h.src;have el:=ST (ind:=i4) (name:=wI) (attrs:=[]) pH pH pH h.src;rw[aRf (by simpa using hs),e,aRe,List.nil_append,aRf (SJ (n:=1000000000) pF pG)];simp [EY,hs]
 by_cases ht:x.2.2.1=[]
 .have et:DM x=[]:=by simp [DM,ht]
  rw[aRk (by simp [ht]),aRf BY,a8L (ind:=i4) pH h.com h.fld pF,aRe]
  iterate 2 rw[aRf BY]
  unfold yT;rw[et,List.append_nil]
 .have e:=XS (ind:=i4) (name:=yR) (attrs:=[]) pH pH pH h.tgt;have et:DM x=DK i4 yR [] x.2.2.1:=by simp [DM,ht]
  rw[aRf (by simpa using ht),e,aRe,<-et,aRf (SJ (n:=1000000000) (by simp only[aRg];omega) pG),aRf BY,a8L (ind:=i4) pH h.com h.fld (by simp only[aRg];omega),aRe]
  iterate 2 rw[aRf BY]
  rfl
end
noncomputable section
abbrev aNL:pC:=[60,99,97,116,97,108,111,103,32,116,97,103,61,34]
abbrev aNM:pC:=[10,60,101,110,116,114,105,101,115,62]
abbrev DN:pC:=[10,60,47,101,110,116,114,105,101,115,62,10,60,47,99,97,116,97,108,111,103,62,10]
def CY (c:C4):pC:=(((aNL++c.1)++[34,62])++(CX i2 c.2.1++G5 i2 c.2.2.1))++aNM
theorem aNN {c:C4}(h:JD c):(CY c).length<=600000000:=by
 have h1:=SU (ind:=i2) pH h.com;have h2:=XT (ind:=i2) pH h.fld;have h3:=h.tag;simp only[CY,aRg,aRj,aRq];omega
theorem aG6 {c:C4}(hc:JD c):EK c=some (if xU c=true then(CY c,c.2.2.2.1.map yT,DN,0) else([],[],[],1)):=by
 unfold EK;rw[aMW hc.fitP,aRe];by_cases hok:xU c=true
 .have hl:=hc.len;have q1:=hc.tag;have h2:=SU (ind:=i2) pH hc.com;have h3:=XT (ind:=i2) pH hc.fld;have k:=SH (f:=S2 c) (fun i b=>(i,b)) (fun b=>b) (n:=c.2.2.2.1.length) (M:=1000000) (B:=1) (fun i=>[yT (c.2.2.2.1.getD i eD)]) (fun i hi=>by simp) [] pI (fun i b hi hM=>by
   obtain⟨r0,r4⟩:=aF5 (a8k hok hi);unfold S2;dsimp only;rw[aRf (vT hi),aRf (uM hi),aFZ,aNK (hc.ent _ (SG hi)) r0 r4,aRe,aRf pI,aRf (x6 pF)]) (fun b=>by
   unfold S2;dsimp only;rw[aRk (x7 _)])
  rw[hok,aRk pG,aRf rfl,aRf BY,aRf BY,a8L (ind:=i2) pH hc.com hc.fld pH,aRe,List.append_nil]
  iterate 2 rw[aRf BY]
  rw[k,SI (l:=c.2.2.2.1) (d:=eD) (fun x=>[yT x])];unfold sJ;rw[aRe];rw[List.nil_append,aF4];rfl
 .simp only[aSt] at hok;rw[hok,aRf (show (!false)=true from rfl),aRk pG]
theorem aNO {c:C4}(hc:JD c) (hok:xU c=true): ∀x∈([CY c]++c.2.2.2.1.map yT)++[DN],x.length<=1000000000:=by
 intro x hx;simp only[aR2,aRv,List.mem_map] at hx;rcases hx with(rfl|⟨y,hy,rfl⟩) |rfl
 .have:=aNN hc;omega
 .obtain⟨i,hi,rfl⟩:=aSW hy;have he:=a8k hok hi;rw[aRO,aRr hi] at he;obtain⟨r0,r4⟩:=aF5 he;have:=aNJ (hc.ent _ hy) r0 r4;omega
 .simp
def DO (c:C4):pC:=ER (CY c) (c.2.2.2.1.map yT) DN
theorem a8O {α:Type}{B:Nat}: ∀{l:List (List α)},(∀x∈l,x.length<=B)->l.flatten.length<=l.length*B
 |[],_=>by simp
 |x::l,h=>by
  have h1:=h x aRm;have h2:=a8O (l:=l) fun y hy=>h y (aRo _ hy);rw[aR8,aRg,aRj,aSm];omega
theorem aNP {c:C4}(hc:JD c) (hok:xU c=true):(DO c).length<=1002000000000:=by
 have hl:=hc.len;have e:DO c=(([CY c]++c.2.2.2.1.map yT)++[DN]).flatten:=by
  unfold DO ER;rw[List.flatten_append,List.flatten_append];simp only[aR8,List.flatten_nil,List.append_nil,aRl]
 have hk:=a8O (aNO hc hok);rw[<-e] at hk;simp only[aRg,aSB,aR6] at hk;omega
theorem aNQ {c:C4}(hc:JD c):JB c=some (if xU c=true then(DO c,0) else([],1)):=by
 unfold JB;rw[aG6 hc,aRe];by_cases hok:xU c=true
 .have hl:=hc.len;have:=aNP hc hok;rw[aRf hok,aRf hok];dsimp only;rw[a8i (CY c,(c.2.2.2.1.map yT,(DN,()))) pI (by show (DO c).length<=_;omega),aRe];rfl
 .rw[aRk hok,aRk hok];dsimp only;rw[a8i ([],([],([],()))) pH (by simp [ER]),aRe];rfl
theorem aNR:OD=some true:=by kernel_rfl
end
noncomputable section
theorem SV {l:List rZ}{n:pC}(h:(l.any fun a=>decide (a.1=n))=true): ∃a∈l,a.1=n/\s0 l n=a.2.1:= @aGx [] n l [] h
theorem SW:sW []=true:=by kernel_rfl
theorem aNS {s y:pC}(h:xM s=some y):sW y=true:=by
 unfold xM at h;split at h
 .split at h
  .rename_i h2;cases h;exact h2
  .cases h
 .cases h
def t8 (P:List TE):Prop:= ∃Q t,P=Q++[t]/\t.1=2
theorem t8.ne {P:List TE}(h:t8 P):P≠[]:=by
 obtain⟨Q,t,rfl,_⟩:=h;simp
theorem t8.one {t:TE}(h:t.1=2):t8 [t]:=⟨[],t,rfl,h⟩
theorem t8.app {P Q:List TE}(h:t8 Q):t8 (P++Q):=by
 obtain⟨R,t,rfl,ht⟩:=h;exact⟨P++R,t,by rw[aRl],ht⟩
theorem t8.cons {P:List TE}{u:TE}(h:t8 P):t8 (u::P):=t8.app (P:=[u]) h
theorem EZ {P R R':List TE}(h:P≠[]):rD (P++R)=rD (P++R'):=by
 cases P with
 |nil=>exact absurd rfl h
 |cons t P=>rfl
theorem XV (n:pC) (t:TE) (r:List TE):uN n (t::r)=if (uX t).1=3/\(uX t).2.1=n then some r else none:=rfl
theorem aG7 (x:xN) (t:TE) (r:List TE) (h:x.1=2):xV x (t::r)=some ([],r):=by
 show (if x.1=2 then some (([]:pC),r) else _)=_;rw[aRf h]
theorem aNT (x:xN) (t:TE) (h:x.1≠2):xV x [t]=none:=by
 show (if x.1=2 then some (([]:pC),([]:List TE)) else none)=_;rw[aRk h]
theorem SX (x:xN) (t u:TE) (r2:List TE) (h:x.1≠2):xV x (t::u::r2)=if u.1=3 then(match xM u.2 with
    |some s=>(uN x.2.1 r2).map fun q=>(s,q)
    |none=>none) else(uN x.2.1 (u::r2)).map fun q=>([],q):=by
 show (if x.1=2 then some (([]:pC),u::r2) else(if u.1=3 then(match xM u.2 with
    |some s=>(uN x.2.1 r2).map fun q=>(s,q)
    |none=>none) else(uN x.2.1 (u::r2)).map fun q=>([],q)))=_
 rw[aRk h]
theorem a8P {n:pC}{L R:List TE}(h:uN n L=some R): ∃t,L=t::R/\t.1=2/\∀R',uN n (t::R')=some R':=by
 cases L with
 |nil=>cases h
 |cons t r=>
  rw[XV] at h;by_cases hc:(uX t).1=3/\(uX t).2.1=n
  .rw[aRf hc] at h;cases h;exact⟨t,rfl,SN (by rw[hc.1];decide),fun R'=>by rw[XV,aRf hc]⟩
  .rw[aRk hc] at h;cases h
theorem XW {x:xN}{L R:List TE}{s:pC}(h:xV x L=some (s,R)) (hx: ∃t r,L=t::r/\t.1=2): ∃P,L=P++R/\t8 P/\(∀R',xV x (P++R')=some (s,R'))/\sW s=true:=by
 obtain⟨t,r,rfl,ht⟩:=hx;by_cases h2:x.1=2
 .rw[aG7 x t r h2] at h;cases h;exact⟨[t],rfl,t8.one ht,fun R'=>aG7 x t R' h2,SW⟩
 .cases r with
  |nil=>rw[aNT x t h2] at h;cases h
  |cons u r2=>
   rw[SX x t u r2 h2] at h;by_cases h3:u.1=3
   .rw[aRf h3] at h;cases hte:xM u.2 with
    |none=>rw[hte] at h;cases h
    |some y=>
     rw[hte] at h;dsimp only at h;obtain⟨q,hq,he⟩:=aRn.1 h;cases he;obtain⟨v,rfl,hv,hn⟩:=a8P hq;refine⟨[t,u,v],rfl,t8.app (P:=[t,u]) (t8.one hv),fun R'=> ?_,aNS hte⟩;show xV x (t::u::v::R')=_;rw[SX x t u _ h2,aRf h3,hte];dsimp only;rw[hn];rfl
   .rw[aRk h3] at h;obtain⟨q,hq,he⟩:=aRn.1 h;cases he;obtain⟨v,hvq,hv,hn⟩:=a8P hq;injection hvq with e1 e2
    subst e1 e2;refine⟨[t,u],rfl,t8.app (P:=[t]) (t8.one hv),fun R'=> ?_,SW⟩;show xV x (t::u::R')=_;rw[SX x t u _ h2,aRk h3,hn];rfl
theorem aG8 {x:xN}{cs cs':pD}{L R:List TE}(h:A0 x cs L=some (cs',R)) (hx: ∃t r,L=t::r/\t.1=2) (hv:wG cs=true): ∃P,L=P++R/\t8 P/\(∀R',A0 x cs (P++R')=some (cs',R'))/\wG cs'=true:=by
 unfold A0 at h;split at h
 .rename_i hc;obtain⟨q,hq,he⟩:=aRn.1 h;cases he;obtain⟨P,h1,h2,h3,h4⟩:=XW (s:=q.1) (R:=q.2) hq hx;refine⟨P,h1,h2,fun R'=>by unfold A0;rw[aRf hc,h3];rfl,aM6 hv ?_ h4⟩;have:=(M0 hv).1;have:=hc.2.2;omega
 .cases h
theorem aG9 {x:xN}{fs fs':List rZ}{L R:List TE}(h:A1 x fs L=some (fs',R)) (hx: ∃t r,L=t::r/\t.1=2) (hv:vU fs=true): ∃P,L=P++R/\t8 P/\(∀R',A1 x fs (P++R')=some (fs',R'))/\vU fs'=true:=by
 unfold A1 at h;split at h
 .rename_i hc;obtain⟨q,hq,he⟩:=aRn.1 h;cases he;obtain⟨P,h1,h2,h3,h4⟩:=XW (s:=q.1) (R:=q.2) hq hx;refine⟨P,h1,h2,fun R'=>by unfold A1;rw[aRf hc,h3];rfl,aM7 hv ?_ ?_ h4 ?_⟩
  .have:=(HL hv).1;have:=hc.2.2.2.2;omega
  .have ha:=hc.1;unfold xE at ha;rw[aRw] at ha;have:=aRX.1 ha.2 vD aRm;obtain⟨a,ham,_,hg⟩:=SV this;rw[hg];exact aRX.1 hc.2.1 a ham
  .rw[hc.2.2.2.1];decide
 .cases h
structure I6 (st:EU):Prop where
 src:sW st.1=true
 tgt:sW st.2.1=true
 com:wG st.2.2.1=true
 fld:vU st.2.2.2.1=true
theorem aHa {L:List TE}(h:(rD L).1≠0): ∃t r,L=t::r/\t.1=2:=by
 cases L with
 |nil=>exact absurd rfl h
 |cons t r=>exact⟨t,r,rfl,SN h⟩
theorem a8Q: ∀(n:Nat) (st st':EU) (L R:List TE),tP n st L=some (st',R)->I6 st->∃P,L=P++R/\t8 P/\(∀R' m,P.length<=m->tP m st (P++R')=some (st',R'))/\I6 st'
 |0,_,_,_,_,h,_=>by cases h
 |n+1,st,st',L,R,h,hv=>by
  unfold tP at h;have goon: ∀(st1:EU) (P1 r:List TE),qZ L=P1++r->t8 P1->tP n st1 r=some (st',R)->I6 st1->(∀R' m,tP (m+1) st (L.takeWhile vC++(P1++R'))=tP m st1 R')->
    ∃P,L=P++R/\t8 P/\(∀R' m,P.length<=m->tP m st (P++R')=some (st',R'))/\I6 st':=by
   intro st1 P1 r h1 h2 h3 h4 h5;obtain⟨P,e1,e2,e3,e4⟩:=a8Q n st1 st' r R h3 h4;have hL:L=L.takeWhile vC++(P1++r):=by rw[<-h1];exact(List.takeWhile_append_dropWhile).symm
   refine⟨L.takeWhile vC++(P1++P),?_,t8.app (t8.app e2),fun R' m hm=> ?_,e4⟩
   .rw[aRl,aRl,<-e1];exact hL
   .have hp:=aRL.2 h2.ne;simp only[aRg] at hm;obtain⟨m,rfl⟩: ∃k,m=k+1:=⟨m-1,pF⟩;rw[aRl,aRl,h5,e3 R' m pF]
  have hsk: ∀(P1 r:List TE),qZ L=P1++r->P1≠[]->∀R',qZ (L.takeWhile vC++(P1++R'))=P1++R':=fun P1 r h1 h2 R'=>by
   have hG: ∀t∈L.takeWhile vC,vC t=true:=fun t ht=>aRX.1 (List.all_takeWhile) t ht;cases P1 with
   |nil=>exact absurd rfl h2
   |cons p P'=>
    have hp:vC p=false:=by
     have h3:L.dropWhile vC=p::(P'++r):=h1;have:=List.head?_dropWhile_not vC L;rw[h3] at this;simpa using this
    unfold qZ;rw[List.dropWhile_append_of_pos hG,List.cons_append,List.dropWhile_cons,hp];rfl
  by_cases h30:(rD (qZ L)).1=3\/(rD (qZ L)).1=0
  .rw[aRf h30] at h;obtain⟨q,hq,he⟩:=aRn.1 h;cases he;obtain⟨t,h1,h2,h3⟩:=a8P hq;have h1':qZ L=[t]++R:=h1;have hs:=hsk [t] R h1' pH;refine⟨L.takeWhile vC++[t],?_,t8.app (t8.one h2),fun R' m hm=> ?_,hv⟩
   .rw[aRl,<-h1'];exact(List.takeWhile_append_dropWhile).symm
   .simp only[aRg,aRj,aRq] at hm;obtain⟨m,rfl⟩: ∃k,m=k+1:=⟨m-1,pF⟩;unfold tP;rw[aRl,hs,EZ (R':=R) pH,<-h1',aRf h30];rw[show [t]++R'=t::R' from rfl,h3];rfl
  .rw[aRk h30] at h;have htag:=aHa (L:=qZ L) (fun e=>h30 (.inr e));by_cases hc:(rD (qZ L)).2.1=yD
   .rw[aRf hc] at h;cases hr:A0 (rD (qZ L)) st.2.2.1 (qZ L) with
    |none=>rw[hr] at h;cases h
    |some w=>
     obtain⟨cs,r⟩:=w;rw[hr] at h;obtain⟨P1,e1,e2,e3,e4⟩:=aG8 hr htag hv.com;refine goon (st.1,st.2.1,cs,st.2.2.2.1,st.2.2.2.2.1,st.2.2.2.2.2) P1 r e1 e2 h ⟨hv.src,hv.tgt,e4,hv.fld⟩ fun R' m=> ?_;have hpk:rD (P1++R')=rD (qZ L):=by rw[e1];exact EZ e2.ne
     rw[tP,hsk P1 r e1 e2.ne,hpk,aRk h30,aRf hc,e3]
   .rw[aRk hc] at h;by_cases hf:(rD (qZ L)).2.1=xW
    .rw[aRf hf] at h;cases hr:A1 (rD (qZ L)) st.2.2.2.1 (qZ L) with
     |none=>rw[hr] at h;cases h
     |some w=>
      obtain⟨fs,r⟩:=w;rw[hr] at h;obtain⟨P1,e1,e2,e3,e4⟩:=aG9 hr htag hv.fld;refine goon (st.1,st.2.1,st.2.2.1,fs,st.2.2.2.2.1,st.2.2.2.2.2) P1 r e1 e2 h ⟨hv.src,hv.tgt,hv.com,e4⟩ fun R' m=> ?_;have hpk:rD (P1++R')=rD (qZ L):=by rw[e1];exact EZ e2.ne
      rw[tP,hsk P1 r e1 e2.ne,hpk,aRk h30,aRk hc,aRf hf,e3]
    .rw[aRk hf] at h;by_cases hs:(rD (qZ L)).2.1=wI
     .rw[aRf hs] at h;split at h
      .rename_i hg;cases hr:xV (rD (qZ L)) (qZ L) with
       |none=>rw[hr] at h;cases h
       |some w=>
        obtain⟨s,r⟩:=w;rw[hr] at h;obtain⟨P1,e1,e2,e3,e4⟩:=XW hr htag;refine goon (s,st.2.1,st.2.2.1,st.2.2.2.1,true,st.2.2.2.2.2) P1 r e1 e2 h ⟨e4,hv.tgt,hv.com,hv.fld⟩ fun R' m=> ?_;have hpk:rD (P1++R')=rD (qZ L):=by rw[e1];exact EZ e2.ne
        rw[tP,hsk P1 r e1 e2.ne,hpk,aRk h30,aRk hc,aRk hf,aRf hs,aRf hg,e3]
      .cases h
     .rw[aRk hs] at h;by_cases ht:(rD (qZ L)).2.1=yR
      .rw[aRf ht] at h;split at h
       .rename_i hg;cases hr:xV (rD (qZ L)) (qZ L) with
        |none=>rw[hr] at h;cases h
        |some w=>
         obtain⟨s,r⟩:=w;rw[hr] at h;obtain⟨P1,e1,e2,e3,e4⟩:=XW hr htag;refine goon (st.1,s,st.2.2.1,st.2.2.2.1,st.2.2.2.2.1,true) P1 r e1 e2 h ⟨hv.src,e4,hv.com,hv.fld⟩ fun R' m=> ?_;have hpk:rD (P1++R')=rD (qZ L):=by rw[e1];exact EZ e2.ne
         rw[tP,hsk P1 r e1 e2.ne,hpk,aRk h30,aRk hc,aRk hf,aRk hs,aRf ht,aRf hg,e3]
       .cases h
      .rw[aRk ht] at h;cases h
end
noncomputable section
theorem aNU {l:pD}(h:HN l=false):(sG l).Pairwise (· < ·):=by
 unfold HN at h;have h1: ¬(Lib.compact (sG l)).length<(sG l).length:=of_decide_eq_false h;generalize hs:sG l=s at h1;have hpw:s.Pairwise (·<=·):=by rw[<-hs];exact aFX l
 have h2:((List.range s.length).filter (Lib.keeps s.toArray)).length=(List.range s.length).length:=by
  have h3:(Lib.compact s).length=((List.range s.length).filter (Lib.keeps s.toArray)).length:=by
   unfold Lib.compact Lib.compactUpTo;rw[aR6]
  have h4:=List.length_filter_le (Lib.keeps s.toArray) (List.range s.length);rw[List.length_range] at h4|-;omega
 have h3:=List.length_filter_eq_length_iff.1 h2;refine a8n (r:=fun a b:pC=>a<b) (fun a b c=>List.lt_trans) fun i hi=> ?_;have hk:=h3 (i+1) (aSx.2 hi);have hne:s[i+1]≠s[i]:=by
  intro e;have:=Lib.keeps_neg (d:=s.toArray) (m:=i+1) pF (by
   rw[Nat.add_sub_cancel,getElem!_pos s.toArray (i+1) (by simpa using hi),getElem!_pos s.toArray i pI];simpa using e)
  rw[this] at hk;cases hk
 have hle:s[i]<=s[i+1]:=aSq.1 hpw i (i+1) pF hi pF;exact aF7 (a:=s[i+1]) (b:=s[i]) (fun hlt=>hle hlt) hne
theorem aHb:tK []=[]:=by kernel_rfl
theorem aNV (s:pC):AG s<=4:=by
 unfold AG;cases h:HI.findIdx? fun x=>decide (x=s) with
 |none=>show (-1:Int)<=4;decide
 |some k=>
  have:=(aSf.1 h).1;show (k:Int)<=4;unfold HI at this;simp only[aRj,aRq] at this;omega
theorem aHc {l:List rZ}{n:pC}(h:(l.any fun a=>decide (a.1=n))=false):s0 l n=[]:=by
 have go: ∀(l:List rZ) (v:pC),(l.any fun a=>decide (a.1=n))=false->l.foldl (fun v a=>if n=a.1 then a.2.1 else v) v=v:=by
  intro l
  induction l with
  |nil=>intro v _;rfl
  |cons a l ih=>
   intro v h;rw[List.any_cons,aR3] at h;have h1: ¬n=a.1:=fun e=>(of_decide_eq_false h.1) e.symm;rw[List.foldl_cons,aRk h1];exact ih v h.2
 exact go l [] h
theorem aNW (L:List TE): ∀a∈(rD L).2.2.1,sW a.2.1=true:=aGL L
theorem aNX {L:List TE}(n:pC):sW (s0 (rD L).2.2.1 n)=true:=by
 cases h:(rD L).2.2.1.any fun a=>decide (a.1=n) with
 |false=>rw[aHc h];exact SW
 |true=>
  obtain⟨a,ha,_,hg⟩:=SV h;rw[hg];exact aNW L a ha
def yOf (x:xN) (st:EU):uE:=(s0 x.2.2.1 tZ,(st.1,(st.2.1,(st.2.2.1,(sG (tK (s0 x.2.2.1 uB)),(max 0 (AG (s0 x.2.2.1 x8)),(st.2.2.2.1,())))))))
theorem a8S:I6 AJ:=⟨SW,SW,pT,pT⟩
theorem aNY {es:List sF}{L R:List TE}{y:sF}(h:xY es (rD L) L=some (y,R)): ∃P,L=P++R/\t8 P/\yQ y=true/\(es.any fun z=>decide (z.1=y.1))=false/\es.length≠1000/\
  (rD L).1≠3/\(rD L).1≠0/\(∀(es':List sF) R',(es'.any fun z=>decide (z.1=y.1))=false->es'.length≠1000->xY es' (rD (P++R')) (P++R')=some (y,R')):=by
 unfold xY at h;split at h
 .rename_i hc;obtain⟨⟨st,r⟩,hq,he⟩:=aRn.1 h;dsimp only at he;have hy:yOf (rD L) st=y:=aRx Prod.fst he;have hr:r=R:=aRx Prod.snd he;subst hr;obtain⟨c1,c2,c3,c4,c5,c6,c7,c8,c9⟩:=hc;have htag: ∃t q,L=t::q/\t.1=2:=aHa (by rcases c1 with e|e<;>rw[e]<;>decide)
  obtain⟨t,q,hL,ht⟩:=htag;obtain⟨P,e1,e2,e3,e4⟩: ∃P,L=P++r/\t8 P/\(∀R',(if (rD L).1=1 then tP (P++R').length AJ ((P++R').drop 1) else some (AJ,(P++R').drop 1))=some (st,R'))/\I6 st:=by
   by_cases h1:(rD L).1=1
   .rw[aRf h1] at hq;rw[hL,List.drop_one,List.tail_cons] at hq;obtain⟨P,a1,a2,a3,a4⟩:=a8Q _ _ _ _ _ hq a8S;refine⟨t::P,by rw[hL,a1];rfl,a2.cons,fun R'=> ?_,a4⟩;rw[aRf h1];show tP (P++R':List TE).length.succ AJ (P++R')=_;exact a3 R' _ (by rw[aRg];omega)
   .rw[aRk h1] at hq;rw[hL,List.drop_one,List.tail_cons] at hq;have hq':=aRi hq;have h2:AJ=st:=aRx Prod.fst hq';have h3:q=r:=aRx Prod.snd hq';subst h2 h3;exact⟨[t],hL,t8.one ht,fun R'=>by rw[aRk h1];rfl,a8S⟩
  have hid:(s0 (rD L).2.2.1 tZ)≠[]/\(s0 (rD L).2.2.1 tZ).length<=200:=by
   have ha:=c3;unfold xE at ha;rw[aRw] at ha;have:=aRX.1 ha.2 tZ aRm;obtain⟨a,ham,hn,hg⟩:=SV this;have hw:=aRV.1 c4 a ham;unfold AI at hw;rw[aRf hn] at hw;simp only[aSl,aRG,not_or] at hw;rw[hg];exact⟨hw.1,pF⟩
  have hfl: ∀f∈tK (s0 (rD L).2.2.1 uB),uQ f=true:=by
   cases hh:(rD L).2.2.1.any fun a=>decide (a.1=uB) with
   |false=>rw[aHc hh,aHb];intro f hf;cases hf
   |true=>
    obtain⟨a,ham,hn,hg⟩:=SV hh;have hw:=aRV.1 c4 a ham;unfold AI at hw;rw[aRk (by rw[hn];decide),aRk (by rw[hn];decide)] at hw;rw[hg];intro f hf;simp only[aRK,Bool.not_eq_false] at hw;exact aRX.1 hw f hf
  have hfo:FX (sG (tK (s0 (rD L).2.2.1 uB)))=true:=aM4 (by rw[XJ];exact c8) (fun f hf=>hfl f ((a8f _).mem_iff.1 hf)) (aNU c7);have hyk:yQ y=true:=by
   rw[<-hy];have hs:=aNV (s0 (rD L).2.2.1 x8);unfold yQ yOf;dsimp only;rw[aNX,e4.src,e4.tgt,e4.com,e4.fld,hfo,decide_eq_false hid.1,aRF (show ((s0 (rD L).2.2.1 tZ).length:Int)<=200 by have:=hid.2;omega),aRF (show (0:Int)<=max 0 (AG (s0 (rD L).2.2.1 x8)) by omega),aRF (show max 0 (AG (s0 (rD L).2.2.1 x8))<=4 by omega)];rfl
  have hy1:y.1=s0 (rD L).2.2.1 tZ:=by rw[<-hy];rfl
  refine⟨P,e1,e2,hyk,by rw[hy1];exact c6,c9,by rcases c1 with e|e<;>rw[e]<;>decide,by rcases c1 with e|e<;>rw[e]<;>decide,fun es' R' h1 h2=> ?_⟩
  have hpk:rD (P++R')=rD L:=by rw[e1];exact EZ e2.ne
  rw[hpk];unfold xY;rw[aRf ⟨c1,c2,c3,c4,c5,by rw[<-hy1];exact h1,c7,c8,h2⟩,e3 R'];show some (yOf (rD L) st,R')=_;rw[hy]
 .cases h
end
noncomputable section
theorem SY {L:List TE}(h:(rD L).2.1≠[]): ∃t r,L=t::r/\t.1=2:=by
 cases L with
 |nil=>exact absurd rfl h
 |cons t r=>
  refine⟨t,r,rfl,?_⟩;by_cases h2:t.1=2
  .exact h2
  .have:uX t=eN:=by unfold uX;exact aRk h2
   have hx:(uX t).2.1≠[]:=h;rw[this] at hx;exact absurd rfl hx
theorem OR (L:List TE): ∀(P1 r:List TE),qZ L=P1++r->P1≠[]->L=L.takeWhile vC++(P1++r)/\∀R',qZ (L.takeWhile vC++(P1++R'))=P1++R':=fun P1 r h1 h2=>by
 have hG: ∀t∈L.takeWhile vC,vC t=true:=fun t ht=>aRX.1 (List.all_takeWhile) t ht;refine⟨by rw[<-h1];exact(List.takeWhile_append_dropWhile).symm,fun R'=> ?_⟩;cases P1 with
 |nil=>exact absurd rfl h2
 |cons p P'=>
  have hp:vC p=false:=by
   have h3:L.dropWhile vC=p::(P'++r):=h1;have:=List.head?_dropWhile_not vC L;rw[h3] at this;simpa using this
  unfold qZ;rw[List.dropWhile_append_of_pos hG,List.cons_append,List.dropWhile_cons,hp];rfl
theorem a8T: ∀(n:Nat) (st st':G3) (L R:List TE),w9 n st L=some (st',R)->wG st.1=true->vU st.2=true->∃P,L=P++R/\t8 P/\(∀R' m,P.length<=m->w9 m st (P++R')=some (st',R'))/\wG st'.1=true/\vU st'.2=true
 |0,_,_,_,_,h,_,_=>by cases h
 |n+1,st,st',L,R,h,hv1,hv2=>by
  unfold w9 at h;have goon: ∀(st1:G3) (P1 r:List TE),qZ L=P1++r->t8 P1->w9 n st1 r=some (st',R)->wG st1.1=true->vU st1.2=true->(∀R' m,w9 (m+1) st (L.takeWhile vC++(P1++R'))=w9 m st1 R')->
    ∃P,L=P++R/\t8 P/\(∀R' m,P.length<=m->w9 m st (P++R')=some (st',R'))/\wG st'.1=true/\vU st'.2=true:=by
   intro st1 P1 r h1 h2 h3 h4 h4' h5;obtain⟨P,e1,e2,e3,e4⟩:=a8T n st1 st' r R h3 h4 h4';have hL:=(OR L P1 r h1 h2.ne).1;refine⟨L.takeWhile vC++(P1++P),?_,t8.app (t8.app e2),fun R' m hm=> ?_,e4⟩
   .rw[aRl,aRl,<-e1];exact hL
   .have hp:=aRL.2 h2.ne;simp only[aRg] at hm;obtain⟨m,rfl⟩: ∃k,m=k+1:=⟨m-1,pF⟩;rw[aRl,aRl,h5,e3 R' m pF]
  by_cases hc:(rD (qZ L)).2.1=yD/\(rD (qZ L)).1≠3
  .rw[aRf hc] at h;have htag:=SY (L:=qZ L) (by rw[hc.1];decide);cases hr:A0 (rD (qZ L)) st.1 (qZ L) with
   |none=>rw[hr] at h;cases h
   |some w=>
    obtain⟨cs,r⟩:=w;rw[hr] at h;obtain⟨P1,e1,e2,e3,e4⟩:=aG8 hr htag hv1;refine goon (cs,st.2) P1 r e1 e2 h e4 hv2 fun R' m=> ?_;have hpk:rD (P1++R')=rD (qZ L):=by rw[e1];exact EZ e2.ne
    rw[w9,(OR L P1 r e1 e2.ne).2,hpk,aRf hc,e3]
  .rw[aRk hc] at h;by_cases hf:(rD (qZ L)).2.1=xW/\(rD (qZ L)).1≠3
   .rw[aRf hf] at h;have htag:=SY (L:=qZ L) (by rw[hf.1];decide);cases hr:A1 (rD (qZ L)) st.2 (qZ L) with
    |none=>rw[hr] at h;cases h
    |some w=>
     obtain⟨fs,r⟩:=w;rw[hr] at h;obtain⟨P1,e1,e2,e3,e4⟩:=aG9 hr htag hv2;refine goon (st.1,fs) P1 r e1 e2 h hv1 e4 fun R' m=> ?_;have hpk:rD (P1++R')=rD (qZ L):=by rw[e1];exact EZ e2.ne
     rw[w9,(OR L P1 r e1 e2.ne).2,hpk,aRk hc,aRf hf,e3]
   .rw[aRk hf] at h;by_cases he:(rD (qZ L)).1=1/\(rD (qZ L)).2.1=xX/\(rD (qZ L)).2.2.1=[]/\(rD (qZ L)).2.2.2=false
    .rw[aRf he] at h;obtain⟨t,q,h1,ht⟩:=SY (L:=qZ L) (by rw[he.2.1];decide);have e0:=aRi h;have e1:st=st':=aRx Prod.fst e0;have e2:(qZ L).drop 1=R:=aRx Prod.snd e0;rw[h1,List.drop_one,List.tail_cons] at e2;subst e1 e2;have h1':qZ L=[t]++q:=h1;obtain⟨g1,g2⟩:=OR L [t] q h1' pH;refine⟨L.takeWhile vC++[t],by rw[aRl];exact g1,t8.app (t8.one ht),fun R' m hm=> ?_,hv1,hv2⟩;simp only[aRg,aRj,aRq] at hm;obtain⟨m,rfl⟩: ∃k,m=k+1:=⟨m-1,pF⟩;have hpk:rD ([t]++R')=rD (qZ L):=by rw[h1'];exact EZ pH
     rw[w9,aRl,g2,hpk,aRk hc,aRk hf,aRf he];rfl
    .rw[aRk he] at h;cases h
theorem aNZ {L R:List TE}{tag:pC}{st:G3}(h:EW L=some (tag,st,R)): ∃P,L=P++R/\t8 P/\(∀R',EW (P++R')=some (tag,st,R'))/\xC tag=true/\wG st.1=true/\vU st.2=true:=by
 unfold EW at h;split at h
 .rename_i hc;obtain⟨⟨st1,r⟩,hq,he⟩:=aRn.1 h;dsimp only at he;have e1:s0 (rD (qZ L)).2.2.1 w7=tag:=aRx Prod.fst he;have e2:st1=st:=aRx (fun x=>x.2.1) he;have e3:r=R:=aRx (fun x=>x.2.2) he;subst e2 e3;obtain⟨t,q,h1,ht⟩:=SY (L:=qZ L) (by rw[hc.2.1];decide);rw[h1,List.drop_one,List.tail_cons] at hq;obtain⟨P,a1,a2,a3,a4,a5⟩:=a8T _ _ _ _ _ hq pT pT;have h1':qZ L=[t]++q:=h1;obtain⟨g1,g2⟩:=OR L [t] q h1' pH;refine⟨L.takeWhile vC++([t]++P),by rw[aRl,aRl,<-a1];exact g1,t8.app (t8.app a2),fun R'=> ?_,?_,a4,a5⟩
  .have hpk:rD ([t]++(P++R'))=rD (qZ L):=by rw[h1'];exact EZ pH
   unfold EW;rw[aRl,aRl,g2,hpk,aRf hc];show (w9 (P++R').length.succ ([],[]) (P++R')).map _=_;rw[a3 R' _ (by rw[aRg];omega),e1];rfl
  .have ha:=hc.2.2.1;unfold xE at ha;rw[aRw] at ha;have:=aRX.1 ha.2 w7 aRm;obtain⟨a,ham,_,hg⟩:=SV this;rw[<-e1,hg];exact aRX.1 hc.2.2.2.1 a ham
 .cases h
structure a8U (P:List TE) (y:sF):Prop where
 lst:t8 P
 ok:yQ y=true
 rd: ∀(es:List sF) R,(es.any fun z=>decide (z.1=y.1))=false->es.length≠1000->(rD (qZ (P++R))).1≠3/\xY es (rD (qZ (P++R))) (qZ (P++R))=some (y,R)
inductive CZ:List (List TE)->List sF->Prop where
 |nil:CZ [] []
 |cons {P:List TE}{y:sF}{Ps:List (List TE)}{ys:List sF}:a8U P y->CZ Ps ys->CZ (P::Ps) (y::ys)
def A2:List (List TE)->Nat->pP
 |[],_=>[]
 |_::Ps,k=>(Ps.flatten.length+k)::A2 Ps k
theorem aN0 {es:List sF}{y:sF}(h:ES es) (h1:yQ y=true) (h2:(es.any fun z=>decide (z.1=y.1))=false) (h3:es.length≠1000):ES (es++[y]):=by
 have hl:=h.len;refine⟨by rw[aRg,aSB];omega,fun x hx=> ?_,?_⟩
 .rcases aR2.1 hx with hx|hx
  .exact h.ok x hx
  .rw[aRv.1 hx];exact h1
 .rw[aS7];refine⟨h.pw,List.pairwise_singleton _ _,fun a ha b hb=> ?_⟩;rw[aRv.1 hb];have:=aRV.1 h2 a ha;simpa using this
theorem aHd: ∀(n:Nat) (es:List sF) (ks:pP) (L:List TE) (es':List sF) (ks':pP) (r1:List TE),EX n es ks L=some (es',ks',r1)->ES es->
  ∃Ps ys T,L=Ps.flatten++T/\CZ Ps ys/\es'=es++ys/\ks'=ks++A2 Ps T.length/\r1=qZ T/\(rD r1).1=3/\ES es'
 |0,_,_,_,_,_,_,h,_=>by cases h
 |n+1,es,ks,L,es',ks',r1,h,hv=>by
  unfold EX at h;by_cases h3:(rD (qZ L)).1=3
  .rw[aRf h3] at h;cases h;exact⟨[],[],L,rfl,.nil,by simp,by simp [A2],rfl,h3,hv⟩
  .rw[aRk h3] at h;cases hx:xY es (rD (qZ L)) (qZ L) with
   |none=>rw[hx] at h;cases h
   |some w=>
    obtain⟨y,r⟩:=w;rw[hx] at h;dsimp only at h;obtain⟨P,e1,e2,e3,e4,e5,e6,e7,e8⟩:=aNY hx;obtain⟨Ps,ys,T,a1,a2,a3,a4,a5,a6,a7⟩:=aHd n _ _ _ _ _ _ h (aN0 hv e3 e4 e5);obtain⟨g1,g2⟩:=OR L P r e1 e2.ne;refine⟨(L.takeWhile vC++P)::Ps,y::ys,T,?_,.cons ⟨t8.app e2,e3,fun es2 R h1 h2=> ?_⟩ a2,?_,?_,a5,a6,a7⟩
    .rw[aR8,aRl,aRl,<-a1];exact g1
    .rw[aRl,g2];refine⟨?_,e8 es2 R h1 h2⟩;have hpk:rD (P++R)=rD (qZ L):=by rw[e1];exact EZ e2.ne
     rw[hpk];exact e6
    .rw[a3,aRl];rfl
    .rw[a4,aRl];show _=ks++((Ps.flatten.length+T.length)::A2 Ps T.length);rw[a1,aRg];rfl
theorem aHe: ∀(Ps:List (List TE)) (ys es:List sF) (ks:pP) (T:List TE) (n:Nat),CZ Ps ys->ES (es++ys)->(rD (qZ T)).1=3->Ps.length<n->
  EX n es ks (Ps.flatten++T)=some (es++ys,ks++A2 Ps T.length,qZ T)
 |[],ys,es,ks,T,n,hp,hv,h3,hn=>by
  cases hp;obtain⟨n,rfl⟩: ∃k,n=k+1:=⟨n-1,pF⟩;unfold EX;simp only[List.flatten_nil,List.nil_append];rw[aRf h3];simp [A2]
 |P::Ps,ys,es,ks,T,n,hp,hv,h3,hn=>by
  cases hp with
  |cons h1 h2=>
   rename_i y ys;obtain⟨n,rfl⟩: ∃k,n=k+1:=⟨n-1,pF⟩;have hpw:=hv.pw;rw[aS7] at hpw;have hf:(es.any fun z=>decide (z.1=y.1))=false:=by
    rw[aRV];intro z hz;have:=hpw.2.2 z hz y aRm;simpa using this
   have hl:es.length≠1000:=by
    have:=hv.len;rw[aRg,aRj] at this;omega
   obtain⟨k1,k2⟩:=h1.rd es (Ps.flatten++T) hf hl;unfold EX;rw[aR8,aRl,aRk k1,k2];dsimp only;simp only[aRj] at hn;rw[aHe Ps ys (es++[y]) _ T n h2 (by rw[aRl];exact hv) h3 pF,aRl,aRl];show some (es++(y::ys),ks++((Ps.flatten++T).length::A2 Ps T.length),qZ T)=some (es++(y::ys),ks++((Ps.flatten.length+T.length)::A2 Ps T.length),qZ T);rw[aRg]
structure SZ (H:List TE) (tag:pC) (st:G3):Prop where
 lst:t8 H
 tagk:xC tag=true
 com:wG st.1=true
 fld:vU st.2=true
 rd: ∀R,EW (H++R)=some (tag,st,R)
def OS (T:List TE):Prop:=(rD (qZ T)).1=3/\HP (qZ T)=true
theorem aN1 {L:List TE}(h:HP L=true): ∃r2 r3,uN xX L=some r2/\uN yS (qZ r2)=some r3/\(qZ r3).head?.map (·.1)=some 4:=by
 cases h1:uN xX L with
 |none=>rw[a8F h1] at h;cases h
 |some r2=>
  cases h2:uN yS (qZ r2) with
  |none=>rw[a8G h1 h2] at h;cases h
  |some r3=>
   rw[XR h1 h2] at h;exact⟨r2,r3,rfl,h2,aRU h⟩
theorem T0 {Ps:List (List TE)}{ys:List sF}(h:CZ Ps ys):Ps.length<=Ps.flatten.length/\Ps.length=ys.length:=by
 induction h with
 |nil=>simp
 |cons h1 _ ih=>
  have:=aRL.2 h1.lst.ne;simp only[aRj,aR8,aRg];omega
theorem aN2 {L:List TE}{c:C4}{ks:pP}(h:CW L=some (c,ks)): ∃H Ps T,L=H++(Ps.flatten++T)/\SZ H c.1 (c.2.1,c.2.2.1)/\CZ Ps c.2.2.2.1/\OS T/\ks=(Ps.flatten++T).length::A2 Ps T.length/\xU c=true/\ES c.2.2.2.1:=by
 unfold CW at h;cases hh:EW L with
 |none=>rw[hh] at h;cases h
 |some v=>
  obtain⟨tag,st,r⟩:=v;rw[hh] at h;dsimp only at h;obtain⟨H,e1,e2,e3,e4,e5,e6⟩:=aNZ hh;cases he:EX (r.length+1) [] [r.length] r with
  |none=>rw[he] at h;cases h
  |some w=>
   obtain⟨es,ks',r1⟩:=w;rw[he] at h;dsimp only at h;obtain⟨Ps,ys,T,a1,a2,a3,a4,a5,a6,a7⟩:=aHd _ _ _ _ _ _ _ he ⟨by simp,fun x hx=>(by cases hx),List.Pairwise.nil⟩;have a3':es=ys:=a3;subst a3';cases h1:uN xX r1 with
   |none=>rw[h1] at h;cases h
   |some r2=>
    rw[h1] at h;dsimp only at h;cases h2:uN yS (qZ r2) with
    |none=>rw[h2] at h;cases h
    |some r3=>
     rw[h2] at h;dsimp only at h;by_cases hd:(qZ r3).head?.map (·.1)=some 4
     .rw[aRf hd] at h;have e0:=aRi h;have ec:(tag,(st.1,(st.2,(es,()))))=c:=aRx Prod.fst e0;have ek:ks'=ks:=aRx Prod.snd e0;subst ec ek;refine⟨H,Ps,T,by rw[<-a1];exact e1,⟨e2,e4,e5,e6,e3⟩,a2,⟨by rw[<-a5];exact a6,by rw[<-a5,XR h1 h2];exact aRF hd⟩,?_,aGa e4 e5 e6 a7,a7⟩;rw[a4,<-a1];rfl
     .rw[aRk hd] at h;cases h
theorem aN3 {H:List TE}{Ps:List (List TE)}{T:List TE}{c:C4}(h1:SZ H c.1 (c.2.1,c.2.2.1)) (h2:CZ Ps c.2.2.2.1) (h3:ES c.2.2.2.1) (h4:OS T):CW (H++(Ps.flatten++T))=some (c,(Ps.flatten++T).length::A2 Ps T.length):=by
 obtain⟨r2,r3,k1,k2,k3⟩:=aN1 h4.2;have hl:=(T0 h2).1;have he:=aHe Ps c.2.2.2.1 [] [(Ps.flatten++T).length] T ((Ps.flatten++T).length+1) h2 h3 h4.1 (by rw[aRg];omega);unfold CW;rw[h1.rd];dsimp only;rw[he];dsimp only;rw[k1];dsimp only;rw[k2];dsimp only;rw[aRf k3];rfl
end
noncomputable section
def sP (P:List TE):pC:=P.flatMap (·.2)
theorem HT (P Q:List TE):sP (P++Q)=sP P++sP Q:=by simp [sP]
theorem M4 (t:TE) (Q:List TE):sP (t::Q)=t.2++sP Q:=rfl
theorem aHf: ∀(n m:Nat) (s:pC),s.length<n->s.length<m->HO n s=HO m s
 |0,_,_,h,_=>by omega
 |_+1,0,_,_,h=>by omega
 |n+1,m+1,s,h1,h2=>by
  unfold HO;by_cases hs:s=[]
  .rw[aRf hs,aRf hs]
  .rw[aRk hs,aRk hs];by_cases h0:(rX s).1=0
   .rw[aRf h0,aRf h0]
   .have hp:=(OQ hs).2.1 h0;have hl:=aRL.2 hs;rw[aRk h0,aRk h0,aHf n m _ (by rw[aRA];omega) (by rw[aRA];omega)]
theorem a8V:tT []=[(4,[])]:=rfl
theorem XX {s:pC}(hs:s≠[]) (h0:(rX s).1≠0):tT s=rX s::tT (s.drop (rX s).2.length):=by
 have hp:=(OQ hs).2.1 h0;have hl:=aRL.2 hs;unfold tT;rw[HO,aRk hs,aRk h0];congr 1;exact aHf _ _ _ (by rw[aRA];omega) pF
theorem a8W {s:pC}(hs:s≠[]) (h0:(rX s).1=0):tT s=[rX s]:=by
 unfold tT;rw[HO,aRk hs,aRf h0]
theorem aN4 {s:pC}(h0:(rX s).1≠0):(rX s).2=s.take (rX s).2.length:=by
 unfold rX at h0|-;split
 .rename_i h;rw[aRf h] at h0;exact absurd rfl h0
 .rename_i h;dsimp only;rw[aRD];rcases Nat.le_total (vR s).2.toNat s.length with h1|h1
  .rw[Nat.min_eq_left h1]
  .rw[Nat.min_eq_right h1,List.take_length,List.take_of_length_le h1]
theorem aHg {s:pC}(h0:(rX s).1≠0):s=(rX s).2++s.drop (rX s).2.length:=by
 have h:=aN4 h0;have h2:=(aSQ (rX s).2.length s).symm;rw[<-h] at h2;exact h2
theorem a8X: ∀(P R:List TE) (s:pC),tT s=P++R->R≠[]->∃u,s=sP P++u/\tT u=R
 |[],R,s,h,_=>⟨s,rfl,h⟩
 |t::P,R,s,h,hR=>by
  by_cases hs:s=[]
  .subst hs;rw[a8V] at h;have:=aRx List.length h;have hp:=aRL.2 hR;simp only[aRj,aRq,List.cons_append,aRg] at this;omega
  .by_cases h0:(rX s).1=0
   .rw[a8W hs h0] at h;have:=aRx List.length h;have hp:=aRL.2 hR;simp only[aRj,aRq,List.cons_append,aRg] at this;omega
   .rw[XX hs h0] at h;injection h with e1 e2
    obtain⟨u,h1,h2⟩:=a8X P R _ e2 hR;refine⟨u,?_,h2⟩;rw[M4,<-e1,aRl,<-h1];exact aHg h0
theorem a8Y: ∀(s u:pC) (q:Bool) (k:Nat),clo q s=some k->clo q (s++u)=some k
 |[],_,_,_,h=>by cases h
 |b::r,u,q,k,h=>by
  rw[List.cons_append];unfold clo at h|-;by_cases h1:b=34
  .rw[aRf h1] at h|-;obtain⟨j,hj,rfl⟩:=aRn.1 h;rw[a8Y r u _ j hj];rfl
  .rw[aRk h1] at h|-;by_cases h2:b=62/\q=false
   .rw[aRf h2] at h|-;exact h
   .rw[aRk h2] at h|-;obtain⟨j,hj,rfl⟩:=aRn.1 h;rw[a8Y r u _ j hj];rfl
theorem a8Z: ∀(s:pC) (q:Bool) (k:Nat),clo q s=some k->clo q (s.take (k+1))=some k/\s[k]? =some 62
 |[],_,_,h=>by cases h
 |b::r,q,k,h=>by
  unfold clo at h;by_cases h1:b=34
  .rw[aRf h1] at h;obtain⟨j,hj,rfl⟩:=aRn.1 h;obtain⟨e1,e2⟩:=a8Z r _ j hj;refine⟨?_,by simpa using e2⟩;rw[List.take_succ_cons];unfold clo;rw[aRf h1,e1];rfl
  .rw[aRk h1] at h;by_cases h2:b=62/\q=false
   .rw[aRf h2] at h;cases h;refine⟨?_,by simp [h2.1]⟩;rw[List.take_succ_cons];unfold clo;rw[aRk h1,aRf h2]
   .rw[aRk h2] at h;obtain⟨j,hj,rfl⟩:=aRn.1 h;obtain⟨e1,e2⟩:=a8Z r _ j hj;refine⟨?_,by simpa using e2⟩;rw[List.take_succ_cons];unfold clo;rw[aRk h1,aRk h2,e1];rfl
theorem XY {k:Nat}{s:pC}(h1:xB s=false) (h2:s.head? =some 60) (h3:clo false s=some k):rX s=(2,s.take (k+1)):=by
 have hc:AX s=(k:Int):=by unfold AX;rw[h3]
 have hn:vR s=(2,(k:Int)+1):=by
  unfold vR;rw[aRk (by rw[h1];decide),aRf h2,hc,aRk pF]
 unfold rX;rw[hn,aRk (by dsimp only;omega)];show (2,s.take ((k:Int)+1).toNat)=_;rw[show ((k:Int)+1).toNat=k+1 by omega]
theorem aHh {s:pC}(h:(rX s).1=2):xB s=false/\s.head? =some 60/\∃k,clo false s=some k/\rX s=(2,s.take (k+1)):=by
 have hN:(vR s).1=2/\¬(vR s).2<0:=by
  unfold rX at h;split at h
  .cases h
  .rename_i hn;exact⟨h,hn⟩
 unfold vR at hN;by_cases hi:xB s=true
 .rw[aRf hi] at hN;exact absurd hN.1 pH
 .rw[aRk hi] at hN;by_cases h60:s.head? =some 60
  .rw[aRf h60] at hN;cases hc:clo false s with
   |none=>
    have:AX s= -1:=by unfold AX;rw[hc]
    rw[this] at hN;exact absurd pG hN.2
   |some k=>
    have hi':xB s=false:=by simpa using hi
    exact⟨hi',h60,k,rfl,XY hi' h60 hc⟩
  .rw[aRk h60] at hN;exact absurd hN.1 pH
theorem aN5 {s:pC}(h:(rX s).1=2) (u:pC):rX ((rX s).2++u)=rX s:=by
 obtain⟨h1,h2,k,h3,h4⟩:=aHh h;rw[h4];dsimp only;obtain⟨e1,e2⟩:=a8Z s false k h3;have hk:k<s.length:=WK h3;have hlen:(s.take (k+1)).length=k+1:=by rw[aRD];omega
 have hc:=a8Y (s.take (k+1)) u false k e1;have hh:(s.take (k+1)++u).head? =some 60:=by
  cases s with
  |nil=>cases h2
  |cons b r=>rw[List.take_succ_cons];exact h2
 have hn:xB (s.take (k+1)++u)=false:=by
  cases hq:xB (s.take (k+1)++u) with
  |false=>rfl
  |true=>
   exfalso;unfold xB at hq h1;have hq:=aRU hq;have h1:=of_decide_eq_false h1;by_cases h4:4<=k+1
   .rw[aSa pF,List.take_take,Nat.min_eq_left h4] at hq;exact h1 hq
   .have h5:((s.take (k+1)++u).take 4)[k]? =some 62:=by
     rw[aSv,aRf pF,aRz pF,aSv,aRf pF];exact e2
    rw[hq] at h5;have:k=0\/k=1\/k=2:=by omega
    rcases this with rfl|rfl|rfl<;>simp [L1] at h5
 rw[XY hn hh hc,aSa pF,List.take_of_length_le pF]
end
noncomputable section
theorem XZ {s sub:pC}{i:Nat}:Lib.occAt s sub i=true↔(s.drop i).take sub.length=sub:=by
 unfold Lib.occAt;rw[List.isPrefixOf_iff_prefix,List.prefix_iff_eq_take];exact eq_comm
theorem aHi {l u:pC}{m j n:Nat}(h:j+n<=m) (hm:m<=l.length):((l.take m++u).drop j).take n=(l.drop j).take n:=by
 rw[List.drop_append_of_le_length (by rw[aRD];omega),aSa (by rw[aRA,aRD];omega),List.drop_take,List.take_take,Nat.min_eq_left pF]
abbrev F0:pC:=[45,45,62]
theorem aN6 {l u:pC}{i:Nat}(h:Lib.index l F0=i):Lib.index (l.take (i+3)++u) F0=i/\i+3<=l.length:=by
 have hr:=Lib.index_room l F0 pF;simp only[aRj,aRq] at hr;have hl:i+3<=l.length:=by omega
 rcases Lib.index_spec l F0 with⟨h1,_⟩ |⟨k,h1,h2,h3⟩
 .omega
 .have hk:k=i:=by omega
  subst hk;refine⟨Lib.index_first (by rw[aRg,aRD];omega) ?_ fun j hj=> ?_,hl⟩
  .rw[XZ,aHi (by simp only[aRj,aRq];omega) hl];exact XZ.1 h3.1
  .cases hq:Lib.occAt (l.take (k+3)++u) F0 j with
   |false=>rfl
   |true=>
    rw[XZ,aHi (by simp only[aRj,aRq];omega) hl] at hq;have:=XZ.2 hq;rw[h3.2 j hj] at this;cases this
theorem aHj {s:pC}{i:Nat}(h1:xB s=true) (h2:Lib.index (s.drop 4) F0=i):rX s=(1,s.take (i+7)):=by
 have hn:vR s=(1,(i:Int)+7):=by
  unfold vR;rw[aRf h1,h2,aRf pF]
 unfold rX;rw[hn,aRk (by dsimp only;omega)];show (1,s.take ((i:Int)+7).toNat)=_;rw[show ((i:Int)+7).toNat=i+7 by omega]
theorem aHk {s:pC}(h:(rX s).1=1):xB s=true/\∃i:Nat,Lib.index (s.drop 4) F0=i/\rX s=(1,s.take (i+7)):=by
 have hN:(vR s).1=1/\¬(vR s).2<0:=by
  unfold rX at h;split at h
  .cases h
  .rename_i hn;exact⟨h,hn⟩
 unfold vR at hN;by_cases hi:xB s=true
 .rw[aRf hi] at hN;by_cases h0:0<=Lib.index (s.drop 4) F0
  .obtain⟨i,hi2⟩: ∃i:Nat,Lib.index (s.drop 4) F0=i:=⟨(Lib.index (s.drop 4) F0).toNat,pF⟩;exact⟨hi,i,hi2,aHj hi hi2⟩
  .rw[aRk h0] at hN;exact absurd (show Lib.index (s.drop 4) F0<0 by omega) hN.2
 .rw[aRk hi] at hN;by_cases h60:s.head? =some 60
  .rw[aRf h60] at hN;exact absurd hN.1 pH
  .rw[aRk h60] at hN;exact absurd hN.1 pH
theorem aN7 {s:pC}(h:(rX s).1=1) (u:pC):rX ((rX s).2++u)=rX s:=by
 obtain⟨h1,i,h2,h3⟩:=aHk h;obtain⟨e1,e2⟩:=aN6 (u:=u) h2;rw[aRA] at e2;rw[h3];dsimp only;have hn:xB (s.take (i+7)++u)=true:=by
  unfold xB at h1|-;have h1:=aRU h1;rw[aSa (by rw[aRD];omega),List.take_take,Nat.min_eq_left pF];exact aRF h1
 have hd:(s.take (i+7)++u).drop 4=(s.drop 4).take (i+3)++u:=by
  rw[List.drop_append_of_le_length (by rw[aRD];omega),List.drop_take];rfl
 rw[aHj (i:=i) hn (by rw[hd];exact e1),aSa (by rw[aRD];omega),List.take_take,Nat.min_self]
theorem aHl: ∀(w:pC),(∀b∈w,b≠60)->Lib.indexByte w 60= -1
 |[],_=>rfl
 |b::w,h=>by
  have ih:=aHl w (fun c hc=>h c (aRo _ hc));have hb: ¬(b==60)=true:=by simpa using h b aRm
  unfold Lib.indexByte;rw[aRk hb,ih];rfl
theorem aHm: ∀(w u:pC),(∀b∈w,b≠60)->Lib.indexByte (w++60::u) 60=w.length
 |[],_,_=>rfl
 |b::w,u,h=>by
  have ih:=aHm w u (fun c hc=>h c (aRo _ hc));have hb: ¬(b==60)=true:=by simpa using h b aRm
  rw[List.cons_append];unfold Lib.indexByte;rw[aRk hb,ih,aRk pH,aRj];omega
theorem aHn: ∀(s:pC),(∀b∈s,b≠60)\/∃w u,s=w++60::u/\∀b∈w,b≠60
 |[]=> .inl (fun b hb=>by cases hb)
 |b::s=>by
  by_cases hb:b=60
  .subst hb;exact .inr ⟨[],s,rfl,fun b hb=>by cases hb⟩
  .rcases aHn s with h|⟨w,u,rfl,h⟩
   .exact .inl fun c hc=>by rcases aRu.1 hc with rfl|hc;exact hb;exact h c hc
   .exact .inr ⟨b::w,u,rfl,fun c hc=>by rcases aRu.1 hc with rfl|hc;exact hb;exact h c hc⟩
theorem aHo {s:pC}(h:s.head?≠some 60):xB s=false:=by
 unfold xB;refine decide_eq_false fun e=>h ?_;cases s with
 |nil=>cases e
 |cons b r=>
  rw[List.take_succ_cons] at e;injection e with e1 _
  rw[e1];rfl
theorem a80 {w u:pC}(hw:w≠[]) (h: ∀b∈w,b≠60) (hu:u=[]\/u.head? =some 60):rX (w++u)=(3,w):=by
 have hh:(w++u).head?≠some 60:=by
  cases w with
  |nil=>exact absurd rfl hw
  |cons b r=>
   intro e;have:b=60:=by simpa using e
   exact h b aRm this
 have hn:vR (w++u)=(3,(w.length:Int)):=by
  unfold vR;rw[aRk (by rw[aHo hh];decide),aRk hh];rcases hu with rfl|hu
  .rw[List.append_nil,aHl w h,aRf pG]
  .cases u with
   |nil=>cases hu
   |cons b r=>
    have:b=60:=by simpa using hu
    subst this;rw[aHm w r h,aRk pF]
 unfold rX;rw[hn,aRk (by dsimp only;omega)];show (3,(w++u).take (w.length:Int).toNat)=_;rw[aR0,aSd]
theorem aN8 {s:pC}(hs:s≠[]) (h:(rX s).1=3): ∃w u,s=w++u/\w≠[]/\(∀b∈w,b≠60)/\(u=[]\/u.head? =some 60)/\rX s=(3,w):=by
 have hN:(vR s).1=3:=by
  unfold rX at h;split at h
  .cases h
  .exact h
 unfold vR at hN;by_cases hi:xB s=true
 .rw[aRf hi] at hN;exact absurd hN pH
 .rw[aRk hi] at hN;by_cases h60:s.head? =some 60
  .rw[aRf h60] at hN;exact absurd hN pH
  .rcases aHn s with h1|⟨w,u,rfl,h1⟩
   .exact⟨s,[],(List.append_nil s).symm,hs,h1,.inl rfl,by have:=a80 hs h1 (u:=[]) (.inl rfl);rwa [List.append_nil] at this⟩
   .have hw:w≠[]:=fun e=>by subst e;exact h60 rfl
    exact⟨w,60::u,rfl,hw,h1,.inr rfl,a80 hw h1 (.inr rfl)⟩
def wA:List TE->Prop
 |[]=>True
 |t::r=>t.2≠[]/\(((t.1=1\/t.1=2)/\t.2.head? =some 60/\∀u,rX (t.2++u)=t)\/(t.1=3/\(∀b∈t.2,b≠60)/\∃v q,r=v::q/\v.2.head? =some 60))/\wA r
theorem a81: ∀(P:List TE),wA P->∀u,tT (sP P++u)=P++tT u
 |[],_,u=>rfl
 |t::r,h,u=>by
  obtain⟨h1,h2,h3⟩:=h;have ih:=a81 r h3 u;have hf:rX (t.2++(sP r++u))=t:=by
   rcases h2 with⟨_,_,h2⟩ |⟨h2,h4,v,q,rfl,hv⟩
   .exact h2 _
   .have hh:(sP (v::q)++u).head? =some 60:=by
     rw[M4];cases hv2:v.2 with
     |nil=>rw[hv2] at hv;cases hv
     |cons b x=>rw[hv2] at hv;exact hv
    rw[a80 h1 h4 (.inr hh)];exact Prod.ext h2.symm rfl
  have hne:t.2++(sP r++u)≠[]:=by simp [h1]
  have h0:(rX (t.2++(sP r++u))).1≠0:=by
   rw[hf];rcases h2 with⟨h2|h2,_⟩ |⟨h2,_⟩<;>rw[h2]<;>decide
  rw[M4,aRl,XX hne h0,hf,aSD,ih];rfl
theorem aN9 {s:pC}(hs:s≠[]) (h0:(rX s).1≠0):(rX s).1=1\/(rX s).1=2\/(rX s).1=3:=(OQ hs).2.2.2.resolve_left h0
theorem aOa {s:pC}(h:xB s=true):s.head? =some 60:=by
 cases hh:decide (s.head? =some 60) with
 |true=>exact aRU hh
 |false=>rw[aHo (of_decide_eq_false hh)] at h;cases h
theorem a82: ∀(P R:List TE) (s:pC),tT s=P++R->R≠[]->t8 P->wA P
 |[],_,_,_,_,_=>trivial
 |t::P,R,s,h,hR,hl=>by
  have hs:s≠[]:=by
   rintro rfl;rw[a8V] at h;have:=aRx List.length h;have hp:=aRL.2 hR;simp only[aRj,aRq,List.cons_append,aRg] at this;omega
  have h0:(rX s).1≠0:=by
   intro h0;rw[a8W hs h0] at h;have:=aRx List.length h;have hp:=aRL.2 hR;simp only[aRj,aRq,List.cons_append,aRg] at this;omega
  rw[XX hs h0] at h;injection h with e1 e2
  have e2:tT (s.drop (rX s).2.length)=P++R:=e2;have hne:t.2≠[]:=by
   have:=(OQ hs).2.1 h0;rw[e1] at this;exact aRL.1 this
  have hrest:P=[]\/t8 P:=by
   obtain⟨Q,v,hq,hv⟩:=hl;cases Q with
   |nil=>left;injection hq with _ hq
   |cons w Q=>right;injection hq with _ hq;exact⟨Q,v,hq,hv⟩
  have hseg:wA P:=by
   rcases hrest with rfl|hl2
   .trivial
   .exact a82 P R _ e2 hR hl2
  have head60: ∀{x:pC},x≠[]->x.head? =some 60->(rX x).1≠0->(rX x).2.head? =some 60:=by
   intro x hx h1 h2;have hsp:=aHg h2;have hp:=(OQ hx).2.1 h2;cases hq:(rX x).2 with
   |nil=>rw[hq] at hp;simp at hp
   |cons b q=>rw[hsp,hq] at h1;exact h1
  refine⟨hne,?_,hseg⟩;rcases aN9 hs h0 with k|k|k
  .left;refine⟨.inl (by rw[<-e1];exact k),?_,fun u=>by rw[<-e1];exact aN7 k u⟩;rw[<-e1];exact head60 hs (aOa (aHk k).1) h0
  .left;refine⟨.inr (by rw[<-e1];exact k),?_,fun u=>by rw[<-e1];exact aN5 k u⟩;rw[<-e1];exact head60 hs (aHh k).2.1 h0
  .right;obtain⟨w,u,hw1,hw2,hw3,hw4,hw5⟩:=aN8 hs k;have ht:t=(3,w):=by rw[<-e1];exact hw5
   have hPne:P≠[]:=by
    rintro rfl;obtain⟨Q,v,hq,hv⟩:=hl;cases Q with
    |nil=>injection hq with hq _;rw[<-hq,ht] at hv;simp at hv
    |cons x Q=>injection hq with _ hq;have:=aRx List.length hq;simp at this
   have hu:s.drop (rX s).2.length=u:=by rw[hw5,hw1,aSD]
   rw[hu] at e2;refine⟨by rw[ht],by rw[ht];exact hw3,?_⟩;cases P with
   |nil=>exact absurd rfl hPne
   |cons v q=>
    refine⟨v,q,rfl,?_⟩;rcases hw4 with rfl|hu60
    .rw[a8V] at e2;have:=aRx List.length e2;have hp:=aRL.2 hR;simp only[aRj,aRq,List.cons_append,aRg] at this;omega
    .have hune:u≠[]:=by rintro rfl;cases hu60
     by_cases hu0:(rX u).1=0
     .rw[a8W hune hu0] at e2;have:=aRx List.length e2;have hp:=aRL.2 hR;simp only[aRj,aRq,List.cons_append,aRg] at this;omega
     .rw[XX hune hu0] at e2;injection e2 with e3 _
      rw[<-e3];exact head60 hune hu60 hu0
end
noncomputable section
theorem aHp {T:List TE}(h:OS T):T≠[]:=by
 rintro rfl;have:=h.1;simp [qZ,rD,eN] at this
theorem aHq: ∀(Ps:List (List TE)) (ys:List sF) (T:List TE) (u:pC),tT u=Ps.flatten++T->CZ Ps ys->T≠[]->∃tl,u=(Ps.map sP).flatten++tl/\tT tl=T/\∀P∈Ps,wA P
 |[],_,T,u,h,_,_=>⟨u,rfl,h,fun P hP=>by cases hP⟩
 |P::Ps,ys,T,u,h,he,hT=>by
  cases he with
  |cons h1 h2=>
   rw[aR8,aRl] at h;have hR:Ps.flatten++T≠[]:=by simp [hT]
   have hs:=a82 P _ u h hR h1.lst;obtain⟨v,e1,e2⟩:=a8X P _ u h hR;obtain⟨tl,a1,a2,a3⟩:=aHq Ps _ T v e2 h2 hT;refine⟨tl,?_,a2,fun Q hQ=> ?_⟩
   .rw[e1,a1,aSi,aR8,aRl]
   .rcases aRu.1 hQ with rfl|hQ
    .exact hs
    .exact a3 Q hQ
structure JK (s:pC) (c:C4) (H:List TE) (Ps:List (List TE)) (tl:pC):Prop where
 eq:s=sP H++((Ps.map sP).flatten++tl)
 lx:tT s=H++(Ps.flatten++tT tl)
 hd:SZ H c.1 (c.2.1,c.2.2.1)
 ents:CZ Ps c.2.2.2.1
 inv:ES c.2.2.2.1
 tail:OS (tT tl)
 ok:xU c=true
 segH:wA H
 segP: ∀P∈Ps,wA P
theorem aOb {s:pC}{c:C4}{ks:pP}(h:CW (tT s)=some (c,ks)): ∃H Ps tl,JK s c H Ps tl/\ks=(Ps.flatten++tT tl).length::A2 Ps (tT tl).length:=by
 obtain⟨H,Ps,T,h1,h2,h3,h4,h5,h6,h7⟩:=aN2 h;have hT:=aHp h4;have hR:Ps.flatten++T≠[]:=by simp [hT]
 have hs:=a82 H _ s h1 hR h2.lst;obtain⟨u,e1,e2⟩:=a8X H _ s h1 hR;obtain⟨tl,a1,a2,a3⟩:=aHq Ps _ T u e2 h3 hT;subst a2;exact⟨H,Ps,tl,⟨by rw[e1,a1],h1,h2,h3,h7,h4,h6,hs,a3⟩,h5⟩
theorem aHr: ∀(Ps:List (List TE)) (tl:pC),(∀P∈Ps,wA P)->tT ((Ps.map sP).flatten++tl)=Ps.flatten++tT tl
 |[],_,_=>rfl
 |P::Ps,tl,h=>by
  rw[aSi,aR8,aRl,a81 P (h P aRm),aHr Ps tl (fun Q hQ=>h Q (aRo _ hQ)),aR8,aRl]
theorem aOc {c:C4}{H:List TE}{Ps:List (List TE)}{tl:pC}(h1:SZ H c.1 (c.2.1,c.2.2.1)) (h2:CZ Ps c.2.2.2.1) (h3:ES c.2.2.2.1) (h4:OS (tT tl)) (h5:wA H) (h6: ∀P∈Ps,wA P):
  JK (sP H++((Ps.map sP).flatten++tl)) c H Ps tl/\CW (tT (sP H++((Ps.map sP).flatten++tl)))=some (c,(Ps.flatten++tT tl).length::A2 Ps (tT tl).length):=by
 have hl:tT (sP H++((Ps.map sP).flatten++tl))=H++(Ps.flatten++tT tl):=by rw[a81 H h5,aHr Ps tl h6]
 exact⟨⟨rfl,hl,h1,h2,h3,h4,aGa h1.tagk h1.com h1.fld h3,h5,h6⟩,by rw[hl];exact aN3 h1 h2 h3 h4⟩
theorem aHs {T:List t6}(hc:B7 T) (h0: ∀t r,T=t::r->t.2.2.1=0): ∀(k:Nat) (hk:k<T.length),(T[k]).2.2.1=((sP ((T.map er).take k)).length:Int)
 |0,hk=>by
  cases T with
  |nil=>simp at hk
  |cons t r=>simpa[sP] using h0 t r rfl
 |k+1,hk=>by
  have ih:=aHs hc h0 k pF;rw[hc k hk,ih,List.take_add_one,aRr (by rw[aR6];omega),HT,aRg];simp [sP,er]
theorem aHt {s:pC}(hs:s.length<=900000000) {P R:List TE}(h:tT s=P++R) (hR:R≠[]):z8 (vS s) R.length=((sP P).length:Int):=by
 obtain⟨_,hc⟩:=aGT hs;have he:=aGS s;have hlen:(vS s).length=P.length+R.length:=by
  have:=aRx List.length he;rw[aR6,h,aRg] at this;exact this
 have hp:=aRL.2 hR;have h0: ∀t r,vS s=t::r->t.2.2.1=0:=by
  intro t r e;obtain⟨t',r',e1,e2⟩:=a8D (s:=s) (n:=s.length+1) (i:=0) pF (aSo _);have e1:vS s=t'::r':=e1;rw[e] at e1;injection e1 with e3 _
  rw[e3];exact e2
 obtain⟨k,hk0⟩: ∃k,k=(vS s).length-R.length:=⟨_,rfl⟩;have hkP:k=P.length:=by omega
 have hk:k<(vS s).length:=by omega
 have ht:(P++R).take k=P:=by rw[hkP,aSd]
 have hpa:=aHs hc h0 k hk;rw[he,h,ht] at hpa;unfold z8 EV;rw[<-hk0,aRW hk,JF];exact hpa
theorem aHu {s:pC}(hs:s.length<=900000000): ∀(Ps:List (List TE)) (Q T:List TE),tT s=Q++(Ps.flatten++T)->T≠[]->
  (A2 Ps T.length).map (z8 (vS s))=(DH (sP Q).length (Ps.map sP)).map fun k:Nat=>(k:Int)
 |[],_,_,_,_=>rfl
 |P::Ps,Q,T,h,hT=>by
  have h':tT s=(Q++P)++(Ps.flatten++T):=by rw[h,aR8];simp only[aRl]
  have ih:=aHu hs Ps (Q++P) T h' hT;have hp:=aHt hs h' (by simp [hT]);rw[aRg] at hp;rw[HT,aRg] at ih hp;show z8 (vS s) (Ps.flatten.length+T.length)::(A2 Ps T.length).map _=_;rw[hp,ih];rfl
theorem aHv {s:pC}(hs:s.length<=900000000) {c:C4}{H:List TE}{Ps:List (List TE)}{tl:pC}(h:JK s c H Ps tl):
  ((Ps.flatten++tT tl).length::A2 Ps (tT tl).length).map (z8 (vS s))=((sP H).length::DH (sP H).length (Ps.map sP)).map fun k:Nat=>(k:Int):=by
 have hT:=aHp h.tail;rw[aSi,aSi,aHu hs Ps H _ h.lx hT,aHt hs h.lx (by simp [hT])]
theorem Y0 {L:pP}{j:Nat}:qU (.int .i64) (L.map fun k:Nat=>(k:Int)) (j:Int)=((L.getD j 0:Nat):Int):=by
 unfold qU;rw[aR0,aRO,List.getElem?_map,aRO];cases L[j]? <;>rfl
theorem a83 {s a b c:pC}(h:s=a++(b++c)) {x y:Nat}(hx:x=a.length) (hy:y=a.length+b.length):sC s (x:Int) (y:Int)=b:=by
 subst hx hy;have:=aNa h;exact this
theorem aHw {s h tl:pC}{ps:pD}(hs:s.length<=900000000) (hq:s=h++(ps.flatten++tl)) (hn:ps.length<=1000) {r:((List s9)×Int×Int×pC×pD×(List r6)×(List sF)×pL×pJ)}(he:yO s=some r) (h0:r.2.2.1=0) (hE:r.2.2.2.2.2.2.2.1=(h.length::DH h.length ps).map fun k:Nat=>(k:Int)):
  zX s=some (h,ps,tl,0):=by
 have hL:(h.length::DH h.length ps).length=ps.length+1:=by rw[aRj,aGc]
 have hget: ∀j,j<=ps.length->(h.length::DH h.length ps).getD j 0=h.length+(ps.take j).flatten.length:=fun j hj=>aGd ps _ j hj;have hsl:s.length=h.length+ps.flatten.length+tl.length:=by rw[hq];simp only[aRg];omega
 have hle: ∀j,(ps.take j).flatten.length<=ps.flatten.length:=fun j=>by
  have:=aRx List.length (aGe ps j);rw[aRg] at this;omega
 have hEl:(r.2.2.2.2.2.2.2.1.length:Int)=((ps.length+1:Nat):Int):=by rw[hE,aR6,hL]
 have k:=SH (f:=OB s r) (fun i b=>(i+1,b)) (fun b=>b) (n:=ps.length) (M:=1000000) (B:=1) (fun i=>[ps.getD i []]) (fun i hi=>by simp) [] pI (fun i b hi hM=>by
  have e1:=hget i pF;have e2:=hget (i+1) pF;have e3:(ps.take (i+1)).flatten=(ps.take i).flatten++ps[i]:=by
   rw[List.take_add_one,aRr hi,List.flatten_append];simp
  have e4:s=(h++(ps.take i).flatten)++(ps[i]++((ps.drop (i+1)).flatten++tl)):=by
   rw[hq,aGe ps i,aRW hi,aR8];simp only[aRl]
  have e5:sC s ((h.length::DH h.length ps).getD i 0:Nat) ((h.length::DH h.length ps).getD (i+1) 0:Nat)=ps[i]:=a83 e4 (by rw[e1,aRg]) (by rw[e2,e3,aRg,aRg];omega);have e6:=hle (i+1);have e7:(ps.take i).flatten.length<=(ps.take (i+1)).flatten.length:=by rw[e3,aRg];omega
  have hsub:((i:Int)+1)-1=(i:Int):=by omega
  have hcast:(i:Int)+1=((i+1:Nat):Int):=rfl;unfold OB;dsimp only;rw[hsub,hEl,aRf pI,aRf (by unfold qC;omega),aRf ⟨pF,pF⟩,aRf ⟨pF,pF⟩,hE,hcast,Y0,Y0,e5,e1,e2,aRf (by show (0:Int)<=((h.length+(ps.take i).flatten.length:Nat):Int)/\((h.length+(ps.take i).flatten.length:Nat):Int)<=((h.length+(ps.take (i+1)).flatten.length:Nat):Int)/\((h.length+(ps.take (i+1)).flatten.length:Nat):Int)<=(s.length:Int);omega),aRf pI,aRf (by unfold qC;omega),BU hi]) (fun b=>by
  unfold OB;dsimp only;rw[hEl,aRk pH])
 have k':rU (OB s r) ((1:Int),[])=_:=k;have z0:=hget 0 pF;have zl:=hget ps.length (aRE _);rw[List.take_length] at zl;have hl1:((ps.length+1:Nat):Int)-1=(ps.length:Int):=by omega
 unfold zX;rw[he,aRe,h0,aRk pG,hEl,hl1,hE];rw[show (0:Int)=((0:Nat):Int) from rfl,Y0,Y0,z0,zl];rw[aRf ⟨pF,pF⟩,aRf ⟨pF,pF,by simp;omega⟩,aRf (by unfold qC;omega),aRf ⟨pF,pF⟩];rw[aRf (by show (0:Int)<=((h.length+ps.flatten.length:Nat):Int)/\((h.length+ps.flatten.length:Nat):Int)<=(s.length:Int)/\(s.length:Int)<=(s.length:Int);omega)];rw[k',SI (l:=ps) (d:=[]) (fun x=>[x])];unfold sJ;rw[aRe,List.nil_append,aF4,List.map_id'];have c1:sC s ((0:Nat):Int) ((h.length+(List.take 0 ps).flatten.length:Nat):Int)=h:=a83 (a:=[]) (b:=h) (c:=ps.flatten++tl) hq rfl pH;have c2:sC s ((h.length+ps.flatten.length:Nat):Int) (s.length:Int)=tl:=a83 (a:=h++ps.flatten) (b:=tl) (c:=[]) (by rw[hq];simp) pH (by rw[hsl];simp only[aRg]);rw[c1,c2]
theorem aOd {s:pC}{r:((List s9)×Int×Int×pC×pD×(List r6)×(List sF)×pL×pJ)}(he:yO s=some r) (h0:r.2.2.1≠0):zX s=some ([],[],[],r.2.2.1):=by
 unfold zX;rw[he,aRe,aRf (by simpa using h0)]
theorem aOe {s:pC}(hs:s.length<=900000000):
  (∃c H Ps tl,JK s c H Ps tl/\(∃ks,CW (tT s)=some (c,ks))/\B4 s=some (c.1,c.2.1,c.2.2.1,c.2.2.2.1,0,0)/\zX s=some (sP H,Ps.map sP,tl,0))\/
  (∃p e,e≠0/\CW (tT s)=none/\B4 s=some ([],[],[],[],p,e)/\zX s=some ([],[],[],e)):=by
 obtain⟨r,hr,hm⟩:=aGW hs;cases hp:CW (tT s) with
 |none=>
  rw[hp] at hm;dsimp only at hm;right;refine⟨r.2.1,r.2.2.1,hm,rfl,?_,aOd hr hm⟩;unfold B4;rw[hr,aRe,aRf (by simpa using hm)]
 |some w=>
  obtain⟨c,ks⟩:=w;rw[hp] at hm;obtain⟨m1,m2,m3⟩:=hm;obtain⟨H,Ps,tl,hb,hk⟩:=aOb hp;left;refine⟨c,H,Ps,tl,hb,⟨ks,rfl⟩,?_,?_⟩
  .unfold B4;rw[hr,aRe,aRk (by rw[m1];decide),<-m2]
  .refine aHw hs hb.eq ?_ hr m1 ?_
   .rw[aR6,(T0 hb.ents).2];exact hb.inv.len
   .rw[m3,hk];exact aHv hs hb
end
noncomputable section
theorem a84 (s:pC):sZ s [32]=Lib.splitK [32] 0 (Lib.count s [32]) s:=by
 unfold sZ;rw[Lib.splitB_data]
theorem aOf {s:pC}(h: ∀b∈s,b≠32):Lib.index s [32]= -1:=by
 rw[Lib.index_one]
 induction s with
 |nil=>rfl
 |cons b w ih=>
  have ih:=ih (fun c hc=>h c (aRo _ hc));have hb: ¬(b==32)=true:=by simpa using h b aRm
  unfold Lib.indexByte;rw[aRk hb,ih];rfl
theorem aOg {w u:pC}(h: ∀b∈w,b≠32):Lib.index (w++32::u) [32]=w.length:=by
 rw[Lib.index_one]
 induction w with
 |nil=>rfl
 |cons b w ih=>
  have ih:=ih (fun c hc=>h c (aRo _ hc));have hb: ¬(b==32)=true:=by simpa using h b aRm
  rw[List.cons_append];unfold Lib.indexByte;rw[aRk hb,ih,aRk pH,aRj];omega
theorem aOh {s:pC}(h: ∀b∈s,b≠32):sZ s [32]=[s]:=by
 rw[a84,Lib.count_miss (aOf h)];rfl
theorem aOi {x r:pC}(h: ∀b∈x,b≠32):sZ (x++32::r) [32]=x::sZ r [32]:=by
 have hi:=aOg (u:=r) h;have hd:(x++32::r).drop (x.length+1)=r:=by
  rw[<-aSX,aSD];rfl
 rw[a84,a84,Lib.count_hit pH hi];rw[show (x.length+([32]:pC).length)=x.length+1 from rfl,hd,Nat.add_comm 1];unfold Lib.splitK;rw[hi,aRk pH];simp only[aR0,aSg,aSd];congr 1;rw[show (x.length+([32]:pC).length)=x.length+1 from rfl,hd];cases Lib.count r [32]<;>rfl
theorem aHx: ∀(r:pD) (x:pC),(∀y∈x::r,∀b∈y,b≠32)->sZ (x++r.flatMap (fun y=>[32]++y)) [32]=x::r
 |[],x,h=>by rw[List.flatMap_nil,List.append_nil];exact aOh (h x aRm)
 |y::r,x,h=>by
  rw[aR9];show sZ (x++32::(y++r.flatMap _)) [32]=_;rw[aOi (h x aRm),aHx r y (fun z hz=>h z (aRo _ hz))]
theorem aHy {x:pC}(h:uQ x=true):x≠[]/\∀b∈x,b≠32/\b≠34/\b≠60/\b≠62:=by
 cases x with
 |nil=>cases h
 |cons c t=>
  refine⟨by simp,?_⟩;unfold uQ at h;simp only[aRw,aRK,aRV] at h;have hs: ∀b:UInt8,zH b.toNat=true->b≠32/\b≠34/\b≠60/\b≠62:=by
   intro b hb;refine⟨?_,?_,?_,?_⟩<;>rintro rfl<;>exact absurd hb pG
  have hn: ∀b:UInt8,yP b.toNat=false->b≠32/\b≠34/\b≠60/\b≠62:=by
   intro b hb;refine⟨?_,?_,?_,?_⟩<;>rintro rfl<;>exact absurd hb pG
  intro b hb;rcases aRu.1 hb with rfl|hb
  .exact hs b h.1.2
  .exact hn b (by simpa using h.2 b hb)
theorem aHz {l:pD}(h: ∀x∈l,uQ x=true):tK (vN l [32])=l:=by
 cases l with
 |nil=>exact aHb
 |cons x r=>
  unfold tK;rw[XU,aHx r x (fun y hy b hb=>((aHy (h y hy)).2 b hb).1)];unfold u7;rw[List.filter_eq_self];intro y hy;simpa using(aHy (h y hy)).1
theorem aHA {l:pD}(h:l.Pairwise (· < ·)):sG l=l:=by
 have h2:l.Pairwise (·<=·):=h.imp fun hab hba=>List.lt_irrefl _ (List.lt_trans hab hba);have hp:=a8f l;exact hp.eq_of_pairwise (fun a b _ _ h1 h2=>List.le_antisymm h1 h2) (aFX l) h2
theorem aOj {l:pD}(h:l.Pairwise (· < ·)):HN l=false:=by
 unfold HN;rw[aHA h];have:Lib.compact l=l:=Lib.compact_all l fun j hj=>by
  cases j with
  |zero=>simp [Lib.keeps]
  |succ j=>
   refine Lib.keeps_pos ?_;rw[Nat.add_sub_cancel,getElem!_pos l.toArray (j+1) (by simpa using hj),getElem!_pos l.toArray j pI];intro e;have h1:=aSq.1 h j (j+1) pF hj pF;simp only[List.getElem_toArray] at e;rw[e] at h1;exact List.lt_irrefl _ h1
 rw[this];exact decide_eq_false (aSV _)
structure F1 (a:pC×pC×pC):Prop where
 ne:a.1≠[]
 nm: ∀b∈a.1,B6 b=true
 raw: ∀b∈a.2.1,b≠34
 txt:xM a.2.1=some a.2.2
def tV (l:List (pC×pC×pC)):pC:=l.flatMap fun a=>((([32]++a.1)++[61,34])++a.2.1)++[34]
def zA (l:List (pC×pC×pC)):List rZ:=l.map fun a=>(a.1,(a.2.2,()))
theorem a85 {w u:pC}(h: ∀b∈w,B6 b=true) (hu:u=[]\/∃b r,u=b::r/\B6 b=false):tD (w++u)=w.length:=by
 unfold tD;rcases hu with rfl|⟨b,r,rfl,hb⟩
 .rw[List.append_nil,aSS.2 (fun b hb=>by rw[h b hb];rfl)];rfl
 .have:(w++b::r).findIdx? (fun b=> !B6 b)=some w.length:=by
   rw[aSf];refine⟨by simp,by simp [hb],fun j hj=> ?_⟩;rw[List.getElem_append_left hj,h _ (aSK hj)];decide
  rw[this];rfl
theorem aOk {w u:pC}(h: ∀b∈w,b≠34):Lib.indexByte (w++34::u) 34=w.length:=by
 induction w with
 |nil=>rfl
 |cons b w ih=>
  have ih:=ih (fun c hc=>h c (aRo _ hc));have hb: ¬(b==34)=true:=by simpa using h b aRm
  rw[List.cons_append];unfold Lib.indexByte;rw[aRk hb,ih,aRk pH,aRj];omega
theorem aOl {a:pC×pC×pC}(h:F1 a) (u:pC):HM (a.1++61::34::(a.2.1++34::u))=some (a.1,a.2.2,u):=by
 have hw:tD (a.1++61::34::(a.2.1++34::u))=a.1.length:=a85 h.nm (.inr ⟨61,_,rfl,pG⟩);have hp:=aRL.2 h.ne;have hc:xD (61::34::(a.2.1++34::u)) [61,34]=(a.2.1++34::u,true):=by
  unfold xD;rw[aRf pU];rfl
 have hi:=aOk (u:=u) h.raw;have hq:CV (a.2.1++34::u)=(a.2.1,u,true):=by
  unfold CV;rw[hi,aRf pF];simp only[aR0,aSd];congr 1;rw[<-aSX,aSD];rfl
 unfold HM;rw[hw,aRk pF,aSD,hc,aRk pH];dsimp only;rw[hq,aRk pH];dsimp only;rw[h.txt,aSd]
theorem aHB: ∀(l:List (pC×pC×pC)) (acc:List rZ) (n:Nat),(∀a∈l,F1 a)->l.length<n->(l.map (·.1)).Nodup->(∀a∈l,∀f∈acc,f.1≠a.1)->DI n (tV l) acc false=some (acc++zA l,false)
 |[],acc,n,_,hn,_,_=>by
  obtain⟨n,rfl⟩: ∃k,n=k+1:=⟨n-1,by simp at hn;omega⟩;simp [DI,tV,zA]
 |a::l,acc,n,h,hn,hd,hacc=>by
  obtain⟨n,rfl⟩: ∃k,n=k+1:=⟨n-1,by simp at hn;omega⟩;have ha:=h a aRm;have e1:tV (a::l)=32::(a.1++61::34::(a.2.1++34::tV l)):=by
   unfold tV;rw[aR9];simp
  have e2:(tV (a::l)).dropWhile blk=a.1++61::34::(a.2.1++34::tV l):=by
   rw[e1,List.dropWhile_cons,aRf pG];cases hn1:a.1 with
   |nil=>exact absurd hn1 ha.ne
   |cons b r=>
    have hb:=ha.nm b (by rw[hn1];exact aRm);have:blk b=false:=by
     cases hq:blk b with
     |false=>rfl
     |true=>
      unfold blk at hq;have hm:b∈([32,9,10,13]:pC):=by simpa using hq
      simp only[aRu,aSO,or_false] at hm;rcases hm with rfl|rfl|rfl|rfl<;>exact absurd hb pG
    rw[List.cons_append,List.dropWhile_cons,this];rfl
  rw[aSi,List.nodup_cons] at hd;have hne:a.1++61::34::(a.2.1++34::tV l)≠[]:=by simp
  have htw:(false||acc.any fun x=>decide (x.1=a.1))=false:=by
   rw[Bool.false_or,aRV];intro f hf;simpa using hacc a aRm f hf
  unfold DI;rw[e2,aRk hne,aOl ha];dsimp only;rw[aRk (by rw[e1,aRj];omega),htw,aHB l _ n (fun b hb=>h b (aRo _ hb)) (by simpa using hn) hd.2 (fun b hb f hf=> ?_)]
  .simp [zA]
  .rcases aR2.1 hf with hf|hf
   .exact hacc b (aRo _ hb) f hf
   .rw[aRv.1 hf];intro e;exact hd.1 (List.mem_map.2 ⟨b,hb,e.symm⟩)
end
noncomputable section
def vE (name:pC) (l:List (pC×pC×pC)):pC:=60::(name++(tV l++[62]))
def vV (name:pC):pC:=60::47::(name++[62])
structure OT (t:TE):Prop where
 two:t.1=2
 hd:t.2.head? =some 60
 fst: ∀u,rX (t.2++u)=t
theorem OT.ne {t:TE}(h:OT t):t.2≠[]:=by
 intro e;have:=h.hd;rw[e] at this;cases this
theorem a86 {t:TE}{P:List TE}(h:OT t) (hP:wA P):wA (t::P):=⟨h.ne,.inl ⟨.inr h.two,h.hd,h.fst⟩,hP⟩
theorem T1 {w:pC}{t:TE}{P:List TE}(hw:w≠[]) (h: ∀b∈w,b≠60) (ht:OT t) (hP:wA P):wA ((3,w)::t::P):=⟨hw,.inr ⟨rfl,h,t,P,rfl,ht.hd⟩,a86 ht hP⟩
theorem a87: ∀{P Q:List TE},wA P->t8 P->wA Q->wA (P++Q)
 |[],_,_,_,hQ=>hQ
 |t::P,Q,h,hl,hQ=>by
  obtain⟨h1,h2,h3⟩:=h;have hrest:P=[]\/t8 P:=by
   obtain⟨A,v,hq,hv⟩:=hl;cases A with
   |nil=>left;injection hq with _ hq
   |cons w A=>right;injection hq with _ hq;exact⟨A,v,hq,hv⟩
  have h4:wA (P++Q):=by
   rcases hrest with rfl|hl2
   .exact hQ
   .exact a87 h3 hl2 hQ
  refine⟨h1,?_,h4⟩;rcases h2 with h2|⟨h2,h5,v,q,rfl,hv⟩
  .exact .inl h2
  .exact .inr ⟨h2,h5,v,q++Q,rfl,hv⟩
theorem aHC (q:Bool) (b:UInt8) (r:pC):clo q (b::r)=if b=34 then(clo (!q) r).map (· +1) else if b=62/\q=false then some 0 else(clo q r).map (· +1):=rfl
theorem Y1: ∀(w r:pC),(∀b∈w,b≠34/\b≠62)->clo false (w++r)=(clo false r).map (· +w.length)
 |[],r,_=>by cases h:clo false r<;>simp [h]
 |b::w,r,h=>by
  have hb:=h b aRm;rw[List.cons_append,aHC,aRk hb.1,aRk (fun e=>hb.2 e.1),Y1 w r (fun c hc=>h c (aRo _ hc)),Option.map_map];congr 1
theorem aHD: ∀(w r:pC),(∀b∈w,b≠34)->clo true (w++34::r)=(clo false r).map (· +(w.length+1))
 |[],r,_=>by
  show (if (34:UInt8)=34 then(clo (!true) r).map (· +1) else _)=_;rw[aRf rfl];rfl
 |b::w,r,h=>by
  have hb:=h b aRm;rw[List.cons_append,aHC,aRk hb,aRk pH,aHD w r (fun c hc=>h c (aRo _ hc)),Option.map_map];congr 1
theorem HU {b:UInt8}(h:B6 b=true):b≠34/\b≠62/\b≠47/\b≠33/\b≠60:=by
 refine⟨?_,?_,?_,?_,?_⟩<;>rintro rfl<;>exact absurd h pG
theorem Y2 (a:pC×pC×pC) (l:List (pC×pC×pC)):tV (a::l)=(32::(a.1++[61]))++34::(a.2.1++34::tV l):=by
 unfold tV;rw[aR9];simp
theorem aHE: ∀(l:List (pC×pC×pC)) (r:pC),(∀a∈l,F1 a)->clo false (tV l++r)=(clo false r).map (· +(tV l).length)
 |[],r,_=>by
  show clo false r=(clo false r).map (· +0);cases clo false r<;>rfl
 |a::l,r,h=>by
  have ha:=h a aRm;have ih:=aHE l r (fun b hb=>h b (aRo _ hb));have e:tV (a::l)++r=(32::(a.1++[61]))++34::(a.2.1++34::(tV l++r)):=by rw[Y2];simp
  have hq:clo false (34::(a.2.1++34::(tV l++r)))=(clo true (a.2.1++34::(tV l++r))).map (· +1):=by
   show (if (34:UInt8)=34 then(clo (!false) _).map (· +1) else _)=_;rw[aRf rfl];rfl
  rw[e,Y1 _ _ (fun b hb=>by
   rcases aRu.1 hb with rfl|hb
   .decide
   .rcases aR2.1 hb with hb|hb
    .exact⟨(HU (ha.nm b hb)).1,(HU (ha.nm b hb)).2.1⟩
    .rw[aRv.1 hb];decide),hq,aHD _ _ ha.raw,ih,Y2]
  simp only[Option.map_map,aRg,aRj,aRq];congr 1;funext x;simp only[Function.comp];omega
theorem Y3 {name:pC}{l:List (pC×pC×pC)}(hn:name≠[]) (hs: ∀b∈name,B6 b=true) (hl: ∀a∈l,F1 a):OT (2,vE name l):=by
 refine⟨rfl,rfl,fun u=> ?_⟩;dsimp only;have hc:clo false (vE name l++u)=some (name.length+(tV l).length+1):=by
  have e:vE name l++u=(60::name)++(tV l++62::u):=by unfold vE;simp
  rw[e,Y1 _ _ (fun b hb=>by
   rcases aRu.1 hb with rfl|hb
   .decide
   .exact⟨(HU (hs b hb)).1,(HU (hs b hb)).2.1⟩),aHE l _ hl]
  have:clo false (62::u)=some 0:=rfl;rw[this];simp only[Option.map_some,aRj];congr 1;omega
 have hnote:xB (vE name l++u)=false:=by
  unfold xB;refine decide_eq_false fun e=> ?_;cases name with
  |nil=>exact hn rfl
  |cons b r=>
   have hb:=(HU (hs b aRm)).2.2.2.1;have h2:=aRx (fun x=>x[1]?) e;have h3:((vE (b::r) l++u).take 4)[1]? =some b:=by
    rw[aSv,aRf pF];rfl
   have h4:L1[1]? =some 33:=rfl;rw[h3,h4] at h2;exact hb (aRi h2)
 rw[XY hnote rfl hc];congr 1;have hlen:(vE name l).length=name.length+(tV l).length+1+1:=by
  unfold vE;simp only[aRj,aRg,aRq];omega
 rw[<-hlen,aSd]
theorem aOm (l:List (pC×pC×pC)):tV l=[]\/∃q,tV l=q++[34]:=by
 rcases List.eq_nil_or_concat l with rfl|⟨l',a,rfl⟩
 .exact .inl rfl
 .right;refine⟨tV l'++((([32]++a.1)++[61,34])++a.2.1),?_⟩;unfold tV;simp
theorem aHF {q:pC}{z:UInt8}:(q++[z]).drop ((q++[z]).length-1)=[z]:=by
 rw[aRg,aSB,Nat.add_sub_cancel,aSD]
theorem M5 {name:pC}{l:List (pC×pC×pC)}(hn:name≠[]) (hs: ∀b∈name,B6 b=true) (hl: ∀a∈l,F1 a) (hd:(l.map (·.1)).Nodup):uX (2,vE name l)=(1,name,zA l,false):=by
 have hi:((vE name l).drop 1).take ((vE name l).length-2)=name++tV l:=by
  unfold vE;rw[List.drop_one,List.tail_cons,<-aRl];simp only[aRj,aRg,aRq];rw[show name.length+(tV l).length+(0+1)+1-2=(name++tV l).length by rw[aRg];omega,aSd]
 have hlen:(vE name l).length-3=(name++tV l).length-1:=by
  unfold vE;simp only[aRj,aRg,aRq];omega
 have h47:(name++tV l).take 1≠[47]:=by
  cases name with
  |nil=>exact absurd rfl hn
  |cons b r=>
   intro e;rw[List.cons_append,List.take_succ_cons] at e;injection e with e1 _
   exact(HU (hs b aRm)).2.2.1 e1
 have hlast:(name++tV l).drop ((name++tV l).length-1)≠[47]:=by
  rcases aOm l with h|⟨q,h⟩
  .rw[h,List.append_nil];rcases List.eq_nil_or_concat name with e|⟨q,z,e⟩
   .exact absurd e hn
   .rw[List.concat_eq_append] at e;rw[e,aHF];intro e2;injection e2 with e3 _
    exact(HU (hs z (by rw[e];simp))).2.2.1 e3
  .rw[h,<-aRl,aHF];decide
 have hw:tD (name++tV l)=name.length:=by
  refine a85 hs ?_;cases l with
  |nil=>exact .inl rfl
  |cons a l=>exact .inr ⟨32,_,by rw[Y2];rfl,pG⟩
 have hp:=aRL.2 hn;have hr:AH (vE name l)=some (1,name,zA l,false):=by
  unfold AH;rw[hi,hlen,aRk h47,aRk hlast];dsimp only;rw[hw,aRk pF,aSD,aSd,aHB l [] _ hl ?_ hd (fun a _ f hf=>by cases hf)]
  .rfl
  .have:l.length<=(tV l).length:=by
    clear hi hlen h47 hlast hw hd
    induction l with
    |nil=>simp
    |cons a l ih=>
     have:=ih (fun b hb=>hl b (aRo _ hb));rw[Y2];simp only[aRj,aRg];omega
   rw[aRg];omega
 show (if (2:Int)=2 then(AH (vE name l)).getD eN else eN)=_;rw[aRf rfl,hr];rfl
theorem aHG {name:pC}(hs: ∀b∈name,B6 b=true):OT (2,vV name):=by
 refine⟨rfl,rfl,fun u=> ?_⟩;dsimp only;have hc:clo false (vV name++u)=some (name.length+2):=by
  have e:vV name++u=(60::47::name)++(62::u):=by unfold vV;simp
  rw[e,Y1 _ _ (fun b hb=>by
   rcases aRu.1 hb with rfl|hb
   .decide
   .rcases aRu.1 hb with rfl|hb
    .decide
    .exact⟨(HU (hs b hb)).1,(HU (hs b hb)).2.1⟩)]
  have:clo false (62::u)=some 0:=rfl;rw[this];simp only[Option.map_some,aRj];congr 1;omega
 have hnote:xB (vV name++u)=false:=by
  unfold xB;refine decide_eq_false fun e=> ?_;have h2:=aRx (fun x=>x[1]?) e;have h3:((vV name++u).take 4)[1]? =some 47:=by
   rw[aSv,aRf pF];rfl
  have h4:L1[1]? =some 33:=rfl;rw[h3,h4] at h2;cases h2
 rw[XY hnote rfl hc];congr 1;have hlen:(vV name).length=name.length+2+1:=by
  unfold vV;simp only[aRj,aRg,aRq]
 rw[<-hlen,aSd]
theorem aHH {name:pC}(hn:name≠[]) (hs: ∀b∈name,B6 b=true):(uX (2,vV name)).1=3/\(uX (2,vV name)).2.1=name:=by
 have hi:((vV name).drop 1).take ((vV name).length-2)=47::name:=by
  unfold vV;rw[List.drop_one,List.tail_cons];simp only[aRj,aRg,aRq];rw[show name.length+(0+1)+1+1-2=(47::name).length by rw[aRj];omega,<-List.cons_append,aSd]
 have hw:tD name=name.length:=by
  have:=a85 (u:=[]) hs (.inl rfl);rwa [List.append_nil] at this
 have hp:=aRL.2 hn;have hr:AH (vV name)=some (3,name,[],false):=by
  unfold AH;rw[hi,aRf pU,List.drop_one,List.tail_cons,hw,aSh,List.take_length,aRk (by simp [JE,hn])]
 have he:uX (2,vV name)=(3,name,[],false):=by
  show (if (2:Int)=2 then(AH (vV name)).getD eN else eN)=_;rw[aRf rfl,hr];rfl
 rw[he];exact⟨rfl,rfl⟩
end
noncomputable section
theorem aOn:((List.range 256).all fun b=>decide (uG b≠[])&&((uG b).all fun c=>decide (c≠60)&&decide (c≠34)))=true:=by kernel_rfl
theorem aHI (b:UInt8):uG b.toNat≠[]/\∀c∈uG b.toNat,c≠60/\c≠34:=by
 have h:=aRX.1 aOn b.toNat (aSx.2 (UInt8.toNat_lt b));simp only[aRw,aRG,aRX] at h;exact h
theorem aOo {s:pC}(h:s≠[]):uW s≠[]:=by
 cases s with
 |nil=>exact absurd rfl h
 |cons b s=>
  unfold uW;rw[aR9];simp [(aHI b).1]
theorem a88 {s:pC}: ∀c∈uW s,c≠60/\c≠34:=by
 intro c hc;unfold uW at hc;obtain⟨b,_,hb⟩:=List.mem_flatMap.1 hc;exact(aHI b).2 c hb
def JL (s:pC):List TE:=if s=[] then[] else[(3,uW s)]
def vF (ind name:pC) (l:List (pC×pC×pC)) (s:pC):List TE:=(3,10::ind)::(2,vE name l)::(JL s++[(2,vV name)])
theorem OU (ind name:pC) (l:List (pC×pC×pC)) (s:pC):sP (vF ind name l s)=DK ind name (tV l) s:=by
 unfold vF DK JL vE vV sP;by_cases h:s=[]
 .subst h;simp [uW]
 .simp [h]
structure AK (name:pC):Prop where
 ne:name≠[]
 sm: ∀b∈name,B6 b=true
theorem T2:AK yD:=⟨pG,pG⟩
theorem T3:AK xW:=⟨pG,pG⟩
theorem Y4:AK wI:=⟨pG,pG⟩
theorem Y5:AK yR:=⟨pG,pG⟩
theorem M6:AK z7:=⟨pG,pG⟩
theorem Y6:AK xX:=⟨pG,pG⟩
theorem Y7:AK yS:=⟨pG,pG⟩
theorem OV (ind name:pC) (l:List (pC×pC×pC)) (s:pC):t8 (vF ind name l s):=by
 unfold vF;exact(t8.app (P:=JL s) (t8.one (t:=(2,vV name)) rfl)).cons.cons
theorem OW {ind name:pC}{l:List (pC×pC×pC)}{s:pC}(hi: ∀b∈ind,b≠60) (hn:AK name) (hl: ∀a∈l,F1 a):wA (vF ind name l s):=by
 have hc:=aHG hn.sm;unfold vF;refine T1 pH (fun b hb=> ?_) (Y3 hn.ne hn.sm hl) ?_
 .rcases aRu.1 hb with rfl|hb
  .decide
  .exact hi b hb
 .unfold JL;by_cases h:s=[]
  .rw[aRf h];exact a86 hc trivial
  .rw[aRk h];exact T1 (aOo h) (fun b hb=>(a88 b hb).1) hc trivial
theorem aOp {ind:pC}(h: ∀b∈ind,blk b=true):vC (3,10::ind)=true:=by
 unfold vC JE;have:(List.all (10::ind) blk)=true:=aRX.2 fun b hb=>by
  rcases aRu.1 hb with rfl|hb
  .decide
  .exact h b hb
 rw[this];rfl
theorem T4 {t:TE}{R:List TE}(h:t.1=2):qZ (t::R)=t::R:=by
 unfold qZ;rw[List.dropWhile_cons];have:vC t=false:=by unfold vC;rw[h];rfl
 rw[this];rfl
theorem Y8 {t:TE}{R:List TE}(h:vC t=true):qZ (t::R)=qZ R:=by
 unfold qZ;rw[List.dropWhile_cons,h];rfl
theorem JM {ind name:pC}{l:List (pC×pC×pC)}{s:pC}(hi: ∀b∈ind,blk b=true) (R:List TE):qZ (vF ind name l s++R)=(2,vE name l)::(JL s++((2,vV name)::R)):=by
 have e:vF ind name l s++R=(3,10::ind)::(2,vE name l)::(JL s++((2,vV name)::R)):=by unfold vF;simp
 rw[e,Y8 (aOp hi),T4 rfl]
theorem Y9 {x:xN}{name:pC}{l:List (pC×pC×pC)}{s:pC}(hn:AK name) (hx:x.1≠2) (hx2:x.2.1=name) (hs:sW s=true) (R:List TE):xV x ((2,vE name l)::(JL s++((2,vV name)::R)))=some (s,R):=by
 have hc:=aHH hn.ne hn.sm;have hnd:uN x.2.1 ((2,vV name)::R)=some R:=by rw[XV,aRf ⟨hc.1,hc.2.trans hx2.symm⟩]
 unfold JL;by_cases h:s=[]
 .rw[aRf h];subst h;show xV x ((2,vE name l)::(2,vV name)::R)=_;rw[SX x _ _ _ hx,aRk pH,hnd];rfl
 .rw[aRk h];show xV x ((2,vE name l)::(3,uW s)::(2,vV name)::R)=_;rw[SX x _ _ _ hx,aRf rfl];dsimp only;rw[a8t hs];dsimp only;rw[hnd];rfl
theorem aOq {s:pC}(h:uW s=s) (ht:sW s=true):xM s=some s:=by
 have:=a8t ht;rwa [h] at this
theorem YA {n s:pC}(hn:AK n) (h:uW s=s) (ht:sW s=true):F1 (n,s,s):=⟨hn.ne,hn.sm,fun b hb=>by rw[<-h] at hb;exact(a88 b hb).2,aOq h ht⟩
theorem aOr {n s:pC}(hn:AK n) (ht:sW s=true):F1 (n,uW s,s):=⟨hn.ne,hn.sm,fun b hb=>(a88 b hb).2,a8t ht⟩
theorem nmN:AK vD:=⟨pG,pG⟩
theorem nmI:AK tZ:=⟨pG,pG⟩
theorem aOu:AK x8:=⟨pG,pG⟩
theorem aOv:AK uB:=⟨pG,pG⟩
theorem aOw:AK w7:=⟨pG,pG⟩
def DP (f:rZ):List (pC×pC×pC):=[(vD,f.1,f.1)]
theorem a89 {f:rZ}(h:uQ f.1=true): ∀a∈DP f,F1 a:=by
 intro a ha;rw[aRv.1 ha];exact YA nmN (aNE h) (a8m h)
theorem aHJ {ind s:pC}(hi: ∀b∈ind,blk b=true) (R:List TE):rD (qZ (vF ind yD [] s++R))=(1,yD,[],false):=by
 rw[JM hi];exact M5 T2.ne T2.sm (fun a ha=>by cases ha) .nil
theorem aHK {ind:pC}{f:rZ}(h:uQ f.1=true) (hi: ∀b∈ind,blk b=true) (R:List TE):rD (qZ (vF ind xW (DP f) f.2.1++R))=(1,xW,[(vD,(f.1,()))],false):=by
 rw[JM hi];exact M5 T3.ne T3.sm (a89 h) (by simp [DP])
theorem aHL {ind s:pC}{cs:pD}(hi: ∀b∈ind,blk b=true) (hs:sW s=true) (hc:cs.length≠20) (R:List TE):A0 (1,yD,[],false) cs (qZ (vF ind yD [] s++R))=some (cs++[s],R):=by
 unfold A0;rw[aRf ⟨rfl,rfl,hc⟩,JM hi,Y9 T2 pH rfl hs];rfl
theorem aOx {l:List rZ}{n v:pC}(h: ∀y∈l,y.1<n):FU l n v=l++[(n,(v,()))]:=by
 have h1:B5 l n=none:=by
  unfold B5;rw[aSS];intro y hy;have:=h y hy;simp only[aR1];intro he;rw[he] at this;exact List.lt_irrefl _ this
 have hk:FT l n=l.length:=by
  unfold FT;rw[aSS.2 fun y hy=>by rw[HJ];simp [h y hy]];rfl
 unfold FU;rw[h1,hk,List.take_length,aSh,List.append_nil];rfl
theorem aHM {ind:pC}{f:rZ}{fs:List rZ}(hi: ∀b∈ind,blk b=true) (hn:uQ f.1=true) (hs:sW f.2.1=true) (hlt: ∀y∈fs,y.1<f.1) (hc:fs.length≠20) (R:List TE):A1 (1,xW,[(vD,(f.1,()))],false) fs (qZ (vF ind xW (DP f) f.2.1++R))=some (fs++[f],R):=by
 have hg:s0 [(vD,(f.1,()))] vD=f.1:=by
  unfold s0;rw[List.foldl_cons,List.foldl_nil,aRf rfl]
 have hall:xE [(vD,(f.1,()))] [vD] [vD]=true:=by
  unfold xE;simp
 have hany:(fs.any fun y=>decide (y.1=s0 [(vD,(f.1,()))] vD))=false:=by
  rw[hg,aRV];intro y hy e;have:=hlt y hy;rw[aRU e] at this;exact List.lt_irrefl _ this
 unfold A1;rw[aRf ⟨hall,by simpa using hn,rfl,hany,hc⟩,JM hi,Y9 T3 pH rfl hs];show some (FU fs (s0 [(vD,(f.1,()))] vD) f.2.1,R)=_;rw[hg,aOx hlt]
end
end Go.Proofs.YtkpflnijijccpaaGreatDoor
