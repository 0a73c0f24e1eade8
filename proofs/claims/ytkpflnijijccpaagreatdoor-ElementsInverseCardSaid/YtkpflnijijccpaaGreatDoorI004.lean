/- Packed by a program of mine (wip/tools/pack.py): the same texts with short names and few blanks. -/
import Derived.KernelRfl
import Derived.Laws.BitsLemmas
import Derived.Lib.Index
import Derived.Lib.IndexAny
import Derived.Lib.MapLaws
import Derived.Lib.RowBridge
import Derived.Lib.TrimAscii
import Derived.Lib.TrimUEq
import Derived.Lib.ValidLaws
import Derived.Sort.Walk0
import Derived.Test.YtkpflnijijccpaaGreatDoorI003
set_option linter.defProp false
set_option linter.unusedVariables false
set_option linter.unusedSimpArgs false
set_option linter.unusedSectionVars false
set_option maxRecDepth 100000
set_option maxHeartbeats 4000000
namespace Go.Proofs.YtkpflnijijccpaaGreatDoor
open Vc
noncomputable section
def TX (O:(Int×pD×(List r6)×Bool)):(Bool×Int)→Option ((Bool×Int)⊕Bool):=fun(Z,aA)=>if (decide (aA<(O.2.2.1.length:Int)))=true then if 0≤aA∧aA<(O.2.2.1.length:Int) then if ((Z==true)=true→((EU ((qQ (.pair .str (.pair .str .unit)) O.2.2.1 aA).2.1))).isSome=true) then if qD (aA+(1:Int)) then some (.inl ((Z&&(val (EU ((qQ (.pair .str (.pair .str .unit)) O.2.2.1 aA).2.1)))),(aA+(1:Int)))) else none else none else none else some (.inr Z)
def D4 (O:sD) (Z:(pM×Unit)) (aA:pK) (aB:(List (pD×pD))):((List sH)×Int×Int×Int×pD×(List r6)×Bool×pE×(List r6))→Option (((List sH)×Int×Int×Int×pD×(List r6)×Bool×pE×(List r6))⊕(((List sH)×Int×Int)⊕((List sH)×Int×Int×pD×pE×(List r6)×pM))):=fun(aC,aD,aE,aF,aG,aH,aI,aJ,aK)=>if (decide (aE=(0:Int)))=true then (AA aC aD aE ((s8 .str .str aB ([116,97,103]:pD)),(O.2.1,(O.2.2.1,(O.2.2.2.1,())))) (Z.1,()) aA).bind fun aL=>(AT aL aD aE ((s8 .str .str aB ([116,97,103]:pD)),(O.2.1,(O.2.2.1,(O.2.2.2.1,())))) (Z.1,()) aA).bind fun aM=>if ((decide (aM.2.1=([99,111,109,109,101,110,116]:pD)))&&(!decide (aM.1=(3:Int))))=true then (D2 aL aD aE ((s8 .str .str aB ([116,97,103]:pD)),(O.2.1,(O.2.2.1,(O.2.2.2.1,())))) (Z.1,()) (aM.1,(aM.2.1,(aM.2.2.1,(aM.2.2.2,())))) (([]:pD),(([]:pD),(([]:pD),(aJ,(([]:pE),((0:Int),(aK,()))))))) aA).bind fun aN=>some (.inl (aN.1,aN.2.1,aN.2.2.1,aM.1,aM.2.1,aM.2.2.1,aM.2.2.2,aN.2.2.2,aK)) else if ((decide (aM.2.1=([102,105,101,108,100]:pD)))&&(!decide (aM.1=(3:Int))))=true then (D3 aL aD aE ((s8 .str .str aB ([116,97,103]:pD)),(O.2.1,(O.2.2.1,(O.2.2.2.1,())))) (Z.1,()) (aM.1,(aM.2.1,(aM.2.2.1,(aM.2.2.2,())))) (([]:pD),(([]:pD),(([]:pD),(aJ,(([]:pE),((0:Int),(aK,()))))))) aA).bind fun aO=>some (.inl (aO.1,aO.2.1,aO.2.2.1,aM.1,aM.2.1,aM.2.2.1,aM.2.2.2,aJ,aO.2.2.2)) else if ((wQ (aM.1,(aM.2.1,(aM.2.2.1,(aM.2.2.2,())))) ([]:pD) ([]:pD))).isSome=true then (wQ (aM.1,(aM.2.1,(aM.2.2.1,(aM.2.2.2,())))) ([]:pD) ([]:pD)).bind fun aP=>(xT aL aD aE ((s8 .str .str aB ([116,97,103]:pD)),(O.2.1,(O.2.2.1,(O.2.2.2.1,())))) (Z.1,()) ((!decide (aM.1=(1:Int)))||(!decide (aM.2.1=([101,110,116,114,105,101,115]:pD)))) aM.2.2.2 false aA).bind fun aQ=>(y7 aL aQ.1 aQ.2 ((s8 .str .str aB ([116,97,103]:pD)),(O.2.1,(O.2.2.1,(O.2.2.2.1,())))) (Z.1,()) aA).bind fun aR=>if (Z.1.length+([((qQ sW aL (0:Int)).2.2.1+(((qQ sW aL (0:Int)).2.1).length:Int))]:pM).length)*8≤140737488355328 then some (.inr (.inr ((aR,aQ.1,aQ.2,(s8 .str .str aB ([116,97,103]:pD)),aJ,aK,(Z.1++([((qQ sW aL (0:Int)).2.2.1+(((qQ sW aL (0:Int)).2.1).length:Int))]:pM)))))) else none else (DR (aM.1,(aM.2.1,(aM.2.2.1,(aM.2.2.2,())))) ([]:pD) ([]:pD)).bind fun aS=>(xT aL aD aE ((s8 .str .str aB ([116,97,103]:pD)),(O.2.1,(O.2.2.1,(O.2.2.2.1,())))) (Z.1,()) (((!decide (aM.1=(1:Int)))||(!decide (aM.2.1=([101,110,116,114,105,101,115]:pD))))||true) aM.2.2.2 false aA).bind fun aT=>(y7 aL aT.1 aT.2 ((s8 .str .str aB ([116,97,103]:pD)),(O.2.1,(O.2.2.1,(O.2.2.2.1,())))) (Z.1,()) aA).bind fun aU=>if (Z.1.length+([((qQ sW aL (0:Int)).2.2.1+(((qQ sW aL (0:Int)).2.1).length:Int))]:pM).length)*8≤140737488355328 then some (.inr (.inr ((aU,aT.1,aT.2,(s8 .str .str aB ([116,97,103]:pD)),aJ,aK,(Z.1++([((qQ sW aL (0:Int)).2.2.1+(((qQ sW aL (0:Int)).2.1).length:Int))]:pM)))))) else none else some (.inr (.inl (aC,aD,aE)))
def TY (O:(Int×pD×(List r6)×Bool)):(Bool×Int)→Option ((Bool×Int)⊕Bool):=fun(Z,aA)=>if (decide (aA<(O.2.2.1.length:Int)))=true then if 0≤aA∧aA<(O.2.2.1.length:Int) then if ((Z==true)=true→((EU ((qQ (.pair .str (.pair .str .unit)) O.2.2.1 aA).2.1))).isSome=true) then if qD (aA+(1:Int)) then some (.inl ((Z&&(val (EU ((qQ (.pair .str (.pair .str .unit)) O.2.2.1 aA).2.1)))),(aA+(1:Int)))) else none else none else none else some (.inr Z)
def YT (O:sD) (Z:(pM×Unit)) (aA:pK):((List sH)×Int×Int×Int×pD×(List r6)×Bool×pE×(List r6))→Option (((List sH)×Int×Int×Int×pD×(List r6)×Bool×pE×(List r6))⊕(((List sH)×Int×Int)⊕((List sH)×Int×Int×pD×pE×(List r6)×pM))):=fun(aB,aC,aD,aE,aF,aG,aH,aI,aJ)=>if (decide (aD=(0:Int)))=true then (AA aB aC aD (([]:pD),(O.2.1,(O.2.2.1,(O.2.2.2.1,())))) (Z.1,()) aA).bind fun aK=>(AT aK aC aD (([]:pD),(O.2.1,(O.2.2.1,(O.2.2.2.1,())))) (Z.1,()) aA).bind fun aL=>if ((decide (aL.2.1=([99,111,109,109,101,110,116]:pD)))&&(!decide (aL.1=(3:Int))))=true then (D2 aK aC aD (([]:pD),(O.2.1,(O.2.2.1,(O.2.2.2.1,())))) (Z.1,()) (aL.1,(aL.2.1,(aL.2.2.1,(aL.2.2.2,())))) (([]:pD),(([]:pD),(([]:pD),(aI,(([]:pE),((0:Int),(aJ,()))))))) aA).bind fun aM=>some (.inl (aM.1,aM.2.1,aM.2.2.1,aL.1,aL.2.1,aL.2.2.1,aL.2.2.2,aM.2.2.2,aJ)) else if ((decide (aL.2.1=([102,105,101,108,100]:pD)))&&(!decide (aL.1=(3:Int))))=true then (D3 aK aC aD (([]:pD),(O.2.1,(O.2.2.1,(O.2.2.2.1,())))) (Z.1,()) (aL.1,(aL.2.1,(aL.2.2.1,(aL.2.2.2,())))) (([]:pD),(([]:pD),(([]:pD),(aI,(([]:pE),((0:Int),(aJ,()))))))) aA).bind fun aN=>some (.inl (aN.1,aN.2.1,aN.2.2.1,aL.1,aL.2.1,aL.2.2.1,aL.2.2.2,aI,aN.2.2.2)) else if ((wQ (aL.1,(aL.2.1,(aL.2.2.1,(aL.2.2.2,())))) ([]:pD) ([]:pD))).isSome=true then (wQ (aL.1,(aL.2.1,(aL.2.2.1,(aL.2.2.2,())))) ([]:pD) ([]:pD)).bind fun aO=>(xT aK aC aD (([]:pD),(O.2.1,(O.2.2.1,(O.2.2.2.1,())))) (Z.1,()) ((!decide (aL.1=(1:Int)))||(!decide (aL.2.1=([101,110,116,114,105,101,115]:pD)))) aL.2.2.2 false aA).bind fun aP=>(y7 aK aP.1 aP.2 (([]:pD),(O.2.1,(O.2.2.1,(O.2.2.2.1,())))) (Z.1,()) aA).bind fun aQ=>if (Z.1.length+([((qQ sW aK (0:Int)).2.2.1+(((qQ sW aK (0:Int)).2.1).length:Int))]:pM).length)*8≤140737488355328 then some (.inr (.inr ((aQ,aP.1,aP.2,([]:pD),aI,aJ,(Z.1++([((qQ sW aK (0:Int)).2.2.1+(((qQ sW aK (0:Int)).2.1).length:Int))]:pM)))))) else none else (DR (aL.1,(aL.2.1,(aL.2.2.1,(aL.2.2.2,())))) ([]:pD) ([]:pD)).bind fun aR=>(xT aK aC aD (([]:pD),(O.2.1,(O.2.2.1,(O.2.2.2.1,())))) (Z.1,()) (((!decide (aL.1=(1:Int)))||(!decide (aL.2.1=([101,110,116,114,105,101,115]:pD))))||true) aL.2.2.2 false aA).bind fun aS=>(y7 aK aS.1 aS.2 (([]:pD),(O.2.1,(O.2.2.1,(O.2.2.2.1,())))) (Z.1,()) aA).bind fun aT=>if (Z.1.length+([((qQ sW aK (0:Int)).2.2.1+(((qQ sW aK (0:Int)).2.1).length:Int))]:pM).length)*8≤140737488355328 then some (.inr (.inr ((aT,aS.1,aS.2,([]:pD),aI,aJ,(Z.1++([((qQ sW aK (0:Int)).2.2.1+(((qQ sW aK (0:Int)).2.1).length:Int))]:pM)))))) else none else some (.inr (.inl (aB,aC,aD)))
def C3 (O:(List sH)) (Z:Int) (aA:Int) (aB:sD) (aC:(pM×Unit)) (aD:pK):Option ((List sH)×Int×Int×pD×pE×(List r6)×pM):=(AA O Z aA aB aC aD).bind fun aE=>(AT aE Z aA (aB.1,(aB.2.1,(aB.2.2.1,(aB.2.2.2.1,())))) (aC.1,()) aD).bind fun aF=>if ((wQ (aF.1,(aF.2.1,(aF.2.2.1,(aF.2.2.2,())))) ([116,97,103]:pD) ([]:pD))).isSome=true then (wQ (aF.1,(aF.2.1,(aF.2.2.1,(aF.2.2.2,())))) ([116,97,103]:pD) ([]:pD)).bind fun aG=>sQ (rO (TX aF) (true,(0:Int))) fun aH=>(xT aE Z aA (aB.1,(aB.2.1,(aB.2.2.1,(aB.2.2.2.1,())))) (aC.1,()) (((!decide (aF.1=(1:Int)))||(!decide (aF.2.1=([99,97,116,97,108,111,103]:pD))))||(!aH)) aF.2.2.2 false aD).bind fun aI=>(y7 aE aI.1 aI.2 ((s8 .str .str aG ([116,97,103]:pD)),(aB.2.1,(aB.2.2.1,(aB.2.2.2.1,())))) (aC.1,()) aD).bind fun aJ=>tY (rO (D4 aB aC aD aG) (aJ,aI.1,aI.2,aF.1,aF.2.1,aF.2.2.1,aF.2.2.2,([]:pE),([]:List r6))) fun(aK,aL,aM)=>some ((aK,aL,aM,(s8 .str .str aG ([116,97,103]:pD)),aB.2.1,aB.2.2.1,aC.1)) else (DR (aF.1,(aF.2.1,(aF.2.2.1,(aF.2.2.2,())))) ([116,97,103]:pD) ([]:pD)).bind fun aN=>sQ (rO (TY aF) (true,(0:Int))) fun aO=>(xT aE Z aA (aB.1,(aB.2.1,(aB.2.2.1,(aB.2.2.2.1,())))) (aC.1,()) ((((!decide (aF.1=(1:Int)))||(!decide (aF.2.1=([99,97,116,97,108,111,103]:pD))))||true)||(!aO)) aF.2.2.2 false aD).bind fun aP=>(y7 aE aP.1 aP.2 (([]:pD),(aB.2.1,(aB.2.2.1,(aB.2.2.2.1,())))) (aC.1,()) aD).bind fun aQ=>tY (rO (YT aB aC aD) (aQ,aP.1,aP.2,aF.1,aF.2.1,aF.2.2.1,aF.2.2.2,([]:pE),([]:List r6))) fun(aR,aS,aT)=>some ((aR,aS,aT,([]:pD),aB.2.1,aB.2.2.1,aC.1))
section
variable (O:(List sH)) (Z:Int) (aA:Int) (aB:sD) (aC:(pM×Unit)) (aD:Nat) (aE:Nat) (aF:pK)
abbrev a90:List qC:=[(.val .ref (some (0,0)),none)]
abbrev a91:List qB:=[.cells sX (O,(Z,(aA,(aB,((some 3),aC))))) [(6,1),(8,2)],.grow 53 7 aD,.grow 3 1 aE,.map .str .bool aF]
@[go_sem] def a92:qI:=⟨[aD=(aB.2.2.2.1.length),aE=(aC.1.length),((C3 O Z aA aB aC aF)).isSome=true],[],[.cells sX ((val (C3 O Z aA aB aC aF)).1,((val (C3 O Z aA aB aC aF)).2.1,((val (C3 O Z aA aB aC aF)).2.2.1,(((val (C3 O Z aA aB aC aF)).2.2.2.1,((val (C3 O Z aA aB aC aF)).2.2.2.2.1,((val (C3 O Z aA aB aC aF)).2.2.2.2.2.1,(aB.2.2.2.1,())))),((some 3),((val (C3 O Z aA aB aC aF)).2.2.2.2.2.2,())))))) [(6,1),(8,2)],.grow 53 7 (aB.2.2.2.1.length),.grow 3 1 (((val (C3 O Z aA aB aC aF)).2.2.2.2.2.2).length),.map .str .bool aF]⟩
def aIJ:List qC→List qB→Option qI:=rM (V:=((List sH)×Int×Int×sD×(pM×Unit)×Nat×Nat×pK)) (fun x=>a90) (fun x=>a91 x.1 x.2.1 x.2.2.1 x.2.2.2.1 x.2.2.2.2.1 x.2.2.2.2.2.1 x.2.2.2.2.2.2.1 x.2.2.2.2.2.2.2) fun x=>a92 x.1 x.2.1 x.2.2.1 x.2.2.2.1 x.2.2.2.2.1 x.2.2.2.2.2.1 x.2.2.2.2.2.2.1 x.2.2.2.2.2.2.2
@[go_sem] def aVl:aIJ (no_index a90) (no_index (a91 O Z aA aB aC aD aE aF))=some (a92 O Z aA aB aC aD aE aF):=rQ (fun⟨a0,a1,a2,a3,a4,a5,a6,a7⟩ ⟨b0,b1,b2,b3,b4,b5,b6,b7⟩ h1 h2=>by cases h1;cases h2;rfl) (O,Z,aA,aB,aC,aD,aE,aF)
end
@[go_sem] abbrev aIK:Nat×qW:=(51,⟨[.p sX [6,8]],aIJ,[(0,7,.m)],[1,3],none⟩)
def tQ:rF Tryz.prog [wP,BF,sJ,vU,DM,xJ,zQ,xI,G9,CV,CW,zI,G8,BV] (rG [PD,IE,P8,YB,EV,JV,TT,TW]):=⟨⟨xE,⟨CX,⟨sM,⟨w7,⟨G7,⟨y6,⟨AS,⟨y5,⟨JO,⟨ES,⟨ET,⟨A9,⟨JN,⟨DN,trivial⟩⟩⟩⟩⟩⟩⟩⟩⟩⟩⟩⟩⟩⟩,qK T7 (qK KE (qK T3 (qK a3S (qK GC (qK MA (qK YQ (qK YR rJ))))))),rH⟩
def a93:rF Tryz.prog [wP,BF,sJ,vU,DM,xJ,zQ,xI,G9,CV,CW,zI,G8,BV] (rG [PD,IE,YB,EV,JV,TT,TW,PA]):=⟨⟨xE,⟨CX,⟨sM,⟨w7,⟨G7,⟨y6,⟨AS,⟨y5,⟨JO,⟨ES,⟨ET,⟨A9,⟨JN,⟨DN,trivial⟩⟩⟩⟩⟩⟩⟩⟩⟩⟩⟩⟩⟩⟩,qK T7 (qK KE (qK a3S (qK GC (qK MA (qK YQ (qK YR (qK T4 rJ))))))),rH⟩
def aPU:r5 Tryz.prog aIK:=by
 refine rR tQ Tryz.func51 (c:=_) rfl (N:=139) pU (ts:=[]) rfl (fun _ _=>rfl) ?_;intro⟨O,Z,aA,aB,aC,aD,aE,aF⟩ hs hrow;dsimp only[a90,a91,a92,rI,qR,qZ,r8,rL,Nat.reduceAdd] at hs hrow|-;obtain⟨rfl,rfl,hz⟩:=hs;obtain⟨z0,f⟩:=aVt.1 hz
 try rw[rY f]
 clear hz;unfold C3 at f;obtain⟨aG,hv1,hw1,f⟩:=qV f
 try simp only[go_sem] at hw1
 refine q9 tQ ?_ (hp:=by exact⟨pT,pT,pT,pT,pT,(qU hv1)⟩) (h:=by simp only[go_sem,hw1];rfl)
 obtain⟨aH,hv2,hw2,f⟩:=qV f
 try simp only[go_sem] at hw2
 refine q9 tQ ?_ (hp:=by exact⟨pT,pT,pT,pT,pT,pT,(qU hv2)⟩) (h:=by simp only[go_sem,hw2];rfl)
 refine qO ?_;by_cases hva1:((wQ (aH.1,(aH.2.1,(aH.2.2.1,(aH.2.2.2,())))) ([116,97,103]:pD) ([]:pD))).isSome=true
 .rw[aVs hva1] at f;obtain⟨aI,hv3,hw3,f⟩:=qV f
  try simp only[go_sem] at hw3
  refine rC tQ ?_ (hp:=by exact(qU hv3)) (h:=by simp only[go_sem,hw3];rfl);refine qJ ?_;refine q9 tQ ?_;refine qO ?_;refine q9 tQ ?_;refine rP ?_;obtain⟨aJ,hy1,f⟩:=qM f;refine tV 0 (fun s=>s=(fun x=>⟨[(0,(.val .ref (some (0,0)),none)),(2,(.val .ref (some (4,0)),none)),(3,(.val .mp (some 5),none)),(4,(.val .bool true,none)),(5,(.val .bool x,none))],[(0,.cells sX (aG,(Z,(aA,((aB.1,(aB.2.1,(aB.2.2.1,(aB.2.2.2.1,())))),((some 3),(aC.1,())))))) [(6,1),(8,2)]),(1,.grow 53 7 (aB.2.2.2.1.length)),(2,.grow 3 1 (aC.1.length)),(3,.map .str .bool aF),(4,.cells xD (aH.1,(aH.2.1,(aH.2.2.1,(aH.2.2.2,())))) []),(5,.map .str .str aI)],6,139,4⟩) aJ) ?_ ?_
  .refine tP hy1 (fun x=>⟨[(0,(.val .ref (some (0,0)),none)),(2,(.val .ref (some (4,0)),none)),(3,(.val .mp (some 5),none)),(4,(.val .bool true,none)),(5,(.val .bool x.1,none)),(21,(.val (.list (.pair .str (.pair .str .unit))) aH.2.2.1,none)),(22,(.val (.int .i64) (aH.2.2.1.length:Int),none)),(23,(.val (.int .i64) x.2,none))],[(0,.cells sX (aG,(Z,(aA,((aB.1,(aB.2.1,(aB.2.2.1,(aB.2.2.2.1,())))),((some 3),(aC.1,())))))) [(6,1),(8,2)]),(1,.grow 53 7 (aB.2.2.2.1.length)),(2,.grow 3 1 (aC.1.length)),(3,.map .str .bool aF),(4,.cells xD (aH.1,(aH.2.1,(aH.2.2.1,(aH.2.2.2,())))) []),(5,.map .str .str aI)],6,139,4⟩) ⟨[0,2,3,4,5,21,22,23],[(0,0),(1,1),(2,2),(3,3),(4,132),(5,228)]⟩ pV ?_;intro x1 w1 n1 d g;obtain⟨aK,aL⟩:=x1;unfold TX at d;dsimp only at d|-;refine q9 tQ ?_;refine qO ?_;refine qS d (fun d hc2=> ?_) (fun d hc2=> ?_)
   .refine r7 (qJ (qO (rP ?_)));obtain⟨hg4,d⟩:=qG d;refine q9 tQ ?_ (hp:=by exact hg4);obtain⟨hg5,d⟩:=qG d;refine rC tQ ?_ (hp:=by exact⟨id,id,hg5,sB⟩);refine rU (qJ ?_);obtain⟨hg6,d⟩:=qG d;refine rC tQ ?_ (hp:=by exact hg6);cases d;exact sU ⟨⟨[0,2,3,4,5,21,22,23],[(0,0),(1,1),(2,2),(3,3),(4,4),(5,5)]⟩,_,by rfl,g⟩
   .refine tK (tJ (tN ?_));cases d;cases g;exact tM ⟨⟨[0,2,3,4,5],[(0,0),(1,1),(2,2),(3,3),(4,4),(5,5)]⟩,by rfl⟩
  .rintro _ rfl;dsimp only at f|-;refine tU (qJ ?_);obtain⟨aM,hv7,hw7,f⟩:=qV f
   try simp only[go_sem] at hw7
   refine q9 tQ ?_ (hp:=by exact⟨id,id,sP,id,sP,id,sP,pT,pT,pT,pT,pT,(qU hv7)⟩) (h:=by simp only[go_sem,hw7];rfl)
   refine q9 tQ ?_;obtain⟨aN,hv8,hw8,f⟩:=qV f
   try simp only[go_sem] at hw8
   refine q9 tQ ?_ (hp:=by exact⟨pT,pT,pT,pT,pT,(qU hv8)⟩) (h:=by simp only[go_sem,hw8];rfl)
   refine q9 tQ ?_;refine rP ?_;obtain⟨y1,hy1,f⟩:=uV f;refine tV 2 (fun s=> ∃v,y1= .inl v∧s=(fun x=>⟨[],[(0,.cells sX (x.1,(x.2.1,(x.2.2,(((s8 .str .str aI ([116,97,103]:pD)),(aB.2.1,(aB.2.2.1,(aB.2.2.2.1,())))),((some 3),(aC.1,())))))) [(6,1),(8,2)]),(1,.grow 53 7 (aB.2.2.2.1.length)),(2,.grow 3 1 (aC.1.length)),(3,.map .str .bool aF)],4,139,4⟩) v) ?_ ?_
   .refine tP hy1 (fun x=>⟨[(0,(.val .ref (some (0,0)),none)),(2,(.val .ref (some (4,0)),none)),(8,(.val .ref (some (5,0)),none))],[(0,.cells sX (x.1,(x.2.1,(x.2.2.1,(((s8 .str .str aI ([116,97,103]:pD)),(aB.2.1,(aB.2.2.1,(aB.2.2.2.1,())))),((some 3),(aC.1,())))))) [(6,1),(8,2)]),(1,.grow 53 7 (aB.2.2.2.1.length)),(2,.grow 3 1 (aC.1.length)),(3,.map .str .bool aF),(4,.cells xD (x.2.2.2.1,(x.2.2.2.2.1,(x.2.2.2.2.2.1,(x.2.2.2.2.2.2.1,())))) []),(5,.cells s7 (([]:pD),(([]:pD),(([]:pD),(x.2.2.2.2.2.2.2.1,(([]:pE),((0:Int),(x.2.2.2.2.2.2.2.2,()))))))) [(3,6)]),(6,.grow 9 1 (x.2.2.2.2.2.2.2.1.length))],7,139,4⟩) ⟨[0,2,8],[(0,0),(1,1),(2,2),(3,3),(4,4),(5,934),(6,935)]⟩ pV ?_;intro x1 w1 n1 d g;obtain⟨aO,aP,aQ,aR,aS,aT,aU,aV,aW⟩:=x1;unfold D4 at d;dsimp only at d|-;refine qO ?_;refine q9 tQ ?_;refine qS d (fun d hc3=> ?_) (fun d hc3=> ?_)
    .refine r7 (qJ (rP ?_));obtain⟨aX,hv9,hw9,d⟩:=qV d
     try simp only[go_sem] at hw9
     refine q9 tQ ?_ (hp:=by exact⟨pT,pT,pT,pT,pT,(qU hv9)⟩) (h:=by simp only[go_sem,hw9];rfl)
     obtain⟨aY,hv10,hw10,d⟩:=qV d
     try simp only[go_sem] at hw10
     refine q9 tQ ?_ (hp:=by exact⟨pT,pT,pT,pT,pT,pT,(qU hv10)⟩) (h:=by simp only[go_sem,hw10];rfl)
     refine rP ?_;refine q9 tQ ?_ (hp:=by exact⟨id,id,sB⟩);refine qS d (fun d hc4=> ?_) (fun d hc4=> ?_)
     .obtain⟨aZ,hv11,hw11,d⟩:=qV d
      try simp only[go_sem] at hw11
      refine rC tQ ?_ (hp:=by exact⟨pT,pT,pT,pT,pT,pT,(qU hv11)⟩) (h:=by simp only[go_sem,hw11];rfl)
      refine rU (rU ?_);cases d;exact sU ⟨⟨[0,2,8],[(0,0),(1,1),(2,2),(3,3),(4,4),(5,5),(6,6)]⟩,_,by rfl,g⟩
     .refine q9 tQ ?_ (hp:=by exact⟨id,id,sB⟩);refine qS d (fun d hc5=> ?_) (fun d hc5=> ?_)
      .obtain⟨bA,hv12,hw12,d⟩:=qV d
       try simp only[go_sem] at hw12
       refine rC tQ ?_ (hp:=by exact⟨pT,pT,pT,pT,pT,pT,pT,(qU hv12)⟩) (h:=by simp only[go_sem,hw12];rfl)
       refine rU (rU ?_);cases d;exact sU ⟨⟨[0,2,8],[(0,0),(1,1),(2,2),(3,3),(4,4),(5,5),(6,6)]⟩,_,by rfl,g⟩
      .refine qO ?_;by_cases hva6:((wQ (aY.1,(aY.2.1,(aY.2.2.1,(aY.2.2.2,())))) ([]:pD) ([]:pD))).isSome=true
       .rw[aVs hva6] at d;obtain⟨bB,hv13,hw13,d⟩:=qV d
        try simp only[go_sem] at hw13
        refine rC tQ ?_ (hp:=by exact(qU hv13)) (h:=by simp only[go_sem,hw13];rfl);refine qJ ?_;obtain⟨bC,hv14,hw14,d⟩:=qV d
        try simp only[go_sem] at hw14
        refine q9 tQ ?_ (hp:=by exact⟨id,id,sP,id,sP,pT,pT,pT,pT,pT,(qU hv14)⟩) (h:=by simp only[go_sem,hw14];rfl)
        obtain⟨bD,hv15,hw15,d⟩:=qV d
        try simp only[go_sem] at hw15
        obtain⟨hg16,d⟩:=qG d;refine YS tQ 4 6 ?_ (hp:=by exact⟨pT,pT,pT,pT,pT,qU hv15,pT,hg16⟩) (ha1:=by simp only[List.take_succ_cons,List.take_zero,go_sem,hw15]<;>rfl) (hx1:=by simp only[go_sem,hw15]<;>rfl) (h:=by simp only[go_sem,hw15];rfl)
        refine q9 tQ ?_;refine qP (rT (rT (uX (uZ (rT ?_)))));cases d;cases g;dsimp only at f;cases f;exact pF [(0,0),(1,1),(2,2),(3,3)]
       rw[aVv hva6] at d;obtain⟨bE,hv17,hw17,d⟩:=qV d
       try simp only[go_sem] at hw17
       refine rC a93 ?_ (hp:=by exact(qU hv17)) (h:=by simp only[go_sem,hw17];rfl);refine qJ ?_;obtain⟨bF,hv18,hw18,d⟩:=qV d
       try simp only[go_sem] at hw18
       refine q9 tQ ?_ (hp:=by exact⟨id,id,sP,id,sP,pT,pT,pT,pT,pT,(qU hv18)⟩) (h:=by simp only[go_sem,hw18];rfl)
       obtain⟨bG,hv19,hw19,d⟩:=qV d
       try simp only[go_sem] at hw19
       obtain⟨hg20,d⟩:=qG d;refine YS tQ 4 6 ?_ (hp:=by exact⟨pT,pT,pT,pT,pT,qU hv19,pT,hg20⟩) (ha1:=by simp only[List.take_succ_cons,List.take_zero,go_sem,hw19]<;>rfl) (hx1:=by simp only[go_sem,hw19]<;>rfl) (h:=by simp only[go_sem,hw19];rfl)
       refine q9 tQ ?_;refine qP (rT (rT (uX (uZ (rT ?_)))));cases d;cases g;dsimp only at f;cases f;exact pF [(0,0),(1,1),(2,2),(3,3)]
    .refine tK (tJ (tN ?_));cases d;cases g;exact tM ⟨⟨[],[(0,0),(1,1),(2,2),(3,3)]⟩,_,rfl,by rfl⟩
   .rintro _ ⟨v,rfl,rfl⟩;obtain⟨bH,bI,bJ⟩:=v;dsimp only at f|-;refine tU ?_;cases f;exact pF [(0,0),(1,1),(2,2),(3,3)]
 rw[aVv hva1] at f;obtain⟨bK,hv21,hw21,f⟩:=qV f
 try simp only[go_sem] at hw21
 refine rC a93 ?_ (hp:=by exact(qU hv21)) (h:=by simp only[go_sem,hw21];rfl);refine qJ ?_;refine q9 tQ ?_;refine qO ?_;refine q9 tQ ?_;refine rP ?_;obtain⟨bM,hy1,f⟩:=qM f;refine tV 0 (fun s=>s=(fun x=>⟨[(0,(.val .ref (some (0,0)),none)),(2,(.val .ref (some (4,0)),none)),(3,(.val .mp none,none)),(4,(.val .bool false,none)),(5,(.val .bool x,none))],[(0,.cells sX (aG,(Z,(aA,((aB.1,(aB.2.1,(aB.2.2.1,(aB.2.2.2.1,())))),((some 3),(aC.1,())))))) [(6,1),(8,2)]),(1,.grow 53 7 (aB.2.2.2.1.length)),(2,.grow 3 1 (aC.1.length)),(3,.map .str .bool aF),(4,.cells xD (aH.1,(aH.2.1,(aH.2.2.1,(aH.2.2.2,())))) [])],5,139,4⟩) bM) ?_ ?_
 .refine tP hy1 (fun x=>⟨[(0,(.val .ref (some (0,0)),none)),(2,(.val .ref (some (4,0)),none)),(3,(.val .mp none,none)),(4,(.val .bool false,none)),(5,(.val .bool x.1,none)),(21,(.val (.list (.pair .str (.pair .str .unit))) aH.2.2.1,none)),(22,(.val (.int .i64) (aH.2.2.1.length:Int),none)),(23,(.val (.int .i64) x.2,none))],[(0,.cells sX (aG,(Z,(aA,((aB.1,(aB.2.1,(aB.2.2.1,(aB.2.2.2.1,())))),((some 3),(aC.1,())))))) [(6,1),(8,2)]),(1,.grow 53 7 (aB.2.2.2.1.length)),(2,.grow 3 1 (aC.1.length)),(3,.map .str .bool aF),(4,.cells xD (aH.1,(aH.2.1,(aH.2.2.1,(aH.2.2.2,())))) [])],5,139,4⟩) ⟨[0,2,3,4,5,21,22,23],[(0,0),(1,1),(2,2),(3,3),(4,132)]⟩ pV ?_;intro x1 w1 n1 d g;obtain⟨bN,bO⟩:=x1;unfold TY at d;dsimp only at d|-;refine q9 tQ ?_;refine qO ?_;refine qS d (fun d hc7=> ?_) (fun d hc7=> ?_)
  .refine r7 (qJ (qO (rP ?_)));obtain⟨hg22,d⟩:=qG d;refine q9 tQ ?_ (hp:=by exact hg22);obtain⟨hg23,d⟩:=qG d;refine rC tQ ?_ (hp:=by exact⟨id,id,hg23,sB⟩);refine rU (qJ ?_);obtain⟨hg24,d⟩:=qG d;refine rC tQ ?_ (hp:=by exact hg24);cases d;exact sU ⟨⟨[0,2,3,4,5,21,22,23],[(0,0),(1,1),(2,2),(3,3),(4,4)]⟩,_,by rfl,g⟩
  .refine tK (tJ (tN ?_));cases d;cases g;exact tM ⟨⟨[0,2,3,4,5],[(0,0),(1,1),(2,2),(3,3),(4,4)]⟩,by rfl⟩
 .rintro _ rfl;dsimp only at f|-;refine tU (qJ ?_);obtain⟨bP,hv25,hw25,f⟩:=qV f
  try simp only[go_sem] at hw25
  refine q9 tQ ?_ (hp:=by exact⟨id,id,sP,id,sP,id,fun e=>by first|exact sP e|exact rfl|exact e.elim|simp_all,pT,pT,pT,pT,pT,(qU hv25)⟩) (h:=by simp only[go_sem,hw25];rfl)
  refine q9 tQ ?_;obtain⟨bQ,hv26,hw26,f⟩:=qV f
  try simp only[go_sem] at hw26
  refine q9 tQ ?_ (hp:=by exact⟨pT,pT,pT,pT,pT,(qU hv26)⟩) (h:=by simp only[go_sem,hw26];rfl)
  refine q9 tQ ?_;refine rP ?_;obtain⟨y1,hy1,f⟩:=uV f;refine tV 2 (fun s=> ∃v,y1= .inl v∧s=(fun x=>⟨[],[(0,.cells sX (x.1,(x.2.1,(x.2.2,((([]:pD),(aB.2.1,(aB.2.2.1,(aB.2.2.2.1,())))),((some 3),(aC.1,())))))) [(6,1),(8,2)]),(1,.grow 53 7 (aB.2.2.2.1.length)),(2,.grow 3 1 (aC.1.length)),(3,.map .str .bool aF)],4,139,4⟩) v) ?_ ?_
  .refine tP hy1 (fun x=>⟨[(0,(.val .ref (some (0,0)),none)),(2,(.val .ref (some (4,0)),none)),(8,(.val .ref (some (5,0)),none))],[(0,.cells sX (x.1,(x.2.1,(x.2.2.1,((([]:pD),(aB.2.1,(aB.2.2.1,(aB.2.2.2.1,())))),((some 3),(aC.1,())))))) [(6,1),(8,2)]),(1,.grow 53 7 (aB.2.2.2.1.length)),(2,.grow 3 1 (aC.1.length)),(3,.map .str .bool aF),(4,.cells xD (x.2.2.2.1,(x.2.2.2.2.1,(x.2.2.2.2.2.1,(x.2.2.2.2.2.2.1,())))) []),(5,.cells s7 (([]:pD),(([]:pD),(([]:pD),(x.2.2.2.2.2.2.2.1,(([]:pE),((0:Int),(x.2.2.2.2.2.2.2.2,()))))))) [(3,6)]),(6,.grow 9 1 (x.2.2.2.2.2.2.2.1.length))],7,139,4⟩) ⟨[0,2,8],[(0,0),(1,1),(2,2),(3,3),(4,4),(5,933),(6,934)]⟩ pV ?_;intro x1 w1 n1 d g;obtain⟨bR,bS,bT,bU,bV,bW,bX,bZ,cA⟩:=x1;unfold YT at d;dsimp only at d|-;refine qO ?_;refine q9 tQ ?_;refine qS d (fun d hc8=> ?_) (fun d hc8=> ?_)
   .refine r7 (qJ (rP ?_));obtain⟨cB,hv27,hw27,d⟩:=qV d
    try simp only[go_sem] at hw27
    refine q9 tQ ?_ (hp:=by exact⟨pT,pT,pT,pT,pT,(qU hv27)⟩) (h:=by simp only[go_sem,hw27];rfl)
    obtain⟨cC,hv28,hw28,d⟩:=qV d
    try simp only[go_sem] at hw28
    refine q9 tQ ?_ (hp:=by exact⟨pT,pT,pT,pT,pT,pT,(qU hv28)⟩) (h:=by simp only[go_sem,hw28];rfl)
    refine rP ?_;refine q9 tQ ?_ (hp:=by exact⟨id,id,sB⟩);refine qS d (fun d hc9=> ?_) (fun d hc9=> ?_)
    .obtain⟨cD,hv29,hw29,d⟩:=qV d
     try simp only[go_sem] at hw29
     refine rC tQ ?_ (hp:=by exact⟨pT,pT,pT,pT,pT,pT,(qU hv29)⟩) (h:=by simp only[go_sem,hw29];rfl)
     refine rU (rU ?_);cases d;exact sU ⟨⟨[0,2,8],[(0,0),(1,1),(2,2),(3,3),(4,4),(5,5),(6,6)]⟩,_,by rfl,g⟩
    .refine q9 tQ ?_ (hp:=by exact⟨id,id,sB⟩);refine qS d (fun d hc10=> ?_) (fun d hc10=> ?_)
     .obtain⟨cE,hv30,hw30,d⟩:=qV d
      try simp only[go_sem] at hw30
      refine rC tQ ?_ (hp:=by exact⟨pT,pT,pT,pT,pT,pT,pT,(qU hv30)⟩) (h:=by simp only[go_sem,hw30];rfl)
      refine rU (rU ?_);cases d;exact sU ⟨⟨[0,2,8],[(0,0),(1,1),(2,2),(3,3),(4,4),(5,5),(6,6)]⟩,_,by rfl,g⟩
     .refine qO ?_;by_cases hva11:((wQ (cC.1,(cC.2.1,(cC.2.2.1,(cC.2.2.2,())))) ([]:pD) ([]:pD))).isSome=true
      .rw[aVs hva11] at d;obtain⟨cF,hv31,hw31,d⟩:=qV d
       try simp only[go_sem] at hw31
       refine rC tQ ?_ (hp:=by exact(qU hv31)) (h:=by simp only[go_sem,hw31];rfl);refine qJ ?_;obtain⟨cG,hv32,hw32,d⟩:=qV d
       try simp only[go_sem] at hw32
       refine q9 tQ ?_ (hp:=by exact⟨id,id,sP,id,sP,pT,pT,pT,pT,pT,(qU hv32)⟩) (h:=by simp only[go_sem,hw32];rfl)
       obtain⟨cH,hv33,hw33,d⟩:=qV d
       try simp only[go_sem] at hw33
       obtain⟨hg34,d⟩:=qG d;refine YS tQ 4 6 ?_ (hp:=by exact⟨pT,pT,pT,pT,pT,qU hv33,pT,hg34⟩) (ha1:=by simp only[List.take_succ_cons,List.take_zero,go_sem,hw33]<;>rfl) (hx1:=by simp only[go_sem,hw33]<;>rfl) (h:=by simp only[go_sem,hw33];rfl)
       refine q9 tQ ?_;refine qP (rT (rT (uX (uZ (rT ?_)))));cases d;cases g;dsimp only at f;cases f;exact pF [(0,0),(1,1),(2,2),(3,3)]
      rw[aVv hva11] at d;obtain⟨cJ,hv35,hw35,d⟩:=qV d
      try simp only[go_sem] at hw35
      refine rC a93 ?_ (hp:=by exact(qU hv35)) (h:=by simp only[go_sem,hw35];rfl);refine qJ ?_;obtain⟨cK,hv36,hw36,d⟩:=qV d
      try simp only[go_sem] at hw36
      refine q9 tQ ?_ (hp:=by exact⟨id,id,sP,id,sP,pT,pT,pT,pT,pT,(qU hv36)⟩) (h:=by simp only[go_sem,hw36];rfl)
      obtain⟨cL,hv37,hw37,d⟩:=qV d
      try simp only[go_sem] at hw37
      obtain⟨hg38,d⟩:=qG d;refine YS tQ 4 6 ?_ (hp:=by exact⟨pT,pT,pT,pT,pT,qU hv37,pT,hg38⟩) (ha1:=by simp only[List.take_succ_cons,List.take_zero,go_sem,hw37]<;>rfl) (hx1:=by simp only[go_sem,hw37]<;>rfl) (h:=by simp only[go_sem,hw37];rfl)
      refine q9 tQ ?_;refine qP (rT (rT (uX (uZ (rT ?_)))));cases d;cases g;dsimp only at f;cases f;exact pF [(0,0),(1,1),(2,2),(3,3)]
   .refine tK (tJ (tN ?_));cases d;cases g;exact tM ⟨⟨[],[(0,0),(1,1),(2,2),(3,3)]⟩,_,rfl,by rfl⟩
  .rintro _ ⟨v,rfl,rfl⟩;obtain⟨cN,cO,cP⟩:=v;dsimp only at f|-;refine tU ?_;cases f;exact pF [(0,0),(1,1),(2,2),(3,3)]
attribute [irreducible] C3
end
noncomputable section
def C5 (O:(List sH)) (Z:Int) (aA:Int) (aB:sD) (aC:(pM×Unit)) (aD:pK):Option ((List sH)×Int×Int×(List s0)×pM×pK):=(AT O Z aA aB aC aD).bind fun aE=>if ((wQ (aE.1,(aE.2.1,(aE.2.2.1,(aE.2.2.2,())))) ([105,100]:pD) ([115,116,97,116,101,32,102,108,97,103,115]:pD))).isSome=true then (wQ (aE.1,(aE.2.1,(aE.2.2.1,(aE.2.2.2,())))) ([105,100]:pD) ([115,116,97,116,101,32,102,108,97,103,115]:pD)).bind fun aF=>(I0 (s8 .str .str aF ([102,108,97,103,115]:pD))).bind fun aG=>if ((uK (tC (s8 .str .str aF ([102,108,97,103,115]:pD)) ([32]:pD))).length)<4611686018427387904 then if (((((!decide (aE.1=(1:Int)))&&(!decide (aE.1=(2:Int))))||(!decide (aE.2.1=([101,110,116,114,121]:pD))))==false)=true→((DT aE.2.2.1)).isSome=true) then if ((aE.2.2.2||(s8 .str .bool aD (s8 .str .str aF ([105,100]:pD))))==false)=true then if (((aE.2.2.2||(s8 .str .bool aD (s8 .str .str aF ([105,100]:pD))))==false)=true→((z7 (sN (uK (tC (s8 .str .str aF ([102,108,97,103,115]:pD)) ([32]:pD)))))).isSome=true) then if (((aE.2.2.2||(s8 .str .bool aD (s8 .str .str aF ([105,100]:pD))))==false)=true→List.length (val (z7 (sN (uK (tC (s8 .str .str aF ([102,108,97,103,115]:pD)) ([32]:pD))))))≤9223372036854775807) then (xT O Z aA aB aC ((((!decide (aE.1=(1:Int)))&&(!decide (aE.1=(2:Int))))||(!decide (aE.2.1=([101,110,116,114,121]:pD))))||(val (DT aE.2.2.1))) ((aE.2.2.2||(s8 .str .bool aD (s8 .str .str aF ([105,100]:pD))))||(decide (((((Lib.compact (val (z7 (sN (uK (tC (s8 .str .str aF ([102,108,97,103,115]:pD)) ([32]:pD))))))).length):Nat):Int)<((sN (uK (tC (s8 .str .str aF ([102,108,97,103,115]:pD)) ([32]:pD)))).length:Int)))) ((decide ((20:Int)<((sN (uK (tC (s8 .str .str aF ([102,108,97,103,115]:pD)) ([32]:pD)))).length:Int)))||(decide ((aB.2.2.2.1.length:Int)=(1000:Int)))) aD).bind fun aH=>if (!decide (aH.2=(0:Int)))=true then some ((O,aH.1,aH.2,aB.2.2.2.1,aC.1,aD)) else (BW ([([110,101,119]:pD),([102,117,122,122,121]:pD),([116,114,97,110,115,108,97,116,101,100]:pD),([114,101,118,105,101,119,101,100]:pD),([111,98,115,111,108,101,116,101]:pD)]:pE) (s8 .str .str aF ([115,116,97,116,101]:pD))).bind fun aI=>(y7 O aH.1 aH.2 (aB.1,(aB.2.1,(aB.2.2.1,(aB.2.2.2.1,())))) (aC.1,()) (tW .str .bool (s8 .str .str aF ([105,100]:pD)) true aD)).bind fun aJ=>sQ (σ:=(Int×(List sH)×Int×Int×pD×pD×pE×(List r6))) (if (decide (aE.1=(1:Int)))=true then (zK aJ aH.1 aH.2 (aB.1,(aB.2.1,(aB.2.2.1,(aB.2.2.2.1,())))) (aC.1,()) ((s8 .str .str aF ([105,100]:pD)),(([]:pD),(([]:pD),(([]:pE),((sN (uK (tC (s8 .str .str aF ([102,108,97,103,115]:pD)) ([32]:pD)))),((max (0:Int) aI),(([]:List r6),()))))))) (tW .str .bool (s8 .str .str aF ([105,100]:pD)) true aD)).bind fun aK=>some ((aK.1,aK.2.1,aK.2.2.1,aK.2.2.2.1,aK.2.2.2.2.1,aK.2.2.2.2.2.1,aK.2.2.2.2.2.2.1,aK.2.2.2.2.2.2.2)) else some ((((qQ sW O (0:Int)).2.2.1+(((qQ sW O (0:Int)).2.1).length:Int)),aJ,aH.1,aH.2,([]:pD),([]:pD),([]:pE),([]:List r6))) ) fun(aL,aM,aN,aO,aP,aQ,aR,aS)=>if (aB.2.2.2.1.length+([((s8 .str .str aF ([105,100]:pD)),(aP,(aQ,(aR,((sN (uK (tC (s8 .str .str aF ([102,108,97,103,115]:pD)) ([32]:pD)))),((max (0:Int) aI),(aS,())))))))]:List s0).length)*128≤140737488355328 then if (aC.1.length+([aL]:pM).length)*8≤140737488355328 then some ((aM,aN,aO,(aB.2.2.2.1++([((s8 .str .str aF ([105,100]:pD)),(aP,(aQ,(aR,((sN (uK (tC (s8 .str .str aF ([102,108,97,103,115]:pD)) ([32]:pD)))),((max (0:Int) aI),(aS,())))))))]:List s0)),(aC.1++([aL]:pM)),(tW .str .bool (s8 .str .str aF ([105,100]:pD)) true aD))) else none else none else none else none else (xT O Z aA aB aC ((((!decide (aE.1=(1:Int)))&&(!decide (aE.1=(2:Int))))||(!decide (aE.2.1=([101,110,116,114,121]:pD))))||(val (DT aE.2.2.1))) true ((decide ((20:Int)<((sN (uK (tC (s8 .str .str aF ([102,108,97,103,115]:pD)) ([32]:pD)))).length:Int)))||(decide ((aB.2.2.2.1.length:Int)=(1000:Int)))) aD).bind fun aT=>if (!decide (aT.2=(0:Int)))=true then some ((O,aT.1,aT.2,aB.2.2.2.1,aC.1,aD)) else (BW ([([110,101,119]:pD),([102,117,122,122,121]:pD),([116,114,97,110,115,108,97,116,101,100]:pD),([114,101,118,105,101,119,101,100]:pD),([111,98,115,111,108,101,116,101]:pD)]:pE) (s8 .str .str aF ([115,116,97,116,101]:pD))).bind fun aU=>(y7 O aT.1 aT.2 (aB.1,(aB.2.1,(aB.2.2.1,(aB.2.2.2.1,())))) (aC.1,()) (tW .str .bool (s8 .str .str aF ([105,100]:pD)) true aD)).bind fun aV=>sQ (σ:=(Int×(List sH)×Int×Int×pD×pD×pE×(List r6))) (if (decide (aE.1=(1:Int)))=true then (zK aV aT.1 aT.2 (aB.1,(aB.2.1,(aB.2.2.1,(aB.2.2.2.1,())))) (aC.1,()) ((s8 .str .str aF ([105,100]:pD)),(([]:pD),(([]:pD),(([]:pE),((sN (uK (tC (s8 .str .str aF ([102,108,97,103,115]:pD)) ([32]:pD)))),((max (0:Int) aU),(([]:List r6),()))))))) (tW .str .bool (s8 .str .str aF ([105,100]:pD)) true aD)).bind fun aW=>some ((aW.1,aW.2.1,aW.2.2.1,aW.2.2.2.1,aW.2.2.2.2.1,aW.2.2.2.2.2.1,aW.2.2.2.2.2.2.1,aW.2.2.2.2.2.2.2)) else some ((((qQ sW O (0:Int)).2.2.1+(((qQ sW O (0:Int)).2.1).length:Int)),aV,aT.1,aT.2,([]:pD),([]:pD),([]:pE),([]:List r6))) ) fun(aX,aY,aZ,bA,bB,bC,bD,bE)=>if (aB.2.2.2.1.length+([((s8 .str .str aF ([105,100]:pD)),(bB,(bC,(bD,((sN (uK (tC (s8 .str .str aF ([102,108,97,103,115]:pD)) ([32]:pD)))),((max (0:Int) aU),(bE,())))))))]:List s0).length)*128≤140737488355328 then if (aC.1.length+([aX]:pM).length)*8≤140737488355328 then some ((aY,aZ,bA,(aB.2.2.2.1++([((s8 .str .str aF ([105,100]:pD)),(bB,(bC,(bD,((sN (uK (tC (s8 .str .str aF ([102,108,97,103,115]:pD)) ([32]:pD)))),((max (0:Int) aU),(bE,())))))))]:List s0)),(aC.1++([aX]:pM)),(tW .str .bool (s8 .str .str aF ([105,100]:pD)) true aD))) else none else none else none else none else (DR (aE.1,(aE.2.1,(aE.2.2.1,(aE.2.2.2,())))) ([105,100]:pD) ([115,116,97,116,101,32,102,108,97,103,115]:pD)).bind fun bF=>(I0 ([]:pD)).bind fun bG=>if ((uK (tC ([]:pD) ([32]:pD))).length)<4611686018427387904 then if ((((((!decide (aE.1=(1:Int)))&&(!decide (aE.1=(2:Int))))||(!decide (aE.2.1=([101,110,116,114,121]:pD))))||true)==false)=true→((DT aE.2.2.1)).isSome=true) then if ((aE.2.2.2||(s8 .str .bool aD ([]:pD)))==false)=true then if (((aE.2.2.2||(s8 .str .bool aD ([]:pD)))==false)=true→((z7 (sN (uK (tC ([]:pD) ([32]:pD)))))).isSome=true) then if (((aE.2.2.2||(s8 .str .bool aD ([]:pD)))==false)=true→List.length (val (z7 (sN (uK (tC ([]:pD) ([32]:pD))))))≤9223372036854775807) then (xT O Z aA aB aC (((((!decide (aE.1=(1:Int)))&&(!decide (aE.1=(2:Int))))||(!decide (aE.2.1=([101,110,116,114,121]:pD))))||true)||(val (DT aE.2.2.1))) ((aE.2.2.2||(s8 .str .bool aD ([]:pD)))||(decide (((((Lib.compact (val (z7 (sN (uK (tC ([]:pD) ([32]:pD))))))).length):Nat):Int)<((sN (uK (tC ([]:pD) ([32]:pD)))).length:Int)))) ((decide ((20:Int)<((sN (uK (tC ([]:pD) ([32]:pD)))).length:Int)))||(decide ((aB.2.2.2.1.length:Int)=(1000:Int)))) aD).bind fun bH=>if (!decide (bH.2=(0:Int)))=true then some ((O,bH.1,bH.2,aB.2.2.2.1,aC.1,aD)) else (BW ([([110,101,119]:pD),([102,117,122,122,121]:pD),([116,114,97,110,115,108,97,116,101,100]:pD),([114,101,118,105,101,119,101,100]:pD),([111,98,115,111,108,101,116,101]:pD)]:pE) ([]:pD)).bind fun bI=>(y7 O bH.1 bH.2 (aB.1,(aB.2.1,(aB.2.2.1,(aB.2.2.2.1,())))) (aC.1,()) (tW .str .bool ([]:pD) true aD)).bind fun bJ=>sQ (σ:=(Int×(List sH)×Int×Int×pD×pD×pE×(List r6))) (if (decide (aE.1=(1:Int)))=true then (zK bJ bH.1 bH.2 (aB.1,(aB.2.1,(aB.2.2.1,(aB.2.2.2.1,())))) (aC.1,()) (([]:pD),(([]:pD),(([]:pD),(([]:pE),((sN (uK (tC ([]:pD) ([32]:pD)))),((max (0:Int) bI),(([]:List r6),()))))))) (tW .str .bool ([]:pD) true aD)).bind fun bK=>some ((bK.1,bK.2.1,bK.2.2.1,bK.2.2.2.1,bK.2.2.2.2.1,bK.2.2.2.2.2.1,bK.2.2.2.2.2.2.1,bK.2.2.2.2.2.2.2)) else some ((((qQ sW O (0:Int)).2.2.1+(((qQ sW O (0:Int)).2.1).length:Int)),bJ,bH.1,bH.2,([]:pD),([]:pD),([]:pE),([]:List r6))) ) fun(bM,bN,bO,bP,bQ,bR,bS,bT)=>if (aB.2.2.2.1.length+([(([]:pD),(bQ,(bR,(bS,((sN (uK (tC ([]:pD) ([32]:pD)))),((max (0:Int) bI),(bT,())))))))]:List s0).length)*128≤140737488355328 then if (aC.1.length+([bM]:pM).length)*8≤140737488355328 then some ((bN,bO,bP,(aB.2.2.2.1++([(([]:pD),(bQ,(bR,(bS,((sN (uK (tC ([]:pD) ([32]:pD)))),((max (0:Int) bI),(bT,())))))))]:List s0)),(aC.1++([bM]:pM)),(tW .str .bool ([]:pD) true aD))) else none else none else none else none else (xT O Z aA aB aC (((((!decide (aE.1=(1:Int)))&&(!decide (aE.1=(2:Int))))||(!decide (aE.2.1=([101,110,116,114,121]:pD))))||true)||(val (DT aE.2.2.1))) true ((decide ((20:Int)<((sN (uK (tC ([]:pD) ([32]:pD)))).length:Int)))||(decide ((aB.2.2.2.1.length:Int)=(1000:Int)))) aD).bind fun bU=>if (!decide (bU.2=(0:Int)))=true then some ((O,bU.1,bU.2,aB.2.2.2.1,aC.1,aD)) else (BW ([([110,101,119]:pD),([102,117,122,122,121]:pD),([116,114,97,110,115,108,97,116,101,100]:pD),([114,101,118,105,101,119,101,100]:pD),([111,98,115,111,108,101,116,101]:pD)]:pE) ([]:pD)).bind fun bV=>(y7 O bU.1 bU.2 (aB.1,(aB.2.1,(aB.2.2.1,(aB.2.2.2.1,())))) (aC.1,()) (tW .str .bool ([]:pD) true aD)).bind fun bW=>sQ (σ:=(Int×(List sH)×Int×Int×pD×pD×pE×(List r6))) (if (decide (aE.1=(1:Int)))=true then (zK bW bU.1 bU.2 (aB.1,(aB.2.1,(aB.2.2.1,(aB.2.2.2.1,())))) (aC.1,()) (([]:pD),(([]:pD),(([]:pD),(([]:pE),((sN (uK (tC ([]:pD) ([32]:pD)))),((max (0:Int) bV),(([]:List r6),()))))))) (tW .str .bool ([]:pD) true aD)).bind fun bX=>some ((bX.1,bX.2.1,bX.2.2.1,bX.2.2.2.1,bX.2.2.2.2.1,bX.2.2.2.2.2.1,bX.2.2.2.2.2.2.1,bX.2.2.2.2.2.2.2)) else some ((((qQ sW O (0:Int)).2.2.1+(((qQ sW O (0:Int)).2.1).length:Int)),bW,bU.1,bU.2,([]:pD),([]:pD),([]:pE),([]:List r6))) ) fun(bZ,cA,cB,cC,cD,cE,cF,cG)=>if (aB.2.2.2.1.length+([(([]:pD),(cD,(cE,(cF,((sN (uK (tC ([]:pD) ([32]:pD)))),((max (0:Int) bV),(cG,())))))))]:List s0).length)*128≤140737488355328 then if (aC.1.length+([bZ]:pM).length)*8≤140737488355328 then some ((cA,cB,cC,(aB.2.2.2.1++([(([]:pD),(cD,(cE,(cF,((sN (uK (tC ([]:pD) ([32]:pD)))),((max (0:Int) bV),(cG,())))))))]:List s0)),(aC.1++([bZ]:pM)),(tW .str .bool ([]:pD) true aD))) else none else none else none else none
section
variable (O:(List sH)) (Z:Int) (aA:Int) (aB:sD) (aC:(pM×Unit)) (aD:Nat) (aE:Nat) (aF:pK)
abbrev a94:List qC:=[(.val .ref (some (0,0)),none)]
abbrev a95:List qB:=[.cells sX (O,(Z,(aA,(aB,((some 3),aC))))) [(6,1),(8,2)],.grow 53 7 aD,.grow 3 1 aE,.map .str .bool aF]
@[go_sem] def a96:qI:=⟨[aD=(aB.2.2.2.1.length),aE=(aC.1.length),((C5 O Z aA aB aC aF)).isSome=true],[],[.cells sX ((val (C5 O Z aA aB aC aF)).1,((val (C5 O Z aA aB aC aF)).2.1,((val (C5 O Z aA aB aC aF)).2.2.1,((aB.1,(aB.2.1,(aB.2.2.1,((val (C5 O Z aA aB aC aF)).2.2.2.1,())))),((some 3),((val (C5 O Z aA aB aC aF)).2.2.2.2.1,())))))) [(6,1),(8,2)],.grow 53 7 (((val (C5 O Z aA aB aC aF)).2.2.2.1).length),.grow 3 1 (((val (C5 O Z aA aB aC aF)).2.2.2.2.1).length),.map .str .bool ((val (C5 O Z aA aB aC aF)).2.2.2.2.2)]⟩
def aIL:List qC→List qB→Option qI:=rM (V:=((List sH)×Int×Int×sD×(pM×Unit)×Nat×Nat×pK)) (fun x=>a94) (fun x=>a95 x.1 x.2.1 x.2.2.1 x.2.2.2.1 x.2.2.2.2.1 x.2.2.2.2.2.1 x.2.2.2.2.2.2.1 x.2.2.2.2.2.2.2) fun x=>a96 x.1 x.2.1 x.2.2.1 x.2.2.2.1 x.2.2.2.2.1 x.2.2.2.2.2.1 x.2.2.2.2.2.2.1 x.2.2.2.2.2.2.2
@[go_sem] def aVm:aIL (no_index a94) (no_index (a95 O Z aA aB aC aD aE aF))=some (a96 O Z aA aB aC aD aE aF):=rQ (fun⟨a0,a1,a2,a3,a4,a5,a6,a7⟩ ⟨b0,b1,b2,b3,b4,b5,b6,b7⟩ h1 h2=>by cases h1;cases h2;rfl) (O,Z,aA,aB,aC,aD,aE,aF)
end
@[go_sem] abbrev aIM:Nat×qW:=(54,⟨[.p sX [6,8]],aIL,[(0,7,.m)],[],none⟩)
def uQ:rF Tryz.prog [wP,BF,sJ,vU,DM,DL,zQ,xI,JP,G9,CV,CW,zI,G8] (rG [IE,P8,YF,M0,a7y,a56,LY,EV,T2,YC,JV,a9Z]):=⟨⟨xE,⟨CX,⟨sM,⟨w7,⟨G7,⟨G6,⟨AS,⟨y5,⟨OT,⟨JO,⟨ES,⟨ET,⟨A9,⟨JN,trivial⟩⟩⟩⟩⟩⟩⟩⟩⟩⟩⟩⟩⟩⟩,qK KE (qK T3 (qK a6k (qK Y1 (qK aHt (qK aGL (qK XZ (qK GC (qK YE (qK a33 (qK MA (qK aII rJ))))))))))),rH⟩
def aPV:rF Tryz.prog [wP,BF,sJ,vU,DM,DL,zQ,xI,JP,G9,CV,CW,zI,G8] (rG [IE,YF,M0,a7y,a56,LY,EV,T2,YC,JV,a9Z,PA]):=⟨⟨xE,⟨CX,⟨sM,⟨w7,⟨G7,⟨G6,⟨AS,⟨y5,⟨OT,⟨JO,⟨ES,⟨ET,⟨A9,⟨JN,trivial⟩⟩⟩⟩⟩⟩⟩⟩⟩⟩⟩⟩⟩⟩,qK KE (qK a6k (qK Y1 (qK aHt (qK aGL (qK XZ (qK GC (qK YE (qK a33 (qK MA (qK aII (qK T4 rJ))))))))))),rH⟩
def aPW:r5 Tryz.prog aIM:=by
 refine rR uQ Tryz.func54 (c:=_) rfl (N:=131) pU (ts:=[]) rfl (fun _ _=>rfl) ?_;intro⟨O,Z,aA,aB,aC,aD,aE,aF⟩ hs hrow;dsimp only[a94,a95,a96,rI,qR,qZ,r8,rL,Nat.reduceAdd] at hs hrow|-;obtain⟨rfl,rfl,hz⟩:=hs;obtain⟨z0,e⟩:=aVt.1 hz
 try rw[rY e]
 clear hz;unfold C5 at e;obtain⟨aG,hv1,hw1,e⟩:=qV e
 try simp only[go_sem] at hw1
 refine q9 uQ ?_ (hp:=by exact⟨pT,pT,pT,pT,pT,pT,(qU hv1)⟩) (h:=by simp only[go_sem,hw1];rfl)
 refine qO ?_;by_cases hva1:((wQ (aG.1,(aG.2.1,(aG.2.2.1,(aG.2.2.2,())))) ([105,100]:pD) ([115,116,97,116,101,32,102,108,97,103,115]:pD))).isSome=true
 .rw[aVs hva1] at e;obtain⟨aH,hv2,hw2,e⟩:=qV e
  try simp only[go_sem] at hw2
  refine rC uQ ?_ (hp:=by exact(qU hv2)) (h:=by simp only[go_sem,hw2];rfl);refine qJ ?_;obtain⟨aI,hv3,hw3,e⟩:=qV e
  try simp only[go_sem] at hw3
  refine q9 uQ ?_ (hp:=by exact(qU hv3)) (h:=by simp only[go_sem,hw3];rfl);obtain⟨hg4,e⟩:=qG e;refine q9 uQ ?_ (hp:=by exact⟨pT,hg4⟩)
  obtain⟨hg5,e⟩:=qG e;refine q9 uQ ?_ (hp:=by exact⟨id,id,sB,id,id,sP,id,sP,id,id,hg5,sP⟩);refine qO ?_;refine RW 420 rfl (by repeat' (first|exact trivial|apply And.intro|exact(fun _=>rfl) |exact(fun h=>absurd h pH))) ?_
  by_cases hgs2:((aG.2.2.2||(s8 .str .bool aF (s8 .str .str aH ([105,100]:pD))))==false)=true
  .rw[aVs hgs2] at e;obtain⟨hg6,e⟩:=qG e;obtain⟨hg7,e⟩:=qG e;obtain⟨aJ,hv8,hw8,e⟩:=qV e
   try simp only[go_sem] at hw8
   refine BD uQ ?_ (hp:=by exact⟨id,id,id,id,id,id,sP,hgs2,id,hg6,hgs2,fun _=>(by first|rfl|trivial),hg7,id,id,id,sP,id,id,id,id,id,id,sP,pT,pT,pT,pT,pT,(qU hv8)⟩) (h:=by simp only[go_sem,hw8];rfl)
   refine qJ (qO ?_);refine q9 uQ ?_;refine qS e (fun e hc3=> ?_) (fun e hc3=> ?_)
   .refine qP (rD ?_);cases e;exact pF [(0,0),(1,1),(2,2),(3,3)]
   .refine r7 (qJ ?_);refine vY uQ ?_;obtain⟨aK,hv9,hw9,e⟩:=qV e
    try simp only[go_sem] at hw9
    refine vY uQ ?_ (hp:=by exact(qU hv9)) (h:=by simp only[go_sem,hw9];rfl);obtain⟨aL,hv10,hw10,e⟩:=qV e
    try simp only[go_sem] at hw10
    refine q9 uQ ?_ (hp:=by exact⟨pT,pT,pT,pT,pT,(qU hv10)⟩) (h:=by simp only[go_sem,hw10];rfl)
    refine qO ?_;refine q9 uQ ?_;obtain⟨y1,f,e⟩:=qM e;refine yM (fun s=>s=(fun x=>⟨[(0,(.val .ref (some (0,0)),none)),(8,(.val .ref (some (4,0)),none)),(9,(.val (.int .i64) x.1,none))],[(0,.cells sX (x.2.1,(x.2.2.1,(x.2.2.2.1,((aB.1,(aB.2.1,(aB.2.2.1,(aB.2.2.2.1,())))),((some 3),(aC.1,())))))) [(6,1),(8,2)]),(1,.grow 53 7 (aB.2.2.2.1.length)),(2,.grow 3 1 (aC.1.length)),(3,.map .str .bool (tW .str .bool (s8 .str .str aH ([105,100]:pD)) true aF)),(4,.cells s7 ((s8 .str .str aH ([105,100]:pD)),(x.2.2.2.2.1,(x.2.2.2.2.2.1,(x.2.2.2.2.2.2.1,((sN (uK (tC (s8 .str .str aH ([102,108,97,103,115]:pD)) ([32]:pD)))),((max (0:Int) aK),(x.2.2.2.2.2.2.2,()))))))) [(3,5)]),(5,.grow 9 1 (x.2.2.2.2.2.2.1.length))],6,131,4⟩) y1) ?_ ?_
    .refine qS f (fun f hc4=> ?_) (fun f hc4=> ?_)
     .obtain⟨aM,hv11,hw11,f⟩:=qV f
      try simp only[go_sem] at hw11
      refine rC uQ ?_ (hp:=by exact⟨pT,pT,pT,pT,pT,pT,(qU hv11)⟩) (h:=by simp only[go_sem,hw11];rfl)
      cases f;exact u6 ⟨⟨[0,8,9],[(0,0),(1,1),(2,2),(3,3),(4,3204),(5,3236)]⟩,by rfl⟩
     .refine r7 ?_;cases f;exact u6 ⟨⟨[0,8,9],[(0,0),(1,1),(2,2),(3,3),(4,3204),(5,3236)]⟩,by rfl⟩
    .rintro _ rfl;obtain⟨aN,aO,aP,aQ,aR,aS,aT,aU⟩:=y1;dsimp only at e|-;refine qJ ?_;obtain⟨hg12,e⟩:=qG e;obtain⟨hg13,e⟩:=qG e;refine BD uQ ?_ (hp:=by exact⟨pT,hg12,pT,hg13⟩)
     cases e;exact pF [(0,0),(1,1),(2,2),(3,3)]
  rw[aVv hgs2] at e;obtain⟨aV,hv14,hw14,e⟩:=qV e
  try simp only[go_sem] at hw14
  refine BD (a16 (l:=[1000000026]) uQ pV) ?_ (hp:=by exact⟨id,id,id,id,id,id,sP,by first|exact Bool.eq_false_iff.2 hgs2|simpa using hgs2|simpa[r8] using hgs2,by first|exact Bool.eq_false_iff.2 hgs2|simpa using hgs2|simpa[r8] using hgs2,by first|exact Bool.eq_false_iff.2 hgs2|simpa using hgs2|simpa[r8] using hgs2,by first|exact Bool.eq_false_iff.2 hgs2|simpa using hgs2|simpa[r8] using hgs2,by first|exact Bool.eq_false_iff.2 hgs2|simpa using hgs2|simpa[r8] using hgs2,by first|exact Bool.eq_false_iff.2 hgs2|simpa using hgs2|simpa[r8] using hgs2,by first|exact Bool.eq_false_iff.2 hgs2|simpa using hgs2|simpa[r8] using hgs2,by first|exact Bool.of_not_eq_false (fun d=>hgs2 (by rw[d];rfl)) |exact Bool.of_not_eq_true (fun d=>hgs2 (by rw[d];rfl)) |simpa using hgs2|simpa[r8] using hgs2,id,id,id,id,id,id,sP,pT,pT,pT,pT,pT,(qU hv14)⟩) (h:=by simp only[go_sem,hw14];rfl)
  refine qJ (qO ?_);refine q9 uQ ?_;refine qS e (fun e hc5=> ?_) (fun e hc5=> ?_)
  .refine qP (rD ?_);cases e;exact pF [(0,0),(1,1),(2,2),(3,3)]
  .refine r7 (qJ ?_);refine vY uQ ?_;obtain⟨aW,hv15,hw15,e⟩:=qV e
   try simp only[go_sem] at hw15
   refine vY uQ ?_ (hp:=by exact(qU hv15)) (h:=by simp only[go_sem,hw15];rfl);obtain⟨aX,hv16,hw16,e⟩:=qV e
   try simp only[go_sem] at hw16
   refine q9 uQ ?_ (hp:=by exact⟨pT,pT,pT,pT,pT,(qU hv16)⟩) (h:=by simp only[go_sem,hw16];rfl)
   refine qO ?_;refine q9 uQ ?_;obtain⟨y1,f,e⟩:=qM e;refine yM (fun s=>s=(fun x=>⟨[(0,(.val .ref (some (0,0)),none)),(8,(.val .ref (some (4,0)),none)),(9,(.val (.int .i64) x.1,none))],[(0,.cells sX (x.2.1,(x.2.2.1,(x.2.2.2.1,((aB.1,(aB.2.1,(aB.2.2.1,(aB.2.2.2.1,())))),((some 3),(aC.1,())))))) [(6,1),(8,2)]),(1,.grow 53 7 (aB.2.2.2.1.length)),(2,.grow 3 1 (aC.1.length)),(3,.map .str .bool (tW .str .bool (s8 .str .str aH ([105,100]:pD)) true aF)),(4,.cells s7 ((s8 .str .str aH ([105,100]:pD)),(x.2.2.2.2.1,(x.2.2.2.2.2.1,(x.2.2.2.2.2.2.1,((sN (uK (tC (s8 .str .str aH ([102,108,97,103,115]:pD)) ([32]:pD)))),((max (0:Int) aW),(x.2.2.2.2.2.2.2,()))))))) [(3,5)]),(5,.grow 9 1 (x.2.2.2.2.2.2.1.length))],6,131,4⟩) y1) ?_ ?_
   .refine qS f (fun f hc6=> ?_) (fun f hc6=> ?_)
    .obtain⟨aY,hv17,hw17,f⟩:=qV f
     try simp only[go_sem] at hw17
     refine rC uQ ?_ (hp:=by exact⟨pT,pT,pT,pT,pT,pT,(qU hv17)⟩) (h:=by simp only[go_sem,hw17];rfl)
     cases f;exact u6 ⟨⟨[0,8,9],[(0,0),(1,1),(2,2),(3,3),(4,3204),(5,3236)]⟩,by rfl⟩
    .refine r7 ?_;cases f;exact u6 ⟨⟨[0,8,9],[(0,0),(1,1),(2,2),(3,3),(4,3204),(5,3236)]⟩,by rfl⟩
   .rintro _ rfl;obtain⟨aZ,bA,bB,bC,bD,bE,bF,bG⟩:=y1;dsimp only at e|-;refine qJ ?_;obtain⟨hg18,e⟩:=qG e;obtain⟨hg19,e⟩:=qG e;refine BD uQ ?_ (hp:=by exact⟨pT,hg18,pT,hg19⟩)
    cases e;exact pF [(0,0),(1,1),(2,2),(3,3)]
 rw[aVv hva1] at e;obtain⟨bH,hv20,hw20,e⟩:=qV e
 try simp only[go_sem] at hw20
 refine rC aPV ?_ (hp:=by exact(qU hv20)) (h:=by simp only[go_sem,hw20];rfl);refine qJ ?_;obtain⟨bI,hv21,hw21,e⟩:=qV e
 try simp only[go_sem] at hw21
 refine q9 uQ ?_ (hp:=by exact(qU hv21)) (h:=by simp only[go_sem,hw21];rfl);obtain⟨hg22,e⟩:=qG e;refine q9 uQ ?_ (hp:=by exact⟨pT,hg22⟩)
 obtain⟨hg23,e⟩:=qG e;refine q9 uQ ?_ (hp:=by exact⟨id,id,sB,id,id,sP,id,sP,id,id,hg23,(fun d=>by first|exact sP d|exact rfl|exact d.elim|simp_all)⟩)
 refine qO ?_;refine RW 420 rfl (by repeat' (first|exact trivial|apply And.intro|exact(fun _=>rfl) |exact(fun h=>absurd h pH))) ?_
 by_cases hgs7:((aG.2.2.2||(s8 .str .bool aF ([]:pD)))==false)=true
 .rw[aVs hgs7] at e;obtain⟨hg24,e⟩:=qG e;obtain⟨hg25,e⟩:=qG e;obtain⟨bJ,hv26,hw26,e⟩:=qV e
  try simp only[go_sem] at hw26
  refine BD uQ ?_ (hp:=by exact⟨id,id,id,id,id,id,sP,hgs7,id,hg24,hgs7,fun _=>(by first|rfl|trivial),hg25,id,id,id,sP,id,id,id,id,id,id,sP,pT,pT,pT,pT,pT,(qU hv26)⟩) (h:=by simp only[go_sem,hw26];rfl)
  refine qJ (qO ?_);refine q9 uQ ?_;refine qS e (fun e hc8=> ?_) (fun e hc8=> ?_)
  .refine qP (rD ?_);cases e;exact pF [(0,0),(1,1),(2,2),(3,3)]
  .refine r7 (qJ ?_);refine vY uQ ?_;obtain⟨bK,hv27,hw27,e⟩:=qV e
   try simp only[go_sem] at hw27
   refine vY uQ ?_ (hp:=by exact(qU hv27)) (h:=by simp only[go_sem,hw27];rfl);obtain⟨bM,hv28,hw28,e⟩:=qV e
   try simp only[go_sem] at hw28
   refine q9 uQ ?_ (hp:=by exact⟨pT,pT,pT,pT,pT,(qU hv28)⟩) (h:=by simp only[go_sem,hw28];rfl)
   refine qO ?_;refine q9 uQ ?_;obtain⟨y1,f,e⟩:=qM e;refine yM (fun s=>s=(fun x=>⟨[(0,(.val .ref (some (0,0)),none)),(8,(.val .ref (some (4,0)),none)),(9,(.val (.int .i64) x.1,none))],[(0,.cells sX (x.2.1,(x.2.2.1,(x.2.2.2.1,((aB.1,(aB.2.1,(aB.2.2.1,(aB.2.2.2.1,())))),((some 3),(aC.1,())))))) [(6,1),(8,2)]),(1,.grow 53 7 (aB.2.2.2.1.length)),(2,.grow 3 1 (aC.1.length)),(3,.map .str .bool (tW .str .bool ([]:pD) true aF)),(4,.cells s7 (([]:pD),(x.2.2.2.2.1,(x.2.2.2.2.2.1,(x.2.2.2.2.2.2.1,((sN (uK (tC ([]:pD) ([32]:pD)))),((max (0:Int) bK),(x.2.2.2.2.2.2.2,()))))))) [(3,5)]),(5,.grow 9 1 (x.2.2.2.2.2.2.1.length))],6,131,4⟩) y1) ?_ ?_
   .refine qS f (fun f hc9=> ?_) (fun f hc9=> ?_)
    .obtain⟨bN,hv29,hw29,f⟩:=qV f
     try simp only[go_sem] at hw29
     refine rC uQ ?_ (hp:=by exact⟨pT,pT,pT,pT,pT,pT,(qU hv29)⟩) (h:=by simp only[go_sem,hw29];rfl)
     cases f;exact u6 ⟨⟨[0,8,9],[(0,0),(1,1),(2,2),(3,3),(4,3204),(5,3236)]⟩,by rfl⟩
    .refine r7 ?_;cases f;exact u6 ⟨⟨[0,8,9],[(0,0),(1,1),(2,2),(3,3),(4,3204),(5,3236)]⟩,by rfl⟩
   .rintro _ rfl;obtain⟨bO,bP,bQ,bR,bS,bT,bU,bV⟩:=y1;dsimp only at e|-;refine qJ ?_;obtain⟨hg30,e⟩:=qG e;obtain⟨hg31,e⟩:=qG e;refine BD uQ ?_ (hp:=by exact⟨pT,hg30,pT,hg31⟩)
    cases e;exact pF [(0,0),(1,1),(2,2),(3,3)]
 rw[aVv hgs7] at e;obtain⟨bW,hv32,hw32,e⟩:=qV e
 try simp only[go_sem] at hw32
 refine BD (a16 (l:=[1000000026]) uQ pV) ?_ (hp:=by exact⟨id,id,id,id,id,id,sP,by first|exact Bool.eq_false_iff.2 hgs7|simpa using hgs7|simpa[r8] using hgs7,by first|exact Bool.eq_false_iff.2 hgs7|simpa using hgs7|simpa[r8] using hgs7,by first|exact Bool.eq_false_iff.2 hgs7|simpa using hgs7|simpa[r8] using hgs7,by first|exact Bool.eq_false_iff.2 hgs7|simpa using hgs7|simpa[r8] using hgs7,by first|exact Bool.eq_false_iff.2 hgs7|simpa using hgs7|simpa[r8] using hgs7,by first|exact Bool.eq_false_iff.2 hgs7|simpa using hgs7|simpa[r8] using hgs7,by first|exact Bool.eq_false_iff.2 hgs7|simpa using hgs7|simpa[r8] using hgs7,by first|exact Bool.of_not_eq_false (fun d=>hgs7 (by rw[d];rfl)) |exact Bool.of_not_eq_true (fun d=>hgs7 (by rw[d];rfl)) |simpa using hgs7|simpa[r8] using hgs7,id,id,id,id,id,id,sP,pT,pT,pT,pT,pT,(qU hv32)⟩) (h:=by simp only[go_sem,hw32];rfl)
 refine qJ (qO ?_);refine q9 uQ ?_;refine qS e (fun e hc10=> ?_) (fun e hc10=> ?_)
 .refine qP (rD ?_);cases e;exact pF [(0,0),(1,1),(2,2),(3,3)]
 .refine r7 (qJ ?_);refine vY uQ ?_;obtain⟨bX,hv33,hw33,e⟩:=qV e
  try simp only[go_sem] at hw33
  refine vY uQ ?_ (hp:=by exact(qU hv33)) (h:=by simp only[go_sem,hw33];rfl);obtain⟨bZ,hv34,hw34,e⟩:=qV e
  try simp only[go_sem] at hw34
  refine q9 uQ ?_ (hp:=by exact⟨pT,pT,pT,pT,pT,(qU hv34)⟩) (h:=by simp only[go_sem,hw34];rfl)
  refine qO ?_;refine q9 uQ ?_;obtain⟨y1,f,e⟩:=qM e;refine yM (fun s=>s=(fun x=>⟨[(0,(.val .ref (some (0,0)),none)),(8,(.val .ref (some (4,0)),none)),(9,(.val (.int .i64) x.1,none))],[(0,.cells sX (x.2.1,(x.2.2.1,(x.2.2.2.1,((aB.1,(aB.2.1,(aB.2.2.1,(aB.2.2.2.1,())))),((some 3),(aC.1,())))))) [(6,1),(8,2)]),(1,.grow 53 7 (aB.2.2.2.1.length)),(2,.grow 3 1 (aC.1.length)),(3,.map .str .bool (tW .str .bool ([]:pD) true aF)),(4,.cells s7 (([]:pD),(x.2.2.2.2.1,(x.2.2.2.2.2.1,(x.2.2.2.2.2.2.1,((sN (uK (tC ([]:pD) ([32]:pD)))),((max (0:Int) bX),(x.2.2.2.2.2.2.2,()))))))) [(3,5)]),(5,.grow 9 1 (x.2.2.2.2.2.2.1.length))],6,131,4⟩) y1) ?_ ?_
  .refine qS f (fun f hc11=> ?_) (fun f hc11=> ?_)
   .obtain⟨cA,hv35,hw35,f⟩:=qV f
    try simp only[go_sem] at hw35
    refine rC uQ ?_ (hp:=by exact⟨pT,pT,pT,pT,pT,pT,(qU hv35)⟩) (h:=by simp only[go_sem,hw35];rfl)
    cases f;exact u6 ⟨⟨[0,8,9],[(0,0),(1,1),(2,2),(3,3),(4,3204),(5,3236)]⟩,by rfl⟩
   .refine r7 ?_;cases f;exact u6 ⟨⟨[0,8,9],[(0,0),(1,1),(2,2),(3,3),(4,3204),(5,3236)]⟩,by rfl⟩
  .rintro _ rfl;obtain⟨cB,cC,cD,cE,cF,cG,cH,cJ⟩:=y1;dsimp only at e|-;refine qJ ?_;obtain⟨hg36,e⟩:=qG e;obtain⟨hg37,e⟩:=qG e;refine BD uQ ?_ (hp:=by exact⟨pT,hg36,pT,hg37⟩)
   cases e;exact pF [(0,0),(1,1),(2,2),(3,3)]
attribute [irreducible] C5
end
noncomputable section
def FB (O:((List sH)×Int×Int×pD×pE×(List r6)×pM)):((List sH)×Int×Int×(List s0)×pM×pK)→Option (((List sH)×Int×Int×(List s0)×pM×pK)⊕((List sH)×Int×Int×(List s0)×pM×pK)):=fun(Z,aA,aB,aC,aD,aE)=>if (decide (aB=(0:Int)))=true then (AA Z aA aB (O.2.2.2.1,(O.2.2.2.2.1,(O.2.2.2.2.2.1,(aC,())))) (aD,()) aE).bind fun aF=>(AT aF aA aB (O.2.2.2.1,(O.2.2.2.2.1,(O.2.2.2.2.2.1,(aC,())))) (aD,()) aE).bind fun aG=>if (decide (aG.1=(3:Int)))=true then some (.inr (aF,aA,aB,aC,aD,aE)) else (C5 aF aA aB (O.2.2.2.1,(O.2.2.2.2.1,(O.2.2.2.2.2.1,(aC,())))) (aD,()) aE).bind fun aH=>some (.inl (aH.1,aH.2.1,aH.2.2.1,aH.2.2.2.1,aH.2.2.2.2.1,aH.2.2.2.2.2)) else some (.inr (Z,aA,aB,aC,aD,aE))
def AC (O:pD):Option ((List sH)×Int×Int×pD×pE×(List r6)×(List s0)×pM×pK):=(Gs.slices_Collect_elements_token_elements_tokensF1 O).bind fun Z=>(C3 Z (0:Int) (0:Int) (([]:pD),(([]:pE),(([]:List r6),(([]:List s0),())))) (([]:pM),()) ([]:pK)).bind fun aA=>sQ (rO (FB aA) (aA.1,aA.2.1,aA.2.2.1,([]:List s0),aA.2.2.2.2.2.2,([]:pK))) fun(aB,aC,aD,aE,aF,aG)=>(BI aB aC aD (aA.2.2.2.1,(aA.2.2.2.2.1,(aA.2.2.2.2.2.1,(aE,())))) (aF,()) ([101,110,116,114,105,101,115]:pD) aG).bind fun aH=>sQ (σ:=(List sH)) (if (decide (aH.2.2=(0:Int)))=true then (AA aH.1 aH.2.1 aH.2.2 (aA.2.2.2.1,(aA.2.2.2.2.1,(aA.2.2.2.2.2.1,(aE,())))) (aF,()) aG).bind fun aI=>some (aI) else some (aH.1) ) fun aJ=>(BI aJ aH.2.1 aH.2.2 (aA.2.2.2.1,(aA.2.2.2.2.1,(aA.2.2.2.2.2.1,(aE,())))) (aF,()) ([99,97,116,97,108,111,103]:pD) aG).bind fun aK=>sQ (σ:=(List sH)) (if (decide (aK.2.2=(0:Int)))=true then (AA aK.1 aK.2.1 aK.2.2 (aA.2.2.2.1,(aA.2.2.2.2.1,(aA.2.2.2.2.2.1,(aE,())))) (aF,()) aG).bind fun aL=>some (aL) else some (aK.1) ) fun aM=>if 0≤(0:Int)∧(0:Int)<(aM.length:Int) then if (!decide ((qQ sW aM (0:Int)).1=(4:Int)))=true then (zS aM aK.2.1 aK.2.2 (aA.2.2.2.1,(aA.2.2.2.2.1,(aA.2.2.2.2.2.1,(aE,())))) (aF,()) (3:Int) aG).bind fun aN=>some ((aM,aN.1,aN.2,aA.2.2.2.1,aA.2.2.2.2.1,aA.2.2.2.2.2.1,aE,aF,aG)) else some ((aM,aK.2.1,aK.2.2,aA.2.2.2.1,aA.2.2.2.2.1,aA.2.2.2.2.2.1,aE,aF,aG)) else none
section
variable (O:pD)
abbrev a97:List qC:=[(.val .str O,none)]
abbrev a98:List qB:=[]
@[go_sem] def a99:qI:=⟨[((AC O)).isSome=true],[(.val .ref (some (0,0)),none)],[.cells sX ((val (AC O)).1,((val (AC O)).2.1,((val (AC O)).2.2.1,(((val (AC O)).2.2.2.1,((val (AC O)).2.2.2.2.1,((val (AC O)).2.2.2.2.2.1,((val (AC O)).2.2.2.2.2.2.1,())))),((some 1),((val (AC O)).2.2.2.2.2.2.2.1,())))))) [(6,2),(8,3)],.map .str .bool ((val (AC O)).2.2.2.2.2.2.2.2),.grow 53 7 (((val (AC O)).2.2.2.2.2.2.1).length),.grow 3 1 (((val (AC O)).2.2.2.2.2.2.2.1).length)]⟩
def aIN:List qC→List qB→Option qI:=rM (V:=pD) (a97) (fun x=>a98) fun x=>a99 x
@[go_sem] def aVn:aIN (no_index (a97 O)) (no_index a98)=some (a99 O):=rQ (fun a0 b0 h1 h2=>by cases h1;cases h2;rfl) O
end
@[go_sem] abbrev aIO:Nat×qW:=(26,⟨[.v],aIN,[],[],none⟩)
def zV:rF Tryz.prog [wP,BF,sJ,DM,CT,JP,CV,AQ,zI] (rG [aFq,a3b,aIK,PD,IE,aIM,TS,M7]):=⟨⟨xE,⟨CX,⟨sM,⟨G7,⟨HN,⟨OT,⟨ES,⟨G3,⟨A9,trivial⟩⟩⟩⟩⟩⟩⟩⟩⟩,qK aOQ (qK aOM (qK aPU (qK T7 (qK KE (qK aPW (qK YP (qK OU rJ))))))),rH⟩
def aPX:r5 Tryz.prog aIO:=by
 refine rR zV Tryz.func26 (c:=_) rfl (N:=54) pU (ts:=[(2,none)]) rfl (fun _ _=>rfl) ?_;intro O hs hrow;dsimp only[a97,a98,a99,rI,qR,qZ,r8,rL,Nat.reduceAdd] at hs hrow|-;have hz:=hs;obtain⟨z0,e⟩:=aVt.1 hz
 try rw[rY e]
 clear hz hs;unfold AC at e;refine q9 zV ?_;obtain⟨Z,hv1,hw1,e⟩:=qV e
 try simp only[go_sem] at hw1
 refine q9 zV ?_ (hp:=by exact⟨pT,(qU hv1)⟩) (h:=by simp only[go_sem,hw1];rfl)
 obtain⟨aA,hv2,hw2,e⟩:=qV e
 try simp only[go_sem] at hw2
 refine q9 zV ?_ (hp:=by exact⟨pT,pT,pT,pT,(qU hv2)⟩) (h:=by simp only[go_sem,hw2];rfl)
 refine qO (rP ?_);obtain⟨y1,hy1,e⟩:=qM e;refine tV 0 (fun s=>s=(fun x=>⟨[(3,(.val .ref (some (0,0)),none))],[(0,.cells sX (x.1,(x.2.1,(x.2.2.1,((aA.2.2.2.1,(aA.2.2.2.2.1,(aA.2.2.2.2.2.1,(x.2.2.2.1,())))),((some 1),(x.2.2.2.2.1,())))))) [(6,2),(8,3)]),(1,.map .str .bool x.2.2.2.2.2),(2,.grow 53 7 (x.2.2.2.1.length)),(3,.grow 3 1 (x.2.2.2.2.1.length))],4,54,0⟩) y1) ?_ ?_
 .refine tP hy1 (fun x=>⟨[(3,(.val .ref (some (0,0)),none))],[(0,.cells sX (x.1,(x.2.1,(x.2.2.1,((aA.2.2.2.1,(aA.2.2.2.2.1,(aA.2.2.2.2.2.1,(x.2.2.2.1,())))),((some 1),(x.2.2.2.2.1,())))))) [(6,2),(8,3)]),(1,.map .str .bool x.2.2.2.2.2),(2,.grow 53 7 (x.2.2.2.1.length)),(3,.grow 3 1 (x.2.2.2.2.1.length))],4,54,0⟩) ⟨[3],[(0,192),(1,128),(2,195),(3,196)]⟩ pV ?_;intro x1 w1 n1 d f;obtain⟨aB,aC,aD,aE,aF,aG⟩:=x1;unfold FB at d;dsimp only at d|-;refine qO ?_;refine q9 zV ?_;refine qS d (fun d hc1=> ?_) (fun d hc1=> ?_)
  .refine r7 (qJ (rP ?_));obtain⟨aH,hv3,hw3,d⟩:=qV d
   try simp only[go_sem] at hw3
   refine q9 zV ?_ (hp:=by exact⟨pT,pT,pT,pT,pT,(qU hv3)⟩) (h:=by simp only[go_sem,hw3];rfl)
   refine qO ?_;obtain⟨aI,hv4,hw4,d⟩:=qV d
   try simp only[go_sem] at hw4
   refine q9 zV ?_ (hp:=by exact⟨pT,pT,pT,pT,pT,pT,(qU hv4)⟩) (h:=by simp only[go_sem,hw4];rfl)
   refine qS d (fun d hc2=> ?_) (fun d hc2=> ?_)
   .refine tK (tJ (aEj pH (tN ?_)));cases d;cases f;exact tM ⟨⟨[3],[(0,0),(1,1),(2,2),(3,3)]⟩,by rfl⟩
   .refine r7 (qJ ?_);obtain⟨aJ,hv5,hw5,d⟩:=qV d
    try simp only[go_sem] at hw5
    refine rC zV ?_ (hp:=by exact⟨pT,pT,(qU hv5)⟩) (h:=by simp only[go_sem,hw5];rfl)
    refine rU ?_;cases d;exact sU ⟨⟨[3],[(0,0),(1,1),(2,2),(3,3)]⟩,_,by rfl,f⟩
  .refine tK (tJ (tN ?_));cases d;cases f;exact tM ⟨⟨[3],[(0,0),(1,1),(2,2),(3,3)]⟩,by rfl⟩
 .rintro _ rfl;obtain⟨aK,aL,aM,aN,aO,aP⟩:=y1;dsimp only at e|-;refine tU (qJ ?_);obtain⟨aQ,hv6,hw6,e⟩:=qV e
  try simp only[go_sem] at hw6
  refine q9 zV ?_ (hp:=by exact⟨pT,pT,pT,pT,pT,(qU hv6)⟩) (h:=by simp only[go_sem,hw6];rfl)
  refine qO ?_;refine q9 zV ?_;obtain⟨aR,d,e⟩:=qM e;refine yM (fun s=>s=(fun x=>⟨[(3,(.val .ref (some (0,0)),none))],[(0,.cells sX (x,(aQ.2.1,(aQ.2.2,((aA.2.2.2.1,(aA.2.2.2.2.1,(aA.2.2.2.2.2.1,(aN,())))),((some 1),(aO,())))))) [(6,2),(8,3)]),(1,.map .str .bool aP),(2,.grow 53 7 (aN.length)),(3,.grow 3 1 (aO.length))],4,54,0⟩) aR) ?_ ?_
  .refine qS d (fun d hc3=> ?_) (fun d hc3=> ?_)
   .obtain⟨aS,hv7,hw7,d⟩:=qV d
    try simp only[go_sem] at hw7
    refine rC zV ?_ (hp:=by exact⟨pT,pT,pT,pT,pT,(qU hv7)⟩) (h:=by simp only[go_sem,hw7];rfl)
    cases d;exact u6 ⟨⟨[3],[(0,0),(1,1),(2,2),(3,3)]⟩,by rfl⟩
   .refine r7 ?_;cases d;exact u6 ⟨⟨[3],[(0,0),(1,1),(2,2),(3,3)]⟩,by rfl⟩
  .rintro _ rfl;dsimp only at e|-;refine qJ ?_;obtain⟨aT,hv8,hw8,e⟩:=qV e
   try simp only[go_sem] at hw8
   refine q9 zV ?_ (hp:=by exact⟨pT,pT,pT,pT,pT,(qU hv8)⟩) (h:=by simp only[go_sem,hw8];rfl)
   refine qO ?_;refine q9 zV ?_;obtain⟨aU,d,e⟩:=qM e;refine yM (fun s=>s=(fun x=>⟨[(3,(.val .ref (some (0,0)),none))],[(0,.cells sX (x,(aT.2.1,(aT.2.2,((aA.2.2.2.1,(aA.2.2.2.2.1,(aA.2.2.2.2.2.1,(aN,())))),((some 1),(aO,())))))) [(6,2),(8,3)]),(1,.map .str .bool aP),(2,.grow 53 7 (aN.length)),(3,.grow 3 1 (aO.length))],4,54,0⟩) aU) ?_ ?_
   .refine qS d (fun d hc4=> ?_) (fun d hc4=> ?_)
    .obtain⟨aV,hv9,hw9,d⟩:=qV d
     try simp only[go_sem] at hw9
     refine rC zV ?_ (hp:=by exact⟨pT,pT,pT,pT,pT,(qU hv9)⟩) (h:=by simp only[go_sem,hw9];rfl)
     cases d;exact u6 ⟨⟨[3],[(0,0),(1,1),(2,2),(3,3)]⟩,by rfl⟩
    .refine r7 ?_;cases d;exact u6 ⟨⟨[3],[(0,0),(1,1),(2,2),(3,3)]⟩,by rfl⟩
   .rintro _ rfl;dsimp only at e|-;refine qJ (qO ?_);obtain⟨hg10,e⟩:=qG e;refine q9 zV ?_ (hp:=by exact hg10);refine qS e (fun e hc5=> ?_) (fun e hc5=> ?_)
    .obtain⟨aW,hv11,hw11,e⟩:=qV e
     try simp only[go_sem] at hw11
     refine rC zV ?_ (hp:=by exact⟨pT,pT,pT,pT,pT,(qU hv11)⟩) (h:=by simp only[go_sem,hw11];rfl)
     refine qJ ?_;refine q9 zV ?_;refine qP ?_;cases e;exact pF [(0,0),(1,1),(2,2),(3,3)]
    .refine r7 (qJ ?_);refine q9 zV ?_;refine qP ?_;cases e;exact pF [(0,0),(1,1),(2,2),(3,3)]
attribute [irreducible] AC
end
noncomputable section
def z8 (O:pD):Option (pD×pE×(List r6)×(List s0)×Int×Int):=(AC O).bind fun Z=>if (!decide (Z.2.2.1=(0:Int)))=true then some ((([]:pD),([]:pE),([]:List r6),([]:List s0),Z.2.1,Z.2.2.1)) else some ((Z.2.2.2.1,Z.2.2.2.2.1,Z.2.2.2.2.2.1,Z.2.2.2.2.2.2.1,(0:Int),(0:Int)))
section
variable (O:pD)
abbrev aAa:List qC:=[(.val .str O,none)]
abbrev aAb:List qB:=[]
@[go_sem] def aAc:qI:=⟨[((z8 O)).isSome=true],[(.val xG ((val (z8 O)).1,((val (z8 O)).2.1,((val (z8 O)).2.2.1,((val (z8 O)).2.2.2.1,())))),none),(.val (.int .i64) ((val (z8 O)).2.2.2.2.1),none),(.val (.int .i64) ((val (z8 O)).2.2.2.2.2),none)],[]⟩
def aIP:List qC→List qB→Option qI:=rM (V:=pD) (aAa) (fun x=>aAb) fun x=>aAc x
@[go_sem] def aVo:aIP (no_index (aAa O)) (no_index aAb)=some (aAc O):=rQ (fun a0 b0 h1 h2=>by cases h1;cases h2;rfl) O
end
@[go_sem] abbrev aAd:Nat×qW:=(12,⟨[.v],aIP,[],[],none⟩)
def PR:rF Tryz.prog [wP,DM,zQ,CV] (rG [aIO]):=⟨⟨xE,⟨G7,⟨AS,⟨ES,trivial⟩⟩⟩⟩,qK aPX rJ,rH⟩
def aIQ:r5 Tryz.prog aAd:=by
 refine rR PR Tryz.func12 (c:=_) rfl (N:=26) pU (ts:=[(2,some 36),(3,none),(4,none)]) rfl (fun _ _=>rfl) ?_;intro O hs hrow;dsimp only[aAa,aAb,aAc,rI,qR,qZ,r8,rL,Nat.reduceAdd] at hs hrow|-;have hz:=hs;obtain⟨z0,e⟩:=aVt.1 hz
 try rw[rY e]
 clear hz hs;unfold z8 at e;refine q9 PR ?_;obtain⟨Z,hv1,hw1,e⟩:=qV e
 try simp only[go_sem] at hw1
 refine q9 PR ?_ (hp:=by exact(qU hv1)) (h:=by simp only[go_sem,hw1];rfl);refine qO ?_;refine q9 PR ?_;refine qS e (fun e hc1=> ?_) (fun e hc1=> ?_)
 .refine vY PR ?_;refine qP (rD ?_);cases e;exact pF []
 .refine r7 (qJ ?_);refine q9 PR ?_;refine qP ?_;cases e;exact pF []
def PS:Option Bool:=(z8 ([60,99,97,116,97,108,111,103,32,116,97,103,61,34,100,101,34,62,60,101,110,116,114,105,101,115,62,60,101,110,116,114,121,32,105,100,61,34,97,34,62,60,116,97,114,103,101,116,62,120,60,47,116,97,114,103,101,116,62,60,47,101,110,116,114,121,62,60,47,101,110,116,114,105,101,115,62,60,47,99,97,116,97,108,111,103,62]:pD)).bind fun O=>if (((((decide (O.2.2.2.2.2=(0:Int)))&&(decide (O.1=([100,101]:pD))))&&(decide ((O.2.2.2.1.length:Int)=(1:Int))))==true)=true→0≤(0:Int)∧(0:Int)<(O.2.2.2.1.length:Int)) then if ((((((decide (O.2.2.2.2.2=(0:Int)))&&(decide (O.1=([100,101]:pD))))&&(decide ((O.2.2.2.1.length:Int)=(1:Int))))&&(decide ((qQ s7 O.2.2.2.1 (0:Int)).1=([97]:pD))))==true)=true→0≤(0:Int)∧(0:Int)<(O.2.2.2.1.length:Int)) then some ((((((decide (O.2.2.2.2.2=(0:Int)))&&(decide (O.1=([100,101]:pD))))&&(decide ((O.2.2.2.1.length:Int)=(1:Int))))&&(decide ((qQ s7 O.2.2.2.1 (0:Int)).1=([97]:pD))))&&(decide ((qQ s7 O.2.2.2.1 (0:Int)).2.2.1=([120]:pD))))) else none else none
section
abbrev aAe:List qC:=[]
abbrev aAf:List qB:=[]
@[go_sem] def aAg:qI:=⟨[(PS).isSome=true],[(.val .bool (val PS),none)],[]⟩
def aIR:List qC→List qB→Option qI:=rM (V:=Unit) (fun x=>aAe) (fun x=>aAf) fun x=>aAg
@[go_sem] def aVp:aIR (no_index aAe) (no_index aAf)=some aAg:=rQ (fun _ _ h1 h2=>by cases h1;cases h2;rfl) ()
end
@[go_sem] abbrev aIS:Nat×qW:=(8,⟨[],aIR,[],[],none⟩)
def YU:rF Tryz.prog [sJ,DL,zQ,xI] (rG [aAd]):=⟨⟨sM,⟨G6,⟨AS,⟨y5,trivial⟩⟩⟩⟩,qK aIQ rJ,rH⟩
def aPY:r5 Tryz.prog aIS:=by
 refine rR YU Tryz.func8 (c:=_) rfl (N:=38) pU (ts:=[(0,none)]) rfl (fun _ _=>rfl) ?_;intro⟨⟩ hs hrow;dsimp only[aAe,aAf,aAg,rI,qR,qZ,r8,rL,Nat.reduceAdd] at hs hrow|-;have hz:=hs;obtain⟨z0,e⟩:=aVt.1 hz
 try rw[rY e]
 clear hz hs;unfold PS at e;refine q9 YU ?_ (h:=by simp only[List.append_eq,go_sem];rfl);obtain⟨O,hv1,hw1,e⟩:=qV e
 try simp only[go_sem] at hw1
 refine q9 YU ?_ (hp:=by exact(qU hv1)) (h:=by simp only[List.append_eq,go_sem,hw1];rfl);obtain⟨hg2,e⟩:=qG e;obtain⟨hg3,e⟩:=qG e;refine q9 YU ?_ (hp:=by exact⟨id,id,sB,id,id,id,sB,id,id,hg2,id,id,id,sB,id,id,hg3,id,id,id,sB⟩) (h:=by simp only[List.append_eq,go_sem];rfl);refine qP ?_;cases e;exact pF []
attribute [irreducible] z8 PS
end
noncomputable section
def MY (O:sD) (Z:pD):Option Bool:=PS.bind fun aA=>if (!aA)=true then some (false) else (I8 O).bind fun aB=>if ((!aB)||(decide ((4000:Int)<(Z.length:Int))))=true then some (true) else (D1 O).bind fun aC=>tY (σ:=Unit) (if aC=true then (DX O).bind fun aD=>(z8 aD.1).bind fun aE=>if ((((!decide (aD.2=(0:Int)))||(!decide (aE.2.2.2.2.2=(0:Int))))==false)=true→((DU (aE.1,(aE.2.1,(aE.2.2.1,(aE.2.2.2.1,())))) O)).isSome=true) then if (((!decide (aD.2=(0:Int)))||(!decide (aE.2.2.2.2.2=(0:Int))))||(!((((decide (aE.1=O.1))&&(val (x4 aE.2.1 O.2.1)))&&(val (zJ aE.2.2.1 O.2.2.1)))&&(val (BY aE.2.2.2.1 O.2.2.2.1)))))=true then some (.inr (false)) else some (.inl ()) else none else some (.inl ()) ) fun _=>(z8 Z).bind fun aF=>if (!decide (aF.2.2.2.2.2=(0:Int)))=true then (DU (aF.1,(aF.2.1,(aF.2.2.1,(aF.2.2.2.1,())))) (([]:pD),(([]:pE),(([]:List r6),(([]:List s0),()))))).bind fun aG=>some (((((decide (aF.1=([]:pD)))&&(val (x4 aF.2.1 ([]:pE))))&&(val (zJ aF.2.2.1 ([]:List r6))))&&(val (BY aF.2.2.2.1 ([]:List s0))))) else (DX (aF.1,(aF.2.1,(aF.2.2.1,(aF.2.2.2.1,()))))).bind fun aH=>(z8 aH.1).bind fun aI=>(DX (aI.1,(aI.2.1,(aI.2.2.1,(aI.2.2.2.1,()))))).bind fun aJ=>if (((((decide (aH.2=(0:Int)))&&(decide (aI.2.2.2.2.2=(0:Int))))&&(decide (aJ.2=(0:Int))))==true)=true→((D1 (aF.1,(aF.2.1,(aF.2.2.1,(aF.2.2.2.1,())))))).isSome=true) then if ((((((decide (aH.2=(0:Int)))&&(decide (aI.2.2.2.2.2=(0:Int))))&&(decide (aJ.2=(0:Int))))&&(val (D1 (aF.1,(aF.2.1,(aF.2.2.1,(aF.2.2.2.1,())))))))==true)=true→((DU (aF.1,(aF.2.1,(aF.2.2.1,(aF.2.2.2.1,())))) (aI.1,(aI.2.1,(aI.2.2.1,(aI.2.2.2.1,())))))).isSome=true) then some (((((((decide (aH.2=(0:Int)))&&(decide (aI.2.2.2.2.2=(0:Int))))&&(decide (aJ.2=(0:Int))))&&(val (D1 (aF.1,(aF.2.1,(aF.2.2.1,(aF.2.2.2.1,())))))))&&((((decide (aF.1=aI.1))&&(val (x4 aF.2.1 aI.2.1)))&&(val (zJ aF.2.2.1 aI.2.2.1)))&&(val (BY aF.2.2.2.1 aI.2.2.2.1))))&&(decide (aH.1=aJ.1)))) else none else none
section
variable (O:sD) (Z:pD)
abbrev TZ:List qC:=[(.val xG O,none),(.val .str Z,none)]
abbrev YV:List qB:=[]
@[go_sem] def PT:qI:=⟨[((MY O Z)).isSome=true],[(.val .bool (val (MY O Z)),none)],[]⟩
def aAh:List qC→List qB→Option qI:=rM (V:=(sD×pD)) (fun x=>TZ x.1 x.2) (fun x=>YV) fun x=>PT x.1 x.2
@[go_sem] def aPZ:aAh (no_index (TZ O Z)) (no_index YV)=some (PT O Z):=rQ (fun⟨a0,a1⟩ ⟨b0,b1⟩ h1 h2=>by cases h1;cases h2;rfl) (O,Z)
end
@[go_sem] abbrev aP0:Nat×qW:=(5,⟨[.v,.v],aAh,[],[],none⟩)
def zW:rF Tryz.prog [sJ,zQ] (rG [aIS,aHx,aIg,aIx,aAd,aHv]):=⟨⟨sM,⟨AS,trivial⟩⟩,qK aPY (qK aPt (qK aPH (qK aPN (qK aIQ (qK aPs rJ))))),rH⟩
def aP1:r5 Tryz.prog aP0:=by
 refine rR zW Tryz.func5 (c:=_) rfl (N:=106) pU (ts:=[(4,none)]) rfl (fun _ _=>rfl) ?_;intro⟨O,Z⟩ hs hrow;dsimp only[TZ,YV,PT,rI,qR,qZ,r8,rL,Nat.reduceAdd] at hs hrow|-;have hz:=hs;obtain⟨z0,e⟩:=aVt.1 hz
 try rw[rY e]
 clear hz hs;unfold MY at e;refine q9 zW ?_;refine qO ?_;obtain⟨aA,hv1,hw1,e⟩:=qV e
 try simp only[go_sem] at hw1
 refine q9 zW ?_ (hp:=by exact(qU hv1)) (h:=by simp only[go_sem,hw1];rfl);refine qS e (fun e hc1=> ?_) (fun e hc1=> ?_)
 .refine q9 zW ?_;refine qP (rD ?_);cases e;exact pF []
 .refine r7 (qJ (qO ?_));obtain⟨aB,hv2,hw2,e⟩:=qV e
  try simp only[go_sem] at hw2
  refine q9 zW ?_ (hp:=by exact⟨qU hv2,id,id,sP⟩) (h:=by simp only[go_sem,hw2];rfl);refine qS e (fun e hc2=> ?_) (fun e hc2=> ?_)
  .refine q9 zW ?_;refine qP (rD ?_);cases e;exact pF []
  .refine r7 (qJ (qO ?_));obtain⟨aC,hv3,hw3,e⟩:=qV e
   try simp only[go_sem] at hw3
   refine q9 zW ?_ (hp:=by exact(qU hv3)) (h:=by simp only[go_sem,hw3];rfl);obtain⟨y1,f,e⟩:=uV e;refine yM (fun s=> ∃v,y1= .inl v∧s=(fun _=>⟨[(1,(.val .str Z,none))],[],0,106,0⟩) v) ?_ ?_
   .refine qS f (fun f hc3=> ?_) (fun f hc3=> ?_)
    .obtain⟨aD,hv4,hw4,f⟩:=qV f
     try simp only[go_sem] at hw4
     refine q9 zW ?_ (hp:=by exact(qU hv4)) (h:=by simp only[go_sem,hw4];rfl);obtain⟨aE,hv5,hw5,f⟩:=qV f
     try simp only[go_sem] at hw5
     refine q9 zW ?_ (hp:=by exact(qU hv5)) (h:=by simp only[go_sem,hw5];rfl);obtain⟨hg6,f⟩:=qG f;refine q9 zW ?_ (hp:=by exact⟨id,sP,id,id,hg6,id,sP⟩);refine qS f (fun f hc4=> ?_) (fun f hc4=> ?_)
     .refine q9 zW ?_;refine qP (a2b (rD ?_));cases f;dsimp only at e;cases e;exact pF []
     .refine r7 ?_;cases f;exact u6 ⟨⟨[1],[]⟩,_,rfl,by rfl⟩
    .refine r7 ?_;cases f;exact u6 ⟨⟨[1],[]⟩,_,rfl,by rfl⟩
   .rintro _ ⟨v,rfl,rfl⟩;dsimp only at e|-;refine qJ ?_;obtain⟨aF,hv7,hw7,e⟩:=qV e
    try simp only[go_sem] at hw7
    refine q9 zW ?_ (hp:=by exact(qU hv7)) (h:=by simp only[go_sem,hw7];rfl);refine qO ?_;refine q9 zW ?_;refine qS e (fun e hc5=> ?_) (fun e hc5=> ?_)
    .obtain⟨aG,hv8,hw8,e⟩:=qV e
     try simp only[go_sem] at hw8
     refine q9 zW ?_ (hp:=by exact(qU hv8)) (h:=by simp only[go_sem,hw8];rfl);refine qP (rD ?_);cases e;exact pF []
    .refine r7 (qJ ?_);obtain⟨aH,hv9,hw9,e⟩:=qV e
     try simp only[go_sem] at hw9
     refine q9 zW ?_ (hp:=by exact(qU hv9)) (h:=by simp only[go_sem,hw9];rfl);obtain⟨aI,hv10,hw10,e⟩:=qV e
     try simp only[go_sem] at hw10
     refine q9 zW ?_ (hp:=by exact(qU hv10)) (h:=by simp only[go_sem,hw10];rfl);obtain⟨aJ,hv11,hw11,e⟩:=qV e
     try simp only[go_sem] at hw11
     refine q9 zW ?_ (hp:=by exact(qU hv11)) (h:=by simp only[go_sem,hw11];rfl);obtain⟨hg12,e⟩:=qG e;obtain⟨hg13,e⟩:=qG e;refine q9 zW ?_ (hp:=by exact⟨id,sB,id,sB,id,hg12,sB,id,id,hg13,sB,id,id,sB⟩);refine qP ?_;cases e;exact pF []
attribute [irreducible] MY
end
end Go.Proofs.YtkpflnijijccpaaGreatDoor
section
end
namespace Go.Proofs.YtkpflnijijccpaaGreatDoor
open Vc
theorem GO {σ ρ:Type}(f:σ→Option (σ⊕ρ)) (x:σ):rO f x=(f x).bind fun w=>match w with
    | .inl y=>rO f y
    | .inr r=>some r:=by
  cases h:f x with
  | none=>
    cases h2:rO f x with
    |none=>rfl
    | some r=>
      obtain⟨n,hn⟩:=XO h2;cases n with
      |zero=>cases hn
      |succ n=>unfold iter at hn;rw[h] at hn;cases hn
  | some w=>
    cases w with
    |inl y=>exact vP h
    |inr r=>exact uL h
theorem zX {t:Ty}{l:List t.den}{i:Nat}(h:i<l.length):qQ t l (i:Int)=l[i]:=by
  unfold qQ;rw[aWh,aVY,aVF h];rfl
theorem PU {l:pD}{i:Nat}(h:i<l.length):sF l (i:Int)=(l[i].toNat:Int):=by
  unfold sF;rw[aWh,aVY,aVF h];rfl
def wR {β:Type}(f:Nat→β) (b:β):pP→β
  |some k=>f k
  |none=>b
theorem aAi {α ρ:Type}{f:Int→Option (Int⊕(Unit⊕ρ))}{l:List α}(p:α→Bool) (g:Nat→ρ)
    (hf: ∀(i:Nat) (h:i<l.length),f i=if p l[i]=true then some (.inr (.inr (g i))) else some (.inl (i+1)))
    (he:f l.length=some (.inr (.inl ()))): ∀(n j:Nat),j+n=l.length→rO f j=some (wR (fun k=> .inr (g (j+k))) (.inl ()) ((l.drop j).findIdx? p))
  | 0,j,hj=>by
    have:j=l.length:=by omega
    subst this;rw[aWl,GO,he];rfl
  | n+1,j,hj=>by
    have hlt:j<l.length:=by omega
    rw[GO,hf j hlt,aV8 hlt,aXc];by_cases hp:p l[j]=true
    · rw[aVs hp,aVs hp]
      rfl
    · rw[aVv hp,aVv hp]
      show rO f ((j:Int)+1)=_;have:=aAi p g hf he n (j+1) pG;rw[show ((j:Int)+1)=((j+1:Nat):Int) by omega,this];cases(l.drop (j+1)).findIdx? p with
      |none=>rfl
      | some k=>
        show some (Sum.inr (g (j+1+k)))=some (Sum.inr (g (j+(k+1))));rw[show j+1+k=j+(k+1) by omega]
theorem D5 {α ρ:Type}{f:Int→Option (Int⊕(Unit⊕ρ))}{l:List α}(p:α→Bool) (g:Nat→ρ)
    (hf: ∀(i:Nat) (h:i<l.length),f i=if p l[i]=true then some (.inr (.inr (g i))) else some (.inl (i+1)))
    (he:f l.length=some (.inr (.inl ()))):rO f 0=some (wR (fun k=> .inr (g k)) (.inl ()) (l.findIdx? p)):=by
  have:=aAi p g hf he l.length 0 pG;simpa using this
theorem aIT {s:pD}{i:Nat}(h:i<s.length) (ha:s[i].toNat<128):xY s i=(s[i].toNat:Int)∧B7 s i=i+1:=by
  have h1:=Lib.decodeL_drop ⟨s.toArray⟩ i
  have h2:(⟨s.toArray⟩:ByteArray).data.toList.drop i=s[i]::s.drop (i+1):=by
    show s.drop i=_;rw[aV8 h]
  rw[h2,Lib.decodeL_ascii _ _ ha] at h1;unfold xY B7 a0W;rw[←h1,aVs h];exact⟨rfl,rfl⟩
theorem aP2 {n b0 b1 b2 b3:Nat}(h:128≤b0):128≤(Lib.decodeN n b0 b1 b2 b3).1:=by
  unfold Lib.decodeN
  repeat' split
  all_goals first|omega|(dsimp only;omega)
theorem aIU {s:pD}{i:Nat}(h:i<s.length) (ha:128≤s[i].toNat):128≤xY s i:=by
  unfold xY;rw[Lib.decode_at]
  have:(⟨s.toArray⟩:ByteArray).get! i=s[i]:=by
    show s.toArray[i]! =_;simp [h]
  rw[this];exact Int.ofNat_le.2 (aP2 ha)
theorem aIV {ρ:Type}{f:Nat→Option (Nat⊕(Unit⊕ρ))}{s:pD}(p:Int→Bool) (g:Nat→ρ) (hb: ∀c,128≤c→p c=true)
    (hf: ∀(i:Nat) (h:i<s.length),f i=if p (xY s i)=true then some (.inr (.inr (g i))) else some (.inl (B7 s i)))
    (he:f s.length=some (.inr (.inl ()))): ∀(n j:Nat),j+n=s.length→rO f j=some (wR (fun k=> .inr (g (j+k))) (.inl ()) ((s.drop j).findIdx? (fun b=>p b.toNat)))
  | 0,j,hj=>by
    have:j=s.length:=by omega
    subst this;rw[aWl,GO,he];rfl
  | n+1,j,hj=>by
    have hlt:j<s.length:=by omega
    rw[GO,hf j hlt,aV8 hlt,aXc];by_cases ha:s[j].toNat<128
    · obtain⟨e1,e2⟩:=aIT hlt ha
      rw[e1,e2];by_cases hp:p (s[j].toNat:Int)=true
      · rw[aVs hp,aVs hp]
        rfl
      · rw[aVv hp,aVv hp]
        show rO f (j+1)=_;rw[aIV p g hb hf he n (j+1) pG];cases(s.drop (j+1)).findIdx? (fun b=>p b.toNat) with
        |none=>rfl
        | some k=>
          show some (Sum.inr (g (j+1+k)))=some (Sum.inr (g (j+(k+1))));rw[show j+1+k=j+(k+1) by omega]
    · rw[aVs (hb _ (aIU hlt pG)),aVs (hb _ pG)]
      rfl
theorem aP3 {ρ:Type}{f:Nat→Option (Nat⊕(Unit⊕ρ))}{s:pD}(p:Int→Bool) (g:Nat→ρ) (hb: ∀c,128≤c→p c=true)
    (hf: ∀(i:Nat) (h:i<s.length),f i=if p (xY s i)=true then some (.inr (.inr (g i))) else some (.inl (B7 s i)))
    (he:f s.length=some (.inr (.inl ()))):rO f 0=some (wR (fun k=> .inr (g k)) (.inl ()) (s.findIdx? (fun b=>p b.toNat))):=by
  have:=aIV p g hb hf he s.length 0 pG;simpa using this
def rW {α:Type}(l:List α):Prop:=l.length≤4000000000
theorem vF {i:Nat}(h:i≤4000000000):qD ((i:Int)+1):=by unfold qD;omega
theorem sY {i n:Nat}(h:i<n):0≤(i:Int)∧(i:Int)<(n:Int):=⟨pG,pG⟩
theorem uS {i n:Nat}(h:i<n):decide ((i:Int)<(n:Int))=true:=by simpa using h
theorem vJ (n:Nat): ¬decide ((n:Int)<(n:Int))=true:=by simp
theorem aIW {α:Type}{p:α→Bool}: ∀{l:List α},(l.findIdx? p).isSome=l.any p
  |[]=>rfl
  | x::l=>by
    rw[aXc,List.any_cons];cases p x with
    |true=>rfl
    |false=>simp [aIW (l:=l)]
theorem KF {α β:Type}{p:α→Bool}{l:List α}{f:Nat→β}{b:β}:wR f b (l.findIdx? p)=if l.any p=true then f ((l.findIdx? p).getD 0) else b:=by
  rw[←aIW];cases l.findIdx? p with
  |none=>rfl
  |some k=>rfl
def IF (c:Int):Bool:=(((!((decide ((97:Int)≤c))&&(decide (c≤(122:Int)))))&&(!((decide ((48:Int)≤c))&&(decide (c≤(57:Int))))))&&(!decide (c=(45:Int))))&&((decide (c<(65:Int)))||(decide ((90:Int)<c)))
def wI (s:pD):Bool:= !(s.any fun b=>IF b.toNat)&&((decide ((1:Int)≤(s.length:Int)))&&(decide ((s.length:Int)≤(40:Int))))
theorem aP4 (s:pD) (hs:rW s):MJ s=some (wI s):=by
  unfold rW at hs
  have h:=D5 (f:=T8 s) (l:=s) (fun b=>IF b.toNat) (fun _=>false) (fun i h=>by
    unfold T8;rw[aVs (uS h),aVs (sY h),PU h,aVs (vF pG)];rfl) (by
    unfold T8;rw[aVv (vJ _)])
  unfold MJ;rw[h,KF];unfold wI;cases s.any fun b=>IF b.toNat<;>rfl
def YW (c:Int):Bool:=((((decide (c<(97:Int)))||(decide ((122:Int)<c)))&&((decide (c<(65:Int)))||(decide ((90:Int)<c))))&&((decide (c<(48:Int)))||(decide ((57:Int)<c))))&&(!decide (c=(45:Int)))
theorem aP5 (c:Int):YW c=IF c:=by
  unfold YW IF;rw[aW9];simp;omega
theorem aAj (s:pD):EU s=some (wI s):=by
  have h:=aP3 (f:=SN s) (s:=s) (fun c=>YW c) (fun _=>false) (fun c h=>by unfold YW;simp;omega) (fun i h=>by
    unfold SN;rw[aVs (by simpa using h),aVs (by simpa using h)];rfl) (by
    unfold SN;rw[aVv pI])
  unfold EU;rw[h,KF];simp only[aP5];unfold wI;cases s.any fun b=>IF b.toNat<;>rfl
def y8 (c:Int):Bool:=((((!((decide ((97:Int)≤c))&&(decide (c≤(122:Int)))))&&(!((decide ((48:Int)≤c))&&(decide (c≤(57:Int))))))&&(!decide (c=(45:Int))))&&(!decide (c=(95:Int))))&&(!decide (c=(46:Int)))
def yO (c:Int):Bool:=(decide ((97:Int)≤c))&&(decide (c≤(122:Int)))
def uR:pD→Bool
  |[]=>false
  |b::t=>(!decide (40<t.length+1)&&yO b.toNat)&& !(t.any fun b=>y8 b.toNat)
theorem aIX (s:pD) (hs:rW s):K2 s=some (uR s):=by
  unfold rW at hs;unfold K2;cases s with
  |nil=>simp [uR]
  | cons b t=>
    have hb0:sF (b::t) (0:Int)=(b.toNat:Int):=PU (i:=0) pI;rw[aVs (fun _=>⟨aWu 0,by simp only[aVw];omega⟩),hb0];unfold uR;by_cases hl:(40:Int)<((b::t).length:Int)
    · have hl2:40<t.length+1:=by simp only[aVw] at hl;omega
      rw[aVs (by simp only[hl,decide_true,Bool.or_true,Bool.true_or])];simp [hl2]
    · have hl2: ¬40<t.length+1:=by simp only[aVw] at hl;omega
      have hl3: ¬((b::t).length:Int)<1:=by simp;omega
      by_cases hb:yO b.toNat=true
      · rw[aVv (by unfold yO at hb;simp only[hl,hl3,hb];simp)]
        have h:=aAi (f:=T9 (b::t)) (l:=b::t) (fun b=>y8 b.toNat) (fun _=>false) (fun i h=>by
          unfold T9;rw[aVs (uS h),aVs (sY h),PU h,aVs (vF pG)];rfl) (by
          unfold T9;rw[aVv (vJ _)]) t.length 1 pJ
        rw[show ((1:Nat):Int)=1 from rfl] at h;rw[h,KF];simp only[aXq,aWH,hb,hl2,decide_false,Bool.not_false,Bool.true_and];cases t.any fun b=>y8 b.toNat<;>rfl
      · rw[aVs (by unfold yO at hb;simp only[hb];simp)]
        simp [hb]
theorem aIY (s:pD): ∀(n j:Nat),j+n=s.length→rO (OW s) j=some (if (s.drop j).any (fun b=>y8 b.toNat)=true∨(j=0∧s≠[]∧yO (s.getD 0 0).toNat=false) then .inr false else .inl ())
  | 0,j,hj=>by
    have:j=s.length:=by omega
    subst this;rw[aWl,GO];unfold OW;rw[aVv pI];by_cases h0:s=[]
    .subst h0;simp
    · have:s.length≠0:=by simpa using h0
      simp [this]
  | n+1,j,hj=>by
    have hlt:j<s.length:=by omega
    have ih:=aIY s n (j+1) pG;rw[GO,aV8 hlt,List.any_cons]
    have hstep:OW s j=if (y8 (s[j].toNat:Int)=true∨(j=0∧yO (s[j].toNat:Int)=false)) then some (.inr (.inr false)) else some (.inl (j+1)):=by
      unfold OW;rw[aVs (by simpa using hlt),aVs (by simpa using hlt),aVs (by simpa using hlt)];by_cases ha:s[j].toNat<128
      · obtain⟨e1,e2⟩:=aIT hlt ha
        rw[e1,e2];by_cases h1:yO (s[j].toNat:Int)=true
        · rw[aVs (by unfold yO at h1;exact h1),aVv]
          unfold yO at h1;simp only[aVG,aVE] at h1;simp [y8,yO];omega
        · have h1':yO (s[j].toNat:Int)=false:=by simpa using h1
          rw[aVv (by unfold yO at h1;exact h1)]
          have h2: ¬(97≤(s[j].toNat:Int)∧(s[j].toNat:Int)≤122):=by
            unfold yO at h1;simpa using h1
          by_cases h3:y8 (s[j].toNat:Int)=true∨j=0
          · rw[aVv,aVs]
            · rcases h3 with h3|h3
              .exact .inl h3
              .exact .inr ⟨h3,h1'⟩
            · simp [y8] at h3|-
              omega
          · rw[aVs,aVv]
            · intro h
              rcases h with h|⟨h,_⟩
              .exact h3 (.inl h)
              .exact h3 (.inr h)
            · simp [y8] at h3|-
              omega
      · have hb:=aIU hlt pG
        rw[aVv pJ,aVv pJ,aVs (.inl (by simp [y8];omega))]
    rw[hstep];have hd:s.getD 0 0=s[0]'pG:=by simp [aVY,aVF (show 0<s.length by omega)]
    have hne:s≠[]:=by intro h;subst h;simp at hlt
    by_cases hp:y8 (s[j].toNat:Int)=true∨(j=0∧yO (s[j].toNat:Int)=false)
    · rw[aVs hp,aVs]
      .rfl
      · rcases hp with hp|⟨rfl,hp⟩
        .left;simp [hp]
        .right;exact⟨rfl,hne,by rw[hd];exact hp⟩
    · rw[aVv hp]
      show rO _ (j+1)=_;rw[ih]
      have hnb:y8 (s[j].toNat:Int)=false:=by
        cases h:y8 (s[j].toNat:Int) with
        |true=>exact absurd (.inl h) hp
        |false=>rfl
      simp only[hnb,Bool.false_or];congr 2;apply propext;constructor
      · rintro(h|⟨h,_⟩)
        .exact .inl h
        .omega
      · rintro(h|⟨rfl,_,h⟩)
        .exact .inl h
        · rw[hd] at h
          exact absurd (.inr ⟨rfl,h⟩) hp
theorem U0 (s:pD):CY s=some (uR s):=by
  have h:=aIY s s.length 0 pG;unfold CY;rw[h,aWH];cases s with
  |nil=>simp [uR,tY]
  | cons b t=>
    simp only[List.any_cons,List.getD_cons_zero,ne_eq,reduceCtorEq,not_false_eq_true,true_and,uR];cases hs:yO b.toNat with
    |false=>simp [tY]
    | true=>
      have hn:y8 b.toNat=false:=by
        unfold yO at hs;simp only[aVG,aVE] at hs;simp [y8];omega
      simp only[hn,Bool.false_or];cases t.any (fun b=>y8 b.toNat) with
      |true=>simp [tY]
      | false=>
        simp only[aXd,false_or,and_false,aXD];show some (decide ((1:Int)≤((b::t).length:Int))&&decide (((b::t).length:Int)≤40))=_;congr 1;rw[aW9];simp only[aVw,aVG,aVE,aVV,aWb,Bool.not_false,and_true];omega
theorem KG {β:Type}{f:Nat→β}{b:β}{o:pP}:tY (some (wR (fun k=> .inr (f k)) (.inl ()) o)) (fun _=>some b)=some (wR f b o):=by
  cases o<;>rfl
theorem aIZ (l:pE) (s:pD) (hl:rW l):BW l s=some (wR (fun k=>(k:Int)) (-1) (l.findIdx? fun x=>decide (s=x))):=by
  unfold rW at hl
  have h:=D5 (f:=SO l s) (l:=l) (fun x=>decide (s=x)) (fun k=>(k:Int)) (fun i h=>by
    unfold SO;rw[aVs (uS h),aVs (sY h),zX (t:= .str) h,aVs (vF pG)]) (by
    unfold SO;rw[aVv (vJ _)])
  unfold BW;rw[h,KG]
theorem PV {α:Type}{p:α→Bool}{l:List α}:decide ((0:Int)≤wR (fun k=>(k:Int)) (-1) (l.findIdx? p))=l.any p:=by
  rw[KF];cases l.any p
  .rfl
  .simp only[aW8,aVE];omega
theorem aI0 (l:pE) (s:pD) (hl:rW l):EW l s=some (l.any fun x=>decide (x=s)):=by
  unfold EW;rw[aIZ l s hl];show some (decide _)=_;rw[PV];simp only[eq_comm]
def IG:pE:=[[110,101,119],[102,117,122,122,121],[116,114,97,110,115,108,97,116,101,100],[114,101,118,105,101,119,101,100],[111,98,115,111,108,101,116,101]]
def AV (s:pD):Int:=wR (fun k=>(k:Int)) (-1) (IG.findIdx? fun x=>decide (x=s))
abbrev sA:=pD×pD×Unit
abbrev tF:Ty:= .pair .str (.pair .str .unit)
def BK (l:List sA) (n:pD):pP:=l.findIdx? fun x=>decide (x.1=n)
def PW (l:List sA) (n:pD):pD×Bool:=wR (fun k=>((l.getD k ([],[],())).2.1,true)) ([],false) (BK l n)
theorem aP6 (l:List sA) (n:pD):(PW l n).2=l.any fun x=>decide (x.1=n):=by
  unfold PW BK;rw[KF];cases l.any fun x=>decide (x.1=n)<;>rfl
theorem aI1 (l:List sA) (n:pD) (hl:rW l):I3 l n=some (wR (fun k=>(k:Int)) (-1) (BK l n)):=by
  unfold rW at hl
  have h:=D5 (f:=SW l n) (l:=l) (fun x=>decide (x.1=n)) (fun k=>(k:Int)) (fun i h=>by
    unfold SW;rw[aVs (uS h),aVs (sY h),zX (t:=tF) h,aVs (vF pG)]) (by
    unfold SW;rw[aVv (vJ _)])
  unfold I3 P3;rw[h,KG];rfl
theorem aI2 {l:List sA}{n:pD}{k:Nat}(h:BK l n=some k):k<l.length:=by
  unfold BK at h;exact(aWi.1 h).1
theorem aI3 (l:List sA) (n:pD) (hl:rW l):IA l n=some (PW l n):=by
  unfold IA;rw[aI1 l n hl];unfold PW;cases h:BK l n with
  |none=>rfl
  | some k=>
    have hk:=aI2 h;simp only[wR,aVq];rw[aVv pI,aVs (sY hk),zX (t:=tF) hk];simp only[wR,aVY,aVF hk];rfl
def GP (l:List sA) (n:pD):Nat:=(l.findIdx? fun x=> !(Op.bytesLess x.1 n||decide (x.1=n))).getD l.length
def GQ (l:List sA) (n v:pD):List sA:=wR (fun k=>l.set k (n,v,())) (l.take (GP l n)++[(n,v,())]++l.drop (GP l n)) (BK l n)
theorem aP7 (l:List sA) (n:pD):GP l n≤l.length:=by
  unfold GP;cases h:l.findIdx? fun x=> !(Op.bytesLess x.1 n||decide (x.1=n)) with
  |none=>exact aVR _
  |some k=>exact Nat.le_of_lt (aWi.1 h).1
theorem aI4 (l:List sA) (n v:pD):(GQ l n v).length≤l.length+1:=by
  have:=aP7 l n;unfold GQ;cases BK l n with
  |none=>simp [wR];omega
  |some k=>simp [wR]
theorem aP8 {l:List sA}{n:pD}{k:Nat}(h:BK l n=some k) (hk:k<l.length):l[k].1=n:=by
  unfold BK at h;have:=(aWi.1 h).2.1;simpa using this
theorem aI5 (l:List sA) (n v:pD) (hl:rW l):I5 l n v=some (GQ l n v):=by
  have hl':=hl;unfold rW at hl';unfold I5 JZ;rw[aVs pG];show (I3 ([]++l) n).bind _=_;rw[List.nil_append,aI1 l n hl];unfold GQ;cases h:BK l n with
  | some k=>
    have hk:=aI2 h;simp only[wR,aVq];rw[aVs pI,aVs (sY hk),zX (t:=tF) hk,aWh];congr 2;exact Prod.ext (aP8 h hk) rfl
  | none=>
    simp only[wR,aVq];rw[aVv pH]
    have h2:=D5 (f:=SX l n) (l:=l) (fun x=> !(Op.bytesLess x.1 n||decide (x.1=n))) (fun k=>(k:Int)) (fun i h=>by
      unfold SX;rw[aVs (uS h),aVs (sY h),zX (t:=tF) h,aVs (vF pG)]) (by
      unfold SX;rw[aVv (vJ _)])
    unfold P4;rw[h2,KG];unfold GP;cases h3:l.findIdx? fun x=> !(Op.bytesLess x.1 n||decide (x.1=n)) with
    | none=>
      simp only[wR,aVq];rw[aVs pH,aVs ⟨pG,aWu _⟩,aVs pJ];simp [BU,wR]
    | some k=>
      have hk:k<l.length:=(aWi.1 h3).1;simp only[wR,aVq];rw[aVv pI,aVs ⟨pG,pG⟩,aVs pJ];simp [BU,wR]
theorem aI6 {α:Type}{f:Int→Option (Int⊕Int)}{l:List α}(p:α→Bool)
    (hf: ∀(i:Nat) (h:i<l.length),f i=if p l[i]=true then some (.inl (i+1)) else some (.inr i)) (he:f l.length=some (.inr l.length)):
    ∀(n j:Nat),j+n=l.length→rO f j=some (((j+((l.drop j).findIdx? fun x=> !p x).getD n:Nat)):Int)
  | 0,j,hj=>by
    have:j=l.length:=by omega
    subst this;rw[aWl,GO,he];simp
  | n+1,j,hj=>by
    have hlt:j<l.length:=by omega
    rw[GO,hf j hlt,aV8 hlt,aXc];by_cases hp:p l[j]=true
    · rw[aVs hp,aVv (by simp [hp])]
      show rO f ((j:Int)+1)=_;rw[show ((j:Int)+1)=((j+1:Nat):Int) by omega,aI6 p hf he n (j+1) pG];cases(l.drop (j+1)).findIdx? fun x=> !p x with
      |none=>simp;omega
      |some k=>simp;omega
    · rw[aVv hp,aVs (by simpa using hp)]
      simp
theorem aP9 {α:Type}{f:Int→Option (Int⊕Int)}{l:List α}(p:α→Bool)
    (hf: ∀(i:Nat) (h:i<l.length),f i=if p l[i]=true then some (.inl (i+1)) else some (.inr i)) (he:f l.length=some (.inr l.length)):
    rO f 0=some (((l.findIdx? fun x=> !p x).getD l.length:Nat):Int):=by
  have:=aI6 p hf he l.length 0 pG;simpa using this
theorem YX {α:Type}{l:List α}{k:Nat}:sO l 0 (k:Int)=l.take k:=by unfold sO;simp
theorem PX {α:Type}{l:List α}{k:Nat}:sO l (k:Int) (l.length:Int)=l.drop k:=by
  unfold sO;rw[aWh,aWh,List.take_of_length_le];rw[aVO];exact aVR _
def AW (n:Int):Prop:=0≤n∧n≤1114111∧(n<55296∨57343<n)
def AX (n:Int):Bool:=(((decide ((0:Int)≤n))&&(decide (n≤(1114111:Int))))&&((decide (n<(55296:Int)))||(decide ((57343:Int)<n))))
theorem KH (n:Int):AX n=true↔AW n:=by
  unfold AX AW;simp;omega
theorem YY {n:Int}(h0:0≤n) (h1:n≤127):Lib.encodeRune n=uA [n]:=by
  unfold Lib.encodeRune;rw[Lib.encodeRuneZ_one h0 h1];rfl
theorem YZ {n:Int}(h0:128≤n) (h1:n≤2047):Lib.encodeRune n=uA [192+n/64,128+n%64]:=by
  unfold Lib.encodeRune;rw[Lib.encodeRuneZ_two h0 h1];rfl
theorem aAk {n:Int}(h:(2048≤n∧n<55296)∨(57343<n∧n≤65535)):Lib.encodeRune n=uA [224+n/4096,128+n/64%64,128+n%64]:=by
  unfold Lib.encodeRune;rw[Lib.encodeRuneZ_three h];rfl
theorem aI7 {n:Int}(h0:65536≤n) (h1:n≤1114111):Lib.encodeRune n=uA [240+n/262144,128+n/4096%64,128+n/64%64,128+n%64]:=by
  unfold Lib.encodeRune;rw[Lib.encodeRuneZ_four h0 h1];rfl
theorem aI8 {n:Int}(h:AW n):DQ n=some (Lib.encodeRune n):=by
  obtain⟨h0,h1,hs⟩:=h;have w1:IntKind.i64.wrap (n/64)=n/64:=by rw[aWP];omega
  have w2:IntKind.i64.wrap (n/4096)=n/4096:=by rw[aWP];omega
  have w3:IntKind.i64.wrap (n/262144)=n/262144:=by rw[aWP];omega
  have m1:Int.tmod n 64=n%64:=aXk h0;have m2:Int.tmod (n/64) 64=n/64%64:=aXk pG;have m3:Int.tmod (n/4096) 64=n/4096%64:=aXk pG;unfold DQ;simp only[Int.tdiv_eq_ediv_of_nonneg h0,w1,w2,w3,m1,m2,m3,aXC];by_cases c1:n<128
  .rw[aVs (by simpa using c1),YY h0 pG,show n%256=n by omega]
  · rw[aVv (by simpa using c1)]
    by_cases c2:n<2048
    .rw[aVs (by simpa using c2),aVs (by unfold qD;omega),aVs (by unfold qD;omega),YZ pG pG,show (192+n/64) %256=192+n/64 by omega,show (128+n%64) %256=128+n%64 by omega]
    · rw[aVv (by simpa using c2)]
      by_cases c3:n<65536
      .rw[aVs (by simpa using c3),aVs (by unfold qD;omega),aVs (by unfold qD;omega),aVs (by unfold qD;omega),aAk pG,show (224+n/4096) %256=224+n/4096 by omega,show (128+n/64%64) %256=128+n/64%64 by omega,show (128+n%64) %256=128+n%64 by omega]
      .rw[aVv (by simpa using c3),aVs (by unfold qD;omega),aVs (by unfold qD;omega),aVs (by unfold qD;omega),aVs (by unfold qD;omega),aI7 pG pG,show (240+n/262144) %256=240+n/262144 by omega,show (128+n/4096%64) %256=128+n/4096%64 by omega,show (128+n/64%64) %256=128+n/64%64 by omega,show (128+n%64) %256=128+n%64 by omega]
theorem aAl {n:Int}{k:Int}{j:Nat}(hj:k.toNat=j) (h32:j≤32):yR .i32 n k=n/2^j:=by
  unfold yR;rw[hj,show min j IntKind.i32.bits=j from Nat.min_eq_left h32,Int.fdiv_eq_ediv_of_nonneg];exact Int.pow_nonneg pH
theorem aQa {n:Int}(p:pM) (h:AW n) (hp:rW p):K6 p n=some (p++Lib.encodeRuneZ n):=by
  obtain⟨h0,h1,hs⟩:=h;unfold rW at hp;have u:IntKind.u32.wrap n=n:=by rw[IntKind.wrap_u32];omega
  have s6:yR .i32 n 6=n/64:=aAl (j:=6) rfl pH;have s12:yR .i32 n 12=n/4096:=aAl (j:=12) rfl pH;have s18:yR .i32 n 18=n/262144:=aAl (j:=18) rfl pH
  have b0:bits .or .u8 128 (bits .and .u8 (n%256) 63)=128+n%64:=by
    rw[u8_and63 (x:=n%256) pG pG,show n%256%64=n%64 by omega,u8_or128 (y:=n%64) pG pG]
  have b1:bits .or .u8 128 (bits .and .u8 (n/64%256) 63)=128+n/64%64:=by
    rw[u8_and63 (x:=n/64%256) pG pG,show n/64%256%64=n/64%64 by omega,u8_or128 (y:=n/64%64) pG pG]
  have b2:bits .or .u8 128 (bits .and .u8 (n/4096%256) 63)=128+n/4096%64:=by
    rw[u8_and63 (x:=n/4096%256) pG pG,show n/4096%256%64=n/4096%64 by omega,u8_or128 (y:=n/4096%64) pG pG]
  unfold K6;rw[u];by_cases c1:n≤127
  .rw[aVs (by simpa using c1),aVs pJ,Lib.encodeRuneZ_one h0 c1,aXC,show n%256=n by omega]
  · rw[aVv (by simpa using c1)]
    unfold ME;simp only[u,s6,s12,s18,aXC,b0,b1,b2];by_cases c2:n≤2047
    · rw[aVs (by simpa using c2),aVs pJ,Lib.encodeRuneZ_two pG c2,show n/64%256=n/64 by omega,u8_or192 (y:=n/64) pG pG]
      rfl
    · rw[aVv (by simpa using c2)]
      by_cases c3:n≤65535
      · have hx:(if decide (n<55296)=true then some (decide (n<55296)) else some ((decide (57343<n))&&(decide (n≤65535))))=some true:=by
          by_cases c:n<55296
          .rw[aVs (by simpa using c)];simp [c]
          .rw[aVv (by simpa using c)];simp;omega
        rw[hx];simp only[sQ,aVq];rw[aVs trivial,aVs pJ,Lib.encodeRuneZ_three pG,show n/4096%256=n/4096 by omega,u8_or224 (y:=n/4096) pG pG];rfl
      · have hx:(if decide (n<55296)=true then some (decide (n<55296)) else some ((decide (57343<n))&&(decide (n≤65535))))=some false:=by
          rw[aVv pJ];simp;omega
        rw[hx];simp only[sQ,aVq];rw[aVv pH,aVs pJ,aVs pJ,Lib.encodeRuneZ_four pG h1,show n/262144%256=n/262144 by omega,u8_or240 (y:=n/262144) pG pG];rfl
theorem aI9 (n:Int):(Lib.encodeRuneZ n).length≤4:=by
  unfold Lib.encodeRuneZ
  repeat' split
  all_goals simp
theorem aJa {n:Int}(p:pM) (h:AW n) (hp:rW p): ∃k,GI (p,()) n=some (k,p++Lib.encodeRuneZ n):=by
  have h4:=aI9 n;unfold rW at hp;unfold GI;rw[aQa p h hp];simp only[aVq];rw[aVs (by unfold qD;simp;omega)];exact⟨_,rfl⟩
theorem aQb (n:Int):TO [n] (0,[])=some (.inl (1,if AX n=true then Lib.encodeRuneZ n else Lib.encodeRuneZ 65533)):=by
  unfold TO;have hn:qQ (.int .i64) [n] 0=n:=rfl;dsimp only;rw[aVs pI,aVs ⟨aWu _,by simp⟩];simp only[hn];by_cases hs:AX n=true
  · have hsc:=(KH n).1 hs
    obtain⟨k,hk⟩:=aJa (n:=n) [] hsc (by unfold rW;simp)
    have wn:IntKind.i32.wrap n=n:=by
      obtain⟨a,b,c⟩:=hsc;rw[IntKind.wrap_i32];omega
    rw[aVs hs];unfold AX at hs;rw[aVv (by rw[hs];decide),wn,hk];simp only[aVq,List.nil_append];rw[aVs (by unfold qD;omega)];rfl
  · rw[aVv hs]
    unfold AX at hs;obtain⟨k,hk⟩:=aJa (n:=65533) [] (by unfold AW;omega) (by unfold rW;simp);rw[aVs (by simp only[aVV] at hs|-;simpa using hs),show IntKind.i32.wrap 65533=65533 from rfl,hk];simp only[aVq,List.nil_append];rw[aVs (by unfold qD;omega)];rfl
theorem aQc (n:Int):KD n=some (if AX n=true then Lib.encodeRune n else Lib.encodeRune 65533):=by
  unfold KD PL;rw[vP (aQb n),uL (r:=if AX n=true then Lib.encodeRuneZ n else Lib.encodeRuneZ 65533) (by unfold TO;simp)];simp only[sQ,aVq];by_cases hs:AX n=true
  .rw[aVs hs,aVs hs];rfl
  .rw[aVv hs,aVv hs];rfl
theorem aJb {l:pD}{i:Nat}(h:i<l.length):sF l (i:Int)=((l.getD i 0).toNat:Int):=by
  rw[PU h,aVY,aVF h];rfl
theorem aQd {s:pD}{x n:Int}{i:Nat}(h:i<s.length) (hn:(i:Int)<n) (hx:0≤x) (hx1:x≤1000000) (hi:i≤10):EY s n (x,(i:Int))=
    if (s.getD i 0).toNat/64=2 then some (.inl (64*x+(s.getD i 0).toNat-128,((i+1:Nat):Int))) else some (.inr (.inr (65533,1))):=by
  have hb:=(s.getD i 0).toNat_lt;have hy:=aJb h;generalize (s.getD i 0).toNat=B at hb hy|-;unfold EY;dsimp only;rw[aVs (by simpa using hn),aVs (sY h),aVs (fun _=>sY h),hy];by_cases hc:B/64=2
  · rw[aVv pJ,aVs hc,aVs (by unfold qD;omega),aVs (sY h),show IntKind.i64.wrap (B:Int)=(B:Int) by rw[aWP];omega,
      aVs (by unfold qD;omega),aVs (by unfold qD;omega),aVs (by unfold qD;omega)]
    rfl
  .rw[aVs pJ,aVv hc]
theorem aAm {s:pD}{x n i:Int}(h:n≤i):EY s n (x,i)=some (.inr (.inl x)):=by
  unfold EY;dsimp only;rw[aVv (by simpa using h)]
def tT (s:pD) (i:Nat):Bool:=decide ((s.getD i 0).toNat/64=2)
def zA (s:pD) (i:Nat) (x:Int):Int:=64*x+(s.getD i 0).toNat-128
theorem aAn {s:pD}{i:Nat}{x m:Int}(h0:0≤x) (hm:x≤m) (hc:tT s i=true):0≤zA s i x∧zA s i x≤64*m+63:=by
  have hb:=(s.getD i 0).toNat_lt;unfold tT at hc;unfold zA;simp only[aVE] at hc;omega
theorem PY {s:pD}{x n:Int}{i:Nat}(h:i<s.length) (hn:(i:Int)<n) (hx:0≤x) (hx1:x≤1000000) (hi:i≤10):
    rO (EY s n) (x,(i:Int))=if tT s i=true then rO (EY s n) (zA s i x,((i+1:Nat):Int)) else some (.inr (65533,1)):=by
  rw[GO,aQd h hn hx hx1 hi];unfold tT zA;simp only[aVE];by_cases hc:(s.getD i 0).toNat/64=2
  .rw[aVs hc,aVs hc];rfl
  .rw[aVv hc,aVv hc];rfl
theorem aQe {s:pD}{x:Int}(h:1<s.length) (hx:0≤x) (hx1:x≤31):rO (EY s 2) (x,1)=some (if tT s 1=true then .inl (zA s 1 x) else .inr (65533,1)):=by
  show rO _ (x,((1:Nat):Int))=_;rw[PY h pH hx pG pH];by_cases c1:tT s 1=true
  .rw[aVs c1,aVs c1,uL (aAm pH)]
  .rw[aVv c1,aVv c1]
theorem aQf {s:pD}{x:Int}(h:2<s.length) (hx:0≤x) (hx1:x≤15):rO (EY s 3) (x,1)=some (if (tT s 1&&tT s 2)=true then .inl (zA s 2 (zA s 1 x)) else .inr (65533,1)):=by
  show rO _ (x,((1:Nat):Int))=_;rw[PY pG pH hx pG pH];by_cases c1:tT s 1=true
  · have b1:=aAn hx hx1 c1
    rw[aVs c1,PY h pH b1.1 pG pH,c1,Bool.true_and];by_cases c2:tT s 2=true
    .rw[aVs c2,aVs c2,uL (aAm pH)]
    .rw[aVv c2,aVv c2]
  .rw[aVv c1,aVv (by simp [c1])]
theorem aQg {s:pD}{x:Int}(h:3<s.length) (hx:0≤x) (hx1:x≤7):rO (EY s 4) (x,1)=some (if (tT s 1&&tT s 2&&tT s 3)=true then .inl (zA s 3 (zA s 2 (zA s 1 x))) else .inr (65533,1)):=by
  show rO _ (x,((1:Nat):Int))=_;rw[PY pG pH hx pG pH];by_cases c1:tT s 1=true
  · have b1:=aAn hx hx1 c1
    rw[aVs c1,PY pG pH b1.1 pG pH,c1,Bool.true_and];by_cases c2:tT s 2=true
    · have b2:=aAn b1.1 b1.2 c2
      rw[aVs c2,PY h pH b2.1 pG pH,c2,Bool.true_and];by_cases c3:tT s 3=true
      .rw[aVs c3,aVs c3,uL (aAm pH)]
      .rw[aVv c3,aVv c3]
    .rw[aVv c2,aVv (by simp [c2])]
  .rw[aVv c1,aVv (by simp [c1])]
def wS (s:pD) (x:Int) (n:Nat):Int×Int:=if AX x=true∧Lib.encodeRune x=s.take n then(x,n) else(65533,1)
theorem aAo {s:pD}{x:Int}{n:Nat}(hn:n≤s.length):
    (if (((!(((decide ((0:Int)≤x))&&(decide (x≤(1114111:Int))))&&((decide (x<(55296:Int)))||(decide ((57343:Int)<x)))))==false)=true→((DQ x)).isSome=true) then
    if (((!(((decide ((0:Int)≤x))&&(decide (x≤(1114111:Int))))&&((decide (x<(55296:Int)))||(decide ((57343:Int)<x)))))==false)=true→0≤(0:Int)∧(0:Int)≤(n:Int)∧(n:Int)≤(List.length s:Int)) then
     if ((!(((decide ((0:Int)≤x))&&(decide (x≤(1114111:Int))))&&((decide (x<(55296:Int)))||(decide ((57343:Int)<x)))))||(!decide ((val (DQ x))=(sO s (0:Int) (n:Int)))))=true then
      some (((65533:Int),(1:Int)))
     else
      some ((x,(n:Int)))
    else none
   else none)=some (wS s x n):=by
  rw[YX];simp only[show (((decide ((0:Int)≤x))&&(decide (x≤(1114111:Int))))&&((decide (x<(55296:Int)))||(decide ((57343:Int)<x))))=AX x from rfl]
  unfold wS;by_cases hs:AX x=true
  · have ho:=aI8 ((KH x).1 hs)
    rw[aVs (fun _=>by rw[ho];rfl),aVs (fun _=>⟨aWu _,pG,pG⟩),ho,hs];by_cases he:Lib.encodeRune x=s.take n
    .rw[aVv (by simp [val,he]),aVs ⟨rfl,he⟩]
    .rw[aVs (by simp [val,he]),aVv (fun h=>he h.2)]
  · have hs':AX x=false:=by simpa using hs
    rw[aVs (fun h=>by simp [hs'] at h),aVs (fun h=>by simp [hs'] at h),aVs (by simp [hs']),aVv (fun h=>hs h.1)]
theorem IH (z:Int) (l:pM) (x:UInt8) (h:z=(x.toNat:Int)):uA (z::l)=x::uA l:=by
  show UInt8.ofNat z.toNat::uA l=_;rw[h];simp
theorem aAp:uA []=[]:=rfl
theorem PZ (l:pM):(uA l).length=l.length:=by simp [uA]
theorem aQh {s:pD}(hl:1<s.length) (h0:192≤(s.getD 0 0).toNat) (h0':(s.getD 0 0).toNat<224) (hc:tT s 1=true):
    wS s (zA s 1 ((s.getD 0 0).toNat-192)) 2=(((Lib.decodeL s).1:Int),((Lib.decodeL s).2:Int)):=by
  unfold tT at hc;simp only[aVE] at hc;have k0:=(s.getD 0 0).toNat_lt;have k1:=(s.getD 1 0).toNat_lt
  have hd:Lib.decodeL s=if (s.getD 0 0).toNat%32*64+(s.getD 1 0).toNat%64≥128 then((s.getD 0 0).toNat%32*64+(s.getD 1 0).toNat%64,2) else(65533,1):=by
    rw[Lib.decodeL_N];unfold Lib.decodeN;rw[aVv pG,aVs ⟨pG,pG,hc⟩]
  rw[hd];unfold wS zA;rw[Lib.takeB s hl];have hx:AX (64*((s.getD 0 0).toNat-192)+(s.getD 1 0).toNat-128)=true:=(KH _).2 (by unfold AW;omega);rw[hx];by_cases hv:(s.getD 0 0).toNat%32*64+(s.getD 1 0).toNat%64≥128
  · rw[aVs hv,aVs ⟨rfl,by
      rw[YZ pG pG,IH _ _ (s.getD 0 0) pG,IH _ _ (s.getD 1 0) pG,aAp]⟩]
    exact Prod.ext (by show _=(((_:Nat)):Int);omega) rfl
  · rw[aVv hv,aVv (fun h=>by
      have h2:=aVL List.length h.2;rw[YY pG pG,PZ] at h2;simp at h2)]
    rfl
theorem aQi {s:pD}(hl:2<s.length) (h0:224≤(s.getD 0 0).toNat) (h0':(s.getD 0 0).toNat<240) (hc:tT s 1=true) (hc2:tT s 2=true):
    wS s (zA s 2 (zA s 1 ((s.getD 0 0).toNat-224))) 3=(((Lib.decodeL s).1:Int),((Lib.decodeL s).2:Int)):=by
  unfold tT at hc hc2;simp only[aVE] at hc hc2;have k0:=(s.getD 0 0).toNat_lt;have k1:=(s.getD 1 0).toNat_lt;have k2:=(s.getD 2 0).toNat_lt;obtain⟨V,hV⟩: ∃V,(s.getD 0 0).toNat%16*4096+(s.getD 1 0).toNat%64*64+(s.getD 2 0).toNat%64=V:=⟨_,rfl⟩
  have hd:Lib.decodeL s=if V≥2048∧(V<55296∨(57344≤V∧V≤1114111)) then(V,3) else(65533,1):=by
    rw[Lib.decodeL_N];unfold Lib.decodeN;rw[aVv pG,aVv pG,aVs ⟨pG,⟨pG,hc⟩,pG,hc2⟩,hV]
  rw[hd];unfold wS zA;rw[Lib.takeC s hl];generalize hX:64*(64*(((s.getD 0 0).toNat:Int)-224)+(s.getD 1 0).toNat-128)+(s.getD 2 0).toNat-128=X;have hXV:X=(V:Int):=by omega
  by_cases hv:V≥2048∧(V<55296∨(57344≤V∧V≤1114111))
  · rw[aVs hv,aVs ⟨(KH _).2 (by unfold AW;omega),by
      rw[aAk pG,IH _ _ (s.getD 0 0) pG,IH _ _ (s.getD 1 0) pG,IH _ _ (s.getD 2 0) pG,aAp]⟩]
    exact Prod.ext hXV rfl
  · rw[aVv hv,aVv (fun h=>by
      have hs:=(KH _).1 h.1;unfold AW at hs;have hlt:X<2048:=by omega
      have h2:=aVL List.length h.2;by_cases h7:X≤127
      .rw[YY pG h7,PZ] at h2;simp at h2
      .rw[YZ pG pG,PZ] at h2;simp at h2)]
    rfl
theorem aQj {s:pD}(hl:3<s.length) (h0:240≤(s.getD 0 0).toNat) (h0':(s.getD 0 0).toNat<248) (hc:tT s 1=true) (hc2:tT s 2=true) (hc3:tT s 3=true):
    wS s (zA s 3 (zA s 2 (zA s 1 ((s.getD 0 0).toNat-240)))) 4=(((Lib.decodeL s).1:Int),((Lib.decodeL s).2:Int)):=by
  unfold tT at hc hc2 hc3;simp only[aVE] at hc hc2 hc3;have k0:=(s.getD 0 0).toNat_lt;have k1:=(s.getD 1 0).toNat_lt;have k2:=(s.getD 2 0).toNat_lt;have k3:=(s.getD 3 0).toNat_lt;obtain⟨V,hV⟩: ∃V,(s.getD 0 0).toNat%8*262144+(s.getD 1 0).toNat%64*4096+(s.getD 2 0).toNat%64*64+(s.getD 3 0).toNat%64=V:=⟨_,rfl⟩
  have hd:Lib.decodeL s=if V≥65536∧(V<55296∨(57344≤V∧V≤1114111)) then(V,4) else(65533,1):=by
    rw[Lib.decodeL_N];unfold Lib.decodeN;rw[aVv pG,aVv pG,aVv pG,aVs ⟨pG,⟨pG,hc⟩,⟨pG,hc2⟩,pG,hc3⟩,hV]
  rw[hd];unfold wS zA;rw[Lib.takeD s hl];generalize hX:64*(64*(64*(((s.getD 0 0).toNat:Int)-240)+(s.getD 1 0).toNat-128)+(s.getD 2 0).toNat-128)+(s.getD 3 0).toNat-128=X;have hXV:X=(V:Int):=by omega
  by_cases hv:V≥65536∧(V<55296∨(57344≤V∧V≤1114111))
  · rw[aVs hv,aVs ⟨(KH _).2 (by unfold AW;omega),by
      rw[aI7 pG pG,IH _ _ (s.getD 0 0) pG,IH _ _ (s.getD 1 0) pG,IH _ _ (s.getD 2 0) pG,IH _ _ (s.getD 3 0) pG,aAp]⟩]
    exact Prod.ext hXV rfl
  · rw[aVv hv,aVv (fun h=>by
      have hs:=(KH _).1 h.1;unfold AW at hs;have hlt:X<65536:=by omega
      have h2:=aVL List.length h.2;by_cases h7:X≤127
      .rw[YY pG h7,PZ] at h2;simp at h2
      · by_cases h8:X≤2047
        .rw[YZ pG pG,PZ] at h2;simp at h2
        .rw[aAk pG,PZ] at h2;simp at h2)]
    rfl
theorem MZ {s:pD}(h: ¬(s.getD 0 0).toNat<128) (h2: ¬((s.getD 0 0).toNat/32=6∧1<s.length∧tT s 1=true)) (h3: ¬((s.getD 0 0).toNat/16=14∧2<s.length∧(tT s 1&&tT s 2)=true))
    (h4: ¬((s.getD 0 0).toNat/8=30∧3<s.length∧(tT s 1&&tT s 2&&tT s 3)=true)):Lib.decodeL s=(65533,1):=by
  unfold tT at h2 h3 h4;simp only[aVG,aVE] at h2 h3 h4;rw[Lib.decodeL_N];unfold Lib.decodeN;rw[aVv h,aVv (fun⟨a,b,c⟩=>h2 ⟨a,b,c⟩),aVv (fun⟨a,⟨b,c⟩,d,e⟩=>h3 ⟨a,d,c,e⟩),aVv (fun⟨a,⟨b,c⟩,⟨d,e⟩,f,g⟩=>h4 ⟨a,f,⟨c,e⟩,g⟩)]
theorem aQk {s:pD}(hne:s≠[]):JW s=some (((Lib.decodeL s).1:Int),((Lib.decodeL s).2:Int)):=by
  have hl:0<s.length:=aVX.2 hne;have hy:sF s 0=((s.getD 0 0).toNat:Int):=aJb (i:=0) hl;have k0:=(s.getD 0 0).toNat_lt;have hw:IntKind.i64.wrap ((s.getD 0 0).toNat:Int)=((s.getD 0 0).toNat:Int):=by rw[aWP];omega
  unfold JW;rw[aVs ⟨aWu _,pG⟩,hy,hw];by_cases c1:(s.getD 0 0).toNat<128
  · rw[aVs (by simp only[aVE];omega)]
    rw[Lib.decodeL_N];unfold Lib.decodeN;rw[aVs c1];rfl
  · rw[aVv (by simp only[aVE];omega)]
    by_cases c2:192≤(s.getD 0 0).toNat∧(s.getD 0 0).toNat<224
    · rw[aVs (by simp only[aVG,aVE];omega),aVs (by unfold qD;omega)]
      show (if decide ((s.length:Int)<2)=true then _ else _)=_;by_cases l2:1<s.length
      · rw[aVv (by simp only[aVE];omega),aQe l2 pG pG]
        by_cases hc:tT s 1=true
        · rw[aVs hc,←aQh l2 c2.1 c2.2 hc,←aAo (s:=s) (n:=2) pG]
          rfl
        · rw[aVv hc,MZ c1 (fun h=>hc h.2.2) (fun h=>by omega) (fun h=>by omega)]
          rfl
      · rw[aVs (by simp only[aVE];omega),MZ c1 (fun h=>l2 h.2.1) (fun h=>by omega) (fun h=>by omega)]
        rfl
    · rw[aVv (by simp only[aVG,aVE];omega)]
      by_cases c3:224≤(s.getD 0 0).toNat∧(s.getD 0 0).toNat<240
      · rw[aVs (by simp only[aVG,aVE];omega),aVs (by unfold qD;omega)]
        show (if decide ((s.length:Int)<3)=true then _ else _)=_;by_cases l2:2<s.length
        · rw[aVv (by simp only[aVE];omega),aQf l2 pG pG]
          by_cases hc:(tT s 1&&tT s 2)=true
          · have hc':=aVG _ _▸hc
            rw[aVs hc,←aQi l2 c3.1 c3.2 hc'.1 hc'.2,←aAo (s:=s) (n:=3) pG];rfl
          · rw[aVv hc,MZ c1 (fun h=>by omega) (fun h=>hc h.2.2) (fun h=>by omega)]
            rfl
        · rw[aVs (by simp only[aVE];omega),MZ c1 (fun h=>by omega) (fun h=>l2 h.2.1) (fun h=>by omega)]
          rfl
      · rw[aVv (by simp only[aVG,aVE];omega)]
        by_cases c4:240≤(s.getD 0 0).toNat∧(s.getD 0 0).toNat<248
        · rw[aVs (by simp only[aVG,aVE];omega),aVs (by unfold qD;omega)]
          show (if decide ((s.length:Int)<4)=true then _ else _)=_;by_cases l2:3<s.length
          · rw[aVv (by simp only[aVE];omega),aQg l2 pG pG]
            by_cases hc:(tT s 1&&tT s 2&&tT s 3)=true
            · have hc':=aVG _ _▸hc
              have hc'':=aVG _ _▸hc'.1;rw[aVs hc,←aQj l2 c4.1 c4.2 hc''.1 hc''.2 hc'.2,←aAo (s:=s) (n:=4) pG];rfl
            · rw[aVv hc,MZ c1 (fun h=>by omega) (fun h=>by omega) (fun h=>hc h.2.2)]
              rfl
          · rw[aVs (by simp only[aVE];omega),MZ c1 (fun h=>by omega) (fun h=>by omega) (fun h=>l2 h.2.1)]
            rfl
        · rw[aVv (by simp only[aVG,aVE];omega),MZ c1 (fun h=>by omega) (fun h=>by omega) (fun h=>by omega)]
          rfl
def zY:Nat→pD→pM
  |0,_=>[]
  |n+1,s=>if s=[] then[] else((Lib.decodeL s).1:Int)::zY n (s.drop (Lib.decodeL s).2)
theorem aJc: ∀(n:Nat) (s:pD),(zY n s).length≤n
  |0,_=>aVR _
  | n+1,s=>by
    unfold zY;split
    .simp
    · simp only[aVw]
      have:=aJc n (s.drop (Lib.decodeL s).2);omega
theorem aQl (s:pD):AW ((Lib.decodeL s).1:Int):=by
  have k0:=(s.getD 0 0).toNat_lt;rw[Lib.decodeL_N];rcases Lib.decodeN_shape s.length (s.getD 0 0).toNat (s.getD 1 0).toNat (s.getD 2 0).toNat (s.getD 3 0).toNat with⟨c,e⟩ |⟨c1,c2,c3,cv,e⟩ |⟨c1,c2,c3,c4,cv,cs,e⟩ |⟨c1,c2,c3,c4,c5,cv,cw,e⟩ |e
  all_goals (rw[e];unfold AW;dsimp only;omega)
theorem aJd: ∀(n:Nat) (s:pD) (out:pM),s.length≤n→out.length+s.length≤4000000000→rO PF (s,out)=some (out++zY n s)
  | n,[],out,_,_=>by
    rw[uL (r:=out) (by unfold PF;simp)];cases n<;>simp [zY]
  |0,b::t,_,h,_=>by simp at h
  | n+1,b::t,out,h,ho=>by
    have hne:(b::t)≠[]:=by simp
    have hle:=Lib.decodeL_le (b::t) hne;have hw:=Lib.decodeL_width (b::t)
    have hstep:PF (b::t,out)=some (.inl ((b::t).drop (Lib.decodeL (b::t)).2,out++[((Lib.decodeL (b::t)).1:Int)])):=by
      unfold PF;dsimp only;rw[aVs pI,aQk hne];simp only[aVq];rw[aVs (by simp only[aVw,aVD] at ho|-;omega),aVs ⟨pG,pG,aWu _⟩,PX]
    rw[vP hstep,aJd n _ _ (by rw[aVO];simp only[aVw] at h hle|-;omega) (by rw[aVO,aVu];simp only[aVw,aVD] at ho hle|-;omega)];rw[show zY (n+1) (b::t)=((Lib.decodeL (b::t)).1:Int)::zY n ((b::t).drop (Lib.decodeL (b::t)).2) by rw[zY,aVv hne],aVy];rfl
def Z0 (s:pD):pM:=zY s.length s
theorem aQm (s:pD) (hs:rW s):K3 s=some (Z0 s):=by
  unfold rW at hs;unfold K3;rw[aJd s.length s [] (aVR _) (by simpa using hs)];rfl
theorem aJe: ∀(n:Nat) (s:pD),∀x∈zY n s,AW x
  |0,_,_,h=>by cases h
  | n+1,s,x,h=>by
    unfold zY at h;split at h
    .cases h
    · rcases aVH.1 h with h|h
      .rw[h];exact aQl s
      .exact aJe n _ x h
def KI (l:pM):pD:=(l.map Lib.encodeRune).flatten
theorem aJf (n:Int):(Lib.encodeRune n).length≤4:=by
  unfold Lib.encodeRune;rw[aWD];exact aI9 n
theorem aJg (l:pM) (hsc: ∀x∈l,AW x) (hl:rW l): ∀(n j:Nat) (s:pD),j+n=l.length→s.length+4*n≤10000000000000→rO (PE l) (s,(j:Int))=some (s++KI (l.drop j))
  | 0,j,s,hj,_=>by
    have:j=l.length:=by omega
    subst this;rw[uL (r:=s) (by unfold PE;simp),aWl];simp [KI]
  | n+1,j,s,hj,hs=>by
    have hlt:j<l.length:=by omega
    unfold rW at hl;have hx:=hsc l[j] (aWq hlt);have h4:=aJf l[j]
    have hstep:PE l (s,(j:Int))=some (.inl (s++Lib.encodeRune l[j],((j+1:Nat):Int))):=by
      unfold PE;dsimp only;rw[aVs (uS hlt),aVs (sY hlt),zX (t:= .int .i64) hlt];have hb:=(KH l[j]).2 hx;unfold AX at hb;rw[aVs hb,aVs (sY hlt),aI8 hx];simp only[aVq];rw[aVs (by rw[aVu];omega),aVs (vF pG)];rfl
    rw[vP hstep,aJg l hsc hl n (j+1) _ pG (by rw[aVu];omega),aV8 hlt,aVy];rfl
theorem aQn (l:pM) (hsc: ∀x∈l,AW x) (hl:rW l):ML l=some (KI l):=by
  have hl':=hl;unfold rW at hl';unfold ML;rw[show ((0:Int))=((0:Nat):Int) from rfl,aJg l hsc hl l.length 0 [] pG pJ];rfl
theorem aJh: ∀(n:Nat) (s:pD),s.length≤n→s.length≤(KI (zY n s)).length∧(KI (zY n s)=s↔Lib.validD s=true)
  | n,[],_=>by
    have:zY n []=[]:=by cases n<;>simp [zY]
    rw[this];simp [KI,Lib.validD_nil]
  |0,b::t,h=>by simp at h
  | n+1,b::t,h=>by
    have hne:(b::t)≠[]:=by simp
    have hle:=Lib.decodeL_le (b::t) hne;have hw:=Lib.decodeL_width (b::t);obtain⟨ih1,ih2⟩:=aJh n ((b::t).drop (Lib.decodeL (b::t)).2) (by rw[aVO];simp only[aVw] at h|-;omega)
    have hr:KI (zY (n+1) (b::t))=Lib.encodeRune ((Lib.decodeL (b::t)).1:Int)++KI (zY n ((b::t).drop (Lib.decodeL (b::t)).2)):=by
      rw[zY,aVv hne];rfl
    rw[hr,Lib.validD_step _ hne];rw[aVO] at ih1;by_cases hv:(Lib.decodeL (b::t)).1=65533∧(Lib.decodeL (b::t)).2=1
    · rw[aVs hv,hv.1]
      have e3:(Lib.encodeRune ((65533:Nat):Int)).length=3:=rfl;rw[hv.2] at ih1|-;refine⟨by rw[aVu,e3];omega,fun he=> ?_,fun he=>by cases he⟩;have:=aVL List.length he;rw[aVu,e3] at this;omega
    · have he:=Lib.encode_decode (b::t) hne hv
      rw[aVv hv,he];refine⟨by rw[aVu,aVQ];omega,?_⟩;rw[←ih2];constructor
      · intro h1
        exact List.append_cancel_left (h1.trans (aWX _ _).symm)
      · intro h1
        rw[h1,aWX]
theorem aQo (s:pD) (hs:rW s):vH s=some (Lib.validD s):=by
  have hl:rW (Z0 s):=by
    have:=aJc s.length s;unfold rW Z0 at*;omega
  unfold vH;rw[aQm s hs];simp only[aVq];rw[aQn (Z0 s) (fun x hx=>aJe _ _ x hx) hl];simp only[aVq];congr 1;have:=(aJh s.length s (aVR _)).2;rw[aW9,aVE];exact this
def sZ (s:pD):Bool:=decide ((s.length:Int)≤4000)&&Lib.validD s
theorem U1 (s:pD) (hs:rW s):GJ s=some ()∧((decide ((s.length:Int)≤4000))&&val (vH s))=sZ s:=by
  unfold GJ;rw[aQo s hs];exact⟨aVs (fun _=>rfl),rfl⟩
theorem Q0 (s:pD) (hs:rW s):F0 s=some ():=by
  unfold rW at hs;unfold F0 SS;rw[aVs (fun _=>by rw[aVs pG];rfl)]
theorem xK {p:Prop}{α:Type}{v:α}:p→(some v).isSome=true:=fun _=>rfl
theorem U2 {ρ:Type}{f:Int→Option (Int⊕(Unit⊕ρ))}{n:Nat}(p:Nat→Bool) (g:Nat→ρ)
    (hf: ∀(i:Nat),i<n→f i=if p i=true then some (.inr (.inr (g i))) else some (.inl (i+1)))
    (he:f n=some (.inr (.inl ()))):rO f 0=some (wR (fun k=> .inr (g k)) (.inl ()) ((List.range n).findIdx? p)):=by
  refine D5 (l:=List.range n) p g (fun i h=> ?_) (by rw[List.length_range];exact he);have hi:i<n:=by rw[List.length_range] at h;exact h
  rw[List.getElem_range];exact hf i hi
theorem aAq (a b:pD):(!Op.bytesLess a b)=(Op.bytesLess b a||decide (b=a)):=by
  rw[bytesLess_eq,bytesLess_eq,aW9];simp only[aVV,aWb,aWv,aVE];constructor
  · intro h
    exact(List.le_iff_lt_or_eq.1 (List.not_lt.1 h))
  · rintro(h|h)
    .exact List.lt_asymm h
    .rw[h];exact List.lt_irrefl _
theorem U3 {n:Nat}{p:Nat→Bool}{b:Bool}:tY (some (wR (fun _=>Sum.inr false) (Sum.inl ()) ((List.range n).findIdx? p))) (fun _:Unit=>some b)=some (!((List.range n).any p)&&b):=by
  rw[KF];cases(List.range n).any p<;>rfl
def vW (l:pE):Bool:=decide ((l.length:Int)≤20)&& !(l.any fun x=> !sZ x)
theorem aQp {α:Type}{l:List α}{p:α→Bool}{b:Bool}:tY (some (wR (fun _=>Sum.inr false) (Sum.inl ()) (l.findIdx? p))) (fun _:Unit=>some b)=some (!(l.any p)&&b):=by
  rw[KF];cases l.any p<;>rfl
theorem aJi (l:pE) (hl:rW l) (hx: ∀x∈l,rW x):BG l=some (vW l):=by
  unfold rW at hl
  have h:=D5 (f:=TL l) (l:=l) (fun x=> !sZ x) (fun _=>false) (fun i h=>by
    obtain⟨h1,h2⟩:=U1 l[i] (hx _ (aWq h));unfold TL;rw[aVs (uS h),aVs (sY h),zX (t:= .str) h,h1,aVq,h2,aVs (vF pG)]) (by
    unfold TL;rw[aVv (vJ _)])
  unfold BG;rw[h,aQp,vW,Bool.and_comm]
theorem aQq (l:pE) (hl:rW l) (hx: ∀x∈l,rW x):C1 l=some (l.any fun x=> !sZ x):=by
  unfold rW at hl
  have h:=D5 (f:=TK l) (l:=l) (fun x=> !sZ x) (fun k=>(k:Int)) (fun i h=>by
    have h1:=Q0 l[i] (hx _ (aWq h));unfold TK TH;rw[aVs (uS h),aVs (sY h),zX (t:= .str) h,h1,aVq,aVq,aVs (vF pG)];rfl) (by
    unfold TK;rw[aVv (vJ _)])
  unfold C1 PJ;rw[h,KG];show some (decide _)=_;rw[PV]
theorem aJj (l:pE) (hl:rW l) (hx: ∀x∈l,rW x):MP l=some ()∧((decide ((l.length:Int)≤20))&&(!(val (C1 l))))=vW l:=by
  unfold MP;rw[aQq l hl hx];exact⟨aVs xK,rfl⟩
def U4 (l:pE) (i:Nat):Bool:=(!uR (l.getD i []))||(decide (0<i)&& !Op.bytesLess (l.getD (i-1) []) (l.getD i []))
def DY (l:pE):Bool:= !((List.range l.length).any (U4 l))&&decide ((l.length:Int)≤20)
theorem aAr {l:pE}{i:Nat}:qQ .str l (i:Int)=l.getD i []:=by unfold qQ;rw[aWh];rfl
theorem aJk {l:pE}{i:Nat}:qQ .str l ((i:Int)-1)=l.getD (i-1) []:=by
  unfold qQ;rw[show ((i:Int)-1).toNat=i-1 by omega];rfl
theorem Z1 {i:Nat}:decide ((0:Int)<(i:Int))=decide (0<i):=by simp
theorem aQr (l:pE) (hl:rW l):HS l=some (DY l):=by
  unfold rW at hl
  have h:=U2 (f:=SQ l) (n:=l.length) (U4 l) (fun _=>false) (fun i h=>by
    unfold SQ;rw[aVs (uS h),aVs (sY h),aAr,aJk,U0,aVq,Z1]
    have h0: ∀q:Bool,((q==false)&&(decide (0<i)==true))=true→0<i:=fun q hq=>by
      simp only[aVG,beq_iff_eq,aVE] at hq;exact hq.2
    rw[aVs (fun hq=>by have:=h0 _ hq;unfold qD;omega),aVs (fun hq=>by have:=h0 _ hq;omega),aVs (vF pG)];rfl) (by
    unfold SQ;rw[aVv (vJ _)])
  unfold HS;rw[h,U3];rfl
theorem aQs (l:pE) (hl:rW l) (hx: ∀x∈l,rW x):F4 l=some (DY l):=by
  unfold rW at hl
  have h:=U2 (f:=TF l) (n:=l.length) (U4 l) (fun _=>false) (fun i h=>by
    unfold TF;have hf:rW (l.getD i []):=by rw[aVY,aVF h];exact hx _ (aWq h)
    rw[aVs (uS h),aVs (sY h),aAr,aJk,aIX _ hf,aVq,Z1]
    have h0: ∀q:Bool,((q==false)&&(decide (0<i)==true))=true→0<i:=fun q hq=>by
      simp only[aVG,beq_iff_eq,aVE] at hq;exact hq.2
    rw[aVs (fun _=>sY h),aVs (fun hq=>by have:=h0 _ hq;unfold qD;omega),aVs (fun hq=>by have:=h0 _ hq;omega),aVs (vF pG),←aAq];rfl) (by
    unfold TF;rw[aVv (vJ _)])
  unfold F4;rw[h,U3];rfl
abbrev fD:sA:=([],([],()))
def U5 (l:List sA) (i:Nat):Bool:=((!uR (l.getD i fD).1)||(!sZ (l.getD i fD).2.1))||(decide (0<i)&& !Op.bytesLess (l.getD (i-1) fD).1 (l.getD i fD).1)
def vQ (l:List sA):Bool:= !((List.range l.length).any (U5 l))&&decide ((l.length:Int)≤20)
theorem aAs {l:List sA}{i:Nat}:qQ (.pair .str (.pair .str .unit)) l (i:Int)=l.getD i fD:=by unfold qQ;rw[aWh];rfl
theorem aJl {l:List sA}{i:Nat}:qQ (.pair .str (.pair .str .unit)) l ((i:Int)-1)=l.getD (i-1) fD:=by
  unfold qQ;rw[show ((i:Int)-1).toNat=i-1 by omega];rfl
def U6 (x:sA):Prop:=rW x.1∧rW x.2.1
theorem N0 {α:Type}{l:List α}{i:Nat}{d:α}(h:i<l.length):l.getD i d∈l:=by
  rw[aVY,aVF h];exact aWq h
theorem Z2 {i:Nat}{q:Bool}(hq:((q==false)&&(decide (0<i)==true))=true):0<i:=by
  simp only[aVG,beq_iff_eq,aVE] at hq;exact hq.2
theorem aJm (l:List sA) (hl:rW l) (hx: ∀x∈l,U6 x):GH l=some (vQ l):=by
  unfold rW at hl
  have h:=U2 (f:=TG l) (n:=l.length) (U5 l) (fun _=>false) (fun i h=>by
    unfold TG;have hf:=hx _ (N0 (d:=fD) h);rw[aVs (uS h),aVs (sY h),aAs,aJl,U0,aVq,Z1,Q0 _ hf.2];rw[aVs xK,aVs (fun hq=>by have:=Z2 hq;unfold qD;omega),aVs (fun hq=>by have:=Z2 hq;omega),aVs (vF pG)];rfl) (by
    unfold TG;rw[aVv (vJ _)])
  unfold GH;rw[h,U3];rfl
theorem aJn (l:List sA) (hl:rW l) (hx: ∀x∈l,U6 x):DW l=some (vQ l):=by
  unfold rW at hl
  have h:=U2 (f:=TM l) (n:=l.length) (U5 l) (fun _=>false) (fun i h=>by
    unfold TM;have hf:=hx _ (N0 (d:=fD) h);obtain⟨h1,h2⟩:=U1 _ hf.2;rw[aVs (uS h),aVs (sY h),aAs,aJl,aIX _ hf.1,aVq,Z1,h1,h2];rw[aVs (fun _=>sY h),aVs xK,aVs (fun _=>sY h),aVs (fun hq=>by have:=Z2 hq;unfold qD;omega),aVs (fun hq=>by have:=Z2 hq;omega),aVs (vF pG),←aAq];rfl) (by
    unfold TM;rw[aVv (vJ _)])
  unfold DW;rw[h,U3];rfl
abbrev uC:=s0
structure aAt (x:uC):Prop where
  id:rW x.1
  src:rW x.2.1
  tgt:rW x.2.2.1
  com:rW x.2.2.2.1∧∀y∈x.2.2.2.1,rW y
  flg:rW x.2.2.2.2.1∧∀y∈x.2.2.2.2.1,rW y
  fld:rW x.2.2.2.2.2.2.1∧∀y∈x.2.2.2.2.2.2.1,U6 y
def y9 (x:uC):Bool:=
  (((((((!decide (x.1=[]))&&decide ((x.1.length:Int)≤200))&&sZ x.1)&&sZ x.2.1)&&sZ x.2.2.1)&&vW x.2.2.2.1)&&DY x.2.2.2.2.1)&&(decide (0≤x.2.2.2.2.2.1)&&decide (x.2.2.2.2.2.1≤4))&&vQ x.2.2.2.2.2.2.1
theorem aQt (x:uC) (h:aAt x):KB x=some (y9 x):=by
  obtain⟨t1,t2⟩:=aJj _ h.com.1 h.com.2;have e1:=aQr _ h.flg.1;have e2:=aJm _ h.fld.1 h.fld.2;unfold KB;rw[Q0 _ h.id,Q0 _ h.src,Q0 _ h.tgt,t1,t2,e1,e2];have k: ∀s:pD,(decide ((s.length:Int)≤4000)&&Lib.validD s)=sZ s:=fun s=>rfl;rw[aVs xK,aVq,aVs xK,aVs xK,aVs xK,aVs xK,k,k,k];unfold y9;show (if _ then some false else some _)=_;have a1:decide ((200:Int)<(x.1.length:Int))= !decide ((x.1.length:Int)≤200):=by rw[←decide_not];exact aWT.2 pG
  have a2:decide (x.2.2.2.2.2.1<(0:Int))= !decide ((0:Int)≤x.2.2.2.2.2.1):=by rw[←decide_not];exact aWT.2 pG
  have a3:decide ((4:Int)<x.2.2.2.2.2.1)= !decide (x.2.2.2.2.2.1≤(4:Int)):=by rw[←decide_not];exact aWT.2 pG
  rw[a1,a2,a3];show (if _ then some false else some (((((sZ x.2.1&&sZ x.2.2.1)&&vW x.2.2.2.1)&&DY x.2.2.2.2.1))&&vQ x.2.2.2.2.2.2.1))=_;generalize decide (x.1=[])=b1;generalize decide ((x.1.length:Int)≤200)=b2;generalize sZ x.1=b3;generalize sZ x.2.1=b4;generalize sZ x.2.2.1=b5;generalize vW x.2.2.2.1=b6;generalize DY x.2.2.2.2.1=b7;generalize decide ((0:Int)≤x.2.2.2.2.2.1)=b8;generalize decide (x.2.2.2.2.2.1≤(4:Int))=b9;generalize vQ x.2.2.2.2.2.2.1=b10;cases b1<;>cases b2<;>cases b3<;>cases b8<;>cases b9<;>simp
theorem aQu (x:uC) (h:aAt x):PM x=some ()∧((((((((((!decide (x.1=([]:pD)))&&(decide ((List.length x.1:Int)≤(200:Int))))&&((decide ((List.length x.1:Int)≤(4000:Int)))&&(val (vH x.1))))&&((decide ((List.length x.2.1:Int)≤(4000:Int)))&&(val (vH x.2.1))))&&((decide ((List.length x.2.2.1:Int)≤(4000:Int)))&&(val (vH x.2.2.1))))&&(val (BG x.2.2.2.1)))&&(val (F4 x.2.2.2.2.1)))&&(decide ((0:Int)≤x.2.2.2.2.2.1)))&&(decide (x.2.2.2.2.2.1≤(4:Int))))&&(val (DW x.2.2.2.2.2.2.1)))=y9 x:=by
  obtain⟨u1,v1⟩:=U1 _ h.id;obtain⟨u2,v2⟩:=U1 _ h.src;obtain⟨u3,v3⟩:=U1 _ h.tgt;have e0:=aJi _ h.com.1 h.com.2;have e1:=aQs _ h.flg.1 h.flg.2;have e2:=aJn _ h.fld.1 h.fld.2;unfold PM;rw[u1,u2,u3,v1,v2,v3,e0,e1,e2];refine⟨?_,?_⟩
  .rw[aVs xK,aVs xK,aVs xK,aVs xK,aVs xK,aVs xK]
  · unfold y9
    show (((((((((!_&&_)&&_)&&_)&&_)&&vW x.2.2.2.1)&&DY x.2.2.2.2.1)&&_)&&_)&&vQ x.2.2.2.2.2.2.1)=_;simp only[Bool.and_assoc]
theorem aQv {a b:UInt8}:((a.toNat:Int)=(b.toNat:Int))↔a=b:=by
  rw[Int.ofNat_inj];exact UInt8.toNat_inj
theorem eqB {a:UInt8}{n:Int}(b:UInt8) (hb:n=(b.toNat:Int)):decide ((a.toNat:Int)=n)=decide (a=b):=by
  rw[hb];simp only[aQv]
theorem Z3 (a b:pD):uY (a++b)=uY a++uY b:=by simp [uY]
theorem aAv (a:pD):uA (uY a)=a:=by
  unfold uA uY;rw[List.map_map]
  conv=>rhs;rw[←List.map_id a]
  congr 1;funext b;simp
theorem aQw {x:pM}{c:Int}(hx:x.length≤10000000000000):MD (x,()) c=some ():=by
  unfold MD;exact aVs (by simp only[aWR,aXg];omega)
theorem aQx {x:pM}{t:pD}(hx:x.length≤10000000000000) (ht:t.length≤4000000000):DO (x,()) t=some ():=by
  unfold DO;exact aVs (by dsimp only;omega)
theorem DZ {p:Prop}{α:Type}{v:α}:p→(some v).isSome=true:=fun _=>rfl
abbrev C4:=pD×(pE×(List sA×(List s0×Unit)))
theorem N1 {v:Ty}(a b:pD) (y:v.den): ∀l:List (pD×v.den),s8 .str v (tW .str v a y l) b=if b=a then y else s8 .str v l b
  | []=>by
    show (if decide (b=a)=true then y else v.zero)=if b=a then y else v.zero;by_cases h:b=a<;>simp [h]
  | (x,z)::r=>by
    have ih:=N1 a b y r;show s8 .str v (if decide (a=x)=true then(a,y)::r else(x,z)::tW .str v a y r) b=if b=a then y else(if decide (b=x)=true then z else s8 .str v r b);by_cases h:a=x
    · rw[aVs (aVS h)]
      show (if decide (b=a)=true then y else s8 .str v r b)=_;by_cases hb:b=a
      .rw[aVs (aVS hb),aVs hb]
      .rw[aVv (by simpa using hb),aVv hb,aVv (by rw[←h];simpa using hb)]
    · rw[aVv (by simpa using h)]
      show (if decide (b=x)=true then z else s8 .str v (tW .str v a y r) b)=_;rw[ih];by_cases hb:b=a
      .rw[aVs hb,aVs hb,aVv (by rw[hb];simpa using h)]
      .rw[aVv hb,aVv hb]
theorem II: ∀(x y:pD),Op.bytesLess x y=decide (x<y)
  |[],[]=>by simp [Op.bytesLess]
  |_::_,[]=>by simp [Op.bytesLess]
  |[],_::_=>by simp [Op.bytesLess]
  | a::x,b::y=>by
    rw[Op.bytesLess,II x y];simp only[List.cons_lt_cons_iff];by_cases h1:a<b<;>by_cases h2:a=b<;>by_cases h3:x<y<;>simp [h1,h2,h3]
theorem aJo (l:pE):(sN l).Pairwise (·≤·):=by
  have:=List.pairwise_mergeSort (le:=fun x y:pD=>decide (x≤y)) (fun a b c h1 h2=>aVS (List.le_trans (aV4 h1) (aV4 h2))) (fun a b=>by simpa using List.le_total a b) l;exact this.imp (fun h=>aV4 h)
theorem aAw (l:pE):(sN l).Perm l:=List.mergeSort_perm l _
theorem Z4 (l:pE):(sN l).length=l.length:=(aAw l).length_eq
abbrev aAx (y:s0):Prop:=rW y.2.2.2.1∧rW y.2.2.2.2.1∧rW y.2.2.2.2.2.2.1
def aAy (es:List s0) (x:pD):Int×Bool:=wR (fun k=>((k:Int),true)) ((0:Int),false) (es.findIdx? fun y=>decide (y.1=x))
theorem aQy (c:C4) (x:pD) (hl:c.2.2.2.1.length≤5000):JQ c x=some (aAy c.2.2.2.1 x):=by
  have h:=D5 (f:=SL c x) (l:=c.2.2.2.1) (fun y=>decide (y.1=x)) (fun k=>((k:Int),true)) (fun i h=>by
    unfold SL;rw[aVs (uS h),aVs (sY h),zX (t:=s7) h,aVs (vF pG)]) (by
    unfold SL;rw[aVv (vJ _)])
  unfold JQ;rw[h,KG];rfl
def N2 (ids:pK) (es:List s0):Prop:= ∀x,s8 .str .bool ids x=es.any fun y=>decide (y.1=x)
theorem aAz {ids:pK}{es:List s0}(h:N2 ids es) (e:s0) (x:pD) (he:e.1=x):N2 (tW .str .bool x true ids) (es++[e]):=by
  intro y;rw[N1,List.any_append,←h y];by_cases hy:y=x
  .rw[aVs hy];simp [he,hy]
  · rw[aVv hy]
    have:decide (e.1=y)=false:=by rw[he];simpa using fun hh=>hy hh.symm
    simp [this]
theorem aAA {α:Type}:rW ([]:List α):=by unfold rW;exact aWC _
theorem aAB {α:Type}{f:Int→Option (Int⊕(Unit⊕Bool))}(l:List α) (hf: ∀(i:Nat) (h:i<l.length),f i=some (.inl (i+1))) (he:f l.length=some (.inr (.inl ()))):
    rO f 0=some (.inl ()):=by
  have h:=D5 (f:=f) (l:=l) (fun _=>false) (fun _=>false) (fun i h=>by rw[aVv Bool.false_ne_true];exact hf i h) he;rw[h];have:l.findIdx? (fun _=>false)=none:=aWO.2 (fun _ _=>rfl);rw[this];rfl
theorem N3 (l:pE) (hl:rW l):x4 l l=some true:=by
  unfold rW at hl;unfold x4
  rw[aVv pI,aAB l (fun i h=>by
    unfold Y9;rw[aVs (uS h),aVs (sY h),aVs (sY h),aVv pI,aVs (vF pG)]) (by
    unfold Y9;rw[aVv (vJ _)])]
  rfl
theorem U7 (l:List sA) (hl:rW l):zJ l l=some true:=by
  unfold rW at hl;unfold zJ
  rw[aVv pI,aAB l (fun i h=>by
    unfold YA;rw[aVs (uS h),aVs (sY h),aVs (sY h),aVv pI,aVs (vF pG)]) (by
    unfold YA;rw[aVv (vJ _)])]
  rfl
theorem aQz (y:s0) (h:aAx y):OV y y=some ():=by
  unfold OV;rw[N3 _ h.1,N3 _ h.2.1,U7 _ h.2.2,aVs DZ,aVs DZ,aVs DZ]
theorem aAC (l:List s0) (hl:rW l) (h: ∀y∈l,aAx y):BY l l=some true:=by
  unfold rW at hl;unfold BY
  rw[aVv pI,aAB l (fun i hi=>by
    have hy:=h l[i] (aWq hi);unfold YI;rw[aVs (uS hi),aVs (sY hi),aVs (sY hi),zX (t:=s7) hi];rw[aQz _ hy,aVq,N3 _ hy.1,N3 _ hy.2.1,U7 _ hy.2.2,aVv (by simp [val]),aVs (vF pG)]) (by
    unfold YI;rw[aVv (vJ _)])]
  rfl
abbrev eD:uC:=([],([],([],([],([],(0,([],())))))))
def FC (es:List uC) (i:Nat):Bool:=((es.take i).any fun y=>decide (y.1=(es.getD i eD).1))|| !y9 (es.getD i eD)
def x6 (c:C4):Bool:=((wI c.1&&vW c.2.1)&&vQ c.2.2.1)&&(decide ((c.2.2.2.1.length:Int)≤1000)&& !((List.range c.2.2.2.1.length).any (FC c.2.2.2.1)))
theorem aAD {l:List uC}{i:Nat}:qQ s7 l (i:Int)=l.getD i eD:=by unfold qQ;rw[aWh];rfl
structure U8 (c:C4):Prop where
  tag:rW c.1
  com:rW c.2.1∧∀y∈c.2.1,rW y
  fld:rW c.2.2.1∧∀y∈c.2.2.1,U6 y
  len:c.2.2.2.1.length≤5000
  ent: ∀x∈c.2.2.2.1,aAt x
theorem aQA {α:Type}{l:List α}{i:Nat}{d:α}(h:i<l.length):l.take (i+1)=l.take i++[l.getD i d]:=by
  rw[List.take_add_one,aVF h,aVY,aVF h];rfl
theorem aJp {c:C4}(hc:U8 c): ∀(n i:Nat) (m:pK),i+n=c.2.2.2.1.length→N2 m (c.2.2.2.1.take i)→
    rO (MR c) ((i:Int),m)=some (if (List.range' i n).any (FC c.2.2.2.1)=true then .inr false else .inl ())
  | 0,i,m,hi,_=>by
    have:i=c.2.2.2.1.length:=by omega
    subst this;refine uL ?_;unfold MR;dsimp only;rw[aVv (vJ _)];rfl
  | n+1,i,m,hi,hm=>by
    have h:i<c.2.2.2.1.length:=by omega
    have he:=hc.ent _ (N0 (d:=eD) h);have hl:=hc.len
    have hst:MR c ((i:Int),m)=if FC c.2.2.2.1 i=true then some (.inr (.inr false)) else some (.inl (((i+1:Nat):Int),tW .str .bool (c.2.2.2.1.getD i eD).1 true m)):=by
      unfold MR;dsimp only;rw[aVs (uS h),aVs (sY h),aAD,hm,aQt _ he,aVs xK,aVs (vF pG)];rfl
    rw[aXB,List.any_cons];by_cases hb:FC c.2.2.2.1 i=true
    · rw[aVs hb] at hst
      rw[hb,Bool.true_or,aVs rfl];exact uL hst
    · rw[aVv hb] at hst
      rw[vP hst,aJp hc n (i+1) _ pG (by rw[aQA (d:=eD) h];exact aAz hm _ _ rfl)];simp only[aWE] at hb;rw[hb,Bool.false_or]
theorem aQB {c:C4}(hc:U8 c):MS c=some (x6 c):=by
  obtain⟨t1,t2⟩:=aJj _ hc.com.1 hc.com.2;have e2:=aJm _ hc.fld.1 hc.fld.2;have hlp:=aJp hc c.2.2.2.1.length 0 [] pG (fun x=>by rfl);rw[←List.range_eq_range'] at hlp;have hlp':rO (MR c) ((0:Int),[])=_:=hlp;have a1:decide ((1000:Int)<(c.2.2.2.1.length:Int))= !decide ((c.2.2.2.1.length:Int)≤1000):=by rw[←decide_not];exact aWT.2 pG
  unfold MS;rw[aAj,aVq,t1,t2,e2,aVs xK,aVs xK,hlp',a1];unfold x6;show (if (((!wI c.1)||(!vW c.2.1))||(!vQ c.2.2.1)||_)=true then some false else _)=_
  generalize wI c.1=b1;generalize vW c.2.1=b2;generalize vQ c.2.2.1=b3;generalize decide ((c.2.2.2.1.length:Int)≤1000)=b4;generalize (List.range c.2.2.2.1.length).any (FC c.2.2.2.1)=b5;cases b1<;>cases b2<;>cases b3<;>cases b4<;>cases b5<;>rfl
theorem aQC {es:List uC}{i:Nat}(h:i<es.length):decide ((aAy es (es.getD i eD).1).1=(i:Int))= !((es.take i).any fun y=>decide (y.1=(es.getD i eD).1)):=by
  have hx:es.getD i eD=es[i]:=by rw[aVY,aVF h];rfl
  unfold aAy;cases hf:es.findIdx? fun y=>decide (y.1=(es.getD i eD).1) with
  | none=>
    have:=aWO.1 hf es[i] (aWq h);rw[hx] at this;simp at this
  | some k=>
    obtain⟨hk,h1,h2⟩:=aWi.1 hf;simp only[aVE,aWb] at h1 h2;show decide ((k:Int)=(i:Int))=_;rw[aW9,aVE,aVV,aV9]
    have hki:k≤i:=by
      rcases aWA i k with hlt|hge
      .exact absurd (aVL Prod.fst hx.symm) (h2 i hlt)
      .exact hge
    constructor
    · intro he x hxm
      obtain⟨j,hj,rfl⟩:=aW3 hxm;rw[aVQ] at hj;rw[List.getElem_take];have:=h2 j pG;simpa using this
    · intro hall
      rcases aWA k i with hlt|hge
      · have:=hall es[k] (by rw[aXm];exact⟨k,pG,rfl⟩)
        simp [h1] at this
      .omega
theorem aQD (c:C4) (hc:U8 c):MQ c=some ((wI c.1&&vW c.2.1)&&vQ c.2.2.1):=by
  unfold MQ;rw[aP4 _ hc.tag,aVq,aJi _ hc.com.1 hc.com.2,aJn _ hc.fld.1 hc.fld.2,aVs xK,aVs xK];rfl
theorem aJq {c:C4}(hc:U8 c):D1 c=some (x6 c):=by
  have hl:=hc.len
  have h:=U2 (f:=TP c) (n:=c.2.2.2.1.length) (FC c.2.2.2.1) (fun _=>false) (fun i h=>by
    have he:=hc.ent _ (N0 (d:=eD) h);obtain⟨u,v⟩:=aQu _ he;unfold TP;rw[aVs (uS h),aVs (sY h),aAD,aQy c _ hl,aVq,aVs (fun _=>sY h),u,aVs xK,v,aQC h,aVs (vF pG),Bool.not_not];rfl) (by
    unfold TP;rw[aVv (vJ _)])
  have a1:decide ((1000:Int)<(c.2.2.2.1.length:Int))= !decide ((c.2.2.2.1.length:Int)≤1000):=by rw[←decide_not];exact aWT.2 pG
  unfold D1;rw[aQD c hc,aVq,h,U3,a1];unfold x6;generalize ((wI c.1&&vW c.2.1)&&vQ c.2.2.1)=b1;generalize decide ((c.2.2.2.1.length:Int)≤1000)=b2;generalize (List.range c.2.2.2.1.length).any (FC c.2.2.2.1)=b3;cases b1<;>cases b2<;>cases b3<;>rfl
def vR:Nat:=140737488351232
theorem aJr {l:pE}(hl:l.length≤vR) (hx: ∀x∈l,x.length≤vR): ∀(m i:Nat) (n:Int),i+m=l.length→0≤n→n≤1125899906842624→
    ∃r,rO (JS l) (n,(i:Int))=some r∧n≤r∧r≤1125899906842624∧(r<1099511627776→∀x∈l.drop i,n+(x.length:Int)≤r)
  | 0,i,n,hi,h0,h1=>by
    have:i=l.length:=by omega
    subst this;refine⟨n,uL ?_,aWu _,h1,fun _ x hx=>by rw[aWl] at hx;cases hx⟩;unfold JS;dsimp only;rw[aVv pI]
  | m+1,i,n,hi,h0,h1=>by
    have h:i<l.length:=by omega
    by_cases hn:n<1099511627776
    · have hxi:=hx _ (aWq h)
      unfold vR at hxi hl
      have hst:JS l (n,(i:Int))=some (.inl (n+(l[i].length:Int),((i+1:Nat):Int))):=by
        unfold JS;dsimp only;rw[aVs (by simp [h,hn]),aVs (sY h),zX (t:= .str) h,aVs (by unfold qD;omega),aVs (by unfold qD;omega)];rfl
      obtain⟨r,e,e1,e2,e3⟩:=aJr (by unfold vR;exact hl) hx m (i+1) (n+(l[i].length:Int)) pG pG pG;refine⟨r,by rw[vP hst,e],pG,e2,fun hr x hxm=> ?_⟩;rw[aV8 h] at hxm;rcases aVH.1 hxm with rfl|hxm
      .omega
      · have:=e3 hr x hxm
        omega
    · refine⟨n,uL ?_,aWu _,h1,fun hr=>by omega⟩
      unfold JS;dsimp only;rw[aVv (by simp [hn])]
theorem aJs {l:List sA}(hl:l.length≤vR) (hx: ∀x∈l,x.1.length≤vR∧x.2.1.length≤vR): ∀(m i:Nat) (n:Int),i+m=l.length→0≤n→n≤1125899906842624→
    ∃r,rO (JT l) (n,(i:Int))=some r∧n≤r∧r≤1125899906842624∧(r<1099511627776→∀x∈l.drop i,n+(x.1.length:Int)+(x.2.1.length:Int)≤r)
  | 0,i,n,hi,h0,h1=>by
    have:i=l.length:=by omega
    subst this;refine⟨n,uL ?_,aWu _,h1,fun _ x hx=>by rw[aWl] at hx;cases hx⟩;unfold JT;dsimp only;rw[aVv pI]
  | m+1,i,n,hi,h0,h1=>by
    have h:i<l.length:=by omega
    by_cases hn:n<1099511627776
    · have hxi:=hx _ (aWq h)
      unfold vR at hxi hl
      have hst:JT l (n,(i:Int))=some (.inl (n+(l[i].1.length:Int)+(l[i].2.1.length:Int),((i+1:Nat):Int))):=by
        unfold JT;dsimp only;rw[aVs (by simp [h,hn]),aVs (sY h),zX (t:= .pair .str (.pair .str .unit)) h,aVs (by unfold qD;omega),aVs (sY h),aVs (by unfold qD;omega),aVs (by unfold qD;omega)];rfl
      obtain⟨r,e,e1,e2,e3⟩:=aJs (by unfold vR;exact hl) hx m (i+1) (n+(l[i].1.length:Int)+(l[i].2.1.length:Int)) pG pG pG;refine⟨r,by rw[vP hst,e],pG,e2,fun hr x hxm=> ?_⟩;rw[aV8 h] at hxm;rcases aVH.1 hxm with rfl|hxm
      .omega
      · have:=e3 hr x hxm
        omega
    · refine⟨n,uL ?_,aWu _,h1,fun hr=>by omega⟩
      unfold JT;dsimp only;rw[aVv (by simp [hn])]
def FD (l:pE):Prop:=l.length≤6000∧∀x∈l,x.length≤6000
def KJ (l:List sA):Prop:=l.length≤6000∧∀x∈l,x.1.length≤6000∧x.2.1.length≤6000
theorem Z5 {l:pE}{f:List sA}(hl:l.length≤vR) (hx: ∀x∈l,x.length≤vR) (hf:f.length≤vR) (hy: ∀x∈f,x.1.length≤vR∧x.2.1.length≤vR):
    ∃r,zR l f=some r∧0≤r∧r≤1125899906842624∧(r≤6000→FD l∧KJ f):=by
  have hl':=hl;have hf':=hf;unfold vR at hl' hf';obtain⟨r,e,e1,e2,e3⟩:=aJr hl hx l.length 0 ((l.length:Int)+(f.length:Int)) pG pG pG;obtain⟨r',k,k1,k2,k3⟩:=aJs hf hy f.length 0 r pG pG e2;have e':rO (JS l) ((l.length:Int)+(f.length:Int),(0:Int))=some r:=e;have k':rO (JT f) (r,(0:Int))=some r':=k;refine⟨r',?_,pG,k2,fun hr=>⟨⟨pG,fun x hxm=> ?_⟩,⟨pG,fun x hxm=> ?_⟩⟩⟩
  · unfold zR
    rw[aVs (by unfold qD;omega),e'];unfold sQ;rw[aVq,k',aVq]
  · have:=e3 pG x (by rw[aWH];exact hxm)
    omega
  · have:=k3 pG x (by rw[aWH];exact hxm)
    omega
structure aAE (x:uC):Prop where
  id:x.1.length≤vR
  src:x.2.1.length≤vR
  tgt:x.2.2.1.length≤vR
  com:x.2.2.2.1.length≤vR∧∀y∈x.2.2.2.1,y.length≤vR
  flg:x.2.2.2.2.1.length≤vR∧∀y∈x.2.2.2.2.1,y.length≤vR
  fld:x.2.2.2.2.2.2.1.length≤vR∧∀y∈x.2.2.2.2.2.2.1,y.1.length≤vR∧y.2.1.length≤vR
structure IJ (x:uC):Prop where
  id:x.1.length≤6000
  src:x.2.1.length≤6000
  tgt:x.2.2.1.length≤6000
  com:FD x.2.2.2.1
  flg:FD x.2.2.2.2.1
  fld:KJ x.2.2.2.2.2.2.1
theorem aQE (x:uC) (h:aAE x): ∃b:Bool,PB x=some ()∧
    ((decide ((((List.length x.1:Int)+(List.length x.2.1:Int))+(List.length x.2.2.1:Int))≤(6000:Int)))&&(decide (((val (zR x.2.2.2.1 x.2.2.2.2.2.2.1))+(val (zR x.2.2.2.2.1 ([]:List r6))))≤(6000:Int))))=b∧(b=true→IJ x):=by
  obtain⟨r,e,e1,e2,e3⟩:=Z5 h.com.1 h.com.2 h.fld.1 h.fld.2;obtain⟨r',k,k1,k2,k3⟩:=Z5 (f:=[]) h.flg.1 h.flg.2 (by unfold vR;simp) (fun x hx=>by cases hx);have a1:=h.id;have a2:=h.src;have a3:=h.tgt;unfold vR at a1 a2 a3;refine⟨_,?_,rfl,fun hb=> ?_⟩
  · unfold PB
    rw[e,k,aVs (by unfold qD;omega),aVs (by unfold qD;omega),aVs xK,aVs xK,aVs (fun _=>by show qD (r+r');unfold qD;omega)]
  · rw[e,k] at hb
    simp only[aVG,aVE] at hb;obtain⟨h1,h2⟩:=hb;have h2:r+r'≤6000:=h2;obtain⟨p,q⟩:=e3 pG;obtain⟨p',_⟩:=k3 pG;exact⟨pG,pG,pG,p,p',q⟩
structure U9 (c:C4):Prop where
  tag:c.1.length≤vR
  com:c.2.1.length≤vR∧∀y∈c.2.1,y.length≤vR
  fld:c.2.2.1.length≤vR∧∀y∈c.2.2.1,y.1.length≤vR∧y.2.1.length≤vR
  ent: ∀x∈c.2.2.2.1,aAE x
structure IK (c:C4):Prop where
  tag:c.1.length≤100
  com:FD c.2.1
  fld:KJ c.2.2.1
  len:c.2.2.2.1.length≤1000
  ent: ∀x∈c.2.2.2.1,IJ x
theorem aJt {c:C4}(hc:U9 c) (hl:c.2.2.2.1.length≤12): ∀(n i:Nat),i+n=c.2.2.2.1.length→
    ∃r,rO (MN c) (i:Int)=some r∧(r= .inr false∨(r= .inl ()∧∀x∈c.2.2.2.1.drop i,IJ x))
  | 0,i,hi=>by
    have:i=c.2.2.2.1.length:=by omega
    subst this;refine⟨.inl (),uL ?_,.inr ⟨rfl,fun x hx=>by rw[aWl] at hx;cases hx⟩⟩;unfold MN;rw[aVv (vJ _)]
  | n+1,i,hi=>by
    have h:i<c.2.2.2.1.length:=by omega
    obtain⟨b,e1,e2,e3⟩:=aQE _ (hc.ent _ (aWq h))
    have hst:MN c (i:Int)=if (!b)=true then some (.inr (.inr false)) else some (.inl ((i+1:Nat):Int)):=by
      unfold MN;rw[aVs (uS h),aVs (sY h),zX (t:=s7) h,e1,aVq,e2,aVs (vF pG)];rfl
    cases b with
    |false=>exact⟨_,uL hst,.inl rfl⟩
    | true=>
      obtain⟨r,k,k2⟩:=aJt hc hl n (i+1) pG;refine⟨r,by rw[vP hst,k],k2.imp id fun⟨a,b⟩=>⟨a,fun x hx=> ?_⟩⟩;rw[aV8 h] at hx;rcases aVH.1 hx with rfl|hx
      .exact e3 rfl
      .exact b x hx
theorem aQF {c:C4}(hc:U9 c): ∃b,I8 c=some b∧(b=true→IK c):=by
  obtain⟨r,e,e1,e2,e3⟩:=Z5 hc.com.1 hc.com.2 hc.fld.1 hc.fld.2;unfold I8;rw[e,aVs xK];by_cases hb:(((decide ((100:Int)<(List.length c.1:Int)))||(decide ((6000:Int)<(val (some r)))))||(decide ((12:Int)<(List.length c.2.2.2.1:Int))))=true
  · rw[aVs hb]
    exact⟨false,rfl,fun h=>by cases h⟩
  · rw[aVv hb]
    simp only[aWv,aVE] at hb;have hr: ¬(6000:Int)<r:=fun h=>hb (.inl (.inr h));obtain⟨p,q⟩:=e3 pG;obtain⟨r',k,k2⟩:=aJt hc pG c.2.2.2.1.length 0 pG;have k':rO (MN c) (0:Int)=some r':=k;rw[k'];rcases k2 with rfl|⟨rfl,k3⟩
    .exact⟨false,rfl,fun h=>by cases h⟩
    .exact⟨true,rfl,fun _=>⟨pG,p,q,pG,by rw[aWH] at k3;exact k3⟩⟩
theorem aJu {σ ρ α:Type}{f:σ→Option (σ⊕ρ)}(st:Int→List α→σ) (out:List α→ρ) {n M B:Nat}(g:Nat→List α) (hg: ∀i,i<n→(g i).length≤B)
    (hf: ∀(i:Nat) s,i<n→s.length+B≤M→f (st i s)=some (.inl (st ((i:Int)+1) (s++g i)))) (he: ∀s,f (st n s)=some (.inr (out s))):
    ∀(k i:Nat) (s:List α),i+k=n→s.length+k*B≤M→rO f (st i s)=some (out (s++(List.range' i k).flatMap g))
  | 0,i,s,hi,_=>by
    have:i=n:=by omega
    subst this;rw[uL (he s)];simp
  | k+1,i,s,hi,hM=>by
    rw[aWz] at hM;have hgi:=hg i pG;rw[vP (hf i s pG pG),show ((i:Int)+1)=((i+1:Nat):Int) by omega,aJu st out g hg hf he k (i+1) (s++g i) pG (by rw[aVu];omega),aXB,aWj,aVy]
theorem Z6 {σ ρ α:Type}{f:σ→Option (σ⊕ρ)}(st:Int→List α→σ) (out:List α→ρ) {n M B:Nat}(g:Nat→List α) (hg: ∀i,i<n→(g i).length≤B) (s:List α) (hM:s.length+n*B≤M)
    (hf: ∀(i:Nat) s,i<n→s.length+B≤M→f (st i s)=some (.inl (st ((i:Int)+1) (s++g i)))) (he: ∀s,f (st n s)=some (.inr (out s))):
    rO f (st 0 s)=some (out (s++(List.range' 0 n).flatMap g)):=aJu st out g hg hf he n 0 s pG hM
theorem Z7 {α β:Type}{l:List α}{d:α}(h:α→List β):(List.range' 0 l.length).flatMap (fun i=>h (l.getD i d))=l.flatMap h:=by
  have e:(List.range' 0 l.length).map (fun i=>l.getD i d)=l:=by
    apply List.ext_getElem
    .simp
    · intro i h1 h2
      simp [aVY,h2]
  conv=>rhs;rw[←e]
  rw[List.flatMap_map]
theorem N4 {α β:Type}{l:List α}{h:α→List β}{B:Nat}(hb: ∀x∈l,(h x).length≤B):(l.flatMap h).length≤l.length*B:=by
  induction l with
  |nil=>simp
  | cons x l ih=>
    rw[aWj,aVu,aVw,aWz];have h1:=hb x aVz;have h2:=ih fun y hy=>hb y (aVB _ hy);omega
theorem aQG {s:pD}{i:Nat}:sF s (i:Int)=((s.getD i 0).toNat:Int):=by unfold sF;rw[aWh]
theorem aQH {l:pQ}{g:Nat→pD}:l.flatMap (fun i=>uY (g i))=uY (l.flatMap g):=by
  induction l with
  |nil=>rfl
  |cons x l ih=>rw[aWj,aWj,Z3,ih]
theorem Z8 (l:pD):(uY l).length=l.length:=by simp [uY]
def IL (h:pD) (l:pE) (t:pD):pD:=h++(l.flatten++t)
theorem aJv {f:(Int×pD)→pM→Option (pM⊕pD)}(hf: ∀it b,b.length+it.2.length≤140737488355328→f it b=some (.inl (b++uY it.2))): ∀(l:List (Int×pD)) (b:pM),
    b.length+((l.map (·.2)).flatten).length≤140737488355328→zP f l b=some (.inl (b++uY (l.map (·.2)).flatten))
  |[],b,_=>by simp [zP,uY]
  | it::l,b,h=>by
    simp only[aWy,aWt,aVu] at h;unfold zP;rw[hf it b pG,aVq];show zP f l _=_;rw[aJv hf l _ (by rw[aVu,Z8];omega)];simp only[aWy,aWt,Z3,aVy]
theorem aJw (d:G2):((CR d).map (·.2)).flatten=IL d.1 d.2.1 d.2.2.1:=by
  unfold CR IL
  have e:(List.range d.2.1.length).map (fun j=>d.2.1.getD j [])=d.2.1:=by
    apply List.ext_getElem
    .simp
    · intro i h1 h2
      simp [aVY,h2]
  have e2:(((List.range d.2.1.length).map fun j:Nat=>((j:Int)+1,d.2.1.getD j [])).map (·.2))=d.2.1:=by
    rw[List.map_map];exact e
  simp only[aWy,List.map_append,List.map_nil,aWt,List.flatten_append,List.flatten_nil,List.append_nil,e2,aVy]
theorem aJx (d:G2) (hl:d.2.1.length≤900000) (hb:(IL d.1 d.2.1 d.2.2.1).length≤140737488355328):MH d=some (IL d.1 d.2.1 d.2.2.1):=by
  have h:=aJv (f:=YH) (fun it b h=>by
    unfold YH DO;rw[aVs h,aVq]) (CR d) [] (by rw[aJw];simpa using hb)
  unfold MH;rw[aVs pG,h,aJw];unfold tY;dsimp only;rw[aVq];simp only[List.nil_append,aAv]
theorem UA {l:pD}{n:Nat}(h:l.length≤n) (hn:n≤9223372036854775807):(l.length:Int)≤9223372036854775807:=by omega
theorem aAF {l:pE}(h:FD l) {i:Nat}(hi:i<l.length):(l.getD i []).length≤6000:=h.2 _ (N0 hi)
theorem Z9 {l:List sA}(h:KJ l) {i:Nat}(hi:i<l.length):(l.getD i fD).1.length≤6000∧(l.getD i fD).2.1.length≤6000:=h.2 _ (N0 hi)
theorem aQI {n:Int}(h0:0≤n) (h1:n≤4):(qQ .str IG n).length≤10:=by
  have:n=0∨n=1∨n=2∨n=3∨n=4:=by omega
  rcases this with rfl|rfl|rfl|rfl|rfl<;>decide
theorem aQJ {α β:Type}{f:α→β}{l:List α}:l.flatMap (fun x=>[f x])=l.map f:=by
  induction l with
  |nil=>rfl
  |cons x l ih=>rw[aWj,ih];rfl
theorem aAG {c:C4}(hok:x6 c=true) {i:Nat}(hi:i<c.2.2.2.1.length):y9 (c.2.2.2.1.getD i eD)=true:=by
  unfold x6 at hok;simp only[aVG,aVV,aV9,aWN] at hok;have:=hok.2.2 i hi;unfold FC at this;simp only[aWv,aVV,not_or,Bool.not_eq_false] at this;exact this.2
theorem aJy {x:uC}(h:y9 x=true):0≤x.2.2.2.2.2.1∧x.2.2.2.2.2.1≤4:=by
  unfold y9 at h;simp only[aVG,aVE] at h;exact h.1.2
theorem aAH {l:pD}(h: ∀b∈l,b.toNat<128):Lib.validD l=true:=by
  rw[Lib.validD_ascii l.length l (fun b hb=>h b (List.mem_of_mem_take hb)),aWl];rfl
theorem aJz {b:UInt8}(h:y8 b.toNat=false):b.toNat<128:=by
  unfold y8 at h;simp only[aXh,aWM,aVG,aVE] at h;omega
theorem aAI {x:pD}(h:uR x=true):sZ x=true:=by
  cases x with
  |nil=>cases h
  | cons b t=>
    unfold uR at h;simp only[aVG,aVV,aV9,aWE,aWb] at h;obtain⟨⟨h0,h1⟩,h2⟩:=h;unfold sZ;rw[aVG,aVE];refine⟨by simp only[aVw];omega,aAH fun c hc=> ?_⟩;rcases aVH.1 hc with rfl|hc
    · unfold yO at h1
      simp only[aVG,aVE] at h1;omega
    .exact aJz (h2 c hc)
theorem KK {l:pE}(h:vW l=true):l.length≤20∧∀x∈l,sZ x=true:=by
  unfold vW at h;simp only[aVG,aVV,aV9,aVE,aWE,aWM] at h;exact⟨pG,fun x hx=>by simpa using h.2 x hx⟩
theorem aAJ {α:Type}{r:α→α→Prop}(tr: ∀a b c,r a b→r b c→r a c) {l:List α}(h: ∀(i:Nat) (hi:i+1<l.length),r l[i] l[i+1]):l.Pairwise r:=by
  rw[aWG];intro i j hi hj hij;obtain⟨k,rfl⟩: ∃k,j=i+1+k:=⟨j-i-1,pG⟩
  induction k with
  |zero=>exact h i hj
  |succ k ih=>exact tr _ _ _ (ih pG pG) (h (i+1+k) hj)
theorem D6 {α:Type}{l:List α}{i:Nat}{d:α}(h:i<l.length):l.getD i d=l[i]:=by
  rw[aVY,aVF h];rfl
theorem UB {l:pE}(h:DY l=true):l.length≤20∧(∀x∈l,uR x=true)∧l.Pairwise (· < ·):=by
  unfold DY at h;simp only[aVG,aVV,aV9,aVE,aWN,aWE] at h;obtain⟨h1,h2⟩:=h;unfold U4 at h1;simp only[aWf,aXh,aWM,aWb] at h1;refine⟨pG,fun x hx=> ?_,aAJ (r:=fun a b:pD=>a<b) (fun a b c=>List.lt_trans) fun i hi=> ?_⟩
  · obtain⟨i,hi,rfl⟩:=aW3 hx
    have:=(h1 i hi).1;rwa [D6 hi] at this
  · have:=(h1 (i+1) hi).2
    rw[D6 hi,Nat.add_sub_cancel,D6 (show i<l.length by omega),II] at this;exact aV4 (this.resolve_left pG)
theorem GR {l:List sA}(h:vQ l=true):l.length≤20∧(∀x∈l,uR x.1=true∧sZ x.1=true∧sZ x.2.1=true)∧l.Pairwise (fun a b=>a.1<b.1):=by
  unfold vQ at h;simp only[aVG,aVV,aV9,aVE,aWN,aWE] at h;obtain⟨h1,h2⟩:=h;unfold U5 at h1;simp only[aWf,aXh,aWM,aWb] at h1;refine⟨pG,fun x hx=> ?_,aAJ (r:=fun a b:sA=>a.1<b.1) (fun a b c=>List.lt_trans) fun i hi=> ?_⟩
  · obtain⟨i,hi,rfl⟩:=aW3 hx
    have:=(h1 i hi).1;rw[D6 hi] at this;exact⟨this.1,aAI this.1,this.2⟩
  · have:=(h1 (i+1) hi).2
    rw[D6 hi,Nat.add_sub_cancel,D6 (show i<l.length by omega),II] at this;exact aV4 (this.resolve_left pG)
theorem aQK {es:List uC}(h: ∀i,i<es.length→FC es i=false):es.Pairwise (fun a b=>a.1≠b.1):=by
  rw[aWG];intro i j hi hj hij he;have h1:=h j hj;unfold FC at h1;simp only[aWf,aV9,aVE] at h1;rw[D6 hj] at h1;exact h1.1 es[i] (by rw[aXm];exact⟨i,pG,rfl⟩) he
theorem Q1 {c:C4}(h:x6 c=true):wI c.1=true∧vW c.2.1=true∧vQ c.2.2.1=true∧c.2.2.2.1.length≤1000∧(∀x∈c.2.2.2.1,y9 x=true)∧c.2.2.2.1.Pairwise (fun a b=>a.1≠b.1):=by
  have h':=h;unfold x6 at h';simp only[aVG,aVV,aV9,aWN,aVE,aWE] at h';obtain⟨⟨⟨h1,h2⟩,h3⟩,h4,h5⟩:=h';refine⟨h1,h2,h3,pG,fun x hx=> ?_,aQK h5⟩;obtain⟨i,hi,rfl⟩:=aW3 hx;have:=aAG h hi;rwa [D6 hi] at this
theorem aJA {a b:pD}(h: ¬a<b) (hne:a≠b):b<a:=by
  have:=aAq a b;rw[II,II] at this;have h1:decide (a<b)=false:=by simpa using h
  have h2:decide (b=a)=false:=by simpa using fun e=>hne e.symm
  rw[h1,h2] at this;simpa using this.symm
theorem aJB {α:Type}(f:α→pD) {x:α}{p:α→Bool}: ∀{l:List α},l.Pairwise (fun a b=>f a<f b)→(∀y∈l,f y≠f x)→(∀y∈l,p y= !decide (f y<f x))→
    (l.take ((l.findIdx? p).getD l.length)++[x]++l.drop ((l.findIdx? p).getD l.length)).Pairwise (fun a b=>f a<f b)
  |[],_,_,_=>by simp
  | a::t,hp,hne,hpp=>by
    rw[aXs] at hp;have hpa:=hpp a aVz;rw[aXc];by_cases h:f a<f x
    · have hpf:p a=false:=by rw[hpa];simpa using h
      rw[hpf];have ih:=aJB f (x:=x) hp.2 (fun y hy=>hne y (aVB _ hy)) (fun y hy=>hpp y (aVB _ hy))
      have e:((if false=true then some 0 else(t.findIdx? p).map fun i=>i+1).getD (a::t).length)=(t.findIdx? p).getD t.length+1:=by
        cases t.findIdx? p<;>rfl
      rw[e,List.take_succ_cons,aXq,List.cons_append,List.cons_append,aXs];refine⟨fun y hy=> ?_,ih⟩;rw[aVy] at hy;rcases aWd.1 hy with hy|hy
      .exact hp.1 y (List.mem_of_mem_take hy)
      · rcases aVH.1 hy with rfl|hy
        .exact h
        .exact hp.1 y (List.mem_of_mem_drop hy)
    · have hpt:p a=true:=by rw[hpa];simpa using h
      rw[hpt];have hx:f x<f a:=aJA h (hne a aVz);show ([]++[x]++(a::t)).Pairwise _;rw[List.nil_append,List.singleton_append,aXs];refine⟨fun y hy=> ?_,aXs.2 hp⟩;rcases aVH.1 hy with rfl|hy
      .exact hx
      .exact List.lt_trans hx (hp.1 y hy)
theorem aQL {α:Type}{l:List α}{x y:α}{k:Nat}(h:y∈l.take k++[x]++l.drop k):y=x∨y∈l:=by
  rw[aVy] at h;rcases aWd.1 h with h|h
  .exact .inr (List.mem_of_mem_take h)
  · rcases aVH.1 h with h|h
    .exact .inl h
    .exact .inr (List.mem_of_mem_drop h)
theorem aQM {α:Type}{l:List α}{x:α}{k:Nat}:(l.take k++[x]++l.drop k).length=l.length+1:=by
  simp only[aVu,aVQ,aVO,aWR];omega
theorem aQN {l:pE}(h:l.length≤20) (hx: ∀x∈l,sZ x=true):vW l=true:=by
  unfold vW;simp only[aVG,aVV,aV9,aVE,aWM,aWE];exact⟨pG,fun x hxl=>by simpa using hx x hxl⟩
theorem aJC {α:Type}{r:α→α→Prop}{l:List α}(h:l.Pairwise r) {i:Nat}(h0:0<i) (hi:i<l.length):r l[i-1] l[i]:=by
  rw[aWG] at h;exact h (i-1) i pG hi pG
theorem aQO {l:pE}(h:l.length≤20) (hx: ∀x∈l,uR x=true) (hp:l.Pairwise (· < ·)):DY l=true:=by
  unfold DY;simp only[aVG,aVV,aV9,aVE,aWN,aWE];refine⟨fun i hi=> ?_,pG⟩;unfold U4;rw[D6 hi,hx _ (aWq hi)];by_cases h0:0<i
  · rw[D6 (show i-1<l.length by omega),II]
    simp [aJC hp h0 hi]
  .simp [h0]
theorem aQP {l:List sA}(h:l.length≤20) (hx: ∀x∈l,uR x.1=true∧sZ x.2.1=true) (hp:l.Pairwise (fun a b=>a.1<b.1)):vQ l=true:=by
  unfold vQ;simp only[aVG,aVV,aV9,aVE,aWN,aWE];refine⟨fun i hi=> ?_,pG⟩;unfold U5;obtain⟨a,b⟩:=hx _ (aWq hi);rw[D6 hi,a,b];by_cases h0:0<i
  · rw[D6 (show i-1<l.length by omega),II]
    simp [aJC hp h0 hi]
  .simp [h0]
theorem aQQ {l:pE}{x:pD}(h:vW l=true) (hl: ¬20≤l.length) (hx:sZ x=true):vW (l++[x])=true:=by
  obtain⟨h1,h2⟩:=KK h;refine aQN (by rw[aVu,aWR];omega) fun y hy=> ?_;rcases aWd.1 hy with hy|hy
  .exact h2 y hy
  .rw[aVJ.1 hy];exact hx
theorem aQR {l:List sA}{n v:pD}(h:vQ l=true) (hl: ¬20≤l.length) (hx:uR n=true) (hv:sZ v=true) (hn: ¬(l.any fun y=>decide (y.1=n))=true):vQ (GQ l n v)=true:=by
  obtain⟨h1,h2,h3⟩:=GR h;have hne: ∀y∈l,y.1≠n:=fun y hy e=>hn (List.any_eq_true.2 ⟨y,hy,by simp [e]⟩)
  have hk:BK l n=none:=by
    unfold BK;rw[aWO];intro y hy;simpa using hne y hy
  unfold GQ;rw[hk];show vQ (l.take (GP l n)++[(n,v,())]++l.drop (GP l n))=true;unfold GP;refine aQP (by rw[aQM];omega) (fun y hy=> ?_) (aJB (fun y:sA=>y.1) (x:=(n,v,())) h3 hne fun y hy=> ?_)
  · rcases aQL hy with rfl|hy
    .exact⟨hx,hv⟩
    .exact⟨(h2 y hy).1,(h2 y hy).2.2⟩
  · rw[II]
    have:decide (y.1=n)=false:=by simpa using hne y hy
    rw[this,Bool.or_false]
structure FE (es:List uC):Prop where
  len:es.length≤1000
  ok: ∀x∈es,y9 x=true
  pw:es.Pairwise (fun a b=>a.1≠b.1)
section
variable {s:pD}(hsm:s.length≤4000000000) {bad:Int}{ends:pM}{tag:pD}{cms:pE}{fds:List sA}{es:List uC}
include hsm
omit hsm in
theorem aJD {c:C4}(h1:wI c.1=true) (h2:vW c.2.1=true) (h3:vQ c.2.2.1=true) (h4:FE c.2.2.2.1):x6 c=true:=by
  unfold x6;rw[h1,h2,h3,aVS (show ((c.2.2.2.1.length:Int))≤1000 by have:=h4.len;omega)];simp only[Bool.true_and,aVV,aV9,aWN,aWE];intro i hi;unfold FC;rw[D6 hi,h4.ok _ (aWq hi)];simp only[Bool.not_true,Bool.or_false,aV9,aVE];intro y hy;rw[aXm] at hy;obtain⟨j,hj,rfl⟩:=hy;exact aWG.1 h4.pw j i pG hi pG
end
theorem AD {x:pD}(h:sZ x=true):x.length≤4000:=by
  unfold sZ at h;simp only[aVG,aVE] at h;omega
structure aAK (x:uC):Prop where
  id:x.1.length≤4000
  src:x.2.1.length≤4000
  tgt:x.2.2.1.length≤4000
  com:x.2.2.2.1.length≤20∧∀y∈x.2.2.2.1,y.length≤4000
  flg:x.2.2.2.2.1.length≤20∧∀y∈x.2.2.2.2.1,y.length≤4000
  fld:x.2.2.2.2.2.2.1.length≤20∧∀y∈x.2.2.2.2.2.2.1,y.1.length≤4000∧y.2.1.length≤4000
theorem aJE {x:uC}(h:y9 x=true):aAK x:=by
  have h':=h;unfold y9 at h';simp only[aVG] at h';obtain⟨⟨⟨⟨⟨⟨⟨⟨hne,h200⟩,hid⟩,hsrc⟩,htgt⟩,hcom⟩,hflg⟩,_⟩,hfld⟩:=h';obtain⟨c1,c2⟩:=KK hcom;obtain⟨f1,f2,f3⟩:=UB hflg;obtain⟨g1,g2,g3⟩:=GR hfld;exact⟨AD hid,AD hsrc,AD htgt,⟨c1,fun y hy=>AD (c2 y hy)⟩,⟨f1,fun y hy=>AD (aAI (f2 y hy))⟩,⟨g1,fun y hy=>⟨AD (g2 y hy).2.1,AD (g2 y hy).2.2⟩⟩⟩
theorem aAL {l:pE}(h:l.length≤20∧∀y∈l,y.length≤4000):FD l:=⟨pG,fun y hy=>by have:=h.2 y hy;omega⟩
theorem aJF {l:List sA}(h:l.length≤20∧∀y∈l,y.1.length≤4000∧y.2.1.length≤4000):KJ l:=⟨pG,fun y hy=>by have:=h.2 y hy;omega⟩
theorem aAK.few {x:uC}(h:aAK x):IJ x:=⟨by have:=h.id;omega,by have:=h.src;omega,by have:=h.tgt;omega,aAL h.com,aAL h.flg,aJF h.fld⟩
theorem aQS {c:C4}(h:x6 c=true):IK c:=by
  obtain⟨h1,h2,h3,h4,h5,_⟩:=Q1 h;obtain⟨c1,c2⟩:=KK h2;obtain⟨g1,g2,g3⟩:=GR h3;refine⟨?_,aAL ⟨c1,fun y hy=>AD (c2 y hy)⟩,aJF ⟨g1,fun y hy=>⟨AD (g2 y hy).2.1,AD (g2 y hy).2.2⟩⟩,h4,fun x hx=>(aJE (h5 x hx)).few⟩;unfold wI at h1;simp only[aVG,aVE] at h1;omega
theorem aJG {c:C4}(h:x6 c=true):DU c c=some ()∧((((decide (c.1=c.1))&&(val (x4 c.2.1 c.2.1)))&&(val (zJ c.2.2.1 c.2.2.1)))&&(val (BY c.2.2.2.1 c.2.2.2.1)))=true:=by
  obtain⟨h1,h2,h3,h4,h5,_⟩:=Q1 h;have f2:rW c.2.1:=by have:=(KK h2).1;unfold rW;omega
  have f3:rW c.2.2.1:=by have:=(GR h3).1;unfold rW;omega
  have f4:rW c.2.2.2.1:=by unfold rW;omega
  have f5: ∀y∈c.2.2.2.1,aAx y:=fun y hy=>by
    have hs:=aJE (h5 y hy);exact⟨by have:=hs.com.1;unfold rW;omega,by have:=hs.flg.1;unfold rW;omega,by have:=hs.fld.1;unfold rW;omega⟩
  constructor
  · unfold DU PC
    rw[N3 _ f2,U7 _ f3,aAC _ f4 f5];rw[aVs DZ,aVs DZ,aVq,aVs DZ]
  · rw[N3 _ f2,U7 _ f3,aAC _ f4 f5]
    simp [val]
theorem aQT:DU (([]:pD),(([]:pE),(([]:List r6),(([]:List s0),())))) (([]:pD),(([]:pE),(([]:List r6),(([]:List s0),()))))=some ():=by
  unfold DU PC;dsimp only;rw[N3 _ aAA,U7 _ aAA,aAC _ aAA (fun _ h=>by cases h)];rw[aVs DZ,aVs DZ,aVq,aVs DZ]
noncomputable section
def uT (b:Nat):pD:=(K5 (b:Int)).getD []
theorem aQU:((List.range 256).all fun b=>decide (K5 (b:Int)=some (uT b))&&([true,false].all fun f=>decide (a6R 4 (b:Int) f=some (uT b)))&&decide ((uT b).length≤6))=true:=by kernel_rfl
theorem aAM (b:UInt8) (f:Bool):K5 (b.toNat:Int)=some (uT b.toNat)∧a6R 4 (b.toNat:Int) f=some (uT b.toNat)∧(uT b.toNat).length≤6:=by
  have h:=aWa.1 aQU b.toNat (aWN.2 (UInt8.toNat_lt b));simp only[aVG,aVE] at h;have h2:=aWa.1 h.1.2 f (by cases f<;>simp)
  exact⟨h.1.1,aV4 h2,h.2⟩
def v6 (s:pD):pD:=s.flatMap fun b=>uT b.toNat
theorem Q2 (s:pD):(v6 s).length≤6*s.length:=by
  have:=N4 (l:=s) (h:=fun b:UInt8=>uT b.toNat) (B:=6) fun b _=>(aAM b true).2.2;unfold v6;omega
theorem aQV {s:pD}(hs:rW s):MO (4:Int) s=some (v6 s):=by
  unfold rW at hs
  have h:=Z6 (f:=TJ (4:Int) s) (fun i b=>(i,b)) (fun b=>b) (n:=s.length) (M:=10000000000000) (B:=6) (fun i=>uY (uT (s.getD i 0).toNat)) (fun i _=>by rw[Z8];exact(aAM _ true).2.2) [] pJ (fun i b hi hM=>by
    obtain⟨e1,_,e3⟩:=aAM (s.getD i 0) true;unfold TJ;dsimp only;rw[aVs (uS hi),aVs pH,aVs (sY hi),aQG,e1,aVq];unfold DO;rw[aVs (by dsimp only;omega),aVq,aVs (vF pG)]) (fun b=>by
    unfold TJ;dsimp only;rw[aVv (vJ _)])
  unfold MO;rw[aVv pI,h,aQH,Z7 (l:=s) (d:=0) fun b:UInt8=>uT b.toNat];unfold sQ;rw[aVq,List.nil_append,aAv];rfl
def xL (s p:pD):pD×Bool:=if s.take p.length=p then(s.drop p.length,true) else(s,false)
theorem aQW {s p:pD}:((decide ((List.length p:Int)≤(List.length s:Int)))&&decide (sO s (0:Int) (List.length p:Int)=p))=decide (s.take p.length=p):=by
  rw[YX];by_cases h:s.take p.length=p
  · have:=aVL List.length h
    rw[aVQ] at this;simp [h];omega
  .simp [h]
theorem ZA (s p:pD):F3 s p=some (xL s p):=by
  unfold F3 MB internal_stringslite_HasPrefix;rw[aVs (fun h=>⟨aWu _,pG,by simpa using h⟩),aVq,aQW];unfold xL;by_cases h:s.take p.length=p
  · have:=aVL List.length h
    rw[aVQ] at this;rw[aVv (by simp [h]),aVs ⟨pG,pG,aWu _⟩,aVs h,PX];rfl
  .rw[aVs (by simp [h]),aVv h];rfl
theorem aQX (s:pD) (base:Int) (hs:rW s): ∃n b,GE s base=some (n,b):=by
  unfold rW at hs
  have loop: ∀(k i:Nat) (n:Int),i+k=s.length→∃r,rO (JY s base) (n,(i:Int))=some r:=by
    intro k
    induction k with
    | zero=>
      intro i n hi;obtain rfl:i=s.length:=by omega
      refine⟨Sum.inl n,uL (r:=Sum.inl n) ?_⟩
      · unfold JY
        dsimp only;rw[aVv (vJ _)]
    | succ k ih=>
      intro i n hi;have h:i<s.length:=by omega
      obtain⟨r2,e2⟩: ∃d:Int,(sQ (σ:=Int) (
       if ((decide ((65:Int)≤(sF s i)))&&(decide ((sF s i)≤(70:Int))))=true then
        if 0≤(i:Int)∧(i:Int)<(List.length s:Int) then
         some ((IntKind.wrap .i64 ((IntKind.wrap .i64 (IntKind.wrap .u8 ((sF s i)- (65:Int))))+(10:Int))))
        else none
       else
        some ((vE ([48,49,50,51,52,53,54,55,56,57,97,98,99,100,101,102]:pD) (sF s i)))
      ) fun d=>some d)=some d:=by
        unfold sQ;split
        .rw[aVs (sY h)];exact⟨_,rfl⟩
        .exact⟨_,rfl⟩
      have hw:IntKind.wrap .i64 ((i:Int)+1)=((i+1:Nat):Int):=by
        rw[IntWalk.i64_in _ pG];rfl
      have hst:(∃r,JY s base (n,(i:Int))=some (.inr r))∨∃m,JY s base (n,(i:Int))=some (.inl (m,((i+1:Nat):Int))):=by
        unfold JY;dsimp only;rw[aVs (uS h),aVs (sY h),aVs (sY h),aVs (fun _=>sY h),hw];unfold sQ at e2|-;generalize (if ((decide ((65:Int)≤(sF s i)))&&(decide ((sF s i)≤(70:Int))))=true then
        if 0≤(i:Int)∧(i:Int)<(List.length s:Int) then
         some ((IntKind.wrap .i64 ((IntKind.wrap .i64 (IntKind.wrap .u8 ((sF s i)- (65:Int))))+(10:Int))))
        else none
       else
        some ((vE ([48,49,50,51,52,53,54,55,56,57,97,98,99,100,101,102]:pD) (sF s i))))=o at e2|-
        cases o with
        |none=>cases e2
        | some d=>
          rw[aVq];split
          .exact .inl ⟨_,rfl⟩
          .exact .inr ⟨_,rfl⟩
      rcases hst with⟨r,hr⟩ |⟨m,hm⟩
      .exact⟨_,uL hr⟩
      · rw[vP hm]
        exact ih (i+1) m pG
  obtain⟨r,hr⟩:=loop s.length 0 0 pG;have hr':rO (JY s base) ((0:Int),(0:Int))=some r:=hr;unfold GE;rw[hr'];cases r with
  |inl n=>exact⟨_,_,rfl⟩
  |inr x=>obtain⟨n,b⟩:=x;exact⟨n,b,rfl⟩
def rE (l:pD):pD×Int:=(F7 l).getD ([],0)
theorem Q3 (l:pD) (b:UInt8):Lib.indexByte l b<l.length∧ -1≤Lib.indexByte l b:=XW l b
theorem aQY (n:Int):(if AX n=true then Lib.encodeRune n else Lib.encodeRune 65533).length≤4:=by
  split<;>exact aJf _
theorem aJH {l t:pD}(h38:l=38::t) (hf:rW l):F7 l=some (rE l)∧(rE l).1.length≤4∧((rE l).2=0∨((rE l).2=Lib.indexByte l 59+1∧1≤Lib.indexByte l 59)):=by
  have hix:vE l 59=Lib.indexByte l 59:=rfl;have hr:=Q3 l 59
  have h1:Lib.indexByte l 59<0∨1≤Lib.indexByte l 59:=by
    rw[h38] at hr|-;unfold Lib.indexByte at hr|-;rw[aVv pH] at hr|-;split
    .left;decide
    · have:=Q3 t 59
      rename_i h;have h':Lib.indexByte t 59≠ -1:=by simpa using h
      omega
  suffices h: ∃x k,F7 l=some (x,k)∧x.length≤4∧(k=0∨(k=Lib.indexByte l 59+1∧1≤Lib.indexByte l 59)) by
    obtain⟨x,k,e,h2,h3⟩:=h;have:rE l=(x,k):=by unfold rE;rw[e];rfl
    rw[this];exact⟨e,h2,h3⟩
  unfold rW at hf;unfold F7;rw[hix];by_cases hk:Lib.indexByte l 59<0
  · rw[aVs (aVS hk)]
    exact⟨[],0,rfl,by simp,.inl rfl⟩
  · have hk1:1≤Lib.indexByte l 59:=by omega
    have hi:qD (Lib.indexByte l 59+1):=by unfold qD;omega
    rw[aVv (by simpa using hk),aVs ⟨pH,hk1,pG⟩,aVs hi,aVs hi,aVs hi,aVs hi,aVs hi]
    have hnl:(sO l 1 (Lib.indexByte l 59)).length≤l.length:=by
      unfold sO;rw[aVQ,aVO];omega
    generalize sO l 1 (Lib.indexByte l 59)=nm at hnl|-;split
    .exact⟨_,_,rfl,by simp,.inr ⟨rfl,hk1⟩⟩
    split
    .exact⟨_,_,rfl,by simp,.inr ⟨rfl,hk1⟩⟩
    split
    .exact⟨_,_,rfl,by simp,.inr ⟨rfl,hk1⟩⟩
    split
    .exact⟨_,_,rfl,by simp,.inr ⟨rfl,hk1⟩⟩
    split
    .exact⟨_,_,rfl,by simp,.inr ⟨rfl,hk1⟩⟩
    rw[ZA,aVq]
    have h2:(xL nm [35]).1.length≤l.length:=by
      unfold xL;split
      .rw[aVO];omega
      .exact hnl
    generalize xL nm [35]=c1 at h2|-;split
    .exact⟨[],0,rfl,by simp,.inl rfl⟩
    rw[ZA,aVq]
    have h3:(xL c1.1 [120]).1.length≤l.length:=by
      unfold xL;split
      .rw[aVO];omega
      .exact h2
    generalize xL c1.1 [120]=c2 at h3|-
    obtain⟨u,e,hu⟩: ∃u:pD×Int×Int,(if c2.2=true then some ((c2.1,(16:Int),(6:Int))) else some ((c1.1,(10:Int),(7:Int))))=some u∧u.1.length≤l.length:=by
      split
      .exact⟨_,rfl,h3⟩
      .exact⟨_,rfl,h2⟩
    unfold sQ;rw[e,aVq];obtain⟨u1,u2,u3⟩:=u;dsimp only at hu|-;obtain⟨n,b,ed⟩:=aQX u1 u2 (by unfold rW;omega);rw[ed,aVq];split
    .exact⟨[],0,rfl,by simp,.inl rfl⟩
    rw[aQc,aVq];split
    .exact⟨[],0,rfl,by simp,.inl rfl⟩
    .exact⟨_,_,rfl,aQY n,.inr ⟨rfl,hk1⟩⟩
def yP:Nat→pD→Option pD
  |0,_=>some []
  |_+1,[]=>some []
  |n+1,b::t=>if b=38 then(if (rE (b::t)).2=0 then none else(yP n ((b::t).drop (rE (b::t)).2.toNat)).map ((rE (b::t)).1++ ·)) else if b=60∨b=34 then none else(yP n t).map (b:: ·)
theorem aJI {s:pD}{i:Nat}(h:i≤s.length):sO s (i:Int) (s.length:Int)=s.drop i:=PX
theorem aJJ (b:UInt8):MC 4 (b.toNat:Int)=(decide (b=60)||decide (b=34)):=by
  unfold MC;rw[aVv pH];simp only[a2c];show (decide ((b.toNat:Int)=60)||decide ((b.toNat:Int)=34))=_
  rw[eqB (n:=60) 60 rfl,eqB (n:=34) 34 rfl]
theorem aAN {s:pD}(hs:rW s): ∀(k i:Nat) (x:pM),i≤s.length→s.length-i≤k→x.length+4*(s.length-i)≤5000000000000→
    ∃ r,rO (F8 4 s) ((i:Int),x)=some r∧(match yP k (s.drop i) with
      |some y=>r= .inl (x++uY y)
      |none=> ∃j,r= .inr ([],j,3))
  | k,i,x,hi,hk,hx=>by
    have hs':=hs;unfold rW at hs';by_cases he:i=s.length
    · subst he
      refine⟨.inl x,uL ?_,?_⟩
      · unfold F8
        dsimp only;rw[aVv (vJ _)]
      · rw[aWl]
        cases k<;>simp [yP,uY]
    · have h:i<s.length:=by omega
      cases k with
      |zero=>omega
      | succ k=>
        rw[aV8 h];have hb:sF s (i:Int)=(s[i].toNat:Int):=PU h;unfold yP;by_cases h38:s[i]=38
        · have hd:s.drop i=38::s.drop (i+1):=by rw[aV8 h,h38]
          obtain⟨e1,e2,e3⟩:=aJH (l:=s.drop i) hd (by unfold rW;rw[aVO];omega);rw[aVs h38,h38,←hd];have hr:=Q3 (s.drop i) 59;rw[aVO] at hr;by_cases h0:(rE (s.drop i)).2=0
          · rw[aVs h0]
            refine⟨.inr ([],(i:Int),3),uL ?_,⟨_,rfl⟩⟩;unfold F8;dsimp only;rw[aVs (uS h),aVs (sY h),hb,h38,aVs pH,aVs ⟨pG,pG,aWu _⟩,aJI pG,e1,aVq,aVs (aVS h0)]
          · rw[aVv h0]
            have hk2:(rE (s.drop i)).2=Lib.indexByte (s.drop i) 59+1∧1≤Lib.indexByte (s.drop i) 59:=by
              rcases e3 with e|e
              .exact absurd e h0
              .exact e
            have hst:F8 4 s ((i:Int),x)=some (.inl (((i+(rE (s.drop i)).2.toNat:Nat):Int),x++uY (rE (s.drop i)).1)):=by
              unfold F8;dsimp only;rw[aVs (uS h),aVs (sY h),hb,h38,aVs pH,aVs ⟨pG,pG,aWu _⟩,aJI pG,e1,aVq,aVv (by simpa using h0),aQx pG pG,aVq,aVs (by unfold qD;omega)];rw[show (i:Int)+(rE (s.drop i)).2=((i+(rE (s.drop i)).2.toNat:Nat):Int) by omega]
            obtain⟨r,hr1,hr2⟩:=aAN hs k (i+(rE (s.drop i)).2.toNat) (x++uY (rE (s.drop i)).1) pG pG (by rw[aVu,Z8];omega);refine⟨r,by rw[vP hst];exact hr1,?_⟩;rw[aXa];cases hu:yP k (s.drop (i+(rE (s.drop i)).2.toNat)) with
            |none=>rw[hu] at hr2;exact hr2
            | some y=>
              rw[hu] at hr2;simp only[Option.map_some];rw[hr2,Z3,aVy]
        · rw[aVv h38]
          have h38': ¬decide ((s[i].toNat:Int)=38)=true:=by rw[eqB (n:=38) 38 rfl];simpa using h38
          by_cases hf:s[i]=60∨s[i]=34
          · rw[aVs hf]
            refine⟨.inr ([],(i:Int),3),uL ?_,⟨_,rfl⟩⟩;unfold F8;dsimp only;rw[aVs (uS h),aVs (sY h),hb,aVv h38',aVs (sY h),aJJ,aVs (by simpa using hf)]
          · rw[aVv hf]
            have hst:F8 4 s ((i:Int),x)=some (.inl (((i+1:Nat):Int),x++uY [s[i]])):=by
              unfold F8;dsimp only;rw[aVs (uS h),aVs (sY h),hb,aVv h38',aVs (sY h),aJJ,aVv (by simpa using hf),aVs (sY h),aQw pG,aVq,aVs (vF pG)];rfl
            obtain⟨r,hr1,hr2⟩:=aAN hs k (i+1) (x++uY [s[i]]) pG pG (by rw[aVu,Z8];simp only[aVw,aVD];omega);refine⟨r,by rw[vP hst];exact hr1,?_⟩;cases hu:yP k (s.drop (i+1)) with
            |none=>rw[hu] at hr2;exact hr2
            | some y=>
              rw[hu] at hr2;simp only[Option.map_some];rw[hr2,aVy,←Z3];rfl
def xV (s:pD):Option pD:=match yP s.length s with
  |some t=>if sZ t=true then some t else none
  |none=>none
theorem aJK {s:pD}(hs:rW s): ∃r,ID 4 s=some r∧(match yP s.length s with
      |some y=>r=(y,0,0)
      |none=>r.1=[]∧r.2.2=3):=by
  have hs':=hs;unfold rW at hs';obtain⟨r,hr1,hr2⟩:=aAN hs s.length 0 [] pG pG pJ;have hr1':rO (F8 4 s) ((0:Int),[])=some r:=hr1;rw[aWH] at hr2;unfold ID;rw[aVv pH,aVs pH,hr1'];cases hu:yP s.length s with
  | none=>
    rw[hu] at hr2;obtain⟨j,rfl⟩:=hr2;exact⟨_,rfl,rfl,rfl⟩
  | some y=>
    rw[hu] at hr2;dsimp only at hr2;subst hr2;refine⟨_,rfl,?_⟩;show (uA ([]++uY y),(0:Int),(0:Int))=(y,0,0);rw[List.nil_append,aAv]
theorem ZB: ∀(k:Nat) (l r:pD),rW l→yP k l=some r→r.length≤4*k
  |0,l,r,_,h=>by unfold yP at h;cases h;simp
  |k+1,[],r,_,h=>by unfold yP at h;cases h;simp
  | k+1,b::t,r,hf,h=>by
    have hf':rW t:=by unfold rW at hf|-;simp only[aVw] at hf;omega
    unfold yP at h;split at h
    · rename_i hb
      split at h
      .cases h
      · obtain⟨y,hy,rfl⟩:=aVA.1 h
        have h1:=(aJH (l:=b::t) (t:=t) (by rw[hb]) hf).2.1;have h2:=ZB k _ y (by unfold rW at hf|-;rw[aVO];omega) hy;rw[aVu];omega
    · split at h
      .cases h
      · obtain⟨y,hy,rfl⟩:=aVA.1 h
        have h2:=ZB k t y hf' hy;simp only[aVw];omega
theorem aJL {s:pD}(hs:s.length≤1000000000): ∃t,GL s=some (t,(xV s).isSome)∧(∀y,xV s=some y→t=y):=by
  have hf:rW s:=by unfold rW;omega
  obtain⟨r,hr,hm⟩:=aJK hf;unfold GL xV;rw[hr,aVq];cases hu:yP s.length s with
  | none=>
    rw[hu] at hm;have hne:decide (r.2.2=0)=false:=by rw[hm.2];rfl
    rw[hne,aVs (fun h=>by cases h)];exact⟨_,rfl,fun y h=>by cases h⟩
  | some y=>
    rw[hu] at hm;dsimp only at hm;subst hm;have hl:=ZB _ _ _ hf hu;have h1:=Q0 y (by unfold rW;omega);dsimp only;rw[aVs (fun _=>by rw[h1];rfl)];refine⟨y,?_,fun z hz=> ?_⟩
    · show some (y,(_&&sZ y))=_
      cases sZ y<;>rfl
    · split at hz
      .exact aVx hz
      .cases hz
theorem aJM {t:pD}{c:UInt8}: ∀{e:pD},0≤Lib.indexByte e c→Lib.indexByte (e++t) c=Lib.indexByte e c
  |[],h=>by simp [Lib.indexByte] at h
  | b::e,h=>by
    rw[List.cons_append];unfold Lib.indexByte at h|-;by_cases hb:(b==c)=true
    .rw[aVs hb,aVs hb]
    · rw[aVv hb] at h
      rw[aVv hb,aVv hb];by_cases h1:(Lib.indexByte e c== -1)=true
      .rw[aVs h1] at h;simp at h
      · have h2:Lib.indexByte e c≠ -1:=by simpa using h1
        have h3:=Q3 e c;have ih:=aJM (e:=e) (t:=t) (c:=c) pG;rw[ih]
theorem aQZ {e t:pD}(h:0≤Lib.indexByte e 59):rE (e++t)=rE e:=by
  have hix: ∀l,vE l 59=Lib.indexByte l 59:=fun _=>rfl;have hr:=Q3 e 59;unfold rE F7;rw[hix,hix,aJM h,aVu]
  have hc:sO (e++t) 1 (Lib.indexByte e 59)=sO e 1 (Lib.indexByte e 59):=by
    unfold sO;cases e with
    |nil=>simp [Lib.indexByte] at h
    | cons b e=>
      show (e++t).take _=e.take _;rw[aWk];simp only[aVw] at hr;show (Lib.indexByte (b::e) 59).toNat-1≤e.length;omega
  rw[hc];have hn: ¬decide (Lib.indexByte e 59<0)=true:=by simp;omega
  rw[aVv hn,aVv hn];by_cases h1:1≤Lib.indexByte e 59
  .rw[aVs (show 0≤(1:Int)∧(1:Int)≤Lib.indexByte e 59∧Lib.indexByte e 59≤((e.length+t.length:Nat):Int) from⟨pH,h1,pG⟩),aVs (show 0≤(1:Int)∧(1:Int)≤Lib.indexByte e 59∧Lib.indexByte e 59≤(e.length:Int) from⟨pH,h1,pG⟩)]
  .rw[aVv (fun hh=>h1 hh.2.1),aVv (fun hh=>h1 hh.2.1)]
theorem aQ0:((List.range 256).all fun b=>decide (uT b≠[])&&((decide ((uT b).head? =some 38)&&decide (0≤Lib.indexByte (uT b) 59)&&decide (rE (uT b)=([b.toUInt8],((uT b).length:Int))))||(decide (uT b=[b.toUInt8])&&decide (b≠38)&&decide (b≠60)&&decide (b≠34))))=true:=by kernel_rfl
theorem aQ1 (b:UInt8):(∃e,uT b.toNat=38::e∧0≤Lib.indexByte (uT b.toNat) 59∧rE (uT b.toNat)=([b],((uT b.toNat).length:Int)))∨(uT b.toNat=[b]∧b≠38∧b≠60∧b≠34):=by
  have h:=aWa.1 aQ0 b.toNat (aWN.2 (UInt8.toNat_lt b));have hb:b.toNat.toUInt8=b:=by simp
  rw[hb] at h;simp only[aVG,aWv,aVE] at h;rcases h.2 with⟨⟨h1,h2⟩,h3⟩ |⟨⟨⟨h1,h2⟩,h3⟩,h4⟩
  · left
    cases hq:uT b.toNat with
    |nil=>rw[hq] at h1;cases h1
    | cons c e=>
      rw[hq] at h1;have:c=38:=by simpa using h1
      subst this;exact⟨e,rfl,by rw[←hq];exact h2,by rw[←hq];exact h3⟩
  · right
    exact⟨h1,fun e=>h2 (by rw[e];rfl),fun e=>h3 (by rw[e];rfl),fun e=>h4 (by rw[e];rfl)⟩
theorem aAO: ∀(s:pD) (k:Nat),(v6 s).length≤k→yP k (v6 s)=some s
  |[],k,_=>by cases k<;>rfl
  | b::s,k,hk=>by
    have he:v6 (b::s)=uT b.toNat++v6 s:=by simp [v6]
    rw[he] at hk|-;rw[aVu] at hk;rcases aQ1 b with⟨e,h1,h2,h3⟩ |⟨h1,h2,h3,h4⟩
    · cases k with
      |zero=>rw[h1] at hk;simp at hk
      | succ k=>
        have hr:=aQZ (t:=v6 s) h2;rw[h3] at hr;have hlen:(uT b.toNat).length=e.length+1:=by rw[h1];rfl
        have hform:uT b.toNat++v6 s=38::(e++v6 s):=by rw[h1];rfl
        rw[hform] at hr|-;unfold yP;rw[aVs rfl,hr,aVv (by show¬((uT b.toNat).length:Int)=0;omega)];show ((yP k ((38::(e++v6 s)).drop (((uT b.toNat).length:Int).toNat))).map ([b]++ ·))=_;rw[aWh,←hform,aWW,aAO s k pG];rfl
    · rw[h1] at hk|-
      cases k with
      |zero=>simp at hk
      | succ k=>
        simp only[aVw,aVD] at hk;show yP (k+1) (b::v6 s)=_;unfold yP;rw[aVv h2,aVv (by rintro(h|h);exact h3 h;exact h4 h),aAO s k pG];rfl
theorem aAP {s:pD}(h:sZ s=true):xV (v6 s)=some s:=by
  unfold xV;rw[aAO s _ (aVR _)];exact aVs h
end
noncomputable section
def blk (b:UInt8):Bool:=([32,9,10,13]:pD).contains b
def KL (s:pD):Bool:=s.all blk
theorem ZC (s:pD):Lib.trimLeftS s ([32,9,10,13]:pD)=s.dropWhile blk:=rfl
theorem aAQ {α:Type}{p:α→Bool}: ∀{l:List α},l.dropWhile p=[]↔l.all p=true
  |[]=>by simp
  | x::l=>by
    rw[List.dropWhile_cons,List.all_cons];cases h:p x with
    |true=>simp [aAQ (l:=l)]
    |false=>simp
theorem aJN (s:pD):decide (Lib.trimS s ([32,9,10,13]:pD)=[])=KL s:=by
  have h:Lib.trimS s ([32,9,10,13]:pD)=[]↔KL s=true:=by
    unfold Lib.trimS Lib.trimLeftS Lib.trimRightS;rw[aAQ]
    have h2:((s.reverse.dropWhile (([32,9,10,13]:pD).contains ·)).reverse).all (([32,9,10,13]:pD).contains ·)=true↔s.reverse.dropWhile (([32,9,10,13]:pD).contains ·)=[]:=by
      rw[List.all_reverse];constructor
      · intro h
        cases hq:s.reverse.dropWhile (([32,9,10,13]:pD).contains ·) with
        |nil=>rfl
        | cons b r=>
          have hb:=List.head?_dropWhile_not (([32,9,10,13]:pD).contains ·) s.reverse;rw[hq] at hb h;simp only[List.head?_cons,List.all_cons,aVG] at hb h;rw[h.1] at hb;cases hb
      .intro h;rw[h];rfl
    rw[h2,aAQ,List.all_reverse];rfl
  cases hb:KL s with
  |true=>exact aVS (h.2 hb)
  |false=>exact decide_eq_false fun hh=>by rw[h.1 hh] at hb;cases hb
def BL (b:UInt8):Bool:=decide ((97:Int)≤(b.toNat:Int))&&decide ((b.toNat:Int)≤122)
def tH (s:pD):Nat:=(s.findIdx? fun b=> !BL b).getD s.length
theorem UC (s:pD):tH s≤s.length:=by
  unfold tH;cases h:s.findIdx? fun b=> !BL b with
  |none=>exact aVR _
  |some k=>exact Nat.le_of_lt (aWi.1 h).1
theorem aAR {s:pD}(hs:s.length≤1000000000):EX s=some (s.take (tH s),s.drop (tH s)):=by
  have h:=aP9 (f:=SR s) (l:=s) BL (fun i h=>by
    unfold SR;rw[aVs (fun _=>sY h),aVs (fun _=>sY h),PU h]
    have h1:((((decide ((i:Int)<(List.length s:Int)))&&(decide ((97:Int)≤(s[i].toNat:Int))))&&(decide ((s[i].toNat:Int)≤(122:Int))))=true)=(BL s[i]=true):=by
      unfold BL;rw[uS h,Bool.true_and]
    simp only[h1];rw[aVs (vF pG)]) (by
    unfold SR;have h0:decide ((s.length:Int)<(s.length:Int))=false:=by simp
    rw[h0];rw[aVs (fun h=>by cases h),aVs (fun h=>by cases h)];rfl)
  have hle:=UC s;unfold EX;rw[h];unfold sQ;rw[aVq];show (if 0≤(0:Int)∧(0:Int)≤(tH s:Int)∧(tH s:Int)≤(s.length:Int) then(if 0≤(tH s:Int)∧(tH s:Int)≤(s.length:Int)∧(s.length:Int)≤(s.length:Int) then some (sO s 0 (tH s:Int),sO s (tH s:Int) (s.length:Int)) else none) else none)=_;rw[aVs ⟨pG,pG,pG⟩,aVs ⟨pG,pG,pG⟩,YX,PX]
def D7 (s:pD):pD×pD×Bool:=if 0≤Lib.indexByte s 34 then(s.take (Lib.indexByte s 34).toNat,s.drop ((Lib.indexByte s 34).toNat+1),true) else(s,[],false)
theorem aQ2 {s:pD}(hs:s.length≤1000000000):I4 s [34]=some (D7 s):=by
  have hi:yY s [34]=Lib.indexByte s 34:=Lib.index_one s 34;have hr:=Q3 s 34;unfold I4 JX D7;rw[hi,aVs pG];by_cases h:0≤Lib.indexByte s 34
  · rw[aVs (aVS h),aVs ⟨pG,h,pG⟩,aVs (by simp;unfold qD;omega),aVs ⟨by simp;omega,by simp;omega,aWu _⟩,aVs h]
    unfold sO;simp only[aVq,aVw,aVD];rw[aWh];have e1:(Lib.indexByte s 34+((0+1:Nat):Int)).toNat=(Lib.indexByte s 34).toNat+1:=by omega
    rw[e1];have e2:(s.drop ((Lib.indexByte s 34).toNat+1)).take (s.length- ((Lib.indexByte s 34).toNat+1))=s.drop ((Lib.indexByte s 34).toNat+1):=List.take_of_length_le (by rw[aVO];omega);rw[e2];simp
  .rw[aVv (by simpa using h),aVv h];rfl
def IM (s:pD):Option (pD×pD×pD):=
  if tH s=0 then none else
  if (xL (s.drop (tH s)) [61,34]).2=false then none else
  if (D7 (xL (s.drop (tH s)) [61,34]).1).2.2=false then none else
  match xV (D7 (xL (s.drop (tH s)) [61,34]).1).1 with
  |some v=>some (s.take (tH s),v,(D7 (xL (s.drop (tH s)) [61,34]).1).2.1)
  |none=>none
theorem aJO (s p:pD):(xL s p).1.length≤s.length:=by
  unfold xL;split
  .rw[aVO];omega
  .exact aVR _
theorem aJP (s:pD):(D7 s).1.length≤s.length∧(D7 s).2.1.length≤s.length:=by
  unfold D7;split
  .rw[aVQ,aVO];exact⟨pG,pG⟩
  .exact⟨aVR _,by simp⟩
theorem aQ3 {s:pD}(hs:s.length≤1000000000): ∃r,GM s=some r∧r.2.2.1.length≤s.length∧(match IM s with
    |some (n,v,rest)=>r=(n,v,rest,true)
    |none=>r.2.2.2=false):=by
  have hw:=aAR hs;have h1:=aJO (s.drop (tH s)) [61,34];rw[aVO] at h1;have h2:=aJP (xL (s.drop (tH s)) [61,34]).1;obtain⟨t,ht1,ht2⟩:=aJL (s:=(D7 (xL (s.drop (tH s)) [61,34]).1).1) pG;unfold GM;rw[hw,aVq,ZA,aVq,aQ2 (by show (xL (s.drop (tH s)) [61,34]).1.length≤1000000000;omega),aVq,ht1,aVq];refine⟨_,rfl,by dsimp only;omega,?_⟩;unfold IM
  have hk:(s.take (tH s)=[])↔tH s=0:=by
    have:=UC s;constructor
    · intro h
      have:=aVL List.length h;rw[aVQ] at this;simp only[aVD] at this;omega
    .intro h;rw[h];rfl
  by_cases c1:tH s=0
  · rw[aVs c1]
    simp [hk.2 c1]
  · rw[aVv c1]
    have c1':(!decide (s.take (tH s)=[]))=true:=by simp only[aVV,aWb];exact fun h=>c1 (hk.1 h)
    cases c2:(xL (s.drop (tH s)) [61,34]).2 with
    |false=>simp
    | true=>
      rw[aVv pH];cases c3:(D7 (xL (s.drop (tH s)) [61,34]).1).2.2 with
      |false=>simp
      | true=>
        rw[aVv pH];cases c4:xV (D7 (xL (s.drop (tH s)) [61,34]).1).1 with
        |none=>simp
        | some v=>
          dsimp only;rw[ht2 v c4,c1'];rfl
abbrev xW:=Int×pD×List sA×Bool
def E2:Nat→pD→List sA→Bool→Option (List sA×Bool)
  |0,_,_,_=>none
  | n+1,s,l,tw=>if s.dropWhile blk=[] then some (l,tw) else
    match IM (s.dropWhile blk) with
    |none=>none
    |some (a,v,rest)=>if (s.dropWhile blk).length=s.length then none else E2 n rest (l++[(a,v,())]) (tw||l.any fun x=>decide (x.1=a))
def AY (t:pD):Option xW:=
  if ((t.drop 1).take (t.length-2)).take 1=[47] then
    (if tH (((t.drop 1).take (t.length-2)).drop 1)=0∨KL ((((t.drop 1).take (t.length-2)).drop 1).drop (tH (((t.drop 1).take (t.length-2)).drop 1)))=false then none
     else some (3,(((t.drop 1).take (t.length-2)).drop 1).take (tH (((t.drop 1).take (t.length-2)).drop 1)),[],false))
  else
    (fun(u:pD×Int)=>if tH u.1=0 then none else(E2 (u.1.length+1) (u.1.drop (tH u.1)) [] false).map fun r=>(u.2,u.1.take (tH u.1),r.1,r.2))
      (if ((t.drop 1).take (t.length-2)).drop (t.length-3)=[47] then(((t.drop 1).take (t.length-2)).take (t.length-3),2) else((t.drop 1).take (t.length-2),1))
theorem aJQ {α:Type}(p:α→Bool) (l:List α):(l.dropWhile p).length≤l.length:=(List.dropWhile_suffix p).length_le
theorem aQ4 (l:List sA) (a:pD) (v:pD) (hl:rW l):K0 l (a,(v,()))=some (l.any fun x=>decide (x.1=a)):=by
  unfold rW at hl
  have h:=D5 (f:=T0 l (a,(v,()))) (l:=l) (fun x=>decide (x.1=a)) (fun k=>(k:Int)) (fun i h=>by
    unfold T0;rw[aVs (uS h),aVs (sY h),zX (t:= .pair .str (.pair .str .unit)) h,aVs (vF pG)]) (by
    unfold T0;rw[aVv (vJ _)])
  unfold K0 P6;rw[h,KG];show some (decide _)=_;rw[PV]
theorem aJR {form:Int}{w:pD×pD}(hw:w.1≠[]): ∀(n:Nat) (s:pD) (l:List sA) (tw:Bool),s.length<n→s.length+l.length≤1000000000→
    ∃ r,rO (GN form w) (s,l,tw)=some r∧(match E2 n s l tw with
      |some (l',tw')=>r= .inr (form,w.1,l',tw',true)
      |none=>r= .inl ())
  |0,s,_,_,h,_=>by omega
  | n+1,s,l,tw,h,hb=>by
    have hd:=aJQ blk s;have hn:(!decide (w.1=([]:pD)))=true:=by simpa using hw
    unfold E2;by_cases h0:s.dropWhile blk=[]
    · rw[aVs h0]
      refine⟨_,uL ?_,rfl⟩;unfold GN;dsimp only;rw[ZC,aVs hn,aVs (aVS h0)]
    · rw[aVv h0]
      obtain⟨r,hr1,hr2,hr3⟩:=aQ3 (s:=s.dropWhile blk) pG;cases ha:IM (s.dropWhile blk) with
      | none=>
        rw[ha] at hr3;refine⟨_,uL ?_,rfl⟩;unfold GN;dsimp only;rw[ZC,aVs hn,aVv (by simpa using h0),hr1,aVq,aVs (by rw[hr3];rfl)]
      | some x=>
        obtain⟨a,v,rest⟩:=x;rw[ha] at hr3;dsimp only at hr3;subst hr3;dsimp only at hr2|-;by_cases hl:(s.dropWhile blk).length=s.length
        · rw[aVs hl]
          refine⟨_,uL ?_,rfl⟩;unfold GN;dsimp only;rw[ZC,aVs hn,aVv (by simpa using h0),hr1,aVq,aVs (by simp [hl])]
        · rw[aVv hl]
          have hc:=aQ4 l a v (by unfold rW;omega)
          have hst:GN form w (s,l,tw)=some (.inl (rest,l++[(a,v,())],tw||l.any fun x=>decide (x.1=a))):=by
            unfold GN;dsimp only;rw[ZC,aVs hn,aVv (by simpa using h0),hr1,aVq,aVv pJ,hc];cases tw with
            | false=>
              rw[aVs pH,aVs (show ((false==false)=true→(some (l.any fun x=>decide (x.1=a))).isSome=true) from fun _=>rfl),aVs pJ];rfl
            | true=>
              rw[aVv pH,aVs pJ];rfl
          have hrl:rest.length<s.length:=by omega
          obtain⟨r,e1,e2⟩:=aJR hw n rest (l++[(a,v,())]) (tw||l.any fun x=>decide (x.1=a)) pG pJ
          exact⟨r,by rw[vP hst];exact e1,e2⟩
theorem aQ5 (s:pD) (hs:s.length≤1000000000):K8 s [47]=some (if s.drop (s.length-1)=[47] then(s.take (s.length-1),true) else(s,false)):=by
  have hi:qD ((s.length:Int)- ((1:Nat):Int)):=by unfold qD;omega
  unfold K8 MM SU;simp only[aVw,aVD,aV5];rw[aVs (fun _=>hi),aVs (fun h=>⟨by simp at h;omega,pG,aWu _⟩),aVq];by_cases h0:s=[]
  .subst h0;rfl
  · have hp:1≤s.length:=aVX.2 h0
    have e:(s.length:Int)- ((1:Nat):Int)=((s.length-1:Nat):Int):=by omega
    rw[e,PX,YX];have h1:decide (((1:Nat):Int)≤(s.length:Int))=true:=by simp;omega
    rw[h1,Bool.true_and];by_cases h:s.drop (s.length-1)=[47]
    .rw[aVv (by simp [h]),aVs (by unfold qD;omega),aVs ⟨pG,pG,pG⟩,aVs h];rfl
    .rw[aVs (by simp [h]),aVv h];rfl
theorem aQ6 {t:pD}(h2:2≤t.length) (ht:t.length≤1000000000):FA t=some (match AY t with
    |some x=>(x.1,x.2.1,x.2.2.1,x.2.2.2,true)
    |none=>(0,[],[],false,false)):=by
  have hc:sO t (1:Int) ((t.length:Int)-1)=(t.drop 1).take (t.length-2):=by
    unfold sO;rw[show ((t.length:Int)-1).toNat- (1:Int).toNat=t.length-2 by omega];rfl
  have hl:((t.drop 1).take (t.length-2)).length=t.length-2:=by rw[aVQ,aVO];omega
  unfold FA;rw[aVs (by unfold qD;omega),aVs ⟨pG,pG,pG⟩,hc,ZA,aVq];unfold AY;have e3:t.length-3=((t.drop 1).take (t.length-2)).length-1:=by rw[hl];omega
  rw[e3];generalize (t.drop 1).take (t.length-2)=s at hl|-;unfold xL;by_cases h47:s.take 1=[47]
  · rw[aVs (show s.take ([47]:pD).length=[47] from h47),aVs h47]
    have hw:=aAR (s:=s.drop 1) (by rw[aVO];omega);have hle:=UC (s.drop 1);show (if true=true then _ else _)=_;rw[aVs rfl];show (EX (s.drop 1)).bind _=_;rw[hw,aVq];dsimp only;rw[aVs (fun _=>⟨pH,pH⟩),aVs (fun _=>by rw[aVO,aVO];omega),aJN]
    have hk:((s.drop 1).take (tH (s.drop 1))=[])↔tH (s.drop 1)=0:=by
      constructor
      · intro h
        have:=aVL List.length h;rw[aVQ] at this;simp only[aVD] at this;omega
      .intro h;rw[h];rfl
    by_cases c:tH (s.drop 1)=0∨KL ((s.drop 1).drop (tH (s.drop 1)))=false
    · rw[aVs c,aVs]
      rcases c with c|c
      .rw[aVS (hk.2 c)];rfl
      .rw[c];simp
    · rw[aVv c,aVv]
      simp only[aWv,aVE,aVV,not_or];exact⟨fun h=>c (.inl (hk.1 h)),fun h=>c (.inr h)⟩
  · rw[aVv (show¬s.take ([47]:pD).length=[47] from h47),aVv h47]
    show (if false=true then _ else _)=_;rw[aVv pH,aQ5 s pG,aVq]
    obtain⟨u,hu1,hu2,hu3⟩: ∃u:pD×Int,sQ (σ:=(pD×Int)) (
      if (if s.drop (s.length-1)=[47] then(s.take (s.length-1),true) else(s,false)).2=true then
       some (((if s.drop (s.length-1)=[47] then(s.take (s.length-1),true) else(s,false)).1,(2:Int)))
      else
       some ((s,(1:Int)))) (fun u=>some u)=some u∧(if s.drop (s.length-1)=[47] then(s.take (s.length-1),(2:Int)) else(s,1))=u∧u.1.length≤s.length:=by
      by_cases h:s.drop (s.length-1)=[47]
      · simp only[aVs h]
        exact⟨_,rfl,rfl,by rw[aVQ];omega⟩
      · simp only[aVv h]
        exact⟨_,rfl,rfl,aVR _⟩
    rw[hu2];unfold sQ at hu1|-
    generalize (if (if s.drop (s.length-1)=[47] then(s.take (s.length-1),true) else(s,false)).2=true then
       some (((if s.drop (s.length-1)=[47] then(s.take (s.length-1),true) else(s,false)).1,(2:Int)))
      else
       some ((s,(1:Int))))=o at hu1|-
    cases o with
    |none=>cases hu1
    | some u'=>
      obtain rfl:u'=u:=aVx hu1;rw[aVq];obtain⟨v,form⟩:=u';dsimp only at hu3|-;have hw:=aAR (s:=v) pG;have hle:=UC v
      have hk:(v.take (tH v)=[])↔tH v=0:=by
        constructor
        · intro h
          have:=aVL List.length h;rw[aVQ] at this;simp only[aVD] at this;omega
        .intro h;rw[h];rfl
      rw[hw,aVq];by_cases c:tH v=0
      · rw[aVs c]
        have hst:GN form (v.take (tH v),v.drop (tH v)) (v.drop (tH v),[],false)=some (.inr (.inl ())):=by
          unfold GN;dsimp only;rw[aVv (by simp [hk.2 c])]
        dsimp only;rw[uL hst];rfl
      · rw[aVv c]
        obtain⟨r,e1,e2⟩:=aJR (form:=form) (w:=(v.take (tH v),v.drop (tH v))) (fun h=>c (hk.1 h)) (v.length+1) (v.drop (tH v)) [] false (by rw[aVO];omega) (by rw[aVO];simp;omega);dsimp only at e1|-;rw[e1];cases ha:E2 (v.length+1) (v.drop (tH v)) [] false with
        | none=>
          rw[ha] at e2;dsimp only at e2;subst e2;rfl
        | some x=>
          obtain⟨l',tw'⟩:=x;rw[ha] at e2;dsimp only at e2;subst e2;rfl
end
noncomputable section
abbrev tE:=Int×pD×Int×Unit
abbrev TE:=Int×pD
def er (t:tE):TE:=(t.1,t.2.1)
structure wT (l:List tE):Prop where
  ne:l≠[]
  txt: ∀t∈l,t.2.1.length≤1000000000
  pos: ∀t∈l,0≤t.2.2.1∧t.2.2.1≤1000000000
  tag: ∀t∈l,t.1=2→2≤t.2.1.length
  last: ∀t,l.getLast? =some t→t.1=0∨t.1=4
  len:l.length≤1000000000
theorem wT.drop {l:List tE}(h:wT l) {k:Nat}(hk:k<l.length):wT (l.drop k):=by
  have hs:=List.drop_subset k l;refine⟨fun e=> ?_,fun t ht=>h.txt t (hs ht),fun t ht=>h.pos t (hs ht),fun t ht=>h.tag t (hs ht),fun t ht=> ?_,by rw[aVO];have:=h.len;omega⟩
  · have:=aVL List.length e
    rw[aVO,aVD] at this;omega
  · refine h.last t ?_
    rw[List.getLast?_drop,aVv pG] at ht;exact ht
theorem wT.head {l:List tE}(h:wT l): ∃t r,l=t::r:=by
  cases l with
  |nil=>exact absurd rfl h.ne
  |cons t r=>exact⟨t,r,rfl⟩
def uU (l' l:List tE):Prop:= ∃k,k<l.length∧l'=l.drop k
theorem uU.refl {l:List tE}(h:wT l):uU l l:=⟨0,aVX.2 h.ne,rfl⟩
theorem uU.trans {a b c:List tE}(h:uU a b) (k:uU b c):uU a c:=by
  obtain⟨i,hi,rfl⟩:=h;obtain⟨j,hj,rfl⟩:=k;rw[aVO] at hi;exact⟨j+i,pG,by rw[aXa]⟩
theorem uU.ok {a b:List tE}(h:uU a b) (hb:wT b):wT a:=by
  obtain⟨i,hi,rfl⟩:=h;exact hb.drop hi
theorem uU.le {a b:List tE}(h:uU a b):a.length≤b.length:=by
  obtain⟨i,hi,rfl⟩:=h;rw[aVO];omega
theorem N5 {t:tE}{r:List tE}:qQ (.pair (.int .i64) (.pair .str (.pair (.int .i64) .unit))) (t::r) (0:Int)=t:=rfl
theorem GS {t:tE}{r:List tE}:0≤(0:Int)∧(0:Int)<((t::r).length:Int):=⟨aWu _,by simp only[aVw];omega⟩
section
variable {l:List tE}(hl:wT l) (a e:Int) (c:sD) (en:pM×Unit) (m:pK)
include hl
def x7 (l:List tE) (e:Int):List tE:=if e=0∧1<l.length then l.drop 1 else l
theorem KM:uU (x7 l e) l:=by
  unfold x7;split
  .rename_i h;exact⟨1,h.2,rfl⟩
  .exact uU.refl hl
theorem FF:y7 l a e c en m=some (x7 l e):=by
  obtain⟨t,r,rfl⟩:=hl.head;have h1:=hl.txt t aVz;have h2:=hl.pos t aVz;unfold y7 x7;rw[aVs GS,aVs GS,N5,aVs (by unfold qD;omega)];by_cases h:e=0∧1<(t::r).length
  · have h':(decide (e=0)&&decide ((1:Int)<((t::r).length:Int)))=true:=by
      rw[aVS h.1,Bool.true_and];exact aVS pG
    have e1:=PX (l:=t::r) (k:=1);rw[aVs h',aVs ⟨pH,pG,aWu _⟩,aVs h];exact aVL some e1
  · rw[aVv,aVv h]
    simp only[aVG,aVE];exact fun hh=>h ⟨hh.1,pG⟩
def E3 (l:List tE) (a e code:Int):Int×Int:=if e=0 then((qQ (.pair (.int .i64) (.pair .str (.pair (.int .i64) .unit))) l 0).2.2.1,code) else(a,e)
theorem KN (code:Int):zS l a e c en code m=some (E3 l a e code):=by
  obtain⟨t,r,rfl⟩:=hl.head;unfold zS E3;by_cases h:e=0
  .rw[aVs (aVS h),aVs GS,aVs h]
  .rw[aVv (by simpa using h),aVv h]
omit hl in
theorem GT {code:Int}(hc:code≠0):(E3 l a e code).2≠0:=by
  unfold E3;split
  .exact hc
  .assumption
omit hl in
theorem aAS {code:Int}(he:e≠0):E3 l a e code=(a,e):=aVv he
def AE (l:List tE) (a e:Int) (w t m:Bool):Int×Int:=if w=true then E3 l a e 3 else if t=true then E3 l a e 9 else if m=true then E3 l a e 6 else(a,e)
theorem C6 (w t u:Bool):xT l a e c en w t u m=some (AE l a e w t u):=by
  unfold xT AE;rw[KN hl,KN hl,KN hl];cases w<;>cases t<;>cases u<;>rfl
omit hl in
theorem GU (w t u:Bool):(AE l a e w t u).2=0↔(e=0∧w=false∧t=false∧u=false):=by
  have h3:=GT (l:=l) a e (code:=3) pH;have h9:=GT (l:=l) a e (code:=9) pH;have h6:=GT (l:=l) a e (code:=6) pH;unfold AE;cases w<;>cases t<;>cases u<;>simp_all
omit hl in
theorem aJS (he:e≠0) (w t u:Bool):AE l a e w t u=(a,e):=by
  unfold AE;rw[aAS _ _ he,aAS _ _ he,aAS _ _ he];cases w<;>cases t<;>cases u<;>rfl
def vK (t:TE):Bool:=decide (t.1=1)||(decide (t.1=3)&&KL t.2)
def r9 (l:List TE):List TE:=l.dropWhile vK
def tO (l:List tE):List tE:=l.dropWhile fun t=>vK (er t)
omit hl in
theorem Q4 (l:List tE):(tO l).map er=r9 (l.map er):=by
  unfold tO r9;rw[List.dropWhile_map];rfl
omit hl in
theorem KO: ∀{l:List tE},wT l→uU (tO l) l
  |[],h=>absurd rfl h.ne
  | [t],h=>by
    have:=h.last t rfl;unfold tO;rw[List.dropWhile_cons,aVv]
    .exact⟨0,by simp,rfl⟩
    · unfold vK er
      rcases this with h0|h0<;>simp [h0]
  | t::u::r,h=>by
    unfold tO;rw[List.dropWhile_cons];split
    · have h1:=h.drop (k:=1) pI
      obtain⟨k,hk,e⟩:=KO h1;exact⟨k+1,by simp only[aVw,aXq,aWH] at hk|-;omega,e⟩
    .exact⟨0,by simp,rfl⟩
theorem aJT (e:Int): ∀(n:Nat) (l:List tE),wT l→l.length≤n→rO (T6 a e c en m) l=some (if e=0 then tO l else l)
  | 0,l,h,hn=>by
    have:=aVX.2 h.ne;omega
  | n+1,l,h,hn=>by
    obtain⟨t,r,rfl⟩:=h.head;have h1:=h.txt t aVz
    have hcond:((decide (e=(0:Int)))&&((decide (t.1=(1:Int)))||((decide (t.1=(3:Int)))&&(decide ((Lib.trimS (t.2.1) ([32,9,10,13]:pD))=([]:pD))))))=(decide (e=0)&&vK (er t)):=by
      rw[aJN];rfl
    have hst:T6 a e c en m (t::r)=if (decide (e=0)&&vK (er t))=true then some (.inl (x7 (t::r) e)) else some (.inr (t::r)):=by
      unfold T6;rw[aVs (fun _=>GS),aVs (fun _=>GS),aVs (fun _=>GS),aVs (fun _=>⟨pH,pH⟩),aVs (fun _=>by rw[N5];omega),N5,hcond,FF h];rfl
    by_cases he:e=0
    · rw[aVs he]
      by_cases hg:vK (er t)=true
      · rw[aVs (by simp [he,hg])] at hst
        have hr:r≠[]:=by
          rintro rfl;have:=h.last t rfl;unfold vK er at hg;rcases this with h0|h0<;>simp [h0] at hg
        have hs:x7 (t::r) e=r:=by
          unfold x7;rw[aVs ⟨he,by have:=aVX.2 hr;simp only[aVw];omega⟩];rfl
        rw[hs] at hst;have h2:=h.drop (k:=1) (by have:=aVX.2 hr;simp only[aVw];omega);rw[vP hst,aJT e n r h2 (by simp only[aVw] at hn;omega),aVs he];unfold tO;rw[List.dropWhile_cons,aVs hg]
      · rw[aVv (by simp [hg])] at hst
        rw[uL hst];unfold tO;rw[List.dropWhile_cons,aVv hg]
    · rw[aVv he]
      rw[aVv (by simp [he])] at hst;exact uL hst
theorem C7:AA l a e c en m=some (if e=0 then tO l else l):=by
  unfold AA;rw[aJT hl a c en m e l.length l hl (aVR _)];rfl
def eN:xW:=(0,[],[],false)
def v7 (t:TE):xW:=if t.1=2 then(AY t.2).getD eN else eN
def rS:List TE→xW
  |[]=>eN
  |t::_=>v7 t
theorem C8:AT l a e c en m=some (if e=0 then rS (l.map er) else eN):=by
  obtain⟨t,r,rfl⟩:=hl.head;have h1:=hl.txt t aVz;unfold AT;rw[aVs (fun _=>GS),N5];by_cases he:e=0
  · rw[aVs he]
    show _=some (v7 (er t));unfold v7 er;by_cases h2:t.1=2
    · have h3:=hl.tag t aVz h2
      rw[aVv (by simp [he,h2]),aVs GS,aQ6 h3 h1,aVq,aVs h2];cases AY t.2.1 with
      |none=>rfl
      |some x=>rfl
    .rw[aVs (by simp [h2]),aVv h2];rfl
  .rw[aVv he,aVs (by simp [he])];rfl
def uW (name:pD):List TE→Option (List TE)
  |[]=>none
  |t::r=>if (v7 t).1=3∧(v7 t).2.1=name then some r else none
structure LR (l l':List tE) (e e':Int):Prop where
  suf:uU l' l
  bad:e≠0→e'≠0
omit hl in
theorem UD {t:TE}(h:(v7 t).1≠0):t.1=2:=by
  unfold v7 at h;by_cases h2:t.1=2
  .exact h2
  .rw[aVv h2] at h;exact absurd rfl h
omit hl in
theorem wT.more {t:tE}{r:List tE}(h:wT (t::r)) (h2:t.1=2∨t.1=3∨t.1=1):1<(t::r).length:=by
  cases r with
  | nil=>
    have:=h.last t rfl;omega
  |cons u r=>simp
theorem Q5 (name:pD): ∃l' a' e',BI l a e c en name m=some (l',a',e')∧LR l l' e e'∧(e=0→match uW name (l.map er) with
    |some r=>e'=0∧l'.map er=r
    |none=>e'≠0):=by
  unfold BI;rw[C8 hl,aVq];by_cases he:e=0
  · subst he
    rw[aVs rfl];obtain⟨t,r,rfl⟩:=hl.head;show∃l' a' e',(if ((!decide ((v7 (er t)).1=(3:Int)))||(!decide ((v7 (er t)).2.1=name)))=true then _ else _)=_∧_
    show∃l' a' e',_∧_∧((0:Int)=0→match (if (v7 (er t)).1=3∧(v7 (er t)).2.1=name then some (r.map er) else none) with|some r=>_|none=>_)
    by_cases h:(v7 (er t)).1=3∧(v7 (er t)).2.1=name
    · have h2:t.1=2:=UD (t:=er t) (by rw[h.1];decide)
      rw[aVv (by simp [h.1,h.2]),aVs h];rw[FF hl,aVq]
      have hs:x7 (t::r) 0=r:=by
        unfold x7;rw[aVs ⟨rfl,hl.more (.inl h2)⟩];rfl
      exact⟨_,_,_,rfl,⟨KM hl 0,fun h0=>absurd rfl h0⟩,fun _=>⟨rfl,by rw[hs]⟩⟩
    · rw[aVs,aVv h,KN hl,aVq,FF hl,aVq]
      .exact⟨_,_,_,rfl,⟨KM hl _,fun h0=>absurd rfl h0⟩,fun _=>GT _ _ pH⟩
      · simp only[aWv,aVV,aWb]
        exact(Decidable.not_and_iff_not_or_not.1 h)
  · rw[aVv he,aVs (by simp [eN]),KN hl,aVq,FF hl,aVq]
    exact⟨_,_,_,rfl,⟨KM hl _,fun _=>GT _ _ pH⟩,fun h=>absurd h he⟩
def yA (x:xW):List TE→Option (pD×List TE)
  |[]=>none
  | _::r=>if x.1=2 then some ([],r) else
    match r with
    |[]=>none
    | u ::r2=>if u.1=3 then(match xV u.2 with
        |some s=>(uW x.2.1 r2).map fun q=>(s,q)
        |none=>none) else(uW x.2.1 (u::r2)).map fun q=>([],q)
theorem UE (x:xW) (hx:e=0→∃t r,l=t::r∧t.1=2): ∃s l' a' e',BJ l a e c en (x.1,(x.2.1,(x.2.2.1,(x.2.2.2,())))) m=some (s,l',a',e')∧LR l l' e e'∧s.length≤5000000000∧(e=0→match yA x (l.map er) with
    |some (s',r)=>e'=0∧l'.map er=r∧s=s'∧l'.length<l.length
    |none=>e'≠0):=by
  unfold BJ;rw[FF hl,aVq];have hs1:=KM hl e;have hl1:=hs1.ok hl;by_cases h2:x.1=2
  · rw[aVs (aVS h2)]
    refine⟨_,_,_,_,rfl,⟨hs1,id⟩,by simp,fun he=> ?_⟩;obtain⟨t,r,rfl,ht⟩:=hx he
    have hs:x7 (t::r) e=r:=by
      unfold x7;rw[aVs ⟨he,hl.more (.inl ht)⟩];rfl
    have hc:yA x ((t::r).map er)=some ([],r.map er):=by
      show (if x.1=2 then some (([]:pD),r.map er) else _)=_;rw[aVs h2]
    rw[hc];exact⟨he,by rw[hs],rfl,by rw[hs];simp⟩
  · rw[aVv (by simpa using h2)]
    obtain⟨u,r2,hu⟩:=hl1.head;rw[hu] at hs1 hl1|-;rw[aVs GS,N5]
    have hcl:e=0→∃t,l=t::u::r2:=fun he=>by
      obtain⟨t,r,rfl,ht⟩:=hx he
      have hs:x7 (t::r) e=r:=by
        unfold x7;rw[aVs ⟨he,hl.more (.inl ht)⟩];rfl
      rw[hs] at hu;exact⟨t,by rw[hu]⟩
    by_cases h3:u.1=3
    · have h1:=hl1.txt u aVz
      obtain⟨s,e1,e2⟩:=aJL h1
      have hsl:s.length≤5000000000:=by
        obtain⟨r,hr,hm⟩:=aJK (s:=u.2.1) (by unfold rW;omega);unfold GL at e1;rw[hr,aVq] at e1;split at e1
        · have e3:=aVL Prod.fst (aVx e1)
          dsimp only at e3;rw[←e3];cases hun:yP u.2.1.length u.2.1 with
          |none=>rw[hun] at hm;rw[hm.1];simp
          | some y=>
            rw[hun] at hm;dsimp only at hm;rw[hm];have:=ZB _ _ _ (by unfold rW;omega) hun;dsimp only;omega
        .cases e1
      rw[aVs (aVS h3),aVs GS,e1,aVq]
      obtain⟨q,hq1,hq2,hq3⟩: ∃q:Int×Int,sQ (σ:=(Int×Int)) (if (!(xV u.2.1).isSome)=true then
        (zS (u::r2) a e (c.1,(c.2.1,(c.2.2.1,(c.2.2.2.1,())))) (en.1,()) (3:Int) m).bind fun O=>some ((O.1,O.2))
       else some ((a,e))) (fun q=>some q)=some q∧(e≠0→q.2≠0)∧(e=0→if (xV u.2.1).isSome=true then q.2=0 else q.2≠0):=by
        cases(xV u.2.1).isSome with
        |true=>exact⟨_,rfl,id,id⟩
        | false=>
          rw[aVs pH,KN hl1];refine⟨_,rfl,fun _=>GT _ _ pH,fun _=> ?_⟩;rw[aVv pH];exact GT _ _ pH
      unfold sQ at hq1|-
      generalize (if (!(xV u.2.1).isSome)=true then
        (zS (u::r2) a e (c.1,(c.2.1,(c.2.2.1,(c.2.2.2.1,())))) (en.1,()) (3:Int) m).bind fun O=>some ((O.1,O.2))
       else some ((a,e)))=o at hq1|-
      cases o with
      |none=>cases hq1
      |some q'=>
      obtain rfl:q'=q:=aVx hq1;clear hq1;obtain⟨a1,e3⟩:=q';dsimp only at hq2 hq3;rw[aVq];dsimp only;rw[FF hl1,aVq];have hs2:=KM hl1 e3;have hl2:=hs2.ok hl1;obtain⟨l3,a3,e4,h4,p4,m4⟩:=Q5 hl2 a1 e3 (c.1,(c.2.1,(c.2.2.1,(c.2.2.2.1,())))) (en.1,()) m x.2.1;rw[h4,aVq];refine⟨_,_,_,_,rfl,⟨(p4.suf.trans hs2).trans hs1,fun he=>p4.bad (hq2 he)⟩,hsl,fun he=> ?_⟩;obtain⟨t,ht⟩:=hcl he;rw[ht]
      show match (if x.1=2 then some ([],(u::r2).map er) else if u.1=3 then(match xV u.2.1 with
        |some s=>(uW x.2.1 (r2.map er)).map fun q=>(s,q)
        |none=>none) else(uW x.2.1 ((u::r2).map er)).map fun q=>([],q)) with|some (s',q)=>_|none=>_
      rw[aVv h2,aVs h3];have hq3':=hq3 he;cases htx:xV u.2.1 with
      | none=>
        rw[htx] at hq3';exact p4.bad (by simpa using hq3')
      | some y=>
        rw[htx] at hq3';have he3:e3=0:=by simpa using hq3'
        have hst:x7 (u::r2) e3=r2:=by
          unfold x7;rw[aVs ⟨he3,hl1.more (.inr (.inl h3))⟩];rfl
        have m4':=m4 he3;rw[hst] at m4' p4;dsimp only;cases hnd:uW x.2.1 (r2.map er) with
        |none=>rw[hnd] at m4';exact m4'
        | some q=>
          rw[hnd] at m4';exact⟨m4'.1,m4'.2,e2 y htx,by have:=p4.suf.le;simp only[aVw];omega⟩
    · rw[aVv (by simpa using h3)]
      obtain⟨l3,a3,e4,h4,p4,m4⟩:=Q5 hl1 a e (c.1,(c.2.1,(c.2.2.1,(c.2.2.2.1,())))) (en.1,()) m x.2.1;rw[h4,aVq];refine⟨_,_,_,_,rfl,⟨p4.suf.trans hs1,p4.bad⟩,by simp,fun he=> ?_⟩;obtain⟨t,ht⟩:=hcl he;rw[ht]
      show match (if x.1=2 then some ([],(u::r2).map er) else if u.1=3 then(match xV u.2.1 with
        |some s=>(uW x.2.1 (r2.map er)).map fun q=>(s,q)
        |none=>none) else(uW x.2.1 ((u::r2).map er)).map fun q=>([],q)) with|some (s',q)=>_|none=>_
      rw[aVv h2,aVv h3];have m4':=m4 he;cases hnd:uW x.2.1 ((u::r2).map er) with
      |none=>rw[hnd] at m4';exact m4'
      | some q=>
        rw[hnd] at m4';exact⟨m4'.1,m4'.2,rfl,by have:=p4.suf.le;simp only[aVw] at this|-;omega⟩
end
end
noncomputable section
theorem aJU {σ ρ:Type}{f:σ->Option (σ⊕ρ)}{x:σ}(h:f x=none):rO f x=none:=by rw[GO,h];rfl
theorem aJV (a b:pD) (y:pD): ∀l:List (pD×pD),vX .str .str (tW .str .str a y l) b=(decide (a=b)||vX .str .str l b)
 |[]=>by
  show (if decide (b=a)=true then true else false)=(decide (a=b)||false)
  by_cases h:b=a
  .simp [h]
  .have: ¬a=b:=fun e=>h e.symm;simp [h,this]
 |(x,z)::r=>by
  have ih:=aJV a b y r;show vX .str .str (if decide (a=x)=true then(a,y)::r else(x,z)::tW .str .str a y r) b=(decide (a=b)||(if decide (b=x)=true then true else vX .str .str r b))
  by_cases h:a=x
  .subst h;rw[aVs pI];show (if decide (b=a)=true then true else vX .str .str r b)=_;by_cases hb:b=a
   .simp [hb]
   .have: ¬a=b:=fun e=>hb e.symm;simp [hb,this]
  .rw[aVv (by simpa using h)];show (if decide (b=x)=true then true else vX .str .str (tW .str .str a y r) b)=_;rw[ih];by_cases hb:b=x
   .simp [hb]
   .simp [hb]
def N6 (m:List (pD×pD)) (a:sA):List (pD×pD):=tW .str .str a.1 a.2.1 m
def GV (l:List sA):List (pD×pD):=l.foldl N6 []
def sC (l:List sA) (n:pD):pD:=l.foldl (fun v a=>if n=a.1 then a.2.1 else v) []
theorem aJW (n:pD): ∀(l:List sA) (m:List (pD×pD)),s8 .str .str (l.foldl N6 m) n=l.foldl (fun v a=>if n=a.1 then a.2.1 else v) (s8 .str .str m n)
 |[],_=>rfl
 |a::l,m=>by
  rw[List.foldl_cons,List.foldl_cons,aJW n l];unfold N6;rw[N1]
theorem UF (l:List sA) (n:pD):s8 .str .str (GV l) n=sC l n:=aJW n l []
theorem aJX (n:pD): ∀(l:List sA) (m:List (pD×pD)),vX .str .str (l.foldl N6 m) n=(vX .str .str m n||l.any fun a=>decide (a.1=n))
 |[],m=>by simp
 |a::l,m=>by
  rw[List.foldl_cons,aJX n l,List.any_cons];unfold N6;rw[aJV];cases decide (a.1=n)<;>cases vX .str .str m n<;>rfl
theorem aJY (l:List sA) (n:pD):vX .str .str (GV l) n=l.any fun a=>decide (a.1=n):=aJX n l []
theorem aJZ {l:List sA}{n:pD}: ∀{l:List sA}{v:pD},(l.any fun a=>decide (a.1=n))=true->∃a∈l,a.1=n/\l.foldl (fun v a=>if n=a.1 then a.2.1 else v) v=a.2.1
 |[],_,h=>by cases h
 |a::l,v,h=>by
  by_cases hl:(l.any fun a=>decide (a.1=n))=true
  .obtain⟨b,h1,h2,h3⟩:=aJZ (l:=l) (v:=if n=a.1 then a.2.1 else v) hl;exact⟨b,aVB _ h1,h2,h3⟩
  .have ha:a.1=n:=by
    rw[List.any_cons,aWv] at h;rcases h with h|h
    .exact aV4 h
    .exact absurd h hl
   have hno: ∀(l:List sA) (v:pD),¬(l.any fun a=>decide (a.1=n))=true->l.foldl (fun v a=>if n=a.1 then a.2.1 else v) v=v:=by
    intro l
    induction l with
    |nil=>intros;rfl
    |cons b l ih=>
     intro v hh;rw[List.any_cons,aWv,not_or] at hh;rw[List.foldl_cons,aVv (fun e=>hh.1 (aVS e.symm))];exact ih v hh.2
   refine⟨a,aVz,ha,?_⟩;rw[List.foldl_cons,aVs ha.symm];exact hno l _ hl
theorem aAT {ρ:Type}{f:(Int×List (pD×pD))->Option ((Int×List (pD×pD))⊕((List (pD×pD))⊕ρ))}{l:List sA}(p:sA->Bool) (r:Option (((List (pD×pD))⊕ρ)))
  (hf: ∀(i:Nat) (h:i<l.length) m,f ((i:Int),m)=if p l[i]=true then some (.inl ((i:Int)+1,N6 m l[i])) else r.map .inr)
  (he: ∀m,f ((l.length:Int),m)=some (.inr (.inl m))): ∀(n i:Nat) m,i+n=l.length->rO f ((i:Int),m)=if (l.drop i).all p=true then some (.inl ((l.drop i).foldl N6 m)) else r
 |0,i,m,hi=>by
  obtain rfl:i=l.length:=by omega
  rw[aWl,uL (he m)];rfl
 |n+1,i,m,hi=>by
  have h:i<l.length:=by omega
  rw[aV8 h,List.all_cons,List.foldl_cons];have hs:=hf i h m;cases hp:p l[i] with
  |true=>
   rw[hp,aVs rfl] at hs;rw[vP hs,Bool.true_and];exact aAT p r hf he n (i+1) _ pG
  |false=>
   rw[hp,aVv pH] at hs;rw[Bool.false_and,aVv pH];cases r with
   |none=>exact aJU hs
   |some x=>exact uL hs
def xM (l:List sA) (N F:pE):Bool:=(l.all fun a=>F.any fun x=>decide (x=a.1))&&(N.all fun n=>l.any fun a=>decide (a.1=n))
theorem aJ0 {α:Type}{p:α->Bool}{l:List α}:(l.any fun x=> !p x)= !(l.all p):=by
 rw[List.not_all_eq_any_not]
theorem N7 {l:List sA}{i:Nat}(h:i<l.length):qQ (.pair .str (.pair .str .unit)) l (i:Int)=l[i]:=zX (t:= .pair .str (.pair .str .unit)) h
theorem Q6 (x:xW) (names opt:pD) (hx:x.2.2.1.length<=1000000000) (h1:names.length<=100) (h2:opt.length<=100) (h3:(names.all fun b=>decide (b.toNat<128))=true) (h4:(opt.all fun b=>decide (b.toNat<128))=true)
  (h5:(Lib.fields ((names++[32])++opt)).length<=1000) (h6:(Lib.fields names).length<=1000):
  wQ (x.1,(x.2.1,(x.2.2.1,(x.2.2.2,())))) names opt=(if xM x.2.2.1 (Lib.fields names) (Lib.fields ((names++[32])++opt))=true then some (GV x.2.2.1) else none)/\
  (xM x.2.2.1 (Lib.fields names) (Lib.fields ((names++[32])++opt))=false->DR (x.1,(x.2.1,(x.2.2.1,(x.2.2.2,())))) names opt=some ()):=by
 obtain⟨fm,nm,l,tw⟩:=x;dsimp only at hx|-;have c1:((names++([32]:pD)).length:Int)<=9223372036854775807:=by simp;omega
 have c2:(((names++([32]:pD))++opt).length:Int)<=9223372036854775807:=by simp;omega
 have c3:(List.all ((names++([32]:pD))++opt) fun b=>decide (b.toNat<128))=true/\List.length ((names++([32]:pD))++opt)<4294967281:=by
  refine⟨?_,by simp;omega⟩;rw[List.all_append,List.all_append,h3,h4];rfl
 have c4:(List.all names fun b=>decide (b.toNat<128))=true/\List.length names<4294967281:=⟨h3,pG⟩;have hcon: ∀a,EW (Lib.fields ((names++([32]:pD))++opt)) a=some ((Lib.fields ((names++([32]:pD))++opt)).any fun y=>decide (y=a)):=fun a=>aI0 _ a (by unfold rW;omega);have A:=aAT (f:=P7 (fm,(nm,(l,(tw,())))) names opt) (l:=l) (fun a=>(Lib.fields ((names++[32])++opt)).any fun y=>decide (y=a.1)) none (fun i h m=>by
  unfold P7;dsimp only;rw[aVs (uS h),aVs (sY h),aVs c1,aVs c2,aVs c3,N7 h,hcon,aVq,aVs (vF pG)];cases(Lib.fields ((names++[32])++opt)).any fun y=>decide (y=l[i].1)<;>rfl) (fun m=>by
  unfold P7;dsimp only;rw[aVv (vJ _)]) l.length 0 [] pG
 have B:=aAT (f:=P9 (fm,(nm,(l,(tw,())))) names opt) (l:=l) (fun a=>(Lib.fields ((names++[32])++opt)).any fun y=>decide (y=a.1)) (some (.inr ())) (fun i h m=>by
  unfold P9;dsimp only;rw[aVs (uS h),aVs (sY h),aVs c1,aVs c2,aVs c3,N7 h,hcon,aVq,aVs (vF pG)];cases(Lib.fields ((names++[32])++opt)).any fun y=>decide (y=l[i].1)<;>rfl) (fun m=>by
  unfold P9;dsimp only;rw[aVv (vJ _)]) l.length 0 [] pG
 rw[aWH] at A B;have A':rO (P7 (fm,(nm,(l,(tw,())))) names opt) ((0:Int),[])=_:=A;have B':rO (P9 (fm,(nm,(l,(tw,())))) names opt) ((0:Int),[])=_:=B;have C: ∀m,rO (K1 names m) (0:Int)=if (Lib.fields names).all (fun n=>vX .str .str m n)=true then some (.inl ()) else none:=by
  intro m;have go: ∀(n i:Nat),i+n=(Lib.fields names).length->rO (K1 names m) (i:Int)=if ((Lib.fields names).drop i).all (fun n=>vX .str .str m n)=true then some (.inl ()) else none:=by
   intro n
   induction n with
   |zero=>
    intro i hi;obtain rfl:i=(Lib.fields names).length:=by omega
    rw[aWl];refine uL ?_;unfold K1;rw[aVv (vJ _)]
   |succ n ih=>
    intro i hi;have h:i<(Lib.fields names).length:=by omega
    have hs:K1 names m (i:Int)=if vX .str .str m (Lib.fields names)[i]=true then some (.inl ((i+1:Nat):Int)) else none:=by
     unfold K1;rw[aVs (uS h),aVs (sY h),zX (t:= .str) h,aVs (vF pG)];cases vX .str .str m (Lib.fields names)[i]<;>rfl
    rw[aV8 h,List.all_cons];cases hm:vX .str .str m (Lib.fields names)[i] with
    |true=>
     rw[hm,aVs rfl] at hs;rw[vP hs,Bool.true_and];exact ih (i+1) pG
    |false=>
     rw[hm,aVv pH] at hs;rw[aJU hs];rfl
  have h0:=go (Lib.fields names).length 0 pG;rw[aWH] at h0;exact h0
 have D: ∀m,(Lib.fields names).all (fun n=>vX .str .str m n)=false->rO (MG names m) (0:Int)=some (.inr ()):=by
  intro m hm;have h:=D5 (f:=MG names m) (l:=Lib.fields names) (fun n=> !vX .str .str m n) (fun _=>()) (fun i h=>by
   unfold MG;rw[aVs (uS h),aVs (sY h),zX (t:= .str) h,aVs (vF pG)]) (by
   unfold MG;rw[aVv (vJ _)])
  rw[h,KF,aVs];rw[aJ0,hm];rfl
 unfold xM;constructor
 .unfold wQ;rw[A'];cases hp:l.all fun a=>(Lib.fields ((names++[32])++opt)).any fun y=>decide (y=a.1) with
  |false=>rfl
  |true=>
   rw[aVs rfl];show (if _ then tY (rO (K1 names (GV l)) (0:Int)) (fun _=>some (GV l)) else none)=_;rw[aVs c4,C];have e:(Lib.fields names).all (fun n=>vX .str .str (GV l) n)=(Lib.fields names).all fun n=>l.any fun a=>decide (a.1=n):=by
    congr 1;funext n;exact aJY l n
   rw[e,Bool.true_and];cases(Lib.fields names).all fun n=>l.any fun a=>decide (a.1=n)<;>rfl
 .intro hf;unfold DR;rw[B'];cases hp:l.all fun a=>(Lib.fields ((names++[32])++opt)).any fun y=>decide (y=a.1) with
  |false=>rfl
  |true=>
   rw[aVs rfl];show (if _ then tY (rO (MG names (GV l)) (0:Int)) (fun _=>none) else none)=_;rw[aVs c4,D]
   .rfl
   .rw[hp,Bool.true_and] at hf;have e:(Lib.fields names).all (fun n=>vX .str .str (GV l) n)=(Lib.fields names).all fun n=>l.any fun a=>decide (a.1=n):=by
     congr 1;funext n;exact aJY l n
    rw[e];exact hf
def tZ (s:pD):pE:=uK (tC s [32])
theorem aJ1 (s:pD):0<(tC s [32]).length/\(tC s [32]).length<=s.length+1:=by
 have h1:=Lib.splitB_all ⟨List.toArray ([32]:pD)⟩ pH 0 _ ⟨List.toArray s⟩ rfl;have h2:=Lib.countB_le ⟨List.toArray ([32]:pD)⟩ pH (List.length s) ⟨List.toArray s⟩ (aVR _);have h3:(⟨List.toArray s⟩:ByteArray).size=s.length:=rfl;rw[h3] at h2;unfold tC;rw[aWD,h1];exact⟨pG,pG⟩
theorem aJ2 (l:pE):(uK l).length<=l.length:=List.length_filter_le _ _
theorem aAU {s:pD}(hs:s.length<=1000000000):I0 s=some ((tZ s).all uR):=by
 have hl:=aJ1 s;have hn:=aJ2 (tC s [32]);have hf:(tZ s).length<=1000000001:=by unfold tZ;omega
 have h:=D5 (f:=SZ (tZ s)) (l:=tZ s) (fun x=> !uR x) (fun k=>(k:Int)) (fun i h=>by
  unfold SZ OZ;rw[aVs (uS h),aVs (sY h),zX (t:= .str) h,U0,aVq,aVq,aVs (vF pG)]) (by
  unfold SZ;rw[aVv (vJ _)])
 unfold I0;rw[aVs ⟨pH,pG⟩,aVs ⟨hl.1,pG⟩];show (MF (tZ s)).bind _=_;unfold MF P5;rw[h,KG];show some (!decide _)=_;rw[PV,aJ0,Bool.not_not]
abbrev uG:pD:=[105,100]
abbrev xF:pD:=[115,116,97,116,101]
abbrev uM:pD:=[102,108,97,103,115]
abbrev vL:pD:=[110,97,109,101]
abbrev wJ:pD:=[116,97,103]
abbrev yQ:pD:=[99,111,109,109,101,110,116]
abbrev yB:pD:=[102,105,101,108,100]
abbrev wU:pD:=[115,111,117,114,99,101]
abbrev zB:pD:=[116,97,114,103,101,116]
abbrev zL:pD:=[101,110,116,114,121]
abbrev yC:pD:=[101,110,116,114,105,101,115]
abbrev zC:pD:=[99,97,116,97,108,111,103]
def AZ (a:sA):Bool:=if a.1=uG then(decide (a.2.1=[])||decide (200<(a.2.1.length:Int))) else if a.1=xF then !decide (0<=AV a.2.1) else !((tZ a.2.1).all uR)
theorem aQ7 {a:sA}(ha:a.2.1.length<=1000000000):MK a=some (AZ a):=by
 unfold MK AZ;by_cases h1:a.1=uG
 .rw[aVs (aVS h1),aVs h1]
 .rw[aVv (by simpa using h1),aVv h1];by_cases h2:a.1=xF
  .have h:=aI0 IG a.2.1 (by unfold rW;decide);rw[aVs (aVS h2),aVs h2];show (EW IG a.2.1).bind _=_;rw[h,aVq,<-PV];rfl
  .rw[aVv (by simpa using h2),aVv h2,aAU ha];rfl
theorem aQ8 {l:List sA}(hl:l.length<=1000000000) (ha: ∀a∈l,a.2.1.length<=1000000000):DT l=some (l.any AZ):=by
 have h:=D5 (f:=TD l) (l:=l) AZ (fun k=>(k:Int)) (fun i h=>by
  unfold TD;rw[aVs (uS h),aVs (sY h),N7 h,aQ7 (ha _ (aWq h)),aVq,aVs (vF pG)]) (by
  unfold TD;rw[aVv (vJ _)])
 unfold DT PG;rw[h,KG];show some (decide _)=_;rw[PV]
theorem aQ9 (s:pD):BW IG s=some (AV s):=by
 rw[aIZ IG s (by unfold rW;decide)];unfold AV;have:(fun x:pD=>decide (s=x))=fun x=>decide (x=s):=by
  funext x;exact aWT.2 ⟨Eq.symm,Eq.symm⟩
 rw[this]
theorem aAV {f:Bool×Int->Option ((Bool×Int)⊕Bool)}{l:List sA}(p:sA->Bool) (hf: ∀(i:Nat) (h:i<l.length) g,f (g,(i:Int))=some (.inl (g&&p l[i],(i:Int)+1))) (he: ∀g,f (g,(l.length:Int))=some (.inr g)):
  ∀(n i:Nat) g,i+n=l.length->rO f (g,(i:Int))=some (g&&(l.drop i).all p)
 |0,i,g,hi=>by
  obtain rfl:i=l.length:=by omega
  rw[aWl,uL (he g)];simp
 |n+1,i,g,hi=>by
  have h:i<l.length:=by omega
  rw[vP (hf i h g),aV8 h,List.all_cons,<-Bool.and_assoc];exact aAV p hf he n (i+1) _ pG
end
noncomputable section
theorem Q7:Lib.fields (([]++[32])++([]:pD))=[]:=by kernel_rfl
theorem Q8:Lib.fields ([]:pD)=[]:=by kernel_rfl
theorem aAW (l:List sA):xM l [] []=decide (l=[]):=by
 unfold xM;cases l with
 |nil=>rfl
 |cons a l=>simp
theorem aJ3:Lib.fields ((vL++[32])++([]:pD))=[vL]:=by kernel_rfl
theorem aJ4:Lib.fields vL=[vL]:=by kernel_rfl
def AF (x:xW) (cms:pE) (L:List TE):Option (pE×List TE):=
 if x.2.2.1=[]/\x.2.2.2=false/\cms.length≠20 then(yA x L).map fun r=>(cms++[r.1],r.2) else none
theorem ZD (n:Nat):decide ((n:Int)=20)=decide (n=20):=aWT.2 pG
section
variable {l:List tE}(hl:wT l) (a e:Int) (c:sD) (en:pM×Unit) (m:pK)
include hl
theorem aJ5 (x:xW) (b:s0) (hx:e=0->∃t r,l=t::r/\t.1=2) (ha:x.2.2.1.length<=1000000000) (hb:b.2.2.2.1.length<=1000):
  ∃l' a' e' cs,D2 l a e c en (x.1,(x.2.1,(x.2.2.1,(x.2.2.2,())))) b m=some (l',a',e',cs)/\LR l l' e e'/\(e=0->match AF x b.2.2.2.1 (l.map er) with
   |some (cs',r)=>e'=0/\l'.map er=r/\cs=cs'/\l'.length<l.length
   |none=>e'≠0):=by
 obtain⟨v1,v2⟩:=Q6 x [] [] ha pH pH pH pH (by rw[Q7];decide) (by rw[Q8];decide);rw[Q7,Q8,aAW] at v1 v2;unfold D2;by_cases h:x.2.2.1=[]
 .rw[aVS h,aVs rfl] at v1;rw[v1,aVs pV,aVq,C6 hl,aVq];have hck:=GU (l:=l) a e (!true) x.2.2.2 (decide ((b.2.2.2.1.length:Int)=20));have hid:=fun he=>aJS (l:=l) a e he (!true) x.2.2.2 (decide ((b.2.2.2.1.length:Int)=20));dsimp only;generalize AE l a e (!true) x.2.2.2 (decide ((b.2.2.2.1.length:Int)=20))=q at hck hid|-;obtain⟨a1,e1⟩:=q;dsimp only at hck hid|-;obtain⟨s,l2,a2,e2,h2,p2,s2,m2⟩:=UE hl a1 e1 (c.1,(c.2.1,(c.2.2.1,(c.2.2.2.1,())))) (en.1,()) m x (fun he=>hx (hck.1 he).1);rw[h2,aVq,aVs pJ];refine⟨_,_,_,_,rfl,⟨p2.suf,fun he=>p2.bad (by rw[show e1=e from aVL Prod.snd (hid he)];exact he)⟩,fun he=> ?_⟩;unfold AF;by_cases hc:x.2.2.1=[]/\x.2.2.2=false/\b.2.2.2.1.length≠20
  .rw[aVs hc];have he1:e1=0:=hck.2 ⟨he,rfl,hc.2.1,by rw[ZD];exact decide_eq_false hc.2.2⟩;have m2':=m2 he1;cases hct:yA x (l.map er) with
   |none=>rw[hct] at m2';exact m2'
   |some r=>
    rw[hct] at m2';exact⟨m2'.1,m2'.2.1,by rw[m2'.2.2.1],m2'.2.2.2⟩
  .rw[aVv hc];refine p2.bad fun he1=>hc ⟨h,(hck.1 he1).2.2.1,?_⟩;have:=(hck.1 he1).2.2.2;rw[ZD] at this;exact of_decide_eq_false this
 .rw[decide_eq_false h,aVv pH] at v1;rw[v1,aVv pH,v2 (decide_eq_false h),aVq,C6 hl,aVq];have hck:=GU (l:=l) a e (!false) x.2.2.2 (decide ((b.2.2.2.1.length:Int)=20));dsimp only;generalize AE l a e (!false) x.2.2.2 (decide ((b.2.2.2.1.length:Int)=20))=q at hck|-;obtain⟨a1,e1⟩:=q;dsimp only at hck|-;have he1:e1≠0:=fun h0=>by have:=(hck.1 h0).2.1;cases this
  obtain⟨s,l2,a2,e2,h2,p2,s2,m2⟩:=UE hl a1 e1 (c.1,(c.2.1,(c.2.2.1,(c.2.2.2.1,())))) (en.1,()) m x (fun h0=>absurd h0 he1);rw[h2,aVq,aVs pJ];refine⟨_,_,_,_,rfl,⟨p2.suf,fun _=>p2.bad he1⟩,fun he=> ?_⟩;unfold AF;rw[aVv (fun hh=>h hh.1)];exact p2.bad he1
omit hl in
theorem aJ6 {x:z6}(hx:x.2.2.1.length<=1000000000) {f:Bool×Int->Option ((Bool×Int)⊕Bool)}(hf:f=TU x\/f=TV x):
  rO f (true,(0:Int))=some (x.2.2.1.all fun a=>uR a.2.1):=by
 have h:=aAV (f:=f) (l:=x.2.2.1) (fun a=>uR a.2.1) (fun i h g=>by
  rcases hf with rfl|rfl
  .unfold TU;dsimp only;rw[aVs (uS h),aVs (sY h),N7 h,U0,aVs (by exact fun _=>rfl),aVs (vF pG)];rfl
  .unfold TV;dsimp only;rw[aVs (uS h),aVs (sY h),N7 h,U0,aVs (by exact fun _=>rfl),aVs (vF pG)];rfl) (fun g=>by
  rcases hf with rfl|rfl
  .unfold TU;dsimp only;rw[aVv (vJ _)]
  .unfold TV;dsimp only;rw[aVv (vJ _)]) x.2.2.1.length 0 true pG
 rw[aWH,Bool.true_and] at h;exact h
def AG (x:xW) (fds:List sA) (L:List TE):Option (List sA×List TE):=
 if xM x.2.2.1 [vL] [vL]=true/\(x.2.2.1.all fun a=>uR a.2.1)=true/\x.2.2.2=false/\(fds.any fun f=>decide (f.1=sC x.2.2.1 vL))=false/\fds.length≠20 then(yA x L).map fun r=>(GQ fds (sC x.2.2.1 vL) r.1,r.2) else none
theorem aJ7 (x:xW) (b:s0) (hx:e=0->∃t r,l=t::r/\t.1=2) (ha:x.2.2.1.length<=1000000000) (hb:b.2.2.2.2.2.2.1.length<=1000):
  ∃l' a' e' fs,D3 l a e c en (x.1,(x.2.1,(x.2.2.1,(x.2.2.2,())))) b m=some (l',a',e',fs)/\LR l l' e e'/\(e=0->match AG x b.2.2.2.2.2.2.1 (l.map er) with
   |some (fs',r)=>e'=0/\l'.map er=r/\fs=fs'/\l'.length<l.length
   |none=>e'≠0):=by
 have hfit:rW b.2.2.2.2.2.2.1:=by unfold rW;omega
 obtain⟨v1,v2⟩:=Q6 x vL [] ha pH pH pH pH (by rw[aJ3];decide) (by rw[aJ4];decide);rw[aJ3,aJ4] at v1 v2;unfold D3;by_cases h:xM x.2.2.1 [vL] [vL]=true
 .rw[h,aVs rfl] at v1;rw[v1,aVs pV,aVq,UF,aI3 _ _ hfit,aVq,aJ6 (x:=(x.1,(x.2.1,(x.2.2.1,(x.2.2.2,()))))) ha (.inl rfl)];unfold sQ;rw[aVq,C6 hl,aVq,aP6];dsimp only;have hck:=GU (l:=l) a e ((!true)||(!(x.2.2.1.all fun a=>uR a.2.1))) (x.2.2.2||(b.2.2.2.2.2.2.1.any fun f=>decide (f.1=sC x.2.2.1 vL))) (decide ((b.2.2.2.2.2.2.1.length:Int)=20))
  have hid:=fun he=>aJS (l:=l) a e he ((!true)||(!(x.2.2.1.all fun a=>uR a.2.1))) (x.2.2.2||(b.2.2.2.2.2.2.1.any fun f=>decide (f.1=sC x.2.2.1 vL))) (decide ((b.2.2.2.2.2.2.1.length:Int)=20))
  generalize AE l a e ((!true)||(!(x.2.2.1.all fun a=>uR a.2.1))) (x.2.2.2||(b.2.2.2.2.2.2.1.any fun f=>decide (f.1=sC x.2.2.1 vL))) (decide ((b.2.2.2.2.2.2.1.length:Int)=20))=q at hck hid|-
  obtain⟨a1,e1⟩:=q;dsimp only at hck hid|-;obtain⟨s,l2,a2,e2,h2,p2,s2,m2⟩:=UE hl a1 e1 (c.1,(c.2.1,(c.2.2.1,(c.2.2.2.1,())))) (en.1,()) m x (fun he=>hx (hck.1 he).1);rw[h2,aVq,aI5 _ _ _ hfit,aVq];refine⟨_,_,_,_,rfl,⟨p2.suf,fun he=>p2.bad (by rw[show e1=e from aVL Prod.snd (hid he)];exact he)⟩,fun he=> ?_⟩;unfold AG;by_cases hc:xM x.2.2.1 [vL] [vL]=true/\(x.2.2.1.all fun a=>uR a.2.1)=true/\x.2.2.2=false/\(b.2.2.2.2.2.2.1.any fun f=>decide (f.1=sC x.2.2.1 vL))=false/\b.2.2.2.2.2.2.1.length≠20
  .rw[aVs hc];have he1:e1=0:=hck.2 ⟨he,by rw[hc.2.1];rfl,by rw[hc.2.2.1,hc.2.2.2.1];rfl,by rw[ZD];exact decide_eq_false hc.2.2.2.2⟩;have m2':=m2 he1;cases hct:yA x (l.map er) with
   |none=>rw[hct] at m2';exact m2'
   |some r=>
    rw[hct] at m2';exact⟨m2'.1,m2'.2.1,by rw[m2'.2.2.1],m2'.2.2.2⟩
  .rw[aVv hc];refine p2.bad fun he1=>hc ?_;obtain⟨_,k1,k2,k3⟩:=hck.1 he1;rw[ZD] at k3;simp only[aWf,aWM] at k1 k2;exact⟨h,k1.2,k2.1,k2.2,of_decide_eq_false k3⟩
 .have h':xM x.2.2.1 [vL] [vL]=false:=by simpa using h
  rw[h',aVv pH] at v1;rw[v1,aVv pH,v2 h',aVq,aI3 _ _ hfit,aVq,aJ6 (x:=(x.1,(x.2.1,(x.2.2.1,(x.2.2.2,()))))) ha (.inr rfl)];unfold sQ;rw[aVq,C6 hl,aVq];dsimp only;have hck:=GU (l:=l) a e ((!false)||(!(x.2.2.1.all fun a=>uR a.2.1))) (x.2.2.2||(PW b.2.2.2.2.2.2.1 []).2) (decide ((b.2.2.2.2.2.2.1.length:Int)=20))
  generalize AE l a e ((!false)||(!(x.2.2.1.all fun a=>uR a.2.1))) (x.2.2.2||(PW b.2.2.2.2.2.2.1 []).2) (decide ((b.2.2.2.2.2.2.1.length:Int)=20))=q at hck|-
  obtain⟨a1,e1⟩:=q;dsimp only at hck|-;have he1:e1≠0:=fun h0=>by have:=(hck.1 h0).2.1;cases this
  obtain⟨s,l2,a2,e2,h2,p2,s2,m2⟩:=UE hl a1 e1 (c.1,(c.2.1,(c.2.2.1,(c.2.2.2.1,())))) (en.1,()) m x (fun h0=>absurd h0 he1);rw[h2,aVq,aI5 _ _ _ hfit,aVq];refine⟨_,_,_,_,rfl,⟨p2.suf,fun _=>p2.bad he1⟩,fun he=> ?_⟩;unfold AG;rw[aVv (fun hh=>h hh.1)];exact p2.bad he1
end
abbrev FG:=pD×pD×pE×List sA×Bool×Bool
def u7:Nat->FG->List TE->Option (FG×List TE)
 |0,_,_=>none
 |n+1,st,L=>
  if (rS (r9 L)).1=3\/(rS (r9 L)).1=0 then(uW zL (r9 L)).map fun r=>(st,r)
  else if (rS (r9 L)).2.1=yQ then(match AF (rS (r9 L)) st.2.2.1 (r9 L) with
   |some (cs,r)=>u7 n (st.1,st.2.1,cs,st.2.2.2.1,st.2.2.2.2.1,st.2.2.2.2.2) r
   |none=>none)
  else if (rS (r9 L)).2.1=yB then(match AG (rS (r9 L)) st.2.2.2.1 (r9 L) with
   |some (fs,r)=>u7 n (st.1,st.2.1,st.2.2.1,fs,st.2.2.2.2.1,st.2.2.2.2.2) r
   |none=>none)
  else if (rS (r9 L)).2.1=wU then(if (rS (r9 L)).2.2.1=[]/\(rS (r9 L)).2.2.2=false/\st.2.2.2.2.1=false then(match yA (rS (r9 L)) (r9 L) with
   |some (s,r)=>u7 n (s,st.2.1,st.2.2.1,st.2.2.2.1,true,st.2.2.2.2.2) r
   |none=>none) else none)
  else if (rS (r9 L)).2.1=zB then(if (rS (r9 L)).2.2.1=[]/\(rS (r9 L)).2.2.2=false/\st.2.2.2.2.2=false then(match yA (rS (r9 L)) (r9 L) with
   |some (s,r)=>u7 n (st.1,s,st.2.2.1,st.2.2.2.1,st.2.2.2.2.1,true) r
   |none=>none) else none)
  else none
def GW (l:List tE):Int:=(qQ (.pair (.int .i64) (.pair .str (.pair (.int .i64) .unit))) l 0).2.2.1
def C9 (l:List tE):Prop:= ∀i (h:i+1<l.length),(l[i+1]'h).2.2.1=(l[i]'pG).2.2.1+((l[i]'pG).2.1.length:Int)
theorem C9.drop {l:List tE}(h:C9 l) (k:Nat):C9 (l.drop k):=by
 intro i hi;rw[aVO] at hi;simp only[List.getElem_drop];have:=h (k+i) pG;simpa[aWc] using this
theorem uU.cont {a b:List tE}(h:uU a b) (hb:C9 b):C9 a:=by
 obtain⟨k,_,rfl⟩:=h;exact hb.drop k
end
noncomputable section
abbrev R8:=Int×List tE×Int×Int×pD×pD×pE×List sA
theorem aAX {t:tE}{r:List tE}(hc:C9 (t::r)) (hr:r≠[]):t.2.2.1+(t.2.1.length:Int)=GW r:=by
 cases r with
 |nil=>exact absurd rfl hr
 |cons u r=>exact(hc 0 pI).symm
theorem aRa {l l':List tE}{name:pD}{r:List TE}(hl:wT l) (hc:C9 l) (hs:uU l' l) (h:uW name (l.map er)=some r) (hm:l'.map er=r):
  (qQ (.pair (.int .i64) (.pair .str (.pair (.int .i64) .unit))) l 0).2.2.1+((qQ (.pair (.int .i64) (.pair .str (.pair (.int .i64) .unit))) l 0).2.1.length:Int)=GW l'/\l'.length<l.length:=by
 obtain⟨t,q,rfl⟩:=hl.head;have h':(if (v7 (er t)).1=3/\(v7 (er t)).2.1=name then some (q.map er) else none)=some r:=h;split at h'
 .rename_i h3;have h2:t.1=2:=UD (t:=er t) (by rw[h3.1];decide);have hmore:=hl.more (.inl h2);have hq:l'=q:=by
   obtain⟨k,hk,rfl⟩:=hs;have e1:=aVL List.length hm;rw[<-aVx h',aWD,aWD,aVO] at e1;simp only[aVw] at e1 hk;obtain rfl:k=1:=by omega
   rfl
  subst hq;refine⟨aAX hc ?_,by simp⟩;rintro rfl;simp at hmore
 .cases h'
section
variable {c:sD}{en:pM×Unit}{p:s0}{ids:pK}
theorem Q9 {l:List tE}(hl:wT l) {a e:Int}(he:e≠0) (sr tg:pD) (cm:pE) (fd:List sA) (m:pK):
  ∃r:R8,rO (AB c en p ids) (l,a,e,sr,tg,cm,fd,m)=some r/\uU r.2.1 l/\r.2.2.2.1≠0:=by
 obtain⟨l',a',e',h1,p1,_⟩:=Q5 hl a e (c.1,(c.2.1,(c.2.2.1,(c.2.2.2.1,())))) (en.1,()) ids zL;refine⟨((qQ (.pair (.int .i64) (.pair .str (.pair (.int .i64) .unit))) l 0).2.2.1+((qQ (.pair (.int .i64) (.pair .str (.pair (.int .i64) .unit))) l 0).2.1.length:Int),l',a',e',sr,tg,cm,fd),uL ?_,p1.suf,p1.bad he⟩
 .unfold AB;dsimp only;rw[C7 hl,aVq,aVv he,C8 hl,aVq,aVv he,aVs pH,h1,aVq]
theorem aJ8 {l:List tE}(hl:wT l) (h:(rS (l.map er)).1≠0): ∃t r,l=t::r/\t.1=2:=by
 obtain⟨t,r,rfl⟩:=hl.head;exact⟨t,r,rfl,UD (t:=er t) h⟩
theorem aJ9: ∀(n:Nat) (s:pD) (l:List sA) (tw:Bool) (l':List sA) (tw':Bool),E2 n s l tw=some (l',tw')->l'.length<=l.length+s.length
 |0,_,_,_,_,_,h=>by cases h
 |n+1,s,l,tw,l',tw',h=>by
  have hd:=aJQ blk s;unfold E2 at h;split at h
  .cases h;omega
  .split at h
   .cases h
   .rename_i a v rest ha;split at h
    .cases h
    .have ih:=aJ9 n _ _ _ _ _ h;have hr:rest.length+1<=(s.dropWhile blk).length:=by
      unfold IM at ha;split at ha
      .cases ha
      .rename_i hw;split at ha
       .cases ha
       .split at ha
        .cases ha
        .split at ha
         .cases ha;have h1:=aJO ((s.dropWhile blk).drop (tH (s.dropWhile blk))) [61,34];have h2:=(aJP (xL ((s.dropWhile blk).drop (tH (s.dropWhile blk))) [61,34]).1).2;rw[aVO] at h1;have:=UC (s.dropWhile blk);omega
         .cases ha
     rw[aVu] at ih;simp only[aVw,aVD] at ih;omega
theorem aRb {t:TE}(h:t.2.length<=1000000000):(v7 t).2.2.1.length<=1000000000:=by
 unfold v7;split
 .cases hr:AY t.2 with
  |none=>simp [eN]
  |some x=>
   show x.2.2.1.length<=_;unfold AY at hr;split at hr
   .split at hr
    .cases hr
    .cases hr;simp
   .dsimp only at hr;generalize hu:(if ((t.2.drop 1).take (t.2.length-2)).drop (t.2.length-3)=[47] then(((t.2.drop 1).take (t.2.length-2)).take (t.2.length-3),(2:Int)) else((t.2.drop 1).take (t.2.length-2),1))=u at hr;have hul:u.1.length<=t.2.length:=by
     rw[<-hu];split<;>simp<;>omega
    split at hr
    .cases hr
    .obtain⟨q,hq,rfl⟩:=aVA.1 hr;have:=aJ9 _ _ _ _ _ _ hq;dsimp only;simp only[aVD,aVO,aV5] at this;omega
 .simp [eN]
theorem ZE {l:List tE}(hl:wT l):(rS (l.map er)).2.2.1.length<=1000000000:=by
 obtain⟨t,r,rfl⟩:=hl.head;exact aRb (t:=er t) (hl.txt t aVz)
theorem UG: ∀(n:Nat) (l:List tE) (a e:Int) (sr tg:pD) (cm:pE) (fd:List sA) (m:pK) (sS sT:Bool),
  l.length<=n->wT l->C9 l->s8 .str .bool m wU=sS->s8 .str .bool m zB=sT->(e=0->cm.length<=20/\fd.length<=20)->
  ∃r:R8,rO (AB c en p ids) (l,a,e,sr,tg,cm,fd,m)=some r/\uU r.2.1 l/\(e≠0->r.2.2.2.1≠0)/\(e=0->match u7 (n+1) (sr,tg,cm,fd,sS,sT) (l.map er) with
   |some (st,q)=>r.2.2.2.1=0/\r.2.1.map er=q/\r.2.2.2.2=(st.1,st.2.1,st.2.2.1,st.2.2.2.1)/\r.1=GW r.2.1/\r.2.1.length<l.length
   |none=>r.2.2.2.1≠0)
 |n,l,a,e,sr,tg,cm,fd,m,sS,sT,hn,hl,hcn,hS,hT,hb=>by
  by_cases he:e=0
  .subst he;have hsk:=KO hl;have hl1:=hsk.ok hl;have hc1:=hsk.cont hcn;have hle1:=hsk.le;have her:=Q4 l;obtain⟨hb1,hb2⟩:=hb rfl;have hxl:=ZE hl1;unfold u7;rw[<-her];generalize hx:rS ((tO l).map er)=x at hxl;by_cases h30:x.1=3\/x.1=0
   .obtain⟨l2,a2,e2,h2,p2,m2⟩:=Q5 hl1 a 0 (c.1,(c.2.1,(c.2.2.1,(c.2.2.2.1,())))) (en.1,()) ids zL;have hst:AB c en p ids (l,a,0,sr,tg,cm,fd,m)=some (.inr ((qQ (.pair (.int .i64) (.pair .str (.pair (.int .i64) .unit))) (tO l) 0).2.2.1+((qQ (.pair (.int .i64) (.pair .str (.pair (.int .i64) .unit))) (tO l) 0).2.1.length:Int),l2,a2,e2,sr,tg,cm,fd)):=by
     unfold AB;dsimp only;rw[C7 hl,aVq,aVs rfl,C8 hl1,aVq,aVs rfl,hx,aVs (by simpa using h30),h2,aVq]
    refine⟨_,uL hst,p2.suf.trans hsk,fun h=>absurd rfl h,fun _=> ?_⟩;rw[aVs h30];have m2':=m2 rfl;cases hnd:uW zL ((tO l).map er) with
    |none=>rw[hnd] at m2';exact m2'
    |some r=>
     rw[hnd] at m2';have hp:=aRa hl1 hc1 p2.suf hnd m2'.2;exact⟨m2'.1,m2'.2,rfl,hp.1,by have:=hp.2;dsimp only at this|-;omega⟩
   .rw[aVv h30];have hx0:x.1≠0:=fun h=>h30 (.inr h);have hhd:(0:Int)=0->∃t r,tO l=t::r/\t.1=2:=fun _=>aJ8 hl1 (by rw[hx];exact hx0);cases n with
    |zero=>
     have:=aVX.2 hl.ne;omega
    |succ n=>
    by_cases hkc:x.2.1=yQ
    .rw[aVs hkc];obtain⟨l2,a2,e2,cs,h2,p2,m2⟩:=aJ5 hl1 a 0 (c.1,(c.2.1,(c.2.2.1,(c.2.2.2.1,())))) (en.1,()) ids x (p.1,(sr,(tg,(cm,(p.2.2.2.2.1,(p.2.2.2.2.2.1,(fd,()))))))) hhd hxl (by dsimp only;omega);have hst:AB c en p ids (l,a,0,sr,tg,cm,fd,m)=some (.inl (l2,a2,e2,sr,tg,cs,fd,m)):=by
      unfold AB;dsimp only;rw[C7 hl,aVq,aVs rfl,C8 hl1,aVq,aVs rfl,hx,aVv (by simpa using h30),aVs (aVS hkc),h2,aVq]
     have m2':=m2 rfl;dsimp only at m2';have hl2:=p2.suf.ok hl1;cases hcm:AF x cm ((tO l).map er) with
     |none=>
      rw[hcm] at m2';obtain⟨r,hr1,hr2,hr3⟩:=Q9 (c:=c) (en:=en) (p:=p) (ids:=ids) hl2 (a:=a2) m2' sr tg cs fd m;exact⟨r,by rw[vP hst];exact hr1,(hr2.trans p2.suf).trans hsk,fun h=>absurd rfl h,fun _=>hr3⟩
     |some cr=>
      obtain⟨cs',r'⟩:=cr;rw[hcm] at m2';obtain⟨k1,k2,k3,k4⟩:=m2';subst k1 k3;have hcs:cs.length<=20:=by
       unfold AF at hcm;split at hcm
       .rename_i hh;obtain⟨q,_,hq⟩:=aVA.1 hcm;have:=aVL Prod.fst hq;dsimp only at this;rw[<-this,aVu];simp only[aVw,aVD];have:=hh.2.2;omega
       .cases hcm
      obtain⟨r,hr1,hr2,hr3,hr4⟩:=UG n l2 a2 0 sr tg cs fd m sS sT pG hl2 (p2.suf.cont hc1) hS hT (fun _=>⟨hcs,hb2⟩);refine⟨r,by rw[vP hst];exact hr1,(hr2.trans p2.suf).trans hsk,fun h=>absurd rfl h,fun _=> ?_⟩;have hr4':=hr4 rfl;rw[k2] at hr4';dsimp only;cases hin:u7 (n+1) (sr,tg,cs,fd,sS,sT) r' with
      |none=>rw[hin] at hr4';exact hr4'
      |some w=>
       rw[hin] at hr4';exact⟨hr4'.1,hr4'.2.1,hr4'.2.2.1,hr4'.2.2.2.1,by have:=hr4'.2.2.2.2;omega⟩
    .rw[aVv hkc];by_cases hkf:x.2.1=yB
     .rw[aVs hkf];obtain⟨l2,a2,e2,fs,h2,p2,m2⟩:=aJ7 hl1 a 0 (c.1,(c.2.1,(c.2.2.1,(c.2.2.2.1,())))) (en.1,()) ids x (p.1,(sr,(tg,(cm,(p.2.2.2.2.1,(p.2.2.2.2.2.1,(fd,()))))))) hhd hxl (by dsimp only;omega);have hst:AB c en p ids (l,a,0,sr,tg,cm,fd,m)=some (.inl (l2,a2,e2,sr,tg,cm,fs,m)):=by
       unfold AB;dsimp only;rw[C7 hl,aVq,aVs rfl,C8 hl1,aVq,aVs rfl,hx,aVv (by simpa using h30),aVv (by simpa using hkc),aVs (aVS hkf),h2,aVq]
      have m2':=m2 rfl;dsimp only at m2';have hl2:=p2.suf.ok hl1;cases hcm:AG x fd ((tO l).map er) with
      |none=>
       rw[hcm] at m2';obtain⟨r,hr1,hr2,hr3⟩:=Q9 (c:=c) (en:=en) (p:=p) (ids:=ids) hl2 (a:=a2) m2' sr tg cm fs m;exact⟨r,by rw[vP hst];exact hr1,(hr2.trans p2.suf).trans hsk,fun h=>absurd rfl h,fun _=>hr3⟩
      |some cr=>
       obtain⟨fs',r'⟩:=cr;rw[hcm] at m2';obtain⟨k1,k2,k3,k4⟩:=m2';subst k1 k3;have hcs:fs.length<=20:=by
        unfold AG at hcm;split at hcm
        .rename_i hh;obtain⟨q,_,hq⟩:=aVA.1 hcm;have:=aVL Prod.fst hq;dsimp only at this;rw[<-this];have h3:=aI4 fd (sC x.2.2.1 vL) q.1;have:=hh.2.2.2.2;omega
        .cases hcm
       obtain⟨r,hr1,hr2,hr3,hr4⟩:=UG n l2 a2 0 sr tg cm fs m sS sT pG hl2 (p2.suf.cont hc1) hS hT (fun _=>⟨hb1,hcs⟩);refine⟨r,by rw[vP hst];exact hr1,(hr2.trans p2.suf).trans hsk,fun h=>absurd rfl h,fun _=> ?_⟩;have hr4':=hr4 rfl;rw[k2] at hr4';dsimp only;cases hin:u7 (n+1) (sr,tg,cm,fs,sS,sT) r' with
       |none=>rw[hin] at hr4';exact hr4'
       |some w=>
        rw[hin] at hr4';exact⟨hr4'.1,hr4'.2.1,hr4'.2.2.1,hr4'.2.2.2.1,by have:=hr4'.2.2.2.2;omega⟩
     .rw[aVv hkf];by_cases hst2:x.2.1=wU\/x.2.1=zB
      ·
       obtain⟨v1,v2⟩:=Q6 x [] [] hxl pH pH pH pH (by rw[Q7];decide) (by rw[Q8];decide);rw[Q7,Q8,aAW] at v1 v2;obtain⟨o,ho⟩: ∃o:Bool,o=decide (x.2.2.1=[]):=⟨_,rfl⟩;have hck:=GU (l:=tO l) a 0 (!o) (x.2.2.2||s8 .str .bool m x.2.1) false
       generalize hq:AE (tO l) a 0 (!o) (x.2.2.2||s8 .str .bool m x.2.1) false=q at hck
       obtain⟨a1,e1⟩:=q;dsimp only at hck;obtain⟨s,l2,a2,e2,h2,p2,s2,m2⟩:=UE hl1 a1 e1 (c.1,(c.2.1,(c.2.2.1,(c.2.2.2.1,())))) (en.1,()) ids x (fun _=>hhd rfl);have hbn:(sQ (σ:=Bool) (if (decide (x.2.1=wU))=true then some ((decide (x.2.1=wU))) else some ((decide (x.2.1=zB)))) fun q=>some q)=some true:=by
        unfold sQ;rcases hst2 with h|h
        .rw[aVs (aVS h),aVS h];rfl
        .rw[aVv (by rw[h];decide),aVS h];rfl
       have hst:AB c en p ids (l,a,0,sr,tg,cm,fd,m)=some (.inl (if x.2.1=wU then(l2,a2,e2,s,tg,cm,fd,tW .str .bool x.2.1 true m) else(l2,a2,e2,sr,s,cm,fd,tW .str .bool x.2.1 true m))):=by
        unfold AB;dsimp only;rw[C7 hl,aVq,aVs rfl,C8 hl1,aVq,aVs rfl,hx,aVv (by simpa using h30),aVv (by simpa using hkc),aVv (by simpa using hkf)];unfold sQ at hbn|-;generalize (if (decide (x.2.1=wU))=true then some ((decide (x.2.1=wU))) else some ((decide (x.2.1=zB))))=oo at hbn|-;cases oo with
        |none=>cases hbn
        |some bb=>
         obtain rfl:bb=true:=aVx hbn;rw[aVq,aVs rfl];cases o with
         |true=>
          rw[<-ho,aVs rfl] at v1;rw[v1,aVs pV,aVq,C6 hl1,hq,aVq];dsimp only;rw[h2,aVq];by_cases hs:x.2.1=wU
          .rw[aVs (aVS hs),aVs hs]
          .rw[aVv (by simpa using hs),aVv hs]
         |false=>
          rw[<-ho,aVv pH] at v1;rw[v1,aVv pH,v2 ho.symm,aVq,C6 hl1,hq,aVq];dsimp only;rw[h2,aVq];by_cases hs:x.2.1=wU
          .rw[aVs (aVS hs),aVs hs]
          .rw[aVv (by simpa using hs),aVv hs]
       have hl2:=p2.suf.ok hl1;have hbad:e2≠0->∃r:R8,rO (AB c en p ids) (l,a,0,sr,tg,cm,fd,m)=some r/\uU r.2.1 l/\r.2.2.2.1≠0:=fun h0=>by
        rw[vP hst];by_cases hs:x.2.1=wU
        .rw[aVs hs];obtain⟨r,hr1,hr2,hr3⟩:=Q9 (c:=c) (en:=en) (p:=p) (ids:=ids) hl2 (a:=a2) h0 s tg cm fd (tW .str .bool x.2.1 true m);exact⟨r,hr1,(hr2.trans p2.suf).trans hsk,hr3⟩
        .rw[aVv hs];obtain⟨r,hr1,hr2,hr3⟩:=Q9 (c:=c) (en:=en) (p:=p) (ids:=ids) hl2 (a:=a2) h0 sr s cm fd (tW .str .bool x.2.1 true m);exact⟨r,hr1,(hr2.trans p2.suf).trans hsk,hr3⟩
       have hnone:e2≠0->∀w:Option (FG×List TE),w=none->∃r:R8,rO (AB c en p ids) (l,a,0,sr,tg,cm,fd,m)=some r/\uU r.2.1 l/\((0:Int)≠0->r.2.2.2.1≠0)/\((0:Int)=0->match w with
         |some (st,q)=>r.2.2.2.1=0/\r.2.1.map er=q/\r.2.2.2.2=(st.1,st.2.1,st.2.2.1,st.2.2.2.1)/\r.1=GW r.2.1/\r.2.1.length<l.length
         |none=>r.2.2.2.1≠0):=fun h0 w hw=>by
        obtain⟨r,hr1,hr2,hr3⟩:=hbad h0;subst hw;exact⟨r,hr1,hr2,fun h=>absurd rfl h,fun _=>hr3⟩
       by_cases hs:x.2.1=wU
       .rw[aVs hs];by_cases hok:x.2.2.1=[]/\x.2.2.2=false/\sS=false
        .have hcond:x.2.2.1=[]/\x.2.2.2=false/\(sr,tg,cm,fd,sS,sT).2.2.2.2.1=false:=hok;rw[aVs hcond];have he1:e1=0:=hck.2 ⟨rfl,by rw[ho,aVS hok.1];rfl,by rw[hok.2.1,hs,hS,hok.2.2];rfl,rfl⟩;have m2':=m2 he1;cases hct:yA x ((tO l).map er) with
         |none=>rw[hct] at m2';exact hnone m2' _ rfl
         |some w=>
          obtain⟨s',r'⟩:=w;rw[hct] at m2';obtain⟨k1,k2,k3,k4⟩:=m2';subst k1 k3;rw[aVs hs] at hst;obtain⟨r,hr1,hr2,hr3,hr4⟩:=UG n l2 a2 0 s tg cm fd (tW .str .bool x.2.1 true m) true sT pG hl2 (p2.suf.cont hc1) (by rw[N1,hs,aVs rfl]) (by rw[N1,hs,aVv pH];exact hT) (fun _=>⟨hb1,hb2⟩);refine⟨r,by rw[vP hst];exact hr1,(hr2.trans p2.suf).trans hsk,fun h=>absurd rfl h,fun _=> ?_⟩;have hr4':=hr4 rfl;rw[k2] at hr4';dsimp only;cases hin:u7 (n+1) (s,tg,cm,fd,true,sT) r' with
          |none=>rw[hin] at hr4';exact hr4'
          |some w=>
           rw[hin] at hr4';exact⟨hr4'.1,hr4'.2.1,hr4'.2.2.1,hr4'.2.2.2.1,by have:=hr4'.2.2.2.2;omega⟩
        .have hcond: ¬(x.2.2.1=[]/\x.2.2.2=false/\(sr,tg,cm,fd,sS,sT).2.2.2.2.1=false):=hok;rw[aVv hcond];refine hnone (p2.bad fun he1=>hok ?_) _ rfl;obtain⟨_,q1,q2,_⟩:=hck.1 he1;rw[ho] at q1;rw[hs,hS,aWf] at q2;exact⟨by simpa using q1,q2.1,q2.2⟩
       .rw[aVv hs];have hs2:x.2.1=zB:=by
         rcases hst2 with h|h
         .exact absurd h hs
         .exact h
        rw[aVs hs2];by_cases hok:x.2.2.1=[]/\x.2.2.2=false/\sT=false
        .have hcond:x.2.2.1=[]/\x.2.2.2=false/\(sr,tg,cm,fd,sS,sT).2.2.2.2.2=false:=hok;rw[aVs hcond];have he1:e1=0:=hck.2 ⟨rfl,by rw[ho,aVS hok.1];rfl,by rw[hok.2.1,hs2,hT,hok.2.2];rfl,rfl⟩;have m2':=m2 he1;cases hct:yA x ((tO l).map er) with
         |none=>rw[hct] at m2';exact hnone m2' _ rfl
         |some w=>
          obtain⟨s',r'⟩:=w;rw[hct] at m2';obtain⟨k1,k2,k3,k4⟩:=m2';subst k1 k3;rw[aVv hs] at hst;obtain⟨r,hr1,hr2,hr3,hr4⟩:=UG n l2 a2 0 sr s cm fd (tW .str .bool x.2.1 true m) sS true pG hl2 (p2.suf.cont hc1) (by rw[N1,hs2,aVv pH];exact hS) (by rw[N1,hs2,aVs rfl]) (fun _=>⟨hb1,hb2⟩);refine⟨r,by rw[vP hst];exact hr1,(hr2.trans p2.suf).trans hsk,fun h=>absurd rfl h,fun _=> ?_⟩;have hr4':=hr4 rfl;rw[k2] at hr4';dsimp only;cases hin:u7 (n+1) (sr,s,cm,fd,sS,true) r' with
          |none=>rw[hin] at hr4';exact hr4'
          |some w=>
           rw[hin] at hr4';exact⟨hr4'.1,hr4'.2.1,hr4'.2.2.1,hr4'.2.2.2.1,by have:=hr4'.2.2.2.2;omega⟩
        .have hcond: ¬(x.2.2.1=[]/\x.2.2.2=false/\(sr,tg,cm,fd,sS,sT).2.2.2.2.2=false):=hok;rw[aVv hcond];refine hnone (p2.bad fun he1=>hok ?_) _ rfl;obtain⟨_,q1,q2,_⟩:=hck.1 he1;rw[ho] at q1;rw[hs2,hT,aWf] at q2;exact⟨by simpa using q1,q2.1,q2.2⟩
      ·
       have hs1: ¬x.2.1=wU:=fun h=>hst2 (.inl h);have hs2: ¬x.2.1=zB:=fun h=>hst2 (.inr h);rw[aVv hs1,aVv hs2];have hst:AB c en p ids (l,a,0,sr,tg,cm,fd,m)=some (.inl (tO l,(E3 (tO l) a 0 3).1,(E3 (tO l) a 0 3).2,sr,tg,cm,fd,m)):=by
        unfold AB;dsimp only;rw[C7 hl,aVq,aVs rfl,C8 hl1,aVq,aVs rfl,hx,aVv (by simpa using h30),aVv (by simpa using hkc),aVv (by simpa using hkf)];have hbn:(if (decide (x.2.1=wU))=true then some ((decide (x.2.1=wU))) else some ((decide (x.2.1=zB))))=some false:=by
         rw[aVv (by simpa using hs1),decide_eq_false hs2]
        unfold sQ;rw[hbn,aVq,aVv pH,KN hl1,aVq]
       obtain⟨r,hr1,hr2,hr3⟩:=Q9 (c:=c) (en:=en) (p:=p) (ids:=ids) hl1 (a:=(E3 (tO l) a 0 3).1) (GT (l:=tO l) a 0 (code:=3) pH) sr tg cm fd m;exact⟨r,by rw[vP hst];exact hr1,hr2.trans hsk,fun h=>absurd rfl h,fun _=>hr3⟩
  .obtain⟨r,hr1,hr2,hr3⟩:=Q9 (c:=c) (en:=en) (p:=p) (ids:=ids) hl (a:=a) he sr tg cm fd m;exact⟨r,hr1,hr2,fun _=>hr3,fun h=>absurd h he⟩
end
end
noncomputable section
theorem aKa:Lib.fields ((uG++[32])++([115,116,97,116,101,32,102,108,97,103,115]:pD))=[uG,xF,uM]:=by kernel_rfl
theorem aKb:Lib.fields uG=[uG]:=by kernel_rfl
def IN (l:pE):Bool:=decide ((Lib.compact (sN l)).length<(sN l).length)
def B0:FG:=([],[],[],[],false,false)
def yD (es:List s0) (x:xW) (L:List TE):Option (s0×List TE):=
  if (x.1=1∨x.1=2)∧x.2.1=zL∧xM x.2.2.1 [uG] [uG,xF,uM]=true∧x.2.2.1.any AZ=false∧x.2.2.2=false∧(es.any fun y=>decide (y.1=sC x.2.2.1 uG))=false∧
    IN (tZ (sC x.2.2.1 uM))=false∧(tZ (sC x.2.2.1 uM)).length≤20∧es.length≠1000 then
    (if x.1=1 then u7 L.length B0 (L.drop 1) else some (B0,L.drop 1)).map fun r=>
      ((sC x.2.2.1 uG,(r.1.1,(r.1.2.1,(r.1.2.2.1,(sN (tZ (sC x.2.2.1 uM)),(max 0 (AV (sC x.2.2.1 xF)),(r.1.2.2.2.1,()))))))),r.2)
  else none
theorem aRc {l:List sA}{n:pD}(h: ∀a∈l,a.2.1.length≤4000):(sC l n).length≤4000:=by
  have go: ∀(l:List sA) (v:pD),(∀a∈l,a.2.1.length≤4000)→v.length≤4000→(l.foldl (fun v a=>if n=a.1 then a.2.1 else v) v).length≤4000:=by
    intro l
    induction l with
    |nil=>intro v _ hv;exact hv
    | cons a l ih=>
      intro v hl hv;rw[List.foldl_cons];refine ih _ (fun b hb=>hl b (aVB _ hb)) ?_;split
      .exact hl a aVz
      .exact hv
  exact go l [] h pI
theorem aRd {s n v r:pD}(h:IM s=some (n,v,r)):sZ v=true:=by
  unfold IM at h;split at h
  .cases h
  · split at h
    .cases h
    · split at h
      .cases h
      · split at h
        · rename_i hv
          cases h;unfold xV at hv;split at hv
          · split at hv
            .rename_i ht;cases hv;exact ht
            .cases hv
          .cases hv
        .cases h
theorem aKc: ∀(n:Nat) (s:pD) (l:List sA) (tw:Bool) (l':List sA) (tw':Bool),E2 n s l tw=some (l',tw')→(∀a∈l,sZ a.2.1=true)→∀a∈l',sZ a.2.1=true
  |0,_,_,_,_,_,h,_=>by cases h
  | n+1,s,l,tw,l',tw',h,hl=>by
    unfold E2 at h;split at h
    .cases h;exact hl
    · split at h
      .cases h
      · rename_i a v rest ha
        split at h
        .cases h
        · refine aKc n _ _ _ _ _ h fun b hb=> ?_
          rcases aWd.1 hb with hb|hb
          .exact hl b hb
          .rw[aVJ.1 hb];exact aRd ha
theorem aRe (t:TE): ∀a∈(v7 t).2.2.1,sZ a.2.1=true:=by
  unfold v7;split
  · cases hr:AY t.2 with
    |none=>intro a ha;cases ha
    | some x=>
      show∀a∈x.2.2.1,_;unfold AY at hr;split at hr
      · split at hr
        .cases hr
        .cases hr;intro a ha;cases ha
      · dsimp only at hr
        generalize (if ((t.2.drop 1).take (t.2.length-2)).drop (t.2.length-3)=[47] then(((t.2.drop 1).take (t.2.length-2)).take (t.2.length-3),(2:Int)) else((t.2.drop 1).take (t.2.length-2),1))=u at hr;split at hr
        .cases hr
        · obtain⟨q,hq,rfl⟩:=aVA.1 hr
          exact aKc _ _ _ _ _ _ hq (fun a ha=>by cases ha)
  .intro a ha;cases ha
theorem aKd (L:List TE): ∀a∈(rS L).2.2.1,sZ a.2.1=true:=by
  cases L with
  |nil=>intro a ha;cases ha
  |cons t r=>exact aRe t
theorem aRf {x:pD}(h:sZ x=true):x.length≤4000:=AD h
section
variable {l:List tE}(hl:wT l) (hcn:C9 l) (a:Int) (c:sD) (en:pM×Unit) (ids:pK)
include hl hcn
theorem aRg (hids:N2 ids c.2.2.2.1) (hes:c.2.2.2.1.length≤1000) (hen:en.1.length≤5000): ∃l' a' e' es' en' ids',C5 l a 0 c en ids=some (l',a',e',es',en',ids')∧uU l' l∧
    (match yD c.2.2.2.1 (rS (l.map er)) (l.map er) with
      |some (y,r)=>e'=0∧l'.map er=r∧es'=c.2.2.2.1++[y]∧en'=en.1++[GW l']∧N2 ids' es'∧l'.length<l.length
      |none=>e'≠0):=by
  have hxl:=ZE hl;have htx:=aKd (l.map er);have hpk:=aJ8 hl;unfold C5;rw[C8 hl,aVq,aVs rfl];generalize rS (l.map er)=x at hxl htx hpk;obtain⟨v1,v2⟩:=Q6 x uG [115,116,97,116,101,32,102,108,97,103,115] hxl pH pH pH pH (by rw[aKa];decide) (by rw[aKb];decide);rw[aKa,aKb] at v1 v2;have hv4: ∀a∈x.2.2.1,a.2.1.length≤4000:=fun a ha=>aRf (htx a ha);have haw:=aQ8 (l:=x.2.2.1) hxl (fun a ha=>by have:=hv4 a ha;omega);have hsm: ∀n,(sC x.2.2.1 n).length≤4000:=fun n=>aRc hv4
  have hfl: ∀v:pD,v.length≤4000→(tZ v).length≤4001:=fun v hv=>by
    have h1:=aJ1 v;have h2:=aJ2 (tC v [32]);unfold tZ;omega
  have hclone: ∀q:pE,q.length≤4001→z7 q=some q:=fun q hq=>by
    unfold z7;rw[aVs pG];rfl
  by_cases h:xM x.2.2.1 [uG] [uG,xF,uM]=true
  · rw[h,aVs rfl] at v1
    rw[v1,aVs pV,aVq,UF,UF,UF];have hF:=hfl _ (hsm uM);have hS:(sN (tZ (sC x.2.2.1 uM))).length≤4001:=by rw[Z4];exact hF
    rw[aAU (by show (sC x.2.2.1 uM).length≤_;have:=hsm uM;omega),aVq];show∃l' a' e' es' en' ids',(if (tZ (sC x.2.2.1 uM)).length<4611686018427387904 then _ else none)=_∧_;rw[aVs pG,aVs (fun _=>by rw[haw];rfl),haw,hids];obtain⟨w,hw⟩: ∃w:Bool,((((!decide (x.1=(1:Int)))&&(!decide (x.1=(2:Int))))||(!decide (x.2.1=zL)))||val (some (x.2.2.1.any AZ)))=w:=⟨_,rfl⟩
    have hw':w=false↔(x.1=1∨x.1=2)∧x.2.1=zL∧x.2.2.1.any AZ=false:=by
      rw[←hw];show (_||x.2.2.1.any AZ)=false↔_
      simp only[aWf,aXh,aWM,aVE];constructor
      .rintro⟨⟨h1,h2⟩,h3⟩;exact⟨h1,h2,h3⟩
      .rintro⟨h1,h2,h3⟩;exact⟨⟨h1,h2⟩,h3⟩
    obtain⟨u,hu⟩: ∃u:Bool,((decide ((20:Int)<((sN (tZ (sC x.2.2.1 uM))).length:Int)))||(decide ((c.2.2.2.1.length:Int)=(1000:Int))))=u:=⟨_,rfl⟩
    have hu':u=false↔(tZ (sC x.2.2.1 uM)).length≤20∧c.2.2.2.1.length≠1000:=by
      rw[←hu,Z4];simp only[aWf,aWb];constructor
      .rintro⟨h1,h2⟩;exact⟨pG,pG⟩
      .rintro⟨h1,h2⟩;exact⟨pG,pG⟩
    have tail: ∀(q:Int×Int),q.2≠0∨(q.2=0∧(yD c.2.2.2.1 x (l.map er)=((if x.1=1 then u7 (l.map er).length B0 ((l.map er).drop 1) else some (B0,(l.map er).drop 1)).map fun r=>((sC x.2.2.1 uG,(r.1.1,(r.1.2.1,(r.1.2.2.1,(sN (tZ (sC x.2.2.1 uM)),(max 0 (AV (sC x.2.2.1 xF)),(r.1.2.2.2.1,()))))))),r.2)))∧(x.1=1∨x.1=2)∧c.2.2.2.1.length≠1000)→
        (q.2≠0→yD c.2.2.2.1 x (l.map er)=none)→
        ∃l' a' e' es' en' ids',(if (!decide (q.2=(0:Int)))=true then
         some ((l,q.1,q.2,c.2.2.2.1,en.1,ids))
        else
         (BW ([([110,101,119]:pD),([102,117,122,122,121]:pD),([116,114,97,110,115,108,97,116,101,100]:pD),([114,101,118,105,101,119,101,100]:pD),([111,98,115,111,108,101,116,101]:pD)]:pE) (sC x.2.2.1 xF)).bind fun O=>
         (y7 l q.1 q.2 (c.1,(c.2.1,(c.2.2.1,(c.2.2.2.1,())))) (en.1,()) (tW .str .bool (sC x.2.2.1 uG) true ids)).bind fun Z=>
         sQ (σ:=(Int×(List sH)×Int×Int×pD×pD×pE×(List r6))) (
           if (decide (x.1=(1:Int)))=true then
            (zK Z q.1 q.2 (c.1,(c.2.1,(c.2.2.1,(c.2.2.2.1,())))) (en.1,()) (sC x.2.2.1 uG,(([]:pD),(([]:pD),(([]:pE),((sN (tZ (sC x.2.2.1 uM))),((max (0:Int) O),(([]:List r6),()))))))) (tW .str .bool (sC x.2.2.1 uG) true ids)).bind fun aA=>
            some ((aA.1,aA.2.1,aA.2.2.1,aA.2.2.2.1,aA.2.2.2.2.1,aA.2.2.2.2.2.1,aA.2.2.2.2.2.2.1,aA.2.2.2.2.2.2.2))
           else
            some ((((qQ (.pair (.int .i64) (.pair .str (.pair (.int .i64) .unit))) l (0:Int)).2.2.1+(List.length ((qQ (.pair (.int .i64) (.pair .str (.pair (.int .i64) .unit))) l (0:Int)).2.1):Int)),Z,q.1,q.2,([]:pD),([]:pD),([]:pE),([]:List r6)))
          ) fun(aB,aC,aD,aE,aF,aG,aH,aI)=>
         if (List.length c.2.2.2.1+List.length ([(sC x.2.2.1 uG,(aF,(aG,(aH,((sN (tZ (sC x.2.2.1 uM))),((max (0:Int) O),(aI,())))))))]:List s0))*128≤140737488355328 then
          if (List.length en.1+List.length ([aB]:pM))*8≤140737488355328 then
           some ((aC,aD,aE,(c.2.2.2.1++([(sC x.2.2.1 uG,(aF,(aG,(aH,((sN (tZ (sC x.2.2.1 uM))),((max (0:Int) O),(aI,())))))))]:List s0)),(en.1++([aB]:pM)),(tW .str .bool (sC x.2.2.1 uG) true ids)))
          else none
         else none)=some (l',a',e',es',en',ids')∧uU l' l∧
        (match yD c.2.2.2.1 x (l.map er) with
          |some (y,r)=>e'=0∧l'.map er=r∧es'=c.2.2.2.1++[y]∧en'=en.1++[GW l']∧N2 ids' es'∧l'.length<l.length
          |none=>e'≠0):=by
      rintro⟨a1,e1⟩ hq hq0;dsimp only at hq hq0|-;by_cases he1:e1=0
      · subst he1
        rcases hq with hq|⟨_,hq,hform,hlen⟩
        .exact absurd rfl hq
        obtain⟨t,r,hlr,ht⟩:=hpk (by rcases hform with h|h<;>rw[h]<;>decide)
        subst hlr;have hmore:=hl.more (.inl ht)
        have hs1:x7 (t::r) 0=r:=by
          unfold x7;rw[aVs ⟨rfl,hmore⟩];rfl
        have hr:r≠[]:=by rintro rfl;simp at hmore
        have hsuf:uU r (t::r):=⟨1,hmore,rfl⟩;have hl1:=hsuf.ok hl;have hc1:=hsuf.cont hcn;rw[aVv pI];show∃l' a' e' es' en' ids',(BW IG (sC x.2.2.1 xF)).bind _=_∧_;rw[aQ9,aVq,FF hl,hs1,aVq];rw[hq];by_cases hf1:x.1=1
        · rw[aVs (aVS hf1),aVs hf1]
          obtain⟨w8,hw1,hw2,hw3,hw4⟩:=UG (c:=(c.1,(c.2.1,(c.2.2.1,(c.2.2.2.1,()))))) (en:=(en.1,())) (p:=(sC x.2.2.1 uG,(([]:pD),(([]:pD),(([]:pE),((sN (tZ (sC x.2.2.1 uM))),((max (0:Int) (AV (sC x.2.2.1 xF))),(([]:List r6),())))))))) (ids:=tW .str .bool (sC x.2.2.1 uG) true ids) r.length r a1 0 [] [] [] [] [] false false (aVR _) hl1 hc1 rfl rfl (fun _=>⟨by simp,by simp⟩)
          have hins:zK r a1 0 (c.1,(c.2.1,(c.2.2.1,(c.2.2.2.1,())))) (en.1,()) (sC x.2.2.1 uG,(([]:pD),(([]:pD),(([]:pE),((sN (tZ (sC x.2.2.1 uM))),((max (0:Int) (AV (sC x.2.2.1 xF))),(([]:List r6),()))))))) (tW .str .bool (sC x.2.2.1 uG) true ids)=some w8:=by
            unfold zK;exact hw1
          unfold sQ;rw[hins,aVq,aVq];dsimp only;rw[aVs (by simp only[aVw,aVD];omega),aVs (by simp only[aVw,aVD];omega)];refine⟨_,_,_,_,_,_,rfl,hw2.trans hsuf,?_⟩;have hw4':=hw4 rfl;have hdr:((t::r).map er).drop 1=r.map er:=rfl;have hln:((t::r).map er).length=r.length+1:=by simp
          rw[hdr,hln];unfold B0;cases hin:u7 (r.length+1) ([],[],[],[],false,false) (r.map er) with
          |none=>rw[hin] at hw4';exact hw4'
          | some v=>
            rw[hin] at hw4';obtain⟨k1,k2,k3,k4,k5⟩:=hw4';obtain⟨z1,z2,z3,z4,z5⟩:=w8;dsimp only at k1 k2 k3 k4 k5|-;subst k3;refine⟨k1,k2,rfl,by rw[k4],?_,by simp only[aVw];omega⟩;exact aAz hids _ _ rfl
        · rw[aVv (by simpa using hf1),aVv hf1]
          unfold sQ;rw[aVq];dsimp only;rw[aVs (by simp only[aVw,aVD];omega),aVs (by simp only[aVw,aVD];omega)];refine⟨_,_,_,_,_,_,rfl,hsuf,rfl,rfl,rfl,?_,?_,by simp⟩
          .rw[N5,aAX hcn hr]
          .exact aAz hids _ _ rfl
      · rw[aVs (by simpa using he1)]
        refine⟨_,_,_,_,_,_,rfl,uU.refl hl,?_⟩;rw[hq0 he1];exact he1
    have hspec: ∀(tw:Bool) (q:Int×Int),AE l a 0 w tw u=q→(tw=false↔x.2.2.2=false∧(c.2.2.2.1.any fun y=>decide (y.1=sC x.2.2.1 uG))=false∧IN (tZ (sC x.2.2.1 uM))=false)→
        (q.2≠0∨(q.2=0∧(yD c.2.2.2.1 x (l.map er)=((if x.1=1 then u7 (l.map er).length B0 ((l.map er).drop 1) else some (B0,(l.map er).drop 1)).map fun r=>((sC x.2.2.1 uG,(r.1.1,(r.1.2.1,(r.1.2.2.1,(sN (tZ (sC x.2.2.1 uM)),(max 0 (AV (sC x.2.2.1 xF)),(r.1.2.2.2.1,()))))))),r.2)))∧(x.1=1∨x.1=2)∧c.2.2.2.1.length≠1000))∧
        (q.2≠0→yD c.2.2.2.1 x (l.map er)=none):=by
      rintro tw q rfl htw;have hck:=GU (l:=l) a 0 w tw u;constructor
      · by_cases h0:(AE l a 0 w tw u).2=0
        · right
          obtain⟨_,k1,k2,k3⟩:=hck.1 h0;have j1:=hw'.1 k1;have j2:=htw.1 k2;have j3:=hu'.1 k3;refine⟨h0,?_,j1.1,j3.2⟩;unfold yD;rw[aVs ⟨j1.1,j1.2.1,h,j1.2.2,j2.1,j2.2.1,j2.2.2,j3.1,j3.2⟩]
        .exact .inl h0
      · intro h0
        unfold yD;rw[aVv];rintro⟨j1,j2,_,j4,j5,j6,j7,j8,j9⟩;exact h0 (hck.2 ⟨rfl,hw'.2 ⟨j1,j2,j4⟩,htw.2 ⟨j5,j6,j7⟩,hu'.2 ⟨j8,j9⟩⟩)
    by_cases hG:((x.2.2.2||(c.2.2.2.1.any fun y=>decide (y.1=sC x.2.2.1 uG)))==false)=true
    · rw[aVs hG]
      have hcl:=hclone (sN (tZ (sC x.2.2.1 uM))) hS;show∃l' a' e' es' en' ids',(if _→(z7 (sN (tZ (sC x.2.2.1 uM)))).isSome=true then _ else none)=_∧_;rw[aVs (fun _=>by rw[hcl];rfl)];show∃l' a' e' es' en' ids',(if _→(val (z7 (sN (tZ (sC x.2.2.1 uM))))).length≤9223372036854775807 then _ else none)=_∧_;rw[aVs (fun _=>by rw[hcl];show (sN _).length≤_;omega),C6 hl,aVq]
      have hd:decide ((((List.length (Lib.compact (val (z7 (sN (tZ (sC x.2.2.1 uM))))))):Nat):Int)<(List.length (sN (tZ (sC x.2.2.1 uM))):Int))=IN (tZ (sC x.2.2.1 uM)):=by
        rw[hcl];unfold IN;exact aWT.2 (by show ((Lib.compact (sN (tZ (sC x.2.2.1 uM)))).length:Int)<_↔_;omega)
      obtain⟨s1,s2⟩:=hspec ((x.2.2.2||(c.2.2.2.1.any fun y=>decide (y.1=sC x.2.2.1 uG)))||IN (tZ (sC x.2.2.1 uM))) _ rfl (by simp only[aWf];exact⟨fun⟨⟨p,q⟩,r⟩=>⟨p,q,r⟩,fun⟨p,q,r⟩=>⟨⟨p,q⟩,r⟩⟩)
      obtain⟨l',a',e',es',en',ids',k1,k2,k3⟩:=tail _ s1 s2;refine⟨l',a',e',es',en',ids',?_,k2,k3⟩;rw[←k1,←hd,←hw,←hu];rfl
    · rw[aVv hG,C6 hl,aVq]
      have hG':(x.2.2.2||(c.2.2.2.1.any fun y=>decide (y.1=sC x.2.2.1 uG)))=true:=(by decide: ∀b:Bool,¬(b==false)=true→b=true) _ hG
      obtain⟨s1,s2⟩:=hspec true _ rfl (by
        constructor
        .intro h;cases h
        .rintro⟨p,q,_⟩;rw[p,q] at hG';cases hG')
      obtain⟨l',a',e',es',en',ids',k1,k2,k3⟩:=tail _ s1 s2;refine⟨l',a',e',es',en',ids',?_,k2,k3⟩;rw[←k1,←hw,←hu];rfl
  ·
    have h':xM x.2.2.1 [uG] [uG,xF,uM]=false:=by simpa using h
    have hno:yD c.2.2.2.1 x (l.map er)=none:=by
      unfold yD;rw[aVv (fun hh=>h hh.2.2.1)]
    rw[h',aVv pH] at v1;have hF0:(tZ []).length≤4001:=hfl [] pI;have hS0:(sN (tZ [])).length≤4001:=by rw[Z4];exact hF0
    have hcl:=hclone (sN (tZ [])) hS0;rw[v1,aVv pH,v2 h',aVq,aAU pI,aVq];show∃l' a' e' es' en' ids',(if (tZ []).length<4611686018427387904 then _ else none)=_∧_;rw[aVs pG,aVs (fun _=>by rw[haw];rfl),haw,hno]
    have bad: ∀(w tw u:Bool),w=true→(AE l a 0 w tw u).2≠0:=fun w tw u hw h0=>by
      have:=((GU (l:=l) a 0 w tw u).1 h0).2.1;rw[hw] at this;cases this
    by_cases hG:((x.2.2.2||(s8 .str .bool ids ([]:pD)))==false)=true
    · rw[aVs hG]
      show∃l' a' e' es' en' ids',(if _→(z7 (sN (tZ []))).isSome=true then _ else none)=_∧_;rw[aVs (fun _=>by rw[hcl];rfl)];show∃l' a' e' es' en' ids',(if _→(val (z7 (sN (tZ [])))).length≤9223372036854775807 then _ else none)=_∧_;rw[aVs (fun _=>by rw[hcl];show (sN _).length≤_;omega),C6 hl,aVq]
      have hb:=bad (((((!decide (x.1=(1:Int)))&&(!decide (x.1=(2:Int))))||(!decide (x.2.1=zL)))||true)||val (some (x.2.2.1.any AZ)))
        ((x.2.2.2||(s8 .str .bool ids ([]:pD)))||(decide ((((List.length (Lib.compact (val (z7 (sN (tZ [])))))):Nat):Int)<(List.length (sN (tZ [])):Int))))
        ((decide ((20:Int)<(List.length (sN (tZ [])):Int)))||(decide ((List.length c.2.2.2.1:Int)=(1000:Int)))) pI
      rw[aVs]
      .exact⟨_,_,_,_,_,_,rfl,uU.refl hl,hb⟩
      · simp only[aVV,aWb]
        exact hb
    · rw[aVv hG,C6 hl,aVq]
      have hb:=bad (((((!decide (x.1=(1:Int)))&&(!decide (x.1=(2:Int))))||(!decide (x.2.1=zL)))||true)||val (some (x.2.2.1.any AZ))) true
        ((decide ((20:Int)<(List.length (sN (tZ [])):Int)))||(decide ((List.length c.2.2.2.1:Int)=(1000:Int)))) pI
      rw[aVs]
      .exact⟨_,_,_,_,_,_,rfl,uU.refl hl,hb⟩
      · simp only[aVV,aWb]
        exact hb
end
end
noncomputable section
theorem aKe:Lib.fields ((wJ++[32])++([]:pD))=[wJ]:=by kernel_rfl
theorem aKf:Lib.fields wJ=[wJ]:=by kernel_rfl
abbrev GX:=pE×List sA
def wK:Nat->GX->List TE->Option (GX×List TE)
 |0,_,_=>none
 |n+1,st,L=>
  if (rS (r9 L)).2.1=yQ/\(rS (r9 L)).1≠3 then(match AF (rS (r9 L)) st.1 (r9 L) with
   |some (cs,r)=>wK n (cs,st.2) r
   |none=>none)
  else if (rS (r9 L)).2.1=yB/\(rS (r9 L)).1≠3 then(match AG (rS (r9 L)) st.2 (r9 L) with
   |some (fs,r)=>wK n (st.1,fs) r
   |none=>none)
  else if (rS (r9 L)).1=1/\(rS (r9 L)).2.1=yC/\(rS (r9 L)).2.2.1=[]/\(rS (r9 L)).2.2.2=false then some (st,(r9 L).drop 1)
  else none
def FH (L:List TE):Option (pD×GX×List TE):=
 if (rS (r9 L)).1=1/\(rS (r9 L)).2.1=zC/\xM (rS (r9 L)).2.2.1 [wJ] [wJ]=true/\((rS (r9 L)).2.2.1.all fun a=>wI a.2.1)=true/\(rS (r9 L)).2.2.2=false then
  (wK (r9 L).length ([],[]) ((r9 L).drop 1)).map fun r=>(sC (rS (r9 L)).2.2.1 wJ,r.1,r.2)
 else none
theorem aKg {l:List tE}(hl:wT l) {x:xW}(hx:rS (l.map er)=x) (h:x.2.1≠[]): ∃t r,l=t::r/\t.1=2:=by
 obtain⟨t,r,rfl⟩:=hl.head;refine⟨t,r,rfl,?_⟩;by_cases h2:t.1=2
 .exact h2
 .have:v7 (er t)=eN:=by unfold v7;exact aVv h2
  have hx':v7 (er t)=x:=hx;rw[<-hx',this] at h;exact absurd rfl h
theorem aKh {x:xW}(hx:x.2.2.1.length<=1000000000) {f:Bool×Int->Option ((Bool×Int)⊕Bool)}(hf:f=TX x\/f=TY x):
  rO f (true,(0:Int))=some (x.2.2.1.all fun a=>wI a.2.1):=by
 have h:=aAV (f:=f) (l:=x.2.2.1) (fun a=>wI a.2.1) (fun i h g=>by
  rcases hf with rfl|rfl
  .unfold TX;dsimp only;rw[aVs (uS h),aVs (sY h),N7 h,aAj,aVs (by exact fun _=>rfl),aVs (vF pG)];rfl
  .unfold TY;dsimp only;rw[aVs (uS h),aVs (sY h),N7 h,aAj,aVs (by exact fun _=>rfl),aVs (vF pG)];rfl) (fun g=>by
  rcases hf with rfl|rfl
  .unfold TX;dsimp only;rw[aVv (vJ _)]
  .unfold TY;dsimp only;rw[aVv (vJ _)]) x.2.2.1.length 0 true pG
 rw[aWH,Bool.true_and] at h;exact h
section
variable {c:sD}{en:pM×Unit}{ids:pK}{mm:List (pD×pD)}
abbrev HR:=((List sH)×Int×Int)⊕((List sH)×Int×Int×pD×pE×(List r6)×pM)
def UH (l:List tE) (r:HR):Prop:= ∃l' a' e',uU l' l/\e'≠0/\(r= .inl (l',a',e')\/∃q,r= .inr (l',a',e',q))
theorem UH.trans {l l2:List tE}{r:HR}(h:UH l2 r) (k:uU l2 l):UH l r:=by
 obtain⟨l',a',e',h1,h2,h3⟩:=h;exact⟨l',a',e',h1.trans k,h2,h3⟩
theorem aKi {l:List tE}(hl:wT l) {a e:Int}(he:e≠0) (f:Int) (nm:pD) (at':List r6) (tw:Bool) (cm:pE) (fd:List sA):
  ∃r,rO (D4 c en ids mm) (l,a,e,f,nm,at',tw,cm,fd)=some r/\UH l r:=by
 refine⟨.inl (l,a,e),uL ?_,l,a,e,uU.refl hl,he,.inl rfl⟩;unfold D4;dsimp only;rw[aVv (by simpa using he)]
theorem aAY (hen:en.1.length<=1000): ∀(n:Nat) (l:List tE) (a:Int) (f:Int) (nm:pD) (at':List r6) (tw:Bool) (cm:pE) (fd:List sA),
  l.length<=n->wT l->C9 l->cm.length<=20->fd.length<=20->
  ∃r,rO (D4 c en ids mm) (l,a,0,f,nm,at',tw,cm,fd)=some r/\(match wK (n+1) (cm,fd) (l.map er) with
   |some (st,q)=> ∃l' a',r= .inr (l',a',0,s8 .str .str mm wJ,st.1,st.2,en.1++[GW l'])/\l'.map er=q/\uU l' l/\l'.length<l.length
   |none=>UH l r)
 |n,l,a,f,nm,at',tw,cm,fd,hn,hl,hcn,hb1,hb2=>by
  have hsk:=KO hl;have hl1:=hsk.ok hl;have hc1:=hsk.cont hcn;have hle1:=hsk.le;have her:=Q4 l;have hxl:=ZE hl1;unfold wK;rw[<-her];generalize hx:rS ((tO l).map er)=x at hxl;have hhd:x.2.1≠[]->(0:Int)=0->∃t r,tO l=t::r/\t.1=2:=fun h _=>aKg hl1 hx h;have hnp:0<l.length:=aVX.2 hl.ne;obtain⟨n,rfl⟩: ∃k,n=k+1:=⟨n-1,pG⟩;by_cases hkc:x.2.1=yQ/\x.1≠3
  .rw[aVs hkc];obtain⟨l2,a2,e2,cs,h2,p2,m2⟩:=aJ5 hl1 a 0 (s8 .str .str mm wJ,(c.2.1,(c.2.2.1,(c.2.2.2.1,())))) (en.1,()) ids x (([]:pD),(([]:pD),(([]:pD),(cm,(([]:pE),((0:Int),(fd,()))))))) (hhd (by rw[hkc.1];decide)) hxl (by dsimp only;omega);have hst:D4 c en ids mm (l,a,0,f,nm,at',tw,cm,fd)=some (.inl (l2,a2,e2,x.1,x.2.1,x.2.2.1,x.2.2.2,cs,fd)):=by
    unfold D4;dsimp only;rw[aVs pH,C7 hl,aVq,aVs rfl,C8 hl1,aVq,aVs rfl,hx,aVs (by simpa using hkc),h2,aVq]
   have m2':=m2 rfl;dsimp only at m2';have hl2:=p2.suf.ok hl1;have hs2:=p2.suf.trans hsk;cases hcm:AF x cm ((tO l).map er) with
   |none=>
    rw[hcm] at m2';obtain⟨r,hr1,hr2⟩:=aKi (c:=c) (en:=en) (ids:=ids) (mm:=mm) hl2 (a:=a2) m2' x.1 x.2.1 x.2.2.1 x.2.2.2 cs fd;exact⟨r,by rw[vP hst];exact hr1,hr2.trans hs2⟩
   |some cr=>
    obtain⟨cs',r'⟩:=cr;rw[hcm] at m2';obtain⟨k1,k2,k3,k4⟩:=m2';subst k1 k3;have hcs:cs.length<=20:=by
     unfold AF at hcm;split at hcm
     .rename_i hh;obtain⟨q,_,hq⟩:=aVA.1 hcm;have:=aVL Prod.fst hq;dsimp only at this;rw[<-this,aVu];simp only[aVw,aVD];have:=hh.2.2;omega
     .cases hcm
    obtain⟨r,hr1,hr2⟩:=aAY hen n l2 a2 x.1 x.2.1 x.2.2.1 x.2.2.2 cs fd pG hl2 (p2.suf.cont hc1) hcs hb2;refine⟨r,by rw[vP hst];exact hr1,?_⟩;rw[k2] at hr2;dsimp only;cases hin:wK (n+1) (cs,fd) r' with
    |none=>rw[hin] at hr2;exact hr2.trans hs2
    |some w=>
     rw[hin] at hr2;obtain⟨l',a',q1,q2,q3,q4⟩:=hr2;exact⟨l',a',q1,q2,q3.trans hs2,pG⟩
  .rw[aVv hkc];by_cases hkf:x.2.1=yB/\x.1≠3
   .rw[aVs hkf];obtain⟨l2,a2,e2,fs,h2,p2,m2⟩:=aJ7 hl1 a 0 (s8 .str .str mm wJ,(c.2.1,(c.2.2.1,(c.2.2.2.1,())))) (en.1,()) ids x (([]:pD),(([]:pD),(([]:pD),(cm,(([]:pE),((0:Int),(fd,()))))))) (hhd (by rw[hkf.1];decide)) hxl (by dsimp only;omega);have hst:D4 c en ids mm (l,a,0,f,nm,at',tw,cm,fd)=some (.inl (l2,a2,e2,x.1,x.2.1,x.2.2.1,x.2.2.2,cm,fs)):=by
     unfold D4;dsimp only;rw[aVs pH,C7 hl,aVq,aVs rfl,C8 hl1,aVq,aVs rfl,hx,aVv (by simpa using hkc),aVs (by simpa using hkf),h2,aVq]
    have m2':=m2 rfl;dsimp only at m2';have hl2:=p2.suf.ok hl1;have hs2:=p2.suf.trans hsk;cases hcm:AG x fd ((tO l).map er) with
    |none=>
     rw[hcm] at m2';obtain⟨r,hr1,hr2⟩:=aKi (c:=c) (en:=en) (ids:=ids) (mm:=mm) hl2 (a:=a2) m2' x.1 x.2.1 x.2.2.1 x.2.2.2 cm fs;exact⟨r,by rw[vP hst];exact hr1,hr2.trans hs2⟩
    |some cr=>
     obtain⟨fs',r'⟩:=cr;rw[hcm] at m2';obtain⟨k1,k2,k3,k4⟩:=m2';subst k1 k3;have hcs:fs.length<=20:=by
      unfold AG at hcm;split at hcm
      .rename_i hh;obtain⟨q,_,hq⟩:=aVA.1 hcm;have:=aVL Prod.fst hq;dsimp only at this;rw[<-this];have h3:=aI4 fd (sC x.2.2.1 vL) q.1;have:=hh.2.2.2.2;omega
      .cases hcm
     obtain⟨r,hr1,hr2⟩:=aAY hen n l2 a2 x.1 x.2.1 x.2.2.1 x.2.2.2 cm fs pG hl2 (p2.suf.cont hc1) hb1 hcs;refine⟨r,by rw[vP hst];exact hr1,?_⟩;rw[k2] at hr2;dsimp only;cases hin:wK (n+1) (cm,fs) r' with
     |none=>rw[hin] at hr2;exact hr2.trans hs2
     |some w=>
      rw[hin] at hr2;obtain⟨l',a',q1,q2,q3,q4⟩:=hr2;exact⟨l',a',q1,q2,q3.trans hs2,pG⟩
   .rw[aVv hkf];obtain⟨v1,v2⟩:=Q6 x [] [] hxl pH pH pH pH (by rw[Q7];decide) (by rw[Q8];decide);rw[Q7,Q8,aAW] at v1 v2;obtain⟨o,ho⟩: ∃o:Bool,o=decide (x.2.2.1=[]):=⟨_,rfl⟩;have hck:=GU (l:=tO l) a 0 (((!decide (x.1=(1:Int)))||(!decide (x.2.1=yC)))||(!o)) x.2.2.2 false
    generalize hq:AE (tO l) a 0 (((!decide (x.1=(1:Int)))||(!decide (x.2.1=yC)))||(!o)) x.2.2.2 false=q at hck
    obtain⟨a1,e1⟩:=q;dsimp only at hck;have hst:D4 c en ids mm (l,a,0,f,nm,at',tw,cm,fd)=some (.inr (.inr (x7 (tO l) e1,a1,e1,s8 .str .str mm wJ,cm,fd,en.1++[(qQ (.pair (.int .i64) (.pair .str (.pair (.int .i64) .unit))) (tO l) 0).2.2.1+((qQ (.pair (.int .i64) (.pair .str (.pair (.int .i64) .unit))) (tO l) 0).2.1.length:Int)]))):=by
     unfold D4;dsimp only;rw[aVs pH,C7 hl,aVq,aVs rfl,C8 hl1,aVq,aVs rfl,hx,aVv (by simpa using hkc),aVv (by simpa using hkf)];cases o with
     |true=>
      rw[<-ho,aVs rfl] at v1;simp only[Bool.not_true,Bool.or_false] at hq;rw[v1,aVs pV,aVq,C6 hl1,hq,aVq];dsimp only;rw[FF hl1,aVq,aVs (by simp only[aVw,aVD];omega)]
     |false=>
      rw[<-ho,aVv pH] at v1;simp only[Bool.not_false] at hq;rw[v1,aVv pH,v2 ho.symm,aVq,C6 hl1,hq,aVq];dsimp only;rw[FF hl1,aVq,aVs (by simp only[aVw,aVD];omega)]
    refine⟨_,uL hst,?_⟩;have hs2:=(KM hl1 e1).trans hsk;by_cases hok:x.1=1/\x.2.1=yC/\x.2.2.1=[]/\x.2.2.2=false
    .rw[aVs hok];have he1:e1=0:=hck.2 ⟨rfl,by rw[ho,aVS hok.1,aVS hok.2.1,aVS hok.2.2.1];rfl,hok.2.2.2,rfl⟩;subst he1;obtain⟨t,r,hlr,ht⟩:=hhd (by rw[hok.2.1];decide) rfl;rw[hlr] at hl1 hc1 hs2 hle1|-;have hmore:=hl1.more (.inl ht);have hs1:x7 (t::r) 0=r:=by
      unfold x7;rw[aVs ⟨rfl,hmore⟩];rfl
     have hr:r≠[]:=by rintro rfl;simp at hmore
     rw[hs1] at hs2|-;refine⟨r,a1,?_,rfl,hs2,by simp only[aVw] at hle1;omega⟩;rw[N5,aAX hc1 hr]
    .rw[aVv hok];refine⟨_,_,_,hs2,fun h0=>hok ?_,.inr ⟨_,rfl⟩⟩;obtain⟨_,k1,k2,_⟩:=hck.1 h0;rw[ho] at k1;simp only[aWf,aWM,aVE] at k1;exact⟨k1.1.1,k1.1.2,k1.2,k2⟩
end
abbrev c0:sD:=(([]:pD),(([]:pE),(([]:List r6),(([]:List s0),()))))
theorem aRh {l:List tE}(hl:wT l) (hcn:C9 l): ∃l' a' e' tag cms fds en',C3 l 0 0 c0 ([],()) []=some (l',a',e',tag,cms,fds,en')/\uU l' l/\(match FH (l.map er) with
  |some (tg,st,q)=>e'=0/\l'.map er=q/\tag=tg/\cms=st.1/\fds=st.2/\en'=[GW l']/\l'.length<l.length
  |none=>e'≠0):=by
 have hsk:=KO hl;have hl1:=hsk.ok hl;have hc1:=hsk.cont hcn;have hle1:=hsk.le;have her:=Q4 l;have hxl:=ZE hl1;unfold FH C3;rw[C7 hl,aVq,aVs rfl,C8 hl1,aVq,aVs rfl,<-her];generalize hx:rS ((tO l).map er)=x at hxl;obtain⟨v1,v2⟩:=Q6 x wJ [] hxl pH pH pH pH (by rw[aKe];decide) (by rw[aKf];decide);rw[aKe,aKf] at v1 v2;by_cases h:xM x.2.2.1 [wJ] [wJ]=true
 .rw[h,aVs rfl] at v1;rw[v1,aVs pV,aVq,aKh hxl (.inl rfl)];unfold sQ;rw[aVq,C6 hl1,aVq];have hck:=GU (l:=tO l) 0 0 (((!decide (x.1=(1:Int)))||(!decide (x.2.1=zC)))||(!(x.2.2.1.all fun a=>wI a.2.1))) x.2.2.2 false
  dsimp only;generalize AE (tO l) 0 0 (((!decide (x.1=(1:Int)))||(!decide (x.2.1=zC)))||(!(x.2.2.1.all fun a=>wI a.2.1))) x.2.2.2 false=q at hck|-
  obtain⟨a1,e1⟩:=q;dsimp only at hck|-;rw[FF hl1,aVq];have hs1:=KM hl1 e1;have hl2:=hs1.ok hl1;by_cases he1:e1=0
  .subst he1;obtain⟨_,k1,k2,_⟩:=hck.1 rfl;simp only[aWf,aWM,aVE] at k1;rw[aVs ⟨k1.1.1,k1.1.2,h,k1.2,k2⟩];obtain⟨t,r,hlr,ht⟩:=aKg hl1 hx (by rw[k1.1.2];decide);have hmore:1<(t::r).length:=by rw[hlr] at hl1;exact hl1.more (.inl ht)
   have hst:x7 (tO l) 0=r:=by
    unfold x7;rw[hlr,aVs ⟨rfl,hmore⟩];rfl
   rw[hst] at hs1 hl2|-;obtain⟨w,hw1,hw2⟩:=aAY (c:=c0) (en:=([],())) (ids:=[]) (mm:=GV x.2.2.1) pI r.length r a1 x.1 x.2.1 x.2.2.1 x.2.2.2 [] [] (aVR _) hl2 (hs1.cont hc1) pI pI;have hlen:((tO l).map er).length=r.length+1:=by rw[hlr];simp
   have hdr:((tO l).map er).drop 1=r.map er:=by rw[hlr];rfl
   rw[hlen,hdr,hw1];cases hin:wK (r.length+1) ([],[]) (r.map er) with
   |none=>
    rw[hin] at hw2;obtain⟨l',a',e',q1,q2,q3|⟨z,q3⟩⟩:=hw2
    .subst q3;exact⟨_,_,_,_,_,_,_,rfl,(q1.trans hs1).trans hsk,q2⟩
    .subst q3;obtain⟨z1,z2,z3,z4⟩:=z;exact⟨_,_,_,_,_,_,_,rfl,(q1.trans hs1).trans hsk,q2⟩
   |some v=>
    obtain⟨st,q⟩:=v;rw[hin] at hw2;obtain⟨l',a',q1,q2,q3,q4⟩:=hw2;subst q1;refine⟨_,_,_,_,_,_,_,rfl,(q3.trans hs1).trans hsk,rfl,q2,UF _ _,rfl,rfl,rfl,?_⟩;have:=hs1.le;omega
  .have hst:D4 c0 ([],()) [] (GV x.2.2.1) (x7 (tO l) e1,a1,e1,x.1,x.2.1,x.2.2.1,x.2.2.2,[],[])=some (.inr (.inl (x7 (tO l) e1,a1,e1))):=by
    unfold D4;dsimp only;rw[aVv (by simpa using he1)]
   rw[uL hst,aVv]
   .exact⟨_,_,_,_,_,_,_,rfl,hs1.trans hsk,he1⟩
   .rintro⟨k1,k2,_,k4,k5⟩;exact he1 (hck.2 ⟨rfl,by rw[aVS k1,aVS k2,k4];rfl,k5,rfl⟩)
 .have h':xM x.2.2.1 [wJ] [wJ]=false:=by simpa using h
  rw[h',aVv pH] at v1;rw[v1,aVv pH,v2 h',aVq,aKh hxl (.inr rfl)];unfold sQ;rw[aVq,C6 hl1,aVq];have hck:=GU (l:=tO l) 0 0 ((((!decide (x.1=(1:Int)))||(!decide (x.2.1=zC)))||true)||(!(x.2.2.1.all fun a=>wI a.2.1))) x.2.2.2 false
  dsimp only;generalize AE (tO l) 0 0 ((((!decide (x.1=(1:Int)))||(!decide (x.2.1=zC)))||true)||(!(x.2.2.1.all fun a=>wI a.2.1))) x.2.2.2 false=q at hck|-
  obtain⟨a1,e1⟩:=q;dsimp only at hck|-;have he1:e1≠0:=fun h0=>by
   have:=(hck.1 h0).2.1;simp at this
  rw[FF hl1,aVq];have hst:YT c0 ([],()) [] (x7 (tO l) e1,a1,e1,x.1,x.2.1,x.2.2.1,x.2.2.2,[],[])=some (.inr (.inl (x7 (tO l) e1,a1,e1))):=by
   unfold YT;dsimp only;rw[aVv (by simpa using he1)]
  rw[uL hst,aVv (fun hh=>h hh.2.2.1)];exact⟨_,_,_,_,_,_,_,rfl,(KM hl1 e1).trans hsk,he1⟩
end
noncomputable section
def IP:Nat→pD→List TE
  |0,_=>[]
  |n+1,s=>if s=[] then[(4,[])] else s9 s::(if (s9 s).1=0 then[] else IP n (s.drop (s9 s).2.length))
def vG (s:pD):List TE:=IP (s.length+1) s
theorem aKj (s:pD): ∀(n i:Nat),(xC s n i).map er=IP n (s.drop i)
  |0,i=>rfl
  | n+1,i=>by
    unfold xC IP;by_cases h:i<s.length
    · have hne:s.drop i≠[]:=by
        intro e;have:=aVL List.length e;rw[aVO,aVD] at this;omega
      rw[aVs h,aVv hne,aWy];show s9 (s.drop i)::_=_;congr 1;split
      .rfl
      .rw[aKj s n,aXa]
    · have hnil:s.drop i=[]:=List.drop_eq_nil_of_le pG
      rw[aVv h,aVs hnil];rfl
theorem aRi (s:pD):(yZ s).map er=vG s:=by
  have:=aKj s (s.length+1) 0;rw[aWH] at this;exact this
theorem QA {s:pD}(hs:s≠[]):(s9 s).2.length≤s.length∧((s9 s).1≠0→0<(s9 s).2.length)∧((s9 s).1=2→2≤(s9 s).2.length)∧((s9 s).1=0∨(s9 s).1=1∨(s9 s).1=2∨(s9 s).1=3):=by
  have hle:=a2Y s hs;have hpos:0<s.length:=aVX.2 hs;unfold s9;split
  .exact⟨by simp,fun h=>absurd rfl h,fun h=>by simp at h,.inl rfl⟩
  · rename_i h0
    rw[aVQ];refine⟨pG,fun _=>by omega,fun h2=> ?_,?_⟩
    · dsimp only at h2|-
      have hfn:(wA s).2=BE s+1∧s.head? =some 60:=by
        unfold wA at h2 h0|-;split at h2
        .simp at h2
        · rename_i hn
          rw[aVv hn] at h0|-;split at h2
          · rename_i h60
            rw[aVs h60] at h0|-;dsimp only at h0|-;split at h0
            .exact absurd pH h0
            · rename_i hz
              rw[aVv hz];exact⟨rfl,h60⟩
          .simp at h2
      have hc:BE s≠0:=by
        cases s with
        |nil=>exact absurd rfl hs
        | cons b r=>
          have hb:b=60:=by simpa using hfn.2
          subst hb;unfold BE clo;rw[aVv pH,aVv pH];cases clo false r with
          |none=>decide
          |some k=>show ((k+1:Nat):Int)≠0;omega
      have:=a2X s;rw[hfn.1];rw[hfn.1] at h0;omega
    · unfold wA
      split
      .exact .inr (.inl rfl)
      · split
        .exact .inr (.inr (.inl rfl))
        .exact .inr (.inr (.inr rfl))
theorem aKk {s:pD}{n i:Nat}(hn:s.length<n+i) (hi:i≤s.length): ∃t r,xC s n i=t::r∧t.2.2.1=(i:Int):=by
  cases n with
  |zero=>omega
  | succ n=>
    unfold xC;split
    .exact⟨_,_,rfl,rfl⟩
    .exact⟨_,_,rfl,by show (s.length:Int)=i;omega⟩
theorem aAZ (s:pD) (hs:s.length≤900000000): ∀(n i:Nat),s.length<n+i→i≤s.length→
    (∀t∈xC s n i,t.2.1.length≤s.length∧(i:Int)≤t.2.2.1∧t.2.2.1≤s.length∧(t.1=2→2≤t.2.1.length))∧(∀t,(xC s n i).getLast? =some t→t.1=0∨t.1=4)∧(xC s n i).length≤s.length-i+1∧C9 (xC s n i)
  |0,i,hn,hi=>by omega
  | n+1,i,hn,hi=>by
    by_cases h:i<s.length
    · have hne:s.drop i≠[]:=by
        intro e;have:=aVL List.length e;rw[aVO,aVD] at this;omega
      obtain⟨f1,f2,f3,f4⟩:=QA hne;rw[aVO] at f1;have hu:xC s (n+1) i=((s9 (s.drop i)).1,(s9 (s.drop i)).2,(i:Int),())::(if (s9 (s.drop i)).1=0 then[] else xC s n (i+(s9 (s.drop i)).2.length)):=by rw[xC,aVs h]
      rw[hu];by_cases h0:(s9 (s.drop i)).1=0
      · rw[aVs h0]
        refine⟨fun t ht=> ?_,fun t ht=> ?_,by simp,fun j hj=>by simp at hj⟩
        · rw[aVJ.1 ht]
          exact⟨by dsimp only;omega,by dsimp only;omega,by dsimp only;omega,fun h2=>f3 h2⟩
        · left
          simp only[List.getLast?_singleton,aVr] at ht;rw[←ht];exact h0
      · rw[aVv h0]
        have hp:=f2 h0;obtain⟨g1,g2,g3,g4⟩:=aAZ s hs n (i+(s9 (s.drop i)).2.length) pG pG;obtain⟨t0,r0,e0,e1⟩:=aKk (s:=s) (n:=n) (i:=i+(s9 (s.drop i)).2.length) pG pG;refine⟨fun t ht=> ?_,fun t ht=> ?_,?_,fun j hj=> ?_⟩
        · rcases aVH.1 ht with rfl|ht
          .exact⟨by dsimp only;omega,by dsimp only;omega,by dsimp only;omega,fun h2=>f3 h2⟩
          · obtain⟨k1,k2,k3,k4⟩:=g1 t ht
            exact⟨k1,pG,k3,k4⟩
        · rw[e0] at ht g2
          rw[List.getLast?_cons_cons] at ht;exact g2 t ht
        .simp only[aVw];omega
        · cases j with
          | zero=>
            simp only[e0,List.getElem_cons_zero,List.getElem_cons_succ];rw[e1];simp
          | succ j=>
            simp only[aVw] at hj;simp only[List.getElem_cons_succ];exact g4 j pG
    · have hi':i=s.length:=by omega
      have hu:xC s (n+1) i=[(4,[],(s.length:Int),())]:=by rw[xC,aVv h]
      rw[hu];refine⟨fun t ht=> ?_,fun t ht=> ?_,by simp,fun j hj=>by simp at hj⟩
      · rw[aVJ.1 ht]
        exact⟨by simp,by show (i:Int)≤s.length;omega,aWu _,fun h2=>by simp at h2⟩
      · right
        simp only[List.getLast?_singleton,aVr] at ht;rw[←ht]
theorem aRj {s:pD}(hs:s.length≤900000000):wT (yZ s)∧C9 (yZ s):=by
  obtain⟨g1,g2,g3,g4⟩:=aAZ s hs (s.length+1) 0 pG (aWC _);obtain⟨t,r,e,_⟩:=aKk (s:=s) (n:=s.length+1) (i:=0) pG (aWC _);refine⟨⟨?_,fun t ht=> ?_,fun t ht=> ?_,fun t ht=>(g1 t ht).2.2.2,g2,?_⟩,g4⟩
  · show xC s (s.length+1) 0≠[]
    rw[e];simp
  .have:=(g1 t ht).1;omega
  · obtain⟨_,h2,h3,_⟩:=g1 t ht
    exact⟨h2,pG⟩
  · show (xC s (s.length+1) 0).length≤_
    omega
theorem aRk {s:pD}(hs:s.length≤900000000):Gs.slices_Collect_elements_token_elements_tokensF1 s=some (yZ s):=by
  obtain⟨_,_,g3,_⟩:=aAZ s hs (s.length+1) 0 pG (aWC _)
  have go: ∀(l b:List tE),(b.length+l.length)*32≤140737488355328→zP (Gs.slices_AppendSeq_elements_token_elements_tokensF1_step1) l b=some (.inl (b++l)):=by
    intro l
    induction l with
    |nil=>intro b _;simp [zP]
    | cons t l ih=>
      intro b hb;simp only[aVw] at hb;unfold zP
      have:Gs.slices_AppendSeq_elements_token_elements_tokensF1_step1 t b=some (.inl (b++[t])):=by
        unfold Gs.slices_AppendSeq_elements_token_elements_tokensF1_step1;rw[aVs (by simp only[aVw,aVD];omega)]
      rw[this,aVq];show zP _ l (b++[t])=_;rw[ih (b++[t]) (by rw[aVu];simp only[aVw,aVD];omega)];simp
  unfold Gs.slices_Collect_elements_token_elements_tokensF1 Gs.slices_AppendSeq_elements_token_elements_tokensF1;rw[aVs pG,go (yZ s) [] (by show (0+(xC s (s.length+1) 0).length)*32≤_;omega)];rfl
def FI:Nat→List s0→pQ→List TE→Option (List s0×pQ×List TE)
  |0,_,_,_=>none
  | n+1,es,ks,L=>if (rS (r9 L)).1=3 then some (es,ks,r9 L) else
    match yD es (rS (r9 L)) (r9 L) with
    |some (y,r)=>FI n (es++[y]) (ks++[r.length]) r
    |none=>none
def E4 (L:List TE):Option (sD×pQ):=
  match FH L with
  |none=>none
  | some (tag,st,r)=>match FI (r.length+1) [] [r.length] r with
    |none=>none
    | some (es,ks,r1)=>match uW yC r1 with
      |none=>none
      | some r2=>match uW zC (r9 r2) with
        |none=>none
        |some r3=>if (r9 r3).head?.map (·.1)=some 4 then some ((tag,(st.1,(st.2,(es,())))),ks) else none
def CA (T:List tE) (k:Nat):Int:=GW (T.drop (T.length-k))
theorem aKl {T l:List tE}(h:uU l T):CA T l.length=GW l:=by
  obtain⟨k,hk,rfl⟩:=h;unfold CA;rw[aVO,show T.length- (T.length-k)=k by omega]
theorem aRl {es:List s0}{x:xW}{L:List TE}{y:s0}{r:List TE}(h:yD es x L=some (y,r)):es.length≠1000:=by
  unfold yD at h;split at h
  .rename_i hh;exact hh.2.2.2.2.2.2.2.2
  .cases h
section
variable {T:List tE}(hT:wT T) (hTc:C9 T) {rr:(List sH)×Int×Int×pD×pE×(List r6)×pM}
include hT hTc
theorem aKm: ∀(n:Nat) (l:List tE) (a:Int) (es:List s0) (ks:pQ) (ids:pK),l.length≤n→uU l T→es.length≤1000→ks.length=es.length+1→N2 ids es→
    ∃ l' a' e' es' en' ids',rO (FB rr) (l,a,0,es,ks.map (CA T),ids)=some (l',a',e',es',en',ids')∧uU l' T∧(match FI (n+1) es ks (l.map er) with
      |some (es2,ks2,q)=>e'=0∧es'=es2∧en'=ks2.map (CA T)∧l'.map er=q
      |none=>e'≠0)
  | n,l,a,es,ks,ids,hn,hsT,he,hk,hid=>by
    have hl:=hsT.ok hT;have hcn:=hsT.cont hTc;have hsk:=KO hl;have hl1:=hsk.ok hl;have hc1:=hsk.cont hcn;have hle1:=hsk.le;have her:=Q4 l;have hnp:0<l.length:=aVX.2 hl.ne;obtain⟨n,rfl⟩: ∃k,n=k+1:=⟨n-1,pG⟩;unfold FI;rw[←her];by_cases h3:(rS ((tO l).map er)).1=3
    · have hst:FB rr (l,a,0,es,ks.map (CA T),ids)=some (.inr (tO l,a,0,es,ks.map (CA T),ids)):=by
        unfold FB;dsimp only;rw[aVs pH,C7 hl,aVq,aVs rfl,C8 hl1,aVq,aVs rfl,aVs (aVS h3)]
      rw[aVs h3];exact⟨_,_,_,_,_,_,uL hst,hsk.trans hsT,rfl,rfl,rfl,rfl⟩
    · obtain⟨l2,a2,e2,es2,en2,ids2,h2,s2,m2⟩:=aRg hl1 hc1 a (rr.2.2.2.1,(rr.2.2.2.2.1,(rr.2.2.2.2.2.1,(es,())))) (ks.map (CA T),()) ids hid he (by dsimp only;rw[aWD];omega)
      have hst:FB rr (l,a,0,es,ks.map (CA T),ids)=some (.inl (l2,a2,e2,es2,en2,ids2)):=by
        unfold FB;dsimp only;rw[aVs pH,C7 hl,aVq,aVs rfl,C8 hl1,aVq,aVs rfl,aVv (by simpa using h3),h2,aVq]
      have hs2:=(s2.trans hsk).trans hsT;rw[aVv h3];cases hx:yD es (rS ((tO l).map er)) ((tO l).map er) with
      | none=>
        rw[hx] at m2;dsimp only at m2
        have hst2:FB rr (l2,a2,e2,es2,en2,ids2)=some (.inr (l2,a2,e2,es2,en2,ids2)):=by
          unfold FB;dsimp only;rw[aVv (by simpa using m2)]
        exact⟨_,_,_,_,_,_,by rw[vP hst,uL hst2],hs2,m2⟩
      | some v=>
        obtain⟨y,r⟩:=v;rw[hx] at m2;obtain⟨k1,k2,k3,k4,k5,k6⟩:=m2;dsimp only at k3 k4|-;subst k1 k3;have hlen:r.length=l2.length:=by rw[←k2,aWD]
        have hen:en2=(ks++[r.length]).map (CA T):=by
          rw[k4,List.map_append,hlen];show _=_++[CA T l2.length];rw[aKl hs2]
        subst hen;have h1000:=aRl hx;obtain⟨l',a',e',es',en',ids',q1,q2,q3⟩:=aKm n l2 a2 (es++[y]) (ks++[r.length]) ids2 pG hs2 (by rw[aVu];simp only[aVw,aVD];omega) (by rw[aVu,aVu,hk];rfl) k5;rw[k2] at q3;exact⟨l',a',e',es',en',ids',by rw[vP hst];exact q1,q2,q3⟩
end
theorem aRm {l:List tE}(hl:wT l):((r9 (l.map er)).head?.map (·.1)=some 4)↔(qQ (.pair (.int .i64) (.pair .str (.pair (.int .i64) .unit))) (tO l) 0).1=4:=by
  obtain⟨t,r,h⟩:=((KO hl).ok hl).head;rw[←Q4,h];show (some t.1=some 4)↔t.1=4;simp
def IQ (L:List TE):Bool:=match uW yC L with
  |none=>false
  | some r2=>match uW zC (r9 r2) with
    |none=>false
    |some r3=>decide ((r9 r3).head?.map (·.1)=some 4)
theorem aA0 {L:List TE}(h:uW yC L=none):IQ L=false:=by unfold IQ;rw[h]
theorem aA1 {L r2:List TE}(h:uW yC L=some r2) (h2:uW zC (r9 r2)=none):IQ L=false:=by
  unfold IQ;rw[h];dsimp only;rw[h2]
theorem ZF {L r2 r3:List TE}(h:uW yC L=some r2) (h2:uW zC (r9 r2)=some r3):IQ L=decide ((r9 r3).head?.map (·.1)=some 4):=by
  unfold IQ;rw[h];dsimp only;rw[h2]
theorem aRn {s:pD}(hs:s.length≤900000000): ∃r,AC s=some r∧(match E4 (vG s) with
    |some (c,ks)=>r.2.2.1=0∧(r.2.2.2.1,(r.2.2.2.2.1,(r.2.2.2.2.2.1,(r.2.2.2.2.2.2.1,()))))=c∧r.2.2.2.2.2.2.2.1=ks.map (CA (yZ s))
    |none=>r.2.2.1≠0):=by
  obtain⟨hT,hTc⟩:=aRj hs;obtain⟨l1,a1,e1,tag,cms,fds,en1,h1,s1,m1⟩:=aRh hT hTc;unfold AC;rw[aRk hs,aVq,h1,aVq];rw[aRi] at m1;unfold E4;have hl1:=s1.ok hT;dsimp only
  have tail: ∀(l:List tE) (a e:Int) (es:List s0) (en:pM) (ids:pK),uU l (yZ s)→∃r:((List sH)×Int×Int×pD×pE×(List r6)×(List s0)×pM×pK),
      ((BI l a e (tag,(cms,(fds,(es,())))) (en,()) ([101,110,116,114,105,101,115]:pD) ids).bind fun O=>
 sQ (σ:=(List sH)) (
   if (decide (O.2.2=(0:Int)))=true then
    (AA O.1 O.2.1 O.2.2 (tag,(cms,(fds,(es,())))) (en,()) ids).bind fun Z=>
    some (Z)
   else
    some (O.1)
  ) fun aA=>
 (BI aA O.2.1 O.2.2 (tag,(cms,(fds,(es,())))) (en,()) ([99,97,116,97,108,111,103]:pD) ids).bind fun aB=>
 sQ (σ:=(List sH)) (
   if (decide (aB.2.2=(0:Int)))=true then
    (AA aB.1 aB.2.1 aB.2.2 (tag,(cms,(fds,(es,())))) (en,()) ids).bind fun aC=>
    some (aC)
   else
    some (aB.1)
  ) fun aD=>
 if 0≤(0:Int)∧(0:Int)<(List.length aD:Int) then
  if (!decide ((qQ (.pair (.int .i64) (.pair .str (.pair (.int .i64) .unit))) aD (0:Int)).1=(4:Int)))=true then
   (zS aD aB.2.1 aB.2.2 (tag,(cms,(fds,(es,())))) (en,()) (3:Int) ids).bind fun aE=>
   some ((aD,aE.1,aE.2,tag,cms,fds,es,en,ids))
  else
   some ((aD,aB.2.1,aB.2.2,tag,cms,fds,es,en,ids))
 else none)=some r∧(e≠0→r.2.2.1≠0)∧(r.2.2.2.1,(r.2.2.2.2.1,(r.2.2.2.2.2.1,(r.2.2.2.2.2.2.1,()))))=(tag,(cms,(fds,(es,()))))∧r.2.2.2.2.2.2.2.1=en∧
      (e=0→if IQ (l.map er)=true then r.2.2.1=0 else r.2.2.1≠0):=by
    intro l a e es en ids hls;have hl:=hls.ok hT;obtain⟨l2,a2,e2,h2,p2,m2⟩:=Q5 hl a e (tag,(cms,(fds,(es,())))) (en,()) ids yC;have hl2:=p2.suf.ok hl;rw[h2,aVq];dsimp only
    obtain⟨l3,h3,s3,m3⟩: ∃l3:List tE,(if (decide (e2=(0:Int)))=true then
      (AA l2 a2 e2 (tag,(cms,(fds,(es,())))) (en,()) ids).bind fun Z=>some (Z)
     else some l2)=some l3∧uU l3 l2∧(e2=0→l3=tO l2):=by
      by_cases h0:e2=0
      · rw[aVs (aVS h0),C7 hl2,aVs h0]
        exact⟨_,rfl,KO hl2,fun _=>rfl⟩
      · rw[aVv (by simpa using h0)]
        exact⟨_,rfl,uU.refl hl2,fun h=>absurd h h0⟩
    unfold sQ;rw[h3,aVq];have hl3:=s3.ok hl2;obtain⟨l4,a4,e4,h4,p4,m4⟩:=Q5 hl3 a2 e2 (tag,(cms,(fds,(es,())))) (en,()) ids zC;have hl4:=p4.suf.ok hl3;rw[h4,aVq];dsimp only
    obtain⟨l5,h5,s5,m5⟩: ∃l5:List tE,(if (decide (e4=(0:Int)))=true then
      (AA l4 a4 e4 (tag,(cms,(fds,(es,())))) (en,()) ids).bind fun aC=>some (aC)
     else some l4)=some l5∧uU l5 l4∧(e4=0→l5=tO l4):=by
      by_cases h0:e4=0
      · rw[aVs (aVS h0),C7 hl4,aVs h0]
        exact⟨_,rfl,KO hl4,fun _=>rfl⟩
      · rw[aVv (by simpa using h0)]
        exact⟨_,rfl,uU.refl hl4,fun h=>absurd h h0⟩
    rw[h5,aVq];have hl5:=s5.ok hl4;have hpos5:0≤(0:Int)∧(0:Int)<(l5.length:Int):=⟨aWu _,by have:=aVX.2 hl5.ne;omega⟩;rw[aVs hpos5];obtain⟨q,hq1,hq2,hq3⟩: ∃q:Int×Int,(if (!decide ((qQ (.pair (.int .i64) (.pair .str (.pair (.int .i64) .unit))) l5 (0:Int)).1=(4:Int)))=true then
   (zS l5 a4 e4 (tag,(cms,(fds,(es,())))) (en,()) (3:Int) ids).bind fun aE=>
   some ((l5,aE.1,aE.2,tag,cms,fds,es,en,ids))
  else
   some ((l5,a4,e4,tag,cms,fds,es,en,ids)))=some (l5,q.1,q.2,tag,cms,fds,es,en,ids)∧(e4≠0→q.2≠0)∧(e4=0→if (qQ (.pair (.int .i64) (.pair .str (.pair (.int .i64) .unit))) l5 0).1=4 then q.2=0 else q.2≠0):=by
      by_cases h44:(qQ (.pair (.int .i64) (.pair .str (.pair (.int .i64) .unit))) l5 0).1=4
      · rw[aVv (by simp [h44])]
        exact⟨(a4,e4),rfl,id,fun h=>by rw[aVs h44];exact h⟩
      · rw[aVs (by simpa using h44),KN hl5]
        exact⟨E3 l5 a4 e4 3,rfl,fun _=>GT _ _ pH,fun _=>by rw[aVv h44];exact GT _ _ pH⟩
    rw[hq1];refine⟨_,rfl,fun he=>hq2 (p4.bad (p2.bad he)),rfl,rfl,fun he=> ?_⟩;have m2':=m2 he;cases hn1:uW yC (l.map er) with
    | none=>
      rw[hn1] at m2';rw[aA0 hn1,aVv pH];exact hq2 (p4.bad m2')
    | some r2=>
      rw[hn1] at m2';obtain⟨k1,k2⟩:=m2';have m4':=m4 k1;rw[m3 k1,Q4,k2] at m4';cases hn2:uW zC (r9 r2) with
      | none=>
        rw[hn2] at m4';rw[aA1 hn1 hn2,aVv pH];exact hq2 m4'
      | some r3=>
        rw[hn2] at m4';obtain⟨j1,j2⟩:=m4';have hq3':=hq3 j1;rw[m5 j1] at hq3';have h44:=aRm hl4;rw[j2] at h44;rw[ZF hn1 hn2];by_cases hd:(r9 r3).head?.map (·.1)=some 4
        · rw[aVs (aVS hd)]
          rw[aVs (h44.1 hd)] at hq3';exact hq3'
        · rw[aVv (by simpa using hd)]
          rw[aVv (fun h=>hd (h44.2 h))] at hq3';exact hq3'
  cases hh:FH (vG s) with
  | none=>
    rw[hh] at m1;dsimp only at m1
    have hst:FB (l1,a1,e1,tag,cms,fds,en1) (l1,a1,e1,[],en1,[])=some (.inr (l1,a1,e1,[],en1,[])):=by
      unfold FB;dsimp only;rw[aVv (by simpa using m1)]
    rw[uL hst];obtain⟨r,t1,t2,_⟩:=tail l1 a1 e1 [] en1 [] s1;refine⟨r,?_,t2 m1⟩;unfold sQ at t1|-;rw[aVq];exact t1
  | some v=>
    obtain⟨tg,st,q⟩:=v;rw[hh] at m1;obtain⟨k1,k2,k3,k4,k5,k6,k7⟩:=m1;dsimp only;subst k1 k3 k4 k5;have hqlen:q.length=l1.length:=by rw[←k2,aWD]
    have hen:en1=[q.length].map (CA (yZ s)):=by
      rw[k6,hqlen];show _=[CA (yZ s) l1.length];rw[aKl s1]
    subst hen;obtain⟨l',a',e',es',en',ids',q1,q2,q3⟩:=aKm hT hTc (rr:=(l1,a1,0,tag,st.1,st.2,[q.length].map (CA (yZ s)))) l1.length l1 a1 [] [q.length] [] (aVR _) s1 pI rfl (fun x=>by rfl);rw[q1];obtain⟨r,t1,t2,t3,t4,t5⟩:=tail l' a' e' es' en' ids' q2;refine⟨r,?_,?_⟩
    · unfold sQ at t1|-
      rw[aVq];exact t1
    · rw[k2] at q3
      rw[hqlen];rw[hqlen] at q3;cases hen:FI (l1.length+1) [] [l1.length] q with
      | none=>
        rw[hen] at q3;exact t2 q3
      | some w=>
        obtain⟨es2,ks2,r1⟩:=w;rw[hen] at q3;obtain⟨j1,j2,j3,j4⟩:=q3;have t5':=t5 j1;rw[j4] at t5';dsimp only;subst j2 j3;cases hn1:uW yC r1 with
        |none=>rw[aA0 hn1,aVv pH] at t5';exact t5'
        | some r2=>
          dsimp only;cases hn2:uW zC (r9 r2) with
          |none=>rw[aA1 hn1 hn2,aVv pH] at t5';exact t5'
          | some r3=>
            rw[ZF hn1 hn2] at t5';dsimp only;by_cases hd:(r9 r3).head?.map (·.1)=some 4
            · rw[aVs (aVS hd)] at t5'
              rw[aVs hd];exact⟨t5',t3,t4⟩
            · rw[aVv (by simpa using hd)] at t5'
              rw[aVv hd];exact t5'
end
end Go.Proofs.YtkpflnijijccpaaGreatDoor
