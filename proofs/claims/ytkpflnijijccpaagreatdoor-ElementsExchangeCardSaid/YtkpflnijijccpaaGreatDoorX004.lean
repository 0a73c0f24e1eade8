/- Packed by a program of mine (wip/tools/pack.py): the same texts with short names and few blanks. -/
import Derived.KernelRfl
import Derived.Laws.BitsLemmas
import Derived.Lib.Index
import Derived.Lib.IndexAny
import Derived.Lib.MapLaws
import Derived.Lib.RowBridge
import Derived.Lib.TrimAscii
import Derived.Lib.TrimUEq
import Derived.Lib.ValidLaws
import Derived.Sort.Walk0
import Derived.Test.YtkpflnijijccpaaGreatDoorX003
set_option linter.defProp false
set_option linter.unusedVariables false
set_option linter.unusedSimpArgs false
set_option linter.unusedSectionVars false
set_option maxRecDepth 100000
set_option maxHeartbeats 4000000
namespace Go.Proofs.YtkpflnijijccpaaGreatDoor
open Vc
noncomputable section
def CB (O:(List sE)) (Z:Int) (aA:Int) (aB:sR) (aC:(pO×Unit)) (aD:pM):Option ((List sE)×Int×Int×(List s8)×pO×pM):=(AV O Z aA aB aC aD).bind fun aE=>if ((wT (aE.1,(aE.2.1,(aE.2.2.1,(aE.2.2.2,())))) ([105,100]:pF) ([115,116,97,116,101,32,102,108,97,103,115]:pF))).isSome=true then (wT (aE.1,(aE.2.1,(aE.2.2.1,(aE.2.2.2,())))) ([105,100]:pF) ([115,116,97,116,101,32,102,108,97,103,115]:pF)).bind fun aF=>(I2 (s9 .str .str aF ([102,108,97,103,115]:pF))).bind fun aG=>if ((uO (tG (s9 .str .str aF ([102,108,97,103,115]:pF)) ([32]:pF))).length)<4611686018427387904 then if (((((!decide (aE.1=(1:Int)))&&(!decide (aE.1=(2:Int))))||(!decide (aE.2.1=([101,110,116,114,121]:pF))))==false)=true→((E2 aE.2.2.1)).isSome=true) then if ((aE.2.2.2||(s9 .str .bool aD (s9 .str .str aF ([105,100]:pF))))==false)=true then if (((aE.2.2.2||(s9 .str .bool aD (s9 .str .str aF ([105,100]:pF))))==false)=true→((zA (sO (uO (tG (s9 .str .str aF ([102,108,97,103,115]:pF)) ([32]:pF)))))).isSome=true) then if (((aE.2.2.2||(s9 .str .bool aD (s9 .str .str aF ([105,100]:pF))))==false)=true→List.length (val (zA (sO (uO (tG (s9 .str .str aF ([102,108,97,103,115]:pF)) ([32]:pF))))))≤9223372036854775807) then (xU O Z aA aB aC ((((!decide (aE.1=(1:Int)))&&(!decide (aE.1=(2:Int))))||(!decide (aE.2.1=([101,110,116,114,121]:pF))))||(val (E2 aE.2.2.1))) ((aE.2.2.2||(s9 .str .bool aD (s9 .str .str aF ([105,100]:pF))))||(decide (((((Lib.compact (val (zA (sO (uO (tG (s9 .str .str aF ([102,108,97,103,115]:pF)) ([32]:pF))))))).length):Nat):Int)<((sO (uO (tG (s9 .str .str aF ([102,108,97,103,115]:pF)) ([32]:pF)))).length:Int)))) ((decide ((20:Int)<((sO (uO (tG (s9 .str .str aF ([102,108,97,103,115]:pF)) ([32]:pF)))).length:Int)))||(decide ((aB.2.2.2.1.length:Int)=(1000:Int)))) aD).bind fun aH=>if (!decide (aH.2=(0:Int)))=true then some ((O,aH.1,aH.2,aB.2.2.2.1,aC.1,aD)) else (C3 ([([110,101,119]:pF),([102,117,122,122,121]:pF),([116,114,97,110,115,108,97,116,101,100]:pF),([114,101,118,105,101,119,101,100]:pF),([111,98,115,111,108,101,116,101]:pF)]:pG) (s9 .str .str aF ([115,116,97,116,101]:pF))).bind fun aI=>(y9 O aH.1 aH.2 (aB.1,(aB.2.1,(aB.2.2.1,(aB.2.2.2.1,())))) (aC.1,()) (tY .str .bool (s9 .str .str aF ([105,100]:pF)) true aD)).bind fun aJ=>sU (σ:=(Int×(List sE)×Int×Int×pF×pF×pG×(List r7))) (if (decide (aE.1=(1:Int)))=true then (zK aJ aH.1 aH.2 (aB.1,(aB.2.1,(aB.2.2.1,(aB.2.2.2.1,())))) (aC.1,()) ((s9 .str .str aF ([105,100]:pF)),(([]:pF),(([]:pF),(([]:pG),((sO (uO (tG (s9 .str .str aF ([102,108,97,103,115]:pF)) ([32]:pF)))),((max (0:Int) aI),(([]:List r7),()))))))) (tY .str .bool (s9 .str .str aF ([105,100]:pF)) true aD)).bind fun aK=>some ((aK.1,aK.2.1,aK.2.2.1,aK.2.2.2.1,aK.2.2.2.2.1,aK.2.2.2.2.2.1,aK.2.2.2.2.2.2.1,aK.2.2.2.2.2.2.2)) else some ((((qR sZ O (0:Int)).2.2.1+(((qR sZ O (0:Int)).2.1).length:Int)),aJ,aH.1,aH.2,([]:pF),([]:pF),([]:pG),([]:List r7))) ) fun(aL,aM,aN,aO,aP,aQ,aR,aS)=>if (aB.2.2.2.1.length+([((s9 .str .str aF ([105,100]:pF)),(aP,(aQ,(aR,((sO (uO (tG (s9 .str .str aF ([102,108,97,103,115]:pF)) ([32]:pF)))),((max (0:Int) aI),(aS,())))))))]:List s8).length)*128≤140737488355328 then if (aC.1.length+([aL]:pO).length)*8≤140737488355328 then some ((aM,aN,aO,(aB.2.2.2.1++([((s9 .str .str aF ([105,100]:pF)),(aP,(aQ,(aR,((sO (uO (tG (s9 .str .str aF ([102,108,97,103,115]:pF)) ([32]:pF)))),((max (0:Int) aI),(aS,())))))))]:List s8)),(aC.1++([aL]:pO)),(tY .str .bool (s9 .str .str aF ([105,100]:pF)) true aD))) else none else none else none else none else (xU O Z aA aB aC ((((!decide (aE.1=(1:Int)))&&(!decide (aE.1=(2:Int))))||(!decide (aE.2.1=([101,110,116,114,121]:pF))))||(val (E2 aE.2.2.1))) true ((decide ((20:Int)<((sO (uO (tG (s9 .str .str aF ([102,108,97,103,115]:pF)) ([32]:pF)))).length:Int)))||(decide ((aB.2.2.2.1.length:Int)=(1000:Int)))) aD).bind fun aT=>if (!decide (aT.2=(0:Int)))=true then some ((O,aT.1,aT.2,aB.2.2.2.1,aC.1,aD)) else (C3 ([([110,101,119]:pF),([102,117,122,122,121]:pF),([116,114,97,110,115,108,97,116,101,100]:pF),([114,101,118,105,101,119,101,100]:pF),([111,98,115,111,108,101,116,101]:pF)]:pG) (s9 .str .str aF ([115,116,97,116,101]:pF))).bind fun aU=>(y9 O aT.1 aT.2 (aB.1,(aB.2.1,(aB.2.2.1,(aB.2.2.2.1,())))) (aC.1,()) (tY .str .bool (s9 .str .str aF ([105,100]:pF)) true aD)).bind fun aV=>sU (σ:=(Int×(List sE)×Int×Int×pF×pF×pG×(List r7))) (if (decide (aE.1=(1:Int)))=true then (zK aV aT.1 aT.2 (aB.1,(aB.2.1,(aB.2.2.1,(aB.2.2.2.1,())))) (aC.1,()) ((s9 .str .str aF ([105,100]:pF)),(([]:pF),(([]:pF),(([]:pG),((sO (uO (tG (s9 .str .str aF ([102,108,97,103,115]:pF)) ([32]:pF)))),((max (0:Int) aU),(([]:List r7),()))))))) (tY .str .bool (s9 .str .str aF ([105,100]:pF)) true aD)).bind fun aW=>some ((aW.1,aW.2.1,aW.2.2.1,aW.2.2.2.1,aW.2.2.2.2.1,aW.2.2.2.2.2.1,aW.2.2.2.2.2.2.1,aW.2.2.2.2.2.2.2)) else some ((((qR sZ O (0:Int)).2.2.1+(((qR sZ O (0:Int)).2.1).length:Int)),aV,aT.1,aT.2,([]:pF),([]:pF),([]:pG),([]:List r7))) ) fun(aX,aY,aZ,bA,bB,bC,bD,bE)=>if (aB.2.2.2.1.length+([((s9 .str .str aF ([105,100]:pF)),(bB,(bC,(bD,((sO (uO (tG (s9 .str .str aF ([102,108,97,103,115]:pF)) ([32]:pF)))),((max (0:Int) aU),(bE,())))))))]:List s8).length)*128≤140737488355328 then if (aC.1.length+([aX]:pO).length)*8≤140737488355328 then some ((aY,aZ,bA,(aB.2.2.2.1++([((s9 .str .str aF ([105,100]:pF)),(bB,(bC,(bD,((sO (uO (tG (s9 .str .str aF ([102,108,97,103,115]:pF)) ([32]:pF)))),((max (0:Int) aU),(bE,())))))))]:List s8)),(aC.1++([aX]:pO)),(tY .str .bool (s9 .str .str aF ([105,100]:pF)) true aD))) else none else none else none else none else (DY (aE.1,(aE.2.1,(aE.2.2.1,(aE.2.2.2,())))) ([105,100]:pF) ([115,116,97,116,101,32,102,108,97,103,115]:pF)).bind fun bF=>(I2 ([]:pF)).bind fun bG=>if ((uO (tG ([]:pF) ([32]:pF))).length)<4611686018427387904 then if ((((((!decide (aE.1=(1:Int)))&&(!decide (aE.1=(2:Int))))||(!decide (aE.2.1=([101,110,116,114,121]:pF))))||true)==false)=true→((E2 aE.2.2.1)).isSome=true) then if ((aE.2.2.2||(s9 .str .bool aD ([]:pF)))==false)=true then if (((aE.2.2.2||(s9 .str .bool aD ([]:pF)))==false)=true→((zA (sO (uO (tG ([]:pF) ([32]:pF)))))).isSome=true) then if (((aE.2.2.2||(s9 .str .bool aD ([]:pF)))==false)=true→List.length (val (zA (sO (uO (tG ([]:pF) ([32]:pF))))))≤9223372036854775807) then (xU O Z aA aB aC (((((!decide (aE.1=(1:Int)))&&(!decide (aE.1=(2:Int))))||(!decide (aE.2.1=([101,110,116,114,121]:pF))))||true)||(val (E2 aE.2.2.1))) ((aE.2.2.2||(s9 .str .bool aD ([]:pF)))||(decide (((((Lib.compact (val (zA (sO (uO (tG ([]:pF) ([32]:pF))))))).length):Nat):Int)<((sO (uO (tG ([]:pF) ([32]:pF)))).length:Int)))) ((decide ((20:Int)<((sO (uO (tG ([]:pF) ([32]:pF)))).length:Int)))||(decide ((aB.2.2.2.1.length:Int)=(1000:Int)))) aD).bind fun bH=>if (!decide (bH.2=(0:Int)))=true then some ((O,bH.1,bH.2,aB.2.2.2.1,aC.1,aD)) else (C3 ([([110,101,119]:pF),([102,117,122,122,121]:pF),([116,114,97,110,115,108,97,116,101,100]:pF),([114,101,118,105,101,119,101,100]:pF),([111,98,115,111,108,101,116,101]:pF)]:pG) ([]:pF)).bind fun bI=>(y9 O bH.1 bH.2 (aB.1,(aB.2.1,(aB.2.2.1,(aB.2.2.2.1,())))) (aC.1,()) (tY .str .bool ([]:pF) true aD)).bind fun bJ=>sU (σ:=(Int×(List sE)×Int×Int×pF×pF×pG×(List r7))) (if (decide (aE.1=(1:Int)))=true then (zK bJ bH.1 bH.2 (aB.1,(aB.2.1,(aB.2.2.1,(aB.2.2.2.1,())))) (aC.1,()) (([]:pF),(([]:pF),(([]:pF),(([]:pG),((sO (uO (tG ([]:pF) ([32]:pF)))),((max (0:Int) bI),(([]:List r7),()))))))) (tY .str .bool ([]:pF) true aD)).bind fun bK=>some ((bK.1,bK.2.1,bK.2.2.1,bK.2.2.2.1,bK.2.2.2.2.1,bK.2.2.2.2.2.1,bK.2.2.2.2.2.2.1,bK.2.2.2.2.2.2.2)) else some ((((qR sZ O (0:Int)).2.2.1+(((qR sZ O (0:Int)).2.1).length:Int)),bJ,bH.1,bH.2,([]:pF),([]:pF),([]:pG),([]:List r7))) ) fun(bM,bN,bO,bP,bQ,bR,bS,bT)=>if (aB.2.2.2.1.length+([(([]:pF),(bQ,(bR,(bS,((sO (uO (tG ([]:pF) ([32]:pF)))),((max (0:Int) bI),(bT,())))))))]:List s8).length)*128≤140737488355328 then if (aC.1.length+([bM]:pO).length)*8≤140737488355328 then some ((bN,bO,bP,(aB.2.2.2.1++([(([]:pF),(bQ,(bR,(bS,((sO (uO (tG ([]:pF) ([32]:pF)))),((max (0:Int) bI),(bT,())))))))]:List s8)),(aC.1++([bM]:pO)),(tY .str .bool ([]:pF) true aD))) else none else none else none else none else (xU O Z aA aB aC (((((!decide (aE.1=(1:Int)))&&(!decide (aE.1=(2:Int))))||(!decide (aE.2.1=([101,110,116,114,121]:pF))))||true)||(val (E2 aE.2.2.1))) true ((decide ((20:Int)<((sO (uO (tG ([]:pF) ([32]:pF)))).length:Int)))||(decide ((aB.2.2.2.1.length:Int)=(1000:Int)))) aD).bind fun bU=>if (!decide (bU.2=(0:Int)))=true then some ((O,bU.1,bU.2,aB.2.2.2.1,aC.1,aD)) else (C3 ([([110,101,119]:pF),([102,117,122,122,121]:pF),([116,114,97,110,115,108,97,116,101,100]:pF),([114,101,118,105,101,119,101,100]:pF),([111,98,115,111,108,101,116,101]:pF)]:pG) ([]:pF)).bind fun bV=>(y9 O bU.1 bU.2 (aB.1,(aB.2.1,(aB.2.2.1,(aB.2.2.2.1,())))) (aC.1,()) (tY .str .bool ([]:pF) true aD)).bind fun bW=>sU (σ:=(Int×(List sE)×Int×Int×pF×pF×pG×(List r7))) (if (decide (aE.1=(1:Int)))=true then (zK bW bU.1 bU.2 (aB.1,(aB.2.1,(aB.2.2.1,(aB.2.2.2.1,())))) (aC.1,()) (([]:pF),(([]:pF),(([]:pF),(([]:pG),((sO (uO (tG ([]:pF) ([32]:pF)))),((max (0:Int) bV),(([]:List r7),()))))))) (tY .str .bool ([]:pF) true aD)).bind fun bX=>some ((bX.1,bX.2.1,bX.2.2.1,bX.2.2.2.1,bX.2.2.2.2.1,bX.2.2.2.2.2.1,bX.2.2.2.2.2.2.1,bX.2.2.2.2.2.2.2)) else some ((((qR sZ O (0:Int)).2.2.1+(((qR sZ O (0:Int)).2.1).length:Int)),bW,bU.1,bU.2,([]:pF),([]:pF),([]:pG),([]:List r7))) ) fun(bZ,cA,cB,cC,cD,cE,cF,cG)=>if (aB.2.2.2.1.length+([(([]:pF),(cD,(cE,(cF,((sO (uO (tG ([]:pF) ([32]:pF)))),((max (0:Int) bV),(cG,())))))))]:List s8).length)*128≤140737488355328 then if (aC.1.length+([bZ]:pO).length)*8≤140737488355328 then some ((cA,cB,cC,(aB.2.2.2.1++([(([]:pF),(cD,(cE,(cF,((sO (uO (tG ([]:pF) ([32]:pF)))),((max (0:Int) bV),(cG,())))))))]:List s8)),(aC.1++([bZ]:pO)),(tY .str .bool ([]:pF) true aD))) else none else none else none else none
section
variable (O:(List sE)) (Z:Int) (aA:Int) (aB:sR) (aC:(pO×Unit)) (aD:Nat) (aE:Nat) (aF:pM)
abbrev a9N:List qE:=[(.val .ref (some (0,0)),none)]
abbrev a9O:List qD:=[.cells t6 (O,(Z,(aA,(aB,((some 3),aC))))) [(6,1),(8,2)],.grow 53 7 aD,.grow 3 1 aE,.map .str .bool aF]
@[go_sem] def a9P:qK:=⟨[aD=(aB.2.2.2.1.length),aE=(aC.1.length),((CB O Z aA aB aC aF)).isSome=true],[],[.cells t6 ((val (CB O Z aA aB aC aF)).1,((val (CB O Z aA aB aC aF)).2.1,((val (CB O Z aA aB aC aF)).2.2.1,((aB.1,(aB.2.1,(aB.2.2.1,((val (CB O Z aA aB aC aF)).2.2.2.1,())))),((some 3),((val (CB O Z aA aB aC aF)).2.2.2.2.1,())))))) [(6,1),(8,2)],.grow 53 7 (((val (CB O Z aA aB aC aF)).2.2.2.1).length),.grow 3 1 (((val (CB O Z aA aB aC aF)).2.2.2.2.1).length),.map .str .bool ((val (CB O Z aA aB aC aF)).2.2.2.2.2)]⟩
def aIi:List qE→List qD→Option qK:=rP (V:=((List sE)×Int×Int×sR×(pO×Unit)×Nat×Nat×pM)) (fun x=>a9N) (fun x=>a9O x.1 x.2.1 x.2.2.1 x.2.2.2.1 x.2.2.2.2.1 x.2.2.2.2.2.1 x.2.2.2.2.2.2.1 x.2.2.2.2.2.2.2) fun x=>a9P x.1 x.2.1 x.2.2.1 x.2.2.2.1 x.2.2.2.2.1 x.2.2.2.2.2.1 x.2.2.2.2.2.2.1 x.2.2.2.2.2.2.2
@[go_sem] def aUN:aIi (no_index a9N) (no_index (a9O O Z aA aB aC aD aE aF))=some (a9P O Z aA aB aC aD aE aF):=rT (fun⟨a0,a1,a2,a3,a4,a5,a6,a7⟩ ⟨b0,b1,b2,b3,b4,b5,b6,b7⟩ h1 h2=>by cases h1;cases h2;rfl) (O,Z,aA,aB,aC,aD,aE,aF)
end
@[go_sem] abbrev aIj:Nat×r5:=(54,⟨[.p t6 [6,8]],aIi,[(0,7,.m)],[],none⟩)
def uS:rH Tryz.prog [wD,BK,sL,vY,D5,G6,BJ,xI,JO,EW,C1,D6,zJ,G7] (rI [IE,P2,YA,LZ,a7t,a50,LX,EY,T2,Y7,JU,a9I]):=⟨⟨wS,⟨D7,⟨sP,⟨wE,⟨EU,⟨JM,⟨D3,⟨y7,⟨ON,⟨HS,⟨DS,⟨EV,⟨AA,⟨JN,trivial⟩⟩⟩⟩⟩⟩⟩⟩⟩⟩⟩⟩⟩⟩,qP KE (qP T3 (qP a6g (qP XW (qP aHb (qP aGx (qP XU (qP GA (qP Y9 (qP a30 (qP M9 (qP aIf rN))))))))))),rK⟩
def aPz:rH Tryz.prog [wD,BK,sL,vY,D5,G6,BJ,xI,JO,EW,C1,D6,zJ,G7] (rI [IE,YA,LZ,a7t,a50,LX,EY,T2,Y7,JU,a9I,P4]):=⟨⟨wS,⟨D7,⟨sP,⟨wE,⟨EU,⟨JM,⟨D3,⟨y7,⟨ON,⟨HS,⟨DS,⟨EV,⟨AA,⟨JN,trivial⟩⟩⟩⟩⟩⟩⟩⟩⟩⟩⟩⟩⟩⟩,qP KE (qP a6g (qP XW (qP aHb (qP aGx (qP XU (qP GA (qP Y9 (qP a30 (qP M9 (qP aIf (qP T4 rN))))))))))),rK⟩
def aPA:r8 Tryz.prog aIj:=by
 refine rU uS Tryz.func54 (c:=_) rfl (N:=131) pW (ts:=[]) rfl (fun _ _=>rfl) ?_;intro⟨O,Z,aA,aB,aC,aD,aE,aF⟩ hs hrow;dsimp only[a9N,a9O,a9P,rM,qT,r6,rC,rO,Nat.reduceAdd] at hs hrow|-;obtain⟨rfl,rfl,hz⟩:=hs;obtain⟨z0,e⟩:=aUV.1 hz
 try rw[s7 e]
 clear hz;unfold CB at e;obtain⟨aG,hv1,hw1,e⟩:=qY e
 try simp only[go_sem] at hw1
 refine qC uS ?_ (hp:=by exact⟨pV,pV,pV,pV,pV,pV,(qW hv1)⟩) (h:=by simp only[go_sem,hw1];rfl)
 refine qQ ?_;by_cases hva1:((wT (aG.1,(aG.2.1,(aG.2.2.1,(aG.2.2.2,())))) ([105,100]:pF) ([115,116,97,116,101,32,102,108,97,103,115]:pF))).isSome=true
 .rw[aUU hva1] at e;obtain⟨aH,hv2,hw2,e⟩:=qY e
  try simp only[go_sem] at hw2
  refine rF uS ?_ (hp:=by exact(qW hv2)) (h:=by simp only[go_sem,hw2];rfl);refine qM ?_;obtain⟨aI,hv3,hw3,e⟩:=qY e
  try simp only[go_sem] at hw3
  refine qC uS ?_ (hp:=by exact(qW hv3)) (h:=by simp only[go_sem,hw3];rfl);obtain⟨hg4,e⟩:=qI e;refine qC uS ?_ (hp:=by exact⟨pV,hg4⟩)
  obtain⟨hg5,e⟩:=qI e;refine qC uS ?_ (hp:=by exact⟨id,id,sI,id,id,sQ,id,sQ,id,id,hg5,sQ⟩);refine qQ ?_;refine RV 420 rfl (by repeat' (first|exact trivial|apply And.intro|exact(fun _=>rfl) |exact(fun h=>absurd h pJ))) ?_
  by_cases hgs2:((aG.2.2.2||(s9 .str .bool aF (s9 .str .str aH ([105,100]:pF))))==false)=true
  .rw[aUU hgs2] at e;obtain⟨hg6,e⟩:=qI e;obtain⟨hg7,e⟩:=qI e;obtain⟨aJ,hv8,hw8,e⟩:=qY e
   try simp only[go_sem] at hw8
   refine AQ uS ?_ (hp:=by exact⟨id,id,id,id,id,id,sQ,hgs2,id,hg6,hgs2,fun _=>(by first|rfl|trivial),hg7,id,id,id,sQ,id,id,id,id,id,id,sQ,pV,pV,pV,pV,pV,(qW hv8)⟩) (h:=by simp only[go_sem,hw8];rfl)
   refine qM (qQ ?_);refine qC uS ?_;refine qV e (fun e hc3=> ?_) (fun e hc3=> ?_)
   .refine qS (rG ?_);cases e;exact pH [(0,0),(1,1),(2,2),(3,3)]
   .refine r9 (qM ?_);refine vN uS ?_;obtain⟨aK,hv9,hw9,e⟩:=qY e
    try simp only[go_sem] at hw9
    refine vN uS ?_ (hp:=by exact(qW hv9)) (h:=by simp only[go_sem,hw9];rfl);obtain⟨aL,hv10,hw10,e⟩:=qY e
    try simp only[go_sem] at hw10
    refine qC uS ?_ (hp:=by exact⟨pV,pV,pV,pV,pV,(qW hv10)⟩) (h:=by simp only[go_sem,hw10];rfl)
    refine qQ ?_;refine qC uS ?_;obtain⟨y1,f,e⟩:=qO e;refine yZ (fun s=>s=(fun x=>⟨[(0,(.val .ref (some (0,0)),none)),(8,(.val .ref (some (4,0)),none)),(9,(.val (.int .i64) x.1,none))],[(0,.cells t6 (x.2.1,(x.2.2.1,(x.2.2.2.1,((aB.1,(aB.2.1,(aB.2.2.1,(aB.2.2.2.1,())))),((some 3),(aC.1,())))))) [(6,1),(8,2)]),(1,.grow 53 7 (aB.2.2.2.1.length)),(2,.grow 3 1 (aC.1.length)),(3,.map .str .bool (tY .str .bool (s9 .str .str aH ([105,100]:pF)) true aF)),(4,.cells sN ((s9 .str .str aH ([105,100]:pF)),(x.2.2.2.2.1,(x.2.2.2.2.2.1,(x.2.2.2.2.2.2.1,((sO (uO (tG (s9 .str .str aH ([102,108,97,103,115]:pF)) ([32]:pF)))),((max (0:Int) aK),(x.2.2.2.2.2.2.2,()))))))) [(3,5)]),(5,.grow 9 1 (x.2.2.2.2.2.2.1.length))],6,131,4⟩) y1) ?_ ?_
    .refine qV f (fun f hc4=> ?_) (fun f hc4=> ?_)
     .obtain⟨aM,hv11,hw11,f⟩:=qY f
      try simp only[go_sem] at hw11
      refine rF uS ?_ (hp:=by exact⟨pV,pV,pV,pV,pV,pV,(qW hv11)⟩) (h:=by simp only[go_sem,hw11];rfl)
      cases f;exact uE ⟨⟨[0,8,9],[(0,0),(1,1),(2,2),(3,3),(4,3204),(5,3236)]⟩,by rfl⟩
     .refine r9 ?_;cases f;exact uE ⟨⟨[0,8,9],[(0,0),(1,1),(2,2),(3,3),(4,3204),(5,3236)]⟩,by rfl⟩
    .rintro _ rfl;obtain⟨aN,aO,aP,aQ,aR,aS,aT,aU⟩:=y1;dsimp only at e|-;refine qM ?_;obtain⟨hg12,e⟩:=qI e;obtain⟨hg13,e⟩:=qI e;refine AQ uS ?_ (hp:=by exact⟨pV,hg12,pV,hg13⟩)
     cases e;exact pH [(0,0),(1,1),(2,2),(3,3)]
  rw[aUX hgs2] at e;obtain⟨aV,hv14,hw14,e⟩:=qY e
  try simp only[go_sem] at hw14
  refine AQ (a15 (l:=[1000000026]) uS pX) ?_ (hp:=by exact⟨id,id,id,id,id,id,sQ,by first|exact Bool.eq_false_iff.2 hgs2|simpa using hgs2|simpa[rC] using hgs2,by first|exact Bool.eq_false_iff.2 hgs2|simpa using hgs2|simpa[rC] using hgs2,by first|exact Bool.eq_false_iff.2 hgs2|simpa using hgs2|simpa[rC] using hgs2,by first|exact Bool.eq_false_iff.2 hgs2|simpa using hgs2|simpa[rC] using hgs2,by first|exact Bool.eq_false_iff.2 hgs2|simpa using hgs2|simpa[rC] using hgs2,by first|exact Bool.eq_false_iff.2 hgs2|simpa using hgs2|simpa[rC] using hgs2,by first|exact Bool.eq_false_iff.2 hgs2|simpa using hgs2|simpa[rC] using hgs2,by first|exact Bool.of_not_eq_false (fun d=>hgs2 (by rw[d];rfl)) |exact Bool.of_not_eq_true (fun d=>hgs2 (by rw[d];rfl)) |simpa using hgs2|simpa[rC] using hgs2,id,id,id,id,id,id,sQ,pV,pV,pV,pV,pV,(qW hv14)⟩) (h:=by simp only[go_sem,hw14];rfl)
  refine qM (qQ ?_);refine qC uS ?_;refine qV e (fun e hc5=> ?_) (fun e hc5=> ?_)
  .refine qS (rG ?_);cases e;exact pH [(0,0),(1,1),(2,2),(3,3)]
  .refine r9 (qM ?_);refine vN uS ?_;obtain⟨aW,hv15,hw15,e⟩:=qY e
   try simp only[go_sem] at hw15
   refine vN uS ?_ (hp:=by exact(qW hv15)) (h:=by simp only[go_sem,hw15];rfl);obtain⟨aX,hv16,hw16,e⟩:=qY e
   try simp only[go_sem] at hw16
   refine qC uS ?_ (hp:=by exact⟨pV,pV,pV,pV,pV,(qW hv16)⟩) (h:=by simp only[go_sem,hw16];rfl)
   refine qQ ?_;refine qC uS ?_;obtain⟨y1,f,e⟩:=qO e;refine yZ (fun s=>s=(fun x=>⟨[(0,(.val .ref (some (0,0)),none)),(8,(.val .ref (some (4,0)),none)),(9,(.val (.int .i64) x.1,none))],[(0,.cells t6 (x.2.1,(x.2.2.1,(x.2.2.2.1,((aB.1,(aB.2.1,(aB.2.2.1,(aB.2.2.2.1,())))),((some 3),(aC.1,())))))) [(6,1),(8,2)]),(1,.grow 53 7 (aB.2.2.2.1.length)),(2,.grow 3 1 (aC.1.length)),(3,.map .str .bool (tY .str .bool (s9 .str .str aH ([105,100]:pF)) true aF)),(4,.cells sN ((s9 .str .str aH ([105,100]:pF)),(x.2.2.2.2.1,(x.2.2.2.2.2.1,(x.2.2.2.2.2.2.1,((sO (uO (tG (s9 .str .str aH ([102,108,97,103,115]:pF)) ([32]:pF)))),((max (0:Int) aW),(x.2.2.2.2.2.2.2,()))))))) [(3,5)]),(5,.grow 9 1 (x.2.2.2.2.2.2.1.length))],6,131,4⟩) y1) ?_ ?_
   .refine qV f (fun f hc6=> ?_) (fun f hc6=> ?_)
    .obtain⟨aY,hv17,hw17,f⟩:=qY f
     try simp only[go_sem] at hw17
     refine rF uS ?_ (hp:=by exact⟨pV,pV,pV,pV,pV,pV,(qW hv17)⟩) (h:=by simp only[go_sem,hw17];rfl)
     cases f;exact uE ⟨⟨[0,8,9],[(0,0),(1,1),(2,2),(3,3),(4,3204),(5,3236)]⟩,by rfl⟩
    .refine r9 ?_;cases f;exact uE ⟨⟨[0,8,9],[(0,0),(1,1),(2,2),(3,3),(4,3204),(5,3236)]⟩,by rfl⟩
   .rintro _ rfl;obtain⟨aZ,bA,bB,bC,bD,bE,bF,bG⟩:=y1;dsimp only at e|-;refine qM ?_;obtain⟨hg18,e⟩:=qI e;obtain⟨hg19,e⟩:=qI e;refine AQ uS ?_ (hp:=by exact⟨pV,hg18,pV,hg19⟩)
    cases e;exact pH [(0,0),(1,1),(2,2),(3,3)]
 rw[aUX hva1] at e;obtain⟨bH,hv20,hw20,e⟩:=qY e
 try simp only[go_sem] at hw20
 refine rF aPz ?_ (hp:=by exact(qW hv20)) (h:=by simp only[go_sem,hw20];rfl);refine qM ?_;obtain⟨bI,hv21,hw21,e⟩:=qY e
 try simp only[go_sem] at hw21
 refine qC uS ?_ (hp:=by exact(qW hv21)) (h:=by simp only[go_sem,hw21];rfl);obtain⟨hg22,e⟩:=qI e;refine qC uS ?_ (hp:=by exact⟨pV,hg22⟩)
 obtain⟨hg23,e⟩:=qI e;refine qC uS ?_ (hp:=by exact⟨id,id,sI,id,id,sQ,id,sQ,id,id,hg23,(fun d=>by first|exact sQ d|exact rfl|exact d.elim|simp_all)⟩)
 refine qQ ?_;refine RV 420 rfl (by repeat' (first|exact trivial|apply And.intro|exact(fun _=>rfl) |exact(fun h=>absurd h pJ))) ?_
 by_cases hgs7:((aG.2.2.2||(s9 .str .bool aF ([]:pF)))==false)=true
 .rw[aUU hgs7] at e;obtain⟨hg24,e⟩:=qI e;obtain⟨hg25,e⟩:=qI e;obtain⟨bJ,hv26,hw26,e⟩:=qY e
  try simp only[go_sem] at hw26
  refine AQ uS ?_ (hp:=by exact⟨id,id,id,id,id,id,sQ,hgs7,id,hg24,hgs7,fun _=>(by first|rfl|trivial),hg25,id,id,id,sQ,id,id,id,id,id,id,sQ,pV,pV,pV,pV,pV,(qW hv26)⟩) (h:=by simp only[go_sem,hw26];rfl)
  refine qM (qQ ?_);refine qC uS ?_;refine qV e (fun e hc8=> ?_) (fun e hc8=> ?_)
  .refine qS (rG ?_);cases e;exact pH [(0,0),(1,1),(2,2),(3,3)]
  .refine r9 (qM ?_);refine vN uS ?_;obtain⟨bK,hv27,hw27,e⟩:=qY e
   try simp only[go_sem] at hw27
   refine vN uS ?_ (hp:=by exact(qW hv27)) (h:=by simp only[go_sem,hw27];rfl);obtain⟨bM,hv28,hw28,e⟩:=qY e
   try simp only[go_sem] at hw28
   refine qC uS ?_ (hp:=by exact⟨pV,pV,pV,pV,pV,(qW hv28)⟩) (h:=by simp only[go_sem,hw28];rfl)
   refine qQ ?_;refine qC uS ?_;obtain⟨y1,f,e⟩:=qO e;refine yZ (fun s=>s=(fun x=>⟨[(0,(.val .ref (some (0,0)),none)),(8,(.val .ref (some (4,0)),none)),(9,(.val (.int .i64) x.1,none))],[(0,.cells t6 (x.2.1,(x.2.2.1,(x.2.2.2.1,((aB.1,(aB.2.1,(aB.2.2.1,(aB.2.2.2.1,())))),((some 3),(aC.1,())))))) [(6,1),(8,2)]),(1,.grow 53 7 (aB.2.2.2.1.length)),(2,.grow 3 1 (aC.1.length)),(3,.map .str .bool (tY .str .bool ([]:pF) true aF)),(4,.cells sN (([]:pF),(x.2.2.2.2.1,(x.2.2.2.2.2.1,(x.2.2.2.2.2.2.1,((sO (uO (tG ([]:pF) ([32]:pF)))),((max (0:Int) bK),(x.2.2.2.2.2.2.2,()))))))) [(3,5)]),(5,.grow 9 1 (x.2.2.2.2.2.2.1.length))],6,131,4⟩) y1) ?_ ?_
   .refine qV f (fun f hc9=> ?_) (fun f hc9=> ?_)
    .obtain⟨bN,hv29,hw29,f⟩:=qY f
     try simp only[go_sem] at hw29
     refine rF uS ?_ (hp:=by exact⟨pV,pV,pV,pV,pV,pV,(qW hv29)⟩) (h:=by simp only[go_sem,hw29];rfl)
     cases f;exact uE ⟨⟨[0,8,9],[(0,0),(1,1),(2,2),(3,3),(4,3204),(5,3236)]⟩,by rfl⟩
    .refine r9 ?_;cases f;exact uE ⟨⟨[0,8,9],[(0,0),(1,1),(2,2),(3,3),(4,3204),(5,3236)]⟩,by rfl⟩
   .rintro _ rfl;obtain⟨bO,bP,bQ,bR,bS,bT,bU,bV⟩:=y1;dsimp only at e|-;refine qM ?_;obtain⟨hg30,e⟩:=qI e;obtain⟨hg31,e⟩:=qI e;refine AQ uS ?_ (hp:=by exact⟨pV,hg30,pV,hg31⟩)
    cases e;exact pH [(0,0),(1,1),(2,2),(3,3)]
 rw[aUX hgs7] at e;obtain⟨bW,hv32,hw32,e⟩:=qY e
 try simp only[go_sem] at hw32
 refine AQ (a15 (l:=[1000000026]) uS pX) ?_ (hp:=by exact⟨id,id,id,id,id,id,sQ,by first|exact Bool.eq_false_iff.2 hgs7|simpa using hgs7|simpa[rC] using hgs7,by first|exact Bool.eq_false_iff.2 hgs7|simpa using hgs7|simpa[rC] using hgs7,by first|exact Bool.eq_false_iff.2 hgs7|simpa using hgs7|simpa[rC] using hgs7,by first|exact Bool.eq_false_iff.2 hgs7|simpa using hgs7|simpa[rC] using hgs7,by first|exact Bool.eq_false_iff.2 hgs7|simpa using hgs7|simpa[rC] using hgs7,by first|exact Bool.eq_false_iff.2 hgs7|simpa using hgs7|simpa[rC] using hgs7,by first|exact Bool.eq_false_iff.2 hgs7|simpa using hgs7|simpa[rC] using hgs7,by first|exact Bool.of_not_eq_false (fun d=>hgs7 (by rw[d];rfl)) |exact Bool.of_not_eq_true (fun d=>hgs7 (by rw[d];rfl)) |simpa using hgs7|simpa[rC] using hgs7,id,id,id,id,id,id,sQ,pV,pV,pV,pV,pV,(qW hv32)⟩) (h:=by simp only[go_sem,hw32];rfl)
 refine qM (qQ ?_);refine qC uS ?_;refine qV e (fun e hc10=> ?_) (fun e hc10=> ?_)
 .refine qS (rG ?_);cases e;exact pH [(0,0),(1,1),(2,2),(3,3)]
 .refine r9 (qM ?_);refine vN uS ?_;obtain⟨bX,hv33,hw33,e⟩:=qY e
  try simp only[go_sem] at hw33
  refine vN uS ?_ (hp:=by exact(qW hv33)) (h:=by simp only[go_sem,hw33];rfl);obtain⟨bZ,hv34,hw34,e⟩:=qY e
  try simp only[go_sem] at hw34
  refine qC uS ?_ (hp:=by exact⟨pV,pV,pV,pV,pV,(qW hv34)⟩) (h:=by simp only[go_sem,hw34];rfl)
  refine qQ ?_;refine qC uS ?_;obtain⟨y1,f,e⟩:=qO e;refine yZ (fun s=>s=(fun x=>⟨[(0,(.val .ref (some (0,0)),none)),(8,(.val .ref (some (4,0)),none)),(9,(.val (.int .i64) x.1,none))],[(0,.cells t6 (x.2.1,(x.2.2.1,(x.2.2.2.1,((aB.1,(aB.2.1,(aB.2.2.1,(aB.2.2.2.1,())))),((some 3),(aC.1,())))))) [(6,1),(8,2)]),(1,.grow 53 7 (aB.2.2.2.1.length)),(2,.grow 3 1 (aC.1.length)),(3,.map .str .bool (tY .str .bool ([]:pF) true aF)),(4,.cells sN (([]:pF),(x.2.2.2.2.1,(x.2.2.2.2.2.1,(x.2.2.2.2.2.2.1,((sO (uO (tG ([]:pF) ([32]:pF)))),((max (0:Int) bX),(x.2.2.2.2.2.2.2,()))))))) [(3,5)]),(5,.grow 9 1 (x.2.2.2.2.2.2.1.length))],6,131,4⟩) y1) ?_ ?_
  .refine qV f (fun f hc11=> ?_) (fun f hc11=> ?_)
   .obtain⟨cA,hv35,hw35,f⟩:=qY f
    try simp only[go_sem] at hw35
    refine rF uS ?_ (hp:=by exact⟨pV,pV,pV,pV,pV,pV,(qW hv35)⟩) (h:=by simp only[go_sem,hw35];rfl)
    cases f;exact uE ⟨⟨[0,8,9],[(0,0),(1,1),(2,2),(3,3),(4,3204),(5,3236)]⟩,by rfl⟩
   .refine r9 ?_;cases f;exact uE ⟨⟨[0,8,9],[(0,0),(1,1),(2,2),(3,3),(4,3204),(5,3236)]⟩,by rfl⟩
  .rintro _ rfl;obtain⟨cB,cC,cD,cE,cF,cG,cH,cJ⟩:=y1;dsimp only at e|-;refine qM ?_;obtain⟨hg36,e⟩:=qI e;obtain⟨hg37,e⟩:=qI e;refine AQ uS ?_ (hp:=by exact⟨pV,hg36,pV,hg37⟩)
   cases e;exact pH [(0,0),(1,1),(2,2),(3,3)]
attribute [irreducible] CB
end
noncomputable section
def FF (O:((List sE)×Int×Int×pF×pG×(List r7)×pO)):((List sE)×Int×Int×(List s8)×pO×pM)→Option (((List sE)×Int×Int×(List s8)×pO×pM)⊕((List sE)×Int×Int×(List s8)×pO×pM)):=fun(Z,aA,aB,aC,aD,aE)=>if (decide (aB=(0:Int)))=true then (AB Z aA aB (O.2.2.2.1,(O.2.2.2.2.1,(O.2.2.2.2.2.1,(aC,())))) (aD,()) aE).bind fun aF=>(AV aF aA aB (O.2.2.2.1,(O.2.2.2.2.1,(O.2.2.2.2.2.1,(aC,())))) (aD,()) aE).bind fun aG=>if (decide (aG.1=(3:Int)))=true then some (.inr (aF,aA,aB,aC,aD,aE)) else (CB aF aA aB (O.2.2.2.1,(O.2.2.2.2.1,(O.2.2.2.2.2.1,(aC,())))) (aD,()) aE).bind fun aH=>some (.inl (aH.1,aH.2.1,aH.2.2.1,aH.2.2.2.1,aH.2.2.2.2.1,aH.2.2.2.2.2)) else some (.inr (Z,aA,aB,aC,aD,aE))
def zB (O:pF):Option ((List sE)×Int×Int×pF×pG×(List r7)×(List s8)×pO×pM):=(Gs.slices_Collect_elements_token_elements_tokensF1 O).bind fun Z=>(CA Z (0:Int) (0:Int) (([]:pF),(([]:pG),(([]:List r7),(([]:List s8),())))) (([]:pO),()) ([]:pM)).bind fun aA=>sU (rQ (FF aA) (aA.1,aA.2.1,aA.2.2.1,([]:List s8),aA.2.2.2.2.2.2,([]:pM))) fun(aB,aC,aD,aE,aF,aG)=>(BM aB aC aD (aA.2.2.2.1,(aA.2.2.2.2.1,(aA.2.2.2.2.2.1,(aE,())))) (aF,()) ([101,110,116,114,105,101,115]:pF) aG).bind fun aH=>sU (σ:=(List sE)) (if (decide (aH.2.2=(0:Int)))=true then (AB aH.1 aH.2.1 aH.2.2 (aA.2.2.2.1,(aA.2.2.2.2.1,(aA.2.2.2.2.2.1,(aE,())))) (aF,()) aG).bind fun aI=>some (aI) else some (aH.1) ) fun aJ=>(BM aJ aH.2.1 aH.2.2 (aA.2.2.2.1,(aA.2.2.2.2.1,(aA.2.2.2.2.2.1,(aE,())))) (aF,()) ([99,97,116,97,108,111,103]:pF) aG).bind fun aK=>sU (σ:=(List sE)) (if (decide (aK.2.2=(0:Int)))=true then (AB aK.1 aK.2.1 aK.2.2 (aA.2.2.2.1,(aA.2.2.2.2.1,(aA.2.2.2.2.2.1,(aE,())))) (aF,()) aG).bind fun aL=>some (aL) else some (aK.1) ) fun aM=>if 0≤(0:Int)∧(0:Int)<(aM.length:Int) then if (!decide ((qR sZ aM (0:Int)).1=(4:Int)))=true then (zT aM aK.2.1 aK.2.2 (aA.2.2.2.1,(aA.2.2.2.2.1,(aA.2.2.2.2.2.1,(aE,())))) (aF,()) (3:Int) aG).bind fun aN=>some ((aM,aN.1,aN.2,aA.2.2.2.1,aA.2.2.2.2.1,aA.2.2.2.2.2.1,aE,aF,aG)) else some ((aM,aK.2.1,aK.2.2,aA.2.2.2.1,aA.2.2.2.2.1,aA.2.2.2.2.2.1,aE,aF,aG)) else none
section
variable (O:pF)
abbrev a9Q:List qE:=[(.val .str O,none)]
abbrev a9R:List qD:=[]
@[go_sem] def a9S:qK:=⟨[((zB O)).isSome=true],[(.val .ref (some (0,0)),none)],[.cells t6 ((val (zB O)).1,((val (zB O)).2.1,((val (zB O)).2.2.1,(((val (zB O)).2.2.2.1,((val (zB O)).2.2.2.2.1,((val (zB O)).2.2.2.2.2.1,((val (zB O)).2.2.2.2.2.2.1,())))),((some 1),((val (zB O)).2.2.2.2.2.2.2.1,())))))) [(6,2),(8,3)],.map .str .bool ((val (zB O)).2.2.2.2.2.2.2.2),.grow 53 7 (((val (zB O)).2.2.2.2.2.2.1).length),.grow 3 1 (((val (zB O)).2.2.2.2.2.2.2.1).length)]⟩
def aIk:List qE→List qD→Option qK:=rP (V:=pF) (a9Q) (fun x=>a9R) fun x=>a9S x
@[go_sem] def aUO:aIk (no_index (a9Q O)) (no_index a9R)=some (a9S O):=rT (fun a0 b0 h1 h2=>by cases h1;cases h2;rfl) O
end
@[go_sem] abbrev a9T:Nat×r5:=(26,⟨[.v],aIk,[],[],none⟩)
def zW:rH Tryz.prog [wD,BK,sL,D5,D2,JO,C1,AS,zJ] (rI [aFc,a29,aIh,P6,IE,aIj,TR,M6]):=⟨⟨wS,⟨D7,⟨sP,⟨EU,⟨HN,⟨ON,⟨DS,⟨G4,⟨AA,trivial⟩⟩⟩⟩⟩⟩⟩⟩⟩,qP aOv (qP aOr (qP aPy (qP T8 (qP KE (qP aPA (qP YJ (qP OO rN))))))),rK⟩
def aIl:r8 Tryz.prog a9T:=by
 refine rU zW Tryz.func26 (c:=_) rfl (N:=54) pW (ts:=[(2,none)]) rfl (fun _ _=>rfl) ?_;intro O hs hrow;dsimp only[a9Q,a9R,a9S,rM,qT,r6,rC,rO,Nat.reduceAdd] at hs hrow|-;have hz:=hs;obtain⟨z0,e⟩:=aUV.1 hz
 try rw[s7 e]
 clear hz hs;unfold zB at e;refine qC zW ?_;obtain⟨Z,hv1,hw1,e⟩:=qY e
 try simp only[go_sem] at hw1
 refine qC zW ?_ (hp:=by exact⟨pV,(qW hv1)⟩) (h:=by simp only[go_sem,hw1];rfl)
 obtain⟨aA,hv2,hw2,e⟩:=qY e
 try simp only[go_sem] at hw2
 refine qC zW ?_ (hp:=by exact⟨pV,pV,pV,pV,(qW hv2)⟩) (h:=by simp only[go_sem,hw2];rfl)
 refine qQ (rS ?_);obtain⟨y1,hy1,e⟩:=qO e;refine uA 0 (fun s=>s=(fun x=>⟨[(3,(.val .ref (some (0,0)),none))],[(0,.cells t6 (x.1,(x.2.1,(x.2.2.1,((aA.2.2.2.1,(aA.2.2.2.2.1,(aA.2.2.2.2.2.1,(x.2.2.2.1,())))),((some 1),(x.2.2.2.2.1,())))))) [(6,2),(8,3)]),(1,.map .str .bool x.2.2.2.2.2),(2,.grow 53 7 (x.2.2.2.1.length)),(3,.grow 3 1 (x.2.2.2.2.1.length))],4,54,0⟩) y1) ?_ ?_
 .refine tZ hy1 (fun x=>⟨[(3,(.val .ref (some (0,0)),none))],[(0,.cells t6 (x.1,(x.2.1,(x.2.2.1,((aA.2.2.2.1,(aA.2.2.2.2.1,(aA.2.2.2.2.2.1,(x.2.2.2.1,())))),((some 1),(x.2.2.2.2.1,())))))) [(6,2),(8,3)]),(1,.map .str .bool x.2.2.2.2.2),(2,.grow 53 7 (x.2.2.2.1.length)),(3,.grow 3 1 (x.2.2.2.2.1.length))],4,54,0⟩) ⟨[3],[(0,192),(1,128),(2,195),(3,196)]⟩ pX ?_;intro x1 w1 n1 d f;obtain⟨aB,aC,aD,aE,aF,aG⟩:=x1;unfold FF at d;dsimp only at d|-;refine qQ ?_;refine qC zW ?_;refine qV d (fun d hc1=> ?_) (fun d hc1=> ?_)
  .refine r9 (qM (rS ?_));obtain⟨aH,hv3,hw3,d⟩:=qY d
   try simp only[go_sem] at hw3
   refine qC zW ?_ (hp:=by exact⟨pV,pV,pV,pV,pV,(qW hv3)⟩) (h:=by simp only[go_sem,hw3];rfl)
   refine qQ ?_;obtain⟨aI,hv4,hw4,d⟩:=qY d
   try simp only[go_sem] at hw4
   refine qC zW ?_ (hp:=by exact⟨pV,pV,pV,pV,pV,pV,(qW hv4)⟩) (h:=by simp only[go_sem,hw4];rfl)
   refine qV d (fun d hc2=> ?_) (fun d hc2=> ?_)
   .refine tV (tU (aD4 pJ (tX ?_)));cases d;cases f;exact tW ⟨⟨[3],[(0,0),(1,1),(2,2),(3,3)]⟩,by rfl⟩
   .refine r9 (qM ?_);obtain⟨aJ,hv5,hw5,d⟩:=qY d
    try simp only[go_sem] at hw5
    refine rF zW ?_ (hp:=by exact⟨pV,pV,(qW hv5)⟩) (h:=by simp only[go_sem,hw5];rfl)
    refine rW ?_;cases d;exact sX ⟨⟨[3],[(0,0),(1,1),(2,2),(3,3)]⟩,_,by rfl,f⟩
  .refine tV (tU (tX ?_));cases d;cases f;exact tW ⟨⟨[3],[(0,0),(1,1),(2,2),(3,3)]⟩,by rfl⟩
 .rintro _ rfl;obtain⟨aK,aL,aM,aN,aO,aP⟩:=y1;dsimp only at e|-;refine u7 (qM ?_);obtain⟨aQ,hv6,hw6,e⟩:=qY e
  try simp only[go_sem] at hw6
  refine qC zW ?_ (hp:=by exact⟨pV,pV,pV,pV,pV,(qW hv6)⟩) (h:=by simp only[go_sem,hw6];rfl)
  refine qQ ?_;refine qC zW ?_;obtain⟨aR,d,e⟩:=qO e;refine yZ (fun s=>s=(fun x=>⟨[(3,(.val .ref (some (0,0)),none))],[(0,.cells t6 (x,(aQ.2.1,(aQ.2.2,((aA.2.2.2.1,(aA.2.2.2.2.1,(aA.2.2.2.2.2.1,(aN,())))),((some 1),(aO,())))))) [(6,2),(8,3)]),(1,.map .str .bool aP),(2,.grow 53 7 (aN.length)),(3,.grow 3 1 (aO.length))],4,54,0⟩) aR) ?_ ?_
  .refine qV d (fun d hc3=> ?_) (fun d hc3=> ?_)
   .obtain⟨aS,hv7,hw7,d⟩:=qY d
    try simp only[go_sem] at hw7
    refine rF zW ?_ (hp:=by exact⟨pV,pV,pV,pV,pV,(qW hv7)⟩) (h:=by simp only[go_sem,hw7];rfl)
    cases d;exact uE ⟨⟨[3],[(0,0),(1,1),(2,2),(3,3)]⟩,by rfl⟩
   .refine r9 ?_;cases d;exact uE ⟨⟨[3],[(0,0),(1,1),(2,2),(3,3)]⟩,by rfl⟩
  .rintro _ rfl;dsimp only at e|-;refine qM ?_;obtain⟨aT,hv8,hw8,e⟩:=qY e
   try simp only[go_sem] at hw8
   refine qC zW ?_ (hp:=by exact⟨pV,pV,pV,pV,pV,(qW hv8)⟩) (h:=by simp only[go_sem,hw8];rfl)
   refine qQ ?_;refine qC zW ?_;obtain⟨aU,d,e⟩:=qO e;refine yZ (fun s=>s=(fun x=>⟨[(3,(.val .ref (some (0,0)),none))],[(0,.cells t6 (x,(aT.2.1,(aT.2.2,((aA.2.2.2.1,(aA.2.2.2.2.1,(aA.2.2.2.2.2.1,(aN,())))),((some 1),(aO,())))))) [(6,2),(8,3)]),(1,.map .str .bool aP),(2,.grow 53 7 (aN.length)),(3,.grow 3 1 (aO.length))],4,54,0⟩) aU) ?_ ?_
   .refine qV d (fun d hc4=> ?_) (fun d hc4=> ?_)
    .obtain⟨aV,hv9,hw9,d⟩:=qY d
     try simp only[go_sem] at hw9
     refine rF zW ?_ (hp:=by exact⟨pV,pV,pV,pV,pV,(qW hv9)⟩) (h:=by simp only[go_sem,hw9];rfl)
     cases d;exact uE ⟨⟨[3],[(0,0),(1,1),(2,2),(3,3)]⟩,by rfl⟩
    .refine r9 ?_;cases d;exact uE ⟨⟨[3],[(0,0),(1,1),(2,2),(3,3)]⟩,by rfl⟩
   .rintro _ rfl;dsimp only at e|-;refine qM (qQ ?_);obtain⟨hg10,e⟩:=qI e;refine qC zW ?_ (hp:=by exact hg10);refine qV e (fun e hc5=> ?_) (fun e hc5=> ?_)
    .obtain⟨aW,hv11,hw11,e⟩:=qY e
     try simp only[go_sem] at hw11
     refine rF zW ?_ (hp:=by exact⟨pV,pV,pV,pV,pV,(qW hv11)⟩) (h:=by simp only[go_sem,hw11];rfl)
     refine qM ?_;refine qC zW ?_;refine qS ?_;cases e;exact pH [(0,0),(1,1),(2,2),(3,3)]
    .refine r9 (qM ?_);refine qC zW ?_;refine qS ?_;cases e;exact pH [(0,0),(1,1),(2,2),(3,3)]
def PJ (O:pF) (Z:((List sE)×Int×Int×pF×pG×(List r7)×(List s8)×pO×pM)):(Int×pG)→Option ((Int×pG)⊕pG):=fun(aA,aB)=>if (decide (aA<(Z.2.2.2.2.2.2.2.1.length:Int)))=true then if qG (aA- (1:Int)) then if 0≤(aA- (1:Int))∧(aA- (1:Int))<(Z.2.2.2.2.2.2.2.1.length:Int) then if 0≤aA∧aA<(Z.2.2.2.2.2.2.2.1.length:Int) then if 0≤(qR (.int .i64) Z.2.2.2.2.2.2.2.1 (aA- (1:Int)))∧(qR (.int .i64) Z.2.2.2.2.2.2.2.1 (aA- (1:Int)))≤(qR (.int .i64) Z.2.2.2.2.2.2.2.1 aA)∧(qR (.int .i64) Z.2.2.2.2.2.2.2.1 aA)≤(O.length:Int) then if (aB.length+([(sF O (qR (.int .i64) Z.2.2.2.2.2.2.2.1 (aA- (1:Int))) (qR (.int .i64) Z.2.2.2.2.2.2.2.1 aA))]:pG).length)*16≤140737488355328 then if qG (aA+(1:Int)) then some (.inl ((aA+(1:Int)),(aB++([(sF O (qR (.int .i64) Z.2.2.2.2.2.2.2.1 (aA- (1:Int))) (qR (.int .i64) Z.2.2.2.2.2.2.2.1 aA))]:pG)))) else none else none else none else none else none else none else some (.inr aB)
def CC (O:pF):Option (pF×pG×pF×Int):=(zB O).bind fun Z=>if (!decide (Z.2.2.1=(0:Int)))=true then some ((([]:pF),([]:pG),([]:pF),Z.2.2.1)) else if 0≤(0:Int)∧(0:Int)<(Z.2.2.2.2.2.2.2.1.length:Int) then if 0≤(0:Int)∧(0:Int)≤(qR (.int .i64) Z.2.2.2.2.2.2.2.1 (0:Int))∧(qR (.int .i64) Z.2.2.2.2.2.2.2.1 (0:Int))≤(O.length:Int) then if qG ((Z.2.2.2.2.2.2.2.1.length:Int)- (1:Int)) then if 0≤((Z.2.2.2.2.2.2.2.1.length:Int)- (1:Int))∧((Z.2.2.2.2.2.2.2.1.length:Int)- (1:Int))<(Z.2.2.2.2.2.2.2.1.length:Int) then if 0≤(qR (.int .i64) Z.2.2.2.2.2.2.2.1 ((Z.2.2.2.2.2.2.2.1.length:Int)- (1:Int)))∧(qR (.int .i64) Z.2.2.2.2.2.2.2.1 ((Z.2.2.2.2.2.2.2.1.length:Int)- (1:Int)))≤(O.length:Int)∧(O.length:Int)≤(O.length:Int) then sU (rQ (PJ O Z) ((1:Int),([]:pG))) fun aA=>some (((sF O (0:Int) (qR (.int .i64) Z.2.2.2.2.2.2.2.1 (0:Int))),aA,(sF O (qR (.int .i64) Z.2.2.2.2.2.2.2.1 ((Z.2.2.2.2.2.2.2.1.length:Int)- (1:Int))) (O.length:Int)),(0:Int))) else none else none else none else none else none
section
variable (O:pF)
abbrev a9U:List qE:=[(.val .str O,none)]
abbrev a9V:List qD:=[]
@[go_sem] def a9W:qK:=⟨[((CC O)).isSome=true],[(.val AR ((val (CC O)).1,((val (CC O)).2.1,((val (CC O)).2.2.1,()))),none),(.val (.int .i64) ((val (CC O)).2.2.2),none)],[]⟩
def aIm:List qE→List qD→Option qK:=rP (V:=pF) (a9U) (fun x=>a9V) fun x=>a9W x
@[go_sem] def aUP:aIm (no_index (a9U O)) (no_index a9V)=some (a9W O):=rT (fun a0 b0 h1 h2=>by cases h1;cases h2;rfl) O
end
@[go_sem] abbrev a9X:Nat×r5:=(9,⟨[.v],aIm,[],[],none⟩)
def FG:rH Tryz.prog [wD,sL,vY,JL,D5,EW,C1] (rI [a9T]):=⟨⟨wS,⟨sP,⟨wE,⟨OM,⟨EU,⟨HS,⟨DS,trivial⟩⟩⟩⟩⟩⟩⟩,qP aIl rN,rK⟩
def aPB:r8 Tryz.prog a9X:=by
 refine rU FG Tryz.func9 (c:=_) rfl (N:=74) pW (ts:=[(2,some 26),(3,none)]) rfl (fun _ _=>rfl) ?_;intro O hs hrow;dsimp only[a9U,a9V,a9W,rM,qT,r6,rC,rO,Nat.reduceAdd] at hs hrow|-;have hz:=hs;obtain⟨z0,e⟩:=aUV.1 hz
 try rw[s7 e]
 clear hz hs;unfold CC at e;refine qC FG ?_;obtain⟨Z,hv1,hw1,e⟩:=qY e
 try simp only[go_sem] at hw1
 refine qC FG ?_ (hp:=by exact(qW hv1)) (h:=by simp only[go_sem,hw1];rfl);refine qQ ?_;refine qC FG ?_;refine qV e (fun e hc1=> ?_) (fun e hc1=> ?_)
 .refine vN FG ?_;refine qS (rG ?_);cases e;exact pH []
 .refine r9 (qM ?_);obtain⟨hg2,e⟩:=qI e;obtain⟨hg3,e⟩:=qI e;obtain⟨hg4,e⟩:=qI e;obtain⟨hg5,e⟩:=qI e;obtain⟨hg6,e⟩:=qI e;refine vN FG ?_ (hp:=by exact⟨hg2,hg3,hg4,hg5,hg6⟩);refine qQ ?_;refine qC FG ?_;refine rS ?_;obtain⟨aA,hy1,e⟩:=qO e;refine uA 0 (fun s=>s=(fun x=>⟨[(2,(.val .ref (some (0,0)),none)),(5,(.val .ref (some (1,0)),none))],[(0,.cells AR (([]:pF),(([]:pG),(([]:pF),()))) [(1,2)]),(1,.cells AR ((sF O (0:Int) (qR (.int .i64) Z.2.2.2.2.2.2.2.1 (0:Int))),(x,((sF O (qR (.int .i64) Z.2.2.2.2.2.2.2.1 ((Z.2.2.2.2.2.2.2.1.length:Int)- (1:Int))) (O.length:Int)),()))) [(1,3)]),(2,.grow 9 1 (([]:pG).length)),(3,.grow 9 1 (x.length))],4,74,0⟩) aA) ?_ ?_
  .refine tZ hy1 (fun x=>⟨[(0,(.val .str O,none)),(2,(.val .ref (some (0,0)),none)),(4,(.val .ref (some (1,0)),none)),(5,(.val .ref (some (2,0)),none)),(6,(.val (.int .i64) x.1,none))],[(0,.cells AR (([]:pF),(([]:pG),(([]:pF),()))) [(1,3)]),(1,.cells t6 (Z.1,(Z.2.1,(Z.2.2.1,((Z.2.2.2.1,(Z.2.2.2.2.1,(Z.2.2.2.2.2.1,(Z.2.2.2.2.2.2.1,())))),((some 4),(Z.2.2.2.2.2.2.2.1,())))))) [(6,5),(8,6)]),(2,.cells AR ((sF O (0:Int) (qR (.int .i64) Z.2.2.2.2.2.2.2.1 (0:Int))),(x.2,((sF O (qR (.int .i64) Z.2.2.2.2.2.2.2.1 ((Z.2.2.2.2.2.2.2.1.length:Int)- (1:Int))) (O.length:Int)),()))) [(1,7)]),(3,.grow 9 1 (([]:pG).length)),(4,.map .str .bool Z.2.2.2.2.2.2.2.2),(5,.grow 53 7 (Z.2.2.2.2.2.2.1.length)),(6,.grow 3 1 (Z.2.2.2.2.2.2.2.1.length)),(7,.grow 9 1 (x.2.length))],8,74,0⟩) ⟨[0,2,4,5,6],[(0,0),(1,96),(2,1056),(3,1),(4,97),(5,98),(6,99),(7,1088)]⟩ pX ?_;intro x1 w1 n1 d f;obtain⟨aB,aC⟩:=x1;unfold PJ at d;dsimp only at d|-;refine qQ ?_;refine qC FG ?_;refine qV d (fun d hc2=> ?_) (fun d hc2=> ?_)
   .refine r9 (qM (qQ (rS ?_)));obtain⟨hg7,d⟩:=qI d;obtain⟨hg8,d⟩:=qI d;obtain⟨hg9,d⟩:=qI d;obtain⟨hg10,d⟩:=qI d;obtain⟨hg11,d⟩:=qI d;refine AQ FG ?_ (hp:=by exact⟨hg7,hg8,hg9,hg10,pV,hg11⟩)
    refine rW (qM ?_);obtain⟨hg12,d⟩:=qI d;refine rF FG ?_ (hp:=by exact hg12);cases d;exact sX ⟨⟨[0,2,4,5,6],[(0,0),(1,1),(2,2),(3,3),(4,4),(5,5),(6,6),(7,7)]⟩,_,by rfl,f⟩
   .refine tV (tU (tX ?_));cases d;cases f;exact tW ⟨⟨[2,5],[(0,0),(1,2),(2,3),(3,7)]⟩,by rfl⟩
  .rintro _ rfl;dsimp only at e|-;refine u7 (qM ?_);refine qC FG ?_;refine qS ?_;cases e;exact pH []
attribute [irreducible] zB CC
end
noncomputable section
def yA (O:pF):Option (pF×pG×(List r7)×(List s8)×Int×Int):=(zB O).bind fun Z=>if (!decide (Z.2.2.1=(0:Int)))=true then some ((([]:pF),([]:pG),([]:List r7),([]:List s8),Z.2.1,Z.2.2.1)) else some ((Z.2.2.2.1,Z.2.2.2.2.1,Z.2.2.2.2.2.1,Z.2.2.2.2.2.2.1,(0:Int),(0:Int)))
section
variable (O:pF)
abbrev a9Y:List qE:=[(.val .str O,none)]
abbrev a9Z:List qD:=[]
@[go_sem] def a90:qK:=⟨[((yA O)).isSome=true],[(.val D0 ((val (yA O)).1,((val (yA O)).2.1,((val (yA O)).2.2.1,((val (yA O)).2.2.2.1,())))),none),(.val (.int .i64) ((val (yA O)).2.2.2.2.1),none),(.val (.int .i64) ((val (yA O)).2.2.2.2.2),none)],[]⟩
def aIn:List qE→List qD→Option qK:=rP (V:=pF) (a9Y) (fun x=>a9Z) fun x=>a90 x
@[go_sem] def aUQ:aIn (no_index (a9Y O)) (no_index a9Z)=some (a90 O):=rT (fun a0 b0 h1 h2=>by cases h1;cases h2;rfl) O
end
@[go_sem] abbrev YO:Nat×r5:=(12,⟨[.v],aIn,[],[],none⟩)
def PL:rH Tryz.prog [wD,D5,BJ,C1] (rI [a9T]):=⟨⟨wS,⟨EU,⟨D3,⟨DS,trivial⟩⟩⟩⟩,qP aIl rN,rK⟩
def aIo:r8 Tryz.prog YO:=by
 refine rU PL Tryz.func12 (c:=_) rfl (N:=26) pW (ts:=[(2,some 36),(3,none),(4,none)]) rfl (fun _ _=>rfl) ?_;intro O hs hrow;dsimp only[a9Y,a9Z,a90,rM,qT,r6,rC,rO,Nat.reduceAdd] at hs hrow|-;have hz:=hs;obtain⟨z0,e⟩:=aUV.1 hz
 try rw[s7 e]
 clear hz hs;unfold yA at e;refine qC PL ?_;obtain⟨Z,hv1,hw1,e⟩:=qY e
 try simp only[go_sem] at hw1
 refine qC PL ?_ (hp:=by exact(qW hv1)) (h:=by simp only[go_sem,hw1];rfl);refine qQ ?_;refine qC PL ?_;refine qV e (fun e hc1=> ?_) (fun e hc1=> ?_)
 .refine vN PL ?_;refine qS (rG ?_);cases e;exact pH []
 .refine r9 (qM ?_);refine qC PL ?_;refine qS ?_;cases e;exact pH []
def PM:Option Bool:=(yA ([60,99,97,116,97,108,111,103,32,116,97,103,61,34,100,101,34,62,60,101,110,116,114,105,101,115,62,60,101,110,116,114,121,32,105,100,61,34,97,34,62,60,116,97,114,103,101,116,62,120,60,47,116,97,114,103,101,116,62,60,47,101,110,116,114,121,62,60,47,101,110,116,114,105,101,115,62,60,47,99,97,116,97,108,111,103,62]:pF)).bind fun O=>if (((((decide (O.2.2.2.2.2=(0:Int)))&&(decide (O.1=([100,101]:pF))))&&(decide ((O.2.2.2.1.length:Int)=(1:Int))))==true)=true→0≤(0:Int)∧(0:Int)<(O.2.2.2.1.length:Int)) then if ((((((decide (O.2.2.2.2.2=(0:Int)))&&(decide (O.1=([100,101]:pF))))&&(decide ((O.2.2.2.1.length:Int)=(1:Int))))&&(decide ((qR sN O.2.2.2.1 (0:Int)).1=([97]:pF))))==true)=true→0≤(0:Int)∧(0:Int)<(O.2.2.2.1.length:Int)) then some ((((((decide (O.2.2.2.2.2=(0:Int)))&&(decide (O.1=([100,101]:pF))))&&(decide ((O.2.2.2.1.length:Int)=(1:Int))))&&(decide ((qR sN O.2.2.2.1 (0:Int)).1=([97]:pF))))&&(decide ((qR sN O.2.2.2.1 (0:Int)).2.2.1=([120]:pF))))) else none else none
section
abbrev a91:List qE:=[]
abbrev a92:List qD:=[]
@[go_sem] def a93:qK:=⟨[(PM).isSome=true],[(.val .bool (val PM),none)],[]⟩
def aIp:List qE→List qD→Option qK:=rP (V:=Unit) (fun x=>a91) (fun x=>a92) fun x=>a93
@[go_sem] def aUR:aIp (no_index a91) (no_index a92)=some a93:=rT (fun _ _ h1 h2=>by cases h1;cases h2;rfl) ()
end
@[go_sem] abbrev a94:Nat×r5:=(8,⟨[],aIp,[],[],none⟩)
def YP:rH Tryz.prog [sL,G6,BJ,xI] (rI [YO]):=⟨⟨sP,⟨JM,⟨D3,⟨y7,trivial⟩⟩⟩⟩,qP aIo rN,rK⟩
def aPC:r8 Tryz.prog a94:=by
 refine rU YP Tryz.func8 (c:=_) rfl (N:=38) pW (ts:=[(0,none)]) rfl (fun _ _=>rfl) ?_;intro⟨⟩ hs hrow;dsimp only[a91,a92,a93,rM,qT,r6,rC,rO,Nat.reduceAdd] at hs hrow|-;have hz:=hs;obtain⟨z0,e⟩:=aUV.1 hz
 try rw[s7 e]
 clear hz hs;unfold PM at e;refine qC YP ?_ (h:=by simp only[List.append_eq,go_sem];rfl);obtain⟨O,hv1,hw1,e⟩:=qY e
 try simp only[go_sem] at hw1
 refine qC YP ?_ (hp:=by exact(qW hv1)) (h:=by simp only[List.append_eq,go_sem,hw1];rfl);obtain⟨hg2,e⟩:=qI e;obtain⟨hg3,e⟩:=qI e;refine qC YP ?_ (hp:=by exact⟨id,id,sI,id,id,id,sI,id,id,hg2,id,id,id,sI,id,id,hg3,id,id,id,sI⟩) (h:=by simp only[List.append_eq,go_sem];rfl);refine qS ?_;cases e;exact pH []
attribute [irreducible] yA PM
end
noncomputable section
def MU (O:pF) (Z:Int) (aA:s8):Option Bool:=PM.bind fun aB=>if (!aB)=true then some (false) else if (((decide ((4000:Int)<(O.length:Int)))==false)=true→((P5 aA)).isSome=true) then if ((((decide ((4000:Int)<(O.length:Int)))||(!((decide ((((aA.1.length:Int)+(aA.2.1.length:Int))+(aA.2.2.1.length:Int))≤(6000:Int)))&&(decide (((val (zS aA.2.2.2.1 aA.2.2.2.2.2.2.1))+(val (zS aA.2.2.2.2.1 ([]:List r7))))≤(6000:Int))))))==false)=true→((PE aA)).isSome=true) then if (((decide ((4000:Int)<(O.length:Int)))||(!((decide ((((aA.1.length:Int)+(aA.2.1.length:Int))+(aA.2.2.1.length:Int))≤(6000:Int)))&&(decide (((val (zS aA.2.2.2.1 aA.2.2.2.2.2.2.1))+(val (zS aA.2.2.2.2.1 ([]:List r7))))≤(6000:Int))))))||(!((((((((((!decide (aA.1=([]:pF)))&&(decide ((aA.1.length:Int)≤(200:Int))))&&((decide ((aA.1.length:Int)≤(4000:Int)))&&(val (vG aA.1))))&&((decide ((aA.2.1.length:Int)≤(4000:Int)))&&(val (vG aA.2.1))))&&((decide ((aA.2.2.1.length:Int)≤(4000:Int)))&&(val (vG aA.2.2.1))))&&(val (E3 aA.2.2.2.1)))&&(val (F8 aA.2.2.2.2.1)))&&(decide ((0:Int)≤aA.2.2.2.2.2.1)))&&(decide (aA.2.2.2.2.2.1≤(4:Int))))&&(val (GH aA.2.2.2.2.2.2.1)))))=true then some (true) else (CC O).bind fun aC=>(yA O).bind fun aD=>if ((!decide (aC.2.2.2=(0:Int)))||(!decide (aD.2.2.2.2.2=(0:Int))))=true then some ((decide (aC.2.2.2=aD.2.2.2.2.2))) else (FC (aD.1,(aD.2.1,(aD.2.2.1,(aD.2.2.2.1,()))))).bind fun aE=>(FC (([120]:pF),(([]:pG),(([]:List r7),(([aA]:List s8),()))))).bind fun aF=>if ((((!decide (aE.2.2.2=(0:Int)))||(!decide (aF.2.2.2=(0:Int))))||(!decide ((aF.2.1.length:Int)=(1:Int))))||(!decide ((aC.2.1.length:Int)=(aD.2.2.2.1.length:Int))))=true then some (false) else (K1 (aE.1,(aC.2.1,(aE.2.2.1,())))).bind fun aG=>(yA aG).bind fun aH=>if (((!decide (aH.2.2.2.2.2=(0:Int)))==false)=true→((MK (aH.1,(aH.2.1,(aH.2.2.1,(aH.2.2.2.1,())))) (aD.1,(aD.2.1,(aD.2.2.1,(aD.2.2.2.1,())))))).isSome=true) then if ((!decide (aH.2.2.2.2.2=(0:Int)))||(!((((decide (aH.1=aD.1))&&(val (xT aH.2.1 aD.2.1)))&&(val (AU aH.2.2.1 aD.2.2.1)))&&(val (F3 aH.2.2.2.1 aD.2.2.2.1)))))=true then some (false) else if (decide ((aC.2.1.length:Int)=(0:Int)))=true then some (true) else if (aC.2.1.length:Int)≠0 then (JP (aD.1,(aD.2.1,(aD.2.2.1,(aD.2.2.2.1,())))) aA.1).bind fun aI=>if (aI.2&&(!decide (aI.1=(Int.tmod (IntKind.wrap .i64 Z) (aC.2.1.length:Int)))))=true then some (true) else if (0+aC.2.1.length)*16≤140737488355328 then if 0≤(0:Int)∧(0:Int)<(aF.2.1.length:Int) then if 0≤(Int.tmod (IntKind.wrap .i64 Z) (aC.2.1.length:Int))∧(Int.tmod (IntKind.wrap .i64 Z) (aC.2.1.length:Int))<((((([]:pG)++aC.2.1).length):Nat):Int) then if (0+aD.2.2.2.1.length)*128≤140737488355328 then if 0≤(Int.tmod (IntKind.wrap .i64 Z) (aC.2.1.length:Int))∧(Int.tmod (IntKind.wrap .i64 Z) (aC.2.1.length:Int))<((((([]:List s8)++aD.2.2.2.1).length):Nat):Int) then (K1 (aC.1,((List.set (([]:pG)++aC.2.1) (Int.toNat (Int.tmod (IntKind.wrap .i64 Z) (aC.2.1.length:Int))) (qR .str aF.2.1 (0:Int))),(aC.2.2.1,())))).bind fun aJ=>(yA aJ).bind fun aK=>if ((decide (aK.2.2.2.2.2=(0:Int)))==true)=true then if (((decide (aK.2.2.2.2.2=(0:Int)))==true)=true→((MK (aK.1,(aK.2.1,(aK.2.2.1,(aK.2.2.2.1,())))) (aD.1,(aD.2.1,(aD.2.2.1,((List.set (([]:List s8)++aD.2.2.2.1) (Int.toNat (Int.tmod (IntKind.wrap .i64 Z) (aC.2.1.length:Int))) aA),())))))).isSome=true) then some (((decide (aK.2.2.2.2.2=(0:Int)))&&((((decide (aK.1=aD.1))&&(val (xT aK.2.1 aD.2.1)))&&(val (AU aK.2.2.1 aD.2.2.1)))&&(val (F3 aK.2.2.2.1 (List.set (([]:List s8)++aD.2.2.2.1) (Int.toNat (Int.tmod (IntKind.wrap .i64 Z) (aC.2.1.length:Int))) aA)))))) else none else none else none else none else none else none else none else none else none else none else none
section
variable (O:pF) (Z:Int) (aA:s8)
abbrev TY:List qE:=[(.val .str O,none),(.val (.int .u8) Z,none),(.val sN aA,none)]
abbrev YQ:List qD:=[]
@[go_sem] def PN:qK:=⟨[((MU O Z aA)).isSome=true],[(.val .bool (val (MU O Z aA)),none)],[]⟩
def a95:List qE→List qD→Option qK:=rP (V:=(pF×Int×s8)) (fun x=>TY x.1 x.2.1 x.2.2) (fun x=>YQ) fun x=>PN x.1 x.2.1 x.2.2
@[go_sem] def aPD:a95 (no_index (TY O Z aA)) (no_index YQ)=some (PN O Z aA):=rT (fun⟨a0,a1,a2⟩ ⟨b0,b1,b2⟩ h1 h2=>by cases h1;cases h2;rfl) (O,Z,aA)
end
@[go_sem] abbrev aPE:Nat×r5:=(6,⟨[.v,.v,.v],a95,[],[],none⟩)
def wM:rH Tryz.prog [wD,ER,sL,SK,JL,Y2,BJ,xI] (rI [a94,a6o,a8I,a9X,YO,a9f,a6k,a7y,a3h]):=⟨⟨wS,⟨HO,⟨sP,⟨a3b,⟨OM,⟨aE1,⟨D3,⟨y7,trivial⟩⟩⟩⟩⟩⟩⟩⟩,qP aPC (qP aOW (qP aPl (qP aPB (qP aIo (qP aPr (qP aOV (qP aO8 (qP aOs rN)))))))),rK⟩
def PO:rH Tryz.prog [sL,SK,JL,Y2,BJ,xI] (rI [a94,a6o,a8I,a9X,YO,a9f,a6k,a7y,a3h]):=⟨⟨sP,⟨a3b,⟨OM,⟨aE1,⟨D3,⟨y7,trivial⟩⟩⟩⟩⟩⟩,wM.Γ,rK⟩
def aPF:r8 Tryz.prog aPE:=by
 refine rU wM Tryz.func6 (c:=_) rfl (N:=179) pW (ts:=[(6,none)]) rfl (fun _ _=>rfl) ?_;intro⟨O,Z,aA⟩ hs hrow;dsimp only[TY,YQ,PN,rM,qT,r6,rC,rO,Nat.reduceAdd] at hs hrow|-;have hz:=hs;obtain⟨z0,d⟩:=aUV.1 hz
 try rw[s7 d]
 clear hz hs;unfold MU at d;refine qC wM ?_;refine qQ ?_;obtain⟨aB,hv1,hw1,d⟩:=qY d
 try simp only[go_sem] at hw1
 refine qC wM ?_ (hp:=by exact(qW hv1)) (h:=by simp (maxSteps:=2000000) only[go_sem,hw1];rfl);refine qV d (fun d hc1=> ?_) (fun d hc1=> ?_)
 .refine qC wM ?_;refine qS (rG ?_);cases d;exact pH []
 .refine r9 (qM (qQ ?_));obtain⟨hg2,d⟩:=qI d;obtain⟨hg3,d⟩:=qI d;refine qC wM ?_ (hp:=by exact⟨id,hg2,id,sQ,id,hg3,id,sQ⟩);refine qV d (fun d hc2=> ?_) (fun d hc2=> ?_)
  .refine qC wM ?_;refine qS (rG ?_);cases d;exact pH []
  .refine r9 (qM ?_);obtain⟨aC,hv4,hw4,d⟩:=qY d
   try simp only[go_sem] at hw4
   refine qC wM ?_ (hp:=by exact(qW hv4)) (h:=by simp (maxSteps:=2000000) only[go_sem,hw4];rfl);obtain⟨aD,hv5,hw5,d⟩:=qY d
   try simp only[go_sem] at hw5
   refine qC wM ?_ (hp:=by exact(qW hv5)) (h:=by simp (maxSteps:=2000000) only[go_sem,hw5];rfl);refine qQ ?_;refine qC wM ?_ (hp:=by exact⟨id,sQ⟩);refine qV d (fun d hc3=> ?_) (fun d hc3=> ?_)
   .refine qC wM ?_;refine qS (rG ?_);cases d;exact pH []
   .refine r9 (qM ?_);obtain⟨aE,hv6,hw6,d⟩:=qY d
    try simp only[go_sem] at hw6
    refine qC wM ?_ (hp:=by exact(qW hv6)) (h:=by simp (maxSteps:=2000000) only[go_sem,hw6];rfl);obtain⟨aF,hv7,hw7,d⟩:=qY d
    try simp only[go_sem] at hw7
    refine qC wM ?_ (hp:=by exact(qW hv7)) (h:=by simp (maxSteps:=2000000) only[go_sem,hw7];rfl);refine qQ ?_;refine qC wM ?_ (hp:=by exact⟨id,sQ,id,id,id,sQ,id,id,id,id,id,id,sQ⟩);refine qV d (fun d hc4=> ?_) (fun d hc4=> ?_)
    .refine qC wM ?_;refine qS (rG ?_);cases d;exact pH []
    .refine r9 (qM ?_);refine qC wM ?_;refine vN wM ?_;obtain⟨aG,hv8,hw8,d⟩:=qY d
     try simp only[go_sem] at hw8
     obtain⟨aH,hv9,hw9,d⟩:=qY d
     try simp only[go_sem] at hw9
     refine qC wM ?_ (hp:=by exact⟨qW hv8,(qW hv9)⟩) (h:=by simp (maxSteps:=2000000) only[go_sem,hw8,hw9];rfl);refine qQ ?_;obtain⟨hg10,d⟩:=qI d;refine qC wM ?_ (hp:=by exact⟨id,id,hg10,id,sQ⟩);refine qV d (fun d hc5=> ?_) (fun d hc5=> ?_)
     .refine qC wM ?_;refine qS (rG ?_);cases d;exact pH []
     .refine r9 (qM (qQ ?_));refine qC wM ?_;refine qV d (fun d hc6=> ?_) (fun d hc6=> ?_)
      .refine qC wM ?_;refine qS (rG ?_);cases d;exact pH []
      .refine r9 (qM ?_);obtain⟨hg11,d⟩:=qI d;refine qC wM ?_ (hp:=by exact hg11);refine qQ ?_;obtain⟨aI,hv12,hw12,d⟩:=qY d
       try simp only[go_sem] at hw12
       refine qC wM ?_ (hp:=by exact(qW hv12)) (h:=by simp (maxSteps:=2000000) only[go_sem,hw12];rfl);refine qC wM ?_ (hp:=by exact⟨id,id,sI⟩);refine qV d (fun d hc7=> ?_) (fun d hc7=> ?_)
       .refine qC wM ?_;refine qS (rG ?_);cases d;exact pH []
       .refine r9 (qM ?_);refine qC wM ?_;obtain⟨hg13,d⟩:=qI d;refine qC wM ?_ (hp:=by exact⟨pV,hg13⟩)
        obtain⟨hg14,d⟩:=qI d;obtain⟨hg15,d⟩:=qI d;refine vN PO ?_ (hp:=by exact⟨hg14,hg15,pV⟩)
        refine qC PO ?_;obtain⟨hg16,d⟩:=qI d;refine qC PO ?_ (hp:=by exact⟨pV,hg16⟩)
        obtain⟨hg17,d⟩:=qI d;refine qC PO ?_ (hp:=by exact⟨hg17,pV⟩)
        obtain⟨aJ,hv18,hw18,d⟩:=qY d
        try simp only[go_sem] at hw18
        obtain⟨aK,hv19,hw19,d⟩:=qY d
        try simp only[go_sem] at hw19
        refine qC PO ?_ (hp:=by exact⟨pV,qW hv18,(qW hv19)⟩) (h:=by simp (maxSteps:=2000000) only[go_sem,hw18,hw19];rfl)
        obtain⟨hg20,d⟩:=qI d;obtain⟨hg21,d⟩:=qI d;refine qC PO ?_ (hp:=by exact⟨hg20,fun _=>(by first|rfl|trivial),id,hg21,sI⟩)
        refine qS ?_;cases d;exact pH []
attribute [irreducible] MU
end
end Go.Proofs.YtkpflnijijccpaaGreatDoor
section
end
namespace Go.Proofs.YtkpflnijijccpaaGreatDoor
open Vc
theorem GL {σ ρ:Type}(f:σ→Option (σ⊕ρ)) (x:σ):rQ f x=(f x).bind fun w=>match w with
    | .inl y=>rQ f y
    | .inr r=>some r:=by
  cases h:f x with
  | none=>
    cases h2:rQ f x with
    |none=>rfl
    | some r=>
      obtain⟨n,hn⟩:=XJ h2;cases n with
      |zero=>cases hn
      |succ n=>unfold iter at hn;rw[h] at hn;cases hn
  | some w=>
    cases w with
    |inl y=>exact vT h
    |inr r=>exact uU h
theorem AD {t:Ty}{l:List t.den}{i:Nat}(h:i<l.length):qR t l (i:Int)=l[i]:=by
  unfold qR;rw[aVD,aVq,aU5 h];rfl
theorem TZ {l:pF}{i:Nat}(h:i<l.length):sJ l (i:Int)=(l[i].toNat:Int):=by
  unfold sJ;rw[aVD,aVq,aU5 h];rfl
def wU {β:Type}(f:Nat→β) (b:β):pR→β
  |some k=>f k
  |none=>b
theorem a96 {α ρ:Type}{f:Int→Option (Int⊕(Unit⊕ρ))}{l:List α}(p:α→Bool) (g:Nat→ρ)
    (hf: ∀(i:Nat) (h:i<l.length),f i=if p l[i]=true then some (.inr (.inr (g i))) else some (.inl (i+1)))
    (he:f l.length=some (.inr (.inl ()))): ∀(n j:Nat),j+n=l.length→rQ f j=some (wU (fun k=> .inr (g (j+k))) (.inl ()) ((l.drop j).findIdx? p))
  | 0,j,hj=>by
    have:j=l.length:=by omega
    subst this;rw[aVR,GL,he];rfl
  | n+1,j,hj=>by
    have hlt:j<l.length:=by omega
    rw[GL,hf j hlt,aVA hlt,aWC];by_cases hp:p l[j]=true
    · rw[aUU hp,aUU hp]
      rfl
    · rw[aUX hp,aUX hp]
      show rQ f ((j:Int)+1)=_;have:=a96 p g hf he n (j+1) pI;rw[show ((j:Int)+1)=((j+1:Nat):Int) by omega,this];cases(l.drop (j+1)).findIdx? p with
      |none=>rfl
      | some k=>
        show some (Sum.inr (g (j+1+k)))=some (Sum.inr (g (j+(k+1))));rw[show j+1+k=j+(k+1) by omega]
theorem E4 {α ρ:Type}{f:Int→Option (Int⊕(Unit⊕ρ))}{l:List α}(p:α→Bool) (g:Nat→ρ)
    (hf: ∀(i:Nat) (h:i<l.length),f i=if p l[i]=true then some (.inr (.inr (g i))) else some (.inl (i+1)))
    (he:f l.length=some (.inr (.inl ()))):rQ f 0=some (wU (fun k=> .inr (g k)) (.inl ()) (l.findIdx? p)):=by
  have:=a96 p g hf he l.length 0 pI;simpa using this
theorem aIq {s:pF}{i:Nat}(h:i<s.length) (ha:s[i].toNat<128):y3 s i=(s[i].toNat:Int)∧BC s i=i+1:=by
  have h1:=Lib.decodeL_drop ⟨s.toArray⟩ i
  have h2:(⟨s.toArray⟩:ByteArray).data.toList.drop i=s[i]::s.drop (i+1):=by
    show s.drop i=_;rw[aVA h]
  rw[h2,Lib.decodeL_ascii _ _ ha] at h1;unfold y3 BC a0V;rw[←h1,aUU h];exact⟨rfl,rfl⟩
theorem aPG {n b0 b1 b2 b3:Nat}(h:128≤b0):128≤(Lib.decodeN n b0 b1 b2 b3).1:=by
  unfold Lib.decodeN
  repeat' split
  all_goals first|omega|(dsimp only;omega)
theorem aIr {s:pF}{i:Nat}(h:i<s.length) (ha:128≤s[i].toNat):128≤y3 s i:=by
  unfold y3;rw[Lib.decode_at]
  have:(⟨s.toArray⟩:ByteArray).get! i=s[i]:=by
    show s.toArray[i]! =_;simp [h]
  rw[this];exact Int.ofNat_le.2 (aPG ha)
theorem aIs {ρ:Type}{f:Nat→Option (Nat⊕(Unit⊕ρ))}{s:pF}(p:Int→Bool) (g:Nat→ρ) (hb: ∀c,128≤c→p c=true)
    (hf: ∀(i:Nat) (h:i<s.length),f i=if p (y3 s i)=true then some (.inr (.inr (g i))) else some (.inl (BC s i)))
    (he:f s.length=some (.inr (.inl ()))): ∀(n j:Nat),j+n=s.length→rQ f j=some (wU (fun k=> .inr (g (j+k))) (.inl ()) ((s.drop j).findIdx? (fun b=>p b.toNat)))
  | 0,j,hj=>by
    have:j=s.length:=by omega
    subst this;rw[aVR,GL,he];rfl
  | n+1,j,hj=>by
    have hlt:j<s.length:=by omega
    rw[GL,hf j hlt,aVA hlt,aWC];by_cases ha:s[j].toNat<128
    · obtain⟨e1,e2⟩:=aIq hlt ha
      rw[e1,e2];by_cases hp:p (s[j].toNat:Int)=true
      · rw[aUU hp,aUU hp]
        rfl
      · rw[aUX hp,aUX hp]
        show rQ f (j+1)=_;rw[aIs p g hb hf he n (j+1) pI];cases(s.drop (j+1)).findIdx? (fun b=>p b.toNat) with
        |none=>rfl
        | some k=>
          show some (Sum.inr (g (j+1+k)))=some (Sum.inr (g (j+(k+1))));rw[show j+1+k=j+(k+1) by omega]
    · rw[aUU (hb _ (aIr hlt pI)),aUU (hb _ pI)]
      rfl
theorem aPH {ρ:Type}{f:Nat→Option (Nat⊕(Unit⊕ρ))}{s:pF}(p:Int→Bool) (g:Nat→ρ) (hb: ∀c,128≤c→p c=true)
    (hf: ∀(i:Nat) (h:i<s.length),f i=if p (y3 s i)=true then some (.inr (.inr (g i))) else some (.inl (BC s i)))
    (he:f s.length=some (.inr (.inl ()))):rQ f 0=some (wU (fun k=> .inr (g k)) (.inl ()) (s.findIdx? (fun b=>p b.toNat))):=by
  have:=aIs p g hb hf he s.length 0 pI;simpa using this
def rZ {α:Type}(l:List α):Prop:=l.length≤4000000000
theorem vP {i:Nat}(h:i≤4000000000):qG ((i:Int)+1):=by unfold qG;omega
theorem tD {i n:Nat}(h:i<n):0≤(i:Int)∧(i:Int)<(n:Int):=⟨pI,pI⟩
theorem uZ {i n:Nat}(h:i<n):decide ((i:Int)<(n:Int))=true:=by simpa using h
theorem vV (n:Nat): ¬decide ((n:Int)<(n:Int))=true:=by simp
theorem aIt {α:Type}{p:α→Bool}: ∀{l:List α},(l.findIdx? p).isSome=l.any p
  |[]=>rfl
  | x::l=>by
    rw[aWC,List.any_cons];cases p x with
    |true=>rfl
    |false=>simp [aIt (l:=l)]
theorem MV {α β:Type}{p:α→Bool}{l:List α}{f:Nat→β}{b:β}:wU f b (l.findIdx? p)=if l.any p=true then f ((l.findIdx? p).getD 0) else b:=by
  rw[←aIt];cases l.findIdx? p with
  |none=>rfl
  |some k=>rfl
def MW (c:Int):Bool:=(((!((decide ((97:Int)≤c))&&(decide (c≤(122:Int)))))&&(!((decide ((48:Int)≤c))&&(decide (c≤(57:Int))))))&&(!decide (c=(45:Int))))&&((decide (c<(65:Int)))||(decide ((90:Int)<c)))
def xJ (s:pF):Bool:= !(s.any fun b=>MW b.toNat)&&((decide ((1:Int)≤(s.length:Int)))&&(decide ((s.length:Int)≤(40:Int))))
def YR (c:Int):Bool:=((((decide (c<(97:Int)))||(decide ((122:Int)<c)))&&((decide (c<(65:Int)))||(decide ((90:Int)<c))))&&((decide (c<(48:Int)))||(decide ((57:Int)<c))))&&(!decide (c=(45:Int)))
theorem aPI (c:Int):YR c=MW c:=by
  unfold YR MW;rw[aWH];simp;omega
theorem a97 (s:pF):EX s=some (xJ s):=by
  have h:=aPH (f:=SN s) (s:=s) (fun c=>YR c) (fun _=>false) (fun c h=>by unfold YR;simp;omega) (fun i h=>by
    unfold SN;rw[aUU (by simpa using h),aUU (by simpa using h)];rfl) (by
    unfold SN;rw[aUX pK])
  unfold EX;rw[h,MV];simp only[aPI];unfold xJ;cases s.any fun b=>MW b.toNat<;>rfl
def yB (c:Int):Bool:=((((!((decide ((97:Int)≤c))&&(decide (c≤(122:Int)))))&&(!((decide ((48:Int)≤c))&&(decide (c≤(57:Int))))))&&(!decide (c=(45:Int))))&&(!decide (c=(95:Int))))&&(!decide (c=(46:Int)))
def yO (c:Int):Bool:=(decide ((97:Int)≤c))&&(decide (c≤(122:Int)))
def uT:pF→Bool
  |[]=>false
  |b::t=>(!decide (40<t.length+1)&&yO b.toNat)&& !(t.any fun b=>yB b.toNat)
theorem aIu (s:pF) (hs:rZ s):K2 s=some (uT s):=by
  unfold rZ at hs;unfold K2;cases s with
  |nil=>simp [uT]
  | cons b t=>
    have hb0:sJ (b::t) (0:Int)=(b.toNat:Int):=TZ (i:=0) pK;rw[aUU (fun _=>⟨aVY 0,by simp only[aUY];omega⟩),hb0];unfold uT;by_cases hl:(40:Int)<((b::t).length:Int)
    · have hl2:40<t.length+1:=by simp only[aUY] at hl;omega
      rw[aUU (by simp only[hl,decide_true,Bool.or_true,Bool.true_or])];simp [hl2]
    · have hl2: ¬40<t.length+1:=by simp only[aUY] at hl;omega
      have hl3: ¬((b::t).length:Int)<1:=by simp;omega
      by_cases hb:yO b.toNat=true
      · rw[aUX (by unfold yO at hb;simp only[hl,hl3,hb];simp)]
        have h:=a96 (f:=T9 (b::t)) (l:=b::t) (fun b=>yB b.toNat) (fun _=>false) (fun i h=>by
          unfold T9;rw[aUU (uZ h),aUU (tD h),TZ h,aUU (vP pI)];rfl) (by
          unfold T9;rw[aUX (vV _)]) t.length 1 pL
        rw[show ((1:Nat):Int)=1 from rfl] at h;rw[h,MV];simp only[aWR,aWc,hb,hl2,decide_false,Bool.not_false,Bool.true_and];cases t.any fun b=>yB b.toNat<;>rfl
      · rw[aUU (by unfold yO at hb;simp only[hb];simp)]
        simp [hb]
theorem aIv (s:pF): ∀(n j:Nat),j+n=s.length→rQ (OQ s) j=some (if (s.drop j).any (fun b=>yB b.toNat)=true∨(j=0∧s≠[]∧yO (s.getD 0 0).toNat=false) then .inr false else .inl ())
  | 0,j,hj=>by
    have:j=s.length:=by omega
    subst this;rw[aVR,GL];unfold OQ;rw[aUX pK];by_cases h0:s=[]
    .subst h0;simp
    · have:s.length≠0:=by simpa using h0
      simp [this]
  | n+1,j,hj=>by
    have hlt:j<s.length:=by omega
    have ih:=aIv s n (j+1) pI;rw[GL,aVA hlt,List.any_cons]
    have hstep:OQ s j=if (yB (s[j].toNat:Int)=true∨(j=0∧yO (s[j].toNat:Int)=false)) then some (.inr (.inr false)) else some (.inl (j+1)):=by
      unfold OQ;rw[aUU (by simpa using hlt),aUU (by simpa using hlt),aUU (by simpa using hlt)];by_cases ha:s[j].toNat<128
      · obtain⟨e1,e2⟩:=aIq hlt ha
        rw[e1,e2];by_cases h1:yO (s[j].toNat:Int)=true
        · rw[aUU (by unfold yO at h1;exact h1),aUX]
          unfold yO at h1;simp only[aU6,aU8] at h1;simp [yB,yO];omega
        · have h1':yO (s[j].toNat:Int)=false:=by simpa using h1
          rw[aUX (by unfold yO at h1;exact h1)]
          have h2: ¬(97≤(s[j].toNat:Int)∧(s[j].toNat:Int)≤122):=by
            unfold yO at h1;simpa using h1
          by_cases h3:yB (s[j].toNat:Int)=true∨j=0
          · rw[aUX,aUU]
            · rcases h3 with h3|h3
              .exact .inl h3
              .exact .inr ⟨h3,h1'⟩
            · simp [yB] at h3|-
              omega
          · rw[aUU,aUX]
            · intro h
              rcases h with h|⟨h,_⟩
              .exact h3 (.inl h)
              .exact h3 (.inr h)
            · simp [yB] at h3|-
              omega
      · have hb:=aIr hlt pI
        rw[aUX pL,aUX pL,aUU (.inl (by simp [yB];omega))]
    rw[hstep];have hd:s.getD 0 0=s[0]'pI:=by simp [aVq,aU5 (show 0<s.length by omega)]
    have hne:s≠[]:=by intro h;subst h;simp at hlt
    by_cases hp:yB (s[j].toNat:Int)=true∨(j=0∧yO (s[j].toNat:Int)=false)
    · rw[aUU hp,aUU]
      .rfl
      · rcases hp with hp|⟨rfl,hp⟩
        .left;simp [hp]
        .right;exact⟨rfl,hne,by rw[hd];exact hp⟩
    · rw[aUX hp]
      show rQ _ (j+1)=_;rw[ih]
      have hnb:yB (s[j].toNat:Int)=false:=by
        cases h:yB (s[j].toNat:Int) with
        |true=>exact absurd (.inl h) hp
        |false=>rfl
      simp only[hnb,Bool.false_or];congr 2;apply propext;constructor
      · rintro(h|⟨h,_⟩)
        .exact .inl h
        .omega
      · rintro(h|⟨rfl,_,h⟩)
        .exact .inl h
        · rw[hd] at h
          exact absurd (.inr ⟨rfl,h⟩) hp
theorem U0 (s:pF):D8 s=some (uT s):=by
  have h:=aIv s s.length 0 pI;unfold D8;rw[h,aWc];cases s with
  |nil=>simp [uT,uF]
  | cons b t=>
    simp only[List.any_cons,List.getD_cons_zero,ne_eq,reduceCtorEq,not_false_eq_true,true_and,uT];cases hs:yO b.toNat with
    |false=>simp [uF]
    | true=>
      have hn:yB b.toNat=false:=by
        unfold yO at hs;simp only[aU6,aU8] at hs;simp [yB];omega
      simp only[hn,Bool.false_or];cases t.any (fun b=>yB b.toNat) with
      |true=>simp [uF]
      | false=>
        simp only[aWD,false_or,and_false,aW4];show some (decide ((1:Int)≤((b::t).length:Int))&&decide (((b::t).length:Int)≤40))=_;congr 1;rw[aWH];simp only[aUY,aU6,aU8,aVo,aVE,Bool.not_false,and_true];omega
theorem KF {β:Type}{f:Nat→β}{b:β}{o:pR}:uF (some (wU (fun k=> .inr (f k)) (.inl ()) o)) (fun _=>some b)=some (wU f b o):=by
  cases o<;>rfl
theorem aIw (l:pG) (s:pF) (hl:rZ l):C3 l s=some (wU (fun k=>(k:Int)) (-1) (l.findIdx? fun x=>decide (s=x))):=by
  unfold rZ at hl
  have h:=E4 (f:=SO l s) (l:=l) (fun x=>decide (s=x)) (fun k=>(k:Int)) (fun i h=>by
    unfold SO;rw[aUU (uZ h),aUU (tD h),AD (t:= .str) h,aUU (vP pI)]) (by
    unfold SO;rw[aUX (vV _)])
  unfold C3;rw[h,KF]
theorem PP {α:Type}{p:α→Bool}{l:List α}:decide ((0:Int)≤wU (fun k=>(k:Int)) (-1) (l.findIdx? p))=l.any p:=by
  rw[MV];cases l.any p
  .rfl
  .simp only[aWz,aU8];omega
theorem aIx (l:pG) (s:pF) (hl:rZ l):EZ l s=some (l.any fun x=>decide (x=s)):=by
  unfold EZ;rw[aIw l s hl];show some (decide _)=_;rw[PP];simp only[eq_comm]
def IF:pG:=[[110,101,119],[102,117,122,122,121],[116,114,97,110,115,108,97,116,101,100],[114,101,118,105,101,119,101,100],[111,98,115,111,108,101,116,101]]
def AX (s:pF):Int:=wU (fun k=>(k:Int)) (-1) (IF.findIdx? fun x=>decide (x=s))
abbrev sB:=pF×pF×Unit
abbrev tF:Ty:= .pair .str (.pair .str .unit)
def BO (l:List sB) (n:pF):pR:=l.findIdx? fun x=>decide (x.1=n)
def PQ (l:List sB) (n:pF):pF×Bool:=wU (fun k=>((l.getD k ([],[],())).2.1,true)) ([],false) (BO l n)
theorem aPJ (l:List sB) (n:pF):(PQ l n).2=l.any fun x=>decide (x.1=n):=by
  unfold PQ BO;rw[MV];cases l.any fun x=>decide (x.1=n)<;>rfl
theorem aIy (l:List sB) (n:pF) (hl:rZ l):I4 l n=some (wU (fun k=>(k:Int)) (-1) (BO l n)):=by
  unfold rZ at hl
  have h:=E4 (f:=SW l n) (l:=l) (fun x=>decide (x.1=n)) (fun k=>(k:Int)) (fun i h=>by
    unfold SW;rw[aUU (uZ h),aUU (tD h),AD (t:=tF) h,aUU (vP pI)]) (by
    unfold SW;rw[aUX (vV _)])
  unfold I4 OW;rw[h,KF];rfl
theorem aIz {l:List sB}{n:pF}{k:Nat}(h:BO l n=some k):k<l.length:=by
  unfold BO at h;exact(aVL.1 h).1
theorem aIA (l:List sB) (n:pF) (hl:rZ l):IA l n=some (PQ l n):=by
  unfold IA;rw[aIy l n hl];unfold PQ;cases h:BO l n with
  |none=>rfl
  | some k=>
    have hk:=aIz h;simp only[wU,aUS];rw[aUX pK,aUU (tD hk),AD (t:=tF) hk];simp only[wU,aVq,aU5 hk];rfl
def GM (l:List sB) (n:pF):Nat:=(l.findIdx? fun x=> !(Op.bytesLess x.1 n||decide (x.1=n))).getD l.length
def GN (l:List sB) (n v:pF):List sB:=wU (fun k=>l.set k (n,v,())) (l.take (GM l n)++[(n,v,())]++l.drop (GM l n)) (BO l n)
theorem aPK (l:List sB) (n:pF):GM l n≤l.length:=by
  unfold GM;cases h:l.findIdx? fun x=> !(Op.bytesLess x.1 n||decide (x.1=n)) with
  |none=>exact aVi _
  |some k=>exact Nat.le_of_lt (aVL.1 h).1
theorem aIB (l:List sB) (n v:pF):(GN l n v).length≤l.length+1:=by
  have:=aPK l n;unfold GN;cases BO l n with
  |none=>simp [wU];omega
  |some k=>simp [wU]
theorem aPL {l:List sB}{n:pF}{k:Nat}(h:BO l n=some k) (hk:k<l.length):l[k].1=n:=by
  unfold BO at h;have:=(aVL.1 h).2.1;simpa using this
theorem aIC (l:List sB) (n v:pF) (hl:rZ l):I7 l n v=some (GN l n v):=by
  have hl':=hl;unfold rZ at hl';unfold I7 JY;rw[aUU pI];show (I4 ([]++l) n).bind _=_;rw[List.nil_append,aIy l n hl];unfold GN;cases h:BO l n with
  | some k=>
    have hk:=aIz h;simp only[wU,aUS];rw[aUU pK,aUU (tD hk),AD (t:=tF) hk,aVD];congr 2;exact Prod.ext (aPL h hk) rfl
  | none=>
    simp only[wU,aUS];rw[aUX pJ]
    have h2:=E4 (f:=SX l n) (l:=l) (fun x=> !(Op.bytesLess x.1 n||decide (x.1=n))) (fun k=>(k:Int)) (fun i h=>by
      unfold SX;rw[aUU (uZ h),aUU (tD h),AD (t:=tF) h,aUU (vP pI)]) (by
      unfold SX;rw[aUX (vV _)])
    unfold OX;rw[h2,KF];unfold GM;cases h3:l.findIdx? fun x=> !(Op.bytesLess x.1 n||decide (x.1=n)) with
    | none=>
      simp only[wU,aUS];rw[aUU pJ,aUU ⟨pI,aVY _⟩,aUU pL];simp [C0,wU]
    | some k=>
      have hk:k<l.length:=(aVL.1 h3).1;simp only[wU,aUS];rw[aUX pK,aUU ⟨pI,pI⟩,aUU pL];simp [C0,wU]
theorem aID {α:Type}{f:Int→Option (Int⊕Int)}{l:List α}(p:α→Bool)
    (hf: ∀(i:Nat) (h:i<l.length),f i=if p l[i]=true then some (.inl (i+1)) else some (.inr i)) (he:f l.length=some (.inr l.length)):
    ∀(n j:Nat),j+n=l.length→rQ f j=some (((j+((l.drop j).findIdx? fun x=> !p x).getD n:Nat)):Int)
  | 0,j,hj=>by
    have:j=l.length:=by omega
    subst this;rw[aVR,GL,he];simp
  | n+1,j,hj=>by
    have hlt:j<l.length:=by omega
    rw[GL,hf j hlt,aVA hlt,aWC];by_cases hp:p l[j]=true
    · rw[aUU hp,aUX (by simp [hp])]
      show rQ f ((j:Int)+1)=_;rw[show ((j:Int)+1)=((j+1:Nat):Int) by omega,aID p hf he n (j+1) pI];cases(l.drop (j+1)).findIdx? fun x=> !p x with
      |none=>simp;omega
      |some k=>simp;omega
    · rw[aUX hp,aUU (by simpa using hp)]
      simp
theorem aPM {α:Type}{f:Int→Option (Int⊕Int)}{l:List α}(p:α→Bool)
    (hf: ∀(i:Nat) (h:i<l.length),f i=if p l[i]=true then some (.inl (i+1)) else some (.inr i)) (he:f l.length=some (.inr l.length)):
    rQ f 0=some (((l.findIdx? fun x=> !p x).getD l.length:Nat):Int):=by
  have:=aID p hf he l.length 0 pI;simpa using this
theorem YS {α:Type}{l:List α}{k:Nat}:sF l 0 (k:Int)=l.take k:=by unfold sF;simp
theorem PR {α:Type}{l:List α}{k:Nat}:sF l (k:Int) (l.length:Int)=l.drop k:=by
  unfold sF;rw[aVD,aVD,List.take_of_length_le];rw[aVg];exact aVi _
def AY (n:Int):Prop:=0≤n∧n≤1114111∧(n<55296∨57343<n)
def AZ (n:Int):Bool:=(((decide ((0:Int)≤n))&&(decide (n≤(1114111:Int))))&&((decide (n<(55296:Int)))||(decide ((57343:Int)<n))))
theorem KG (n:Int):AZ n=true↔AY n:=by
  unfold AZ AY;simp;omega
theorem YT {n:Int}(h0:0≤n) (h1:n≤127):Lib.encodeRune n=uC [n]:=by
  unfold Lib.encodeRune;rw[Lib.encodeRuneZ_one h0 h1];rfl
theorem YU {n:Int}(h0:128≤n) (h1:n≤2047):Lib.encodeRune n=uC [192+n/64,128+n%64]:=by
  unfold Lib.encodeRune;rw[Lib.encodeRuneZ_two h0 h1];rfl
theorem a98 {n:Int}(h:(2048≤n∧n<55296)∨(57343<n∧n≤65535)):Lib.encodeRune n=uC [224+n/4096,128+n/64%64,128+n%64]:=by
  unfold Lib.encodeRune;rw[Lib.encodeRuneZ_three h];rfl
theorem aIE {n:Int}(h0:65536≤n) (h1:n≤1114111):Lib.encodeRune n=uC [240+n/262144,128+n/4096%64,128+n/64%64,128+n%64]:=by
  unfold Lib.encodeRune;rw[Lib.encodeRuneZ_four h0 h1];rfl
theorem aIF {n:Int}(h:AY n):DX n=some (Lib.encodeRune n):=by
  obtain⟨h0,h1,hs⟩:=h;have w1:IntKind.i64.wrap (n/64)=n/64:=by rw[aWg];omega
  have w2:IntKind.i64.wrap (n/4096)=n/4096:=by rw[aWg];omega
  have w3:IntKind.i64.wrap (n/262144)=n/262144:=by rw[aWg];omega
  have m1:Int.tmod n 64=n%64:=aWL h0;have m2:Int.tmod (n/64) 64=n/64%64:=aWL pI;have m3:Int.tmod (n/4096) 64=n/4096%64:=aWL pI;unfold DX;simp only[Int.tdiv_eq_ediv_of_nonneg h0,w1,w2,w3,m1,m2,m3,aW3];by_cases c1:n<128
  .rw[aUU (by simpa using c1),YT h0 pI,show n%256=n by omega]
  · rw[aUX (by simpa using c1)]
    by_cases c2:n<2048
    .rw[aUU (by simpa using c2),aUU (by unfold qG;omega),aUU (by unfold qG;omega),YU pI pI,show (192+n/64) %256=192+n/64 by omega,show (128+n%64) %256=128+n%64 by omega]
    · rw[aUX (by simpa using c2)]
      by_cases c3:n<65536
      .rw[aUU (by simpa using c3),aUU (by unfold qG;omega),aUU (by unfold qG;omega),aUU (by unfold qG;omega),a98 pI,show (224+n/4096) %256=224+n/4096 by omega,show (128+n/64%64) %256=128+n/64%64 by omega,show (128+n%64) %256=128+n%64 by omega]
      .rw[aUX (by simpa using c3),aUU (by unfold qG;omega),aUU (by unfold qG;omega),aUU (by unfold qG;omega),aUU (by unfold qG;omega),aIE pI pI,show (240+n/262144) %256=240+n/262144 by omega,show (128+n/4096%64) %256=128+n/4096%64 by omega,show (128+n/64%64) %256=128+n/64%64 by omega,show (128+n%64) %256=128+n%64 by omega]
theorem a99 {n:Int}{k:Int}{j:Nat}(hj:k.toNat=j) (h32:j≤32):yS .i32 n k=n/2^j:=by
  unfold yS;rw[hj,show min j IntKind.i32.bits=j from Nat.min_eq_left h32,Int.fdiv_eq_ediv_of_nonneg];exact Int.pow_nonneg pJ
theorem aPN {n:Int}(p:pO) (h:AY n) (hp:rZ p):K6 p n=some (p++Lib.encodeRuneZ n):=by
  obtain⟨h0,h1,hs⟩:=h;unfold rZ at hp;have u:IntKind.u32.wrap n=n:=by rw[IntKind.wrap_u32];omega
  have s6:yS .i32 n 6=n/64:=a99 (j:=6) rfl pJ;have s12:yS .i32 n 12=n/4096:=a99 (j:=12) rfl pJ;have s18:yS .i32 n 18=n/262144:=a99 (j:=18) rfl pJ
  have b0:bits .or .u8 128 (bits .and .u8 (n%256) 63)=128+n%64:=by
    rw[u8_and63 (x:=n%256) pI pI,show n%256%64=n%64 by omega,u8_or128 (y:=n%64) pI pI]
  have b1:bits .or .u8 128 (bits .and .u8 (n/64%256) 63)=128+n/64%64:=by
    rw[u8_and63 (x:=n/64%256) pI pI,show n/64%256%64=n/64%64 by omega,u8_or128 (y:=n/64%64) pI pI]
  have b2:bits .or .u8 128 (bits .and .u8 (n/4096%256) 63)=128+n/4096%64:=by
    rw[u8_and63 (x:=n/4096%256) pI pI,show n/4096%256%64=n/4096%64 by omega,u8_or128 (y:=n/4096%64) pI pI]
  unfold K6;rw[u];by_cases c1:n≤127
  .rw[aUU (by simpa using c1),aUU pL,Lib.encodeRuneZ_one h0 c1,aW3,show n%256=n by omega]
  · rw[aUX (by simpa using c1)]
    unfold MD;simp only[u,s6,s12,s18,aW3,b0,b1,b2];by_cases c2:n≤2047
    · rw[aUU (by simpa using c2),aUU pL,Lib.encodeRuneZ_two pI c2,show n/64%256=n/64 by omega,u8_or192 (y:=n/64) pI pI]
      rfl
    · rw[aUX (by simpa using c2)]
      by_cases c3:n≤65535
      · have hx:(if decide (n<55296)=true then some (decide (n<55296)) else some ((decide (57343<n))&&(decide (n≤65535))))=some true:=by
          by_cases c:n<55296
          .rw[aUU (by simpa using c)];simp [c]
          .rw[aUX (by simpa using c)];simp;omega
        rw[hx];simp only[sU,aUS];rw[aUU trivial,aUU pL,Lib.encodeRuneZ_three pI,show n/4096%256=n/4096 by omega,u8_or224 (y:=n/4096) pI pI];rfl
      · have hx:(if decide (n<55296)=true then some (decide (n<55296)) else some ((decide (57343<n))&&(decide (n≤65535))))=some false:=by
          rw[aUX pL];simp;omega
        rw[hx];simp only[sU,aUS];rw[aUX pJ,aUU pL,aUU pL,Lib.encodeRuneZ_four pI h1,show n/262144%256=n/262144 by omega,u8_or240 (y:=n/262144) pI pI];rfl
theorem aIG (n:Int):(Lib.encodeRuneZ n).length≤4:=by
  unfold Lib.encodeRuneZ
  repeat' split
  all_goals simp
theorem aIH {n:Int}(p:pO) (h:AY n) (hp:rZ p): ∃k,GF (p,()) n=some (k,p++Lib.encodeRuneZ n):=by
  have h4:=aIG n;unfold rZ at hp;unfold GF;rw[aPN p h hp];simp only[aUS];rw[aUU (by unfold qG;simp;omega)];exact⟨_,rfl⟩
theorem aPO (n:Int):TO [n] (0,[])=some (.inl (1,if AZ n=true then Lib.encodeRuneZ n else Lib.encodeRuneZ 65533)):=by
  unfold TO;have hn:qR (.int .i64) [n] 0=n:=rfl;dsimp only;rw[aUU pK,aUU ⟨aVY _,by simp⟩];simp only[hn];by_cases hs:AZ n=true
  · have hsc:=(KG n).1 hs
    obtain⟨k,hk⟩:=aIH (n:=n) [] hsc (by unfold rZ;simp)
    have wn:IntKind.i32.wrap n=n:=by
      obtain⟨a,b,c⟩:=hsc;rw[IntKind.wrap_i32];omega
    rw[aUU hs];unfold AZ at hs;rw[aUX (by rw[hs];decide),wn,hk];simp only[aUS,List.nil_append];rw[aUU (by unfold qG;omega)];rfl
  · rw[aUX hs]
    unfold AZ at hs;obtain⟨k,hk⟩:=aIH (n:=65533) [] (by unfold AY;omega) (by unfold rZ;simp);rw[aUU (by simp only[aVo] at hs|-;simpa using hs),show IntKind.i32.wrap 65533=65533 from rfl,hk];simp only[aUS,List.nil_append];rw[aUU (by unfold qG;omega)];rfl
theorem aPP (n:Int):KD n=some (if AZ n=true then Lib.encodeRune n else Lib.encodeRune 65533):=by
  unfold KD PD;rw[vT (aPO n),uU (r:=if AZ n=true then Lib.encodeRuneZ n else Lib.encodeRuneZ 65533) (by unfold TO;simp)];simp only[sU,aUS];by_cases hs:AZ n=true
  .rw[aUU hs,aUU hs];rfl
  .rw[aUX hs,aUX hs];rfl
theorem aII {l:pF}{i:Nat}(h:i<l.length):sJ l (i:Int)=((l.getD i 0).toNat:Int):=by
  rw[TZ h,aVq,aU5 h];rfl
theorem aPQ {s:pF}{x n:Int}{i:Nat}(h:i<s.length) (hn:(i:Int)<n) (hx:0≤x) (hx1:x≤1000000) (hi:i≤10):F1 s n (x,(i:Int))=
    if (s.getD i 0).toNat/64=2 then some (.inl (64*x+(s.getD i 0).toNat-128,((i+1:Nat):Int))) else some (.inr (.inr (65533,1))):=by
  have hb:=(s.getD i 0).toNat_lt;have hy:=aII h;generalize (s.getD i 0).toNat=B at hb hy|-;unfold F1;dsimp only;rw[aUU (by simpa using hn),aUU (tD h),aUU (fun _=>tD h),hy];by_cases hc:B/64=2
  · rw[aUX pL,aUU hc,aUU (by unfold qG;omega),aUU (tD h),show IntKind.i64.wrap (B:Int)=(B:Int) by rw[aWg];omega,
      aUU (by unfold qG;omega),aUU (by unfold qG;omega),aUU (by unfold qG;omega)]
    rfl
  .rw[aUU pL,aUX hc]
theorem aAa {s:pF}{x n i:Int}(h:n≤i):F1 s n (x,i)=some (.inr (.inl x)):=by
  unfold F1;dsimp only;rw[aUX (by simpa using h)]
def tP (s:pF) (i:Nat):Bool:=decide ((s.getD i 0).toNat/64=2)
def zC (s:pF) (i:Nat) (x:Int):Int:=64*x+(s.getD i 0).toNat-128
theorem aAb {s:pF}{i:Nat}{x m:Int}(h0:0≤x) (hm:x≤m) (hc:tP s i=true):0≤zC s i x∧zC s i x≤64*m+63:=by
  have hb:=(s.getD i 0).toNat_lt;unfold tP at hc;unfold zC;simp only[aU8] at hc;omega
theorem PS {s:pF}{x n:Int}{i:Nat}(h:i<s.length) (hn:(i:Int)<n) (hx:0≤x) (hx1:x≤1000000) (hi:i≤10):
    rQ (F1 s n) (x,(i:Int))=if tP s i=true then rQ (F1 s n) (zC s i x,((i+1:Nat):Int)) else some (.inr (65533,1)):=by
  rw[GL,aPQ h hn hx hx1 hi];unfold tP zC;simp only[aU8];by_cases hc:(s.getD i 0).toNat/64=2
  .rw[aUU hc,aUU hc];rfl
  .rw[aUX hc,aUX hc];rfl
theorem aPR {s:pF}{x:Int}(h:1<s.length) (hx:0≤x) (hx1:x≤31):rQ (F1 s 2) (x,1)=some (if tP s 1=true then .inl (zC s 1 x) else .inr (65533,1)):=by
  show rQ _ (x,((1:Nat):Int))=_;rw[PS h pJ hx pI pJ];by_cases c1:tP s 1=true
  .rw[aUU c1,aUU c1,uU (aAa pJ)]
  .rw[aUX c1,aUX c1]
theorem aPS {s:pF}{x:Int}(h:2<s.length) (hx:0≤x) (hx1:x≤15):rQ (F1 s 3) (x,1)=some (if (tP s 1&&tP s 2)=true then .inl (zC s 2 (zC s 1 x)) else .inr (65533,1)):=by
  show rQ _ (x,((1:Nat):Int))=_;rw[PS pI pJ hx pI pJ];by_cases c1:tP s 1=true
  · have b1:=aAb hx hx1 c1
    rw[aUU c1,PS h pJ b1.1 pI pJ,c1,Bool.true_and];by_cases c2:tP s 2=true
    .rw[aUU c2,aUU c2,uU (aAa pJ)]
    .rw[aUX c2,aUX c2]
  .rw[aUX c1,aUX (by simp [c1])]
theorem aPT {s:pF}{x:Int}(h:3<s.length) (hx:0≤x) (hx1:x≤7):rQ (F1 s 4) (x,1)=some (if (tP s 1&&tP s 2&&tP s 3)=true then .inl (zC s 3 (zC s 2 (zC s 1 x))) else .inr (65533,1)):=by
  show rQ _ (x,((1:Nat):Int))=_;rw[PS pI pJ hx pI pJ];by_cases c1:tP s 1=true
  · have b1:=aAb hx hx1 c1
    rw[aUU c1,PS pI pJ b1.1 pI pJ,c1,Bool.true_and];by_cases c2:tP s 2=true
    · have b2:=aAb b1.1 b1.2 c2
      rw[aUU c2,PS h pJ b2.1 pI pJ,c2,Bool.true_and];by_cases c3:tP s 3=true
      .rw[aUU c3,aUU c3,uU (aAa pJ)]
      .rw[aUX c3,aUX c3]
    .rw[aUX c2,aUX (by simp [c2])]
  .rw[aUX c1,aUX (by simp [c1])]
def wV (s:pF) (x:Int) (n:Nat):Int×Int:=if AZ x=true∧Lib.encodeRune x=s.take n then(x,n) else(65533,1)
theorem aAc {s:pF}{x:Int}{n:Nat}(hn:n≤s.length):
    (if (((!(((decide ((0:Int)≤x))&&(decide (x≤(1114111:Int))))&&((decide (x<(55296:Int)))||(decide ((57343:Int)<x)))))==false)=true→((DX x)).isSome=true) then
    if (((!(((decide ((0:Int)≤x))&&(decide (x≤(1114111:Int))))&&((decide (x<(55296:Int)))||(decide ((57343:Int)<x)))))==false)=true→0≤(0:Int)∧(0:Int)≤(n:Int)∧(n:Int)≤(List.length s:Int)) then
     if ((!(((decide ((0:Int)≤x))&&(decide (x≤(1114111:Int))))&&((decide (x<(55296:Int)))||(decide ((57343:Int)<x)))))||(!decide ((val (DX x))=(sF s (0:Int) (n:Int)))))=true then
      some (((65533:Int),(1:Int)))
     else
      some ((x,(n:Int)))
    else none
   else none)=some (wV s x n):=by
  rw[YS];simp only[show (((decide ((0:Int)≤x))&&(decide (x≤(1114111:Int))))&&((decide (x<(55296:Int)))||(decide ((57343:Int)<x))))=AZ x from rfl]
  unfold wV;by_cases hs:AZ x=true
  · have ho:=aIF ((KG x).1 hs)
    rw[aUU (fun _=>by rw[ho];rfl),aUU (fun _=>⟨aVY _,pI,pI⟩),ho,hs];by_cases he:Lib.encodeRune x=s.take n
    .rw[aUX (by simp [val,he]),aUU ⟨rfl,he⟩]
    .rw[aUU (by simp [val,he]),aUX (fun h=>he h.2)]
  · have hs':AZ x=false:=by simpa using hs
    rw[aUU (fun h=>by simp [hs'] at h),aUU (fun h=>by simp [hs'] at h),aUU (by simp [hs']),aUX (fun h=>hs h.1)]
theorem IG (z:Int) (l:pO) (x:UInt8) (h:z=(x.toNat:Int)):uC (z::l)=x::uC l:=by
  show UInt8.ofNat z.toNat::uC l=_;rw[h];simp
theorem aAd:uC []=[]:=rfl
theorem PT (l:pO):(uC l).length=l.length:=by simp [uC]
theorem aPU {s:pF}(hl:1<s.length) (h0:192≤(s.getD 0 0).toNat) (h0':(s.getD 0 0).toNat<224) (hc:tP s 1=true):
    wV s (zC s 1 ((s.getD 0 0).toNat-192)) 2=(((Lib.decodeL s).1:Int),((Lib.decodeL s).2:Int)):=by
  unfold tP at hc;simp only[aU8] at hc;have k0:=(s.getD 0 0).toNat_lt;have k1:=(s.getD 1 0).toNat_lt
  have hd:Lib.decodeL s=if (s.getD 0 0).toNat%32*64+(s.getD 1 0).toNat%64≥128 then((s.getD 0 0).toNat%32*64+(s.getD 1 0).toNat%64,2) else(65533,1):=by
    rw[Lib.decodeL_N];unfold Lib.decodeN;rw[aUX pI,aUU ⟨pI,pI,hc⟩]
  rw[hd];unfold wV zC;rw[Lib.takeB s hl];have hx:AZ (64*((s.getD 0 0).toNat-192)+(s.getD 1 0).toNat-128)=true:=(KG _).2 (by unfold AY;omega);rw[hx];by_cases hv:(s.getD 0 0).toNat%32*64+(s.getD 1 0).toNat%64≥128
  · rw[aUU hv,aUU ⟨rfl,by
      rw[YU pI pI,IG _ _ (s.getD 0 0) pI,IG _ _ (s.getD 1 0) pI,aAd]⟩]
    exact Prod.ext (by show _=(((_:Nat)):Int);omega) rfl
  · rw[aUX hv,aUX (fun h=>by
      have h2:=aVc List.length h.2;rw[YT pI pI,PT] at h2;simp at h2)]
    rfl
theorem aPV {s:pF}(hl:2<s.length) (h0:224≤(s.getD 0 0).toNat) (h0':(s.getD 0 0).toNat<240) (hc:tP s 1=true) (hc2:tP s 2=true):
    wV s (zC s 2 (zC s 1 ((s.getD 0 0).toNat-224))) 3=(((Lib.decodeL s).1:Int),((Lib.decodeL s).2:Int)):=by
  unfold tP at hc hc2;simp only[aU8] at hc hc2;have k0:=(s.getD 0 0).toNat_lt;have k1:=(s.getD 1 0).toNat_lt;have k2:=(s.getD 2 0).toNat_lt;obtain⟨V,hV⟩: ∃V,(s.getD 0 0).toNat%16*4096+(s.getD 1 0).toNat%64*64+(s.getD 2 0).toNat%64=V:=⟨_,rfl⟩
  have hd:Lib.decodeL s=if V≥2048∧(V<55296∨(57344≤V∧V≤1114111)) then(V,3) else(65533,1):=by
    rw[Lib.decodeL_N];unfold Lib.decodeN;rw[aUX pI,aUX pI,aUU ⟨pI,⟨pI,hc⟩,pI,hc2⟩,hV]
  rw[hd];unfold wV zC;rw[Lib.takeC s hl];generalize hX:64*(64*(((s.getD 0 0).toNat:Int)-224)+(s.getD 1 0).toNat-128)+(s.getD 2 0).toNat-128=X;have hXV:X=(V:Int):=by omega
  by_cases hv:V≥2048∧(V<55296∨(57344≤V∧V≤1114111))
  · rw[aUU hv,aUU ⟨(KG _).2 (by unfold AY;omega),by
      rw[a98 pI,IG _ _ (s.getD 0 0) pI,IG _ _ (s.getD 1 0) pI,IG _ _ (s.getD 2 0) pI,aAd]⟩]
    exact Prod.ext hXV rfl
  · rw[aUX hv,aUX (fun h=>by
      have hs:=(KG _).1 h.1;unfold AY at hs;have hlt:X<2048:=by omega
      have h2:=aVc List.length h.2;by_cases h7:X≤127
      .rw[YT pI h7,PT] at h2;simp at h2
      .rw[YU pI pI,PT] at h2;simp at h2)]
    rfl
theorem aPW {s:pF}(hl:3<s.length) (h0:240≤(s.getD 0 0).toNat) (h0':(s.getD 0 0).toNat<248) (hc:tP s 1=true) (hc2:tP s 2=true) (hc3:tP s 3=true):
    wV s (zC s 3 (zC s 2 (zC s 1 ((s.getD 0 0).toNat-240)))) 4=(((Lib.decodeL s).1:Int),((Lib.decodeL s).2:Int)):=by
  unfold tP at hc hc2 hc3;simp only[aU8] at hc hc2 hc3;have k0:=(s.getD 0 0).toNat_lt;have k1:=(s.getD 1 0).toNat_lt;have k2:=(s.getD 2 0).toNat_lt;have k3:=(s.getD 3 0).toNat_lt;obtain⟨V,hV⟩: ∃V,(s.getD 0 0).toNat%8*262144+(s.getD 1 0).toNat%64*4096+(s.getD 2 0).toNat%64*64+(s.getD 3 0).toNat%64=V:=⟨_,rfl⟩
  have hd:Lib.decodeL s=if V≥65536∧(V<55296∨(57344≤V∧V≤1114111)) then(V,4) else(65533,1):=by
    rw[Lib.decodeL_N];unfold Lib.decodeN;rw[aUX pI,aUX pI,aUX pI,aUU ⟨pI,⟨pI,hc⟩,⟨pI,hc2⟩,pI,hc3⟩,hV]
  rw[hd];unfold wV zC;rw[Lib.takeD s hl];generalize hX:64*(64*(64*(((s.getD 0 0).toNat:Int)-240)+(s.getD 1 0).toNat-128)+(s.getD 2 0).toNat-128)+(s.getD 3 0).toNat-128=X;have hXV:X=(V:Int):=by omega
  by_cases hv:V≥65536∧(V<55296∨(57344≤V∧V≤1114111))
  · rw[aUU hv,aUU ⟨(KG _).2 (by unfold AY;omega),by
      rw[aIE pI pI,IG _ _ (s.getD 0 0) pI,IG _ _ (s.getD 1 0) pI,IG _ _ (s.getD 2 0) pI,IG _ _ (s.getD 3 0) pI,aAd]⟩]
    exact Prod.ext hXV rfl
  · rw[aUX hv,aUX (fun h=>by
      have hs:=(KG _).1 h.1;unfold AY at hs;have hlt:X<65536:=by omega
      have h2:=aVc List.length h.2;by_cases h7:X≤127
      .rw[YT pI h7,PT] at h2;simp at h2
      · by_cases h8:X≤2047
        .rw[YU pI pI,PT] at h2;simp at h2
        .rw[a98 pI,PT] at h2;simp at h2)]
    rfl
theorem MX {s:pF}(h: ¬(s.getD 0 0).toNat<128) (h2: ¬((s.getD 0 0).toNat/32=6∧1<s.length∧tP s 1=true)) (h3: ¬((s.getD 0 0).toNat/16=14∧2<s.length∧(tP s 1&&tP s 2)=true))
    (h4: ¬((s.getD 0 0).toNat/8=30∧3<s.length∧(tP s 1&&tP s 2&&tP s 3)=true)):Lib.decodeL s=(65533,1):=by
  unfold tP at h2 h3 h4;simp only[aU6,aU8] at h2 h3 h4;rw[Lib.decodeL_N];unfold Lib.decodeN;rw[aUX h,aUX (fun⟨a,b,c⟩=>h2 ⟨a,b,c⟩),aUX (fun⟨a,⟨b,c⟩,d,e⟩=>h3 ⟨a,d,c,e⟩),aUX (fun⟨a,⟨b,c⟩,⟨d,e⟩,f,g⟩=>h4 ⟨a,f,⟨c,e⟩,g⟩)]
theorem aPX {s:pF}(hne:s≠[]):JV s=some (((Lib.decodeL s).1:Int),((Lib.decodeL s).2:Int)):=by
  have hl:0<s.length:=aVp.2 hne;have hy:sJ s 0=((s.getD 0 0).toNat:Int):=aII (i:=0) hl;have k0:=(s.getD 0 0).toNat_lt;have hw:IntKind.i64.wrap ((s.getD 0 0).toNat:Int)=((s.getD 0 0).toNat:Int):=by rw[aWg];omega
  unfold JV;rw[aUU ⟨aVY _,pI⟩,hy,hw];by_cases c1:(s.getD 0 0).toNat<128
  · rw[aUU (by simp only[aU8];omega)]
    rw[Lib.decodeL_N];unfold Lib.decodeN;rw[aUU c1];rfl
  · rw[aUX (by simp only[aU8];omega)]
    by_cases c2:192≤(s.getD 0 0).toNat∧(s.getD 0 0).toNat<224
    · rw[aUU (by simp only[aU6,aU8];omega),aUU (by unfold qG;omega)]
      show (if decide ((s.length:Int)<2)=true then _ else _)=_;by_cases l2:1<s.length
      · rw[aUX (by simp only[aU8];omega),aPR l2 pI pI]
        by_cases hc:tP s 1=true
        · rw[aUU hc,←aPU l2 c2.1 c2.2 hc,←aAc (s:=s) (n:=2) pI]
          rfl
        · rw[aUX hc,MX c1 (fun h=>hc h.2.2) (fun h=>by omega) (fun h=>by omega)]
          rfl
      · rw[aUU (by simp only[aU8];omega),MX c1 (fun h=>l2 h.2.1) (fun h=>by omega) (fun h=>by omega)]
        rfl
    · rw[aUX (by simp only[aU6,aU8];omega)]
      by_cases c3:224≤(s.getD 0 0).toNat∧(s.getD 0 0).toNat<240
      · rw[aUU (by simp only[aU6,aU8];omega),aUU (by unfold qG;omega)]
        show (if decide ((s.length:Int)<3)=true then _ else _)=_;by_cases l2:2<s.length
        · rw[aUX (by simp only[aU8];omega),aPS l2 pI pI]
          by_cases hc:(tP s 1&&tP s 2)=true
          · have hc':=aU6 _ _▸hc
            rw[aUU hc,←aPV l2 c3.1 c3.2 hc'.1 hc'.2,←aAc (s:=s) (n:=3) pI];rfl
          · rw[aUX hc,MX c1 (fun h=>by omega) (fun h=>hc h.2.2) (fun h=>by omega)]
            rfl
        · rw[aUU (by simp only[aU8];omega),MX c1 (fun h=>by omega) (fun h=>l2 h.2.1) (fun h=>by omega)]
          rfl
      · rw[aUX (by simp only[aU6,aU8];omega)]
        by_cases c4:240≤(s.getD 0 0).toNat∧(s.getD 0 0).toNat<248
        · rw[aUU (by simp only[aU6,aU8];omega),aUU (by unfold qG;omega)]
          show (if decide ((s.length:Int)<4)=true then _ else _)=_;by_cases l2:3<s.length
          · rw[aUX (by simp only[aU8];omega),aPT l2 pI pI]
            by_cases hc:(tP s 1&&tP s 2&&tP s 3)=true
            · have hc':=aU6 _ _▸hc
              have hc'':=aU6 _ _▸hc'.1;rw[aUU hc,←aPW l2 c4.1 c4.2 hc''.1 hc''.2 hc'.2,←aAc (s:=s) (n:=4) pI];rfl
            · rw[aUX hc,MX c1 (fun h=>by omega) (fun h=>by omega) (fun h=>hc h.2.2)]
              rfl
          · rw[aUU (by simp only[aU8];omega),MX c1 (fun h=>by omega) (fun h=>by omega) (fun h=>l2 h.2.1)]
            rfl
        · rw[aUX (by simp only[aU6,aU8];omega),MX c1 (fun h=>by omega) (fun h=>by omega) (fun h=>by omega)]
          rfl
def zX:Nat→pF→pO
  |0,_=>[]
  |n+1,s=>if s=[] then[] else((Lib.decodeL s).1:Int)::zX n (s.drop (Lib.decodeL s).2)
theorem aIJ: ∀(n:Nat) (s:pF),(zX n s).length≤n
  |0,_=>aVi _
  | n+1,s=>by
    unfold zX;split
    .simp
    · simp only[aUY]
      have:=aIJ n (s.drop (Lib.decodeL s).2);omega
theorem aPY (s:pF):AY ((Lib.decodeL s).1:Int):=by
  have k0:=(s.getD 0 0).toNat_lt;rw[Lib.decodeL_N];rcases Lib.decodeN_shape s.length (s.getD 0 0).toNat (s.getD 1 0).toNat (s.getD 2 0).toNat (s.getD 3 0).toNat with⟨c,e⟩ |⟨c1,c2,c3,cv,e⟩ |⟨c1,c2,c3,c4,cv,cs,e⟩ |⟨c1,c2,c3,c4,c5,cv,cw,e⟩ |e
  all_goals (rw[e];unfold AY;dsimp only;omega)
theorem aIK: ∀(n:Nat) (s:pF) (out:pO),s.length≤n→out.length+s.length≤4000000000→rQ P8 (s,out)=some (out++zX n s)
  | n,[],out,_,_=>by
    rw[uU (r:=out) (by unfold P8;simp)];cases n<;>simp [zX]
  |0,b::t,_,h,_=>by simp at h
  | n+1,b::t,out,h,ho=>by
    have hne:(b::t)≠[]:=by simp
    have hle:=Lib.decodeL_le (b::t) hne;have hw:=Lib.decodeL_width (b::t)
    have hstep:P8 (b::t,out)=some (.inl ((b::t).drop (Lib.decodeL (b::t)).2,out++[((Lib.decodeL (b::t)).1:Int)])):=by
      unfold P8;dsimp only;rw[aUU pK,aPX hne];simp only[aUS];rw[aUU (by simp only[aUY,aU7] at ho|-;omega),aUU ⟨pI,pI,aVY _⟩,PR]
    rw[vT hstep,aIK n _ _ (by rw[aVg];simp only[aUY] at h hle|-;omega) (by rw[aVg,aUW];simp only[aUY,aU7] at ho hle|-;omega)];rw[show zX (n+1) (b::t)=((Lib.decodeL (b::t)).1:Int)::zX n ((b::t).drop (Lib.decodeL (b::t)).2) by rw[zX,aUX hne],aU0];rfl
def YV (s:pF):pO:=zX s.length s
theorem aPZ (s:pF) (hs:rZ s):K3 s=some (YV s):=by
  unfold rZ at hs;unfold K3;rw[aIK s.length s [] (aVi _) (by simpa using hs)];rfl
theorem aIL: ∀(n:Nat) (s:pF),∀x∈zX n s,AY x
  |0,_,_,h=>by cases h
  | n+1,s,x,h=>by
    unfold zX at h;split at h
    .cases h
    · rcases aU9.1 h with h|h
      .rw[h];exact aPY s
      .exact aIL n _ x h
def KH (l:pO):pF:=(l.map Lib.encodeRune).flatten
theorem aIM (n:Int):(Lib.encodeRune n).length≤4:=by
  unfold Lib.encodeRune;rw[aVX];exact aIG n
theorem aIN (l:pO) (hsc: ∀x∈l,AY x) (hl:rZ l): ∀(n j:Nat) (s:pF),j+n=l.length→s.length+4*n≤10000000000000→rQ (P7 l) (s,(j:Int))=some (s++KH (l.drop j))
  | 0,j,s,hj,_=>by
    have:j=l.length:=by omega
    subst this;rw[uU (r:=s) (by unfold P7;simp),aVR];simp [KH]
  | n+1,j,s,hj,hs=>by
    have hlt:j<l.length:=by omega
    unfold rZ at hl;have hx:=hsc l[j] (aVW hlt);have h4:=aIM l[j]
    have hstep:P7 l (s,(j:Int))=some (.inl (s++Lib.encodeRune l[j],((j+1:Nat):Int))):=by
      unfold P7;dsimp only;rw[aUU (uZ hlt),aUU (tD hlt),AD (t:= .int .i64) hlt];have hb:=(KG l[j]).2 hx;unfold AZ at hb;rw[aUU hb,aUU (tD hlt),aIF hx];simp only[aUS];rw[aUU (by rw[aUW];omega),aUU (vP pI)];rfl
    rw[vT hstep,aIN l hsc hl n (j+1) _ pI (by rw[aUW];omega),aVA hlt,aU0];rfl
theorem aP0 (l:pO) (hsc: ∀x∈l,AY x) (hl:rZ l):MI l=some (KH l):=by
  have hl':=hl;unfold rZ at hl';unfold MI;rw[show ((0:Int))=((0:Nat):Int) from rfl,aIN l hsc hl l.length 0 [] pI pL];rfl
theorem aIO: ∀(n:Nat) (s:pF),s.length≤n→s.length≤(KH (zX n s)).length∧(KH (zX n s)=s↔Lib.validD s=true)
  | n,[],_=>by
    have:zX n []=[]:=by cases n<;>simp [zX]
    rw[this];simp [KH,Lib.validD_nil]
  |0,b::t,h=>by simp at h
  | n+1,b::t,h=>by
    have hne:(b::t)≠[]:=by simp
    have hle:=Lib.decodeL_le (b::t) hne;have hw:=Lib.decodeL_width (b::t);obtain⟨ih1,ih2⟩:=aIO n ((b::t).drop (Lib.decodeL (b::t)).2) (by rw[aVg];simp only[aUY] at h|-;omega)
    have hr:KH (zX (n+1) (b::t))=Lib.encodeRune ((Lib.decodeL (b::t)).1:Int)++KH (zX n ((b::t).drop (Lib.decodeL (b::t)).2)):=by
      rw[zX,aUX hne];rfl
    rw[hr,Lib.validD_step _ hne];rw[aVg] at ih1;by_cases hv:(Lib.decodeL (b::t)).1=65533∧(Lib.decodeL (b::t)).2=1
    · rw[aUU hv,hv.1]
      have e3:(Lib.encodeRune ((65533:Nat):Int)).length=3:=rfl;rw[hv.2] at ih1|-;refine⟨by rw[aUW,e3];omega,fun he=> ?_,fun he=>by cases he⟩;have:=aVc List.length he;rw[aUW,e3] at this;omega
    · have he:=Lib.encode_decode (b::t) hne hv
      rw[aUX hv,he];refine⟨by rw[aUW,aVj];omega,?_⟩;rw[←ih2];constructor
      · intro h1
        exact List.append_cancel_left (h1.trans (aWi _ _).symm)
      · intro h1
        rw[h1,aWi]
theorem aP1 (s:pF) (hs:rZ s):vG s=some (Lib.validD s):=by
  have hl:rZ (YV s):=by
    have:=aIJ s.length s;unfold rZ YV at*;omega
  unfold vG;rw[aPZ s hs];simp only[aUS];rw[aP0 (YV s) (fun x hx=>aIL _ _ x hx) hl];simp only[aUS];congr 1;have:=(aIO s.length s (aVi _)).2;rw[aWH,aU8];exact this
def t7 (s:pF):Bool:=decide ((s.length:Int)≤4000)&&Lib.validD s
theorem U1 (s:pF) (hs:rZ s):GG s=some ()∧((decide ((s.length:Int)≤4000))&&val (vG s))=t7 s:=by
  unfold GG;rw[aP1 s hs];exact⟨aUU (fun _=>rfl),rfl⟩
theorem PU (s:pF) (hs:rZ s):F4 s=some ():=by
  unfold rZ at hs;unfold F4 SS;rw[aUU (fun _=>by rw[aUU pI];rfl)]
theorem xW {p:Prop}{α:Type}{v:α}:p→(some v).isSome=true:=fun _=>rfl
theorem YW {ρ:Type}{f:Int→Option (Int⊕(Unit⊕ρ))}{n:Nat}(p:Nat→Bool) (g:Nat→ρ)
    (hf: ∀(i:Nat),i<n→f i=if p i=true then some (.inr (.inr (g i))) else some (.inl (i+1)))
    (he:f n=some (.inr (.inl ()))):rQ f 0=some (wU (fun k=> .inr (g k)) (.inl ()) ((List.range n).findIdx? p)):=by
  refine E4 (l:=List.range n) p g (fun i h=> ?_) (by rw[List.length_range];exact he);have hi:i<n:=by rw[List.length_range] at h;exact h
  rw[List.getElem_range];exact hf i hi
theorem aAe (a b:pF):(!Op.bytesLess a b)=(Op.bytesLess b a||decide (b=a)):=by
  rw[bytesLess_eq,bytesLess_eq,aWH];simp only[aVo,aVE,aV5,aU8];constructor
  · intro h
    exact(List.le_iff_lt_or_eq.1 (List.not_lt.1 h))
  · rintro(h|h)
    .exact List.lt_asymm h
    .rw[h];exact List.lt_irrefl _
theorem YX {n:Nat}{p:Nat→Bool}{b:Bool}:uF (some (wU (fun _=>Sum.inr false) (Sum.inl ()) ((List.range n).findIdx? p))) (fun _:Unit=>some b)=some (!((List.range n).any p)&&b):=by
  rw[MV];cases(List.range n).any p<;>rfl
def w9 (l:pG):Bool:=decide ((l.length:Int)≤20)&& !(l.any fun x=> !t7 x)
theorem aP2 {α:Type}{l:List α}{p:α→Bool}{b:Bool}:uF (some (wU (fun _=>Sum.inr false) (Sum.inl ()) (l.findIdx? p))) (fun _:Unit=>some b)=some (!(l.any p)&&b):=by
  rw[MV];cases l.any p<;>rfl
theorem aP3 (l:pG) (hl:rZ l) (hx: ∀x∈l,rZ x):E3 l=some (w9 l):=by
  unfold rZ at hl
  have h:=E4 (f:=TL l) (l:=l) (fun x=> !t7 x) (fun _=>false) (fun i h=>by
    obtain⟨h1,h2⟩:=U1 l[i] (hx _ (aVW h));unfold TL;rw[aUU (uZ h),aUU (tD h),AD (t:= .str) h,h1,aUS,h2,aUU (vP pI)]) (by
    unfold TL;rw[aUX (vV _)])
  unfold E3;rw[h,aP2,w9,Bool.and_comm]
theorem aP4 (l:pG) (hl:rZ l) (hx: ∀x∈l,rZ x):C8 l=some (l.any fun x=> !t7 x):=by
  unfold rZ at hl
  have h:=E4 (f:=TK l) (l:=l) (fun x=> !t7 x) (fun k=>(k:Int)) (fun i h=>by
    have h1:=PU l[i] (hx _ (aVW h));unfold TK TH;rw[aUU (uZ h),aUU (tD h),AD (t:= .str) h,h1,aUS,aUS,aUU (vP pI)];rfl) (by
    unfold TK;rw[aUX (vV _)])
  unfold C8 PC;rw[h,KF];show some (decide _)=_;rw[PP]
theorem aIP (l:pG) (hl:rZ l) (hx: ∀x∈l,rZ x):MM l=some ()∧((decide ((l.length:Int)≤20))&&(!(val (C8 l))))=w9 l:=by
  unfold MM;rw[aP4 l hl hx];exact⟨aUU xW,rfl⟩
def U2 (l:pG) (i:Nat):Bool:=(!uT (l.getD i []))||(decide (0<i)&& !Op.bytesLess (l.getD (i-1) []) (l.getD i []))
def E5 (l:pG):Bool:= !((List.range l.length).any (U2 l))&&decide ((l.length:Int)≤20)
theorem aAf {l:pG}{i:Nat}:qR .str l (i:Int)=l.getD i []:=by unfold qR;rw[aVD];rfl
theorem aIQ {l:pG}{i:Nat}:qR .str l ((i:Int)-1)=l.getD (i-1) []:=by
  unfold qR;rw[show ((i:Int)-1).toNat=i-1 by omega];rfl
theorem YY {i:Nat}:decide ((0:Int)<(i:Int))=decide (0<i):=by simp
theorem aP5 (l:pG) (hl:rZ l):HU l=some (E5 l):=by
  unfold rZ at hl
  have h:=YW (f:=SQ l) (n:=l.length) (U2 l) (fun _=>false) (fun i h=>by
    unfold SQ;rw[aUU (uZ h),aUU (tD h),aAf,aIQ,U0,aUS,YY]
    have h0: ∀q:Bool,((q==false)&&(decide (0<i)==true))=true→0<i:=fun q hq=>by
      simp only[aU6,beq_iff_eq,aU8] at hq;exact hq.2
    rw[aUU (fun hq=>by have:=h0 _ hq;unfold qG;omega),aUU (fun hq=>by have:=h0 _ hq;omega),aUU (vP pI)];rfl) (by
    unfold SQ;rw[aUX (vV _)])
  unfold HU;rw[h,YX];rfl
theorem aP6 (l:pG) (hl:rZ l) (hx: ∀x∈l,rZ x):F8 l=some (E5 l):=by
  unfold rZ at hl
  have h:=YW (f:=TF l) (n:=l.length) (U2 l) (fun _=>false) (fun i h=>by
    unfold TF;have hf:rZ (l.getD i []):=by rw[aVq,aU5 h];exact hx _ (aVW h)
    rw[aUU (uZ h),aUU (tD h),aAf,aIQ,aIu _ hf,aUS,YY]
    have h0: ∀q:Bool,((q==false)&&(decide (0<i)==true))=true→0<i:=fun q hq=>by
      simp only[aU6,beq_iff_eq,aU8] at hq;exact hq.2
    rw[aUU (fun _=>tD h),aUU (fun hq=>by have:=h0 _ hq;unfold qG;omega),aUU (fun hq=>by have:=h0 _ hq;omega),aUU (vP pI),←aAe];rfl) (by
    unfold TF;rw[aUX (vV _)])
  unfold F8;rw[h,YX];rfl
abbrev fD:sB:=([],([],()))
def U3 (l:List sB) (i:Nat):Bool:=((!uT (l.getD i fD).1)||(!t7 (l.getD i fD).2.1))||(decide (0<i)&& !Op.bytesLess (l.getD (i-1) fD).1 (l.getD i fD).1)
def w4 (l:List sB):Bool:= !((List.range l.length).any (U3 l))&&decide ((l.length:Int)≤20)
theorem aAg {l:List sB}{i:Nat}:qR (.pair .str (.pair .str .unit)) l (i:Int)=l.getD i fD:=by unfold qR;rw[aVD];rfl
theorem aIR {l:List sB}{i:Nat}:qR (.pair .str (.pair .str .unit)) l ((i:Int)-1)=l.getD (i-1) fD:=by
  unfold qR;rw[show ((i:Int)-1).toNat=i-1 by omega];rfl
def U4 (x:sB):Prop:=rZ x.1∧rZ x.2.1
theorem PV {α:Type}{l:List α}{i:Nat}{d:α}(h:i<l.length):l.getD i d∈l:=by
  rw[aVq,aU5 h];exact aVW h
theorem YZ {i:Nat}{q:Bool}(hq:((q==false)&&(decide (0<i)==true))=true):0<i:=by
  simp only[aU6,beq_iff_eq,aU8] at hq;exact hq.2
theorem aIS (l:List sB) (hl:rZ l) (hx: ∀x∈l,U4 x):GE l=some (w4 l):=by
  unfold rZ at hl
  have h:=YW (f:=TG l) (n:=l.length) (U3 l) (fun _=>false) (fun i h=>by
    unfold TG;have hf:=hx _ (PV (d:=fD) h);rw[aUU (uZ h),aUU (tD h),aAg,aIR,U0,aUS,YY,PU _ hf.2];rw[aUU xW,aUU (fun hq=>by have:=YZ hq;unfold qG;omega),aUU (fun hq=>by have:=YZ hq;omega),aUU (vP pI)];rfl) (by
    unfold TG;rw[aUX (vV _)])
  unfold GE;rw[h,YX];rfl
theorem aP7 (l:List sB) (hl:rZ l) (hx: ∀x∈l,U4 x):GH l=some (w4 l):=by
  unfold rZ at hl
  have h:=YW (f:=TM l) (n:=l.length) (U3 l) (fun _=>false) (fun i h=>by
    unfold TM;have hf:=hx _ (PV (d:=fD) h);obtain⟨h1,h2⟩:=U1 _ hf.2;rw[aUU (uZ h),aUU (tD h),aAg,aIR,aIu _ hf.1,aUS,YY,h1,h2];rw[aUU (fun _=>tD h),aUU xW,aUU (fun _=>tD h),aUU (fun hq=>by have:=YZ hq;unfold qG;omega),aUU (fun hq=>by have:=YZ hq;omega),aUU (vP pI),←aAe];rfl) (by
    unfold TM;rw[aUX (vV _)])
  unfold GH;rw[h,YX];rfl
abbrev tQ:=s8
structure Z0 (x:tQ):Prop where
  id:rZ x.1
  src:rZ x.2.1
  tgt:rZ x.2.2.1
  com:rZ x.2.2.2.1∧∀y∈x.2.2.2.1,rZ y
  flg:rZ x.2.2.2.2.1∧∀y∈x.2.2.2.2.1,rZ y
  fld:rZ x.2.2.2.2.2.2.1∧∀y∈x.2.2.2.2.2.2.1,U4 y
def xK (x:tQ):Bool:=
  (((((((!decide (x.1=[]))&&decide ((x.1.length:Int)≤200))&&t7 x.1)&&t7 x.2.1)&&t7 x.2.2.1)&&w9 x.2.2.2.1)&&E5 x.2.2.2.2.1)&&(decide (0≤x.2.2.2.2.2.1)&&decide (x.2.2.2.2.2.1≤4))&&w4 x.2.2.2.2.2.2.1
theorem aP8 (x:tQ) (h:Z0 x):KB x=some (xK x):=by
  obtain⟨t1,t2⟩:=aIP _ h.com.1 h.com.2;have e1:=aP5 _ h.flg.1;have e2:=aIS _ h.fld.1 h.fld.2;unfold KB;rw[PU _ h.id,PU _ h.src,PU _ h.tgt,t1,t2,e1,e2];have k: ∀s:pF,(decide ((s.length:Int)≤4000)&&Lib.validD s)=t7 s:=fun s=>rfl;rw[aUU xW,aUS,aUU xW,aUU xW,aUU xW,aUU xW,k,k,k];unfold xK;show (if _ then some false else some _)=_;have a1:decide ((200:Int)<(x.1.length:Int))= !decide ((x.1.length:Int)≤200):=by rw[←decide_not];exact aWq.2 pI
  have a2:decide (x.2.2.2.2.2.1<(0:Int))= !decide ((0:Int)≤x.2.2.2.2.2.1):=by rw[←decide_not];exact aWq.2 pI
  have a3:decide ((4:Int)<x.2.2.2.2.2.1)= !decide (x.2.2.2.2.2.1≤(4:Int)):=by rw[←decide_not];exact aWq.2 pI
  rw[a1,a2,a3];show (if _ then some false else some (((((t7 x.2.1&&t7 x.2.2.1)&&w9 x.2.2.2.1)&&E5 x.2.2.2.2.1))&&w4 x.2.2.2.2.2.2.1))=_;generalize decide (x.1=[])=b1;generalize decide ((x.1.length:Int)≤200)=b2;generalize t7 x.1=b3;generalize t7 x.2.1=b4;generalize t7 x.2.2.1=b5;generalize w9 x.2.2.2.1=b6;generalize E5 x.2.2.2.2.1=b7;generalize decide ((0:Int)≤x.2.2.2.2.2.1)=b8;generalize decide (x.2.2.2.2.2.1≤(4:Int))=b9;generalize w4 x.2.2.2.2.2.2.1=b10;cases b1<;>cases b2<;>cases b3<;>cases b8<;>cases b9<;>simp
theorem aP9 (x:tQ) (h:Z0 x):PE x=some ()∧((((((((((!decide (x.1=([]:pF)))&&(decide ((List.length x.1:Int)≤(200:Int))))&&((decide ((List.length x.1:Int)≤(4000:Int)))&&(val (vG x.1))))&&((decide ((List.length x.2.1:Int)≤(4000:Int)))&&(val (vG x.2.1))))&&((decide ((List.length x.2.2.1:Int)≤(4000:Int)))&&(val (vG x.2.2.1))))&&(val (E3 x.2.2.2.1)))&&(val (F8 x.2.2.2.2.1)))&&(decide ((0:Int)≤x.2.2.2.2.2.1)))&&(decide (x.2.2.2.2.2.1≤(4:Int))))&&(val (GH x.2.2.2.2.2.2.1)))=xK x:=by
  obtain⟨u1,v1⟩:=U1 _ h.id;obtain⟨u2,v2⟩:=U1 _ h.src;obtain⟨u3,v3⟩:=U1 _ h.tgt;have e0:=aP3 _ h.com.1 h.com.2;have e1:=aP6 _ h.flg.1 h.flg.2;have e2:=aP7 _ h.fld.1 h.fld.2;unfold PE;rw[u1,u2,u3,v1,v2,v3,e0,e1,e2];refine⟨?_,?_⟩
  .rw[aUU xW,aUU xW,aUU xW,aUU xW,aUU xW,aUU xW]
  · unfold xK
    show (((((((((!_&&_)&&_)&&_)&&_)&&w9 x.2.2.2.1)&&E5 x.2.2.2.2.1)&&_)&&_)&&w4 x.2.2.2.2.2.2.1)=_;simp only[Bool.and_assoc]
theorem aQa {a b:UInt8}:((a.toNat:Int)=(b.toNat:Int))↔a=b:=by
  rw[Int.ofNat_inj];exact UInt8.toNat_inj
theorem eqB {a:UInt8}{n:Int}(b:UInt8) (hb:n=(b.toNat:Int)):decide ((a.toNat:Int)=n)=decide (a=b):=by
  rw[hb];simp only[aQa]
theorem Z1 (a b:pF):uY (a++b)=uY a++uY b:=by simp [uY]
theorem aAi (a:pF):uC (uY a)=a:=by
  unfold uC uY;rw[List.map_map]
  conv=>rhs;rw[←List.map_id a]
  congr 1;funext b;simp
theorem aQb {x:pO}{c:Int}(hx:x.length≤10000000000000):MC (x,()) c=some ():=by
  unfold MC;exact aUU (by simp only[aWo,aWG];omega)
theorem aQc {x:pO}{t:pF}(hx:x.length≤10000000000000) (ht:t.length≤4000000000):DU (x,()) t=some ():=by
  unfold DU;exact aUU (by dsimp only;omega)
theorem PW {p:Prop}{α:Type}{v:α}:p→(some v).isSome=true:=fun _=>rfl
abbrev C4:=pF×(pG×(List sB×(List s8×Unit)))
theorem MY {v:Ty}(a b:pF) (y:v.den): ∀l:List (pF×v.den),s9 .str v (tY .str v a y l) b=if b=a then y else s9 .str v l b
  | []=>by
    show (if decide (b=a)=true then y else v.zero)=if b=a then y else v.zero;by_cases h:b=a<;>simp [h]
  | (x,z)::r=>by
    have ih:=MY a b y r;show s9 .str v (if decide (a=x)=true then(a,y)::r else(x,z)::tY .str v a y r) b=if b=a then y else(if decide (b=x)=true then z else s9 .str v r b);by_cases h:a=x
    · rw[aUU (aVk h)]
      show (if decide (b=a)=true then y else s9 .str v r b)=_;by_cases hb:b=a
      .rw[aUU (aVk hb),aUU hb]
      .rw[aUX (by simpa using hb),aUX hb,aUX (by rw[←h];simpa using hb)]
    · rw[aUX (by simpa using h)]
      show (if decide (b=x)=true then z else s9 .str v (tY .str v a y r) b)=_;rw[ih];by_cases hb:b=a
      .rw[aUU hb,aUU hb,aUX (by rw[hb];simpa using h)]
      .rw[aUX hb,aUX hb]
theorem IH: ∀(x y:pF),Op.bytesLess x y=decide (x<y)
  |[],[]=>by simp [Op.bytesLess]
  |_::_,[]=>by simp [Op.bytesLess]
  |[],_::_=>by simp [Op.bytesLess]
  | a::x,b::y=>by
    rw[Op.bytesLess,IH x y];simp only[List.cons_lt_cons_iff];by_cases h1:a<b<;>by_cases h2:a=b<;>by_cases h3:x<y<;>simp [h1,h2,h3]
theorem aIT (l:pG):(sO l).Pairwise (·≤·):=by
  have:=List.pairwise_mergeSort (le:=fun x y:pF=>decide (x≤y)) (fun a b c h1 h2=>aVk (List.le_trans (aVw h1) (aVw h2))) (fun a b=>by simpa using List.le_total a b) l;exact this.imp (fun h=>aVw h)
theorem aAj (l:pG):(sO l).Perm l:=List.mergeSort_perm l _
theorem Z2 (l:pG):(sO l).length=l.length:=(aAj l).length_eq
abbrev aAk (y:s8):Prop:=rZ y.2.2.2.1∧rZ y.2.2.2.2.1∧rZ y.2.2.2.2.2.2.1
def PX (es:List s8) (x:pF):Int×Bool:=wU (fun k=>((k:Int),true)) ((0:Int),false) (es.findIdx? fun y=>decide (y.1=x))
theorem aQd (c:C4) (x:pF) (hl:c.2.2.2.1.length≤5000):JP c x=some (PX c.2.2.2.1 x):=by
  have h:=E4 (f:=SL c x) (l:=c.2.2.2.1) (fun y=>decide (y.1=x)) (fun k=>((k:Int),true)) (fun i h=>by
    unfold SL;rw[aUU (uZ h),aUU (tD h),AD (t:=sN) h,aUU (vP pI)]) (by
    unfold SL;rw[aUX (vV _)])
  unfold JP;rw[h,KF];rfl
def MZ (ids:pM) (es:List s8):Prop:= ∀x,s9 .str .bool ids x=es.any fun y=>decide (y.1=x)
theorem aAl {ids:pM}{es:List s8}(h:MZ ids es) (e:s8) (x:pF) (he:e.1=x):MZ (tY .str .bool x true ids) (es++[e]):=by
  intro y;rw[MY,List.any_append,←h y];by_cases hy:y=x
  .rw[aUU hy];simp [he,hy]
  · rw[aUX hy]
    have:decide (e.1=y)=false:=by rw[he];simpa using fun hh=>hy hh.symm
    simp [this]
theorem aAm {α:Type}{f:Int→Option (Int⊕(Unit⊕Bool))}(l:List α) (hf: ∀(i:Nat) (h:i<l.length),f i=some (.inl (i+1))) (he:f l.length=some (.inr (.inl ()))):
    rQ f 0=some (.inl ()):=by
  have h:=E4 (f:=f) (l:=l) (fun _=>false) (fun _=>false) (fun i h=>by rw[aUX Bool.false_ne_true];exact hf i h) he;rw[h];have:l.findIdx? (fun _=>false)=none:=aWf.2 (fun _ _=>rfl);rw[this];rfl
theorem PY (l:pG) (hl:rZ l):xT l l=some true:=by
  unfold rZ at hl;unfold xT
  rw[aUX pK,aAm l (fun i h=>by
    unfold Y4;rw[aUU (uZ h),aUU (tD h),aUU (tD h),aUX pK,aUU (vP pI)]) (by
    unfold Y4;rw[aUX (vV _)])]
  rfl
theorem Z3 (l:List sB) (hl:rZ l):AU l l=some true:=by
  unfold rZ at hl;unfold AU
  rw[aUX pK,aAm l (fun i h=>by
    unfold Y5;rw[aUU (uZ h),aUU (tD h),aUU (tD h),aUX pK,aUU (vP pI)]) (by
    unfold Y5;rw[aUX (vV _)])]
  rfl
theorem aQe (y:s8) (h:aAk y):OP y y=some ():=by
  unfold OP;rw[PY _ h.1,PY _ h.2.1,Z3 _ h.2.2,aUU PW,aUU PW,aUU PW]
theorem aIU (l:List s8) (hl:rZ l) (h: ∀y∈l,aAk y):F3 l l=some true:=by
  unfold rZ at hl;unfold F3
  rw[aUX pK,aAm l (fun i hi=>by
    have hy:=h l[i] (aVW hi);unfold YD;rw[aUU (uZ hi),aUU (tD hi),aUU (tD hi),AD (t:=sN) hi];rw[aQe _ hy,aUS,PY _ hy.1,PY _ hy.2.1,Z3 _ hy.2.2,aUX (by simp [val]),aUU (vP pI)]) (by
    unfold YD;rw[aUX (vV _)])]
  rfl
abbrev eD:tQ:=([],([],([],([],([],(0,([],())))))))
def II (es:List tQ) (i:Nat):Bool:=((es.take i).any fun y=>decide (y.1=(es.getD i eD).1))|| !xK (es.getD i eD)
def zL (c:C4):Bool:=((xJ c.1&&w9 c.2.1)&&w4 c.2.2.1)&&(decide ((c.2.2.2.1.length:Int)≤1000)&& !((List.range c.2.2.2.1.length).any (II c.2.2.2.1)))
theorem aIV {l:List tQ}{i:Nat}:qR sN l (i:Int)=l.getD i eD:=by unfold qR;rw[aVD];rfl
structure aAn (c:C4):Prop where
  tag:rZ c.1
  com:rZ c.2.1∧∀y∈c.2.1,rZ y
  fld:rZ c.2.2.1∧∀y∈c.2.2.1,U4 y
  len:c.2.2.2.1.length≤5000
  ent: ∀x∈c.2.2.2.1,Z0 x
theorem aQf {α:Type}{l:List α}{i:Nat}{d:α}(h:i<l.length):l.take (i+1)=l.take i++[l.getD i d]:=by
  rw[List.take_add_one,aU5 h,aVq,aU5 h];rfl
theorem aIW {c:C4}(hc:aAn c): ∀(n i:Nat) (m:pM),i+n=c.2.2.2.1.length→MZ m (c.2.2.2.1.take i)→
    rQ (MN c) ((i:Int),m)=some (if (List.range' i n).any (II c.2.2.2.1)=true then .inr false else .inl ())
  | 0,i,m,hi,_=>by
    have:i=c.2.2.2.1.length:=by omega
    subst this;refine uU ?_;unfold MN;dsimp only;rw[aUX (vV _)];rfl
  | n+1,i,m,hi,hm=>by
    have h:i<c.2.2.2.1.length:=by omega
    have he:=hc.ent _ (PV (d:=eD) h);have hl:=hc.len
    have hst:MN c ((i:Int),m)=if II c.2.2.2.1 i=true then some (.inr (.inr false)) else some (.inl (((i+1:Nat):Int),tY .str .bool (c.2.2.2.1.getD i eD).1 true m)):=by
      unfold MN;dsimp only;rw[aUU (uZ h),aUU (tD h),aIV,hm,aP8 _ he,aUU xW,aUU (vP pI)];rfl
    rw[aW2,List.any_cons];by_cases hb:II c.2.2.2.1 i=true
    · rw[aUU hb] at hst
      rw[hb,Bool.true_or,aUU rfl];exact uU hst
    · rw[aUX hb] at hst
      rw[vT hst,aIW hc n (i+1) _ pI (by rw[aQf (d:=eD) h];exact aAl hm _ _ rfl)];simp only[aV2] at hb;rw[hb,Bool.false_or]
theorem aQg {c:C4}(hc:aAn c):MO c=some (zL c):=by
  obtain⟨t1,t2⟩:=aIP _ hc.com.1 hc.com.2;have e2:=aIS _ hc.fld.1 hc.fld.2;have hlp:=aIW hc c.2.2.2.1.length 0 [] pI (fun x=>by rfl);rw[←List.range_eq_range'] at hlp;have hlp':rQ (MN c) ((0:Int),[])=_:=hlp;have a1:decide ((1000:Int)<(c.2.2.2.1.length:Int))= !decide ((c.2.2.2.1.length:Int)≤1000):=by rw[←decide_not];exact aWq.2 pI
  unfold MO;rw[a97,aUS,t1,t2,e2,aUU xW,aUU xW,hlp',a1];unfold zL;show (if (((!xJ c.1)||(!w9 c.2.1))||(!w4 c.2.2.1)||_)=true then some false else _)=_
  generalize xJ c.1=b1;generalize w9 c.2.1=b2;generalize w4 c.2.2.1=b3;generalize decide ((c.2.2.2.1.length:Int)≤1000)=b4;generalize (List.range c.2.2.2.1.length).any (II c.2.2.2.1)=b5;cases b1<;>cases b2<;>cases b3<;>cases b4<;>cases b5<;>rfl
def wW:Nat:=140737488351232
theorem aIX {l:pG}(hl:l.length≤wW) (hx: ∀x∈l,x.length≤wW): ∀(m i:Nat) (n:Int),i+m=l.length→0≤n→n≤1125899906842624→
    ∃r,rQ (JR l) (n,(i:Int))=some r∧n≤r∧r≤1125899906842624∧(r<1099511627776→∀x∈l.drop i,n+(x.length:Int)≤r)
  | 0,i,n,hi,h0,h1=>by
    have:i=l.length:=by omega
    subst this;refine⟨n,uU ?_,aVY _,h1,fun _ x hx=>by rw[aVR] at hx;cases hx⟩;unfold JR;dsimp only;rw[aUX pK]
  | m+1,i,n,hi,h0,h1=>by
    have h:i<l.length:=by omega
    by_cases hn:n<1099511627776
    · have hxi:=hx _ (aVW h)
      unfold wW at hxi hl
      have hst:JR l (n,(i:Int))=some (.inl (n+(l[i].length:Int),((i+1:Nat):Int))):=by
        unfold JR;dsimp only;rw[aUU (by simp [h,hn]),aUU (tD h),AD (t:= .str) h,aUU (by unfold qG;omega),aUU (by unfold qG;omega)];rfl
      obtain⟨r,e,e1,e2,e3⟩:=aIX (by unfold wW;exact hl) hx m (i+1) (n+(l[i].length:Int)) pI pI pI;refine⟨r,by rw[vT hst,e],pI,e2,fun hr x hxm=> ?_⟩;rw[aVA h] at hxm;rcases aU9.1 hxm with rfl|hxm
      .omega
      · have:=e3 hr x hxm
        omega
    · refine⟨n,uU ?_,aVY _,h1,fun hr=>by omega⟩
      unfold JR;dsimp only;rw[aUX (by simp [hn])]
theorem aIY {l:List sB}(hl:l.length≤wW) (hx: ∀x∈l,x.1.length≤wW∧x.2.1.length≤wW): ∀(m i:Nat) (n:Int),i+m=l.length→0≤n→n≤1125899906842624→
    ∃r,rQ (JS l) (n,(i:Int))=some r∧n≤r∧r≤1125899906842624∧(r<1099511627776→∀x∈l.drop i,n+(x.1.length:Int)+(x.2.1.length:Int)≤r)
  | 0,i,n,hi,h0,h1=>by
    have:i=l.length:=by omega
    subst this;refine⟨n,uU ?_,aVY _,h1,fun _ x hx=>by rw[aVR] at hx;cases hx⟩;unfold JS;dsimp only;rw[aUX pK]
  | m+1,i,n,hi,h0,h1=>by
    have h:i<l.length:=by omega
    by_cases hn:n<1099511627776
    · have hxi:=hx _ (aVW h)
      unfold wW at hxi hl
      have hst:JS l (n,(i:Int))=some (.inl (n+(l[i].1.length:Int)+(l[i].2.1.length:Int),((i+1:Nat):Int))):=by
        unfold JS;dsimp only;rw[aUU (by simp [h,hn]),aUU (tD h),AD (t:= .pair .str (.pair .str .unit)) h,aUU (by unfold qG;omega),aUU (tD h),aUU (by unfold qG;omega),aUU (by unfold qG;omega)];rfl
      obtain⟨r,e,e1,e2,e3⟩:=aIY (by unfold wW;exact hl) hx m (i+1) (n+(l[i].1.length:Int)+(l[i].2.1.length:Int)) pI pI pI;refine⟨r,by rw[vT hst,e],pI,e2,fun hr x hxm=> ?_⟩;rw[aVA h] at hxm;rcases aU9.1 hxm with rfl|hxm
      .omega
      · have:=e3 hr x hxm
        omega
    · refine⟨n,uU ?_,aVY _,h1,fun hr=>by omega⟩
      unfold JS;dsimp only;rw[aUX (by simp [hn])]
def FH (l:pG):Prop:=l.length≤6000∧∀x∈l,x.length≤6000
def KI (l:List sB):Prop:=l.length≤6000∧∀x∈l,x.1.length≤6000∧x.2.1.length≤6000
theorem aIZ {l:pG}{f:List sB}(hl:l.length≤wW) (hx: ∀x∈l,x.length≤wW) (hf:f.length≤wW) (hy: ∀x∈f,x.1.length≤wW∧x.2.1.length≤wW):
    ∃r,zS l f=some r∧0≤r∧r≤1125899906842624∧(r≤6000→FH l∧KI f):=by
  have hl':=hl;have hf':=hf;unfold wW at hl' hf';obtain⟨r,e,e1,e2,e3⟩:=aIX hl hx l.length 0 ((l.length:Int)+(f.length:Int)) pI pI pI;obtain⟨r',k,k1,k2,k3⟩:=aIY hf hy f.length 0 r pI pI e2;have e':rQ (JR l) ((l.length:Int)+(f.length:Int),(0:Int))=some r:=e;have k':rQ (JS f) (r,(0:Int))=some r':=k;refine⟨r',?_,pI,k2,fun hr=>⟨⟨pI,fun x hxm=> ?_⟩,⟨pI,fun x hxm=> ?_⟩⟩⟩
  · unfold zS
    rw[aUU (by unfold qG;omega),e'];unfold sU;rw[aUS,k',aUS]
  · have:=e3 pI x (by rw[aWc];exact hxm)
    omega
  · have:=k3 pI x (by rw[aWc];exact hxm)
    omega
structure aAo (x:tQ):Prop where
  id:x.1.length≤wW
  src:x.2.1.length≤wW
  tgt:x.2.2.1.length≤wW
  com:x.2.2.2.1.length≤wW∧∀y∈x.2.2.2.1,y.length≤wW
  flg:x.2.2.2.2.1.length≤wW∧∀y∈x.2.2.2.2.1,y.length≤wW
  fld:x.2.2.2.2.2.2.1.length≤wW∧∀y∈x.2.2.2.2.2.2.1,y.1.length≤wW∧y.2.1.length≤wW
structure IJ (x:tQ):Prop where
  id:x.1.length≤6000
  src:x.2.1.length≤6000
  tgt:x.2.2.1.length≤6000
  com:FH x.2.2.2.1
  flg:FH x.2.2.2.2.1
  fld:KI x.2.2.2.2.2.2.1
theorem aQh (x:tQ) (h:aAo x): ∃b:Bool,P5 x=some ()∧
    ((decide ((((List.length x.1:Int)+(List.length x.2.1:Int))+(List.length x.2.2.1:Int))≤(6000:Int)))&&(decide (((val (zS x.2.2.2.1 x.2.2.2.2.2.2.1))+(val (zS x.2.2.2.2.1 ([]:List r7))))≤(6000:Int))))=b∧(b=true→IJ x):=by
  obtain⟨r,e,e1,e2,e3⟩:=aIZ h.com.1 h.com.2 h.fld.1 h.fld.2;obtain⟨r',k,k1,k2,k3⟩:=aIZ (f:=[]) h.flg.1 h.flg.2 (by unfold wW;simp) (fun x hx=>by cases hx);have a1:=h.id;have a2:=h.src;have a3:=h.tgt;unfold wW at a1 a2 a3;refine⟨_,?_,rfl,fun hb=> ?_⟩
  · unfold P5
    rw[e,k,aUU (by unfold qG;omega),aUU (by unfold qG;omega),aUU xW,aUU xW,aUU (fun _=>by show qG (r+r');unfold qG;omega)]
  · rw[e,k] at hb
    simp only[aU6,aU8] at hb;obtain⟨h1,h2⟩:=hb;have h2:r+r'≤6000:=h2;obtain⟨p,q⟩:=e3 pI;obtain⟨p',_⟩:=k3 pI;exact⟨pI,pI,pI,p,p',q⟩
structure Z4 (c:C4):Prop where
  tag:c.1.length≤100
  com:FH c.2.1
  fld:KI c.2.2.1
  len:c.2.2.2.1.length≤1000
  ent: ∀x∈c.2.2.2.1,IJ x
theorem aI0 {σ ρ α:Type}{f:σ→Option (σ⊕ρ)}(st:Int→List α→σ) (out:List α→ρ) {n M B:Nat}(g:Nat→List α) (hg: ∀i,i<n→(g i).length≤B)
    (hf: ∀(i:Nat) s,i<n→s.length+B≤M→f (st i s)=some (.inl (st ((i:Int)+1) (s++g i)))) (he: ∀s,f (st n s)=some (.inr (out s))):
    ∀(k i:Nat) (s:List α),i+k=n→s.length+k*B≤M→rQ f (st i s)=some (out (s++(List.range' i k).flatMap g))
  | 0,i,s,hi,_=>by
    have:i=n:=by omega
    subst this;rw[uU (he s)];simp
  | k+1,i,s,hi,hM=>by
    rw[aV7] at hM;have hgi:=hg i pI;rw[vT (hf i s pI pI),show ((i:Int)+1)=((i+1:Nat):Int) by omega,aI0 st out g hg hf he k (i+1) (s++g i) pI (by rw[aUW];omega),aW2,aVM,aU0]
theorem U5 {σ ρ α:Type}{f:σ→Option (σ⊕ρ)}(st:Int→List α→σ) (out:List α→ρ) {n M B:Nat}(g:Nat→List α) (hg: ∀i,i<n→(g i).length≤B) (s:List α) (hM:s.length+n*B≤M)
    (hf: ∀(i:Nat) s,i<n→s.length+B≤M→f (st i s)=some (.inl (st ((i:Int)+1) (s++g i)))) (he: ∀s,f (st n s)=some (.inr (out s))):
    rQ f (st 0 s)=some (out (s++(List.range' 0 n).flatMap g)):=aI0 st out g hg hf he n 0 s pI hM
theorem U6 {α β:Type}{l:List α}{d:α}(h:α→List β):(List.range' 0 l.length).flatMap (fun i=>h (l.getD i d))=l.flatMap h:=by
  have e:(List.range' 0 l.length).map (fun i=>l.getD i d)=l:=by
    apply List.ext_getElem
    .simp
    · intro i h1 h2
      simp [aVq,h2]
  conv=>rhs;rw[←e]
  rw[List.flatMap_map]
theorem N0 {α β:Type}{l:List α}{h:α→List β}{B:Nat}(hb: ∀x∈l,(h x).length≤B):(l.flatMap h).length≤l.length*B:=by
  induction l with
  |nil=>simp
  | cons x l ih=>
    rw[aVM,aUW,aUY,aV7];have h1:=hb x aU2;have h2:=ih fun y hy=>hb y (aU3 _ hy);omega
theorem aQi {s:pF}{i:Nat}:sJ s (i:Int)=((s.getD i 0).toNat:Int):=by unfold sJ;rw[aVD]
theorem aQj {l:pS}{g:Nat→pF}:l.flatMap (fun i=>uY (g i))=uY (l.flatMap g):=by
  induction l with
  |nil=>rfl
  |cons x l ih=>rw[aVM,aVM,Z1,ih]
theorem Z5 (l:pF):(uY l).length=l.length:=by simp [uY]
def GO (h:pF) (l:pG) (t:pF):pF:=h++(l.flatten++t)
theorem aI1 {f:(Int×pF)→pO→Option (pO⊕pF)}(hf: ∀it b,b.length+it.2.length≤140737488355328→f it b=some (.inl (b++uY it.2))): ∀(l:List (Int×pF)) (b:pO),
    b.length+((l.map (·.2)).flatten).length≤140737488355328→zR f l b=some (.inl (b++uY (l.map (·.2)).flatten))
  |[],b,_=>by simp [zR,uY]
  | it::l,b,h=>by
    simp only[aV0,aVQ,aUW] at h;unfold zR;rw[hf it b pI,aUS];show zR f l _=_;rw[aI1 hf l _ (by rw[aUW,Z5];omega)];simp only[aV0,aVQ,Z1,aU0]
theorem aI2 (d:G3):((CZ d).map (·.2)).flatten=GO d.1 d.2.1 d.2.2.1:=by
  unfold CZ GO
  have e:(List.range d.2.1.length).map (fun j=>d.2.1.getD j [])=d.2.1:=by
    apply List.ext_getElem
    .simp
    · intro i h1 h2
      simp [aVq,h2]
  have e2:(((List.range d.2.1.length).map fun j:Nat=>((j:Int)+1,d.2.1.getD j [])).map (·.2))=d.2.1:=by
    rw[List.map_map];exact e
  simp only[aV0,List.map_append,List.map_nil,aVQ,List.flatten_append,List.flatten_nil,List.append_nil,e2,aU0]
theorem aI3 (d:G3) (hl:d.2.1.length≤900000) (hb:(GO d.1 d.2.1 d.2.2.1).length≤140737488355328):K1 d=some (GO d.1 d.2.1 d.2.2.1):=by
  have h:=aI1 (f:=YC) (fun it b h=>by
    unfold YC DU;rw[aUU h,aUS]) (CZ d) [] (by rw[aI2];simpa using hb)
  unfold K1;rw[aUU pI,h,aI2];unfold uF;dsimp only;rw[aUS];simp only[List.nil_append,aAi]
theorem U7 {l:pF}{n:Nat}(h:l.length≤n) (hn:n≤9223372036854775807):(l.length:Int)≤9223372036854775807:=by omega
theorem aAp {l:pG}(h:FH l) {i:Nat}(hi:i<l.length):(l.getD i []).length≤6000:=h.2 _ (PV hi)
theorem Z6 {l:List sB}(h:KI l) {i:Nat}(hi:i<l.length):(l.getD i fD).1.length≤6000∧(l.getD i fD).2.1.length≤6000:=h.2 _ (PV hi)
theorem aQk {n:Int}(h0:0≤n) (h1:n≤4):(qR .str IF n).length≤10:=by
  have:n=0∨n=1∨n=2∨n=3∨n=4:=by omega
  rcases this with rfl|rfl|rfl|rfl|rfl<;>decide
theorem aI4 {α β:Type}{f:α→β}{l:List α}:l.flatMap (fun x=>[f x])=l.map f:=by
  induction l with
  |nil=>rfl
  |cons x l ih=>rw[aVM,ih];rfl
theorem aI5 {c:C4}(hok:zL c=true) {i:Nat}(hi:i<c.2.2.2.1.length):xK (c.2.2.2.1.getD i eD)=true:=by
  unfold zL at hok;simp only[aU6,aVo,aVB,aWe] at hok;have:=hok.2.2 i hi;unfold II at this;simp only[aV5,aVo,not_or,Bool.not_eq_false] at this;exact this.2
theorem aQl {x:tQ}(h:xK x=true):0≤x.2.2.2.2.2.1∧x.2.2.2.2.2.1≤4:=by
  unfold xK at h;simp only[aU6,aU8] at h;exact h.1.2
theorem aAq {l:pF}(h: ∀b∈l,b.toNat<128):Lib.validD l=true:=by
  rw[Lib.validD_ascii l.length l (fun b hb=>h b (List.mem_of_mem_take hb)),aVR];rfl
theorem aI6 {b:UInt8}(h:yB b.toNat=false):b.toNat<128:=by
  unfold yB at h;simp only[aWI,aV9,aU6,aU8] at h;omega
theorem aAr {x:pF}(h:uT x=true):t7 x=true:=by
  cases x with
  |nil=>cases h
  | cons b t=>
    unfold uT at h;simp only[aU6,aVo,aVB,aV2,aVE] at h;obtain⟨⟨h0,h1⟩,h2⟩:=h;unfold t7;rw[aU6,aU8];refine⟨by simp only[aUY];omega,aAq fun c hc=> ?_⟩;rcases aU9.1 hc with rfl|hc
    · unfold yO at h1
      simp only[aU6,aU8] at h1;omega
    .exact aI6 (h2 c hc)
theorem KJ {l:pG}(h:w9 l=true):l.length≤20∧∀x∈l,t7 x=true:=by
  unfold w9 at h;simp only[aU6,aVo,aVB,aU8,aV2,aV9] at h;exact⟨pI,fun x hx=>by simpa using h.2 x hx⟩
theorem aAs {α:Type}{r:α→α→Prop}(tr: ∀a b c,r a b→r b c→r a c) {l:List α}(h: ∀(i:Nat) (hi:i+1<l.length),r l[i] l[i+1]):l.Pairwise r:=by
  rw[aVV];intro i j hi hj hij;obtain⟨k,rfl⟩: ∃k,j=i+1+k:=⟨j-i-1,pI⟩
  induction k with
  |zero=>exact h i hj
  |succ k ih=>exact tr _ _ _ (ih pI pI) (h (i+1+k) hj)
theorem CD {α:Type}{l:List α}{i:Nat}{d:α}(h:i<l.length):l.getD i d=l[i]:=by
  rw[aVq,aU5 h];rfl
theorem U8 {l:pG}(h:E5 l=true):l.length≤20∧(∀x∈l,uT x=true)∧l.Pairwise (· < ·):=by
  unfold E5 at h;simp only[aU6,aVo,aVB,aU8,aWe,aV2] at h;obtain⟨h1,h2⟩:=h;unfold U2 at h1;simp only[aVG,aWI,aV9,aVE] at h1;refine⟨pI,fun x hx=> ?_,aAs (r:=fun a b:pF=>a<b) (fun a b c=>List.lt_trans) fun i hi=> ?_⟩
  · obtain⟨i,hi,rfl⟩:=aWQ hx
    have:=(h1 i hi).1;rwa [CD hi] at this
  · have:=(h1 (i+1) hi).2
    rw[CD hi,Nat.add_sub_cancel,CD (show i<l.length by omega),IH] at this;exact aVw (this.resolve_left pI)
theorem GP {l:List sB}(h:w4 l=true):l.length≤20∧(∀x∈l,uT x.1=true∧t7 x.1=true∧t7 x.2.1=true)∧l.Pairwise (fun a b=>a.1<b.1):=by
  unfold w4 at h;simp only[aU6,aVo,aVB,aU8,aWe,aV2] at h;obtain⟨h1,h2⟩:=h;unfold U3 at h1;simp only[aVG,aWI,aV9,aVE] at h1;refine⟨pI,fun x hx=> ?_,aAs (r:=fun a b:sB=>a.1<b.1) (fun a b c=>List.lt_trans) fun i hi=> ?_⟩
  · obtain⟨i,hi,rfl⟩:=aWQ hx
    have:=(h1 i hi).1;rw[CD hi] at this;exact⟨this.1,aAr this.1,this.2⟩
  · have:=(h1 (i+1) hi).2
    rw[CD hi,Nat.add_sub_cancel,CD (show i<l.length by omega),IH] at this;exact aVw (this.resolve_left pI)
theorem aQm {es:List tQ}(h: ∀i,i<es.length→II es i=false):es.Pairwise (fun a b=>a.1≠b.1):=by
  rw[aVV];intro i j hi hj hij he;have h1:=h j hj;unfold II at h1;simp only[aVG,aVB,aU8] at h1;rw[CD hj] at h1;exact h1.1 es[i] (by rw[List.mem_take_iff_getElem];exact⟨i,pI,rfl⟩) he
theorem U9 {c:C4}(h:zL c=true):xJ c.1=true∧w9 c.2.1=true∧w4 c.2.2.1=true∧c.2.2.2.1.length≤1000∧(∀x∈c.2.2.2.1,xK x=true)∧c.2.2.2.1.Pairwise (fun a b=>a.1≠b.1):=by
  have h':=h;unfold zL at h';simp only[aU6,aVo,aVB,aWe,aU8,aV2] at h';obtain⟨⟨⟨h1,h2⟩,h3⟩,h4,h5⟩:=h';refine⟨h1,h2,h3,pI,fun x hx=> ?_,aQm h5⟩;obtain⟨i,hi,rfl⟩:=aWQ hx;have:=aI5 h hi;rwa [CD hi] at this
theorem aI7 {a b:pF}(h: ¬a<b) (hne:a≠b):b<a:=by
  have:=aAe a b;rw[IH,IH] at this;have h1:decide (a<b)=false:=by simpa using h
  have h2:decide (b=a)=false:=by simpa using fun e=>hne e.symm
  rw[h1,h2] at this;simpa using this.symm
theorem aI8 {α:Type}(f:α→pF) {x:α}{p:α→Bool}: ∀{l:List α},l.Pairwise (fun a b=>f a<f b)→(∀y∈l,f y≠f x)→(∀y∈l,p y= !decide (f y<f x))→
    (l.take ((l.findIdx? p).getD l.length)++[x]++l.drop ((l.findIdx? p).getD l.length)).Pairwise (fun a b=>f a<f b)
  |[],_,_,_=>by simp
  | a::t,hp,hne,hpp=>by
    rw[aWT] at hp;have hpa:=hpp a aU2;rw[aWC];by_cases h:f a<f x
    · have hpf:p a=false:=by rw[hpa];simpa using h
      rw[hpf];have ih:=aI8 f (x:=x) hp.2 (fun y hy=>hne y (aU3 _ hy)) (fun y hy=>hpp y (aU3 _ hy))
      have e:((if false=true then some 0 else(t.findIdx? p).map fun i=>i+1).getD (a::t).length)=(t.findIdx? p).getD t.length+1:=by
        cases t.findIdx? p<;>rfl
      rw[e,List.take_succ_cons,aWR,List.cons_append,List.cons_append,aWT];refine⟨fun y hy=> ?_,ih⟩;rw[aU0] at hy;rcases aVJ.1 hy with hy|hy
      .exact hp.1 y (List.mem_of_mem_take hy)
      · rcases aU9.1 hy with rfl|hy
        .exact h
        .exact hp.1 y (List.mem_of_mem_drop hy)
    · have hpt:p a=true:=by rw[hpa];simpa using h
      rw[hpt];have hx:f x<f a:=aI7 h (hne a aU2);show ([]++[x]++(a::t)).Pairwise _;rw[List.nil_append,List.singleton_append,aWT];refine⟨fun y hy=> ?_,aWT.2 hp⟩;rcases aU9.1 hy with rfl|hy
      .exact hx
      .exact List.lt_trans hx (hp.1 y hy)
theorem aQn {α:Type}{l:List α}{x y:α}{k:Nat}(h:y∈l.take k++[x]++l.drop k):y=x∨y∈l:=by
  rw[aU0] at h;rcases aVJ.1 h with h|h
  .exact .inr (List.mem_of_mem_take h)
  · rcases aU9.1 h with h|h
    .exact .inl h
    .exact .inr (List.mem_of_mem_drop h)
theorem aQo {α:Type}{l:List α}{x:α}{k:Nat}:(l.take k++[x]++l.drop k).length=l.length+1:=by
  simp only[aUW,aVj,aVg,aWo];omega
theorem aQp {l:pG}(h:l.length≤20) (hx: ∀x∈l,t7 x=true):w9 l=true:=by
  unfold w9;simp only[aU6,aVo,aVB,aU8,aV9,aV2];exact⟨pI,fun x hxl=>by simpa using hx x hxl⟩
theorem aI9 {α:Type}{r:α→α→Prop}{l:List α}(h:l.Pairwise r) {i:Nat}(h0:0<i) (hi:i<l.length):r l[i-1] l[i]:=by
  rw[aVV] at h;exact h (i-1) i pI hi pI
theorem aQq {l:pG}(h:l.length≤20) (hx: ∀x∈l,uT x=true) (hp:l.Pairwise (· < ·)):E5 l=true:=by
  unfold E5;simp only[aU6,aVo,aVB,aU8,aWe,aV2];refine⟨fun i hi=> ?_,pI⟩;unfold U2;rw[CD hi,hx _ (aVW hi)];by_cases h0:0<i
  · rw[CD (show i-1<l.length by omega),IH]
    simp [aI9 hp h0 hi]
  .simp [h0]
theorem aQr {l:List sB}(h:l.length≤20) (hx: ∀x∈l,uT x.1=true∧t7 x.2.1=true) (hp:l.Pairwise (fun a b=>a.1<b.1)):w4 l=true:=by
  unfold w4;simp only[aU6,aVo,aVB,aU8,aWe,aV2];refine⟨fun i hi=> ?_,pI⟩;unfold U3;obtain⟨a,b⟩:=hx _ (aVW hi);rw[CD hi,a,b];by_cases h0:0<i
  · rw[CD (show i-1<l.length by omega),IH]
    simp [aI9 hp h0 hi]
  .simp [h0]
theorem aQs {l:pG}{x:pF}(h:w9 l=true) (hl: ¬20≤l.length) (hx:t7 x=true):w9 (l++[x])=true:=by
  obtain⟨h1,h2⟩:=KJ h;refine aQp (by rw[aUW,aWo];omega) fun y hy=> ?_;rcases aVJ.1 hy with hy|hy
  .exact h2 y hy
  .rw[aVb.1 hy];exact hx
theorem aQt {l:List sB}{n v:pF}(h:w4 l=true) (hl: ¬20≤l.length) (hx:uT n=true) (hv:t7 v=true) (hn: ¬(l.any fun y=>decide (y.1=n))=true):w4 (GN l n v)=true:=by
  obtain⟨h1,h2,h3⟩:=GP h;have hne: ∀y∈l,y.1≠n:=fun y hy e=>hn (List.any_eq_true.2 ⟨y,hy,by simp [e]⟩)
  have hk:BO l n=none:=by
    unfold BO;rw[aWf];intro y hy;simpa using hne y hy
  unfold GN;rw[hk];show w4 (l.take (GM l n)++[(n,v,())]++l.drop (GM l n))=true;unfold GM;refine aQr (by rw[aQo];omega) (fun y hy=> ?_) (aI8 (fun y:sB=>y.1) (x:=(n,v,())) h3 hne fun y hy=> ?_)
  · rcases aQn hy with rfl|hy
    .exact⟨hx,hv⟩
    .exact⟨(h2 y hy).1,(h2 y hy).2.2⟩
  · rw[IH]
    have:decide (y.1=n)=false:=by simpa using hne y hy
    rw[this,Bool.or_false]
structure B3 (es:List tQ):Prop where
  len:es.length≤1000
  ok: ∀x∈es,xK x=true
  pw:es.Pairwise (fun a b=>a.1≠b.1)
section
variable {s:pF}(hsm:s.length≤4000000000) {bad:Int}{ends:pO}{tag:pF}{cms:pG}{fds:List sB}{es:List tQ}
include hsm
omit hsm in
theorem Z7 {c:C4}(h1:xJ c.1=true) (h2:w9 c.2.1=true) (h3:w4 c.2.2.1=true) (h4:B3 c.2.2.2.1):zL c=true:=by
  unfold zL;rw[h1,h2,h3,aVk (show ((c.2.2.2.1.length:Int))≤1000 by have:=h4.len;omega)];simp only[Bool.true_and,aVo,aVB,aWe,aV2];intro i hi;unfold II;rw[CD hi,h4.ok _ (aVW hi)];simp only[Bool.not_true,Bool.or_false,aVB,aU8];intro y hy;rw[List.mem_take_iff_getElem] at hy;obtain⟨j,hj,rfl⟩:=hy;exact aVV.1 h4.pw j i pI hi pI
end
theorem AE {x:pF}(h:t7 x=true):x.length≤4000:=by
  unfold t7 at h;simp only[aU6,aU8] at h;omega
structure aAt (x:tQ):Prop where
  id:x.1.length≤4000
  src:x.2.1.length≤4000
  tgt:x.2.2.1.length≤4000
  com:x.2.2.2.1.length≤20∧∀y∈x.2.2.2.1,y.length≤4000
  flg:x.2.2.2.2.1.length≤20∧∀y∈x.2.2.2.2.1,y.length≤4000
  fld:x.2.2.2.2.2.2.1.length≤20∧∀y∈x.2.2.2.2.2.2.1,y.1.length≤4000∧y.2.1.length≤4000
theorem aJa {x:tQ}(h:xK x=true):aAt x:=by
  have h':=h;unfold xK at h';simp only[aU6] at h';obtain⟨⟨⟨⟨⟨⟨⟨⟨hne,h200⟩,hid⟩,hsrc⟩,htgt⟩,hcom⟩,hflg⟩,_⟩,hfld⟩:=h';obtain⟨c1,c2⟩:=KJ hcom;obtain⟨f1,f2,f3⟩:=U8 hflg;obtain⟨g1,g2,g3⟩:=GP hfld;exact⟨AE hid,AE hsrc,AE htgt,⟨c1,fun y hy=>AE (c2 y hy)⟩,⟨f1,fun y hy=>AE (aAr (f2 y hy))⟩,⟨g1,fun y hy=>⟨AE (g2 y hy).2.1,AE (g2 y hy).2.2⟩⟩⟩
theorem aAu {l:pG}(h:l.length≤20∧∀y∈l,y.length≤4000):FH l:=⟨pI,fun y hy=>by have:=h.2 y hy;omega⟩
theorem aJb {l:List sB}(h:l.length≤20∧∀y∈l,y.1.length≤4000∧y.2.1.length≤4000):KI l:=⟨pI,fun y hy=>by have:=h.2 y hy;omega⟩
theorem aAt.few {x:tQ}(h:aAt x):IJ x:=⟨by have:=h.id;omega,by have:=h.src;omega,by have:=h.tgt;omega,aAu h.com,aAu h.flg,aJb h.fld⟩
theorem aJc {c:C4}(h:zL c=true):Z4 c:=by
  obtain⟨h1,h2,h3,h4,h5,_⟩:=U9 h;obtain⟨c1,c2⟩:=KJ h2;obtain⟨g1,g2,g3⟩:=GP h3;refine⟨?_,aAu ⟨c1,fun y hy=>AE (c2 y hy)⟩,aJb ⟨g1,fun y hy=>⟨AE (g2 y hy).2.1,AE (g2 y hy).2.2⟩⟩,h4,fun x hx=>(aJa (h5 x hx)).few⟩;unfold xJ at h1;simp only[aU6,aU8] at h1;omega
theorem aJd {c:C4}(h:zL c=true):MK c c=some ()∧((((decide (c.1=c.1))&&(val (xT c.2.1 c.2.1)))&&(val (AU c.2.2.1 c.2.2.1)))&&(val (F3 c.2.2.2.1 c.2.2.2.1)))=true:=by
  obtain⟨h1,h2,h3,h4,h5,_⟩:=U9 h;have f2:rZ c.2.1:=by have:=(KJ h2).1;unfold rZ;omega
  have f3:rZ c.2.2.1:=by have:=(GP h3).1;unfold rZ;omega
  have f4:rZ c.2.2.2.1:=by unfold rZ;omega
  have f5: ∀y∈c.2.2.2.1,aAk y:=fun y hy=>by
    have hs:=aJa (h5 y hy);exact⟨by have:=hs.com.1;unfold rZ;omega,by have:=hs.flg.1;unfold rZ;omega,by have:=hs.fld.1;unfold rZ;omega⟩
  constructor
  · unfold MK T5
    rw[PY _ f2,Z3 _ f3,aIU _ f4 f5];rw[aUU PW,aUU PW,aUS,aUU PW]
  · rw[PY _ f2,Z3 _ f3,aIU _ f4 f5]
    simp [val]
def E6:Nat→pG→pS
  |_,[]=>[]
  |a,x::ps=>(a+x.length)::E6 (a+x.length) ps
theorem aJe: ∀(a:Nat) (ps:pG),(E6 a ps).length=ps.length
  |_,[]=>rfl
  |a,x::ps=>by rw[E6,aUY,aUY,aJe]
theorem aJf: ∀(ps:pG) (a j:Nat),j≤ps.length→(a::E6 a ps).getD j 0=a+(ps.take j).flatten.length
  |_,a,0,_=>by simp
  |[],_,_+1,h=>by simp at h
  | x::ps,a,j+1,h=>by
    rw[E6,List.getD_cons_succ,aJf ps (a+x.length) j (by simpa using h),List.take_succ_cons,aVQ,aUW];omega
theorem aJg (ps:pG) (j:Nat):ps.flatten=(ps.take j).flatten++(ps.drop j).flatten:=by
  rw[←List.flatten_append,aWi]
theorem aQu {s a b c:pF}(h:s=a++(b++c)):sF s (a.length:Nat) ((a.length+b.length:Nat):Int)=b:=by
  unfold sF;rw[aVD,aVD,h,aWk,aVK,aVS]
noncomputable section
def uV (b:Nat):pF:=(K5 (b:Int)).getD []
theorem aQv:((List.range 256).all fun b=>decide (K5 (b:Int)=some (uV b))&&([true,false].all fun f=>decide (a6M 4 (b:Int) f=some (uV b)))&&decide ((uV b).length≤6))=true:=by kernel_rfl
theorem aAv (b:UInt8) (f:Bool):K5 (b.toNat:Int)=some (uV b.toNat)∧a6M 4 (b.toNat:Int) f=some (uV b.toNat)∧(uV b.toNat).length≤6:=by
  have h:=aVC.1 aQv b.toNat (aWe.2 (UInt8.toNat_lt b));simp only[aU6,aU8] at h;have h2:=aVC.1 h.1.2 f (by cases f<;>simp)
  exact⟨h.1.1,aVw h2,h.2⟩
def v6 (s:pF):pF:=s.flatMap fun b=>uV b.toNat
theorem PZ (s:pF):(v6 s).length≤6*s.length:=by
  have:=N0 (l:=s) (h:=fun b:UInt8=>uV b.toNat) (B:=6) fun b _=>(aAv b true).2.2;unfold v6;omega
theorem aQw {s:pF}(hs:rZ s):ML (4:Int) s=some (v6 s):=by
  unfold rZ at hs
  have h:=U5 (f:=TJ (4:Int) s) (fun i b=>(i,b)) (fun b=>b) (n:=s.length) (M:=10000000000000) (B:=6) (fun i=>uY (uV (s.getD i 0).toNat)) (fun i _=>by rw[Z5];exact(aAv _ true).2.2) [] pL (fun i b hi hM=>by
    obtain⟨e1,_,e3⟩:=aAv (s.getD i 0) true;unfold TJ;dsimp only;rw[aUU (uZ hi),aUU pJ,aUU (tD hi),aQi,e1,aUS];unfold DU;rw[aUU (by dsimp only;omega),aUS,aUU (vP pI)]) (fun b=>by
    unfold TJ;dsimp only;rw[aUX (vV _)])
  unfold ML;rw[aUX pK,h,aQj,U6 (l:=s) (d:=0) fun b:UInt8=>uV b.toNat];unfold sU;rw[aUS,List.nil_append,aAi];rfl
def xL (s p:pF):pF×Bool:=if s.take p.length=p then(s.drop p.length,true) else(s,false)
theorem aQx {s p:pF}:((decide ((List.length p:Int)≤(List.length s:Int)))&&decide (sF s (0:Int) (List.length p:Int)=p))=decide (s.take p.length=p):=by
  rw[YS];by_cases h:s.take p.length=p
  · have:=aVc List.length h
    rw[aVj] at this;simp [h];omega
  .simp [h]
theorem Z8 (s p:pF):F7 s p=some (xL s p):=by
  unfold F7 MA internal_stringslite_HasPrefix;rw[aUU (fun h=>⟨aVY _,pI,by simpa using h⟩),aUS,aQx];unfold xL;by_cases h:s.take p.length=p
  · have:=aVc List.length h
    rw[aVj] at this;rw[aUX (by simp [h]),aUU ⟨pI,pI,aVY _⟩,aUU h,PR];rfl
  .rw[aUU (by simp [h]),aUX h];rfl
theorem aQy (s:pF) (base:Int) (hs:rZ s): ∃n b,GC s base=some (n,b):=by
  unfold rZ at hs
  have loop: ∀(k i:Nat) (n:Int),i+k=s.length→∃r,rQ (JX s base) (n,(i:Int))=some r:=by
    intro k
    induction k with
    | zero=>
      intro i n hi;obtain rfl:i=s.length:=by omega
      refine⟨Sum.inl n,uU (r:=Sum.inl n) ?_⟩
      · unfold JX
        dsimp only;rw[aUX (vV _)]
    | succ k ih=>
      intro i n hi;have h:i<s.length:=by omega
      obtain⟨r2,e2⟩: ∃d:Int,(sU (σ:=Int) (
       if ((decide ((65:Int)≤(sJ s i)))&&(decide ((sJ s i)≤(70:Int))))=true then
        if 0≤(i:Int)∧(i:Int)<(List.length s:Int) then
         some ((IntKind.wrap .i64 ((IntKind.wrap .i64 (IntKind.wrap .u8 ((sJ s i)- (65:Int))))+(10:Int))))
        else none
       else
        some ((vD ([48,49,50,51,52,53,54,55,56,57,97,98,99,100,101,102]:pF) (sJ s i)))
      ) fun d=>some d)=some d:=by
        unfold sU;split
        .rw[aUU (tD h)];exact⟨_,rfl⟩
        .exact⟨_,rfl⟩
      have hw:IntKind.wrap .i64 ((i:Int)+1)=((i+1:Nat):Int):=by
        rw[IntWalk.i64_in _ pI];rfl
      have hst:(∃r,JX s base (n,(i:Int))=some (.inr r))∨∃m,JX s base (n,(i:Int))=some (.inl (m,((i+1:Nat):Int))):=by
        unfold JX;dsimp only;rw[aUU (uZ h),aUU (tD h),aUU (tD h),aUU (fun _=>tD h),hw];unfold sU at e2|-;generalize (if ((decide ((65:Int)≤(sJ s i)))&&(decide ((sJ s i)≤(70:Int))))=true then
        if 0≤(i:Int)∧(i:Int)<(List.length s:Int) then
         some ((IntKind.wrap .i64 ((IntKind.wrap .i64 (IntKind.wrap .u8 ((sJ s i)- (65:Int))))+(10:Int))))
        else none
       else
        some ((vD ([48,49,50,51,52,53,54,55,56,57,97,98,99,100,101,102]:pF) (sJ s i))))=o at e2|-
        cases o with
        |none=>cases e2
        | some d=>
          rw[aUS];split
          .exact .inl ⟨_,rfl⟩
          .exact .inr ⟨_,rfl⟩
      rcases hst with⟨r,hr⟩ |⟨m,hm⟩
      .exact⟨_,uU hr⟩
      · rw[vT hm]
        exact ih (i+1) m pI
  obtain⟨r,hr⟩:=loop s.length 0 0 pI;have hr':rQ (JX s base) ((0:Int),(0:Int))=some r:=hr;unfold GC;rw[hr'];cases r with
  |inl n=>exact⟨_,_,rfl⟩
  |inr x=>obtain⟨n,b⟩:=x;exact⟨n,b,rfl⟩
def rE (l:pF):pF×Int:=(FA l).getD ([],0)
theorem Q0 (l:pF) (b:UInt8):Lib.indexByte l b<l.length∧ -1≤Lib.indexByte l b:=XR l b
theorem aQz (n:Int):(if AZ n=true then Lib.encodeRune n else Lib.encodeRune 65533).length≤4:=by
  split<;>exact aIM _
theorem aJh {l t:pF}(h38:l=38::t) (hf:rZ l):FA l=some (rE l)∧(rE l).1.length≤4∧((rE l).2=0∨((rE l).2=Lib.indexByte l 59+1∧1≤Lib.indexByte l 59)):=by
  have hix:vD l 59=Lib.indexByte l 59:=rfl;have hr:=Q0 l 59
  have h1:Lib.indexByte l 59<0∨1≤Lib.indexByte l 59:=by
    rw[h38] at hr|-;unfold Lib.indexByte at hr|-;rw[aUX pJ] at hr|-;split
    .left;decide
    · have:=Q0 t 59
      rename_i h;have h':Lib.indexByte t 59≠ -1:=by simpa using h
      omega
  suffices h: ∃x k,FA l=some (x,k)∧x.length≤4∧(k=0∨(k=Lib.indexByte l 59+1∧1≤Lib.indexByte l 59)) by
    obtain⟨x,k,e,h2,h3⟩:=h;have:rE l=(x,k):=by unfold rE;rw[e];rfl
    rw[this];exact⟨e,h2,h3⟩
  unfold rZ at hf;unfold FA;rw[hix];by_cases hk:Lib.indexByte l 59<0
  · rw[aUU (aVk hk)]
    exact⟨[],0,rfl,by simp,.inl rfl⟩
  · have hk1:1≤Lib.indexByte l 59:=by omega
    have hi:qG (Lib.indexByte l 59+1):=by unfold qG;omega
    rw[aUX (by simpa using hk),aUU ⟨pJ,hk1,pI⟩,aUU hi,aUU hi,aUU hi,aUU hi,aUU hi]
    have hnl:(sF l 1 (Lib.indexByte l 59)).length≤l.length:=by
      unfold sF;rw[aVj,aVg];omega
    generalize sF l 1 (Lib.indexByte l 59)=nm at hnl|-;split
    .exact⟨_,_,rfl,by simp,.inr ⟨rfl,hk1⟩⟩
    split
    .exact⟨_,_,rfl,by simp,.inr ⟨rfl,hk1⟩⟩
    split
    .exact⟨_,_,rfl,by simp,.inr ⟨rfl,hk1⟩⟩
    split
    .exact⟨_,_,rfl,by simp,.inr ⟨rfl,hk1⟩⟩
    split
    .exact⟨_,_,rfl,by simp,.inr ⟨rfl,hk1⟩⟩
    rw[Z8,aUS]
    have h2:(xL nm [35]).1.length≤l.length:=by
      unfold xL;split
      .rw[aVg];omega
      .exact hnl
    generalize xL nm [35]=c1 at h2|-;split
    .exact⟨[],0,rfl,by simp,.inl rfl⟩
    rw[Z8,aUS]
    have h3:(xL c1.1 [120]).1.length≤l.length:=by
      unfold xL;split
      .rw[aVg];omega
      .exact h2
    generalize xL c1.1 [120]=c2 at h3|-
    obtain⟨u,e,hu⟩: ∃u:pF×Int×Int,(if c2.2=true then some ((c2.1,(16:Int),(6:Int))) else some ((c1.1,(10:Int),(7:Int))))=some u∧u.1.length≤l.length:=by
      split
      .exact⟨_,rfl,h3⟩
      .exact⟨_,rfl,h2⟩
    unfold sU;rw[e,aUS];obtain⟨u1,u2,u3⟩:=u;dsimp only at hu|-;obtain⟨n,b,ed⟩:=aQy u1 u2 (by unfold rZ;omega);rw[ed,aUS];split
    .exact⟨[],0,rfl,by simp,.inl rfl⟩
    rw[aPP,aUS];split
    .exact⟨[],0,rfl,by simp,.inl rfl⟩
    .exact⟨_,_,rfl,aQz n,.inr ⟨rfl,hk1⟩⟩
def yP:Nat→pF→Option pF
  |0,_=>some []
  |_+1,[]=>some []
  |n+1,b::t=>if b=38 then(if (rE (b::t)).2=0 then none else(yP n ((b::t).drop (rE (b::t)).2.toNat)).map ((rE (b::t)).1++ ·)) else if b=60∨b=34 then none else(yP n t).map (b:: ·)
theorem aJi {s:pF}{i:Nat}(h:i≤s.length):sF s (i:Int) (s.length:Int)=s.drop i:=PR
theorem aJj (b:UInt8):MB 4 (b.toNat:Int)=(decide (b=60)||decide (b=34)):=by
  unfold MB;rw[aUX pJ];simp only[a2a];show (decide ((b.toNat:Int)=60)||decide ((b.toNat:Int)=34))=_
  rw[eqB (n:=60) 60 rfl,eqB (n:=34) 34 rfl]
theorem aAw {s:pF}(hs:rZ s): ∀(k i:Nat) (x:pO),i≤s.length→s.length-i≤k→x.length+4*(s.length-i)≤5000000000000→
    ∃ r,rQ (FB 4 s) ((i:Int),x)=some r∧(match yP k (s.drop i) with
      |some y=>r= .inl (x++uY y)
      |none=> ∃j,r= .inr ([],j,3))
  | k,i,x,hi,hk,hx=>by
    have hs':=hs;unfold rZ at hs';by_cases he:i=s.length
    · subst he
      refine⟨.inl x,uU ?_,?_⟩
      · unfold FB
        dsimp only;rw[aUX (vV _)]
      · rw[aVR]
        cases k<;>simp [yP,uY]
    · have h:i<s.length:=by omega
      cases k with
      |zero=>omega
      | succ k=>
        rw[aVA h];have hb:sJ s (i:Int)=(s[i].toNat:Int):=TZ h;unfold yP;by_cases h38:s[i]=38
        · have hd:s.drop i=38::s.drop (i+1):=by rw[aVA h,h38]
          obtain⟨e1,e2,e3⟩:=aJh (l:=s.drop i) hd (by unfold rZ;rw[aVg];omega);rw[aUU h38,h38,←hd];have hr:=Q0 (s.drop i) 59;rw[aVg] at hr;by_cases h0:(rE (s.drop i)).2=0
          · rw[aUU h0]
            refine⟨.inr ([],(i:Int),3),uU ?_,⟨_,rfl⟩⟩;unfold FB;dsimp only;rw[aUU (uZ h),aUU (tD h),hb,h38,aUU pJ,aUU ⟨pI,pI,aVY _⟩,aJi pI,e1,aUS,aUU (aVk h0)]
          · rw[aUX h0]
            have hk2:(rE (s.drop i)).2=Lib.indexByte (s.drop i) 59+1∧1≤Lib.indexByte (s.drop i) 59:=by
              rcases e3 with e|e
              .exact absurd e h0
              .exact e
            have hst:FB 4 s ((i:Int),x)=some (.inl (((i+(rE (s.drop i)).2.toNat:Nat):Int),x++uY (rE (s.drop i)).1)):=by
              unfold FB;dsimp only;rw[aUU (uZ h),aUU (tD h),hb,h38,aUU pJ,aUU ⟨pI,pI,aVY _⟩,aJi pI,e1,aUS,aUX (by simpa using h0),aQc pI pI,aUS,aUU (by unfold qG;omega)];rw[show (i:Int)+(rE (s.drop i)).2=((i+(rE (s.drop i)).2.toNat:Nat):Int) by omega]
            obtain⟨r,hr1,hr2⟩:=aAw hs k (i+(rE (s.drop i)).2.toNat) (x++uY (rE (s.drop i)).1) pI pI (by rw[aUW,Z5];omega);refine⟨r,by rw[vT hst];exact hr1,?_⟩;rw[aWA];cases hu:yP k (s.drop (i+(rE (s.drop i)).2.toNat)) with
            |none=>rw[hu] at hr2;exact hr2
            | some y=>
              rw[hu] at hr2;simp only[Option.map_some];rw[hr2,Z1,aU0]
        · rw[aUX h38]
          have h38': ¬decide ((s[i].toNat:Int)=38)=true:=by rw[eqB (n:=38) 38 rfl];simpa using h38
          by_cases hf:s[i]=60∨s[i]=34
          · rw[aUU hf]
            refine⟨.inr ([],(i:Int),3),uU ?_,⟨_,rfl⟩⟩;unfold FB;dsimp only;rw[aUU (uZ h),aUU (tD h),hb,aUX h38',aUU (tD h),aJj,aUU (by simpa using hf)]
          · rw[aUX hf]
            have hst:FB 4 s ((i:Int),x)=some (.inl (((i+1:Nat):Int),x++uY [s[i]])):=by
              unfold FB;dsimp only;rw[aUU (uZ h),aUU (tD h),hb,aUX h38',aUU (tD h),aJj,aUX (by simpa using hf),aUU (tD h),aQb pI,aUS,aUU (vP pI)];rfl
            obtain⟨r,hr1,hr2⟩:=aAw hs k (i+1) (x++uY [s[i]]) pI pI (by rw[aUW,Z5];simp only[aUY,aU7];omega);refine⟨r,by rw[vT hst];exact hr1,?_⟩;cases hu:yP k (s.drop (i+1)) with
            |none=>rw[hu] at hr2;exact hr2
            | some y=>
              rw[hu] at hr2;simp only[Option.map_some];rw[hr2,aU0,←Z1];rfl
def xX (s:pF):Option pF:=match yP s.length s with
  |some t=>if t7 t=true then some t else none
  |none=>none
theorem aJk {s:pF}(hs:rZ s): ∃r,ID 4 s=some r∧(match yP s.length s with
      |some y=>r=(y,0,0)
      |none=>r.1=[]∧r.2.2=3):=by
  have hs':=hs;unfold rZ at hs';obtain⟨r,hr1,hr2⟩:=aAw hs s.length 0 [] pI pI pL;have hr1':rQ (FB 4 s) ((0:Int),[])=some r:=hr1;rw[aWc] at hr2;unfold ID;rw[aUX pJ,aUU pJ,hr1'];cases hu:yP s.length s with
  | none=>
    rw[hu] at hr2;obtain⟨j,rfl⟩:=hr2;exact⟨_,rfl,rfl,rfl⟩
  | some y=>
    rw[hu] at hr2;dsimp only at hr2;subst hr2;refine⟨_,rfl,?_⟩;show (uC ([]++uY y),(0:Int),(0:Int))=(y,0,0);rw[List.nil_append,aAi]
theorem Z9: ∀(k:Nat) (l r:pF),rZ l→yP k l=some r→r.length≤4*k
  |0,l,r,_,h=>by unfold yP at h;cases h;simp
  |k+1,[],r,_,h=>by unfold yP at h;cases h;simp
  | k+1,b::t,r,hf,h=>by
    have hf':rZ t:=by unfold rZ at hf|-;simp only[aUY] at hf;omega
    unfold yP at h;split at h
    · rename_i hb
      split at h
      .cases h
      · obtain⟨y,hy,rfl⟩:=aU1.1 h
        have h1:=(aJh (l:=b::t) (t:=t) (by rw[hb]) hf).2.1;have h2:=Z9 k _ y (by unfold rZ at hf|-;rw[aVg];omega) hy;rw[aUW];omega
    · split at h
      .cases h
      · obtain⟨y,hy,rfl⟩:=aU1.1 h
        have h2:=Z9 k t y hf' hy;simp only[aUY];omega
theorem aJl {s:pF}(hs:s.length≤1000000000): ∃t,GI s=some (t,(xX s).isSome)∧(∀y,xX s=some y→t=y):=by
  have hf:rZ s:=by unfold rZ;omega
  obtain⟨r,hr,hm⟩:=aJk hf;unfold GI xX;rw[hr,aUS];cases hu:yP s.length s with
  | none=>
    rw[hu] at hm;have hne:decide (r.2.2=0)=false:=by rw[hm.2];rfl
    rw[hne,aUU (fun h=>by cases h)];exact⟨_,rfl,fun y h=>by cases h⟩
  | some y=>
    rw[hu] at hm;dsimp only at hm;subst hm;have hl:=Z9 _ _ _ hf hu;have h1:=PU y (by unfold rZ;omega);dsimp only;rw[aUU (fun _=>by rw[h1];rfl)];refine⟨y,?_,fun z hz=> ?_⟩
    · show some (y,(_&&t7 y))=_
      cases t7 y<;>rfl
    · split at hz
      .exact aUZ hz
      .cases hz
theorem aJm {t:pF}{c:UInt8}: ∀{e:pF},0≤Lib.indexByte e c→Lib.indexByte (e++t) c=Lib.indexByte e c
  |[],h=>by simp [Lib.indexByte] at h
  | b::e,h=>by
    rw[List.cons_append];unfold Lib.indexByte at h|-;by_cases hb:(b==c)=true
    .rw[aUU hb,aUU hb]
    · rw[aUX hb] at h
      rw[aUX hb,aUX hb];by_cases h1:(Lib.indexByte e c== -1)=true
      .rw[aUU h1] at h;simp at h
      · have h2:Lib.indexByte e c≠ -1:=by simpa using h1
        have h3:=Q0 e c;have ih:=aJm (e:=e) (t:=t) (c:=c) pI;rw[ih]
theorem aQA {e t:pF}(h:0≤Lib.indexByte e 59):rE (e++t)=rE e:=by
  have hix: ∀l,vD l 59=Lib.indexByte l 59:=fun _=>rfl;have hr:=Q0 e 59;unfold rE FA;rw[hix,hix,aJm h,aUW]
  have hc:sF (e++t) 1 (Lib.indexByte e 59)=sF e 1 (Lib.indexByte e 59):=by
    unfold sF;cases e with
    |nil=>simp [Lib.indexByte] at h
    | cons b e=>
      show (e++t).take _=e.take _;rw[aVN];simp only[aUY] at hr;show (Lib.indexByte (b::e) 59).toNat-1≤e.length;omega
  rw[hc];have hn: ¬decide (Lib.indexByte e 59<0)=true:=by simp;omega
  rw[aUX hn,aUX hn];by_cases h1:1≤Lib.indexByte e 59
  .rw[aUU (show 0≤(1:Int)∧(1:Int)≤Lib.indexByte e 59∧Lib.indexByte e 59≤((e.length+t.length:Nat):Int) from⟨pJ,h1,pI⟩),aUU (show 0≤(1:Int)∧(1:Int)≤Lib.indexByte e 59∧Lib.indexByte e 59≤(e.length:Int) from⟨pJ,h1,pI⟩)]
  .rw[aUX (fun hh=>h1 hh.2.1),aUX (fun hh=>h1 hh.2.1)]
theorem aQB:((List.range 256).all fun b=>decide (uV b≠[])&&((decide ((uV b).head? =some 38)&&decide (0≤Lib.indexByte (uV b) 59)&&decide (rE (uV b)=([b.toUInt8],((uV b).length:Int))))||(decide (uV b=[b.toUInt8])&&decide (b≠38)&&decide (b≠60)&&decide (b≠34))))=true:=by kernel_rfl
theorem aQC (b:UInt8):(∃e,uV b.toNat=38::e∧0≤Lib.indexByte (uV b.toNat) 59∧rE (uV b.toNat)=([b],((uV b.toNat).length:Int)))∨(uV b.toNat=[b]∧b≠38∧b≠60∧b≠34):=by
  have h:=aVC.1 aQB b.toNat (aWe.2 (UInt8.toNat_lt b));have hb:b.toNat.toUInt8=b:=by simp
  rw[hb] at h;simp only[aU6,aV5,aU8] at h;rcases h.2 with⟨⟨h1,h2⟩,h3⟩ |⟨⟨⟨h1,h2⟩,h3⟩,h4⟩
  · left
    cases hq:uV b.toNat with
    |nil=>rw[hq] at h1;cases h1
    | cons c e=>
      rw[hq] at h1;have:c=38:=by simpa using h1
      subst this;exact⟨e,rfl,by rw[←hq];exact h2,by rw[←hq];exact h3⟩
  · right
    exact⟨h1,fun e=>h2 (by rw[e];rfl),fun e=>h3 (by rw[e];rfl),fun e=>h4 (by rw[e];rfl)⟩
theorem aAx: ∀(s:pF) (k:Nat),(v6 s).length≤k→yP k (v6 s)=some s
  |[],k,_=>by cases k<;>rfl
  | b::s,k,hk=>by
    have he:v6 (b::s)=uV b.toNat++v6 s:=by simp [v6]
    rw[he] at hk|-;rw[aUW] at hk;rcases aQC b with⟨e,h1,h2,h3⟩ |⟨h1,h2,h3,h4⟩
    · cases k with
      |zero=>rw[h1] at hk;simp at hk
      | succ k=>
        have hr:=aQA (t:=v6 s) h2;rw[h3] at hr;have hlen:(uV b.toNat).length=e.length+1:=by rw[h1];rfl
        have hform:uV b.toNat++v6 s=38::(e++v6 s):=by rw[h1];rfl
        rw[hform] at hr|-;unfold yP;rw[aUU rfl,hr,aUX (by show¬((uV b.toNat).length:Int)=0;omega)];show ((yP k ((38::(e++v6 s)).drop (((uV b.toNat).length:Int).toNat))).map ([b]++ ·))=_;rw[aVD,←hform,aWk,aAx s k pI];rfl
    · rw[h1] at hk|-
      cases k with
      |zero=>simp at hk
      | succ k=>
        simp only[aUY,aU7] at hk;show yP (k+1) (b::v6 s)=_;unfold yP;rw[aUX h2,aUX (by rintro(h|h);exact h3 h;exact h4 h),aAx s k pI];rfl
theorem aAy {s:pF}(h:t7 s=true):xX (v6 s)=some s:=by
  unfold xX;rw[aAx s _ (aVi _)];exact aUU h
end
noncomputable section
def blk (b:UInt8):Bool:=([32,9,10,13]:pF).contains b
def KK (s:pF):Bool:=s.all blk
theorem ZA (s:pF):Lib.trimLeftS s ([32,9,10,13]:pF)=s.dropWhile blk:=rfl
theorem aAz {α:Type}{p:α→Bool}: ∀{l:List α},l.dropWhile p=[]↔l.all p=true
  |[]=>by simp
  | x::l=>by
    rw[List.dropWhile_cons,List.all_cons];cases h:p x with
    |true=>simp [aAz (l:=l)]
    |false=>simp
theorem aJn (s:pF):decide (Lib.trimS s ([32,9,10,13]:pF)=[])=KK s:=by
  have h:Lib.trimS s ([32,9,10,13]:pF)=[]↔KK s=true:=by
    unfold Lib.trimS Lib.trimLeftS Lib.trimRightS;rw[aAz]
    have h2:((s.reverse.dropWhile (([32,9,10,13]:pF).contains ·)).reverse).all (([32,9,10,13]:pF).contains ·)=true↔s.reverse.dropWhile (([32,9,10,13]:pF).contains ·)=[]:=by
      rw[List.all_reverse];constructor
      · intro h
        cases hq:s.reverse.dropWhile (([32,9,10,13]:pF).contains ·) with
        |nil=>rfl
        | cons b r=>
          have hb:=List.head?_dropWhile_not (([32,9,10,13]:pF).contains ·) s.reverse;rw[hq] at hb h;simp only[List.head?_cons,List.all_cons,aU6] at hb h;rw[h.1] at hb;cases hb
      .intro h;rw[h];rfl
    rw[h2,aAz,List.all_reverse];rfl
  cases hb:KK s with
  |true=>exact aVk (h.2 hb)
  |false=>exact decide_eq_false fun hh=>by rw[h.1 hh] at hb;cases hb
def BP (b:UInt8):Bool:=decide ((97:Int)≤(b.toNat:Int))&&decide ((b.toNat:Int)≤122)
def tK (s:pF):Nat:=(s.findIdx? fun b=> !BP b).getD s.length
theorem UA (s:pF):tK s≤s.length:=by
  unfold tK;cases h:s.findIdx? fun b=> !BP b with
  |none=>exact aVi _
  |some k=>exact Nat.le_of_lt (aVL.1 h).1
theorem aAA {s:pF}(hs:s.length≤1000000000):F0 s=some (s.take (tK s),s.drop (tK s)):=by
  have h:=aPM (f:=SR s) (l:=s) BP (fun i h=>by
    unfold SR;rw[aUU (fun _=>tD h),aUU (fun _=>tD h),TZ h]
    have h1:((((decide ((i:Int)<(List.length s:Int)))&&(decide ((97:Int)≤(s[i].toNat:Int))))&&(decide ((s[i].toNat:Int)≤(122:Int))))=true)=(BP s[i]=true):=by
      unfold BP;rw[uZ h,Bool.true_and]
    simp only[h1];rw[aUU (vP pI)]) (by
    unfold SR;have h0:decide ((s.length:Int)<(s.length:Int))=false:=by simp
    rw[h0];rw[aUU (fun h=>by cases h),aUU (fun h=>by cases h)];rfl)
  have hle:=UA s;unfold F0;rw[h];unfold sU;rw[aUS];show (if 0≤(0:Int)∧(0:Int)≤(tK s:Int)∧(tK s:Int)≤(s.length:Int) then(if 0≤(tK s:Int)∧(tK s:Int)≤(s.length:Int)∧(s.length:Int)≤(s.length:Int) then some (sF s 0 (tK s:Int),sF s (tK s:Int) (s.length:Int)) else none) else none)=_;rw[aUU ⟨pI,pI,pI⟩,aUU ⟨pI,pI,pI⟩,YS,PR]
def DE (s:pF):pF×pF×Bool:=if 0≤Lib.indexByte s 34 then(s.take (Lib.indexByte s 34).toNat,s.drop ((Lib.indexByte s 34).toNat+1),true) else(s,[],false)
theorem aQD {s:pF}(hs:s.length≤1000000000):I5 s [34]=some (DE s):=by
  have hi:z6 s [34]=Lib.indexByte s 34:=Lib.index_one s 34;have hr:=Q0 s 34;unfold I5 JW DE;rw[hi,aUU pI];by_cases h:0≤Lib.indexByte s 34
  · rw[aUU (aVk h),aUU ⟨pI,h,pI⟩,aUU (by simp;unfold qG;omega),aUU ⟨by simp;omega,by simp;omega,aVY _⟩,aUU h]
    unfold sF;simp only[aUS,aUY,aU7];rw[aVD];have e1:(Lib.indexByte s 34+((0+1:Nat):Int)).toNat=(Lib.indexByte s 34).toNat+1:=by omega
    rw[e1];have e2:(s.drop ((Lib.indexByte s 34).toNat+1)).take (s.length- ((Lib.indexByte s 34).toNat+1))=s.drop ((Lib.indexByte s 34).toNat+1):=List.take_of_length_le (by rw[aVg];omega);rw[e2];simp
  .rw[aUX (by simpa using h),aUX h];rfl
def IK (s:pF):Option (pF×pF×pF):=
  if tK s=0 then none else
  if (xL (s.drop (tK s)) [61,34]).2=false then none else
  if (DE (xL (s.drop (tK s)) [61,34]).1).2.2=false then none else
  match xX (DE (xL (s.drop (tK s)) [61,34]).1).1 with
  |some v=>some (s.take (tK s),v,(DE (xL (s.drop (tK s)) [61,34]).1).2.1)
  |none=>none
theorem aJo (s p:pF):(xL s p).1.length≤s.length:=by
  unfold xL;split
  .rw[aVg];omega
  .exact aVi _
theorem aJp (s:pF):(DE s).1.length≤s.length∧(DE s).2.1.length≤s.length:=by
  unfold DE;split
  .rw[aVj,aVg];exact⟨pI,pI⟩
  .exact⟨aVi _,by simp⟩
theorem aQE {s:pF}(hs:s.length≤1000000000): ∃r,GJ s=some r∧r.2.2.1.length≤s.length∧(match IK s with
    |some (n,v,rest)=>r=(n,v,rest,true)
    |none=>r.2.2.2=false):=by
  have hw:=aAA hs;have h1:=aJo (s.drop (tK s)) [61,34];rw[aVg] at h1;have h2:=aJp (xL (s.drop (tK s)) [61,34]).1;obtain⟨t,ht1,ht2⟩:=aJl (s:=(DE (xL (s.drop (tK s)) [61,34]).1).1) pI;unfold GJ;rw[hw,aUS,Z8,aUS,aQD (by show (xL (s.drop (tK s)) [61,34]).1.length≤1000000000;omega),aUS,ht1,aUS];refine⟨_,rfl,by dsimp only;omega,?_⟩;unfold IK
  have hk:(s.take (tK s)=[])↔tK s=0:=by
    have:=UA s;constructor
    · intro h
      have:=aVc List.length h;rw[aVj] at this;simp only[aU7] at this;omega
    .intro h;rw[h];rfl
  by_cases c1:tK s=0
  · rw[aUU c1]
    simp [hk.2 c1]
  · rw[aUX c1]
    have c1':(!decide (s.take (tK s)=[]))=true:=by simp only[aVo,aVE];exact fun h=>c1 (hk.1 h)
    cases c2:(xL (s.drop (tK s)) [61,34]).2 with
    |false=>simp
    | true=>
      rw[aUX pJ];cases c3:(DE (xL (s.drop (tK s)) [61,34]).1).2.2 with
      |false=>simp
      | true=>
        rw[aUX pJ];cases c4:xX (DE (xL (s.drop (tK s)) [61,34]).1).1 with
        |none=>simp
        | some v=>
          dsimp only;rw[ht2 v c4,c1'];rfl
abbrev xY:=Int×pF×List sB×Bool
def E7:Nat→pF→List sB→Bool→Option (List sB×Bool)
  |0,_,_,_=>none
  | n+1,s,l,tw=>if s.dropWhile blk=[] then some (l,tw) else
    match IK (s.dropWhile blk) with
    |none=>none
    |some (a,v,rest)=>if (s.dropWhile blk).length=s.length then none else E7 n rest (l++[(a,v,())]) (tw||l.any fun x=>decide (x.1=a))
def CE (t:pF):Option xY:=
  if ((t.drop 1).take (t.length-2)).take 1=[47] then
    (if tK (((t.drop 1).take (t.length-2)).drop 1)=0∨KK ((((t.drop 1).take (t.length-2)).drop 1).drop (tK (((t.drop 1).take (t.length-2)).drop 1)))=false then none
     else some (3,(((t.drop 1).take (t.length-2)).drop 1).take (tK (((t.drop 1).take (t.length-2)).drop 1)),[],false))
  else
    (fun(u:pF×Int)=>if tK u.1=0 then none else(E7 (u.1.length+1) (u.1.drop (tK u.1)) [] false).map fun r=>(u.2,u.1.take (tK u.1),r.1,r.2))
      (if ((t.drop 1).take (t.length-2)).drop (t.length-3)=[47] then(((t.drop 1).take (t.length-2)).take (t.length-3),2) else((t.drop 1).take (t.length-2),1))
theorem aJq {α:Type}(p:α→Bool) (l:List α):(l.dropWhile p).length≤l.length:=(List.dropWhile_suffix p).length_le
theorem aQF (l:List sB) (a:pF) (v:pF) (hl:rZ l):JZ l (a,(v,()))=some (l.any fun x=>decide (x.1=a)):=by
  unfold rZ at hl
  have h:=E4 (f:=T0 l (a,(v,()))) (l:=l) (fun x=>decide (x.1=a)) (fun k=>(k:Int)) (fun i h=>by
    unfold T0;rw[aUU (uZ h),aUU (tD h),AD (t:= .pair .str (.pair .str .unit)) h,aUU (vP pI)]) (by
    unfold T0;rw[aUX (vV _)])
  unfold JZ OZ;rw[h,KF];show some (decide _)=_;rw[PP]
theorem aJr {form:Int}{w:pF×pF}(hw:w.1≠[]): ∀(n:Nat) (s:pF) (l:List sB) (tw:Bool),s.length<n→s.length+l.length≤1000000000→
    ∃ r,rQ (GK form w) (s,l,tw)=some r∧(match E7 n s l tw with
      |some (l',tw')=>r= .inr (form,w.1,l',tw',true)
      |none=>r= .inl ())
  |0,s,_,_,h,_=>by omega
  | n+1,s,l,tw,h,hb=>by
    have hd:=aJq blk s;have hn:(!decide (w.1=([]:pF)))=true:=by simpa using hw
    unfold E7;by_cases h0:s.dropWhile blk=[]
    · rw[aUU h0]
      refine⟨_,uU ?_,rfl⟩;unfold GK;dsimp only;rw[ZA,aUU hn,aUU (aVk h0)]
    · rw[aUX h0]
      obtain⟨r,hr1,hr2,hr3⟩:=aQE (s:=s.dropWhile blk) pI;cases ha:IK (s.dropWhile blk) with
      | none=>
        rw[ha] at hr3;refine⟨_,uU ?_,rfl⟩;unfold GK;dsimp only;rw[ZA,aUU hn,aUX (by simpa using h0),hr1,aUS,aUU (by rw[hr3];rfl)]
      | some x=>
        obtain⟨a,v,rest⟩:=x;rw[ha] at hr3;dsimp only at hr3;subst hr3;dsimp only at hr2|-;by_cases hl:(s.dropWhile blk).length=s.length
        · rw[aUU hl]
          refine⟨_,uU ?_,rfl⟩;unfold GK;dsimp only;rw[ZA,aUU hn,aUX (by simpa using h0),hr1,aUS,aUU (by simp [hl])]
        · rw[aUX hl]
          have hc:=aQF l a v (by unfold rZ;omega)
          have hst:GK form w (s,l,tw)=some (.inl (rest,l++[(a,v,())],tw||l.any fun x=>decide (x.1=a))):=by
            unfold GK;dsimp only;rw[ZA,aUU hn,aUX (by simpa using h0),hr1,aUS,aUX pL,hc];cases tw with
            | false=>
              rw[aUU pJ,aUU (show ((false==false)=true→(some (l.any fun x=>decide (x.1=a))).isSome=true) from fun _=>rfl),aUU pL];rfl
            | true=>
              rw[aUX pJ,aUU pL];rfl
          have hrl:rest.length<s.length:=by omega
          obtain⟨r,e1,e2⟩:=aJr hw n rest (l++[(a,v,())]) (tw||l.any fun x=>decide (x.1=a)) pI pL
          exact⟨r,by rw[vT hst];exact e1,e2⟩
theorem aQG (s:pF) (hs:s.length≤1000000000):K8 s [47]=some (if s.drop (s.length-1)=[47] then(s.take (s.length-1),true) else(s,false)):=by
  have hi:qG ((s.length:Int)- ((1:Nat):Int)):=by unfold qG;omega
  unfold K8 MJ SU;simp only[aUY,aU7,aVx];rw[aUU (fun _=>hi),aUU (fun h=>⟨by simp at h;omega,pI,aVY _⟩),aUS];by_cases h0:s=[]
  .subst h0;rfl
  · have hp:1≤s.length:=aVp.2 h0
    have e:(s.length:Int)- ((1:Nat):Int)=((s.length-1:Nat):Int):=by omega
    rw[e,PR,YS];have h1:decide (((1:Nat):Int)≤(s.length:Int))=true:=by simp;omega
    rw[h1,Bool.true_and];by_cases h:s.drop (s.length-1)=[47]
    .rw[aUX (by simp [h]),aUU (by unfold qG;omega),aUU ⟨pI,pI,pI⟩,aUU h];rfl
    .rw[aUU (by simp [h]),aUX h];rfl
theorem aQH {t:pF}(h2:2≤t.length) (ht:t.length≤1000000000):FE t=some (match CE t with
    |some x=>(x.1,x.2.1,x.2.2.1,x.2.2.2,true)
    |none=>(0,[],[],false,false)):=by
  have hc:sF t (1:Int) ((t.length:Int)-1)=(t.drop 1).take (t.length-2):=by
    unfold sF;rw[show ((t.length:Int)-1).toNat- (1:Int).toNat=t.length-2 by omega];rfl
  have hl:((t.drop 1).take (t.length-2)).length=t.length-2:=by rw[aVj,aVg];omega
  unfold FE;rw[aUU (by unfold qG;omega),aUU ⟨pI,pI,pI⟩,hc,Z8,aUS];unfold CE;have e3:t.length-3=((t.drop 1).take (t.length-2)).length-1:=by rw[hl];omega
  rw[e3];generalize (t.drop 1).take (t.length-2)=s at hl|-;unfold xL;by_cases h47:s.take 1=[47]
  · rw[aUU (show s.take ([47]:pF).length=[47] from h47),aUU h47]
    have hw:=aAA (s:=s.drop 1) (by rw[aVg];omega);have hle:=UA (s.drop 1);show (if true=true then _ else _)=_;rw[aUU rfl];show (F0 (s.drop 1)).bind _=_;rw[hw,aUS];dsimp only;rw[aUU (fun _=>⟨pJ,pJ⟩),aUU (fun _=>by rw[aVg,aVg];omega),aJn]
    have hk:((s.drop 1).take (tK (s.drop 1))=[])↔tK (s.drop 1)=0:=by
      constructor
      · intro h
        have:=aVc List.length h;rw[aVj] at this;simp only[aU7] at this;omega
      .intro h;rw[h];rfl
    by_cases c:tK (s.drop 1)=0∨KK ((s.drop 1).drop (tK (s.drop 1)))=false
    · rw[aUU c,aUU]
      rcases c with c|c
      .rw[aVk (hk.2 c)];rfl
      .rw[c];simp
    · rw[aUX c,aUX]
      simp only[aV5,aU8,aVo,not_or];exact⟨fun h=>c (.inl (hk.1 h)),fun h=>c (.inr h)⟩
  · rw[aUX (show¬s.take ([47]:pF).length=[47] from h47),aUX h47]
    show (if false=true then _ else _)=_;rw[aUX pJ,aQG s pI,aUS]
    obtain⟨u,hu1,hu2,hu3⟩: ∃u:pF×Int,sU (σ:=(pF×Int)) (
      if (if s.drop (s.length-1)=[47] then(s.take (s.length-1),true) else(s,false)).2=true then
       some (((if s.drop (s.length-1)=[47] then(s.take (s.length-1),true) else(s,false)).1,(2:Int)))
      else
       some ((s,(1:Int)))) (fun u=>some u)=some u∧(if s.drop (s.length-1)=[47] then(s.take (s.length-1),(2:Int)) else(s,1))=u∧u.1.length≤s.length:=by
      by_cases h:s.drop (s.length-1)=[47]
      · simp only[aUU h]
        exact⟨_,rfl,rfl,by rw[aVj];omega⟩
      · simp only[aUX h]
        exact⟨_,rfl,rfl,aVi _⟩
    rw[hu2];unfold sU at hu1|-
    generalize (if (if s.drop (s.length-1)=[47] then(s.take (s.length-1),true) else(s,false)).2=true then
       some (((if s.drop (s.length-1)=[47] then(s.take (s.length-1),true) else(s,false)).1,(2:Int)))
      else
       some ((s,(1:Int))))=o at hu1|-
    cases o with
    |none=>cases hu1
    | some u'=>
      obtain rfl:u'=u:=aUZ hu1;rw[aUS];obtain⟨v,form⟩:=u';dsimp only at hu3|-;have hw:=aAA (s:=v) pI;have hle:=UA v
      have hk:(v.take (tK v)=[])↔tK v=0:=by
        constructor
        · intro h
          have:=aVc List.length h;rw[aVj] at this;simp only[aU7] at this;omega
        .intro h;rw[h];rfl
      rw[hw,aUS];by_cases c:tK v=0
      · rw[aUU c]
        have hst:GK form (v.take (tK v),v.drop (tK v)) (v.drop (tK v),[],false)=some (.inr (.inl ())):=by
          unfold GK;dsimp only;rw[aUX (by simp [hk.2 c])]
        dsimp only;rw[uU hst];rfl
      · rw[aUX c]
        obtain⟨r,e1,e2⟩:=aJr (form:=form) (w:=(v.take (tK v),v.drop (tK v))) (fun h=>c (hk.1 h)) (v.length+1) (v.drop (tK v)) [] false (by rw[aVg];omega) (by rw[aVg];simp;omega);dsimp only at e1|-;rw[e1];cases ha:E7 (v.length+1) (v.drop (tK v)) [] false with
        | none=>
          rw[ha] at e2;dsimp only at e2;subst e2;rfl
        | some x=>
          obtain⟨l',tw'⟩:=x;rw[ha] at e2;dsimp only at e2;subst e2;rfl
end
noncomputable section
abbrev tH:=Int×pF×Int×Unit
abbrev TE:=Int×pF
def er (t:tH):TE:=(t.1,t.2.1)
structure wX (l:List tH):Prop where
  ne:l≠[]
  txt: ∀t∈l,t.2.1.length≤1000000000
  pos: ∀t∈l,0≤t.2.2.1∧t.2.2.1≤1000000000
  tag: ∀t∈l,t.1=2→2≤t.2.1.length
  last: ∀t,l.getLast? =some t→t.1=0∨t.1=4
  len:l.length≤1000000000
theorem wX.drop {l:List tH}(h:wX l) {k:Nat}(hk:k<l.length):wX (l.drop k):=by
  have hs:=List.drop_subset k l;refine⟨fun e=> ?_,fun t ht=>h.txt t (hs ht),fun t ht=>h.pos t (hs ht),fun t ht=>h.tag t (hs ht),fun t ht=> ?_,by rw[aVg];have:=h.len;omega⟩
  · have:=aVc List.length e
    rw[aVg,aU7] at this;omega
  · refine h.last t ?_
    rw[List.getLast?_drop,aUX pI] at ht;exact ht
theorem wX.head {l:List tH}(h:wX l): ∃t r,l=t::r:=by
  cases l with
  |nil=>exact absurd rfl h.ne
  |cons t r=>exact⟨t,r,rfl⟩
def uW (l' l:List tH):Prop:= ∃k,k<l.length∧l'=l.drop k
theorem uW.refl {l:List tH}(h:wX l):uW l l:=⟨0,aVp.2 h.ne,rfl⟩
theorem uW.trans {a b c:List tH}(h:uW a b) (k:uW b c):uW a c:=by
  obtain⟨i,hi,rfl⟩:=h;obtain⟨j,hj,rfl⟩:=k;rw[aVg] at hi;exact⟨j+i,pI,by rw[aWA]⟩
theorem uW.ok {a b:List tH}(h:uW a b) (hb:wX b):wX a:=by
  obtain⟨i,hi,rfl⟩:=h;exact hb.drop hi
theorem uW.le {a b:List tH}(h:uW a b):a.length≤b.length:=by
  obtain⟨i,hi,rfl⟩:=h;rw[aVg];omega
theorem KL {t:tH}{r:List tH}:qR (.pair (.int .i64) (.pair .str (.pair (.int .i64) .unit))) (t::r) (0:Int)=t:=rfl
theorem GQ {t:tH}{r:List tH}:0≤(0:Int)∧(0:Int)<((t::r).length:Int):=⟨aVY _,by simp only[aUY];omega⟩
section
variable {l:List tH}(hl:wX l) (a e:Int) (c:sR) (en:pO×Unit) (m:pM)
include hl
def x9 (l:List tH) (e:Int):List tH:=if e=0∧1<l.length then l.drop 1 else l
theorem KM:uW (x9 l e) l:=by
  unfold x9;split
  .rename_i h;exact⟨1,h.2,rfl⟩
  .exact uW.refl hl
theorem FI:y9 l a e c en m=some (x9 l e):=by
  obtain⟨t,r,rfl⟩:=hl.head;have h1:=hl.txt t aU2;have h2:=hl.pos t aU2;unfold y9 x9;rw[aUU GQ,aUU GQ,KL,aUU (by unfold qG;omega)];by_cases h:e=0∧1<(t::r).length
  · have h':(decide (e=0)&&decide ((1:Int)<((t::r).length:Int)))=true:=by
      rw[aVk h.1,Bool.true_and];exact aVk pI
    have e1:=PR (l:=t::r) (k:=1);rw[aUU h',aUU ⟨pJ,pI,aVY _⟩,aUU h];exact aVc some e1
  · rw[aUX,aUX h]
    simp only[aU6,aU8];exact fun hh=>h ⟨hh.1,pI⟩
def E8 (l:List tH) (a e code:Int):Int×Int:=if e=0 then((qR (.pair (.int .i64) (.pair .str (.pair (.int .i64) .unit))) l 0).2.2.1,code) else(a,e)
theorem KN (code:Int):zT l a e c en code m=some (E8 l a e code):=by
  obtain⟨t,r,rfl⟩:=hl.head;unfold zT E8;by_cases h:e=0
  .rw[aUU (aVk h),aUU GQ,aUU h]
  .rw[aUX (by simpa using h),aUX h]
omit hl in
theorem GR {code:Int}(hc:code≠0):(E8 l a e code).2≠0:=by
  unfold E8;split
  .exact hc
  .assumption
omit hl in
theorem aAB {code:Int}(he:e≠0):E8 l a e code=(a,e):=aUX he
def AF (l:List tH) (a e:Int) (w t m:Bool):Int×Int:=if w=true then E8 l a e 3 else if t=true then E8 l a e 9 else if m=true then E8 l a e 6 else(a,e)
theorem CF (w t u:Bool):xU l a e c en w t u m=some (AF l a e w t u):=by
  unfold xU AF;rw[KN hl,KN hl,KN hl];cases w<;>cases t<;>cases u<;>rfl
omit hl in
theorem GS (w t u:Bool):(AF l a e w t u).2=0↔(e=0∧w=false∧t=false∧u=false):=by
  have h3:=GR (l:=l) a e (code:=3) pJ;have h9:=GR (l:=l) a e (code:=9) pJ;have h6:=GR (l:=l) a e (code:=6) pJ;unfold AF;cases w<;>cases t<;>cases u<;>simp_all
omit hl in
theorem aJs (he:e≠0) (w t u:Bool):AF l a e w t u=(a,e):=by
  unfold AF;rw[aAB _ _ he,aAB _ _ he,aAB _ _ he];cases w<;>cases t<;>cases u<;>rfl
def vO (t:TE):Bool:=decide (t.1=1)||(decide (t.1=3)&&KK t.2)
def rD (l:List TE):List TE:=l.dropWhile vO
def tN (l:List tH):List tH:=l.dropWhile fun t=>vO (er t)
omit hl in
theorem Q1 (l:List tH):(tN l).map er=rD (l.map er):=by
  unfold tN rD;rw[List.dropWhile_map];rfl
omit hl in
theorem KO: ∀{l:List tH},wX l→uW (tN l) l
  |[],h=>absurd rfl h.ne
  | [t],h=>by
    have:=h.last t rfl;unfold tN;rw[List.dropWhile_cons,aUX]
    .exact⟨0,by simp,rfl⟩
    · unfold vO er
      rcases this with h0|h0<;>simp [h0]
  | t::u::r,h=>by
    unfold tN;rw[List.dropWhile_cons];split
    · have h1:=h.drop (k:=1) pK
      obtain⟨k,hk,e⟩:=KO h1;exact⟨k+1,by simp only[aUY,aWR,aWc] at hk|-;omega,e⟩
    .exact⟨0,by simp,rfl⟩
theorem aJt (e:Int): ∀(n:Nat) (l:List tH),wX l→l.length≤n→rQ (T7 a e c en m) l=some (if e=0 then tN l else l)
  | 0,l,h,hn=>by
    have:=aVp.2 h.ne;omega
  | n+1,l,h,hn=>by
    obtain⟨t,r,rfl⟩:=h.head;have h1:=h.txt t aU2
    have hcond:((decide (e=(0:Int)))&&((decide (t.1=(1:Int)))||((decide (t.1=(3:Int)))&&(decide ((Lib.trimS (t.2.1) ([32,9,10,13]:pF))=([]:pF))))))=(decide (e=0)&&vO (er t)):=by
      rw[aJn];rfl
    have hst:T7 a e c en m (t::r)=if (decide (e=0)&&vO (er t))=true then some (.inl (x9 (t::r) e)) else some (.inr (t::r)):=by
      unfold T7;rw[aUU (fun _=>GQ),aUU (fun _=>GQ),aUU (fun _=>GQ),aUU (fun _=>⟨pJ,pJ⟩),aUU (fun _=>by rw[KL];omega),KL,hcond,FI h];rfl
    by_cases he:e=0
    · rw[aUU he]
      by_cases hg:vO (er t)=true
      · rw[aUU (by simp [he,hg])] at hst
        have hr:r≠[]:=by
          rintro rfl;have:=h.last t rfl;unfold vO er at hg;rcases this with h0|h0<;>simp [h0] at hg
        have hs:x9 (t::r) e=r:=by
          unfold x9;rw[aUU ⟨he,by have:=aVp.2 hr;simp only[aUY];omega⟩];rfl
        rw[hs] at hst;have h2:=h.drop (k:=1) (by have:=aVp.2 hr;simp only[aUY];omega);rw[vT hst,aJt e n r h2 (by simp only[aUY] at hn;omega),aUU he];unfold tN;rw[List.dropWhile_cons,aUU hg]
      · rw[aUX (by simp [hg])] at hst
        rw[uU hst];unfold tN;rw[List.dropWhile_cons,aUX hg]
    · rw[aUX he]
      rw[aUX (by simp [he])] at hst;exact uU hst
theorem CG:AB l a e c en m=some (if e=0 then tN l else l):=by
  unfold AB;rw[aJt hl a c en m e l.length l hl (aVi _)];rfl
def eN:xY:=(0,[],[],false)
def vQ (t:TE):xY:=if t.1=2 then(CE t.2).getD eN else eN
def rR:List TE→xY
  |[]=>eN
  |t::_=>vQ t
theorem CH:AV l a e c en m=some (if e=0 then rR (l.map er) else eN):=by
  obtain⟨t,r,rfl⟩:=hl.head;have h1:=hl.txt t aU2;unfold AV;rw[aUU (fun _=>GQ),KL];by_cases he:e=0
  · rw[aUU he]
    show _=some (vQ (er t));unfold vQ er;by_cases h2:t.1=2
    · have h3:=hl.tag t aU2 h2
      rw[aUX (by simp [he,h2]),aUU GQ,aQH h3 h1,aUS,aUU h2];cases CE t.2.1 with
      |none=>rfl
      |some x=>rfl
    .rw[aUU (by simp [h2]),aUX h2];rfl
  .rw[aUX he,aUU (by simp [he])];rfl
def uX (name:pF):List TE→Option (List TE)
  |[]=>none
  |t::r=>if (vQ t).1=3∧(vQ t).2.1=name then some r else none
structure LQ (l l':List tH) (e e':Int):Prop where
  suf:uW l' l
  bad:e≠0→e'≠0
omit hl in
theorem UB {t:TE}(h:(vQ t).1≠0):t.1=2:=by
  unfold vQ at h;by_cases h2:t.1=2
  .exact h2
  .rw[aUX h2] at h;exact absurd rfl h
omit hl in
theorem wX.more {t:tH}{r:List tH}(h:wX (t::r)) (h2:t.1=2∨t.1=3∨t.1=1):1<(t::r).length:=by
  cases r with
  | nil=>
    have:=h.last t rfl;omega
  |cons u r=>simp
theorem Q2 (name:pF): ∃l' a' e',BM l a e c en name m=some (l',a',e')∧LQ l l' e e'∧(e=0→match uX name (l.map er) with
    |some r=>e'=0∧l'.map er=r
    |none=>e'≠0):=by
  unfold BM;rw[CH hl,aUS];by_cases he:e=0
  · subst he
    rw[aUU rfl];obtain⟨t,r,rfl⟩:=hl.head;show∃l' a' e',(if ((!decide ((vQ (er t)).1=(3:Int)))||(!decide ((vQ (er t)).2.1=name)))=true then _ else _)=_∧_
    show∃l' a' e',_∧_∧((0:Int)=0→match (if (vQ (er t)).1=3∧(vQ (er t)).2.1=name then some (r.map er) else none) with|some r=>_|none=>_)
    by_cases h:(vQ (er t)).1=3∧(vQ (er t)).2.1=name
    · have h2:t.1=2:=UB (t:=er t) (by rw[h.1];decide)
      rw[aUX (by simp [h.1,h.2]),aUU h];rw[FI hl,aUS]
      have hs:x9 (t::r) 0=r:=by
        unfold x9;rw[aUU ⟨rfl,hl.more (.inl h2)⟩];rfl
      exact⟨_,_,_,rfl,⟨KM hl 0,fun h0=>absurd rfl h0⟩,fun _=>⟨rfl,by rw[hs]⟩⟩
    · rw[aUU,aUX h,KN hl,aUS,FI hl,aUS]
      .exact⟨_,_,_,rfl,⟨KM hl _,fun h0=>absurd rfl h0⟩,fun _=>GR _ _ pJ⟩
      · simp only[aV5,aVo,aVE]
        exact(Decidable.not_and_iff_not_or_not.1 h)
  · rw[aUX he,aUU (by simp [eN]),KN hl,aUS,FI hl,aUS]
    exact⟨_,_,_,rfl,⟨KM hl _,fun _=>GR _ _ pJ⟩,fun h=>absurd h he⟩
def yC (x:xY):List TE→Option (pF×List TE)
  |[]=>none
  | _::r=>if x.1=2 then some ([],r) else
    match r with
    |[]=>none
    | u ::r2=>if u.1=3 then(match xX u.2 with
        |some s=>(uX x.2.1 r2).map fun q=>(s,q)
        |none=>none) else(uX x.2.1 (u::r2)).map fun q=>([],q)
theorem UC (x:xY) (hx:e=0→∃t r,l=t::r∧t.1=2): ∃s l' a' e',BN l a e c en (x.1,(x.2.1,(x.2.2.1,(x.2.2.2,())))) m=some (s,l',a',e')∧LQ l l' e e'∧s.length≤5000000000∧(e=0→match yC x (l.map er) with
    |some (s',r)=>e'=0∧l'.map er=r∧s=s'∧l'.length<l.length
    |none=>e'≠0):=by
  unfold BN;rw[FI hl,aUS];have hs1:=KM hl e;have hl1:=hs1.ok hl;by_cases h2:x.1=2
  · rw[aUU (aVk h2)]
    refine⟨_,_,_,_,rfl,⟨hs1,id⟩,by simp,fun he=> ?_⟩;obtain⟨t,r,rfl,ht⟩:=hx he
    have hs:x9 (t::r) e=r:=by
      unfold x9;rw[aUU ⟨he,hl.more (.inl ht)⟩];rfl
    have hc:yC x ((t::r).map er)=some ([],r.map er):=by
      show (if x.1=2 then some (([]:pF),r.map er) else _)=_;rw[aUU h2]
    rw[hc];exact⟨he,by rw[hs],rfl,by rw[hs];simp⟩
  · rw[aUX (by simpa using h2)]
    obtain⟨u,r2,hu⟩:=hl1.head;rw[hu] at hs1 hl1|-;rw[aUU GQ,KL]
    have hcl:e=0→∃t,l=t::u::r2:=fun he=>by
      obtain⟨t,r,rfl,ht⟩:=hx he
      have hs:x9 (t::r) e=r:=by
        unfold x9;rw[aUU ⟨he,hl.more (.inl ht)⟩];rfl
      rw[hs] at hu;exact⟨t,by rw[hu]⟩
    by_cases h3:u.1=3
    · have h1:=hl1.txt u aU2
      obtain⟨s,e1,e2⟩:=aJl h1
      have hsl:s.length≤5000000000:=by
        obtain⟨r,hr,hm⟩:=aJk (s:=u.2.1) (by unfold rZ;omega);unfold GI at e1;rw[hr,aUS] at e1;split at e1
        · have e3:=aVc Prod.fst (aUZ e1)
          dsimp only at e3;rw[←e3];cases hun:yP u.2.1.length u.2.1 with
          |none=>rw[hun] at hm;rw[hm.1];simp
          | some y=>
            rw[hun] at hm;dsimp only at hm;rw[hm];have:=Z9 _ _ _ (by unfold rZ;omega) hun;dsimp only;omega
        .cases e1
      rw[aUU (aVk h3),aUU GQ,e1,aUS]
      obtain⟨q,hq1,hq2,hq3⟩: ∃q:Int×Int,sU (σ:=(Int×Int)) (if (!(xX u.2.1).isSome)=true then
        (zT (u::r2) a e (c.1,(c.2.1,(c.2.2.1,(c.2.2.2.1,())))) (en.1,()) (3:Int) m).bind fun O=>some ((O.1,O.2))
       else some ((a,e))) (fun q=>some q)=some q∧(e≠0→q.2≠0)∧(e=0→if (xX u.2.1).isSome=true then q.2=0 else q.2≠0):=by
        cases(xX u.2.1).isSome with
        |true=>exact⟨_,rfl,id,id⟩
        | false=>
          rw[aUU pJ,KN hl1];refine⟨_,rfl,fun _=>GR _ _ pJ,fun _=> ?_⟩;rw[aUX pJ];exact GR _ _ pJ
      unfold sU at hq1|-
      generalize (if (!(xX u.2.1).isSome)=true then
        (zT (u::r2) a e (c.1,(c.2.1,(c.2.2.1,(c.2.2.2.1,())))) (en.1,()) (3:Int) m).bind fun O=>some ((O.1,O.2))
       else some ((a,e)))=o at hq1|-
      cases o with
      |none=>cases hq1
      |some q'=>
      obtain rfl:q'=q:=aUZ hq1;clear hq1;obtain⟨a1,e3⟩:=q';dsimp only at hq2 hq3;rw[aUS];dsimp only;rw[FI hl1,aUS];have hs2:=KM hl1 e3;have hl2:=hs2.ok hl1;obtain⟨l3,a3,e4,h4,p4,m4⟩:=Q2 hl2 a1 e3 (c.1,(c.2.1,(c.2.2.1,(c.2.2.2.1,())))) (en.1,()) m x.2.1;rw[h4,aUS];refine⟨_,_,_,_,rfl,⟨(p4.suf.trans hs2).trans hs1,fun he=>p4.bad (hq2 he)⟩,hsl,fun he=> ?_⟩;obtain⟨t,ht⟩:=hcl he;rw[ht]
      show match (if x.1=2 then some ([],(u::r2).map er) else if u.1=3 then(match xX u.2.1 with
        |some s=>(uX x.2.1 (r2.map er)).map fun q=>(s,q)
        |none=>none) else(uX x.2.1 ((u::r2).map er)).map fun q=>([],q)) with|some (s',q)=>_|none=>_
      rw[aUX h2,aUU h3];have hq3':=hq3 he;cases htx:xX u.2.1 with
      | none=>
        rw[htx] at hq3';exact p4.bad (by simpa using hq3')
      | some y=>
        rw[htx] at hq3';have he3:e3=0:=by simpa using hq3'
        have hst:x9 (u::r2) e3=r2:=by
          unfold x9;rw[aUU ⟨he3,hl1.more (.inr (.inl h3))⟩];rfl
        have m4':=m4 he3;rw[hst] at m4' p4;dsimp only;cases hnd:uX x.2.1 (r2.map er) with
        |none=>rw[hnd] at m4';exact m4'
        | some q=>
          rw[hnd] at m4';exact⟨m4'.1,m4'.2,e2 y htx,by have:=p4.suf.le;simp only[aUY];omega⟩
    · rw[aUX (by simpa using h3)]
      obtain⟨l3,a3,e4,h4,p4,m4⟩:=Q2 hl1 a e (c.1,(c.2.1,(c.2.2.1,(c.2.2.2.1,())))) (en.1,()) m x.2.1;rw[h4,aUS];refine⟨_,_,_,_,rfl,⟨p4.suf.trans hs1,p4.bad⟩,by simp,fun he=> ?_⟩;obtain⟨t,ht⟩:=hcl he;rw[ht]
      show match (if x.1=2 then some ([],(u::r2).map er) else if u.1=3 then(match xX u.2.1 with
        |some s=>(uX x.2.1 (r2.map er)).map fun q=>(s,q)
        |none=>none) else(uX x.2.1 ((u::r2).map er)).map fun q=>([],q)) with|some (s',q)=>_|none=>_
      rw[aUX h2,aUX h3];have m4':=m4 he;cases hnd:uX x.2.1 ((u::r2).map er) with
      |none=>rw[hnd] at m4';exact m4'
      | some q=>
        rw[hnd] at m4';exact⟨m4'.1,m4'.2,rfl,by have:=p4.suf.le;simp only[aUY] at this|-;omega⟩
end
end
noncomputable section
theorem aJu {σ ρ:Type}{f:σ->Option (σ⊕ρ)}{x:σ}(h:f x=none):rQ f x=none:=by rw[GL,h];rfl
theorem aJv (a b:pF) (y:pF): ∀l:List (pF×pF),vW .str .str (tY .str .str a y l) b=(decide (a=b)||vW .str .str l b)
 |[]=>by
  show (if decide (b=a)=true then true else false)=(decide (a=b)||false)
  by_cases h:b=a
  .simp [h]
  .have: ¬a=b:=fun e=>h e.symm;simp [h,this]
 |(x,z)::r=>by
  have ih:=aJv a b y r;show vW .str .str (if decide (a=x)=true then(a,y)::r else(x,z)::tY .str .str a y r) b=(decide (a=b)||(if decide (b=x)=true then true else vW .str .str r b))
  by_cases h:a=x
  .subst h;rw[aUU pK];show (if decide (b=a)=true then true else vW .str .str r b)=_;by_cases hb:b=a
   .simp [hb]
   .have: ¬a=b:=fun e=>hb e.symm;simp [hb,this]
  .rw[aUX (by simpa using h)];show (if decide (b=x)=true then true else vW .str .str (tY .str .str a y r) b)=_;rw[ih];by_cases hb:b=x
   .simp [hb]
   .simp [hb]
def N1 (m:List (pF×pF)) (a:sB):List (pF×pF):=tY .str .str a.1 a.2.1 m
def GT (l:List sB):List (pF×pF):=l.foldl N1 []
def sC (l:List sB) (n:pF):pF:=l.foldl (fun v a=>if n=a.1 then a.2.1 else v) []
theorem aJw (n:pF): ∀(l:List sB) (m:List (pF×pF)),s9 .str .str (l.foldl N1 m) n=l.foldl (fun v a=>if n=a.1 then a.2.1 else v) (s9 .str .str m n)
 |[],_=>rfl
 |a::l,m=>by
  rw[List.foldl_cons,List.foldl_cons,aJw n l];unfold N1;rw[MY]
theorem UD (l:List sB) (n:pF):s9 .str .str (GT l) n=sC l n:=aJw n l []
theorem aJx (n:pF): ∀(l:List sB) (m:List (pF×pF)),vW .str .str (l.foldl N1 m) n=(vW .str .str m n||l.any fun a=>decide (a.1=n))
 |[],m=>by simp
 |a::l,m=>by
  rw[List.foldl_cons,aJx n l,List.any_cons];unfold N1;rw[aJv];cases decide (a.1=n)<;>cases vW .str .str m n<;>rfl
theorem aJy (l:List sB) (n:pF):vW .str .str (GT l) n=l.any fun a=>decide (a.1=n):=aJx n l []
theorem aJz {l:List sB}{n:pF}: ∀{l:List sB}{v:pF},(l.any fun a=>decide (a.1=n))=true->∃a∈l,a.1=n/\l.foldl (fun v a=>if n=a.1 then a.2.1 else v) v=a.2.1
 |[],_,h=>by cases h
 |a::l,v,h=>by
  by_cases hl:(l.any fun a=>decide (a.1=n))=true
  .obtain⟨b,h1,h2,h3⟩:=aJz (l:=l) (v:=if n=a.1 then a.2.1 else v) hl;exact⟨b,aU3 _ h1,h2,h3⟩
  .have ha:a.1=n:=by
    rw[List.any_cons,aV5] at h;rcases h with h|h
    .exact aVw h
    .exact absurd h hl
   have hno: ∀(l:List sB) (v:pF),¬(l.any fun a=>decide (a.1=n))=true->l.foldl (fun v a=>if n=a.1 then a.2.1 else v) v=v:=by
    intro l
    induction l with
    |nil=>intros;rfl
    |cons b l ih=>
     intro v hh;rw[List.any_cons,aV5,not_or] at hh;rw[List.foldl_cons,aUX (fun e=>hh.1 (aVk e.symm))];exact ih v hh.2
   refine⟨a,aU2,ha,?_⟩;rw[List.foldl_cons,aUU ha.symm];exact hno l _ hl
theorem aAC {ρ:Type}{f:(Int×List (pF×pF))->Option ((Int×List (pF×pF))⊕((List (pF×pF))⊕ρ))}{l:List sB}(p:sB->Bool) (r:Option (((List (pF×pF))⊕ρ)))
  (hf: ∀(i:Nat) (h:i<l.length) m,f ((i:Int),m)=if p l[i]=true then some (.inl ((i:Int)+1,N1 m l[i])) else r.map .inr)
  (he: ∀m,f ((l.length:Int),m)=some (.inr (.inl m))): ∀(n i:Nat) m,i+n=l.length->rQ f ((i:Int),m)=if (l.drop i).all p=true then some (.inl ((l.drop i).foldl N1 m)) else r
 |0,i,m,hi=>by
  obtain rfl:i=l.length:=by omega
  rw[aVR,uU (he m)];rfl
 |n+1,i,m,hi=>by
  have h:i<l.length:=by omega
  rw[aVA h,List.all_cons,List.foldl_cons];have hs:=hf i h m;cases hp:p l[i] with
  |true=>
   rw[hp,aUU rfl] at hs;rw[vT hs,Bool.true_and];exact aAC p r hf he n (i+1) _ pI
  |false=>
   rw[hp,aUX pJ] at hs;rw[Bool.false_and,aUX pJ];cases r with
   |none=>exact aJu hs
   |some x=>exact uU hs
def xM (l:List sB) (N F:pG):Bool:=(l.all fun a=>F.any fun x=>decide (x=a.1))&&(N.all fun n=>l.any fun a=>decide (a.1=n))
theorem aJA {α:Type}{p:α->Bool}{l:List α}:(l.any fun x=> !p x)= !(l.all p):=by
 rw[List.not_all_eq_any_not]
theorem N2 {l:List sB}{i:Nat}(h:i<l.length):qR (.pair .str (.pair .str .unit)) l (i:Int)=l[i]:=AD (t:= .pair .str (.pair .str .unit)) h
theorem Q3 (x:xY) (names opt:pF) (hx:x.2.2.1.length<=1000000000) (h1:names.length<=100) (h2:opt.length<=100) (h3:(names.all fun b=>decide (b.toNat<128))=true) (h4:(opt.all fun b=>decide (b.toNat<128))=true)
  (h5:(Lib.fields ((names++[32])++opt)).length<=1000) (h6:(Lib.fields names).length<=1000):
  wT (x.1,(x.2.1,(x.2.2.1,(x.2.2.2,())))) names opt=(if xM x.2.2.1 (Lib.fields names) (Lib.fields ((names++[32])++opt))=true then some (GT x.2.2.1) else none)/\
  (xM x.2.2.1 (Lib.fields names) (Lib.fields ((names++[32])++opt))=false->DY (x.1,(x.2.1,(x.2.2.1,(x.2.2.2,())))) names opt=some ()):=by
 obtain⟨fm,nm,l,tw⟩:=x;dsimp only at hx|-;have c1:((names++([32]:pF)).length:Int)<=9223372036854775807:=by simp;omega
 have c2:(((names++([32]:pF))++opt).length:Int)<=9223372036854775807:=by simp;omega
 have c3:(List.all ((names++([32]:pF))++opt) fun b=>decide (b.toNat<128))=true/\List.length ((names++([32]:pF))++opt)<4294967281:=by
  refine⟨?_,by simp;omega⟩;rw[List.all_append,List.all_append,h3,h4];rfl
 have c4:(List.all names fun b=>decide (b.toNat<128))=true/\List.length names<4294967281:=⟨h3,pI⟩;have hcon: ∀a,EZ (Lib.fields ((names++([32]:pF))++opt)) a=some ((Lib.fields ((names++([32]:pF))++opt)).any fun y=>decide (y=a)):=fun a=>aIx _ a (by unfold rZ;omega);have A:=aAC (f:=P0 (fm,(nm,(l,(tw,())))) names opt) (l:=l) (fun a=>(Lib.fields ((names++[32])++opt)).any fun y=>decide (y=a.1)) none (fun i h m=>by
  unfold P0;dsimp only;rw[aUU (uZ h),aUU (tD h),aUU c1,aUU c2,aUU c3,N2 h,hcon,aUS,aUU (vP pI)];cases(Lib.fields ((names++[32])++opt)).any fun y=>decide (y=l[i].1)<;>rfl) (fun m=>by
  unfold P0;dsimp only;rw[aUX (vV _)]) l.length 0 [] pI
 have B:=aAC (f:=P3 (fm,(nm,(l,(tw,())))) names opt) (l:=l) (fun a=>(Lib.fields ((names++[32])++opt)).any fun y=>decide (y=a.1)) (some (.inr ())) (fun i h m=>by
  unfold P3;dsimp only;rw[aUU (uZ h),aUU (tD h),aUU c1,aUU c2,aUU c3,N2 h,hcon,aUS,aUU (vP pI)];cases(Lib.fields ((names++[32])++opt)).any fun y=>decide (y=l[i].1)<;>rfl) (fun m=>by
  unfold P3;dsimp only;rw[aUX (vV _)]) l.length 0 [] pI
 rw[aWc] at A B;have A':rQ (P0 (fm,(nm,(l,(tw,())))) names opt) ((0:Int),[])=_:=A;have B':rQ (P3 (fm,(nm,(l,(tw,())))) names opt) ((0:Int),[])=_:=B;have C: ∀m,rQ (K0 names m) (0:Int)=if (Lib.fields names).all (fun n=>vW .str .str m n)=true then some (.inl ()) else none:=by
  intro m;have go: ∀(n i:Nat),i+n=(Lib.fields names).length->rQ (K0 names m) (i:Int)=if ((Lib.fields names).drop i).all (fun n=>vW .str .str m n)=true then some (.inl ()) else none:=by
   intro n
   induction n with
   |zero=>
    intro i hi;obtain rfl:i=(Lib.fields names).length:=by omega
    rw[aVR];refine uU ?_;unfold K0;rw[aUX (vV _)]
   |succ n ih=>
    intro i hi;have h:i<(Lib.fields names).length:=by omega
    have hs:K0 names m (i:Int)=if vW .str .str m (Lib.fields names)[i]=true then some (.inl ((i+1:Nat):Int)) else none:=by
     unfold K0;rw[aUU (uZ h),aUU (tD h),AD (t:= .str) h,aUU (vP pI)];cases vW .str .str m (Lib.fields names)[i]<;>rfl
    rw[aVA h,List.all_cons];cases hm:vW .str .str m (Lib.fields names)[i] with
    |true=>
     rw[hm,aUU rfl] at hs;rw[vT hs,Bool.true_and];exact ih (i+1) pI
    |false=>
     rw[hm,aUX pJ] at hs;rw[aJu hs];rfl
  have h0:=go (Lib.fields names).length 0 pI;rw[aWc] at h0;exact h0
 have D: ∀m,(Lib.fields names).all (fun n=>vW .str .str m n)=false->rQ (MF names m) (0:Int)=some (.inr ()):=by
  intro m hm;have h:=E4 (f:=MF names m) (l:=Lib.fields names) (fun n=> !vW .str .str m n) (fun _=>()) (fun i h=>by
   unfold MF;rw[aUU (uZ h),aUU (tD h),AD (t:= .str) h,aUU (vP pI)]) (by
   unfold MF;rw[aUX (vV _)])
  rw[h,MV,aUU];rw[aJA,hm];rfl
 unfold xM;constructor
 .unfold wT;rw[A'];cases hp:l.all fun a=>(Lib.fields ((names++[32])++opt)).any fun y=>decide (y=a.1) with
  |false=>rfl
  |true=>
   rw[aUU rfl];show (if _ then uF (rQ (K0 names (GT l)) (0:Int)) (fun _=>some (GT l)) else none)=_;rw[aUU c4,C];have e:(Lib.fields names).all (fun n=>vW .str .str (GT l) n)=(Lib.fields names).all fun n=>l.any fun a=>decide (a.1=n):=by
    congr 1;funext n;exact aJy l n
   rw[e,Bool.true_and];cases(Lib.fields names).all fun n=>l.any fun a=>decide (a.1=n)<;>rfl
 .intro hf;unfold DY;rw[B'];cases hp:l.all fun a=>(Lib.fields ((names++[32])++opt)).any fun y=>decide (y=a.1) with
  |false=>rfl
  |true=>
   rw[aUU rfl];show (if _ then uF (rQ (MF names (GT l)) (0:Int)) (fun _=>none) else none)=_;rw[aUU c4,D]
   .rfl
   .rw[hp,Bool.true_and] at hf;have e:(Lib.fields names).all (fun n=>vW .str .str (GT l) n)=(Lib.fields names).all fun n=>l.any fun a=>decide (a.1=n):=by
     congr 1;funext n;exact aJy l n
    rw[e];exact hf
def u6 (s:pF):pG:=uO (tG s [32])
theorem aJB (s:pF):0<(tG s [32]).length/\(tG s [32]).length<=s.length+1:=by
 have h1:=Lib.splitB_all ⟨List.toArray ([32]:pF)⟩ pJ 0 _ ⟨List.toArray s⟩ rfl;have h2:=Lib.countB_le ⟨List.toArray ([32]:pF)⟩ pJ (List.length s) ⟨List.toArray s⟩ (aVi _);have h3:(⟨List.toArray s⟩:ByteArray).size=s.length:=rfl;rw[h3] at h2;unfold tG;rw[aVX,h1];exact⟨pI,pI⟩
theorem aJC (l:pG):(uO l).length<=l.length:=List.length_filter_le _ _
theorem aAD {s:pF}(hs:s.length<=1000000000):I2 s=some ((u6 s).all uT):=by
 have hl:=aJB s;have hn:=aJC (tG s [32]);have hf:(u6 s).length<=1000000001:=by unfold u6;omega
 have h:=E4 (f:=SZ (u6 s)) (l:=u6 s) (fun x=> !uT x) (fun k=>(k:Int)) (fun i h=>by
  unfold SZ OT;rw[aUU (uZ h),aUU (tD h),AD (t:= .str) h,U0,aUS,aUS,aUU (vP pI)]) (by
  unfold SZ;rw[aUX (vV _)])
 unfold I2;rw[aUU ⟨pJ,pI⟩,aUU ⟨hl.1,pI⟩];show (ME (u6 s)).bind _=_;unfold ME OY;rw[h,KF];show some (!decide _)=_;rw[PP,aJA,Bool.not_not]
abbrev uJ:pF:=[105,100]
abbrev xG:pF:=[115,116,97,116,101]
abbrev uP:pF:=[102,108,97,103,115]
abbrev vI:pF:=[110,97,109,101]
abbrev wN:pF:=[116,97,103]
abbrev yQ:pF:=[99,111,109,109,101,110,116]
abbrev yD:pF:=[102,105,101,108,100]
abbrev wY:pF:=[115,111,117,114,99,101]
abbrev zD:pF:=[116,97,114,103,101,116]
abbrev zY:pF:=[101,110,116,114,121]
abbrev yE:pF:=[101,110,116,114,105,101,115]
abbrev zE:pF:=[99,97,116,97,108,111,103]
def B4 (a:sB):Bool:=if a.1=uJ then(decide (a.2.1=[])||decide (200<(a.2.1.length:Int))) else if a.1=xG then !decide (0<=AX a.2.1) else !((u6 a.2.1).all uT)
theorem aQI {a:sB}(ha:a.2.1.length<=1000000000):MH a=some (B4 a):=by
 unfold MH B4;by_cases h1:a.1=uJ
 .rw[aUU (aVk h1),aUU h1]
 .rw[aUX (by simpa using h1),aUX h1];by_cases h2:a.1=xG
  .have h:=aIx IF a.2.1 (by unfold rZ;decide);rw[aUU (aVk h2),aUU h2];show (EZ IF a.2.1).bind _=_;rw[h,aUS,<-PP];rfl
  .rw[aUX (by simpa using h2),aUX h2,aAD ha];rfl
theorem aQJ {l:List sB}(hl:l.length<=1000000000) (ha: ∀a∈l,a.2.1.length<=1000000000):E2 l=some (l.any B4):=by
 have h:=E4 (f:=TD l) (l:=l) B4 (fun k=>(k:Int)) (fun i h=>by
  unfold TD;rw[aUU (uZ h),aUU (tD h),N2 h,aQI (ha _ (aVW h)),aUS,aUU (vP pI)]) (by
  unfold TD;rw[aUX (vV _)])
 unfold E2 P9;rw[h,KF];show some (decide _)=_;rw[PP]
theorem aQK (s:pF):C3 IF s=some (AX s):=by
 rw[aIw IF s (by unfold rZ;decide)];unfold AX;have:(fun x:pF=>decide (s=x))=fun x=>decide (x=s):=by
  funext x;exact aWq.2 ⟨Eq.symm,Eq.symm⟩
 rw[this]
theorem aAE {f:Bool×Int->Option ((Bool×Int)⊕Bool)}{l:List sB}(p:sB->Bool) (hf: ∀(i:Nat) (h:i<l.length) g,f (g,(i:Int))=some (.inl (g&&p l[i],(i:Int)+1))) (he: ∀g,f (g,(l.length:Int))=some (.inr g)):
  ∀(n i:Nat) g,i+n=l.length->rQ f (g,(i:Int))=some (g&&(l.drop i).all p)
 |0,i,g,hi=>by
  obtain rfl:i=l.length:=by omega
  rw[aVR,uU (he g)];simp
 |n+1,i,g,hi=>by
  have h:i<l.length:=by omega
  rw[vT (hf i h g),aVA h,List.all_cons,<-Bool.and_assoc];exact aAE p hf he n (i+1) _ pI
end
noncomputable section
theorem Q4:Lib.fields (([]++[32])++([]:pF))=[]:=by kernel_rfl
theorem Q5:Lib.fields ([]:pF)=[]:=by kernel_rfl
theorem aAF (l:List sB):xM l [] []=decide (l=[]):=by
 unfold xM;cases l with
 |nil=>rfl
 |cons a l=>simp
theorem aJD:Lib.fields ((vI++[32])++([]:pF))=[vI]:=by kernel_rfl
theorem aJE:Lib.fields vI=[vI]:=by kernel_rfl
def AG (x:xY) (cms:pG) (L:List TE):Option (pG×List TE):=
 if x.2.2.1=[]/\x.2.2.2=false/\cms.length≠20 then(yC x L).map fun r=>(cms++[r.1],r.2) else none
theorem ZB (n:Nat):decide ((n:Int)=20)=decide (n=20):=aWq.2 pI
section
variable {l:List tH}(hl:wX l) (a e:Int) (c:sR) (en:pO×Unit) (m:pM)
include hl
theorem aJF (x:xY) (b:s8) (hx:e=0->∃t r,l=t::r/\t.1=2) (ha:x.2.2.1.length<=1000000000) (hb:b.2.2.2.1.length<=1000):
  ∃l' a' e' cs,DB l a e c en (x.1,(x.2.1,(x.2.2.1,(x.2.2.2,())))) b m=some (l',a',e',cs)/\LQ l l' e e'/\(e=0->match AG x b.2.2.2.1 (l.map er) with
   |some (cs',r)=>e'=0/\l'.map er=r/\cs=cs'/\l'.length<l.length
   |none=>e'≠0):=by
 obtain⟨v1,v2⟩:=Q3 x [] [] ha pJ pJ pJ pJ (by rw[Q4];decide) (by rw[Q5];decide);rw[Q4,Q5,aAF] at v1 v2;unfold DB;by_cases h:x.2.2.1=[]
 .rw[aVk h,aUU rfl] at v1;rw[v1,aUU pX,aUS,CF hl,aUS];have hck:=GS (l:=l) a e (!true) x.2.2.2 (decide ((b.2.2.2.1.length:Int)=20));have hid:=fun he=>aJs (l:=l) a e he (!true) x.2.2.2 (decide ((b.2.2.2.1.length:Int)=20));dsimp only;generalize AF l a e (!true) x.2.2.2 (decide ((b.2.2.2.1.length:Int)=20))=q at hck hid|-;obtain⟨a1,e1⟩:=q;dsimp only at hck hid|-;obtain⟨s,l2,a2,e2,h2,p2,s2,m2⟩:=UC hl a1 e1 (c.1,(c.2.1,(c.2.2.1,(c.2.2.2.1,())))) (en.1,()) m x (fun he=>hx (hck.1 he).1);rw[h2,aUS,aUU pL];refine⟨_,_,_,_,rfl,⟨p2.suf,fun he=>p2.bad (by rw[show e1=e from aVc Prod.snd (hid he)];exact he)⟩,fun he=> ?_⟩;unfold AG;by_cases hc:x.2.2.1=[]/\x.2.2.2=false/\b.2.2.2.1.length≠20
  .rw[aUU hc];have he1:e1=0:=hck.2 ⟨he,rfl,hc.2.1,by rw[ZB];exact decide_eq_false hc.2.2⟩;have m2':=m2 he1;cases hct:yC x (l.map er) with
   |none=>rw[hct] at m2';exact m2'
   |some r=>
    rw[hct] at m2';exact⟨m2'.1,m2'.2.1,by rw[m2'.2.2.1],m2'.2.2.2⟩
  .rw[aUX hc];refine p2.bad fun he1=>hc ⟨h,(hck.1 he1).2.2.1,?_⟩;have:=(hck.1 he1).2.2.2;rw[ZB] at this;exact of_decide_eq_false this
 .rw[decide_eq_false h,aUX pJ] at v1;rw[v1,aUX pJ,v2 (decide_eq_false h),aUS,CF hl,aUS];have hck:=GS (l:=l) a e (!false) x.2.2.2 (decide ((b.2.2.2.1.length:Int)=20));dsimp only;generalize AF l a e (!false) x.2.2.2 (decide ((b.2.2.2.1.length:Int)=20))=q at hck|-;obtain⟨a1,e1⟩:=q;dsimp only at hck|-;have he1:e1≠0:=fun h0=>by have:=(hck.1 h0).2.1;cases this
  obtain⟨s,l2,a2,e2,h2,p2,s2,m2⟩:=UC hl a1 e1 (c.1,(c.2.1,(c.2.2.1,(c.2.2.2.1,())))) (en.1,()) m x (fun h0=>absurd h0 he1);rw[h2,aUS,aUU pL];refine⟨_,_,_,_,rfl,⟨p2.suf,fun _=>p2.bad he1⟩,fun he=> ?_⟩;unfold AG;rw[aUX (fun hh=>h hh.1)];exact p2.bad he1
omit hl in
theorem aJG {x:z7}(hx:x.2.2.1.length<=1000000000) {f:Bool×Int->Option ((Bool×Int)⊕Bool)}(hf:f=TT x\/f=TU x):
  rQ f (true,(0:Int))=some (x.2.2.1.all fun a=>uT a.2.1):=by
 have h:=aAE (f:=f) (l:=x.2.2.1) (fun a=>uT a.2.1) (fun i h g=>by
  rcases hf with rfl|rfl
  .unfold TT;dsimp only;rw[aUU (uZ h),aUU (tD h),N2 h,U0,aUU (by exact fun _=>rfl),aUU (vP pI)];rfl
  .unfold TU;dsimp only;rw[aUU (uZ h),aUU (tD h),N2 h,U0,aUU (by exact fun _=>rfl),aUU (vP pI)];rfl) (fun g=>by
  rcases hf with rfl|rfl
  .unfold TT;dsimp only;rw[aUX (vV _)]
  .unfold TU;dsimp only;rw[aUX (vV _)]) x.2.2.1.length 0 true pI
 rw[aWc,Bool.true_and] at h;exact h
def AH (x:xY) (fds:List sB) (L:List TE):Option (List sB×List TE):=
 if xM x.2.2.1 [vI] [vI]=true/\(x.2.2.1.all fun a=>uT a.2.1)=true/\x.2.2.2=false/\(fds.any fun f=>decide (f.1=sC x.2.2.1 vI))=false/\fds.length≠20 then(yC x L).map fun r=>(GN fds (sC x.2.2.1 vI) r.1,r.2) else none
theorem aJH (x:xY) (b:s8) (hx:e=0->∃t r,l=t::r/\t.1=2) (ha:x.2.2.1.length<=1000000000) (hb:b.2.2.2.2.2.2.1.length<=1000):
  ∃l' a' e' fs,DC l a e c en (x.1,(x.2.1,(x.2.2.1,(x.2.2.2,())))) b m=some (l',a',e',fs)/\LQ l l' e e'/\(e=0->match AH x b.2.2.2.2.2.2.1 (l.map er) with
   |some (fs',r)=>e'=0/\l'.map er=r/\fs=fs'/\l'.length<l.length
   |none=>e'≠0):=by
 have hfit:rZ b.2.2.2.2.2.2.1:=by unfold rZ;omega
 obtain⟨v1,v2⟩:=Q3 x vI [] ha pJ pJ pJ pJ (by rw[aJD];decide) (by rw[aJE];decide);rw[aJD,aJE] at v1 v2;unfold DC;by_cases h:xM x.2.2.1 [vI] [vI]=true
 .rw[h,aUU rfl] at v1;rw[v1,aUU pX,aUS,UD,aIA _ _ hfit,aUS,aJG (x:=(x.1,(x.2.1,(x.2.2.1,(x.2.2.2,()))))) ha (.inl rfl)];unfold sU;rw[aUS,CF hl,aUS,aPJ];dsimp only;have hck:=GS (l:=l) a e ((!true)||(!(x.2.2.1.all fun a=>uT a.2.1))) (x.2.2.2||(b.2.2.2.2.2.2.1.any fun f=>decide (f.1=sC x.2.2.1 vI))) (decide ((b.2.2.2.2.2.2.1.length:Int)=20))
  have hid:=fun he=>aJs (l:=l) a e he ((!true)||(!(x.2.2.1.all fun a=>uT a.2.1))) (x.2.2.2||(b.2.2.2.2.2.2.1.any fun f=>decide (f.1=sC x.2.2.1 vI))) (decide ((b.2.2.2.2.2.2.1.length:Int)=20))
  generalize AF l a e ((!true)||(!(x.2.2.1.all fun a=>uT a.2.1))) (x.2.2.2||(b.2.2.2.2.2.2.1.any fun f=>decide (f.1=sC x.2.2.1 vI))) (decide ((b.2.2.2.2.2.2.1.length:Int)=20))=q at hck hid|-
  obtain⟨a1,e1⟩:=q;dsimp only at hck hid|-;obtain⟨s,l2,a2,e2,h2,p2,s2,m2⟩:=UC hl a1 e1 (c.1,(c.2.1,(c.2.2.1,(c.2.2.2.1,())))) (en.1,()) m x (fun he=>hx (hck.1 he).1);rw[h2,aUS,aIC _ _ _ hfit,aUS];refine⟨_,_,_,_,rfl,⟨p2.suf,fun he=>p2.bad (by rw[show e1=e from aVc Prod.snd (hid he)];exact he)⟩,fun he=> ?_⟩;unfold AH;by_cases hc:xM x.2.2.1 [vI] [vI]=true/\(x.2.2.1.all fun a=>uT a.2.1)=true/\x.2.2.2=false/\(b.2.2.2.2.2.2.1.any fun f=>decide (f.1=sC x.2.2.1 vI))=false/\b.2.2.2.2.2.2.1.length≠20
  .rw[aUU hc];have he1:e1=0:=hck.2 ⟨he,by rw[hc.2.1];rfl,by rw[hc.2.2.1,hc.2.2.2.1];rfl,by rw[ZB];exact decide_eq_false hc.2.2.2.2⟩;have m2':=m2 he1;cases hct:yC x (l.map er) with
   |none=>rw[hct] at m2';exact m2'
   |some r=>
    rw[hct] at m2';exact⟨m2'.1,m2'.2.1,by rw[m2'.2.2.1],m2'.2.2.2⟩
  .rw[aUX hc];refine p2.bad fun he1=>hc ?_;obtain⟨_,k1,k2,k3⟩:=hck.1 he1;rw[ZB] at k3;simp only[aVG,aV9] at k1 k2;exact⟨h,k1.2,k2.1,k2.2,of_decide_eq_false k3⟩
 .have h':xM x.2.2.1 [vI] [vI]=false:=by simpa using h
  rw[h',aUX pJ] at v1;rw[v1,aUX pJ,v2 h',aUS,aIA _ _ hfit,aUS,aJG (x:=(x.1,(x.2.1,(x.2.2.1,(x.2.2.2,()))))) ha (.inr rfl)];unfold sU;rw[aUS,CF hl,aUS];dsimp only;have hck:=GS (l:=l) a e ((!false)||(!(x.2.2.1.all fun a=>uT a.2.1))) (x.2.2.2||(PQ b.2.2.2.2.2.2.1 []).2) (decide ((b.2.2.2.2.2.2.1.length:Int)=20))
  generalize AF l a e ((!false)||(!(x.2.2.1.all fun a=>uT a.2.1))) (x.2.2.2||(PQ b.2.2.2.2.2.2.1 []).2) (decide ((b.2.2.2.2.2.2.1.length:Int)=20))=q at hck|-
  obtain⟨a1,e1⟩:=q;dsimp only at hck|-;have he1:e1≠0:=fun h0=>by have:=(hck.1 h0).2.1;cases this
  obtain⟨s,l2,a2,e2,h2,p2,s2,m2⟩:=UC hl a1 e1 (c.1,(c.2.1,(c.2.2.1,(c.2.2.2.1,())))) (en.1,()) m x (fun h0=>absurd h0 he1);rw[h2,aUS,aIC _ _ _ hfit,aUS];refine⟨_,_,_,_,rfl,⟨p2.suf,fun _=>p2.bad he1⟩,fun he=> ?_⟩;unfold AH;rw[aUX (fun hh=>h hh.1)];exact p2.bad he1
end
abbrev FJ:=pF×pF×pG×List sB×Bool×Bool
def uB:Nat->FJ->List TE->Option (FJ×List TE)
 |0,_,_=>none
 |n+1,st,L=>
  if (rR (rD L)).1=3\/(rR (rD L)).1=0 then(uX zY (rD L)).map fun r=>(st,r)
  else if (rR (rD L)).2.1=yQ then(match AG (rR (rD L)) st.2.2.1 (rD L) with
   |some (cs,r)=>uB n (st.1,st.2.1,cs,st.2.2.2.1,st.2.2.2.2.1,st.2.2.2.2.2) r
   |none=>none)
  else if (rR (rD L)).2.1=yD then(match AH (rR (rD L)) st.2.2.2.1 (rD L) with
   |some (fs,r)=>uB n (st.1,st.2.1,st.2.2.1,fs,st.2.2.2.2.1,st.2.2.2.2.2) r
   |none=>none)
  else if (rR (rD L)).2.1=wY then(if (rR (rD L)).2.2.1=[]/\(rR (rD L)).2.2.2=false/\st.2.2.2.2.1=false then(match yC (rR (rD L)) (rD L) with
   |some (s,r)=>uB n (s,st.2.1,st.2.2.1,st.2.2.2.1,true,st.2.2.2.2.2) r
   |none=>none) else none)
  else if (rR (rD L)).2.1=zD then(if (rR (rD L)).2.2.1=[]/\(rR (rD L)).2.2.2=false/\st.2.2.2.2.2=false then(match yC (rR (rD L)) (rD L) with
   |some (s,r)=>uB n (st.1,s,st.2.2.1,st.2.2.2.1,st.2.2.2.2.1,true) r
   |none=>none) else none)
  else none
def FK (l:List tH):Int:=(qR (.pair (.int .i64) (.pair .str (.pair (.int .i64) .unit))) l 0).2.2.1
def BQ (l:List tH):Prop:= ∀i (h:i+1<l.length),(l[i+1]'h).2.2.1=(l[i]'pI).2.2.1+((l[i]'pI).2.1.length:Int)
theorem BQ.drop {l:List tH}(h:BQ l) (k:Nat):BQ (l.drop k):=by
 intro i hi;rw[aVg] at hi;simp only[List.getElem_drop];have:=h (k+i) pI;simpa[aVF] using this
theorem uW.cont {a b:List tH}(h:uW a b) (hb:BQ b):BQ a:=by
 obtain⟨k,_,rfl⟩:=h;exact hb.drop k
end
noncomputable section
abbrev R8:=Int×List tH×Int×Int×pF×pF×pG×List sB
theorem aAG {t:tH}{r:List tH}(hc:BQ (t::r)) (hr:r≠[]):t.2.2.1+(t.2.1.length:Int)=FK r:=by
 cases r with
 |nil=>exact absurd rfl hr
 |cons u r=>exact(hc 0 pK).symm
theorem aQL {l l':List tH}{name:pF}{r:List TE}(hl:wX l) (hc:BQ l) (hs:uW l' l) (h:uX name (l.map er)=some r) (hm:l'.map er=r):
  (qR (.pair (.int .i64) (.pair .str (.pair (.int .i64) .unit))) l 0).2.2.1+((qR (.pair (.int .i64) (.pair .str (.pair (.int .i64) .unit))) l 0).2.1.length:Int)=FK l'/\l'.length<l.length:=by
 obtain⟨t,q,rfl⟩:=hl.head;have h':(if (vQ (er t)).1=3/\(vQ (er t)).2.1=name then some (q.map er) else none)=some r:=h;split at h'
 .rename_i h3;have h2:t.1=2:=UB (t:=er t) (by rw[h3.1];decide);have hmore:=hl.more (.inl h2);have hq:l'=q:=by
   obtain⟨k,hk,rfl⟩:=hs;have e1:=aVc List.length hm;rw[<-aUZ h',aVX,aVX,aVg] at e1;simp only[aUY] at e1 hk;obtain rfl:k=1:=by omega
   rfl
  subst hq;refine⟨aAG hc ?_,by simp⟩;rintro rfl;simp at hmore
 .cases h'
section
variable {c:sR}{en:pO×Unit}{p:s8}{ids:pM}
theorem Q6 {l:List tH}(hl:wX l) {a e:Int}(he:e≠0) (sr tg:pF) (cm:pG) (fd:List sB) (m:pM):
  ∃r:R8,rQ (AC c en p ids) (l,a,e,sr,tg,cm,fd,m)=some r/\uW r.2.1 l/\r.2.2.2.1≠0:=by
 obtain⟨l',a',e',h1,p1,_⟩:=Q2 hl a e (c.1,(c.2.1,(c.2.2.1,(c.2.2.2.1,())))) (en.1,()) ids zY;refine⟨((qR (.pair (.int .i64) (.pair .str (.pair (.int .i64) .unit))) l 0).2.2.1+((qR (.pair (.int .i64) (.pair .str (.pair (.int .i64) .unit))) l 0).2.1.length:Int),l',a',e',sr,tg,cm,fd),uU ?_,p1.suf,p1.bad he⟩
 .unfold AC;dsimp only;rw[CG hl,aUS,aUX he,CH hl,aUS,aUX he,aUU pJ,h1,aUS]
theorem aJI {l:List tH}(hl:wX l) (h:(rR (l.map er)).1≠0): ∃t r,l=t::r/\t.1=2:=by
 obtain⟨t,r,rfl⟩:=hl.head;exact⟨t,r,rfl,UB (t:=er t) h⟩
theorem aJJ: ∀(n:Nat) (s:pF) (l:List sB) (tw:Bool) (l':List sB) (tw':Bool),E7 n s l tw=some (l',tw')->l'.length<=l.length+s.length
 |0,_,_,_,_,_,h=>by cases h
 |n+1,s,l,tw,l',tw',h=>by
  have hd:=aJq blk s;unfold E7 at h;split at h
  .cases h;omega
  .split at h
   .cases h
   .rename_i a v rest ha;split at h
    .cases h
    .have ih:=aJJ n _ _ _ _ _ h;have hr:rest.length+1<=(s.dropWhile blk).length:=by
      unfold IK at ha;split at ha
      .cases ha
      .rename_i hw;split at ha
       .cases ha
       .split at ha
        .cases ha
        .split at ha
         .cases ha;have h1:=aJo ((s.dropWhile blk).drop (tK (s.dropWhile blk))) [61,34];have h2:=(aJp (xL ((s.dropWhile blk).drop (tK (s.dropWhile blk))) [61,34]).1).2;rw[aVg] at h1;have:=UA (s.dropWhile blk);omega
         .cases ha
     rw[aUW] at ih;simp only[aUY,aU7] at ih;omega
theorem aQM {t:TE}(h:t.2.length<=1000000000):(vQ t).2.2.1.length<=1000000000:=by
 unfold vQ;split
 .cases hr:CE t.2 with
  |none=>simp [eN]
  |some x=>
   show x.2.2.1.length<=_;unfold CE at hr;split at hr
   .split at hr
    .cases hr
    .cases hr;simp
   .dsimp only at hr;generalize hu:(if ((t.2.drop 1).take (t.2.length-2)).drop (t.2.length-3)=[47] then(((t.2.drop 1).take (t.2.length-2)).take (t.2.length-3),(2:Int)) else((t.2.drop 1).take (t.2.length-2),1))=u at hr;have hul:u.1.length<=t.2.length:=by
     rw[<-hu];split<;>simp<;>omega
    split at hr
    .cases hr
    .obtain⟨q,hq,rfl⟩:=aU1.1 hr;have:=aJJ _ _ _ _ _ _ hq;dsimp only;simp only[aU7,aVg,aVx] at this;omega
 .simp [eN]
theorem ZC {l:List tH}(hl:wX l):(rR (l.map er)).2.2.1.length<=1000000000:=by
 obtain⟨t,r,rfl⟩:=hl.head;exact aQM (t:=er t) (hl.txt t aU2)
theorem UE: ∀(n:Nat) (l:List tH) (a e:Int) (sr tg:pF) (cm:pG) (fd:List sB) (m:pM) (sS sT:Bool),
  l.length<=n->wX l->BQ l->s9 .str .bool m wY=sS->s9 .str .bool m zD=sT->(e=0->cm.length<=20/\fd.length<=20)->
  ∃r:R8,rQ (AC c en p ids) (l,a,e,sr,tg,cm,fd,m)=some r/\uW r.2.1 l/\(e≠0->r.2.2.2.1≠0)/\(e=0->match uB (n+1) (sr,tg,cm,fd,sS,sT) (l.map er) with
   |some (st,q)=>r.2.2.2.1=0/\r.2.1.map er=q/\r.2.2.2.2=(st.1,st.2.1,st.2.2.1,st.2.2.2.1)/\r.1=FK r.2.1/\r.2.1.length<l.length
   |none=>r.2.2.2.1≠0)
 |n,l,a,e,sr,tg,cm,fd,m,sS,sT,hn,hl,hcn,hS,hT,hb=>by
  by_cases he:e=0
  .subst he;have hsk:=KO hl;have hl1:=hsk.ok hl;have hc1:=hsk.cont hcn;have hle1:=hsk.le;have her:=Q1 l;obtain⟨hb1,hb2⟩:=hb rfl;have hxl:=ZC hl1;unfold uB;rw[<-her];generalize hx:rR ((tN l).map er)=x at hxl;by_cases h30:x.1=3\/x.1=0
   .obtain⟨l2,a2,e2,h2,p2,m2⟩:=Q2 hl1 a 0 (c.1,(c.2.1,(c.2.2.1,(c.2.2.2.1,())))) (en.1,()) ids zY;have hst:AC c en p ids (l,a,0,sr,tg,cm,fd,m)=some (.inr ((qR (.pair (.int .i64) (.pair .str (.pair (.int .i64) .unit))) (tN l) 0).2.2.1+((qR (.pair (.int .i64) (.pair .str (.pair (.int .i64) .unit))) (tN l) 0).2.1.length:Int),l2,a2,e2,sr,tg,cm,fd)):=by
     unfold AC;dsimp only;rw[CG hl,aUS,aUU rfl,CH hl1,aUS,aUU rfl,hx,aUU (by simpa using h30),h2,aUS]
    refine⟨_,uU hst,p2.suf.trans hsk,fun h=>absurd rfl h,fun _=> ?_⟩;rw[aUU h30];have m2':=m2 rfl;cases hnd:uX zY ((tN l).map er) with
    |none=>rw[hnd] at m2';exact m2'
    |some r=>
     rw[hnd] at m2';have hp:=aQL hl1 hc1 p2.suf hnd m2'.2;exact⟨m2'.1,m2'.2,rfl,hp.1,by have:=hp.2;dsimp only at this|-;omega⟩
   .rw[aUX h30];have hx0:x.1≠0:=fun h=>h30 (.inr h);have hhd:(0:Int)=0->∃t r,tN l=t::r/\t.1=2:=fun _=>aJI hl1 (by rw[hx];exact hx0);cases n with
    |zero=>
     have:=aVp.2 hl.ne;omega
    |succ n=>
    by_cases hkc:x.2.1=yQ
    .rw[aUU hkc];obtain⟨l2,a2,e2,cs,h2,p2,m2⟩:=aJF hl1 a 0 (c.1,(c.2.1,(c.2.2.1,(c.2.2.2.1,())))) (en.1,()) ids x (p.1,(sr,(tg,(cm,(p.2.2.2.2.1,(p.2.2.2.2.2.1,(fd,()))))))) hhd hxl (by dsimp only;omega);have hst:AC c en p ids (l,a,0,sr,tg,cm,fd,m)=some (.inl (l2,a2,e2,sr,tg,cs,fd,m)):=by
      unfold AC;dsimp only;rw[CG hl,aUS,aUU rfl,CH hl1,aUS,aUU rfl,hx,aUX (by simpa using h30),aUU (aVk hkc),h2,aUS]
     have m2':=m2 rfl;dsimp only at m2';have hl2:=p2.suf.ok hl1;cases hcm:AG x cm ((tN l).map er) with
     |none=>
      rw[hcm] at m2';obtain⟨r,hr1,hr2,hr3⟩:=Q6 (c:=c) (en:=en) (p:=p) (ids:=ids) hl2 (a:=a2) m2' sr tg cs fd m;exact⟨r,by rw[vT hst];exact hr1,(hr2.trans p2.suf).trans hsk,fun h=>absurd rfl h,fun _=>hr3⟩
     |some cr=>
      obtain⟨cs',r'⟩:=cr;rw[hcm] at m2';obtain⟨k1,k2,k3,k4⟩:=m2';subst k1 k3;have hcs:cs.length<=20:=by
       unfold AG at hcm;split at hcm
       .rename_i hh;obtain⟨q,_,hq⟩:=aU1.1 hcm;have:=aVc Prod.fst hq;dsimp only at this;rw[<-this,aUW];simp only[aUY,aU7];have:=hh.2.2;omega
       .cases hcm
      obtain⟨r,hr1,hr2,hr3,hr4⟩:=UE n l2 a2 0 sr tg cs fd m sS sT pI hl2 (p2.suf.cont hc1) hS hT (fun _=>⟨hcs,hb2⟩);refine⟨r,by rw[vT hst];exact hr1,(hr2.trans p2.suf).trans hsk,fun h=>absurd rfl h,fun _=> ?_⟩;have hr4':=hr4 rfl;rw[k2] at hr4';dsimp only;cases hin:uB (n+1) (sr,tg,cs,fd,sS,sT) r' with
      |none=>rw[hin] at hr4';exact hr4'
      |some w=>
       rw[hin] at hr4';exact⟨hr4'.1,hr4'.2.1,hr4'.2.2.1,hr4'.2.2.2.1,by have:=hr4'.2.2.2.2;omega⟩
    .rw[aUX hkc];by_cases hkf:x.2.1=yD
     .rw[aUU hkf];obtain⟨l2,a2,e2,fs,h2,p2,m2⟩:=aJH hl1 a 0 (c.1,(c.2.1,(c.2.2.1,(c.2.2.2.1,())))) (en.1,()) ids x (p.1,(sr,(tg,(cm,(p.2.2.2.2.1,(p.2.2.2.2.2.1,(fd,()))))))) hhd hxl (by dsimp only;omega);have hst:AC c en p ids (l,a,0,sr,tg,cm,fd,m)=some (.inl (l2,a2,e2,sr,tg,cm,fs,m)):=by
       unfold AC;dsimp only;rw[CG hl,aUS,aUU rfl,CH hl1,aUS,aUU rfl,hx,aUX (by simpa using h30),aUX (by simpa using hkc),aUU (aVk hkf),h2,aUS]
      have m2':=m2 rfl;dsimp only at m2';have hl2:=p2.suf.ok hl1;cases hcm:AH x fd ((tN l).map er) with
      |none=>
       rw[hcm] at m2';obtain⟨r,hr1,hr2,hr3⟩:=Q6 (c:=c) (en:=en) (p:=p) (ids:=ids) hl2 (a:=a2) m2' sr tg cm fs m;exact⟨r,by rw[vT hst];exact hr1,(hr2.trans p2.suf).trans hsk,fun h=>absurd rfl h,fun _=>hr3⟩
      |some cr=>
       obtain⟨fs',r'⟩:=cr;rw[hcm] at m2';obtain⟨k1,k2,k3,k4⟩:=m2';subst k1 k3;have hcs:fs.length<=20:=by
        unfold AH at hcm;split at hcm
        .rename_i hh;obtain⟨q,_,hq⟩:=aU1.1 hcm;have:=aVc Prod.fst hq;dsimp only at this;rw[<-this];have h3:=aIB fd (sC x.2.2.1 vI) q.1;have:=hh.2.2.2.2;omega
        .cases hcm
       obtain⟨r,hr1,hr2,hr3,hr4⟩:=UE n l2 a2 0 sr tg cm fs m sS sT pI hl2 (p2.suf.cont hc1) hS hT (fun _=>⟨hb1,hcs⟩);refine⟨r,by rw[vT hst];exact hr1,(hr2.trans p2.suf).trans hsk,fun h=>absurd rfl h,fun _=> ?_⟩;have hr4':=hr4 rfl;rw[k2] at hr4';dsimp only;cases hin:uB (n+1) (sr,tg,cm,fs,sS,sT) r' with
       |none=>rw[hin] at hr4';exact hr4'
       |some w=>
        rw[hin] at hr4';exact⟨hr4'.1,hr4'.2.1,hr4'.2.2.1,hr4'.2.2.2.1,by have:=hr4'.2.2.2.2;omega⟩
     .rw[aUX hkf];by_cases hst2:x.2.1=wY\/x.2.1=zD
      ·
       obtain⟨v1,v2⟩:=Q3 x [] [] hxl pJ pJ pJ pJ (by rw[Q4];decide) (by rw[Q5];decide);rw[Q4,Q5,aAF] at v1 v2;obtain⟨o,ho⟩: ∃o:Bool,o=decide (x.2.2.1=[]):=⟨_,rfl⟩;have hck:=GS (l:=tN l) a 0 (!o) (x.2.2.2||s9 .str .bool m x.2.1) false
       generalize hq:AF (tN l) a 0 (!o) (x.2.2.2||s9 .str .bool m x.2.1) false=q at hck
       obtain⟨a1,e1⟩:=q;dsimp only at hck;obtain⟨s,l2,a2,e2,h2,p2,s2,m2⟩:=UC hl1 a1 e1 (c.1,(c.2.1,(c.2.2.1,(c.2.2.2.1,())))) (en.1,()) ids x (fun _=>hhd rfl);have hbn:(sU (σ:=Bool) (if (decide (x.2.1=wY))=true then some ((decide (x.2.1=wY))) else some ((decide (x.2.1=zD)))) fun q=>some q)=some true:=by
        unfold sU;rcases hst2 with h|h
        .rw[aUU (aVk h),aVk h];rfl
        .rw[aUX (by rw[h];decide),aVk h];rfl
       have hst:AC c en p ids (l,a,0,sr,tg,cm,fd,m)=some (.inl (if x.2.1=wY then(l2,a2,e2,s,tg,cm,fd,tY .str .bool x.2.1 true m) else(l2,a2,e2,sr,s,cm,fd,tY .str .bool x.2.1 true m))):=by
        unfold AC;dsimp only;rw[CG hl,aUS,aUU rfl,CH hl1,aUS,aUU rfl,hx,aUX (by simpa using h30),aUX (by simpa using hkc),aUX (by simpa using hkf)];unfold sU at hbn|-;generalize (if (decide (x.2.1=wY))=true then some ((decide (x.2.1=wY))) else some ((decide (x.2.1=zD))))=oo at hbn|-;cases oo with
        |none=>cases hbn
        |some bb=>
         obtain rfl:bb=true:=aUZ hbn;rw[aUS,aUU rfl];cases o with
         |true=>
          rw[<-ho,aUU rfl] at v1;rw[v1,aUU pX,aUS,CF hl1,hq,aUS];dsimp only;rw[h2,aUS];by_cases hs:x.2.1=wY
          .rw[aUU (aVk hs),aUU hs]
          .rw[aUX (by simpa using hs),aUX hs]
         |false=>
          rw[<-ho,aUX pJ] at v1;rw[v1,aUX pJ,v2 ho.symm,aUS,CF hl1,hq,aUS];dsimp only;rw[h2,aUS];by_cases hs:x.2.1=wY
          .rw[aUU (aVk hs),aUU hs]
          .rw[aUX (by simpa using hs),aUX hs]
       have hl2:=p2.suf.ok hl1;have hbad:e2≠0->∃r:R8,rQ (AC c en p ids) (l,a,0,sr,tg,cm,fd,m)=some r/\uW r.2.1 l/\r.2.2.2.1≠0:=fun h0=>by
        rw[vT hst];by_cases hs:x.2.1=wY
        .rw[aUU hs];obtain⟨r,hr1,hr2,hr3⟩:=Q6 (c:=c) (en:=en) (p:=p) (ids:=ids) hl2 (a:=a2) h0 s tg cm fd (tY .str .bool x.2.1 true m);exact⟨r,hr1,(hr2.trans p2.suf).trans hsk,hr3⟩
        .rw[aUX hs];obtain⟨r,hr1,hr2,hr3⟩:=Q6 (c:=c) (en:=en) (p:=p) (ids:=ids) hl2 (a:=a2) h0 sr s cm fd (tY .str .bool x.2.1 true m);exact⟨r,hr1,(hr2.trans p2.suf).trans hsk,hr3⟩
       have hnone:e2≠0->∀w:Option (FJ×List TE),w=none->∃r:R8,rQ (AC c en p ids) (l,a,0,sr,tg,cm,fd,m)=some r/\uW r.2.1 l/\((0:Int)≠0->r.2.2.2.1≠0)/\((0:Int)=0->match w with
         |some (st,q)=>r.2.2.2.1=0/\r.2.1.map er=q/\r.2.2.2.2=(st.1,st.2.1,st.2.2.1,st.2.2.2.1)/\r.1=FK r.2.1/\r.2.1.length<l.length
         |none=>r.2.2.2.1≠0):=fun h0 w hw=>by
        obtain⟨r,hr1,hr2,hr3⟩:=hbad h0;subst hw;exact⟨r,hr1,hr2,fun h=>absurd rfl h,fun _=>hr3⟩
       by_cases hs:x.2.1=wY
       .rw[aUU hs];by_cases hok:x.2.2.1=[]/\x.2.2.2=false/\sS=false
        .have hcond:x.2.2.1=[]/\x.2.2.2=false/\(sr,tg,cm,fd,sS,sT).2.2.2.2.1=false:=hok;rw[aUU hcond];have he1:e1=0:=hck.2 ⟨rfl,by rw[ho,aVk hok.1];rfl,by rw[hok.2.1,hs,hS,hok.2.2];rfl,rfl⟩;have m2':=m2 he1;cases hct:yC x ((tN l).map er) with
         |none=>rw[hct] at m2';exact hnone m2' _ rfl
         |some w=>
          obtain⟨s',r'⟩:=w;rw[hct] at m2';obtain⟨k1,k2,k3,k4⟩:=m2';subst k1 k3;rw[aUU hs] at hst;obtain⟨r,hr1,hr2,hr3,hr4⟩:=UE n l2 a2 0 s tg cm fd (tY .str .bool x.2.1 true m) true sT pI hl2 (p2.suf.cont hc1) (by rw[MY,hs,aUU rfl]) (by rw[MY,hs,aUX pJ];exact hT) (fun _=>⟨hb1,hb2⟩);refine⟨r,by rw[vT hst];exact hr1,(hr2.trans p2.suf).trans hsk,fun h=>absurd rfl h,fun _=> ?_⟩;have hr4':=hr4 rfl;rw[k2] at hr4';dsimp only;cases hin:uB (n+1) (s,tg,cm,fd,true,sT) r' with
          |none=>rw[hin] at hr4';exact hr4'
          |some w=>
           rw[hin] at hr4';exact⟨hr4'.1,hr4'.2.1,hr4'.2.2.1,hr4'.2.2.2.1,by have:=hr4'.2.2.2.2;omega⟩
        .have hcond: ¬(x.2.2.1=[]/\x.2.2.2=false/\(sr,tg,cm,fd,sS,sT).2.2.2.2.1=false):=hok;rw[aUX hcond];refine hnone (p2.bad fun he1=>hok ?_) _ rfl;obtain⟨_,q1,q2,_⟩:=hck.1 he1;rw[ho] at q1;rw[hs,hS,aVG] at q2;exact⟨by simpa using q1,q2.1,q2.2⟩
       .rw[aUX hs];have hs2:x.2.1=zD:=by
         rcases hst2 with h|h
         .exact absurd h hs
         .exact h
        rw[aUU hs2];by_cases hok:x.2.2.1=[]/\x.2.2.2=false/\sT=false
        .have hcond:x.2.2.1=[]/\x.2.2.2=false/\(sr,tg,cm,fd,sS,sT).2.2.2.2.2=false:=hok;rw[aUU hcond];have he1:e1=0:=hck.2 ⟨rfl,by rw[ho,aVk hok.1];rfl,by rw[hok.2.1,hs2,hT,hok.2.2];rfl,rfl⟩;have m2':=m2 he1;cases hct:yC x ((tN l).map er) with
         |none=>rw[hct] at m2';exact hnone m2' _ rfl
         |some w=>
          obtain⟨s',r'⟩:=w;rw[hct] at m2';obtain⟨k1,k2,k3,k4⟩:=m2';subst k1 k3;rw[aUX hs] at hst;obtain⟨r,hr1,hr2,hr3,hr4⟩:=UE n l2 a2 0 sr s cm fd (tY .str .bool x.2.1 true m) sS true pI hl2 (p2.suf.cont hc1) (by rw[MY,hs2,aUX pJ];exact hS) (by rw[MY,hs2,aUU rfl]) (fun _=>⟨hb1,hb2⟩);refine⟨r,by rw[vT hst];exact hr1,(hr2.trans p2.suf).trans hsk,fun h=>absurd rfl h,fun _=> ?_⟩;have hr4':=hr4 rfl;rw[k2] at hr4';dsimp only;cases hin:uB (n+1) (sr,s,cm,fd,sS,true) r' with
          |none=>rw[hin] at hr4';exact hr4'
          |some w=>
           rw[hin] at hr4';exact⟨hr4'.1,hr4'.2.1,hr4'.2.2.1,hr4'.2.2.2.1,by have:=hr4'.2.2.2.2;omega⟩
        .have hcond: ¬(x.2.2.1=[]/\x.2.2.2=false/\(sr,tg,cm,fd,sS,sT).2.2.2.2.2=false):=hok;rw[aUX hcond];refine hnone (p2.bad fun he1=>hok ?_) _ rfl;obtain⟨_,q1,q2,_⟩:=hck.1 he1;rw[ho] at q1;rw[hs2,hT,aVG] at q2;exact⟨by simpa using q1,q2.1,q2.2⟩
      ·
       have hs1: ¬x.2.1=wY:=fun h=>hst2 (.inl h);have hs2: ¬x.2.1=zD:=fun h=>hst2 (.inr h);rw[aUX hs1,aUX hs2];have hst:AC c en p ids (l,a,0,sr,tg,cm,fd,m)=some (.inl (tN l,(E8 (tN l) a 0 3).1,(E8 (tN l) a 0 3).2,sr,tg,cm,fd,m)):=by
        unfold AC;dsimp only;rw[CG hl,aUS,aUU rfl,CH hl1,aUS,aUU rfl,hx,aUX (by simpa using h30),aUX (by simpa using hkc),aUX (by simpa using hkf)];have hbn:(if (decide (x.2.1=wY))=true then some ((decide (x.2.1=wY))) else some ((decide (x.2.1=zD))))=some false:=by
         rw[aUX (by simpa using hs1),decide_eq_false hs2]
        unfold sU;rw[hbn,aUS,aUX pJ,KN hl1,aUS]
       obtain⟨r,hr1,hr2,hr3⟩:=Q6 (c:=c) (en:=en) (p:=p) (ids:=ids) hl1 (a:=(E8 (tN l) a 0 3).1) (GR (l:=tN l) a 0 (code:=3) pJ) sr tg cm fd m;exact⟨r,by rw[vT hst];exact hr1,hr2.trans hsk,fun h=>absurd rfl h,fun _=>hr3⟩
  .obtain⟨r,hr1,hr2,hr3⟩:=Q6 (c:=c) (en:=en) (p:=p) (ids:=ids) hl (a:=a) he sr tg cm fd m;exact⟨r,hr1,hr2,fun _=>hr3,fun h=>absurd h he⟩
end
end
noncomputable section
theorem aJK:Lib.fields ((uJ++[32])++([115,116,97,116,101,32,102,108,97,103,115]:pF))=[uJ,xG,uP]:=by kernel_rfl
theorem aJL:Lib.fields uJ=[uJ]:=by kernel_rfl
def IL (l:pG):Bool:=decide ((Lib.compact (sO l)).length<(sO l).length)
def B5:FJ:=([],[],[],[],false,false)
def yR (es:List s8) (x:xY) (L:List TE):Option (s8×List TE):=
  if (x.1=1∨x.1=2)∧x.2.1=zY∧xM x.2.2.1 [uJ] [uJ,xG,uP]=true∧x.2.2.1.any B4=false∧x.2.2.2=false∧(es.any fun y=>decide (y.1=sC x.2.2.1 uJ))=false∧
    IL (u6 (sC x.2.2.1 uP))=false∧(u6 (sC x.2.2.1 uP)).length≤20∧es.length≠1000 then
    (if x.1=1 then uB L.length B5 (L.drop 1) else some (B5,L.drop 1)).map fun r=>
      ((sC x.2.2.1 uJ,(r.1.1,(r.1.2.1,(r.1.2.2.1,(sO (u6 (sC x.2.2.1 uP)),(max 0 (AX (sC x.2.2.1 xG)),(r.1.2.2.2.1,()))))))),r.2)
  else none
theorem aQN {l:List sB}{n:pF}(h: ∀a∈l,a.2.1.length≤4000):(sC l n).length≤4000:=by
  have go: ∀(l:List sB) (v:pF),(∀a∈l,a.2.1.length≤4000)→v.length≤4000→(l.foldl (fun v a=>if n=a.1 then a.2.1 else v) v).length≤4000:=by
    intro l
    induction l with
    |nil=>intro v _ hv;exact hv
    | cons a l ih=>
      intro v hl hv;rw[List.foldl_cons];refine ih _ (fun b hb=>hl b (aU3 _ hb)) ?_;split
      .exact hl a aU2
      .exact hv
  exact go l [] h pK
theorem aQO {s n v r:pF}(h:IK s=some (n,v,r)):t7 v=true:=by
  unfold IK at h;split at h
  .cases h
  · split at h
    .cases h
    · split at h
      .cases h
      · split at h
        · rename_i hv
          cases h;unfold xX at hv;split at hv
          · split at hv
            .rename_i ht;cases hv;exact ht
            .cases hv
          .cases hv
        .cases h
theorem aJM: ∀(n:Nat) (s:pF) (l:List sB) (tw:Bool) (l':List sB) (tw':Bool),E7 n s l tw=some (l',tw')→(∀a∈l,t7 a.2.1=true)→∀a∈l',t7 a.2.1=true
  |0,_,_,_,_,_,h,_=>by cases h
  | n+1,s,l,tw,l',tw',h,hl=>by
    unfold E7 at h;split at h
    .cases h;exact hl
    · split at h
      .cases h
      · rename_i a v rest ha
        split at h
        .cases h
        · refine aJM n _ _ _ _ _ h fun b hb=> ?_
          rcases aVJ.1 hb with hb|hb
          .exact hl b hb
          .rw[aVb.1 hb];exact aQO ha
theorem aQP (t:TE): ∀a∈(vQ t).2.2.1,t7 a.2.1=true:=by
  unfold vQ;split
  · cases hr:CE t.2 with
    |none=>intro a ha;cases ha
    | some x=>
      show∀a∈x.2.2.1,_;unfold CE at hr;split at hr
      · split at hr
        .cases hr
        .cases hr;intro a ha;cases ha
      · dsimp only at hr
        generalize (if ((t.2.drop 1).take (t.2.length-2)).drop (t.2.length-3)=[47] then(((t.2.drop 1).take (t.2.length-2)).take (t.2.length-3),(2:Int)) else((t.2.drop 1).take (t.2.length-2),1))=u at hr;split at hr
        .cases hr
        · obtain⟨q,hq,rfl⟩:=aU1.1 hr
          exact aJM _ _ _ _ _ _ hq (fun a ha=>by cases ha)
  .intro a ha;cases ha
theorem aJN (L:List TE): ∀a∈(rR L).2.2.1,t7 a.2.1=true:=by
  cases L with
  |nil=>intro a ha;cases ha
  |cons t r=>exact aQP t
theorem aQQ {x:pF}(h:t7 x=true):x.length≤4000:=AE h
section
variable {l:List tH}(hl:wX l) (hcn:BQ l) (a:Int) (c:sR) (en:pO×Unit) (ids:pM)
include hl hcn
theorem aQR (hids:MZ ids c.2.2.2.1) (hes:c.2.2.2.1.length≤1000) (hen:en.1.length≤5000): ∃l' a' e' es' en' ids',CB l a 0 c en ids=some (l',a',e',es',en',ids')∧uW l' l∧
    (match yR c.2.2.2.1 (rR (l.map er)) (l.map er) with
      |some (y,r)=>e'=0∧l'.map er=r∧es'=c.2.2.2.1++[y]∧en'=en.1++[FK l']∧MZ ids' es'∧l'.length<l.length
      |none=>e'≠0):=by
  have hxl:=ZC hl;have htx:=aJN (l.map er);have hpk:=aJI hl;unfold CB;rw[CH hl,aUS,aUU rfl];generalize rR (l.map er)=x at hxl htx hpk;obtain⟨v1,v2⟩:=Q3 x uJ [115,116,97,116,101,32,102,108,97,103,115] hxl pJ pJ pJ pJ (by rw[aJK];decide) (by rw[aJL];decide);rw[aJK,aJL] at v1 v2;have hv4: ∀a∈x.2.2.1,a.2.1.length≤4000:=fun a ha=>aQQ (htx a ha);have haw:=aQJ (l:=x.2.2.1) hxl (fun a ha=>by have:=hv4 a ha;omega);have hsm: ∀n,(sC x.2.2.1 n).length≤4000:=fun n=>aQN hv4
  have hfl: ∀v:pF,v.length≤4000→(u6 v).length≤4001:=fun v hv=>by
    have h1:=aJB v;have h2:=aJC (tG v [32]);unfold u6;omega
  have hclone: ∀q:pG,q.length≤4001→zA q=some q:=fun q hq=>by
    unfold zA;rw[aUU pI];rfl
  by_cases h:xM x.2.2.1 [uJ] [uJ,xG,uP]=true
  · rw[h,aUU rfl] at v1
    rw[v1,aUU pX,aUS,UD,UD,UD];have hF:=hfl _ (hsm uP);have hS:(sO (u6 (sC x.2.2.1 uP))).length≤4001:=by rw[Z2];exact hF
    rw[aAD (by show (sC x.2.2.1 uP).length≤_;have:=hsm uP;omega),aUS];show∃l' a' e' es' en' ids',(if (u6 (sC x.2.2.1 uP)).length<4611686018427387904 then _ else none)=_∧_;rw[aUU pI,aUU (fun _=>by rw[haw];rfl),haw,hids];obtain⟨w,hw⟩: ∃w:Bool,((((!decide (x.1=(1:Int)))&&(!decide (x.1=(2:Int))))||(!decide (x.2.1=zY)))||val (some (x.2.2.1.any B4)))=w:=⟨_,rfl⟩
    have hw':w=false↔(x.1=1∨x.1=2)∧x.2.1=zY∧x.2.2.1.any B4=false:=by
      rw[←hw];show (_||x.2.2.1.any B4)=false↔_
      simp only[aVG,aWI,aV9,aU8];constructor
      .rintro⟨⟨h1,h2⟩,h3⟩;exact⟨h1,h2,h3⟩
      .rintro⟨h1,h2,h3⟩;exact⟨⟨h1,h2⟩,h3⟩
    obtain⟨u,hu⟩: ∃u:Bool,((decide ((20:Int)<((sO (u6 (sC x.2.2.1 uP))).length:Int)))||(decide ((c.2.2.2.1.length:Int)=(1000:Int))))=u:=⟨_,rfl⟩
    have hu':u=false↔(u6 (sC x.2.2.1 uP)).length≤20∧c.2.2.2.1.length≠1000:=by
      rw[←hu,Z2];simp only[aVG,aVE];constructor
      .rintro⟨h1,h2⟩;exact⟨pI,pI⟩
      .rintro⟨h1,h2⟩;exact⟨pI,pI⟩
    have tail: ∀(q:Int×Int),q.2≠0∨(q.2=0∧(yR c.2.2.2.1 x (l.map er)=((if x.1=1 then uB (l.map er).length B5 ((l.map er).drop 1) else some (B5,(l.map er).drop 1)).map fun r=>((sC x.2.2.1 uJ,(r.1.1,(r.1.2.1,(r.1.2.2.1,(sO (u6 (sC x.2.2.1 uP)),(max 0 (AX (sC x.2.2.1 xG)),(r.1.2.2.2.1,()))))))),r.2)))∧(x.1=1∨x.1=2)∧c.2.2.2.1.length≠1000)→
        (q.2≠0→yR c.2.2.2.1 x (l.map er)=none)→
        ∃l' a' e' es' en' ids',(if (!decide (q.2=(0:Int)))=true then
         some ((l,q.1,q.2,c.2.2.2.1,en.1,ids))
        else
         (C3 ([([110,101,119]:pF),([102,117,122,122,121]:pF),([116,114,97,110,115,108,97,116,101,100]:pF),([114,101,118,105,101,119,101,100]:pF),([111,98,115,111,108,101,116,101]:pF)]:pG) (sC x.2.2.1 xG)).bind fun O=>
         (y9 l q.1 q.2 (c.1,(c.2.1,(c.2.2.1,(c.2.2.2.1,())))) (en.1,()) (tY .str .bool (sC x.2.2.1 uJ) true ids)).bind fun Z=>
         sU (σ:=(Int×(List sE)×Int×Int×pF×pF×pG×(List r7))) (
           if (decide (x.1=(1:Int)))=true then
            (zK Z q.1 q.2 (c.1,(c.2.1,(c.2.2.1,(c.2.2.2.1,())))) (en.1,()) (sC x.2.2.1 uJ,(([]:pF),(([]:pF),(([]:pG),((sO (u6 (sC x.2.2.1 uP))),((max (0:Int) O),(([]:List r7),()))))))) (tY .str .bool (sC x.2.2.1 uJ) true ids)).bind fun aA=>
            some ((aA.1,aA.2.1,aA.2.2.1,aA.2.2.2.1,aA.2.2.2.2.1,aA.2.2.2.2.2.1,aA.2.2.2.2.2.2.1,aA.2.2.2.2.2.2.2))
           else
            some ((((qR (.pair (.int .i64) (.pair .str (.pair (.int .i64) .unit))) l (0:Int)).2.2.1+(List.length ((qR (.pair (.int .i64) (.pair .str (.pair (.int .i64) .unit))) l (0:Int)).2.1):Int)),Z,q.1,q.2,([]:pF),([]:pF),([]:pG),([]:List r7)))
          ) fun(aB,aC,aD,aE,aF,aG,aH,aI)=>
         if (List.length c.2.2.2.1+List.length ([(sC x.2.2.1 uJ,(aF,(aG,(aH,((sO (u6 (sC x.2.2.1 uP))),((max (0:Int) O),(aI,())))))))]:List s8))*128≤140737488355328 then
          if (List.length en.1+List.length ([aB]:pO))*8≤140737488355328 then
           some ((aC,aD,aE,(c.2.2.2.1++([(sC x.2.2.1 uJ,(aF,(aG,(aH,((sO (u6 (sC x.2.2.1 uP))),((max (0:Int) O),(aI,())))))))]:List s8)),(en.1++([aB]:pO)),(tY .str .bool (sC x.2.2.1 uJ) true ids)))
          else none
         else none)=some (l',a',e',es',en',ids')∧uW l' l∧
        (match yR c.2.2.2.1 x (l.map er) with
          |some (y,r)=>e'=0∧l'.map er=r∧es'=c.2.2.2.1++[y]∧en'=en.1++[FK l']∧MZ ids' es'∧l'.length<l.length
          |none=>e'≠0):=by
      rintro⟨a1,e1⟩ hq hq0;dsimp only at hq hq0|-;by_cases he1:e1=0
      · subst he1
        rcases hq with hq|⟨_,hq,hform,hlen⟩
        .exact absurd rfl hq
        obtain⟨t,r,hlr,ht⟩:=hpk (by rcases hform with h|h<;>rw[h]<;>decide)
        subst hlr;have hmore:=hl.more (.inl ht)
        have hs1:x9 (t::r) 0=r:=by
          unfold x9;rw[aUU ⟨rfl,hmore⟩];rfl
        have hr:r≠[]:=by rintro rfl;simp at hmore
        have hsuf:uW r (t::r):=⟨1,hmore,rfl⟩;have hl1:=hsuf.ok hl;have hc1:=hsuf.cont hcn;rw[aUX pK];show∃l' a' e' es' en' ids',(C3 IF (sC x.2.2.1 xG)).bind _=_∧_;rw[aQK,aUS,FI hl,hs1,aUS];rw[hq];by_cases hf1:x.1=1
        · rw[aUU (aVk hf1),aUU hf1]
          obtain⟨w8,hw1,hw2,hw3,hw4⟩:=UE (c:=(c.1,(c.2.1,(c.2.2.1,(c.2.2.2.1,()))))) (en:=(en.1,())) (p:=(sC x.2.2.1 uJ,(([]:pF),(([]:pF),(([]:pG),((sO (u6 (sC x.2.2.1 uP))),((max (0:Int) (AX (sC x.2.2.1 xG))),(([]:List r7),())))))))) (ids:=tY .str .bool (sC x.2.2.1 uJ) true ids) r.length r a1 0 [] [] [] [] [] false false (aVi _) hl1 hc1 rfl rfl (fun _=>⟨by simp,by simp⟩)
          have hins:zK r a1 0 (c.1,(c.2.1,(c.2.2.1,(c.2.2.2.1,())))) (en.1,()) (sC x.2.2.1 uJ,(([]:pF),(([]:pF),(([]:pG),((sO (u6 (sC x.2.2.1 uP))),((max (0:Int) (AX (sC x.2.2.1 xG))),(([]:List r7),()))))))) (tY .str .bool (sC x.2.2.1 uJ) true ids)=some w8:=by
            unfold zK;exact hw1
          unfold sU;rw[hins,aUS,aUS];dsimp only;rw[aUU (by simp only[aUY,aU7];omega),aUU (by simp only[aUY,aU7];omega)];refine⟨_,_,_,_,_,_,rfl,hw2.trans hsuf,?_⟩;have hw4':=hw4 rfl;have hdr:((t::r).map er).drop 1=r.map er:=rfl;have hln:((t::r).map er).length=r.length+1:=by simp
          rw[hdr,hln];unfold B5;cases hin:uB (r.length+1) ([],[],[],[],false,false) (r.map er) with
          |none=>rw[hin] at hw4';exact hw4'
          | some v=>
            rw[hin] at hw4';obtain⟨k1,k2,k3,k4,k5⟩:=hw4';obtain⟨z1,z2,z3,z4,z5⟩:=w8;dsimp only at k1 k2 k3 k4 k5|-;subst k3;refine⟨k1,k2,rfl,by rw[k4],?_,by simp only[aUY];omega⟩;exact aAl hids _ _ rfl
        · rw[aUX (by simpa using hf1),aUX hf1]
          unfold sU;rw[aUS];dsimp only;rw[aUU (by simp only[aUY,aU7];omega),aUU (by simp only[aUY,aU7];omega)];refine⟨_,_,_,_,_,_,rfl,hsuf,rfl,rfl,rfl,?_,?_,by simp⟩
          .rw[KL,aAG hcn hr]
          .exact aAl hids _ _ rfl
      · rw[aUU (by simpa using he1)]
        refine⟨_,_,_,_,_,_,rfl,uW.refl hl,?_⟩;rw[hq0 he1];exact he1
    have hspec: ∀(tw:Bool) (q:Int×Int),AF l a 0 w tw u=q→(tw=false↔x.2.2.2=false∧(c.2.2.2.1.any fun y=>decide (y.1=sC x.2.2.1 uJ))=false∧IL (u6 (sC x.2.2.1 uP))=false)→
        (q.2≠0∨(q.2=0∧(yR c.2.2.2.1 x (l.map er)=((if x.1=1 then uB (l.map er).length B5 ((l.map er).drop 1) else some (B5,(l.map er).drop 1)).map fun r=>((sC x.2.2.1 uJ,(r.1.1,(r.1.2.1,(r.1.2.2.1,(sO (u6 (sC x.2.2.1 uP)),(max 0 (AX (sC x.2.2.1 xG)),(r.1.2.2.2.1,()))))))),r.2)))∧(x.1=1∨x.1=2)∧c.2.2.2.1.length≠1000))∧
        (q.2≠0→yR c.2.2.2.1 x (l.map er)=none):=by
      rintro tw q rfl htw;have hck:=GS (l:=l) a 0 w tw u;constructor
      · by_cases h0:(AF l a 0 w tw u).2=0
        · right
          obtain⟨_,k1,k2,k3⟩:=hck.1 h0;have j1:=hw'.1 k1;have j2:=htw.1 k2;have j3:=hu'.1 k3;refine⟨h0,?_,j1.1,j3.2⟩;unfold yR;rw[aUU ⟨j1.1,j1.2.1,h,j1.2.2,j2.1,j2.2.1,j2.2.2,j3.1,j3.2⟩]
        .exact .inl h0
      · intro h0
        unfold yR;rw[aUX];rintro⟨j1,j2,_,j4,j5,j6,j7,j8,j9⟩;exact h0 (hck.2 ⟨rfl,hw'.2 ⟨j1,j2,j4⟩,htw.2 ⟨j5,j6,j7⟩,hu'.2 ⟨j8,j9⟩⟩)
    by_cases hG:((x.2.2.2||(c.2.2.2.1.any fun y=>decide (y.1=sC x.2.2.1 uJ)))==false)=true
    · rw[aUU hG]
      have hcl:=hclone (sO (u6 (sC x.2.2.1 uP))) hS;show∃l' a' e' es' en' ids',(if _→(zA (sO (u6 (sC x.2.2.1 uP)))).isSome=true then _ else none)=_∧_;rw[aUU (fun _=>by rw[hcl];rfl)];show∃l' a' e' es' en' ids',(if _→(val (zA (sO (u6 (sC x.2.2.1 uP))))).length≤9223372036854775807 then _ else none)=_∧_;rw[aUU (fun _=>by rw[hcl];show (sO _).length≤_;omega),CF hl,aUS]
      have hd:decide ((((List.length (Lib.compact (val (zA (sO (u6 (sC x.2.2.1 uP))))))):Nat):Int)<(List.length (sO (u6 (sC x.2.2.1 uP))):Int))=IL (u6 (sC x.2.2.1 uP)):=by
        rw[hcl];unfold IL;exact aWq.2 (by show ((Lib.compact (sO (u6 (sC x.2.2.1 uP)))).length:Int)<_↔_;omega)
      obtain⟨s1,s2⟩:=hspec ((x.2.2.2||(c.2.2.2.1.any fun y=>decide (y.1=sC x.2.2.1 uJ)))||IL (u6 (sC x.2.2.1 uP))) _ rfl (by simp only[aVG];exact⟨fun⟨⟨p,q⟩,r⟩=>⟨p,q,r⟩,fun⟨p,q,r⟩=>⟨⟨p,q⟩,r⟩⟩)
      obtain⟨l',a',e',es',en',ids',k1,k2,k3⟩:=tail _ s1 s2;refine⟨l',a',e',es',en',ids',?_,k2,k3⟩;rw[←k1,←hd,←hw,←hu];rfl
    · rw[aUX hG,CF hl,aUS]
      have hG':(x.2.2.2||(c.2.2.2.1.any fun y=>decide (y.1=sC x.2.2.1 uJ)))=true:=(by decide: ∀b:Bool,¬(b==false)=true→b=true) _ hG
      obtain⟨s1,s2⟩:=hspec true _ rfl (by
        constructor
        .intro h;cases h
        .rintro⟨p,q,_⟩;rw[p,q] at hG';cases hG')
      obtain⟨l',a',e',es',en',ids',k1,k2,k3⟩:=tail _ s1 s2;refine⟨l',a',e',es',en',ids',?_,k2,k3⟩;rw[←k1,←hw,←hu];rfl
  ·
    have h':xM x.2.2.1 [uJ] [uJ,xG,uP]=false:=by simpa using h
    have hno:yR c.2.2.2.1 x (l.map er)=none:=by
      unfold yR;rw[aUX (fun hh=>h hh.2.2.1)]
    rw[h',aUX pJ] at v1;have hF0:(u6 []).length≤4001:=hfl [] pK;have hS0:(sO (u6 [])).length≤4001:=by rw[Z2];exact hF0
    have hcl:=hclone (sO (u6 [])) hS0;rw[v1,aUX pJ,v2 h',aUS,aAD pK,aUS];show∃l' a' e' es' en' ids',(if (u6 []).length<4611686018427387904 then _ else none)=_∧_;rw[aUU pI,aUU (fun _=>by rw[haw];rfl),haw,hno]
    have bad: ∀(w tw u:Bool),w=true→(AF l a 0 w tw u).2≠0:=fun w tw u hw h0=>by
      have:=((GS (l:=l) a 0 w tw u).1 h0).2.1;rw[hw] at this;cases this
    by_cases hG:((x.2.2.2||(s9 .str .bool ids ([]:pF)))==false)=true
    · rw[aUU hG]
      show∃l' a' e' es' en' ids',(if _→(zA (sO (u6 []))).isSome=true then _ else none)=_∧_;rw[aUU (fun _=>by rw[hcl];rfl)];show∃l' a' e' es' en' ids',(if _→(val (zA (sO (u6 [])))).length≤9223372036854775807 then _ else none)=_∧_;rw[aUU (fun _=>by rw[hcl];show (sO _).length≤_;omega),CF hl,aUS]
      have hb:=bad (((((!decide (x.1=(1:Int)))&&(!decide (x.1=(2:Int))))||(!decide (x.2.1=zY)))||true)||val (some (x.2.2.1.any B4)))
        ((x.2.2.2||(s9 .str .bool ids ([]:pF)))||(decide ((((List.length (Lib.compact (val (zA (sO (u6 [])))))):Nat):Int)<(List.length (sO (u6 [])):Int))))
        ((decide ((20:Int)<(List.length (sO (u6 [])):Int)))||(decide ((List.length c.2.2.2.1:Int)=(1000:Int)))) pK
      rw[aUU]
      .exact⟨_,_,_,_,_,_,rfl,uW.refl hl,hb⟩
      · simp only[aVo,aVE]
        exact hb
    · rw[aUX hG,CF hl,aUS]
      have hb:=bad (((((!decide (x.1=(1:Int)))&&(!decide (x.1=(2:Int))))||(!decide (x.2.1=zY)))||true)||val (some (x.2.2.1.any B4))) true
        ((decide ((20:Int)<(List.length (sO (u6 [])):Int)))||(decide ((List.length c.2.2.2.1:Int)=(1000:Int)))) pK
      rw[aUU]
      .exact⟨_,_,_,_,_,_,rfl,uW.refl hl,hb⟩
      · simp only[aVo,aVE]
        exact hb
end
end
noncomputable section
theorem aJO:Lib.fields ((wN++[32])++([]:pF))=[wN]:=by kernel_rfl
theorem aJP:Lib.fields wN=[wN]:=by kernel_rfl
abbrev GU:=pG×List sB
def wO:Nat->GU->List TE->Option (GU×List TE)
 |0,_,_=>none
 |n+1,st,L=>
  if (rR (rD L)).2.1=yQ/\(rR (rD L)).1≠3 then(match AG (rR (rD L)) st.1 (rD L) with
   |some (cs,r)=>wO n (cs,st.2) r
   |none=>none)
  else if (rR (rD L)).2.1=yD/\(rR (rD L)).1≠3 then(match AH (rR (rD L)) st.2 (rD L) with
   |some (fs,r)=>wO n (st.1,fs) r
   |none=>none)
  else if (rR (rD L)).1=1/\(rR (rD L)).2.1=yE/\(rR (rD L)).2.2.1=[]/\(rR (rD L)).2.2.2=false then some (st,(rD L).drop 1)
  else none
def FL (L:List TE):Option (pF×GU×List TE):=
 if (rR (rD L)).1=1/\(rR (rD L)).2.1=zE/\xM (rR (rD L)).2.2.1 [wN] [wN]=true/\((rR (rD L)).2.2.1.all fun a=>xJ a.2.1)=true/\(rR (rD L)).2.2.2=false then
  (wO (rD L).length ([],[]) ((rD L).drop 1)).map fun r=>(sC (rR (rD L)).2.2.1 wN,r.1,r.2)
 else none
theorem aJQ {l:List tH}(hl:wX l) {x:xY}(hx:rR (l.map er)=x) (h:x.2.1≠[]): ∃t r,l=t::r/\t.1=2:=by
 obtain⟨t,r,rfl⟩:=hl.head;refine⟨t,r,rfl,?_⟩;by_cases h2:t.1=2
 .exact h2
 .have:vQ (er t)=eN:=by unfold vQ;exact aUX h2
  have hx':vQ (er t)=x:=hx;rw[<-hx',this] at h;exact absurd rfl h
theorem aJR {x:xY}(hx:x.2.2.1.length<=1000000000) {f:Bool×Int->Option ((Bool×Int)⊕Bool)}(hf:f=TW x\/f=TX x):
  rQ f (true,(0:Int))=some (x.2.2.1.all fun a=>xJ a.2.1):=by
 have h:=aAE (f:=f) (l:=x.2.2.1) (fun a=>xJ a.2.1) (fun i h g=>by
  rcases hf with rfl|rfl
  .unfold TW;dsimp only;rw[aUU (uZ h),aUU (tD h),N2 h,a97,aUU (by exact fun _=>rfl),aUU (vP pI)];rfl
  .unfold TX;dsimp only;rw[aUU (uZ h),aUU (tD h),N2 h,a97,aUU (by exact fun _=>rfl),aUU (vP pI)];rfl) (fun g=>by
  rcases hf with rfl|rfl
  .unfold TW;dsimp only;rw[aUX (vV _)]
  .unfold TX;dsimp only;rw[aUX (vV _)]) x.2.2.1.length 0 true pI
 rw[aWc,Bool.true_and] at h;exact h
section
variable {c:sR}{en:pO×Unit}{ids:pM}{mm:List (pF×pF)}
abbrev HR:=((List sE)×Int×Int)⊕((List sE)×Int×Int×pF×pG×(List r7)×pO)
def UF (l:List tH) (r:HR):Prop:= ∃l' a' e',uW l' l/\e'≠0/\(r= .inl (l',a',e')\/∃q,r= .inr (l',a',e',q))
theorem UF.trans {l l2:List tH}{r:HR}(h:UF l2 r) (k:uW l2 l):UF l r:=by
 obtain⟨l',a',e',h1,h2,h3⟩:=h;exact⟨l',a',e',h1.trans k,h2,h3⟩
theorem aJS {l:List tH}(hl:wX l) {a e:Int}(he:e≠0) (f:Int) (nm:pF) (at':List r7) (tw:Bool) (cm:pG) (fd:List sB):
  ∃r,rQ (DD c en ids mm) (l,a,e,f,nm,at',tw,cm,fd)=some r/\UF l r:=by
 refine⟨.inl (l,a,e),uU ?_,l,a,e,uW.refl hl,he,.inl rfl⟩;unfold DD;dsimp only;rw[aUX (by simpa using he)]
theorem aAH (hen:en.1.length<=1000): ∀(n:Nat) (l:List tH) (a:Int) (f:Int) (nm:pF) (at':List r7) (tw:Bool) (cm:pG) (fd:List sB),
  l.length<=n->wX l->BQ l->cm.length<=20->fd.length<=20->
  ∃r,rQ (DD c en ids mm) (l,a,0,f,nm,at',tw,cm,fd)=some r/\(match wO (n+1) (cm,fd) (l.map er) with
   |some (st,q)=> ∃l' a',r= .inr (l',a',0,s9 .str .str mm wN,st.1,st.2,en.1++[FK l'])/\l'.map er=q/\uW l' l/\l'.length<l.length
   |none=>UF l r)
 |n,l,a,f,nm,at',tw,cm,fd,hn,hl,hcn,hb1,hb2=>by
  have hsk:=KO hl;have hl1:=hsk.ok hl;have hc1:=hsk.cont hcn;have hle1:=hsk.le;have her:=Q1 l;have hxl:=ZC hl1;unfold wO;rw[<-her];generalize hx:rR ((tN l).map er)=x at hxl;have hhd:x.2.1≠[]->(0:Int)=0->∃t r,tN l=t::r/\t.1=2:=fun h _=>aJQ hl1 hx h;have hnp:0<l.length:=aVp.2 hl.ne;obtain⟨n,rfl⟩: ∃k,n=k+1:=⟨n-1,pI⟩;by_cases hkc:x.2.1=yQ/\x.1≠3
  .rw[aUU hkc];obtain⟨l2,a2,e2,cs,h2,p2,m2⟩:=aJF hl1 a 0 (s9 .str .str mm wN,(c.2.1,(c.2.2.1,(c.2.2.2.1,())))) (en.1,()) ids x (([]:pF),(([]:pF),(([]:pF),(cm,(([]:pG),((0:Int),(fd,()))))))) (hhd (by rw[hkc.1];decide)) hxl (by dsimp only;omega);have hst:DD c en ids mm (l,a,0,f,nm,at',tw,cm,fd)=some (.inl (l2,a2,e2,x.1,x.2.1,x.2.2.1,x.2.2.2,cs,fd)):=by
    unfold DD;dsimp only;rw[aUU pJ,CG hl,aUS,aUU rfl,CH hl1,aUS,aUU rfl,hx,aUU (by simpa using hkc),h2,aUS]
   have m2':=m2 rfl;dsimp only at m2';have hl2:=p2.suf.ok hl1;have hs2:=p2.suf.trans hsk;cases hcm:AG x cm ((tN l).map er) with
   |none=>
    rw[hcm] at m2';obtain⟨r,hr1,hr2⟩:=aJS (c:=c) (en:=en) (ids:=ids) (mm:=mm) hl2 (a:=a2) m2' x.1 x.2.1 x.2.2.1 x.2.2.2 cs fd;exact⟨r,by rw[vT hst];exact hr1,hr2.trans hs2⟩
   |some cr=>
    obtain⟨cs',r'⟩:=cr;rw[hcm] at m2';obtain⟨k1,k2,k3,k4⟩:=m2';subst k1 k3;have hcs:cs.length<=20:=by
     unfold AG at hcm;split at hcm
     .rename_i hh;obtain⟨q,_,hq⟩:=aU1.1 hcm;have:=aVc Prod.fst hq;dsimp only at this;rw[<-this,aUW];simp only[aUY,aU7];have:=hh.2.2;omega
     .cases hcm
    obtain⟨r,hr1,hr2⟩:=aAH hen n l2 a2 x.1 x.2.1 x.2.2.1 x.2.2.2 cs fd pI hl2 (p2.suf.cont hc1) hcs hb2;refine⟨r,by rw[vT hst];exact hr1,?_⟩;rw[k2] at hr2;dsimp only;cases hin:wO (n+1) (cs,fd) r' with
    |none=>rw[hin] at hr2;exact hr2.trans hs2
    |some w=>
     rw[hin] at hr2;obtain⟨l',a',q1,q2,q3,q4⟩:=hr2;exact⟨l',a',q1,q2,q3.trans hs2,pI⟩
  .rw[aUX hkc];by_cases hkf:x.2.1=yD/\x.1≠3
   .rw[aUU hkf];obtain⟨l2,a2,e2,fs,h2,p2,m2⟩:=aJH hl1 a 0 (s9 .str .str mm wN,(c.2.1,(c.2.2.1,(c.2.2.2.1,())))) (en.1,()) ids x (([]:pF),(([]:pF),(([]:pF),(cm,(([]:pG),((0:Int),(fd,()))))))) (hhd (by rw[hkf.1];decide)) hxl (by dsimp only;omega);have hst:DD c en ids mm (l,a,0,f,nm,at',tw,cm,fd)=some (.inl (l2,a2,e2,x.1,x.2.1,x.2.2.1,x.2.2.2,cm,fs)):=by
     unfold DD;dsimp only;rw[aUU pJ,CG hl,aUS,aUU rfl,CH hl1,aUS,aUU rfl,hx,aUX (by simpa using hkc),aUU (by simpa using hkf),h2,aUS]
    have m2':=m2 rfl;dsimp only at m2';have hl2:=p2.suf.ok hl1;have hs2:=p2.suf.trans hsk;cases hcm:AH x fd ((tN l).map er) with
    |none=>
     rw[hcm] at m2';obtain⟨r,hr1,hr2⟩:=aJS (c:=c) (en:=en) (ids:=ids) (mm:=mm) hl2 (a:=a2) m2' x.1 x.2.1 x.2.2.1 x.2.2.2 cm fs;exact⟨r,by rw[vT hst];exact hr1,hr2.trans hs2⟩
    |some cr=>
     obtain⟨fs',r'⟩:=cr;rw[hcm] at m2';obtain⟨k1,k2,k3,k4⟩:=m2';subst k1 k3;have hcs:fs.length<=20:=by
      unfold AH at hcm;split at hcm
      .rename_i hh;obtain⟨q,_,hq⟩:=aU1.1 hcm;have:=aVc Prod.fst hq;dsimp only at this;rw[<-this];have h3:=aIB fd (sC x.2.2.1 vI) q.1;have:=hh.2.2.2.2;omega
      .cases hcm
     obtain⟨r,hr1,hr2⟩:=aAH hen n l2 a2 x.1 x.2.1 x.2.2.1 x.2.2.2 cm fs pI hl2 (p2.suf.cont hc1) hb1 hcs;refine⟨r,by rw[vT hst];exact hr1,?_⟩;rw[k2] at hr2;dsimp only;cases hin:wO (n+1) (cm,fs) r' with
     |none=>rw[hin] at hr2;exact hr2.trans hs2
     |some w=>
      rw[hin] at hr2;obtain⟨l',a',q1,q2,q3,q4⟩:=hr2;exact⟨l',a',q1,q2,q3.trans hs2,pI⟩
   .rw[aUX hkf];obtain⟨v1,v2⟩:=Q3 x [] [] hxl pJ pJ pJ pJ (by rw[Q4];decide) (by rw[Q5];decide);rw[Q4,Q5,aAF] at v1 v2;obtain⟨o,ho⟩: ∃o:Bool,o=decide (x.2.2.1=[]):=⟨_,rfl⟩;have hck:=GS (l:=tN l) a 0 (((!decide (x.1=(1:Int)))||(!decide (x.2.1=yE)))||(!o)) x.2.2.2 false
    generalize hq:AF (tN l) a 0 (((!decide (x.1=(1:Int)))||(!decide (x.2.1=yE)))||(!o)) x.2.2.2 false=q at hck
    obtain⟨a1,e1⟩:=q;dsimp only at hck;have hst:DD c en ids mm (l,a,0,f,nm,at',tw,cm,fd)=some (.inr (.inr (x9 (tN l) e1,a1,e1,s9 .str .str mm wN,cm,fd,en.1++[(qR (.pair (.int .i64) (.pair .str (.pair (.int .i64) .unit))) (tN l) 0).2.2.1+((qR (.pair (.int .i64) (.pair .str (.pair (.int .i64) .unit))) (tN l) 0).2.1.length:Int)]))):=by
     unfold DD;dsimp only;rw[aUU pJ,CG hl,aUS,aUU rfl,CH hl1,aUS,aUU rfl,hx,aUX (by simpa using hkc),aUX (by simpa using hkf)];cases o with
     |true=>
      rw[<-ho,aUU rfl] at v1;simp only[Bool.not_true,Bool.or_false] at hq;rw[v1,aUU pX,aUS,CF hl1,hq,aUS];dsimp only;rw[FI hl1,aUS,aUU (by simp only[aUY,aU7];omega)]
     |false=>
      rw[<-ho,aUX pJ] at v1;simp only[Bool.not_false] at hq;rw[v1,aUX pJ,v2 ho.symm,aUS,CF hl1,hq,aUS];dsimp only;rw[FI hl1,aUS,aUU (by simp only[aUY,aU7];omega)]
    refine⟨_,uU hst,?_⟩;have hs2:=(KM hl1 e1).trans hsk;by_cases hok:x.1=1/\x.2.1=yE/\x.2.2.1=[]/\x.2.2.2=false
    .rw[aUU hok];have he1:e1=0:=hck.2 ⟨rfl,by rw[ho,aVk hok.1,aVk hok.2.1,aVk hok.2.2.1];rfl,hok.2.2.2,rfl⟩;subst he1;obtain⟨t,r,hlr,ht⟩:=hhd (by rw[hok.2.1];decide) rfl;rw[hlr] at hl1 hc1 hs2 hle1|-;have hmore:=hl1.more (.inl ht);have hs1:x9 (t::r) 0=r:=by
      unfold x9;rw[aUU ⟨rfl,hmore⟩];rfl
     have hr:r≠[]:=by rintro rfl;simp at hmore
     rw[hs1] at hs2|-;refine⟨r,a1,?_,rfl,hs2,by simp only[aUY] at hle1;omega⟩;rw[KL,aAG hc1 hr]
    .rw[aUX hok];refine⟨_,_,_,hs2,fun h0=>hok ?_,.inr ⟨_,rfl⟩⟩;obtain⟨_,k1,k2,_⟩:=hck.1 h0;rw[ho] at k1;simp only[aVG,aV9,aU8] at k1;exact⟨k1.1.1,k1.1.2,k1.2,k2⟩
end
abbrev c0:sR:=(([]:pF),(([]:pG),(([]:List r7),(([]:List s8),()))))
theorem aQS {l:List tH}(hl:wX l) (hcn:BQ l): ∃l' a' e' tag cms fds en',CA l 0 0 c0 ([],()) []=some (l',a',e',tag,cms,fds,en')/\uW l' l/\(match FL (l.map er) with
  |some (tg,st,q)=>e'=0/\l'.map er=q/\tag=tg/\cms=st.1/\fds=st.2/\en'=[FK l']/\l'.length<l.length
  |none=>e'≠0):=by
 have hsk:=KO hl;have hl1:=hsk.ok hl;have hc1:=hsk.cont hcn;have hle1:=hsk.le;have her:=Q1 l;have hxl:=ZC hl1;unfold FL CA;rw[CG hl,aUS,aUU rfl,CH hl1,aUS,aUU rfl,<-her];generalize hx:rR ((tN l).map er)=x at hxl;obtain⟨v1,v2⟩:=Q3 x wN [] hxl pJ pJ pJ pJ (by rw[aJO];decide) (by rw[aJP];decide);rw[aJO,aJP] at v1 v2;by_cases h:xM x.2.2.1 [wN] [wN]=true
 .rw[h,aUU rfl] at v1;rw[v1,aUU pX,aUS,aJR hxl (.inl rfl)];unfold sU;rw[aUS,CF hl1,aUS];have hck:=GS (l:=tN l) 0 0 (((!decide (x.1=(1:Int)))||(!decide (x.2.1=zE)))||(!(x.2.2.1.all fun a=>xJ a.2.1))) x.2.2.2 false
  dsimp only;generalize AF (tN l) 0 0 (((!decide (x.1=(1:Int)))||(!decide (x.2.1=zE)))||(!(x.2.2.1.all fun a=>xJ a.2.1))) x.2.2.2 false=q at hck|-
  obtain⟨a1,e1⟩:=q;dsimp only at hck|-;rw[FI hl1,aUS];have hs1:=KM hl1 e1;have hl2:=hs1.ok hl1;by_cases he1:e1=0
  .subst he1;obtain⟨_,k1,k2,_⟩:=hck.1 rfl;simp only[aVG,aV9,aU8] at k1;rw[aUU ⟨k1.1.1,k1.1.2,h,k1.2,k2⟩];obtain⟨t,r,hlr,ht⟩:=aJQ hl1 hx (by rw[k1.1.2];decide);have hmore:1<(t::r).length:=by rw[hlr] at hl1;exact hl1.more (.inl ht)
   have hst:x9 (tN l) 0=r:=by
    unfold x9;rw[hlr,aUU ⟨rfl,hmore⟩];rfl
   rw[hst] at hs1 hl2|-;obtain⟨w,hw1,hw2⟩:=aAH (c:=c0) (en:=([],())) (ids:=[]) (mm:=GT x.2.2.1) pK r.length r a1 x.1 x.2.1 x.2.2.1 x.2.2.2 [] [] (aVi _) hl2 (hs1.cont hc1) pK pK;have hlen:((tN l).map er).length=r.length+1:=by rw[hlr];simp
   have hdr:((tN l).map er).drop 1=r.map er:=by rw[hlr];rfl
   rw[hlen,hdr,hw1];cases hin:wO (r.length+1) ([],[]) (r.map er) with
   |none=>
    rw[hin] at hw2;obtain⟨l',a',e',q1,q2,q3|⟨z,q3⟩⟩:=hw2
    .subst q3;exact⟨_,_,_,_,_,_,_,rfl,(q1.trans hs1).trans hsk,q2⟩
    .subst q3;obtain⟨z1,z2,z3,z4⟩:=z;exact⟨_,_,_,_,_,_,_,rfl,(q1.trans hs1).trans hsk,q2⟩
   |some v=>
    obtain⟨st,q⟩:=v;rw[hin] at hw2;obtain⟨l',a',q1,q2,q3,q4⟩:=hw2;subst q1;refine⟨_,_,_,_,_,_,_,rfl,(q3.trans hs1).trans hsk,rfl,q2,UD _ _,rfl,rfl,rfl,?_⟩;have:=hs1.le;omega
  .have hst:DD c0 ([],()) [] (GT x.2.2.1) (x9 (tN l) e1,a1,e1,x.1,x.2.1,x.2.2.1,x.2.2.2,[],[])=some (.inr (.inl (x9 (tN l) e1,a1,e1))):=by
    unfold DD;dsimp only;rw[aUX (by simpa using he1)]
   rw[uU hst,aUX]
   .exact⟨_,_,_,_,_,_,_,rfl,hs1.trans hsk,he1⟩
   .rintro⟨k1,k2,_,k4,k5⟩;exact he1 (hck.2 ⟨rfl,by rw[aVk k1,aVk k2,k4];rfl,k5,rfl⟩)
 .have h':xM x.2.2.1 [wN] [wN]=false:=by simpa using h
  rw[h',aUX pJ] at v1;rw[v1,aUX pJ,v2 h',aUS,aJR hxl (.inr rfl)];unfold sU;rw[aUS,CF hl1,aUS];have hck:=GS (l:=tN l) 0 0 ((((!decide (x.1=(1:Int)))||(!decide (x.2.1=zE)))||true)||(!(x.2.2.1.all fun a=>xJ a.2.1))) x.2.2.2 false
  dsimp only;generalize AF (tN l) 0 0 ((((!decide (x.1=(1:Int)))||(!decide (x.2.1=zE)))||true)||(!(x.2.2.1.all fun a=>xJ a.2.1))) x.2.2.2 false=q at hck|-
  obtain⟨a1,e1⟩:=q;dsimp only at hck|-;have he1:e1≠0:=fun h0=>by
   have:=(hck.1 h0).2.1;simp at this
  rw[FI hl1,aUS];have hst:YN c0 ([],()) [] (x9 (tN l) e1,a1,e1,x.1,x.2.1,x.2.2.1,x.2.2.2,[],[])=some (.inr (.inl (x9 (tN l) e1,a1,e1))):=by
   unfold YN;dsimp only;rw[aUX (by simpa using he1)]
  rw[uU hst,aUX (fun hh=>h hh.2.2.1)];exact⟨_,_,_,_,_,_,_,rfl,(KM hl1 e1).trans hsk,he1⟩
end
noncomputable section
def IM:Nat→pF→List TE
  |0,_=>[]
  |n+1,s=>if s=[] then[(4,[])] else sA s::(if (sA s).1=0 then[] else IM n (s.drop (sA s).2.length))
def uK (s:pF):List TE:=IM (s.length+1) s
theorem aJT (s:pF): ∀(n i:Nat),(xE s n i).map er=IM n (s.drop i)
  |0,i=>rfl
  | n+1,i=>by
    unfold xE IM;by_cases h:i<s.length
    · have hne:s.drop i≠[]:=by
        intro e;have:=aVc List.length e;rw[aVg,aU7] at this;omega
      rw[aUU h,aUX hne,aV0];show sA (s.drop i)::_=_;congr 1;split
      .rfl
      .rw[aJT s n,aWA]
    · have hnil:s.drop i=[]:=List.drop_eq_nil_of_le pI
      rw[aUX h,aUU hnil];rfl
theorem aJU (s:pF):(wC s).map er=uK s:=by
  have:=aJT s (s.length+1) 0;rw[aWc] at this;exact this
theorem Q7 {s:pF}(hs:s≠[]):(sA s).2.length≤s.length∧((sA s).1≠0→0<(sA s).2.length)∧((sA s).1=2→2≤(sA s).2.length)∧((sA s).1=0∨(sA s).1=1∨(sA s).1=2∨(sA s).1=3):=by
  have hle:=a2W s hs;have hpos:0<s.length:=aVp.2 hs;unfold sA;split
  .exact⟨by simp,fun h=>absurd rfl h,fun h=>by simp at h,.inl rfl⟩
  · rename_i h0
    rw[aVj];refine⟨pI,fun _=>by omega,fun h2=> ?_,?_⟩
    · dsimp only at h2|-
      have hfn:(wB s).2=BI s+1∧s.head? =some 60:=by
        unfold wB at h2 h0|-;split at h2
        .simp at h2
        · rename_i hn
          rw[aUX hn] at h0|-;split at h2
          · rename_i h60
            rw[aUU h60] at h0|-;dsimp only at h0|-;split at h0
            .exact absurd pJ h0
            · rename_i hz
              rw[aUX hz];exact⟨rfl,h60⟩
          .simp at h2
      have hc:BI s≠0:=by
        cases s with
        |nil=>exact absurd rfl hs
        | cons b r=>
          have hb:b=60:=by simpa using hfn.2
          subst hb;unfold BI clo;rw[aUX pJ,aUX pJ];cases clo false r with
          |none=>decide
          |some k=>show ((k+1:Nat):Int)≠0;omega
      have:=a2V s;rw[hfn.1];rw[hfn.1] at h0;omega
    · unfold wB
      split
      .exact .inr (.inl rfl)
      · split
        .exact .inr (.inr (.inl rfl))
        .exact .inr (.inr (.inr rfl))
theorem aAI {s:pF}{n i:Nat}(hn:s.length<n+i) (hi:i≤s.length): ∃t r,xE s n i=t::r∧t.2.2.1=(i:Int):=by
  cases n with
  |zero=>omega
  | succ n=>
    unfold xE;split
    .exact⟨_,_,rfl,rfl⟩
    .exact⟨_,_,rfl,by show (s.length:Int)=i;omega⟩
theorem aAJ (s:pF) (hs:s.length≤900000000): ∀(n i:Nat),s.length<n+i→i≤s.length→
    (∀t∈xE s n i,t.2.1.length≤s.length∧(i:Int)≤t.2.2.1∧t.2.2.1≤s.length∧(t.1=2→2≤t.2.1.length))∧(∀t,(xE s n i).getLast? =some t→t.1=0∨t.1=4)∧(xE s n i).length≤s.length-i+1∧BQ (xE s n i)
  |0,i,hn,hi=>by omega
  | n+1,i,hn,hi=>by
    by_cases h:i<s.length
    · have hne:s.drop i≠[]:=by
        intro e;have:=aVc List.length e;rw[aVg,aU7] at this;omega
      obtain⟨f1,f2,f3,f4⟩:=Q7 hne;rw[aVg] at f1;have hu:xE s (n+1) i=((sA (s.drop i)).1,(sA (s.drop i)).2,(i:Int),())::(if (sA (s.drop i)).1=0 then[] else xE s n (i+(sA (s.drop i)).2.length)):=by rw[xE,aUU h]
      rw[hu];by_cases h0:(sA (s.drop i)).1=0
      · rw[aUU h0]
        refine⟨fun t ht=> ?_,fun t ht=> ?_,by simp,fun j hj=>by simp at hj⟩
        · rw[aVb.1 ht]
          exact⟨by dsimp only;omega,by dsimp only;omega,by dsimp only;omega,fun h2=>f3 h2⟩
        · left
          simp only[List.getLast?_singleton,aUT] at ht;rw[←ht];exact h0
      · rw[aUX h0]
        have hp:=f2 h0;obtain⟨g1,g2,g3,g4⟩:=aAJ s hs n (i+(sA (s.drop i)).2.length) pI pI;obtain⟨t0,r0,e0,e1⟩:=aAI (s:=s) (n:=n) (i:=i+(sA (s.drop i)).2.length) pI pI;refine⟨fun t ht=> ?_,fun t ht=> ?_,?_,fun j hj=> ?_⟩
        · rcases aU9.1 ht with rfl|ht
          .exact⟨by dsimp only;omega,by dsimp only;omega,by dsimp only;omega,fun h2=>f3 h2⟩
          · obtain⟨k1,k2,k3,k4⟩:=g1 t ht
            exact⟨k1,pI,k3,k4⟩
        · rw[e0] at ht g2
          rw[List.getLast?_cons_cons] at ht;exact g2 t ht
        .simp only[aUY];omega
        · cases j with
          | zero=>
            simp only[e0,List.getElem_cons_zero,List.getElem_cons_succ];rw[e1];simp
          | succ j=>
            simp only[aUY] at hj;simp only[List.getElem_cons_succ];exact g4 j pI
    · have hi':i=s.length:=by omega
      have hu:xE s (n+1) i=[(4,[],(s.length:Int),())]:=by rw[xE,aUX h]
      rw[hu];refine⟨fun t ht=> ?_,fun t ht=> ?_,by simp,fun j hj=>by simp at hj⟩
      · rw[aVb.1 ht]
        exact⟨by simp,by show (i:Int)≤s.length;omega,aVY _,fun h2=>by simp at h2⟩
      · right
        simp only[List.getLast?_singleton,aUT] at ht;rw[←ht]
theorem aJV {s:pF}(hs:s.length≤900000000):wX (wC s)∧BQ (wC s):=by
  obtain⟨g1,g2,g3,g4⟩:=aAJ s hs (s.length+1) 0 pI (aV4 _);obtain⟨t,r,e,_⟩:=aAI (s:=s) (n:=s.length+1) (i:=0) pI (aV4 _);refine⟨⟨?_,fun t ht=> ?_,fun t ht=> ?_,fun t ht=>(g1 t ht).2.2.2,g2,?_⟩,g4⟩
  · show xE s (s.length+1) 0≠[]
    rw[e];simp
  .have:=(g1 t ht).1;omega
  · obtain⟨_,h2,h3,_⟩:=g1 t ht
    exact⟨h2,pI⟩
  · show (xE s (s.length+1) 0).length≤_
    omega
theorem aQT {s:pF}(hs:s.length≤900000000):Gs.slices_Collect_elements_token_elements_tokensF1 s=some (wC s):=by
  obtain⟨_,_,g3,_⟩:=aAJ s hs (s.length+1) 0 pI (aV4 _)
  have go: ∀(l b:List tH),(b.length+l.length)*32≤140737488355328→zR (Gs.slices_AppendSeq_elements_token_elements_tokensF1_step1) l b=some (.inl (b++l)):=by
    intro l
    induction l with
    |nil=>intro b _;simp [zR]
    | cons t l ih=>
      intro b hb;simp only[aUY] at hb;unfold zR
      have:Gs.slices_AppendSeq_elements_token_elements_tokensF1_step1 t b=some (.inl (b++[t])):=by
        unfold Gs.slices_AppendSeq_elements_token_elements_tokensF1_step1;rw[aUU (by simp only[aUY,aU7];omega)]
      rw[this,aUS];show zR _ l (b++[t])=_;rw[ih (b++[t]) (by rw[aUW];simp only[aUY,aU7];omega)];simp
  unfold Gs.slices_Collect_elements_token_elements_tokensF1 Gs.slices_AppendSeq_elements_token_elements_tokensF1;rw[aUU pI,go (wC s) [] (by show (0+(xE s (s.length+1) 0).length)*32≤_;omega)];rfl
def FM:Nat→List s8→pS→List TE→Option (List s8×pS×List TE)
  |0,_,_,_=>none
  | n+1,es,ks,L=>if (rR (rD L)).1=3 then some (es,ks,rD L) else
    match yR es (rR (rD L)) (rD L) with
    |some (y,r)=>FM n (es++[y]) (ks++[r.length]) r
    |none=>none
def CI (L:List TE):Option (sR×pS):=
  match FL L with
  |none=>none
  | some (tag,st,r)=>match FM (r.length+1) [] [r.length] r with
    |none=>none
    | some (es,ks,r1)=>match uX yE r1 with
      |none=>none
      | some r2=>match uX zE (rD r2) with
        |none=>none
        |some r3=>if (rD r3).head?.map (·.1)=some 4 then some ((tag,(st.1,(st.2,(es,())))),ks) else none
def zM (T:List tH) (k:Nat):Int:=FK (T.drop (T.length-k))
theorem aJW {T l:List tH}(h:uW l T):zM T l.length=FK l:=by
  obtain⟨k,hk,rfl⟩:=h;unfold zM;rw[aVg,show T.length- (T.length-k)=k by omega]
theorem aQU {es:List s8}{x:xY}{L:List TE}{y:s8}{r:List TE}(h:yR es x L=some (y,r)):es.length≠1000:=by
  unfold yR at h;split at h
  .rename_i hh;exact hh.2.2.2.2.2.2.2.2
  .cases h
section
variable {T:List tH}(hT:wX T) (hTc:BQ T) {rr:(List sE)×Int×Int×pF×pG×(List r7)×pO}
include hT hTc
theorem aJX: ∀(n:Nat) (l:List tH) (a:Int) (es:List s8) (ks:pS) (ids:pM),l.length≤n→uW l T→es.length≤1000→ks.length=es.length+1→MZ ids es→
    ∃ l' a' e' es' en' ids',rQ (FF rr) (l,a,0,es,ks.map (zM T),ids)=some (l',a',e',es',en',ids')∧uW l' T∧(match FM (n+1) es ks (l.map er) with
      |some (es2,ks2,q)=>e'=0∧es'=es2∧en'=ks2.map (zM T)∧l'.map er=q
      |none=>e'≠0)
  | n,l,a,es,ks,ids,hn,hsT,he,hk,hid=>by
    have hl:=hsT.ok hT;have hcn:=hsT.cont hTc;have hsk:=KO hl;have hl1:=hsk.ok hl;have hc1:=hsk.cont hcn;have hle1:=hsk.le;have her:=Q1 l;have hnp:0<l.length:=aVp.2 hl.ne;obtain⟨n,rfl⟩: ∃k,n=k+1:=⟨n-1,pI⟩;unfold FM;rw[←her];by_cases h3:(rR ((tN l).map er)).1=3
    · have hst:FF rr (l,a,0,es,ks.map (zM T),ids)=some (.inr (tN l,a,0,es,ks.map (zM T),ids)):=by
        unfold FF;dsimp only;rw[aUU pJ,CG hl,aUS,aUU rfl,CH hl1,aUS,aUU rfl,aUU (aVk h3)]
      rw[aUU h3];exact⟨_,_,_,_,_,_,uU hst,hsk.trans hsT,rfl,rfl,rfl,rfl⟩
    · obtain⟨l2,a2,e2,es2,en2,ids2,h2,s2,m2⟩:=aQR hl1 hc1 a (rr.2.2.2.1,(rr.2.2.2.2.1,(rr.2.2.2.2.2.1,(es,())))) (ks.map (zM T),()) ids hid he (by dsimp only;rw[aVX];omega)
      have hst:FF rr (l,a,0,es,ks.map (zM T),ids)=some (.inl (l2,a2,e2,es2,en2,ids2)):=by
        unfold FF;dsimp only;rw[aUU pJ,CG hl,aUS,aUU rfl,CH hl1,aUS,aUU rfl,aUX (by simpa using h3),h2,aUS]
      have hs2:=(s2.trans hsk).trans hsT;rw[aUX h3];cases hx:yR es (rR ((tN l).map er)) ((tN l).map er) with
      | none=>
        rw[hx] at m2;dsimp only at m2
        have hst2:FF rr (l2,a2,e2,es2,en2,ids2)=some (.inr (l2,a2,e2,es2,en2,ids2)):=by
          unfold FF;dsimp only;rw[aUX (by simpa using m2)]
        exact⟨_,_,_,_,_,_,by rw[vT hst,uU hst2],hs2,m2⟩
      | some v=>
        obtain⟨y,r⟩:=v;rw[hx] at m2;obtain⟨k1,k2,k3,k4,k5,k6⟩:=m2;dsimp only at k3 k4|-;subst k1 k3;have hlen:r.length=l2.length:=by rw[←k2,aVX]
        have hen:en2=(ks++[r.length]).map (zM T):=by
          rw[k4,List.map_append,hlen];show _=_++[zM T l2.length];rw[aJW hs2]
        subst hen;have h1000:=aQU hx;obtain⟨l',a',e',es',en',ids',q1,q2,q3⟩:=aJX n l2 a2 (es++[y]) (ks++[r.length]) ids2 pI hs2 (by rw[aUW];simp only[aUY,aU7];omega) (by rw[aUW,aUW,hk];rfl) k5;rw[k2] at q3;exact⟨l',a',e',es',en',ids',by rw[vT hst];exact q1,q2,q3⟩
end
theorem aQV {l:List tH}(hl:wX l):((rD (l.map er)).head?.map (·.1)=some 4)↔(qR (.pair (.int .i64) (.pair .str (.pair (.int .i64) .unit))) (tN l) 0).1=4:=by
  obtain⟨t,r,h⟩:=((KO hl).ok hl).head;rw[←Q1,h];show (some t.1=some 4)↔t.1=4;simp
def IN (L:List TE):Bool:=match uX yE L with
  |none=>false
  | some r2=>match uX zE (rD r2) with
    |none=>false
    |some r3=>decide ((rD r3).head?.map (·.1)=some 4)
theorem aAK {L:List TE}(h:uX yE L=none):IN L=false:=by unfold IN;rw[h]
theorem aAL {L r2:List TE}(h:uX yE L=some r2) (h2:uX zE (rD r2)=none):IN L=false:=by
  unfold IN;rw[h];dsimp only;rw[h2]
theorem ZD {L r2 r3:List TE}(h:uX yE L=some r2) (h2:uX zE (rD r2)=some r3):IN L=decide ((rD r3).head?.map (·.1)=some 4):=by
  unfold IN;rw[h];dsimp only;rw[h2]
theorem aJY {s:pF}(hs:s.length≤900000000): ∃r,zB s=some r∧(match CI (uK s) with
    |some (c,ks)=>r.2.2.1=0∧(r.2.2.2.1,(r.2.2.2.2.1,(r.2.2.2.2.2.1,(r.2.2.2.2.2.2.1,()))))=c∧r.2.2.2.2.2.2.2.1=ks.map (zM (wC s))
    |none=>r.2.2.1≠0):=by
  obtain⟨hT,hTc⟩:=aJV hs;obtain⟨l1,a1,e1,tag,cms,fds,en1,h1,s1,m1⟩:=aQS hT hTc;unfold zB;rw[aQT hs,aUS,h1,aUS];rw[aJU] at m1;unfold CI;have hl1:=s1.ok hT;dsimp only
  have tail: ∀(l:List tH) (a e:Int) (es:List s8) (en:pO) (ids:pM),uW l (wC s)→∃r:((List sE)×Int×Int×pF×pG×(List r7)×(List s8)×pO×pM),
      ((BM l a e (tag,(cms,(fds,(es,())))) (en,()) ([101,110,116,114,105,101,115]:pF) ids).bind fun O=>
 sU (σ:=(List sE)) (
   if (decide (O.2.2=(0:Int)))=true then
    (AB O.1 O.2.1 O.2.2 (tag,(cms,(fds,(es,())))) (en,()) ids).bind fun Z=>
    some (Z)
   else
    some (O.1)
  ) fun aA=>
 (BM aA O.2.1 O.2.2 (tag,(cms,(fds,(es,())))) (en,()) ([99,97,116,97,108,111,103]:pF) ids).bind fun aB=>
 sU (σ:=(List sE)) (
   if (decide (aB.2.2=(0:Int)))=true then
    (AB aB.1 aB.2.1 aB.2.2 (tag,(cms,(fds,(es,())))) (en,()) ids).bind fun aC=>
    some (aC)
   else
    some (aB.1)
  ) fun aD=>
 if 0≤(0:Int)∧(0:Int)<(List.length aD:Int) then
  if (!decide ((qR (.pair (.int .i64) (.pair .str (.pair (.int .i64) .unit))) aD (0:Int)).1=(4:Int)))=true then
   (zT aD aB.2.1 aB.2.2 (tag,(cms,(fds,(es,())))) (en,()) (3:Int) ids).bind fun aE=>
   some ((aD,aE.1,aE.2,tag,cms,fds,es,en,ids))
  else
   some ((aD,aB.2.1,aB.2.2,tag,cms,fds,es,en,ids))
 else none)=some r∧(e≠0→r.2.2.1≠0)∧(r.2.2.2.1,(r.2.2.2.2.1,(r.2.2.2.2.2.1,(r.2.2.2.2.2.2.1,()))))=(tag,(cms,(fds,(es,()))))∧r.2.2.2.2.2.2.2.1=en∧
      (e=0→if IN (l.map er)=true then r.2.2.1=0 else r.2.2.1≠0):=by
    intro l a e es en ids hls;have hl:=hls.ok hT;obtain⟨l2,a2,e2,h2,p2,m2⟩:=Q2 hl a e (tag,(cms,(fds,(es,())))) (en,()) ids yE;have hl2:=p2.suf.ok hl;rw[h2,aUS];dsimp only
    obtain⟨l3,h3,s3,m3⟩: ∃l3:List tH,(if (decide (e2=(0:Int)))=true then
      (AB l2 a2 e2 (tag,(cms,(fds,(es,())))) (en,()) ids).bind fun Z=>some (Z)
     else some l2)=some l3∧uW l3 l2∧(e2=0→l3=tN l2):=by
      by_cases h0:e2=0
      · rw[aUU (aVk h0),CG hl2,aUU h0]
        exact⟨_,rfl,KO hl2,fun _=>rfl⟩
      · rw[aUX (by simpa using h0)]
        exact⟨_,rfl,uW.refl hl2,fun h=>absurd h h0⟩
    unfold sU;rw[h3,aUS];have hl3:=s3.ok hl2;obtain⟨l4,a4,e4,h4,p4,m4⟩:=Q2 hl3 a2 e2 (tag,(cms,(fds,(es,())))) (en,()) ids zE;have hl4:=p4.suf.ok hl3;rw[h4,aUS];dsimp only
    obtain⟨l5,h5,s5,m5⟩: ∃l5:List tH,(if (decide (e4=(0:Int)))=true then
      (AB l4 a4 e4 (tag,(cms,(fds,(es,())))) (en,()) ids).bind fun aC=>some (aC)
     else some l4)=some l5∧uW l5 l4∧(e4=0→l5=tN l4):=by
      by_cases h0:e4=0
      · rw[aUU (aVk h0),CG hl4,aUU h0]
        exact⟨_,rfl,KO hl4,fun _=>rfl⟩
      · rw[aUX (by simpa using h0)]
        exact⟨_,rfl,uW.refl hl4,fun h=>absurd h h0⟩
    rw[h5,aUS];have hl5:=s5.ok hl4;have hpos5:0≤(0:Int)∧(0:Int)<(l5.length:Int):=⟨aVY _,by have:=aVp.2 hl5.ne;omega⟩;rw[aUU hpos5];obtain⟨q,hq1,hq2,hq3⟩: ∃q:Int×Int,(if (!decide ((qR (.pair (.int .i64) (.pair .str (.pair (.int .i64) .unit))) l5 (0:Int)).1=(4:Int)))=true then
   (zT l5 a4 e4 (tag,(cms,(fds,(es,())))) (en,()) (3:Int) ids).bind fun aE=>
   some ((l5,aE.1,aE.2,tag,cms,fds,es,en,ids))
  else
   some ((l5,a4,e4,tag,cms,fds,es,en,ids)))=some (l5,q.1,q.2,tag,cms,fds,es,en,ids)∧(e4≠0→q.2≠0)∧(e4=0→if (qR (.pair (.int .i64) (.pair .str (.pair (.int .i64) .unit))) l5 0).1=4 then q.2=0 else q.2≠0):=by
      by_cases h44:(qR (.pair (.int .i64) (.pair .str (.pair (.int .i64) .unit))) l5 0).1=4
      · rw[aUX (by simp [h44])]
        exact⟨(a4,e4),rfl,id,fun h=>by rw[aUU h44];exact h⟩
      · rw[aUU (by simpa using h44),KN hl5]
        exact⟨E8 l5 a4 e4 3,rfl,fun _=>GR _ _ pJ,fun _=>by rw[aUX h44];exact GR _ _ pJ⟩
    rw[hq1];refine⟨_,rfl,fun he=>hq2 (p4.bad (p2.bad he)),rfl,rfl,fun he=> ?_⟩;have m2':=m2 he;cases hn1:uX yE (l.map er) with
    | none=>
      rw[hn1] at m2';rw[aAK hn1,aUX pJ];exact hq2 (p4.bad m2')
    | some r2=>
      rw[hn1] at m2';obtain⟨k1,k2⟩:=m2';have m4':=m4 k1;rw[m3 k1,Q1,k2] at m4';cases hn2:uX zE (rD r2) with
      | none=>
        rw[hn2] at m4';rw[aAL hn1 hn2,aUX pJ];exact hq2 m4'
      | some r3=>
        rw[hn2] at m4';obtain⟨j1,j2⟩:=m4';have hq3':=hq3 j1;rw[m5 j1] at hq3';have h44:=aQV hl4;rw[j2] at h44;rw[ZD hn1 hn2];by_cases hd:(rD r3).head?.map (·.1)=some 4
        · rw[aUU (aVk hd)]
          rw[aUU (h44.1 hd)] at hq3';exact hq3'
        · rw[aUX (by simpa using hd)]
          rw[aUX (fun h=>hd (h44.2 h))] at hq3';exact hq3'
  cases hh:FL (uK s) with
  | none=>
    rw[hh] at m1;dsimp only at m1
    have hst:FF (l1,a1,e1,tag,cms,fds,en1) (l1,a1,e1,[],en1,[])=some (.inr (l1,a1,e1,[],en1,[])):=by
      unfold FF;dsimp only;rw[aUX (by simpa using m1)]
    rw[uU hst];obtain⟨r,t1,t2,_⟩:=tail l1 a1 e1 [] en1 [] s1;refine⟨r,?_,t2 m1⟩;unfold sU at t1|-;rw[aUS];exact t1
  | some v=>
    obtain⟨tg,st,q⟩:=v;rw[hh] at m1;obtain⟨k1,k2,k3,k4,k5,k6,k7⟩:=m1;dsimp only;subst k1 k3 k4 k5;have hqlen:q.length=l1.length:=by rw[←k2,aVX]
    have hen:en1=[q.length].map (zM (wC s)):=by
      rw[k6,hqlen];show _=[zM (wC s) l1.length];rw[aJW s1]
    subst hen;obtain⟨l',a',e',es',en',ids',q1,q2,q3⟩:=aJX hT hTc (rr:=(l1,a1,0,tag,st.1,st.2,[q.length].map (zM (wC s)))) l1.length l1 a1 [] [q.length] [] (aVi _) s1 pK rfl (fun x=>by rfl);rw[q1];obtain⟨r,t1,t2,t3,t4,t5⟩:=tail l' a' e' es' en' ids' q2;refine⟨r,?_,?_⟩
    · unfold sU at t1|-
      rw[aUS];exact t1
    · rw[k2] at q3
      rw[hqlen];rw[hqlen] at q3;cases hen:FM (l1.length+1) [] [l1.length] q with
      | none=>
        rw[hen] at q3;exact t2 q3
      | some w=>
        obtain⟨es2,ks2,r1⟩:=w;rw[hen] at q3;obtain⟨j1,j2,j3,j4⟩:=q3;have t5':=t5 j1;rw[j4] at t5';dsimp only;subst j2 j3;cases hn1:uX yE r1 with
        |none=>rw[aAK hn1,aUX pJ] at t5';exact t5'
        | some r2=>
          dsimp only;cases hn2:uX zE (rD r2) with
          |none=>rw[aAL hn1 hn2,aUX pJ] at t5';exact t5'
          | some r3=>
            rw[ZD hn1 hn2] at t5';dsimp only;by_cases hd:(rD r3).head?.map (·.1)=some 4
            · rw[aUU (aVk hd)] at t5'
              rw[aUU hd];exact⟨t5',t3,t4⟩
            · rw[aUX (by simpa using hd)] at t5'
              rw[aUX hd];exact t5'
end
noncomputable section
theorem GV {l:pF}(h:l.length<=6000):rZ l:=by unfold rZ;omega
theorem UG {l:pG}(h:FH l):rZ l/\∀y∈l,rZ y:=⟨by have:=h.1;unfold rZ;omega,fun y hy=>GV (h.2 y hy)⟩
theorem aAM {l:List sB}(h:KI l):rZ l/\∀y∈l,U4 y:=⟨by have:=h.1;unfold rZ;omega,fun y hy=>⟨GV (h.2 y hy).1,GV (h.2 y hy).2⟩⟩
theorem Z4.fitP {c:C4}(h:Z4 c):aAn c:=
 ⟨by have:=h.tag;unfold rZ;omega,UG h.com,aAM h.fld,by have:=h.len;omega,fun x hx=>by
  have e:=h.ent x hx;exact⟨GV e.id,GV e.src,GV e.tgt,UG e.com,UG e.flg,aAM e.fld⟩⟩
theorem aQW:((List.range 256).all fun b=>(yB (b:Int)||decide (uV b=[b.toUInt8]))&&(MW (b:Int)||decide (uV b=[b.toUInt8]))&&(!yO (b:Int)||decide (uV b=[b.toUInt8])))=true:=by kernel_rfl
theorem UH (b:UInt8):(yB (b.toNat:Int)=false->uV b.toNat=[b])/\(MW (b.toNat:Int)=false->uV b.toNat=[b])/\(yO (b.toNat:Int)=true->uV b.toNat=[b]):=by
 have h:=aVC.1 aQW b.toNat (aWe.2 (UInt8.toNat_lt b));have hb:b.toNat.toUInt8=b:=by simp
 rw[hb] at h;simp only[aU6,aV5,aU8,aVo] at h;exact⟨fun e=>h.1.1.resolve_left (by rw[e];decide),fun e=>h.1.2.resolve_left (by rw[e];decide),fun e=>h.2.resolve_left (by rw[e];decide)⟩
theorem aAN {s:pF}(h: ∀b∈s,uV b.toNat=[b]):v6 s=s:=by
 induction s with
 |nil=>rfl
 |cons b s ih=>
  unfold v6 at ih|-;rw[aVM,h b aU2,ih (fun c hc=>h c (aU3 _ hc))];rfl
theorem aQX {s:pF}(h:xJ s=true):v6 s=s:=by
 unfold xJ at h;simp only[aU6,aVo,aVB] at h;exact aAN fun b hb=>(UH b).2.1 (by simpa using h.1 b hb)
theorem aQY {s:pF}(h:uT s=true):v6 s=s:=by
 cases s with
 |nil=>rfl
 |cons b t=>
  unfold uT at h;simp only[aU6,aVo,aVB] at h;refine aAN fun c hc=> ?_;rcases aU9.1 hc with rfl|hc
  .exact(UH c).2.2 h.1.2
  .exact(UH c).1 (by simpa using h.2 c hc)
theorem CJ {l:pF}(h:l.length<=1000000000:=by simp only[aUW,aUY,aU7];omega):(l.length:Int)<=9223372036854775807:=by omega
def E9 (ind name attrs s:pF):pF:=(((((((([10]++ind)++[60])++name)++attrs)++[62])++v6 s)++[60,47])++name)++[62]
theorem UI {ind name attrs s:pF}(hi:ind.length<=4) (hn:name.length<=8) (ha:attrs.length<=6010) (hs:s.length<=6000):(E9 ind name attrs s).length<=42040:=by
 have:=PZ s;simp only[E9,aUW,aUY,aU7];omega
theorem aJZ {s:pF}(hs:s.length<=6000):KC s=some (v6 s):=by
 unfold KC;rw[aQw (GV hs)];rfl
theorem ZE {ind name attrs s:pF}(hi:ind.length<=4) (hn:name.length<=8) (ha:attrs.length<=6010) (hs:s.length<=6000):F9 ind name attrs s=some (E9 ind name attrs s):=by
 have he:=PZ s;unfold F9;rw[aJZ hs,aUS]
 iterate 9 rw[aUU CJ]
 rfl
def GW (ind s:pF):pF:=E9 ind yQ [] s
def DF (ind:pF) (l:pG):pF:=l.flatMap (GW ind)
def IP (n:pF):pF:=([32,110,97,109,101,61,34]++n)++[34]
def EA (ind:pF) (f:sB):pF:=E9 ind yD (IP f.1) f.2.1
def GX (ind:pF) (l:List sB):pF:=l.flatMap (EA ind)
theorem aJ0 {n:pF}(h:n.length<=6000):(IP n).length<=6010:=by
 simp only[IP,aUW,aUY,aU7];omega
theorem aAO {ind s:pF}(hi:ind.length<=4) (h:s.length<=6000):(GW ind s).length<=42040:=UI hi pK pK h
theorem aAP {ind:pF}{f:sB}(hi:ind.length<=4) (h:f.1.length<=6000/\f.2.1.length<=6000):(EA ind f).length<=42040:=UI hi pK (aJ0 h.1) h.2
theorem aAQ {ind:pF}(hi:ind.length<=4) {l:pG}(h:FH l):(DF ind l).length<=252240000:=by
 have:=N0 (l:=l) (h:=GW ind) (B:=42040) fun x hx=>aAO hi (h.2 x hx);have h1:=h.1;unfold DF
 calc _<=l.length*42040:=this
  _<=6000*42040:=aWl _ h1
theorem aJ1 {ind:pF}(hi:ind.length<=4) {l:List sB}(h:KI l):(GX ind l).length<=252240000:=by
 have:=N0 (l:=l) (h:=EA ind) (B:=42040) fun x hx=>aAP hi (h.2 x hx);have h1:=h.1;unfold GX
 calc _<=l.length*42040:=this
  _<=6000*42040:=aWl _ h1
theorem aAR {ind:pF}(hi:ind.length<=4) {cl:pG}(hc:FH cl) {fl:List sB}(hf:KI fl) {b:pF}(hb:b.length<=100000):IC ind cl b fl=some ((DF ind cl++b)++GX ind fl):=by
 have hl:=hc.1;have hl2:=hf.1;have c1:=aAQ hi hc;have k:=U5 (f:=TP ind cl) (fun i s=>(s,i)) (fun s=>s) (n:=cl.length) (M:=1000000000) (B:=42040) (fun i=>GW ind (cl.getD i [])) (fun i hi2=>aAO hi (aAp hc hi2)) [] pL (fun i s hi2 hM=>by
  have h1:=aAO hi (aAp hc hi2);have e:=ZE (ind:=ind) (name:=yQ) (attrs:=[]) hi pK pK (aAp hc hi2);unfold TP;dsimp only;rw[aUU (uZ hi2),aUU (tD hi2),aAf,e,aUS,aUU (U7 (n:=1000000000) (by rw[aUW];show s.length+(GW ind (cl.getD i [])).length<=_;omega) pJ),aUU (vP pI)];rfl) (fun b=>by
  unfold TP;dsimp only;rw[aUX (vV _)])
 have k2:=U5 (f:=PF ind fl) (fun i s=>(s,i)) (fun s=>s) (n:=fl.length) (M:=1000000000) (B:=42040) (fun i=>EA ind (fl.getD i fD)) (fun i hi2=>aAP hi (Z6 hf hi2)) (DF ind cl++b) (by rw[aUW];omega) (fun i s hi2 hM=>by
  have h1:=aAP hi (Z6 hf hi2);have h2:=(Z6 hf hi2).1;have h3:=aJ0 h2;have e:F9 ind yD (([32,110,97,109,101,61,34]++(fl.getD i fD).1)++[34]) (fl.getD i fD).2.1=_:=ZE (ind:=ind) (name:=yD) (attrs:=IP (fl.getD i fD).1) hi pK h3 (Z6 hf hi2).2;unfold PF;dsimp only;rw[aUU (uZ hi2),aUU (tD hi2),aAg,aUU CJ,aUU CJ,e,aUS,aUU (U7 (n:=1000000000) (by rw[aUW];show s.length+(EA ind (fl.getD i fD)).length<=_;omega) pJ),aUU (vP pI)];rfl) (fun b=>by
  unfold PF;dsimp only;rw[aUX (vV _)])
 unfold IC;rw[k,U6 (l:=cl) (d:=[]) (GW ind)];unfold sU;rw[aUS,List.nil_append];show (if ((DF ind cl++b).length:Int)<=_ then(rQ (PF ind fl) (DF ind cl++b,0)).bind _ else none)=_;rw[aUU (U7 (n:=1000000000) (by rw[aUW];omega) pJ),k2,U6 (l:=fl) (d:=fD) (EA ind)];rfl
end
noncomputable section
abbrev aQZ:pF:=[32,102,108,97,103,115,61,34]
theorem ZF (x:pF) (r:pG):vX (x::r) [32]=x++r.flatMap (fun y=>[32]++y):=by
 unfold vX;rw[Lib.join_cons];unfold Lib.joinTail;rw[List.flatMap_def]
theorem aJ2 {l:pG}(h:FH l):(vX l [32]).length<=36012000:=by
 cases l with
 |nil=>simp [vX,Lib.join_nil]
 |cons x r=>
  rw[ZF,aUW];have h1:=h.1;have h2:=h.2 x aU2;have h3:=N0 (l:=r) (h:=fun y=>[32]++y) (B:=6001) fun y hy=>by
   have:=h.2 y (aU3 _ hy);simp only[aUW,aUY,aU7];omega
  simp only[aUY] at h1;have h4:r.length*6001<=6000*6001:=aWl _ pI;omega
def GY (l:pG):pF:=if l=[] then[] else(aQZ++vX l [32])++[34]
theorem aQ0 {l:pG}(h:FH l):(GY l).length<=36012100:=by
 have:=aJ2 h;unfold GY;split
 .simp
 .simp only[aUW,aUY,aU7];omega
theorem aAS {σ ρ:Type}{x:Option σ}{y:σ}{k:σ->Option ρ}{r:Option ρ}(h1:x=some y) (h2:k y=r):sU x k=r:=by
 unfold sU;rw[h1];exact h2
abbrev i4:pF:=[32,32,32,32]
abbrev i2:pF:=[32,32]
abbrev sId:pF:=[10,32,32,60,101,110,116,114,121,32,105,100,61,34]
abbrev sSt:pF:=[32,115,116,97,116,101,61,34]
abbrev aQ2:pF:=[10,32,32,60,47,101,110,116,114,121,62]
def IQ (n:Int):pF:=if n=0 then[] else(sSt++qR .str ([[110,101,119],[102,117,122,122,121],[116,114,97,110,115,108,97,116,101,100],[114,101,118,105,101,119,101,100],[111,98,115,111,108,101,116,101]]:pG) n)++[34]
def KP (x:tQ):pF:=(((sId++v6 x.1)++[34])++IQ x.2.2.2.2.2.1)++GY x.2.2.2.2.1
def FN (x:tQ):pF:=if x.2.1=[] then[] else E9 i4 wY [] x.2.1
def EB (x:tQ):pF:=if x.2.2.1=[] then[] else E9 i4 zD [] x.2.2.1
def zZ (x:tQ):pF:=((KP x++[62])++((DF i4 x.2.2.2.1++(FN x++EB x))++GX i4 x.2.2.2.2.2.2.1))++aQ2
theorem aJ4 {n:Int}(h0:0<=n) (h1:n<=4):(qR .str ([[110,101,119],[102,117,122,122,121],[116,114,97,110,115,108,97,116,101,100],[114,101,118,105,101,119,101,100],[111,98,115,111,108,101,116,101]]:pG) n).length<=10:=aQk h0 h1
theorem aAT {n:Int}(h0:0<=n) (h1:n<=4):(IQ n).length<=30:=by
 have:=aJ4 h0 h1;unfold IQ;split
 .simp
 .simp only[aUW,aUY,aU7];omega
theorem aQ3 {x:tQ}(h:IJ x):(FN x).length<=42040:=by
 unfold FN;split
 .simp
 .exact UI pK pK pK h.src
theorem aQ4 {x:tQ}(h:IJ x):(EB x).length<=42040:=by
 unfold EB;split
 .simp
 .exact UI pK pK pK h.tgt
theorem aQ5 {x:tQ}(h:IJ x) (r0:0<=x.2.2.2.2.2.1) (r4:x.2.2.2.2.2.1<=4):(KP x).length<=36100000:=by
 have h1:=PZ x.1;have h2:=aAT r0 r4;have h3:=aQ0 h.flg;have h4:=h.id;simp only[KP,aUW,aUY,aU7];omega
theorem aQ6 {x:tQ}(h:IJ x) (r0:0<=x.2.2.2.2.2.1) (r4:x.2.2.2.2.2.1<=4):MP x=some (zZ x):=by
 have e1:=PZ x.1;have e2:=h.id;have e3:=aJ4 r0 r4;have e4:=aAT r0 r4;have e5:=aJ2 h.flg;have e6:=aQ5 h r0 r4;have e7:=h.flg.1;have c1:=aAQ (ind:=i4) pK h.com;have c2:=aJ1 (ind:=i4) pK h.fld;have c3:=aQ3 h;have c4:=aQ4 h;unfold MP;rw[aJZ h.id,aUS,aUU CJ,aUU CJ];refine aAS (y:=((sId++v6 x.1)++[34])++IQ x.2.2.2.2.2.1) ?_ ?_
 .by_cases hs:x.2.2.2.2.2.1=0
  .rw[aUX (by simp [hs])];simp [IQ,hs]
  .rw[aUU (by simpa using hs),aUU ⟨r0,by simp only[aUY,aU7];omega⟩]
   iterate 3 rw[aUU CJ]
   unfold IQ;rw[aUX hs]
 refine aAS (y:=KP x) ?_ ?_
 .by_cases hf:x.2.2.2.2.1=[]
  .rw[aUX (by simp [hf])];simp [KP,GY,hf]
  .have hp:=aVp.2 hf;rw[aUU pL,aUU ⟨pI,pI⟩]
   iterate 3 rw[aUU CJ]
   unfold KP GY;rw[aUX hf]
 refine aAS (y:=FN x) ?_ ?_
 .by_cases hs:x.2.1=[]
  .rw[aUX (by simp [hs])];simp [FN,hs]
  .have e:=ZE (ind:=i4) (name:=wY) (attrs:=[]) pK pK pK h.src;have el:=UI (ind:=i4) (name:=wY) (attrs:=[]) pK pK pK h.src;rw[aUU (by simpa using hs),e,aUS,List.nil_append,aUU (U7 (n:=1000000000) pI pJ)];simp [FN,hs]
 by_cases ht:x.2.2.1=[]
 .have et:EB x=[]:=by simp [EB,ht]
  rw[aUX (by simp [ht]),aUU CJ,aAR (ind:=i4) pK h.com h.fld pI,aUS]
  iterate 2 rw[aUU CJ]
  unfold zZ;rw[et,List.append_nil]
 .have e:=ZE (ind:=i4) (name:=zD) (attrs:=[]) pK pK pK h.tgt;have et:EB x=E9 i4 zD [] x.2.2.1:=by simp [EB,ht]
  rw[aUU (by simpa using ht),e,aUS,<-et,aUU (U7 (n:=1000000000) (by simp only[aUW];omega) pJ),aUU CJ,aAR (ind:=i4) pK h.com h.fld (by simp only[aUW];omega),aUS]
  iterate 2 rw[aUU CJ]
  rfl
end
noncomputable section
abbrev aQ7:pF:=[60,99,97,116,97,108,111,103,32,116,97,103,61,34]
abbrev aQ8:pF:=[10,60,101,110,116,114,105,101,115,62]
abbrev Q8:pF:=[10,60,47,101,110,116,114,105,101,115,62,10,60,47,99,97,116,97,108,111,103,62,10]
def IR (c:C4):pF:=(((aQ7++c.1)++[34,62])++(DF i2 c.2.1++GX i2 c.2.2.1))++aQ8
theorem aJ5 {c:C4}(hc:Z4 c):FC c=some (if zL c=true then(IR c,c.2.2.2.1.map zZ,Q8,0) else([],[],[],1)):=by
 unfold FC;rw[aQg hc.fitP,aUS];by_cases hok:zL c=true
 .have hl:=hc.len;have q1:=hc.tag;have h2:=aAQ (ind:=i2) pK hc.com;have h3:=aJ1 (ind:=i2) pK hc.fld;have k:=U5 (f:=TQ c) (fun i b=>(i,b)) (fun b=>b) (n:=c.2.2.2.1.length) (M:=1000000) (B:=1) (fun i=>[zZ (c.2.2.2.1.getD i eD)]) (fun i hi=>by simp) [] pL (fun i b hi hM=>by
   obtain⟨r0,r4⟩:=aQl (aI5 hok hi);unfold TQ;dsimp only;rw[aUU (uZ hi),aUU (tD hi),aIV,aQ6 (hc.ent _ (PV hi)) r0 r4,aUS,aUU pL,aUU (vP pI)]) (fun b=>by
   unfold TQ;dsimp only;rw[aUX (vV _)])
  rw[hok,aUX pJ,aUU rfl,aUU CJ,aUU CJ,aAR (ind:=i2) pK hc.com hc.fld pK,aUS,List.append_nil]
  iterate 2 rw[aUU CJ]
  rw[k,U6 (l:=c.2.2.2.1) (d:=eD) (fun x=>[zZ x])];unfold sU;rw[aUS];rw[List.nil_append,aI4];rfl
 .simp only[aV2] at hok;rw[hok,aUU (show (!false)=true from rfl),aUX pJ]
theorem aQ9:PM=some true:=by kernel_rfl
end
noncomputable section
theorem UJ {l:List sB}{n:pF}(h:(l.any fun a=>decide (a.1=n))=true): ∃a∈l,a.1=n/\sC l n=a.2.1:= @aJz [] n l [] h
theorem UK:t7 []=true:=by kernel_rfl
theorem aRa {s y:pF}(h:xX s=some y):t7 y=true:=by
 unfold xX at h;split at h
 .split at h
  .rename_i h2;cases h;exact h2
  .cases h
 .cases h
def tJ (P:List TE):Prop:= ∃Q t,P=Q++[t]/\t.1=2
theorem tJ.ne {P:List TE}(h:tJ P):P≠[]:=by
 obtain⟨Q,t,rfl,_⟩:=h;simp
theorem tJ.one {t:TE}(h:t.1=2):tJ [t]:=⟨[],t,rfl,h⟩
theorem tJ.app {P Q:List TE}(h:tJ Q):tJ (P++Q):=by
 obtain⟨R,t,rfl,ht⟩:=h;exact⟨P++R,t,by rw[aU0],ht⟩
theorem tJ.cons {P:List TE}{u:TE}(h:tJ P):tJ (u::P):=tJ.app (P:=[u]) h
theorem FO {P R R':List TE}(h:P≠[]):rR (P++R)=rR (P++R'):=by
 cases P with
 |nil=>exact absurd rfl h
 |cons t P=>rfl
theorem ZG (n:pF) (t:TE) (r:List TE):uX n (t::r)=if (vQ t).1=3/\(vQ t).2.1=n then some r else none:=rfl
theorem aJ6 (x:xY) (t:TE) (r:List TE) (h:x.1=2):yC x (t::r)=some ([],r):=by
 show (if x.1=2 then some (([]:pF),r) else _)=_;rw[aUU h]
theorem aRb (x:xY) (t:TE) (h:x.1≠2):yC x [t]=none:=by
 show (if x.1=2 then some (([]:pF),([]:List TE)) else none)=_;rw[aUX h]
theorem UL (x:xY) (t u:TE) (r2:List TE) (h:x.1≠2):yC x (t::u::r2)=if u.1=3 then(match xX u.2 with
    |some s=>(uX x.2.1 r2).map fun q=>(s,q)
    |none=>none) else(uX x.2.1 (u::r2)).map fun q=>([],q):=by
 show (if x.1=2 then some (([]:pF),u::r2) else(if u.1=3 then(match xX u.2 with
    |some s=>(uX x.2.1 r2).map fun q=>(s,q)
    |none=>none) else(uX x.2.1 (u::r2)).map fun q=>([],q)))=_
 rw[aUX h]
theorem aAU {n:pF}{L R:List TE}(h:uX n L=some R): ∃t,L=t::R/\t.1=2/\∀R',uX n (t::R')=some R':=by
 cases L with
 |nil=>cases h
 |cons t r=>
  rw[ZG] at h;by_cases hc:(vQ t).1=3/\(vQ t).2.1=n
  .rw[aUU hc] at h;cases h;exact⟨t,rfl,UB (by rw[hc.1];decide),fun R'=>by rw[ZG,aUU hc]⟩
  .rw[aUX hc] at h;cases h
theorem ZH {x:xY}{L R:List TE}{s:pF}(h:yC x L=some (s,R)) (hx: ∃t r,L=t::r/\t.1=2): ∃P,L=P++R/\tJ P/\(∀R',yC x (P++R')=some (s,R'))/\t7 s=true:=by
 obtain⟨t,r,rfl,ht⟩:=hx;by_cases h2:x.1=2
 .rw[aJ6 x t r h2] at h;cases h;exact⟨[t],rfl,tJ.one ht,fun R'=>aJ6 x t R' h2,UK⟩
 .cases r with
  |nil=>rw[aRb x t h2] at h;cases h
  |cons u r2=>
   rw[UL x t u r2 h2] at h;by_cases h3:u.1=3
   .rw[aUU h3] at h;cases hte:xX u.2 with
    |none=>rw[hte] at h;cases h
    |some y=>
     rw[hte] at h;dsimp only at h;obtain⟨q,hq,he⟩:=aU1.1 h;cases he;obtain⟨v,rfl,hv,hn⟩:=aAU hq;refine⟨[t,u,v],rfl,tJ.app (P:=[t,u]) (tJ.one hv),fun R'=> ?_,aRa hte⟩;show yC x (t::u::v::R')=_;rw[UL x t u _ h2,aUU h3,hte];dsimp only;rw[hn];rfl
   .rw[aUX h3] at h;obtain⟨q,hq,he⟩:=aU1.1 h;cases he;obtain⟨v,hvq,hv,hn⟩:=aAU hq;injection hvq with e1 e2
    subst e1 e2;refine⟨[t,u],rfl,tJ.app (P:=[t]) (tJ.one hv),fun R'=> ?_,UK⟩;show yC x (t::u::R')=_;rw[UL x t u _ h2,aUX h3,hn];rfl
theorem aJ7 {x:xY}{cs cs':pG}{L R:List TE}(h:AG x cs L=some (cs',R)) (hx: ∃t r,L=t::r/\t.1=2) (hv:w9 cs=true): ∃P,L=P++R/\tJ P/\(∀R',AG x cs (P++R')=some (cs',R'))/\w9 cs'=true:=by
 unfold AG at h;split at h
 .rename_i hc;obtain⟨q,hq,he⟩:=aU1.1 h;cases he;obtain⟨P,h1,h2,h3,h4⟩:=ZH (s:=q.1) (R:=q.2) hq hx;refine⟨P,h1,h2,fun R'=>by unfold AG;rw[aUU hc,h3];rfl,aQs hv ?_ h4⟩;have:=(KJ hv).1;have:=hc.2.2;omega
 .cases h
theorem aJ8 {x:xY}{fs fs':List sB}{L R:List TE}(h:AH x fs L=some (fs',R)) (hx: ∃t r,L=t::r/\t.1=2) (hv:w4 fs=true): ∃P,L=P++R/\tJ P/\(∀R',AH x fs (P++R')=some (fs',R'))/\w4 fs'=true:=by
 unfold AH at h;split at h
 .rename_i hc;obtain⟨q,hq,he⟩:=aU1.1 h;cases he;obtain⟨P,h1,h2,h3,h4⟩:=ZH (s:=q.1) (R:=q.2) hq hx;refine⟨P,h1,h2,fun R'=>by unfold AH;rw[aUU hc,h3];rfl,aQt hv ?_ ?_ h4 ?_⟩
  .have:=(GP hv).1;have:=hc.2.2.2.2;omega
  .have ha:=hc.1;unfold xM at ha;rw[aU6] at ha;have:=aVC.1 ha.2 vI aU2;obtain⟨a,ham,_,hg⟩:=UJ this;rw[hg];exact aVC.1 hc.2.1 a ham
  .rw[hc.2.2.2.1];decide
 .cases h
structure I6 (st:FJ):Prop where
 src:t7 st.1=true
 tgt:t7 st.2.1=true
 com:w9 st.2.2.1=true
 fld:w4 st.2.2.2.1=true
theorem aJ9 {L:List TE}(h:(rR L).1≠0): ∃t r,L=t::r/\t.1=2:=by
 cases L with
 |nil=>exact absurd rfl h
 |cons t r=>exact⟨t,r,rfl,UB h⟩
theorem aAV: ∀(n:Nat) (st st':FJ) (L R:List TE),uB n st L=some (st',R)->I6 st->∃P,L=P++R/\tJ P/\(∀R' m,P.length<=m->uB m st (P++R')=some (st',R'))/\I6 st'
 |0,_,_,_,_,h,_=>by cases h
 |n+1,st,st',L,R,h,hv=>by
  unfold uB at h;have goon: ∀(st1:FJ) (P1 r:List TE),rD L=P1++r->tJ P1->uB n st1 r=some (st',R)->I6 st1->(∀R' m,uB (m+1) st (L.takeWhile vO++(P1++R'))=uB m st1 R')->
    ∃P,L=P++R/\tJ P/\(∀R' m,P.length<=m->uB m st (P++R')=some (st',R'))/\I6 st':=by
   intro st1 P1 r h1 h2 h3 h4 h5;obtain⟨P,e1,e2,e3,e4⟩:=aAV n st1 st' r R h3 h4;have hL:L=L.takeWhile vO++(P1++r):=by rw[<-h1];exact(List.takeWhile_append_dropWhile).symm
   refine⟨L.takeWhile vO++(P1++P),?_,tJ.app (tJ.app e2),fun R' m hm=> ?_,e4⟩
   .rw[aU0,aU0,<-e1];exact hL
   .have hp:=aVp.2 h2.ne;simp only[aUW] at hm;obtain⟨m,rfl⟩: ∃k,m=k+1:=⟨m-1,pI⟩;rw[aU0,aU0,h5,e3 R' m pI]
  have hsk: ∀(P1 r:List TE),rD L=P1++r->P1≠[]->∀R',rD (L.takeWhile vO++(P1++R'))=P1++R':=fun P1 r h1 h2 R'=>by
   have hG: ∀t∈L.takeWhile vO,vO t=true:=fun t ht=>aVC.1 (List.all_takeWhile) t ht;cases P1 with
   |nil=>exact absurd rfl h2
   |cons p P'=>
    have hp:vO p=false:=by
     have h3:L.dropWhile vO=p::(P'++r):=h1;have:=List.head?_dropWhile_not vO L;rw[h3] at this;simpa using this
    unfold rD;rw[List.dropWhile_append_of_pos hG,List.cons_append,List.dropWhile_cons,hp];rfl
  by_cases h30:(rR (rD L)).1=3\/(rR (rD L)).1=0
  .rw[aUU h30] at h;obtain⟨q,hq,he⟩:=aU1.1 h;cases he;obtain⟨t,h1,h2,h3⟩:=aAU hq;have h1':rD L=[t]++R:=h1;have hs:=hsk [t] R h1' pK;refine⟨L.takeWhile vO++[t],?_,tJ.app (tJ.one h2),fun R' m hm=> ?_,hv⟩
   .rw[aU0,<-h1'];exact(List.takeWhile_append_dropWhile).symm
   .simp only[aUW,aUY,aU7] at hm;obtain⟨m,rfl⟩: ∃k,m=k+1:=⟨m-1,pI⟩;unfold uB;rw[aU0,hs,FO (R':=R) pK,<-h1',aUU h30];rw[show [t]++R'=t::R' from rfl,h3];rfl
  .rw[aUX h30] at h;have htag:=aJ9 (L:=rD L) (fun e=>h30 (.inr e));by_cases hc:(rR (rD L)).2.1=yQ
   .rw[aUU hc] at h;cases hr:AG (rR (rD L)) st.2.2.1 (rD L) with
    |none=>rw[hr] at h;cases h
    |some w=>
     obtain⟨cs,r⟩:=w;rw[hr] at h;obtain⟨P1,e1,e2,e3,e4⟩:=aJ7 hr htag hv.com;refine goon (st.1,st.2.1,cs,st.2.2.2.1,st.2.2.2.2.1,st.2.2.2.2.2) P1 r e1 e2 h ⟨hv.src,hv.tgt,e4,hv.fld⟩ fun R' m=> ?_;have hpk:rR (P1++R')=rR (rD L):=by rw[e1];exact FO e2.ne
     rw[uB,hsk P1 r e1 e2.ne,hpk,aUX h30,aUU hc,e3]
   .rw[aUX hc] at h;by_cases hf:(rR (rD L)).2.1=yD
    .rw[aUU hf] at h;cases hr:AH (rR (rD L)) st.2.2.2.1 (rD L) with
     |none=>rw[hr] at h;cases h
     |some w=>
      obtain⟨fs,r⟩:=w;rw[hr] at h;obtain⟨P1,e1,e2,e3,e4⟩:=aJ8 hr htag hv.fld;refine goon (st.1,st.2.1,st.2.2.1,fs,st.2.2.2.2.1,st.2.2.2.2.2) P1 r e1 e2 h ⟨hv.src,hv.tgt,hv.com,e4⟩ fun R' m=> ?_;have hpk:rR (P1++R')=rR (rD L):=by rw[e1];exact FO e2.ne
      rw[uB,hsk P1 r e1 e2.ne,hpk,aUX h30,aUX hc,aUU hf,e3]
    .rw[aUX hf] at h;by_cases hs:(rR (rD L)).2.1=wY
     .rw[aUU hs] at h;split at h
      .rename_i hg;cases hr:yC (rR (rD L)) (rD L) with
       |none=>rw[hr] at h;cases h
       |some w=>
        obtain⟨s,r⟩:=w;rw[hr] at h;obtain⟨P1,e1,e2,e3,e4⟩:=ZH hr htag;refine goon (s,st.2.1,st.2.2.1,st.2.2.2.1,true,st.2.2.2.2.2) P1 r e1 e2 h ⟨e4,hv.tgt,hv.com,hv.fld⟩ fun R' m=> ?_;have hpk:rR (P1++R')=rR (rD L):=by rw[e1];exact FO e2.ne
        rw[uB,hsk P1 r e1 e2.ne,hpk,aUX h30,aUX hc,aUX hf,aUU hs,aUU hg,e3]
      .cases h
     .rw[aUX hs] at h;by_cases ht:(rR (rD L)).2.1=zD
      .rw[aUU ht] at h;split at h
       .rename_i hg;cases hr:yC (rR (rD L)) (rD L) with
        |none=>rw[hr] at h;cases h
        |some w=>
         obtain⟨s,r⟩:=w;rw[hr] at h;obtain⟨P1,e1,e2,e3,e4⟩:=ZH hr htag;refine goon (st.1,s,st.2.2.1,st.2.2.2.1,st.2.2.2.2.1,true) P1 r e1 e2 h ⟨hv.src,e4,hv.com,hv.fld⟩ fun R' m=> ?_;have hpk:rR (P1++R')=rR (rD L):=by rw[e1];exact FO e2.ne
         rw[uB,hsk P1 r e1 e2.ne,hpk,aUX h30,aUX hc,aUX hf,aUX hs,aUU ht,aUU hg,e3]
       .cases h
      .rw[aUX ht] at h;cases h
end
end Go.Proofs.YtkpflnijijccpaaGreatDoor
