/- ElementsPrint returns true for every catalog (Print gives the canonical body and Pieces its pieces, or ErrArg): the tied card of the statement, over the row's statement. No condition. -/
/- Packed by a program of mine (wip/tools/pack.py): the same texts with short names and few blanks. -/
import Derived.Deep.CondSized
import Derived.Deep.DeepHandedRow
import Derived.Deep.DeepWitnessRowRef
import Derived.KernelRfl
import Derived.Laws.BitsLemmas
import Derived.Lib.Index
import Derived.Lib.IndexAny
import Derived.Lib.LaidIn
import Derived.Lib.LaidTab
import Derived.Lib.LaidU8T
import Derived.Lib.MapLaws
import Derived.Lib.RowBridge
import Derived.Lib.SpaceR
import Derived.Lib.TrimAscii
import Derived.Lib.TrimUEq
import Derived.Lib.ValidLaws
import Derived.OpenShut
import Derived.OrdersIn
import Derived.ProofKit
import Derived.SevenTiedAt
import Derived.SizedLaws
import Derived.Sort.Walk0
import Derived.Test.YtkpflnijijccpaaGreatDoorCards
import Derived.Test.YtkpflnijijccpaaGreatDoorRows
import Derived.Test.YtkpflnijijccpaaGreatDoorTie
import Derived.WalkKit
import Derived.Test.YtkpflnijijccpaaGreatDoorE003
set_option linter.defProp false
set_option linter.unusedVariables false
set_option linter.unusedSimpArgs false
set_option linter.unusedSectionVars false
set_option maxRecDepth 100000
set_option maxHeartbeats 4000000
namespace Go.Proofs.YtkpflnijijccpaaGreatDoor
open Vc
noncomputable section
def aGw (O:wU):(Bool×Int)→Option ((Bool×Int)⊕Bool):=fun(Z,aA)=>if (decide (aA<(O.2.2.1.length:Int)))=true then if 0≤aA∧aA<(O.2.2.1.length:Int) then if ((Z==true)=true→((A6 ((qB (.pair .str (.pair .str .unit)) O.2.2.1 aA).2.1))).isSome=true) then if pO (aA+(1:Int)) then some (.inl ((Z&&(val (A6 ((qB (.pair .str (.pair .str .unit)) O.2.2.1 aA).2.1)))),(aA+(1:Int)))) else none else none else none else some (.inr Z)
def aGx (O:wU):(Bool×Int)→Option ((Bool×Int)⊕Bool):=fun(Z,aA)=>if (decide (aA<(O.2.2.1.length:Int)))=true then if 0≤aA∧aA<(O.2.2.1.length:Int) then if ((Z==true)=true→((A6 ((qB (.pair .str (.pair .str .unit)) O.2.2.1 aA).2.1))).isSome=true) then if pO (aA+(1:Int)) then some (.inl ((Z&&(val (A6 ((qB (.pair .str (.pair .str .unit)) O.2.2.1 aA).2.1)))),(aA+(1:Int)))) else none else none else none else some (.inr Z)
def C6 (O:(List rO)) (Z:Int) (aA:Int) (aB:rS) (aC:(p6×Unit)) (aD:wU) (aE:sH) (aF:p4):Option ((List rO)×Int×Int×(List qK)):=if ((vB aD ([110,97,109,101]:oT) ([]:oT))).isSome=true then (vB aD ([110,97,109,101]:oT) ([]:oT)).bind fun aG=>(IT aE.2.2.2.2.2.2.1 (rM .str .str aG ([110,97,109,101]:oT))).bind fun aH=>sG (rF (aGw aD) (true,(0:Int))) fun aI=>(wD O Z aA (aB.1,(aB.2.1,(aB.2.2.1,(aB.2.2.2.1,())))) (aC.1,()) ((!true)||(!aI)) (aD.2.2.2.1||aH.2) (decide ((aE.2.2.2.2.2.2.1.length:Int)=(20:Int))) aF).bind fun aJ=>(AB O aJ.1 aJ.2 (aB.1,(aB.2.1,(aB.2.2.1,(aB.2.2.2.1,())))) (aC.1,()) aD aF).bind fun aK=>(IN aE.2.2.2.2.2.2.1 (rM .str .str aG ([110,97,109,101]:oT)) aK.1).bind fun aL=>some ((aK.2.1,aK.2.2.1,aK.2.2.2,aL)) else (D0 aD ([110,97,109,101]:oT) ([]:oT)).bind fun aM=>(IT aE.2.2.2.2.2.2.1 ([]:oT)).bind fun aN=>sG (rF (aGx aD) (true,(0:Int))) fun aO=>(wD O Z aA (aB.1,(aB.2.1,(aB.2.2.1,(aB.2.2.2.1,())))) (aC.1,()) ((!false)||(!aO)) (aD.2.2.2.1||aN.2) (decide ((aE.2.2.2.2.2.2.1.length:Int)=(20:Int))) aF).bind fun aP=>(AB O aP.1 aP.2 (aB.1,(aB.2.1,(aB.2.2.1,(aB.2.2.2.1,())))) (aC.1,()) aD aF).bind fun aQ=>(IN aE.2.2.2.2.2.2.1 ([]:oT) aQ.1).bind fun aR=>some ((aQ.2.1,aQ.2.2.1,aQ.2.2.2,aR))
section
variable (O:wU) (Z:(List rO)) (aA:Int) (aB:Int) (aC:rS) (aD:(p6×Unit)) (aE:Nat) (aF:Nat) (aG:sH) (aH:Nat) (aI:p4)
abbrev a7U:List pN:=[(.val .ref (some (0,0)),none),(.val vA O,none),(.val .ref (some (3,0)),none)]
abbrev a7V:List pM:=[.cells rY (Z,(aA,(aB,(aC,((some 5),aD))))) [(6,1),(8,2)],.grow 53 7 aE,.grow 3 1 aF,.cells rN aG [(3,4)],.grow 9 1 aH,.map .str .bool aI]
@[go_sem] def a7W:pR:=⟨[aE=(aC.2.2.2.1.length),aF=(aD.1.length),aH=(aG.2.2.2.1.length),((C6 Z aA aB aC aD O aG aI)).isSome=true],[],[.cells rY ((val (C6 Z aA aB aC aD O aG aI)).1,((val (C6 Z aA aB aC aD O aG aI)).2.1,((val (C6 Z aA aB aC aD O aG aI)).2.2.1,((aC.1,(aC.2.1,(aC.2.2.1,(aC.2.2.2.1,())))),((some 5),(aD.1,())))))) [(6,1),(8,2)],.grow 53 7 (aC.2.2.2.1.length),.grow 3 1 (aD.1.length),.cells rN (aG.1,(aG.2.1,(aG.2.2.1,(aG.2.2.2.1,(aG.2.2.2.2.1,(aG.2.2.2.2.2.1,((val (C6 Z aA aB aC aD O aG aI)).2.2.2,()))))))) [(3,4),(6,6)],.grow 9 1 (aG.2.2.2.1.length),.map .str .bool aI,.grow 111 2 (((val (C6 Z aA aB aC aD O aG aI)).2.2.2).length)]⟩
def aGy:List pN→List pM→Option pR:=qU (V:=(wU×(List rO)×Int×Int×rS×(p6×Unit)×Nat×Nat×sH×Nat×p4)) (fun x=>a7U x.1) (fun x=>a7V x.2.1 x.2.2.1 x.2.2.2.1 x.2.2.2.2.1 x.2.2.2.2.2.1 x.2.2.2.2.2.2.1 x.2.2.2.2.2.2.2.1 x.2.2.2.2.2.2.2.2.1 x.2.2.2.2.2.2.2.2.2.1 x.2.2.2.2.2.2.2.2.2.2) fun x=>a7W x.1 x.2.1 x.2.2.1 x.2.2.2.1 x.2.2.2.2.1 x.2.2.2.2.2.1 x.2.2.2.2.2.2.1 x.2.2.2.2.2.2.2.1 x.2.2.2.2.2.2.2.2.1 x.2.2.2.2.2.2.2.2.2.1 x.2.2.2.2.2.2.2.2.2.2
@[go_sem] def aQx:aGy (no_index (a7U O)) (no_index (a7V Z aA aB aC aD aE aF aG aH aI))=some (a7W O Z aA aB aC aD aE aF aG aH aI):=qV (fun⟨a0,a1,a2,a3,a4,a5,a6,a7,a8,a9,a10⟩ ⟨b0,b1,b2,b3,b4,b5,b6,b7,b8,b9,b10⟩ h1 h2=>by cases h1;cases h2;rfl) (O,Z,aA,aB,aC,aD,aE,aF,aG,aH,aI)
end
@[go_sem] abbrev Q0:Nat×qC:=(84,⟨[.p rY [6,8],.v,.p rN [3]],aGy,[(0,7,.m)],[1,2,4,5],none⟩)
def wE:qM Tryz.prog [yO,rG,vH,vG,A4,wV,CV,zB] (qO [L6,a5D,KZ,BQ,J5,a4X]):=⟨⟨A5,⟨rJ,⟨vX,⟨vW,⟨BO,⟨xP,⟨FU,⟨AR,trivial⟩⟩⟩⟩⟩⟩⟩⟩,pU P3 (pU aFk (pU OM (pU CY (pU LR (pU aEX qS))))),qQ⟩
def aMi:qM Tryz.prog [yO,rG,vH,vG,A4,wV,CV,zB] (qO [a5D,KZ,BQ,J5,a4X,L7]):=⟨⟨A5,⟨rJ,⟨vX,⟨vW,⟨BO,⟨xP,⟨FU,⟨AR,trivial⟩⟩⟩⟩⟩⟩⟩⟩,pU aFk (pU OM (pU CY (pU LR (pU aEX (pU P4 qS))))),qQ⟩
def UI:qE Tryz.prog Q0:=by
 refine qW wE Tryz.func84 (c:=_) rfl (N:=74) pE (ts:=[]) rfl (fun _ _=>rfl) ?_;intro⟨O,Z,aA,aB,aC,aD,aE,aF,aG,aH,aI⟩ hs hrow;dsimp only[a7U,a7V,a7W,qR,pX,qD,qI,qT,Nat.reduceAdd] at hs hrow|-;obtain⟨rfl,rfl,rfl,hz⟩:=hs;obtain⟨z0,d⟩:=aQF.1 hz
 try rw[r8 d]
 clear hz;unfold C6 at d;refine pL wE ?_;refine pW ?_;by_cases hva1:((vB O ([110,97,109,101]:oT) ([]:oT))).isSome=true
 .rw[aQI hva1] at d;obtain⟨aJ,hv1,hw1,d⟩:=q8 d
  try simp only[go_sem] at hw1
  refine qJ wE ?_ (hp:=by exact(pZ hv1)) (h:=by simp only[go_sem,hw1];rfl);refine pT ?_;obtain⟨aK,hv2,hw2,d⟩:=q8 d
  try simp only[go_sem] at hw2
  refine tW wE ?_ (hp:=by exact(pZ hv2)) (h:=by simp only[go_sem,hw2];rfl);refine pL wE ?_;refine pW ?_;refine pL wE ?_;refine qY ?_;obtain⟨aL,hy1,d⟩:=r9 d;refine sE 0 (fun s=>s=(fun x=>⟨[(0,(.val .ref (some (0,0)),none)),(2,(.val .ref (some (3,0)),none)),(4,(.val .ref (some (6,0)),none)),(6,(.val .mp (some 7),none)),(7,(.val .bool true,none)),(9,(.val .bool aK.2,none)),(10,(.val .bool x,none))],[(0,.cells rY (Z,(aA,(aB,((aC.1,(aC.2.1,(aC.2.2.1,(aC.2.2.2.1,())))),((some 5),(aD.1,())))))) [(6,1),(8,2)]),(1,.grow 53 7 (aC.2.2.2.1.length)),(2,.grow 3 1 (aD.1.length)),(3,.cells rN aG [(3,4)]),(4,.grow 9 1 (aG.2.2.2.1.length)),(5,.map .str .bool aI),(6,.cells vA O []),(7,.map .str .str aJ)],8,74,6⟩) aL) ?_ ?_
  .refine sC hy1 (fun x=>⟨[(0,(.val .ref (some (0,0)),none)),(2,(.val .ref (some (3,0)),none)),(4,(.val .ref (some (6,0)),none)),(6,(.val .mp (some 7),none)),(7,(.val .bool true,none)),(9,(.val .bool aK.2,none)),(10,(.val .bool x.1,none)),(29,(.val (.list (.pair .str (.pair .str .unit))) O.2.2.1,none)),(30,(.val (.int .i64) (O.2.2.1.length:Int),none)),(31,(.val (.int .i64) x.2,none))],[(0,.cells rY (Z,(aA,(aB,((aC.1,(aC.2.1,(aC.2.2.1,(aC.2.2.2.1,())))),((some 5),(aD.1,())))))) [(6,1),(8,2)]),(1,.grow 53 7 (aC.2.2.2.1.length)),(2,.grow 3 1 (aD.1.length)),(3,.cells rN aG [(3,4)]),(4,.grow 9 1 (aG.2.2.2.1.length)),(5,.map .str .bool aI),(6,.cells vA O []),(7,.map .str .str aJ)],8,74,6⟩) ⟨[0,2,4,6,7,9,10,29,30,31],[(0,0),(1,1),(2,2),(3,3),(4,4),(5,5),(6,6),(7,70)]⟩ pF ?_;intro x1 w1 n1 e g;obtain⟨aM,aN⟩:=x1;unfold aGw at e;dsimp only at e|-;refine pL wE ?_;refine pW ?_;refine pY e (fun e hc2=> ?_) (fun e hc2=> ?_)
   .refine qG (pT (pW (qY ?_)));obtain⟨hg3,e⟩:=pP e;refine pL wE ?_ (hp:=by exact hg3);obtain⟨hg4,e⟩:=pP e;refine qJ wE ?_ (hp:=by exact⟨id,id,hg4,rI⟩);refine r5 (pT ?_);obtain⟨hg5,e⟩:=pP e;refine qJ wE ?_ (hp:=by exact hg5);cases e;exact rT ⟨⟨[0,2,4,6,7,9,10,29,30,31],[(0,0),(1,1),(2,2),(3,3),(4,4),(5,5),(6,6),(7,7)]⟩,_,by rfl,g⟩
   .refine s8 (s7 (sA ?_));cases e;cases g;exact s9 ⟨⟨[0,2,4,6,7,9,10],[(0,0),(1,1),(2,2),(3,3),(4,4),(5,5),(6,6),(7,7)]⟩,by rfl⟩
  .rintro _ rfl;dsimp only at d|-;refine sD (pT ?_);obtain⟨aO,hv6,hw6,d⟩:=q8 d
   try simp only[go_sem] at hw6
   refine tW wE ?_ (hp:=by exact⟨id,fun f=>by first|exact rU f|exact rfl|exact f.elim|simp_all,rU,pD,pD,pD,pD,pD,(pZ hv6)⟩) (h:=by simp only[go_sem,hw6];rfl)
   obtain⟨aP,hv7,hw7,d⟩:=q8 d
   try simp only[go_sem] at hw7
   obtain⟨aQ,hv8,hw8,d⟩:=q8 d
   try simp only[go_sem] at hw8
   refine xN wE ?_ (hp:=by exact⟨pD,pD,pD,pD,pD,pZ hv7,(pZ hv8)⟩) (h:=by simp only[go_sem,hw7,hw8];rfl)
   cases d;exact oV [(0,0),(1,1),(2,2),(3,3),(4,4),(5,5),(6,936)]
 rw[aQO hva1] at d;obtain⟨aR,hv9,hw9,d⟩:=q8 d
 try simp only[go_sem] at hw9
 refine qJ aMi ?_ (hp:=by exact(pZ hv9)) (h:=by simp only[go_sem,hw9];rfl);refine pT ?_;obtain⟨aS,hv10,hw10,d⟩:=q8 d
 try simp only[go_sem] at hw10
 refine tW wE ?_ (hp:=by exact(pZ hv10)) (h:=by simp only[go_sem,hw10];rfl);refine pL wE ?_;refine pW ?_;refine pL wE ?_;refine qY ?_;obtain⟨aT,hy1,d⟩:=r9 d;refine sE 0 (fun s=>s=(fun x=>⟨[(0,(.val .ref (some (0,0)),none)),(2,(.val .ref (some (3,0)),none)),(4,(.val .ref (some (6,0)),none)),(6,(.val .mp none,none)),(7,(.val .bool false,none)),(9,(.val .bool aS.2,none)),(10,(.val .bool x,none))],[(0,.cells rY (Z,(aA,(aB,((aC.1,(aC.2.1,(aC.2.2.1,(aC.2.2.2.1,())))),((some 5),(aD.1,())))))) [(6,1),(8,2)]),(1,.grow 53 7 (aC.2.2.2.1.length)),(2,.grow 3 1 (aD.1.length)),(3,.cells rN aG [(3,4)]),(4,.grow 9 1 (aG.2.2.2.1.length)),(5,.map .str .bool aI),(6,.cells vA O [])],7,74,6⟩) aT) ?_ ?_
 .refine sC hy1 (fun x=>⟨[(0,(.val .ref (some (0,0)),none)),(2,(.val .ref (some (3,0)),none)),(4,(.val .ref (some (6,0)),none)),(6,(.val .mp none,none)),(7,(.val .bool false,none)),(9,(.val .bool aS.2,none)),(10,(.val .bool x.1,none)),(29,(.val (.list (.pair .str (.pair .str .unit))) O.2.2.1,none)),(30,(.val (.int .i64) (O.2.2.1.length:Int),none)),(31,(.val (.int .i64) x.2,none))],[(0,.cells rY (Z,(aA,(aB,((aC.1,(aC.2.1,(aC.2.2.1,(aC.2.2.2.1,())))),((some 5),(aD.1,())))))) [(6,1),(8,2)]),(1,.grow 53 7 (aC.2.2.2.1.length)),(2,.grow 3 1 (aD.1.length)),(3,.cells rN aG [(3,4)]),(4,.grow 9 1 (aG.2.2.2.1.length)),(5,.map .str .bool aI),(6,.cells vA O [])],7,74,6⟩) ⟨[0,2,4,6,7,9,10,29,30,31],[(0,0),(1,1),(2,2),(3,3),(4,4),(5,5),(6,6)]⟩ pF ?_;intro x1 w1 n1 e g;obtain⟨aU,aV⟩:=x1;unfold aGx at e;dsimp only at e|-;refine pL wE ?_;refine pW ?_;refine pY e (fun e hc3=> ?_) (fun e hc3=> ?_)
  .refine qG (pT (pW (qY ?_)));obtain⟨hg11,e⟩:=pP e;refine pL wE ?_ (hp:=by exact hg11);obtain⟨hg12,e⟩:=pP e;refine qJ wE ?_ (hp:=by exact⟨id,id,hg12,rI⟩);refine r5 (pT ?_);obtain⟨hg13,e⟩:=pP e;refine qJ wE ?_ (hp:=by exact hg13);cases e;exact rT ⟨⟨[0,2,4,6,7,9,10,29,30,31],[(0,0),(1,1),(2,2),(3,3),(4,4),(5,5),(6,6)]⟩,_,by rfl,g⟩
  .refine s8 (s7 (sA ?_));cases e;cases g;exact s9 ⟨⟨[0,2,4,6,7,9,10],[(0,0),(1,1),(2,2),(3,3),(4,4),(5,5),(6,6)]⟩,by rfl⟩
 .rintro _ rfl;dsimp only at d|-;refine sD (pT ?_);obtain⟨aW,hv14,hw14,d⟩:=q8 d
  try simp only[go_sem] at hw14
  refine tW wE ?_ (hp:=by exact⟨id,fun f=>by first|exact rU f|exact rfl|exact f.elim|simp_all,rU,pD,pD,pD,pD,pD,(pZ hv14)⟩) (h:=by simp only[go_sem,hw14];rfl)
  obtain⟨aX,hv15,hw15,d⟩:=q8 d
  try simp only[go_sem] at hw15
  obtain⟨aY,hv16,hw16,d⟩:=q8 d
  try simp only[go_sem] at hw16
  refine xN wE ?_ (hp:=by exact⟨pD,pD,pD,pD,pD,pZ hv15,(pZ hv16)⟩) (h:=by simp only[go_sem,hw15,hw16];rfl)
  cases d;exact oV [(0,0),(1,1),(2,2),(3,3),(4,4),(5,5),(6,935)]
attribute [irreducible] C6
end
noncomputable section
def aGz (O:rS) (Z:(p6×Unit)) (aA:sH) (aB:p4):((List rO)×Int×Int×oT×oT×oU×(List qK)×p4)→Option (((List rO)×Int×Int×oT×oT×oU×(List qK)×p4)⊕(Int×(List rO)×Int×Int×oT×oT×oU×(List qK))):=fun(aC,aD,aE,aF,aG,aH,aI,aJ)=>(BU aC aD aE (O.1,(O.2.1,(O.2.2.1,(O.2.2.2.1,())))) (Z.1,()) aB).bind fun aK=>(zH aK aD aE (O.1,(O.2.1,(O.2.2.1,(O.2.2.2.1,())))) (Z.1,()) aB).bind fun aL=>if ((decide (aL.1=(3:Int)))||(decide (aL.1=(0:Int))))=true then (C3 aK aD aE (O.1,(O.2.1,(O.2.2.1,(O.2.2.2.1,())))) (Z.1,()) ([101,110,116,114,121]:oT) aB).bind fun aM=>some (.inr ((((qB rX aK (0:Int)).2.2.1+(((qB rX aK (0:Int)).2.1).length:Int)),aM.1,aM.2.1,aM.2.2,aF,aG,aH,aI))) else if (decide (aL.2.1=([99,111,109,109,101,110,116]:oT)))=true then (C5 aK aD aE (O.1,(O.2.1,(O.2.2.1,(O.2.2.2.1,())))) (Z.1,()) (aL.1,(aL.2.1,(aL.2.2.1,(aL.2.2.2,())))) (aA.1,(aF,(aG,(aH,(aA.2.2.2.2.1,(aA.2.2.2.2.2.1,(aI,()))))))) aB).bind fun aN=>some (.inl (aN.1,aN.2.1,aN.2.2.1,aF,aG,aN.2.2.2,aI,aJ)) else if (decide (aL.2.1=([102,105,101,108,100]:oT)))=true then (C6 aK aD aE (O.1,(O.2.1,(O.2.2.1,(O.2.2.2.1,())))) (Z.1,()) (aL.1,(aL.2.1,(aL.2.2.1,(aL.2.2.2,())))) (aA.1,(aF,(aG,(aH,(aA.2.2.2.2.1,(aA.2.2.2.2.2.1,(aI,()))))))) aB).bind fun aO=>some (.inl (aO.1,aO.2.1,aO.2.2.1,aF,aG,aH,aO.2.2.2,aJ)) else sG (σ:=Bool) (if (decide (aL.2.1=([115,111,117,114,99,101]:oT)))=true then some ((decide (aL.2.1=([115,111,117,114,99,101]:oT)))) else some ((decide (aL.2.1=([116,97,114,103,101,116]:oT)))) ) fun aP=>if aP=true then if ((vB (aL.1,(aL.2.1,(aL.2.2.1,(aL.2.2.2,())))) ([]:oT) ([]:oT))).isSome=true then (vB (aL.1,(aL.2.1,(aL.2.2.1,(aL.2.2.2,())))) ([]:oT) ([]:oT)).bind fun aQ=>(wD aK aD aE (O.1,(O.2.1,(O.2.2.1,(O.2.2.2.1,())))) (Z.1,()) (!true) (aL.2.2.2||(rM .str .bool aJ aL.2.1)) false aB).bind fun aR=>(AB aK aR.1 aR.2 (O.1,(O.2.1,(O.2.2.1,(O.2.2.2.1,())))) (Z.1,()) (aL.1,(aL.2.1,(aL.2.2.1,(aL.2.2.2,())))) aB).bind fun aS=>if (decide (aL.2.1=([115,111,117,114,99,101]:oT)))=true then some (.inl (aS.2.1,aS.2.2.1,aS.2.2.2,aS.1,aG,aH,aI,(tO .str .bool aL.2.1 true aJ))) else some (.inl (aS.2.1,aS.2.2.1,aS.2.2.2,aF,aS.1,aH,aI,(tO .str .bool aL.2.1 true aJ))) else (D0 (aL.1,(aL.2.1,(aL.2.2.1,(aL.2.2.2,())))) ([]:oT) ([]:oT)).bind fun aT=>(wD aK aD aE (O.1,(O.2.1,(O.2.2.1,(O.2.2.2.1,())))) (Z.1,()) (!false) (aL.2.2.2||(rM .str .bool aJ aL.2.1)) false aB).bind fun aU=>(AB aK aU.1 aU.2 (O.1,(O.2.1,(O.2.2.1,(O.2.2.2.1,())))) (Z.1,()) (aL.1,(aL.2.1,(aL.2.2.1,(aL.2.2.2,())))) aB).bind fun aV=>if (decide (aL.2.1=([115,111,117,114,99,101]:oT)))=true then some (.inl (aV.2.1,aV.2.2.1,aV.2.2.2,aV.1,aG,aH,aI,(tO .str .bool aL.2.1 true aJ))) else some (.inl (aV.2.1,aV.2.2.1,aV.2.2.2,aF,aV.1,aH,aI,(tO .str .bool aL.2.1 true aJ))) else (AT aK aD aE (O.1,(O.2.1,(O.2.2.1,(O.2.2.2.1,())))) (Z.1,()) (3:Int) aB).bind fun aW=>some (.inl (aK,aW.1,aW.2,aF,aG,aH,aI,aJ))
def y8 (O:(List rO)) (Z:Int) (aA:Int) (aB:rS) (aC:(p6×Unit)) (aD:sH) (aE:p4):Option (Int×(List rO)×Int×Int×oT×oT×oU×(List qK)):=rF (aGz aB aC aD aE) (O,Z,aA,aD.2.1,aD.2.2.1,aD.2.2.2.1,aD.2.2.2.2.2.2.1,([]:p4))
section
variable (O:(List rO)) (Z:Int) (aA:Int) (aB:rS) (aC:(p6×Unit)) (aD:Nat) (aE:Nat) (aF:sH) (aG:Nat) (aH:p4)
abbrev a7X:List pN:=[(.val .ref (some (0,0)),none),(.val .ref (some (3,0)),none)]
abbrev a7Y:List pM:=[.cells rY (O,(Z,(aA,(aB,((some 5),aC))))) [(6,1),(8,2)],.grow 53 7 aD,.grow 3 1 aE,.cells rN aF [(3,4)],.grow 9 1 aG,.map .str .bool aH]
@[go_sem] def a7Z:pR:=⟨[aD=(aB.2.2.2.1.length),aE=(aC.1.length),aG=(aF.2.2.2.1.length),((y8 O Z aA aB aC aF aH)).isSome=true],[(.val (.int .i64) ((val (y8 O Z aA aB aC aF aH)).1),none)],[.cells rY ((val (y8 O Z aA aB aC aF aH)).2.1,((val (y8 O Z aA aB aC aF aH)).2.2.1,((val (y8 O Z aA aB aC aF aH)).2.2.2.1,((aB.1,(aB.2.1,(aB.2.2.1,(aB.2.2.2.1,())))),((some 5),(aC.1,())))))) [(6,1),(8,2)],.grow 53 7 (aB.2.2.2.1.length),.grow 3 1 (aC.1.length),.cells rN (aF.1,((val (y8 O Z aA aB aC aF aH)).2.2.2.2.1,((val (y8 O Z aA aB aC aF aH)).2.2.2.2.2.1,((val (y8 O Z aA aB aC aF aH)).2.2.2.2.2.2.1,(aF.2.2.2.2.1,(aF.2.2.2.2.2.1,((val (y8 O Z aA aB aC aF aH)).2.2.2.2.2.2.2,()))))))) [(3,4)],.grow 9 1 (((val (y8 O Z aA aB aC aF aH)).2.2.2.2.2.2.1).length),.map .str .bool aH]⟩
def aGA:List pN→List pM→Option pR:=qU (V:=((List rO)×Int×Int×rS×(p6×Unit)×Nat×Nat×sH×Nat×p4)) (fun x=>a7X) (fun x=>a7Y x.1 x.2.1 x.2.2.1 x.2.2.2.1 x.2.2.2.2.1 x.2.2.2.2.2.1 x.2.2.2.2.2.2.1 x.2.2.2.2.2.2.2.1 x.2.2.2.2.2.2.2.2.1 x.2.2.2.2.2.2.2.2.2) fun x=>a7Z x.1 x.2.1 x.2.2.1 x.2.2.2.1 x.2.2.2.2.1 x.2.2.2.2.2.1 x.2.2.2.2.2.2.1 x.2.2.2.2.2.2.2.1 x.2.2.2.2.2.2.2.2.1 x.2.2.2.2.2.2.2.2.2
@[go_sem] def aQy:aGA (no_index a7X) (no_index (a7Y O Z aA aB aC aD aE aF aG aH))=some (a7Z O Z aA aB aC aD aE aF aG aH):=qV (fun⟨a0,a1,a2,a3,a4,a5,a6,a7,a8,a9⟩ ⟨b0,b1,b2,b3,b4,b5,b6,b7,b8,b9⟩ h1 h2=>by cases h1;cases h2;rfl) (O,Z,aA,aB,aC,aD,aE,aF,aG,aH)
end
@[go_sem] abbrev a71:Nat×qC:=(93,⟨[.p rY [6,8],.p rN [3]],aGA,[(0,7,.m)],[1,2,5],none⟩)
def uM:qM Tryz.prog [u7,yO,rG,vG,FW,wV] (qO [L9,ES,PY,PZ,Q0,L6,BQ,J5,I8]):=⟨⟨uF,⟨A5,⟨rJ,⟨vW,⟨KT,⟨xP,trivial⟩⟩⟩⟩⟩⟩,pU P8 (pU GO (pU UG (pU UH (pU UI (pU P3 (pU CY (pU LR (pU KW qS)))))))),qQ⟩
def aMj:qM Tryz.prog [u7,yO,rG,vG,FW,wV] (qO [L9,ES,PY,PZ,Q0,BQ,J5,L7,I8]):=⟨⟨uF,⟨A5,⟨rJ,⟨vW,⟨KT,⟨xP,trivial⟩⟩⟩⟩⟩⟩,pU P8 (pU GO (pU UG (pU UH (pU UI (pU CY (pU LR (pU P4 (pU KW qS)))))))),qQ⟩
def aGB:qE Tryz.prog a71:=by
 refine qW uM Tryz.func93 (c:=_) rfl (N:=78) pE (ts:=[(4,none)]) rfl (fun _ _=>rfl) ?_;intro⟨O,Z,aA,aB,aC,aD,aE,aF,aG,aH⟩ hs hrow;dsimp only[a7X,a7Y,a7Z,qR,pX,qD,qI,qT,Nat.reduceAdd] at hs hrow|-;obtain⟨rfl,rfl,rfl,hz⟩:=hs;obtain⟨z0,g⟩:=aQF.1 hz
 try rw[r8 g]
 clear hz;unfold y8 at g;refine pL uM ?_;refine pL uM ?_;refine qY ?_;have hy1:=g;refine sC hy1 (fun x=>⟨[(0,(.val .ref (some (0,0)),none)),(1,(.val .ref (some (3,0)),none)),(5,(.val .mp (some 6),none))],[(0,.cells rY (x.1,(x.2.1,(x.2.2.1,((aB.1,(aB.2.1,(aB.2.2.1,(aB.2.2.2.1,())))),((some 5),(aC.1,())))))) [(6,1),(8,2)]),(1,.grow 53 7 (aB.2.2.2.1.length)),(2,.grow 3 1 (aC.1.length)),(3,.cells rN (aF.1,(x.2.2.2.1,(x.2.2.2.2.1,(x.2.2.2.2.2.1,(aF.2.2.2.2.1,(aF.2.2.2.2.2.1,(x.2.2.2.2.2.2.1,()))))))) [(3,4)]),(4,.grow 9 1 (x.2.2.2.2.2.1.length)),(5,.map .str .bool aH),(6,.map .str .bool x.2.2.2.2.2.2.2)],7,78,6⟩) ⟨[0,1,5],[(0,0),(1,1),(2,2),(3,3),(4,4),(5,5),(6,38)]⟩ pF ?_;intro x1 w1 n1 d f;obtain⟨aI,aJ,aK,aL,aM,aN,aO,aP⟩:=x1;unfold aGz at d;dsimp only at d|-;refine qY ?_;obtain⟨aQ,hv1,hw1,d⟩:=q8 d
 try simp only[go_sem] at hw1
 refine pL uM ?_ (hp:=by exact⟨pD,pD,pD,pD,pD,(pZ hv1)⟩) (h:=by simp only[go_sem,hw1];rfl)
 obtain⟨aR,hv2,hw2,d⟩:=q8 d
 try simp only[go_sem] at hw2
 refine pL uM ?_ (hp:=by exact⟨pD,pD,pD,pD,pD,pD,(pZ hv2)⟩) (h:=by simp only[go_sem,hw2];rfl)
 refine pW ?_;refine pL uM ?_ (hp:=by exact⟨id,id,rU⟩);refine pY d (fun d hc1=> ?_) (fun d hc1=> ?_)
 .obtain⟨aS,hv3,hw3,d⟩:=q8 d
  try simp only[go_sem] at hw3
  refine pL uM ?_ (hp:=by exact⟨pD,pD,pD,pD,pD,(pZ hv3)⟩) (h:=by simp only[go_sem,hw3];rfl)
  refine pV (qP (r6 (tM (r6 ?_))));cases d;have g:=aQ0 some (show _=_ from f);cases g;exact oV [(0,0),(1,1),(2,2),(3,3),(4,4),(5,5)]
 .refine qG (pT ?_);refine pL uM ?_;refine qY ?_;refine pL uM ?_;refine pY d (fun d hc2=> ?_) (fun d hc2=> ?_)
  .obtain⟨aT,hv4,hw4,d⟩:=q8 d
   try simp only[go_sem] at hw4
   refine qJ uM ?_ (hp:=by exact⟨pD,pD,pD,pD,pD,pD,(pZ hv4)⟩) (h:=by simp only[go_sem,hw4];rfl)
   refine r5 (r5 ?_);cases d;exact rT ⟨⟨[0,1,5],[(0,0),(1,1),(2,2),(3,3),(4,4),(5,5),(6,6)]⟩,_,by rfl,f⟩
  .refine pL uM ?_;refine pY d (fun d hc3=> ?_) (fun d hc3=> ?_)
   .obtain⟨aU,hv5,hw5,d⟩:=q8 d
    try simp only[go_sem] at hw5
    refine qJ uM ?_ (hp:=by exact⟨pD,pD,pD,pD,pD,pD,pD,(pZ hv5)⟩) (h:=by simp only[go_sem,hw5];rfl)
    refine r5 (r5 ?_);cases d;exact rT ⟨⟨[0,1,5],[(0,0),(1,1),(2,2),(3,3),(4,4),(5,5),(6,6)]⟩,_,by rfl,f⟩
   .refine pW ?_;refine pL uM ?_;obtain⟨aV,i,d⟩:=r9 d;refine vF (fun s=>s=(fun x=>⟨[(0,(.val .ref (some (0,0)),none)),(1,(.val .ref (some (3,0)),none)),(5,(.val .mp (some 6),none)),(6,(.val .ref (some (7,0)),none)),(41,(.val .bool x,none))],[(0,.cells rY (aQ,(aJ,(aK,((aB.1,(aB.2.1,(aB.2.2.1,(aB.2.2.2.1,())))),((some 5),(aC.1,())))))) [(6,1),(8,2)]),(1,.grow 53 7 (aB.2.2.2.1.length)),(2,.grow 3 1 (aC.1.length)),(3,.cells rN (aF.1,(aL,(aM,(aN,(aF.2.2.2.2.1,(aF.2.2.2.2.2.1,(aO,()))))))) [(3,4)]),(4,.grow 9 1 (aN.length)),(5,.map .str .bool aH),(6,.map .str .bool aP),(7,.cells vA (aR.1,(aR.2.1,(aR.2.2.1,(aR.2.2.2,())))) [])],8,78,6⟩) aV) ?_ ?_
    .refine pY i (fun i hc4=> ?_) (fun i hc4=> ?_)
     .refine qG ?_;cases i;exact sB ⟨⟨[0,1,5,6,41],[(0,0),(1,1),(2,2),(3,3),(4,4),(5,5),(6,6),(7,135)]⟩,by rfl⟩
     .refine qJ uM ?_;cases i;exact sB ⟨⟨[0,1,5,6,41],[(0,0),(1,1),(2,2),(3,3),(4,4),(5,5),(6,6),(7,135)]⟩,by rfl⟩
    .rintro _ rfl;dsimp only at d|-;refine pT ?_;refine pY d (fun d hc5=> ?_) (fun d hc5=> ?_)
     .refine pW ?_;by_cases hva6:((vB (aR.1,(aR.2.1,(aR.2.2.1,(aR.2.2.2,())))) ([]:oT) ([]:oT))).isSome=true
      .rw[aQI hva6] at d;obtain⟨aW,hv6,hw6,d⟩:=q8 d
       try simp only[go_sem] at hw6
       refine qJ uM ?_ (hp:=by exact(pZ hv6)) (h:=by simp only[go_sem,hw6];rfl);refine pT ?_;obtain⟨aX,hv7,hw7,d⟩:=q8 d
       try simp only[go_sem] at hw7
       refine pL uM ?_ (hp:=by exact⟨id,id,id,rU,pD,pD,pD,pD,pD,(pZ hv7)⟩) (h:=by simp only[go_sem,hw7];rfl)
       refine pL uM ?_;obtain⟨aY,hv8,hw8,d⟩:=q8 d
       try simp only[go_sem] at hw8
       refine pL uM ?_ (hp:=by exact⟨pD,pD,pD,pD,pD,(pZ hv8)⟩) (h:=by simp only[go_sem,hw8];rfl)
       refine pL uM ?_;refine pY d (fun d hc7=> ?_) (fun d hc7=> ?_)
       .refine qJ uM ?_;refine r5 (r5 ?_);cases d;exact rT ⟨⟨[0,1,5],[(0,0),(1,1),(2,2),(3,3),(4,4),(5,5),(6,6)]⟩,_,by rfl,f⟩
       .refine qJ uM ?_;refine r5 (r5 ?_);cases d;exact rT ⟨⟨[0,1,5],[(0,0),(1,1),(2,2),(3,3),(4,4),(5,5),(6,6)]⟩,_,by rfl,f⟩
      rw[aQO hva6] at d;obtain⟨aZ,hv9,hw9,d⟩:=q8 d
      try simp only[go_sem] at hw9
      refine qJ aMj ?_ (hp:=by exact(pZ hv9)) (h:=by simp only[go_sem,hw9];rfl);refine pT ?_;obtain⟨bA,hv10,hw10,d⟩:=q8 d
      try simp only[go_sem] at hw10
      refine pL uM ?_ (hp:=by exact⟨id,id,id,rU,pD,pD,pD,pD,pD,(pZ hv10)⟩) (h:=by simp only[go_sem,hw10];rfl)
      refine pL uM ?_;obtain⟨bB,hv11,hw11,d⟩:=q8 d
      try simp only[go_sem] at hw11
      refine pL uM ?_ (hp:=by exact⟨pD,pD,pD,pD,pD,(pZ hv11)⟩) (h:=by simp only[go_sem,hw11];rfl)
      refine pL uM ?_;refine pY d (fun d hc8=> ?_) (fun d hc8=> ?_)
      .refine qJ uM ?_;refine r5 (r5 ?_);cases d;exact rT ⟨⟨[0,1,5],[(0,0),(1,1),(2,2),(3,3),(4,4),(5,5),(6,6)]⟩,_,by rfl,f⟩
      .refine qJ uM ?_;refine r5 (r5 ?_);cases d;exact rT ⟨⟨[0,1,5],[(0,0),(1,1),(2,2),(3,3),(4,4),(5,5),(6,6)]⟩,_,by rfl,f⟩
     .obtain⟨bC,hv12,hw12,d⟩:=q8 d
      try simp only[go_sem] at hw12
      refine qJ uM ?_ (hp:=by exact⟨pD,pD,pD,pD,pD,(pZ hv12)⟩) (h:=by simp only[go_sem,hw12];rfl)
      refine r5 (r5 ?_);cases d;exact rT ⟨⟨[0,1,5],[(0,0),(1,1),(2,2),(3,3),(4,4),(5,5),(6,6)]⟩,_,by rfl,f⟩
attribute [irreducible] y8
end
end Go.Proofs.YtkpflnijijccpaaGreatDoor
namespace Go.Proofs.YtkpflnijijccpaaGreatDoor.Vc
open Go.RowKit
def UJ (i0 j0:Nat) (ops:Array Oper) (bs:pA) (nb i:Nat) (o:Oper) (e:q9):List Oper->List q9->Nat->Bool
 |p::ps,f::fs,j=>((bs.getD j 0).testBit i||(o.apart ops p&&(xT e f||(decide (i=i0)&&decide (j=j0)))&&BA (nb+32*i) f.upd))&&UJ i0 j0 ops bs nb i o e ps fs (j+1)
 |_,_,_=>true
def UK (i0 j0:Nat) (ops:Array Oper) (bs:pA) (nb:Nat):List Oper->List q9->Nat->Bool
 |o::os,e::es,i=>UJ i0 j0 ops bs nb i o e os es (i+1)&&UK i0 j0 ops bs nb os es (i+1)
 |_,_,_=>true
def Q1 (i0 j0:Nat) (ops:Array Oper) (nb:Nat) (es:List q9):Bool:=MQ ops.toList 0&&UK i0 j0 ops (Region.before ops).toList nb ops.toList es 0
theorem aGC {i0 j0:Nat}{ops:Array Oper}{bs:pA}{nb i:Nat}{o:Oper}{e:q9}: ∀{ps:List Oper}{fs:List q9}{j:Nat},UJ i0 j0 ops bs nb i o e ps fs j=true->∀k p f,ps[k]? =some p->fs[k]? =some f->
  (bs.getD (j+k) 0).testBit i=true\/(o.apart ops p=true/\(xT e f=true\/(i=i0/\j+k=j0))/\BA (nb+32*i) f.upd=true)
 |p::ps,f::fs,j,h,k,p',f',hp,hf=>by
  simp only[UJ,aQU,aRV,aQY] at h;cases k with
  |zero=>
   simp only[aQ8,aQE] at hp hf;subst hp;subst hf;exact h.1.imp id (fun h=>⟨h.1.1,h.1.2,h.2⟩)
  |succ k=>
   simp only[aRi] at hp hf;have:=aGC h.2 k p' f' hp hf;rw[show j+(k+1)=j+1+k by omega];exact this
 |[],_,_,_,_,_,_,hp,_=>by simp at hp
 |_::_,[],_,_,_,_,_,_,hf=>by simp at hf
theorem a73 {i0 j0:Nat}{ops:Array Oper}{bs:pA}{nb:Nat}: ∀{os:List Oper}{es:List q9}{m:Nat},UK i0 j0 ops bs nb os es m=true->∀i j o e p f,i<j->os[i]? =some o->es[i]? =some e->os[j]? =some p->es[j]? =some f->
  (bs.getD (m+j) 0).testBit (m+i)=true\/(o.apart ops p=true/\(xT e f=true\/(m+i=i0/\m+j=j0))/\BA (nb+32*(m+i)) f.upd=true)
 |o'::os,e'::es,m,h,i,j,o,e,p,f,hij,ho,he,hp,hf=>by
  simp only[UK,aQU] at h;obtain⟨j,rfl⟩: ∃k,j=k+1:=⟨j-1,oW⟩;simp only[aRi] at hp hf;cases i with
  |zero=>
   simp only[aQ8,aQE] at ho he;subst ho;subst he;have:=aGC h.1 j p f hp hf;rw[show m+(j+1)=m+1+j by omega];exact this
  |succ i=>
   simp only[aRi] at ho he;have:=a73 h.2 i j o e p f oW ho he hp hf;rw[show m+(j+1)=m+1+j by omega,show m+(i+1)=m+1+i by omega];exact this
 |[],_,_,_,_,_,_,_,_,_,_,ho,_,_,_=>by simp at ho
 |_::_,[],_,_,_,_,_,_,_,_,_,_,he,_,_=>by simp at he
theorem a74 {rds:pA}{id:Nat}(h:zT id rds=false): ∀{u:List (Nat×pM)},pQ (FD rds u) id=pQ u id
 |[]=>rfl
 |(k,b)::u=>by
  simp only[FD,pQ];by_cases hk:k=id
  .subst hk;rw[aQO (by rw[h];simp)];simp [pQ]
  .split
   .exact a74 h
   .simp only[pQ,aQO hk];exact a74 h
theorem aMk {e:q9}{id:Nat}(h:zT id e.rds=false):pQ (uQ e) id=pQ e.upd id:=a74 h
theorem aGD {T:rW}{Γ:sP}{ops:List Oper}: ∀{k:Nat}{l:List Oper}{x y:tZ},tC T Γ ops l (some x)=some y->∃a,tC T Γ ops (l.take k) (some x)=some a/\tC T Γ ops (l.drop k) (some a)=some y
 |0,l,x,y,h=>⟨x,rfl,h⟩
 |k+1,[],x,y,h=>⟨x,rfl,h⟩
 |k+1,o::l,x,y,h=>by
  simp only[List.take_succ_cons,List.drop_succ_cons,tC] at h|-;cases hz:RX o x (wH T Γ ops o x.s) with
  |none=>
   rw[hz] at h;cases l with
   |nil=>cases h
   |cons p l=>cases h
  |some z=>rw[hz] at h;exact aGD h
theorem a77 {α:Type}{p:Nat->Bool}{wr wr':Nat->Option α}{b:α}: ∀{n:Nat},(∀j,j<n->wr j=wr' j)->t7 p wr b n=t7 p wr' b n
 |0,_=>rfl
 |n+1,h=>by
  simp only[t7];rw[h n oW,a77 (wr:=wr) (wr':=wr') (fun j hj=>h j oW)]
theorem aMl {T:rW}{Γ:sP}{ops:Array Oper}{es:List q9}{s:St}{y a1:tZ}{i0:Nat}{o1:Oper}{ex fx:q9}(run:T1 T Γ ops.toList ops.toList es s y) (hs: ∀p∈y.side,p) (ho1:ops.toList[i0]? =some o1) (ha1:tC T Γ ops.toList (ops.toList.take i0) (some ⟨s,[],[]⟩)=some a1)
  (hes:y.es.reverse=es) (h:tC T Γ ops.toList ops.toList (some ⟨s,[],[]⟩)=some y) (hx1:wH T Γ ops.toList o1 ⟨a1.s.env,qH (uQ fx) a1.s.H,a1.s.nb,a1.s.N,a1.s.np⟩=some ex):
  ∀sk oi,ops.toList[i0]? =some oi->YA T Γ ops.toList ops.toList es s y i0 oi ex sk->wH T Γ ops.toList oi ⟨sk.env,qH (uQ fx) sk.H,sk.nb,sk.N,sk.np⟩=some ex:=by
 intro sk oi hoi st;rw[ho1] at hoi;cases hoi;obtain⟨a2,h1,h2⟩:=aGD (k:=i0) h;rw[ha1] at h1;cases h1;have hi0:i0<ops.toList.length:=(aQP.1 ho1).1;have hlt:(ops.toList.take i0).length=i0:=by rw[aRd];omega
 obtain⟨es2,e2,r2⟩:=NH h2 hs;obtain⟨es1,e1,r1⟩:=NH ha1 (fun p hp=>hs p ((BI h2).1 p hp));have he:es=es1++es2:=by rw[<-hes,e2,e1];simp
 have hl1:es1.length=i0:=by rw[r1.len,hlt]
 have hsd:=BI ha1;refine SZ hx1 (fun t _=> ?_) (fun id _=> ?_) ?_ ?_
 .show lk sk.env t=lk a1.s.env t;rw[st.env t,r1.env t,hlt];refine a77 (fun j hj=> ?_);unfold vV;rw[he,aQT oW,aRt hj]
 .show pQ (qH (uQ fx) sk.H) id=pQ (qH (uQ fx) a1.s.H) id;rw[HQ,HQ,st.heap id,r1.heap id,hlt];have:t7 (fun _=>true) (uJ es id) (pQ s.H id) i0=t7 (fun _=>true) (uJ es1 id) (pQ s.H id) i0:=a77 (fun j hj=>by
   unfold uJ;rw[he,aQT oW])
  rw[this]
 .show sk.nb=a1.s.nb;rw[st.nb,r1.nb,hlt]
 .show sk.np=a1.s.np;rw[st.np,hsd.2.2]
section
variable {B:Nat}{P:Program}{T:rW}{Γ:sP}(hT:vK P T) (hΓ:AL P Γ) {A:Nat->Nat->Prop}{L:List pM}{g0:Gh}{w0:pB}{Q:Exit->Act->pB->Prop}
include hT hΓ
theorem aMm {i0 j0:Nat}{ex fx:q9}{ro:p9}{ops:Array Oper}{es:List q9}{s:St}{y:tZ}(run:T1 T Γ ops.toList ops.toList es s y) (hs: ∀p∈y.side,p) (hchk:Q1 i0 j0 ops s.nb es=true) (hij0:i0<j0) (hex:es[i0]? =some ex) (hup:ex.upd=[]) (hfx:es[j0]? =some fx) (hxe: ∀sk oi,ops.toList[i0]? =some oi->YA T Γ ops.toList ops.toList es s y i0 oi ex sk->wH T Γ ops.toList oi ⟨sk.env,qH (uQ fx) sk.H,sk.nb,sk.N,sk.np⟩=some ex)
  (hQ: ∀g a w env H,xZ g w env a.tmps->(∀t,lk env t=lk y.s.env t)->rR g w H->(∀id,pQ H id=pQ y.s.H id)->a.tmps.size=s.N->wC B w a.defers->sJ A L g0 w0 g w H->(∀id,s.nb+32*ops.size<=id->g.J id=none/\∀n,g.cur id n=none)->Q .normal a w):
  ∀(fuel:Nat) (listed:Array Bool) (g:Gh) (w:pB) (a:Act) (env:List (Nat×pN)) (H:rH),yK listed ops.size<=fuel->T5 B A L g0 w0 ops es s listed g w a env H->wpAnyIn (zY ro) 0 P .any ops Q fuel listed a w:=by
 simp only[Q1,aQU] at hchk;obtain⟨haf,hfr⟩:=hchk;have hsz:ops.toList.length=ops.size:=aRb;have done: ∀(listed:Array Bool) (g:Gh) (w:pB) (a:Act) (env:List (Nat×pN)) (H:rH),T5 B A L g0 w0 ops es s listed g w a env H->(∀j,j<ops.size->listed.getD j false=true)->Q .normal a w:=by
  intro listed g w a env H m hall;refine hQ g a w env H m.eok (fun t=> ?_) m.heap (fun id=> ?_) m.tmps m.def_ m.good m.top
  .rw[m.look t,run.env t,hsz];exact CK (fun j hj _=>hall j hj)
  .rw[m.get id,run.heap id,hsz];exact CK (fun j hj _=>hall j hj)
 have stuck: ∀(listed:Array Bool),listed.size=ops.size->Region.ready .any ops listed=[]->∀j,j<ops.size->listed.getD j false=true:=by
  intro listed hls hr j hj;cases hp:listed.getD j false with
  |true=>rfl
  |false=>
   obtain⟨k,h1,h2,h3⟩:=YG (p:=fun j=>listed.getD j false) ⟨j,hj,hp⟩;have:k∈Region.ready .any ops listed:=by
    rw[mem_ready];refine⟨?_,ops[k],by simp [h1],fun e he hb=> ?_⟩
    .have h2:listed.getD k false=false:=h2;rw[aQ7] at h2|-;rw[aRG oW] at h2|-;exact h2
    .have:=YC haf k ops[k] (by simp [h1]) e he hb;exact h3 e.on oW
   rw[hr] at this;cases this
 intro fuel
 induction fuel with
 |zero=>
  intro listed g w a env H hu m;have hall:=YE (l:=listed) (n:=ops.size) oW;refine⟨?_,done listed g w a env H m hall⟩;cases hr:Region.ready .any ops listed with
  |nil=>rfl
  |cons i r=>
   have:i∈Region.ready .any ops listed:=by rw[hr];simp
   obtain⟨h0,o,ho,_⟩:=mem_ready.1 this;have hi:i<ops.size:=(aQ1.1 ho).1;have:=hall i hi;rw[aQ7] at this h0;rw[aRG (by rw[m.size];exact hi)] at this h0;simp at this h0;rw[this] at h0;cases h0
 |succ fuel ih=>
  intro listed g w a env H hu m;refine⟨fun hr=>done listed g w a env H m (stuck listed m.size hr),fun i hi=> ?_⟩;obtain⟨h0,o,ho,hall⟩:=mem_ready.1 hi;have hin:i<ops.size:=(aQ1.1 ho).1;have hil:i<listed.size:=by rw[m.size];exact hin
  have hpi:listed.getD i false=false:=by
   rw[aQ7] at h0|-;rw[aRG hil] at h0|-;exact h0
  have hoL:ops.toList[i]? =some o:=by simpa using ho
  obtain⟨e,he⟩: ∃e,es[i]? =some e:=⟨es[i]'(by rw[run.len,hsz];exact hin),by simp⟩;obtain⟨sk,st⟩:=run.step i o e hoL he;have hcl':T3 ops.toList (fun j=>(listed.setIfInBounds i true).getD j false):=by
   intro j o' ho' hj ed hed hb;simp only[yM hil] at hj|-;by_cases hji:j=i
   .subst hji;rw[hoL] at ho';obtain rfl:=aQH ho';have:=hall ed hed hb;split
    .rfl
    .exact this
   .rw[aQO hji] at hj;have:=m.closed j o' ho' hj ed hed hb;split
    .rfl
    .exact this
  have hbef: ∀j,((Region.before ops).toList.getD i 0).testBit j=true->j≠i->listed.getD j false=true:=by
   intro j hj hne;have:=T4 hcl' hj (by simp only[yM hil];simp);simp only[yM hil,aQO hne] at this;exact this
  have haft: ∀j,((Region.before ops).toList.getD j 0).testBit i=true->listed.getD j false=true->False:=by
   intro j hj hl;have:=T4 m.closed hj hl;rw[hpi] at this;cases this
  have pairLt: ∀j p f,j<i->ops.toList[j]? =some p->es[j]? =some f->listed.getD j false=true\/(p.apart ops o=true/\(xT f e=true\/(j=i0/\i=j0))/\BA (s.nb+32*j) e.upd=true):=by
   intro j p f hji hp hf;rcases a73 hfr j i p f o e hji hp hf hoL he with h1|h1
   .rw[aRf,aRf] at h1;exact .inl (hbef j h1 oW)
   .rw[aRf,aRf] at h1;exact .inr h1
  have pairGt: ∀j p f,i<j->ops.toList[j]? =some p->es[j]? =some f->listed.getD j false=true->o.apart ops p=true/\(xT e f=true\/(i=i0/\j=j0)):=by
   intro j p f hij hp hf hl;rcases a73 hfr i j o e p f hij hoL he hp hf with h1|h1
   .rw[aRf,aRf] at h1;exact(haft j h1 hl).elim
   .rw[aRf,aRf] at h1;exact⟨h1.1,h1.2.1⟩
  have same: ∀{α:Type}(wr:Nat->Option α) (b:α),(∀j p f,j<i->ops.toList[j]? =some p->es[j]? =some f->wr j≠none->p.apart ops o=true->(xT f e=true\/(j=i0/\i=j0))->False)->
    (∀j p f,i<j->ops.toList[j]? =some p->es[j]? =some f->wr j≠none->listed.getD j false=true->o.apart ops p=true->(xT e f=true\/(i=i0/\j=j0))->False)->(∀j,wr j≠none->∃f,es[j]? =some f)->
    t7 (fun j=>listed.getD j false) wr b ops.size=t7 (fun _=>true) wr b i:=by
   intro α wr b hlt hgt hex;rw[<-T0 (n:=ops.size) oW];refine CK (fun j hj hw=> ?_);obtain⟨f,hf⟩:=hex j hw;have hpj:ops.toList[j]? =some ops[j]:=by simp [hj]
   rcases Nat.lt_trichotomy j i with h1|h1|h1
   .rw[aRD h1];rcases pairLt j _ f h1 hpj hf with h2|h2
    .exact h2
    .exact(hlt j _ f h1 hpj hf hw h2.1 h2.2.1).elim
   .subst h1;simp [hpi]
   .have: ¬j<i:=by omega
    rw[decide_eq_false this];cases hl:listed.getD j false with
    |false=>rfl
    |true=>
     obtain⟨h2,h3⟩:=pairGt j _ f h1 hpj hf hl;exact(hgt j _ f h1 hpj hf hw hl h2 h3).elim
  have exS: ∀t j,vV ops.toList es t j≠none->∃f,es[j]? =some f:=by
   intro t j h;unfold vV at h;cases hf:es[j]? with
   |none=>rw[hf] at h;exact absurd (by split<;>first|rfl|(rename_i h1;cases h1)) h
   |some f=>exact⟨f,rfl⟩
  have exH: ∀t j,uJ es t j≠none->∃f,es[j]? =some f:=by
   intro t j h;unfold uJ at h;cases hf:es[j]? with
   |none=>rw[hf] at h;exact absurd rfl h
   |some f=>exact⟨f,rfl⟩
  have dS: ∀t j p f,ops.toList[j]? =some p->es[j]? =some f->vV ops.toList es t j≠none->p.dst=some t:=by
   intro t j p f hp hf h;unfold vV at h;rw[hp,hf] at h;simp only at h;split at h
   .assumption
   .exact absurd rfl h
  have dH: ∀id j f,es[j]? =some f->uJ es id j≠none->id∈pS (uQ f):=by
   intro id j f hf h;unfold uJ at h;rw[hf] at h;simp only at h;split at h
   .assumption
   .exact absurd rfl h
  have wex: ∀id,id∉pS (uQ ex):=fun id h=>by
   have:=(FN.1 h).1;rw[hup] at this;cases this
  have noW: ∀id j f,es[j]? =some f->uJ es id j≠none->j=i0->False:=fun id j f hf hw hj=>by
   subst hj;rw[hex] at hf;cases hf;exact wex id (dH id j _ hex hw)
  have hrds: ∀id∈e.rds,¬(i=i0/\listed.getD j0 false=true)->pQ H id=pQ sk.H id:=fun id hid hX=>by
   rw[m.get id,st.heap id];refine same _ _ (fun j p f _ hp hf hw _ ha=> ?_) (fun j p f _ hp hf hw hl _ ha=> ?_) (exH id)
   .rcases ha with ha|ha
    .exact((DU ha).1 id (dH id j f hf hw)).1 hid
    .exact noW id j f hf hw ha.1
   .rcases ha with ha|ha
    .exact(DU ha).2 id (dH id j f hf hw) hid
    .exact hX ⟨ha.1,ha.2▸hl⟩
  have htmp: ∀t∈o.looksAt ops,lk env t=lk sk.env t:=fun t ht=>by
   rw[m.look t,st.env t];refine same _ _ (fun j p f _ hp hf hw ha _=> ?_) (fun j p f _ hp hf hw _ ha _=> ?_) (exS t)
   .exact(Oper.apart_spec ha).1 t (dS t j p f hp hf hw) ht
   .exact(Oper.apart_spec ha).2.2 t (dS t j p f hp hf hw) ht
  have hNs: ∀(s':St) (N':Nat),wH T Γ ops.toList o ⟨s'.env,s'.H,s'.nb,N',s'.np⟩=wH T Γ ops.toList o s':=fun _ _=>rfl;have hev:wH T Γ ops.toList o ⟨env,H,s.nb+32*i,s.N,s.np⟩=some e:=by
   by_cases hX:i=i0/\listed.getD j0 false=true
   .obtain⟨h1,hl0⟩:=hX;subst h1;rw[he] at hex;cases hex;refine SZ (hxe sk o hoL st) (fun t ht=>htmp t ht) (fun id hid=> ?_) st.nb.symm st.np.symm;show pQ H id=pQ (qH (uQ fx) sk.H) id;have hj0:j0<ops.size:=by
     have:=(aQP.1 hfx).1;rw[run.len,hsz] at this;exact this
    rw[m.get id,KB (p:=fun j=>listed.getD j false&& !decide (j=j0)) (i:=j0) oY (fun j=>by
     by_cases h:j=j0
     .subst h;rw[aQI rfl];exact hl0
     .rw[aQO h];simp [h]) hj0 (fun j h1 h2 h3=> ?_)]
    .have hrest:t7 (fun j=>listed.getD j false&& !decide (j=j0)) (uJ es id) (pQ s.H id) ops.size=pQ sk.H id:=by
      rw[st.heap id,<-T0 (n:=ops.size) oW];refine CK (fun j hj hw=> ?_);obtain⟨f,hf⟩:=exH id j hw;have hpj:ops.toList[j]? =some ops[j]:=by simp [hj]
      rcases Nat.lt_trichotomy j i with h1|h1|h1
      .rw[aRD h1];rcases pairLt j _ f h1 hpj hf with h2|h2
       .rw[h2,decide_eq_false oW];rfl
       .rcases h2.2.1 with h2|h2
        .exact(((DU h2).1 id (dH id j f hf hw)).1 hid).elim
        .omega
      .exact(noW id j f hf hw h1).elim
      .have h9: ¬j<i:=by omega
       rw[decide_eq_false h9];cases hl:listed.getD j false with
       |false=>rfl
       |true=>
        obtain⟨_,h3⟩:=pairGt j _ f h1 hpj hf hl;rcases h3 with h3|h3
        .exact((DU h3).2 id (dH id j f hf hw) hid).elim
        .rw[aRD h3.2];rfl
     rw[hrest,HQ];unfold uJ;rw[hfx];simp only;by_cases h7:id∈pS (uQ fx)
     .rw[aQI h7,aQI h7,aMk (FN.1 h7).2];rfl
     .rw[aQO h7,aQO h7];rfl
    .left;have hl:listed.getD j false=true:=by
      cases h:listed.getD j false with
      |true=>rfl
      |false=>rw[h] at h3;cases h3
     cases hw:uJ es id j with
     |none=>rfl
     |some v=>
      obtain⟨f,hf⟩:=exH id j (by rw[hw];simp);have hpj:ops.toList[j]? =some ops[j]:=by simp [h2]
      obtain⟨_,h4⟩:=pairGt j _ f oW hpj hf hl;rcases h4 with h4|h4
      .exact((DU h4).2 id (dH id j f hf (by rw[hw];simp)) hid).elim
      .omega
   .exact SZ st.ev (fun t ht=>htmp t ht) (fun id hid=>hrds id hid hX) st.nb.symm st.np.symm
  have hXu: ∀id,id∈pS e.upd->¬(i=i0/\listed.getD j0 false=true):=fun id hid hX=>by
   obtain⟨h1,_⟩:=hX;subst h1;rw[he] at hex;cases hex;rw[hup] at hid;cases hid
  have hfresh:wS g (s.nb+32*i) e:=fun id hid hle=>m.free i hin hpi id hle (FM st.ids hid);have key:=XU hT hΓ (ops:=ops.toList) (o:=o) (a:=a) (s:=⟨env,H,s.nb+32*i,s.N,s.np⟩) (K:=wpAnyIn (zY ro) 0 P .any ops Q fuel (listed.setIfInBounds i true)) (Q:=Q) m.eok m.heap hev (fun p hp=>hs p (st.side p hp)) hfresh (fun g' w' v k=>by
   refine ih (listed.setIfInBounds i true) g' w' (a.put o.dst v) (sL o.dst e.slot env) (qH e.upd H) ?_ ⟨by rw[Array.size_setIfInBounds];exact m.size,hcl',SY m.eok k.le k.slot m.tmps st.dst,fun t=> ?_,k.heap,fun id=> ?_,(XY _ _ _).trans m.tmps,by rw[XZ];exact m.def_.eff m.heap k,m.good.eff k (m.len▸(KA hev).2),m.len,fun j hj hjp id h1 h2=> ?_,fun id hid=> ?_⟩
   .have:=YF hil hpi hin;omega
   .rw[Y9,KB (p:=fun j=>listed.getD j false) (i:=i) hpi (fun j=>by simp only[yM hil]) hin (fun j hij hj hl=> ?_),<-m.look t]
    .unfold vV;rw[hoL,he];simp only;split<;>rfl
    .have hpj:ops.toList[j]? =some ops[j]:=by simp [hj]
     obtain⟨f,hf⟩: ∃f,es[j]? =some f:=⟨es[j]'(by rw[run.len,hsz];exact hj),by simp⟩;obtain⟨h3,_⟩:=pairGt j _ f hij hpj hf hl;by_cases hw:vV ops.toList es t j=none
     .exact .inl hw
     .right;have hd:=dS t j _ f hpj hf hw;by_cases hwi:vV ops.toList es t i=none
      .exact hwi
      .have hdi:=dS t i _ e hoL he hwi;exact absurd hd ((Oper.apart_spec h3).2.1 t hdi)
   .rw[HQ,KB (p:=fun j=>listed.getD j false) (i:=i) hpi (fun j=>by simp only[yM hil]) hin (fun j hij hj hl=> ?_),<-m.get id]
    .unfold uJ;rw[he];simp only;by_cases h7:id∈pS (uQ e)
     .rw[aQI h7,aQI (FN.1 h7).1];rfl
     .rw[aQO h7];by_cases h8:id∈pS e.upd
      .obtain⟨q1,q2⟩:=st.same id h8 h7;rw[aQI h8,q1,<-hrds id q2 (hXu id h8)];rfl
      .rw[aQO h8];rfl
    .have hpj:ops.toList[j]? =some ops[j]:=by simp [hj]
     obtain⟨f,hf⟩: ∃f,es[j]? =some f:=⟨es[j]'(by rw[run.len,hsz];exact hj),by simp⟩;obtain⟨_,h3⟩:=pairGt j _ f hij hpj hf hl;by_cases hw:uJ es id j=none
     .exact .inl hw
     .right;have hd:=dH id j f hf hw;by_cases hwi:uJ es id i=none
      .exact hwi
      .have hdi:=dH id i e he hwi;rcases h3 with h3|h3
       .exact absurd (FN.1 hd).1 ((DU h3).1 id hdi).2
       .exact(noW id i e he hwi h3.1).elim
   .rw[yM hil] at hjp;have hji:j≠i:=fun h=>by rw[aQI h] at hjp;cases hjp
    rw[aQO hji] at hjp;have hnot:id∉pS e.upd:=by
     intro hm;have hlt:=FM st.ids hm;rcases Nat.lt_or_gt_of_ne hji with h3|h3
     .obtain⟨f,hf⟩: ∃f,es[j]? =some f:=⟨es[j]'(by rw[run.len,hsz];exact hj),by simp⟩;rcases pairLt j ops[j] f h3 (by simp [hj]) hf with h4|h4
      .rw[hjp] at h4;cases h4
      .have:=YD h4.2.2 id hm;omega
     .omega
    have hg:=k.gho id hnot;have hb:=m.free j hj hjp id h1 h2;exact⟨hg.1.trans hb.1,fun n=>by rw[hg.2];exact hb.2 n⟩
   .have hnot:id∉pS e.upd:=fun hm=>by have:=FM st.ids hm;omega
    have hg:=k.gho id hnot;have hb:=m.top id hid;exact⟨hg.1.trans hb.1,fun n=>by rw[hg.2];exact hb.2 n⟩)
  unfold wpOpIn;rw[ho];simp only[aRQ] at key|-;split at key
  .rename_i hw;rw[aQI hw];exact Y3 (Y2 hev) key
  .rename_i hw;rw[aQO hw];exact⟨fun _ _=>trivial,key⟩
theorem aMn {i0 j0:Nat}{ex fx:q9}{ro:p9}(hm:P.follows .mixedOrders=true) {id:Nat}{ops:Array Oper}{s:St}{y:tZ}{a:Act}{w:pB}{g:Gh}(h:tC T Γ ops.toList ops.toList (some ⟨s,[],[]⟩)=some y) (hchk:Q1 i0 j0 ops s.nb y.es.reverse=true) (hij0:i0<j0) (hex:y.es.reverse[i0]? =some ex) (hup:ex.upd=[]) (hfx:y.es.reverse[j0]? =some fx) {a1:tZ}{o1:Oper}(ho1:ops.toList[i0]? =some o1) (ha1:tC T Γ ops.toList (ops.toList.take i0) (some ⟨s,[],[]⟩)=some a1) (hx1:wH T Γ ops.toList o1 ⟨a1.s.env,qH (uQ fx) a1.s.H,a1.s.nb,a1.s.N,a1.s.np⟩=some ex) (hs: ∀p∈y.side,p) (hr:tP B g w s a) (hg:sJ A L g0 w0 g w s.H) (hn:L.length=s.np)
  (hQ: ∀g' a' w',tP B g' w' y.s a'->sJ A L g0 w0 g' w' y.s.H->Q .normal a' w'):(Code.region id ops true).wpIn (zY ro) 0 P Q a w:=by
 obtain⟨es,h1,run⟩:=NH h hs;have hes:y.es.reverse=es:=by rw[h1];simp
 simp only at run;rw[hes] at hchk hex hfx;have hsd:=BI h;have hrep: ∀j,(Array.replicate ops.size false).getD j false=false:=by
  intro j;rw[aQ7,Array.getElem?_replicate];split<;>rfl
 have none: ∀{α:Type}(wr:Nat->Option α) (b:α) n,t7 (fun j=>(Array.replicate ops.size false).getD j false) wr b n=b:=by
  intro α wr b n
  induction n with
  |zero=>rfl
  |succ n ih=>simp only[t7];rw[aQO (by rw[hrep];simp)];exact ih
 have hsz:ops.toList.length=ops.size:=aRb;refine wpIn_region_any hm (aMm hT hΓ run hs hchk hij0 hex hup hfx (aMl run hs ho1 ha1 hes h hx1) (fun g' a' w' env H he hl hh hgt hz hd hgd htop=> ?_) _ _ g _ a s.env s.H ?_ ⟨by simp,fun j o ho hj=> ?_,fun t=>yW (YH g w _) (hr.env t),fun t=> ?_,hr.heap.drawn _,fun id=> ?_,hr.size,hr.def_.same (fun _ h=>h),hg.drawn _,hn,fun j _ _ id h1 _=>hr.nb id oW,fun id h1=>hr.nb id oW⟩)
 .refine hQ g' a' w' ⟨fun t=>by rw[<-hl t];exact he t,hh.ext (fun i=>(hgt i).symm),by rw[hsd.2.1];exact hz,fun i hi=>htop i ?_,hd,?_⟩ (hgd.ext (fun i=>(hgt i).symm))
  .rw[run.nb,hsz] at hi;exact hi
  .rw[hsd.2.2,run.nb];exact aRs hr.np (Nat.le_add_right _ _)
 .have: ∀n (l:Array Bool),yK l n<=n:=by
   intro n l
   induction n with
   |zero=>exact aQ4 _
   |succ n ih=>simp only[yK];split<;>omega
  exact this _ _
 .simp only[hrep] at hj;cases hj
 .rw[none]
 .exact(none _ _ _).symm
end
section
variable {R:Bool}{P:Program}{T:rW}{Γ:sP}(E:qM P T Γ) {s:St}{Q:Ex->St->Prop}
include E
theorem aMo (i0 j0:Nat) {id:Nat}{ops:Array Oper}{a a1:tZ}{o1:Oper}{ex fx:q9}(h:tC T Γ ops.toList ops.toList (some ⟨s,[],[]⟩)=some a) (hf:Q1 i0 j0 ops s.nb a.es.reverse=true) (hp:qI a.side) (hij0:i0<j0) (hex:a.es.reverse[i0]? =some ex) (hup:ex.upd=[]) (hfx:a.es.reverse[j0]? =some fx) (ho1:ops.toList[i0]? =some o1) (ha1:tC T Γ ops.toList (ops.toList.take i0) (some ⟨s,[],[]⟩)=some a1) (hx1:wH T Γ ops.toList o1 ⟨a1.s.env,qH (uQ fx) a1.s.H,a1.s.nb,a1.s.N,a1.s.np⟩=some ex) (hq:Q .normal a.s):Ev R P (.region id ops true) s Q:=
 fun ro hro A L g0 w0 g w' w B hB hr hg hn=>aMn E.T E.Γ E.m h hf hij0 hex hup hfx ho1 ha1 hx1 (T6 hp) hr hg hn.symm (fun g' a' w' hr' hg'=>⟨.normal,g',a.s,rfl,hq,hr',hg',(BI h).2.2.trans hn⟩)
theorem UL (i0 j0:Nat) {id:Nat}{ops:Array Oper}{a a1:tZ}{o1:Oper}{ex fx:q9}{y:Code}(hq:Ev R P y a.s Q) (h:tC T Γ ops.toList ops.toList (some ⟨s,[],[]⟩)=some a:=by simp only[go_sem];rfl) (hp:qI a.side:=by exact trivial) (hf:Q1 i0 j0 ops s.nb a.es.reverse=true:=by kernel_rfl) (hij0:i0<j0:=by decide) (hex:a.es.reverse[i0]? =some ex:=by rfl) (hup:ex.upd=[]:=by rfl) (hfx:a.es.reverse[j0]? =some fx:=by rfl) (ho1:ops.toList[i0]? =some o1:=by rfl) (ha1:tC T Γ ops.toList (ops.toList.take i0) (some ⟨s,[],[]⟩)=some a1:=by simp only[go_sem,List.take_succ_cons,List.take_zero];rfl) (hx1:wH T Γ ops.toList o1 ⟨a1.s.env,qH (uQ fx) a1.s.H,a1.s.nb,a1.s.N,a1.s.np⟩=some ex:=by simp only[go_sem];rfl):Ev R P (.seq (.region id ops true) y) s Q:=
 pW (aMo E i0 j0 h hf hp hij0 hex hup hfx ho1 ha1 hx1 hq)
end
end Go.Proofs.YtkpflnijijccpaaGreatDoor.Vc
namespace Go.Proofs.YtkpflnijijccpaaGreatDoor
open Vc
noncomputable section
def aGE (O:(Int×oT×(List qK)×Bool)):(Bool×Int)→Option ((Bool×Int)⊕Bool):=fun(Z,aA)=>if (decide (aA<(O.2.2.1.length:Int)))=true then if 0≤aA∧aA<(O.2.2.1.length:Int) then if ((Z==true)=true→((BP ((qB (.pair .str (.pair .str .unit)) O.2.2.1 aA).2.1))).isSome=true) then if pO (aA+(1:Int)) then some (.inl ((Z&&(val (BP ((qB (.pair .str (.pair .str .unit)) O.2.2.1 aA).2.1)))),(aA+(1:Int)))) else none else none else none else some (.inr Z)
def aGF (O:rS) (Z:(p6×Unit)) (aA:p4) (aB:(List (oT×oT))):((List rO)×Int×Int×Int×oT×(List qK)×Bool×oU×(List qK))→Option (((List rO)×Int×Int×Int×oT×(List qK)×Bool×oU×(List qK))⊕(((List rO)×Int×Int)⊕((List rO)×Int×Int×oT×oU×(List qK)×p6))):=fun(aC,aD,aE,aF,aG,aH,aI,aJ,aK)=>if (decide (aE=(0:Int)))=true then (BU aC aD aE ((rM .str .str aB ([116,97,103]:oT)),(O.2.1,(O.2.2.1,(O.2.2.2.1,())))) (Z.1,()) aA).bind fun aL=>(zH aL aD aE ((rM .str .str aB ([116,97,103]:oT)),(O.2.1,(O.2.2.1,(O.2.2.2.1,())))) (Z.1,()) aA).bind fun aM=>if ((decide (aM.2.1=([99,111,109,109,101,110,116]:oT)))&&(!decide (aM.1=(3:Int))))=true then (C5 aL aD aE ((rM .str .str aB ([116,97,103]:oT)),(O.2.1,(O.2.2.1,(O.2.2.2.1,())))) (Z.1,()) (aM.1,(aM.2.1,(aM.2.2.1,(aM.2.2.2,())))) (([]:oT),(([]:oT),(([]:oT),(aJ,(([]:oU),((0:Int),(aK,()))))))) aA).bind fun aN=>some (.inl (aN.1,aN.2.1,aN.2.2.1,aM.1,aM.2.1,aM.2.2.1,aM.2.2.2,aN.2.2.2,aK)) else if ((decide (aM.2.1=([102,105,101,108,100]:oT)))&&(!decide (aM.1=(3:Int))))=true then (C6 aL aD aE ((rM .str .str aB ([116,97,103]:oT)),(O.2.1,(O.2.2.1,(O.2.2.2.1,())))) (Z.1,()) (aM.1,(aM.2.1,(aM.2.2.1,(aM.2.2.2,())))) (([]:oT),(([]:oT),(([]:oT),(aJ,(([]:oU),((0:Int),(aK,()))))))) aA).bind fun aO=>some (.inl (aO.1,aO.2.1,aO.2.2.1,aM.1,aM.2.1,aM.2.2.1,aM.2.2.2,aJ,aO.2.2.2)) else if ((vB (aM.1,(aM.2.1,(aM.2.2.1,(aM.2.2.2,())))) ([]:oT) ([]:oT))).isSome=true then (vB (aM.1,(aM.2.1,(aM.2.2.1,(aM.2.2.2,())))) ([]:oT) ([]:oT)).bind fun aP=>(wD aL aD aE ((rM .str .str aB ([116,97,103]:oT)),(O.2.1,(O.2.2.1,(O.2.2.2.1,())))) (Z.1,()) ((!decide (aM.1=(1:Int)))||(!decide (aM.2.1=([101,110,116,114,105,101,115]:oT)))) aM.2.2.2 false aA).bind fun aQ=>(wW aL aQ.1 aQ.2 ((rM .str .str aB ([116,97,103]:oT)),(O.2.1,(O.2.2.1,(O.2.2.2.1,())))) (Z.1,()) aA).bind fun aR=>if (Z.1.length+([((qB rX aL (0:Int)).2.2.1+(((qB rX aL (0:Int)).2.1).length:Int))]:p6).length)*8≤140737488355328 then some (.inr (.inr ((aR,aQ.1,aQ.2,(rM .str .str aB ([116,97,103]:oT)),aJ,aK,(Z.1++([((qB rX aL (0:Int)).2.2.1+(((qB rX aL (0:Int)).2.1).length:Int))]:p6)))))) else none else (D0 (aM.1,(aM.2.1,(aM.2.2.1,(aM.2.2.2,())))) ([]:oT) ([]:oT)).bind fun aS=>(wD aL aD aE ((rM .str .str aB ([116,97,103]:oT)),(O.2.1,(O.2.2.1,(O.2.2.2.1,())))) (Z.1,()) (((!decide (aM.1=(1:Int)))||(!decide (aM.2.1=([101,110,116,114,105,101,115]:oT))))||true) aM.2.2.2 false aA).bind fun aT=>(wW aL aT.1 aT.2 ((rM .str .str aB ([116,97,103]:oT)),(O.2.1,(O.2.2.1,(O.2.2.2.1,())))) (Z.1,()) aA).bind fun aU=>if (Z.1.length+([((qB rX aL (0:Int)).2.2.1+(((qB rX aL (0:Int)).2.1).length:Int))]:p6).length)*8≤140737488355328 then some (.inr (.inr ((aU,aT.1,aT.2,(rM .str .str aB ([116,97,103]:oT)),aJ,aK,(Z.1++([((qB rX aL (0:Int)).2.2.1+(((qB rX aL (0:Int)).2.1).length:Int))]:p6)))))) else none else some (.inr (.inl (aC,aD,aE)))
def aGG (O:(Int×oT×(List qK)×Bool)):(Bool×Int)→Option ((Bool×Int)⊕Bool):=fun(Z,aA)=>if (decide (aA<(O.2.2.1.length:Int)))=true then if 0≤aA∧aA<(O.2.2.1.length:Int) then if ((Z==true)=true→((BP ((qB (.pair .str (.pair .str .unit)) O.2.2.1 aA).2.1))).isSome=true) then if pO (aA+(1:Int)) then some (.inl ((Z&&(val (BP ((qB (.pair .str (.pair .str .unit)) O.2.2.1 aA).2.1)))),(aA+(1:Int)))) else none else none else none else some (.inr Z)
def aGH (O:rS) (Z:(p6×Unit)) (aA:p4):((List rO)×Int×Int×Int×oT×(List qK)×Bool×oU×(List qK))→Option (((List rO)×Int×Int×Int×oT×(List qK)×Bool×oU×(List qK))⊕(((List rO)×Int×Int)⊕((List rO)×Int×Int×oT×oU×(List qK)×p6))):=fun(aB,aC,aD,aE,aF,aG,aH,aI,aJ)=>if (decide (aD=(0:Int)))=true then (BU aB aC aD (([]:oT),(O.2.1,(O.2.2.1,(O.2.2.2.1,())))) (Z.1,()) aA).bind fun aK=>(zH aK aC aD (([]:oT),(O.2.1,(O.2.2.1,(O.2.2.2.1,())))) (Z.1,()) aA).bind fun aL=>if ((decide (aL.2.1=([99,111,109,109,101,110,116]:oT)))&&(!decide (aL.1=(3:Int))))=true then (C5 aK aC aD (([]:oT),(O.2.1,(O.2.2.1,(O.2.2.2.1,())))) (Z.1,()) (aL.1,(aL.2.1,(aL.2.2.1,(aL.2.2.2,())))) (([]:oT),(([]:oT),(([]:oT),(aI,(([]:oU),((0:Int),(aJ,()))))))) aA).bind fun aM=>some (.inl (aM.1,aM.2.1,aM.2.2.1,aL.1,aL.2.1,aL.2.2.1,aL.2.2.2,aM.2.2.2,aJ)) else if ((decide (aL.2.1=([102,105,101,108,100]:oT)))&&(!decide (aL.1=(3:Int))))=true then (C6 aK aC aD (([]:oT),(O.2.1,(O.2.2.1,(O.2.2.2.1,())))) (Z.1,()) (aL.1,(aL.2.1,(aL.2.2.1,(aL.2.2.2,())))) (([]:oT),(([]:oT),(([]:oT),(aI,(([]:oU),((0:Int),(aJ,()))))))) aA).bind fun aN=>some (.inl (aN.1,aN.2.1,aN.2.2.1,aL.1,aL.2.1,aL.2.2.1,aL.2.2.2,aI,aN.2.2.2)) else if ((vB (aL.1,(aL.2.1,(aL.2.2.1,(aL.2.2.2,())))) ([]:oT) ([]:oT))).isSome=true then (vB (aL.1,(aL.2.1,(aL.2.2.1,(aL.2.2.2,())))) ([]:oT) ([]:oT)).bind fun aO=>(wD aK aC aD (([]:oT),(O.2.1,(O.2.2.1,(O.2.2.2.1,())))) (Z.1,()) ((!decide (aL.1=(1:Int)))||(!decide (aL.2.1=([101,110,116,114,105,101,115]:oT)))) aL.2.2.2 false aA).bind fun aP=>(wW aK aP.1 aP.2 (([]:oT),(O.2.1,(O.2.2.1,(O.2.2.2.1,())))) (Z.1,()) aA).bind fun aQ=>if (Z.1.length+([((qB rX aK (0:Int)).2.2.1+(((qB rX aK (0:Int)).2.1).length:Int))]:p6).length)*8≤140737488355328 then some (.inr (.inr ((aQ,aP.1,aP.2,([]:oT),aI,aJ,(Z.1++([((qB rX aK (0:Int)).2.2.1+(((qB rX aK (0:Int)).2.1).length:Int))]:p6)))))) else none else (D0 (aL.1,(aL.2.1,(aL.2.2.1,(aL.2.2.2,())))) ([]:oT) ([]:oT)).bind fun aR=>(wD aK aC aD (([]:oT),(O.2.1,(O.2.2.1,(O.2.2.2.1,())))) (Z.1,()) (((!decide (aL.1=(1:Int)))||(!decide (aL.2.1=([101,110,116,114,105,101,115]:oT))))||true) aL.2.2.2 false aA).bind fun aS=>(wW aK aS.1 aS.2 (([]:oT),(O.2.1,(O.2.2.1,(O.2.2.2.1,())))) (Z.1,()) aA).bind fun aT=>if (Z.1.length+([((qB rX aK (0:Int)).2.2.1+(((qB rX aK (0:Int)).2.1).length:Int))]:p6).length)*8≤140737488355328 then some (.inr (.inr ((aT,aS.1,aS.2,([]:oT),aI,aJ,(Z.1++([((qB rX aK (0:Int)).2.2.1+(((qB rX aK (0:Int)).2.1).length:Int))]:p6)))))) else none else some (.inr (.inl (aB,aC,aD)))
def AY (O:(List rO)) (Z:Int) (aA:Int) (aB:rS) (aC:(p6×Unit)) (aD:p4):Option ((List rO)×Int×Int×oT×oU×(List qK)×p6):=(BU O Z aA aB aC aD).bind fun aE=>(zH aE Z aA (aB.1,(aB.2.1,(aB.2.2.1,(aB.2.2.2.1,())))) (aC.1,()) aD).bind fun aF=>if ((vB (aF.1,(aF.2.1,(aF.2.2.1,(aF.2.2.2,())))) ([116,97,103]:oT) ([]:oT))).isSome=true then (vB (aF.1,(aF.2.1,(aF.2.2.1,(aF.2.2.2,())))) ([116,97,103]:oT) ([]:oT)).bind fun aG=>sG (rF (aGE aF) (true,(0:Int))) fun aH=>(wD aE Z aA (aB.1,(aB.2.1,(aB.2.2.1,(aB.2.2.2.1,())))) (aC.1,()) (((!decide (aF.1=(1:Int)))||(!decide (aF.2.1=([99,97,116,97,108,111,103]:oT))))||(!aH)) aF.2.2.2 false aD).bind fun aI=>(wW aE aI.1 aI.2 ((rM .str .str aG ([116,97,103]:oT)),(aB.2.1,(aB.2.2.1,(aB.2.2.2.1,())))) (aC.1,()) aD).bind fun aJ=>sR (rF (aGF aB aC aD aG) (aJ,aI.1,aI.2,aF.1,aF.2.1,aF.2.2.1,aF.2.2.2,([]:oU),([]:List qK))) fun(aK,aL,aM)=>some ((aK,aL,aM,(rM .str .str aG ([116,97,103]:oT)),aB.2.1,aB.2.2.1,aC.1)) else (D0 (aF.1,(aF.2.1,(aF.2.2.1,(aF.2.2.2,())))) ([116,97,103]:oT) ([]:oT)).bind fun aN=>sG (rF (aGG aF) (true,(0:Int))) fun aO=>(wD aE Z aA (aB.1,(aB.2.1,(aB.2.2.1,(aB.2.2.2.1,())))) (aC.1,()) ((((!decide (aF.1=(1:Int)))||(!decide (aF.2.1=([99,97,116,97,108,111,103]:oT))))||true)||(!aO)) aF.2.2.2 false aD).bind fun aP=>(wW aE aP.1 aP.2 (([]:oT),(aB.2.1,(aB.2.2.1,(aB.2.2.2.1,())))) (aC.1,()) aD).bind fun aQ=>sR (rF (aGH aB aC aD) (aQ,aP.1,aP.2,aF.1,aF.2.1,aF.2.2.1,aF.2.2.2,([]:oU),([]:List qK))) fun(aR,aS,aT)=>some ((aR,aS,aT,([]:oT),aB.2.1,aB.2.2.1,aC.1))
section
variable (O:(List rO)) (Z:Int) (aA:Int) (aB:rS) (aC:(p6×Unit)) (aD:Nat) (aE:Nat) (aF:p4)
abbrev a78:List pN:=[(.val .ref (some (0,0)),none)]
abbrev a79:List pM:=[.cells rY (O,(Z,(aA,(aB,((some 3),aC))))) [(6,1),(8,2)],.grow 53 7 aD,.grow 3 1 aE,.map .str .bool aF]
@[go_sem] def a8a:pR:=⟨[aD=(aB.2.2.2.1.length),aE=(aC.1.length),((AY O Z aA aB aC aF)).isSome=true],[],[.cells rY ((val (AY O Z aA aB aC aF)).1,((val (AY O Z aA aB aC aF)).2.1,((val (AY O Z aA aB aC aF)).2.2.1,(((val (AY O Z aA aB aC aF)).2.2.2.1,((val (AY O Z aA aB aC aF)).2.2.2.2.1,((val (AY O Z aA aB aC aF)).2.2.2.2.2.1,(aB.2.2.2.1,())))),((some 3),((val (AY O Z aA aB aC aF)).2.2.2.2.2.2,())))))) [(6,1),(8,2)],.grow 53 7 (aB.2.2.2.1.length),.grow 3 1 (((val (AY O Z aA aB aC aF)).2.2.2.2.2.2).length),.map .str .bool aF]⟩
def aGI:List pN→List pM→Option pR:=qU (V:=((List rO)×Int×Int×rS×(p6×Unit)×Nat×Nat×p4)) (fun x=>a78) (fun x=>a79 x.1 x.2.1 x.2.2.1 x.2.2.2.1 x.2.2.2.2.1 x.2.2.2.2.2.1 x.2.2.2.2.2.2.1 x.2.2.2.2.2.2.2) fun x=>a8a x.1 x.2.1 x.2.2.1 x.2.2.2.1 x.2.2.2.2.1 x.2.2.2.2.2.1 x.2.2.2.2.2.2.1 x.2.2.2.2.2.2.2
@[go_sem] def aQz:aGI (no_index a78) (no_index (a79 O Z aA aB aC aD aE aF))=some (a8a O Z aA aB aC aD aE aF):=qV (fun⟨a0,a1,a2,a3,a4,a5,a6,a7⟩ ⟨b0,b1,b2,b3,b4,b5,b6,b7⟩ h1 h2=>by cases h1;cases h2;rfl) (O,Z,aA,aB,aC,aD,aE,aF)
end
@[go_sem] abbrev aGJ:Nat×qC:=(51,⟨[.p rY [6,8]],aGI,[(0,7,.m)],[1,3],none⟩)
def sK:qM Tryz.prog [u7,yO,rG,tG,AQ,vH,x5,vG,CW,A3,A4,wV,CV,zB] (qO [L9,ES,L6,TY,BQ,G2,PZ,Q0]):=⟨⟨uF,⟨A5,⟨rJ,⟨tT,⟨CU,⟨vX,⟨y6,⟨vW,⟨FV,⟨BN,⟨BO,⟨xP,⟨FU,⟨AR,trivial⟩⟩⟩⟩⟩⟩⟩⟩⟩⟩⟩⟩⟩⟩,pU P8 (pU GO (pU P3 (pU a08 (pU CY (pU IB (pU UH (pU UI qS))))))),qQ⟩
def a8b:qM Tryz.prog [u7,yO,rG,tG,AQ,vH,x5,vG,CW,A3,A4,wV,CV,zB] (qO [L9,ES,TY,BQ,G2,PZ,Q0,L7]):=⟨⟨uF,⟨A5,⟨rJ,⟨tT,⟨CU,⟨vX,⟨y6,⟨vW,⟨FV,⟨BN,⟨BO,⟨xP,⟨FU,⟨AR,trivial⟩⟩⟩⟩⟩⟩⟩⟩⟩⟩⟩⟩⟩⟩,pU P8 (pU GO (pU a08 (pU CY (pU IB (pU UH (pU UI (pU P4 qS))))))),qQ⟩
def aMp:qE Tryz.prog aGJ:=by
 refine qW sK Tryz.func51 (c:=_) rfl (N:=139) pE (ts:=[]) rfl (fun _ _=>rfl) ?_;intro⟨O,Z,aA,aB,aC,aD,aE,aF⟩ hs hrow;dsimp only[a78,a79,a8a,qR,pX,qD,qI,qT,Nat.reduceAdd] at hs hrow|-;obtain⟨rfl,rfl,hz⟩:=hs;obtain⟨z0,f⟩:=aQF.1 hz
 try rw[r8 f]
 clear hz;unfold AY at f;obtain⟨aG,hv1,hw1,f⟩:=q8 f
 try simp only[go_sem] at hw1
 refine pL sK ?_ (hp:=by exact⟨pD,pD,pD,pD,pD,(pZ hv1)⟩) (h:=by simp only[go_sem,hw1];rfl)
 obtain⟨aH,hv2,hw2,f⟩:=q8 f
 try simp only[go_sem] at hw2
 refine pL sK ?_ (hp:=by exact⟨pD,pD,pD,pD,pD,pD,(pZ hv2)⟩) (h:=by simp only[go_sem,hw2];rfl)
 refine pW ?_;by_cases hva1:((vB (aH.1,(aH.2.1,(aH.2.2.1,(aH.2.2.2,())))) ([116,97,103]:oT) ([]:oT))).isSome=true
 .rw[aQI hva1] at f;obtain⟨aI,hv3,hw3,f⟩:=q8 f
  try simp only[go_sem] at hw3
  refine qJ sK ?_ (hp:=by exact(pZ hv3)) (h:=by simp only[go_sem,hw3];rfl);refine pT ?_;refine pL sK ?_;refine pW ?_;refine pL sK ?_;refine qY ?_;obtain⟨aJ,hy1,f⟩:=r9 f;refine sE 0 (fun s=>s=(fun x=>⟨[(0,(.val .ref (some (0,0)),none)),(2,(.val .ref (some (4,0)),none)),(3,(.val .mp (some 5),none)),(4,(.val .bool true,none)),(5,(.val .bool x,none))],[(0,.cells rY (aG,(Z,(aA,((aB.1,(aB.2.1,(aB.2.2.1,(aB.2.2.2.1,())))),((some 3),(aC.1,())))))) [(6,1),(8,2)]),(1,.grow 53 7 (aB.2.2.2.1.length)),(2,.grow 3 1 (aC.1.length)),(3,.map .str .bool aF),(4,.cells vA (aH.1,(aH.2.1,(aH.2.2.1,(aH.2.2.2,())))) []),(5,.map .str .str aI)],6,139,4⟩) aJ) ?_ ?_
  .refine sC hy1 (fun x=>⟨[(0,(.val .ref (some (0,0)),none)),(2,(.val .ref (some (4,0)),none)),(3,(.val .mp (some 5),none)),(4,(.val .bool true,none)),(5,(.val .bool x.1,none)),(21,(.val (.list (.pair .str (.pair .str .unit))) aH.2.2.1,none)),(22,(.val (.int .i64) (aH.2.2.1.length:Int),none)),(23,(.val (.int .i64) x.2,none))],[(0,.cells rY (aG,(Z,(aA,((aB.1,(aB.2.1,(aB.2.2.1,(aB.2.2.2.1,())))),((some 3),(aC.1,())))))) [(6,1),(8,2)]),(1,.grow 53 7 (aB.2.2.2.1.length)),(2,.grow 3 1 (aC.1.length)),(3,.map .str .bool aF),(4,.cells vA (aH.1,(aH.2.1,(aH.2.2.1,(aH.2.2.2,())))) []),(5,.map .str .str aI)],6,139,4⟩) ⟨[0,2,3,4,5,21,22,23],[(0,0),(1,1),(2,2),(3,3),(4,132),(5,228)]⟩ pF ?_;intro x1 w1 n1 d g;obtain⟨aK,aL⟩:=x1;unfold aGE at d;dsimp only at d|-;refine pL sK ?_;refine pW ?_;refine pY d (fun d hc2=> ?_) (fun d hc2=> ?_)
   .refine qG (pT (pW (qY ?_)));obtain⟨hg4,d⟩:=pP d;refine pL sK ?_ (hp:=by exact hg4);obtain⟨hg5,d⟩:=pP d;refine qJ sK ?_ (hp:=by exact⟨id,id,hg5,rI⟩);refine r5 (pT ?_);obtain⟨hg6,d⟩:=pP d;refine qJ sK ?_ (hp:=by exact hg6);cases d;exact rT ⟨⟨[0,2,3,4,5,21,22,23],[(0,0),(1,1),(2,2),(3,3),(4,4),(5,5)]⟩,_,by rfl,g⟩
   .refine s8 (s7 (sA ?_));cases d;cases g;exact s9 ⟨⟨[0,2,3,4,5],[(0,0),(1,1),(2,2),(3,3),(4,4),(5,5)]⟩,by rfl⟩
  .rintro _ rfl;dsimp only at f|-;refine sD (pT ?_);obtain⟨aM,hv7,hw7,f⟩:=q8 f
   try simp only[go_sem] at hw7
   refine pL sK ?_ (hp:=by exact⟨id,id,rU,id,rU,id,rU,pD,pD,pD,pD,pD,(pZ hv7)⟩) (h:=by simp only[go_sem,hw7];rfl)
   refine pL sK ?_;obtain⟨aN,hv8,hw8,f⟩:=q8 f
   try simp only[go_sem] at hw8
   refine pL sK ?_ (hp:=by exact⟨pD,pD,pD,pD,pD,(pZ hv8)⟩) (h:=by simp only[go_sem,hw8];rfl)
   refine pL sK ?_;refine qY ?_;obtain⟨y1,hy1,f⟩:=tN f;refine sE 2 (fun s=> ∃v,y1= .inl v∧s=(fun x=>⟨[],[(0,.cells rY (x.1,(x.2.1,(x.2.2,(((rM .str .str aI ([116,97,103]:oT)),(aB.2.1,(aB.2.2.1,(aB.2.2.2.1,())))),((some 3),(aC.1,())))))) [(6,1),(8,2)]),(1,.grow 53 7 (aB.2.2.2.1.length)),(2,.grow 3 1 (aC.1.length)),(3,.map .str .bool aF)],4,139,4⟩) v) ?_ ?_
   .refine sC hy1 (fun x=>⟨[(0,(.val .ref (some (0,0)),none)),(2,(.val .ref (some (4,0)),none)),(8,(.val .ref (some (5,0)),none))],[(0,.cells rY (x.1,(x.2.1,(x.2.2.1,(((rM .str .str aI ([116,97,103]:oT)),(aB.2.1,(aB.2.2.1,(aB.2.2.2.1,())))),((some 3),(aC.1,())))))) [(6,1),(8,2)]),(1,.grow 53 7 (aB.2.2.2.1.length)),(2,.grow 3 1 (aC.1.length)),(3,.map .str .bool aF),(4,.cells vA (x.2.2.2.1,(x.2.2.2.2.1,(x.2.2.2.2.2.1,(x.2.2.2.2.2.2.1,())))) []),(5,.cells rN (([]:oT),(([]:oT),(([]:oT),(x.2.2.2.2.2.2.2.1,(([]:oU),((0:Int),(x.2.2.2.2.2.2.2.2,()))))))) [(3,6)]),(6,.grow 9 1 (x.2.2.2.2.2.2.2.1.length))],7,139,4⟩) ⟨[0,2,8],[(0,0),(1,1),(2,2),(3,3),(4,4),(5,934),(6,935)]⟩ pF ?_;intro x1 w1 n1 d g;obtain⟨aO,aP,aQ,aR,aS,aT,aU,aV,aW⟩:=x1;unfold aGF at d;dsimp only at d|-;refine pW ?_;refine pL sK ?_;refine pY d (fun d hc3=> ?_) (fun d hc3=> ?_)
    .refine qG (pT (qY ?_));obtain⟨aX,hv9,hw9,d⟩:=q8 d
     try simp only[go_sem] at hw9
     refine pL sK ?_ (hp:=by exact⟨pD,pD,pD,pD,pD,(pZ hv9)⟩) (h:=by simp only[go_sem,hw9];rfl)
     obtain⟨aY,hv10,hw10,d⟩:=q8 d
     try simp only[go_sem] at hw10
     refine pL sK ?_ (hp:=by exact⟨pD,pD,pD,pD,pD,pD,(pZ hv10)⟩) (h:=by simp only[go_sem,hw10];rfl)
     refine qY ?_;refine pL sK ?_ (hp:=by exact⟨id,id,rI⟩);refine pY d (fun d hc4=> ?_) (fun d hc4=> ?_)
     .obtain⟨aZ,hv11,hw11,d⟩:=q8 d
      try simp only[go_sem] at hw11
      refine qJ sK ?_ (hp:=by exact⟨pD,pD,pD,pD,pD,pD,(pZ hv11)⟩) (h:=by simp only[go_sem,hw11];rfl)
      refine r5 (r5 ?_);cases d;exact rT ⟨⟨[0,2,8],[(0,0),(1,1),(2,2),(3,3),(4,4),(5,5),(6,6)]⟩,_,by rfl,g⟩
     .refine pL sK ?_ (hp:=by exact⟨id,id,rI⟩);refine pY d (fun d hc5=> ?_) (fun d hc5=> ?_)
      .obtain⟨bA,hv12,hw12,d⟩:=q8 d
       try simp only[go_sem] at hw12
       refine qJ sK ?_ (hp:=by exact⟨pD,pD,pD,pD,pD,pD,pD,(pZ hv12)⟩) (h:=by simp only[go_sem,hw12];rfl)
       refine r5 (r5 ?_);cases d;exact rT ⟨⟨[0,2,8],[(0,0),(1,1),(2,2),(3,3),(4,4),(5,5),(6,6)]⟩,_,by rfl,g⟩
      .refine pW ?_;by_cases hva6:((vB (aY.1,(aY.2.1,(aY.2.2.1,(aY.2.2.2,())))) ([]:oT) ([]:oT))).isSome=true
       .rw[aQI hva6] at d;obtain⟨bB,hv13,hw13,d⟩:=q8 d
        try simp only[go_sem] at hw13
        refine qJ sK ?_ (hp:=by exact(pZ hv13)) (h:=by simp only[go_sem,hw13];rfl);refine pT ?_;obtain⟨bC,hv14,hw14,d⟩:=q8 d
        try simp only[go_sem] at hw14
        refine pL sK ?_ (hp:=by exact⟨id,id,rU,id,rU,pD,pD,pD,pD,pD,(pZ hv14)⟩) (h:=by simp only[go_sem,hw14];rfl)
        obtain⟨bD,hv15,hw15,d⟩:=q8 d
        try simp only[go_sem] at hw15
        obtain⟨hg16,d⟩:=pP d;refine UL sK 4 6 ?_ (hp:=by exact⟨pD,pD,pD,pD,pD,pZ hv15,pD,hg16⟩) (ha1:=by simp only[List.take_succ_cons,List.take_zero,go_sem,hw15]<;>rfl) (hx1:=by simp only[go_sem,hw15]<;>rfl) (h:=by simp only[go_sem,hw15];rfl)
        refine pL sK ?_;refine pV (r6 (r6 (tM (tQ (r6 ?_)))));cases d;cases g;dsimp only at f;cases f;exact oV [(0,0),(1,1),(2,2),(3,3)]
       rw[aQO hva6] at d;obtain⟨bE,hv17,hw17,d⟩:=q8 d
       try simp only[go_sem] at hw17
       refine qJ a8b ?_ (hp:=by exact(pZ hv17)) (h:=by simp only[go_sem,hw17];rfl);refine pT ?_;obtain⟨bF,hv18,hw18,d⟩:=q8 d
       try simp only[go_sem] at hw18
       refine pL sK ?_ (hp:=by exact⟨id,id,rU,id,rU,pD,pD,pD,pD,pD,(pZ hv18)⟩) (h:=by simp only[go_sem,hw18];rfl)
       obtain⟨bG,hv19,hw19,d⟩:=q8 d
       try simp only[go_sem] at hw19
       obtain⟨hg20,d⟩:=pP d;refine UL sK 4 6 ?_ (hp:=by exact⟨pD,pD,pD,pD,pD,pZ hv19,pD,hg20⟩) (ha1:=by simp only[List.take_succ_cons,List.take_zero,go_sem,hw19]<;>rfl) (hx1:=by simp only[go_sem,hw19]<;>rfl) (h:=by simp only[go_sem,hw19];rfl)
       refine pL sK ?_;refine pV (r6 (r6 (tM (tQ (r6 ?_)))));cases d;cases g;dsimp only at f;cases f;exact oV [(0,0),(1,1),(2,2),(3,3)]
    .refine s8 (s7 (sA ?_));cases d;cases g;exact s9 ⟨⟨[],[(0,0),(1,1),(2,2),(3,3)]⟩,_,rfl,by rfl⟩
   .rintro _ ⟨v,rfl,rfl⟩;obtain⟨bH,bI,bJ⟩:=v;dsimp only at f|-;refine sD ?_;cases f;exact oV [(0,0),(1,1),(2,2),(3,3)]
 rw[aQO hva1] at f;obtain⟨bK,hv21,hw21,f⟩:=q8 f
 try simp only[go_sem] at hw21
 refine qJ a8b ?_ (hp:=by exact(pZ hv21)) (h:=by simp only[go_sem,hw21];rfl);refine pT ?_;refine pL sK ?_;refine pW ?_;refine pL sK ?_;refine qY ?_;obtain⟨bM,hy1,f⟩:=r9 f;refine sE 0 (fun s=>s=(fun x=>⟨[(0,(.val .ref (some (0,0)),none)),(2,(.val .ref (some (4,0)),none)),(3,(.val .mp none,none)),(4,(.val .bool false,none)),(5,(.val .bool x,none))],[(0,.cells rY (aG,(Z,(aA,((aB.1,(aB.2.1,(aB.2.2.1,(aB.2.2.2.1,())))),((some 3),(aC.1,())))))) [(6,1),(8,2)]),(1,.grow 53 7 (aB.2.2.2.1.length)),(2,.grow 3 1 (aC.1.length)),(3,.map .str .bool aF),(4,.cells vA (aH.1,(aH.2.1,(aH.2.2.1,(aH.2.2.2,())))) [])],5,139,4⟩) bM) ?_ ?_
 .refine sC hy1 (fun x=>⟨[(0,(.val .ref (some (0,0)),none)),(2,(.val .ref (some (4,0)),none)),(3,(.val .mp none,none)),(4,(.val .bool false,none)),(5,(.val .bool x.1,none)),(21,(.val (.list (.pair .str (.pair .str .unit))) aH.2.2.1,none)),(22,(.val (.int .i64) (aH.2.2.1.length:Int),none)),(23,(.val (.int .i64) x.2,none))],[(0,.cells rY (aG,(Z,(aA,((aB.1,(aB.2.1,(aB.2.2.1,(aB.2.2.2.1,())))),((some 3),(aC.1,())))))) [(6,1),(8,2)]),(1,.grow 53 7 (aB.2.2.2.1.length)),(2,.grow 3 1 (aC.1.length)),(3,.map .str .bool aF),(4,.cells vA (aH.1,(aH.2.1,(aH.2.2.1,(aH.2.2.2,())))) [])],5,139,4⟩) ⟨[0,2,3,4,5,21,22,23],[(0,0),(1,1),(2,2),(3,3),(4,132)]⟩ pF ?_;intro x1 w1 n1 d g;obtain⟨bN,bO⟩:=x1;unfold aGG at d;dsimp only at d|-;refine pL sK ?_;refine pW ?_;refine pY d (fun d hc7=> ?_) (fun d hc7=> ?_)
  .refine qG (pT (pW (qY ?_)));obtain⟨hg22,d⟩:=pP d;refine pL sK ?_ (hp:=by exact hg22);obtain⟨hg23,d⟩:=pP d;refine qJ sK ?_ (hp:=by exact⟨id,id,hg23,rI⟩);refine r5 (pT ?_);obtain⟨hg24,d⟩:=pP d;refine qJ sK ?_ (hp:=by exact hg24);cases d;exact rT ⟨⟨[0,2,3,4,5,21,22,23],[(0,0),(1,1),(2,2),(3,3),(4,4)]⟩,_,by rfl,g⟩
  .refine s8 (s7 (sA ?_));cases d;cases g;exact s9 ⟨⟨[0,2,3,4,5],[(0,0),(1,1),(2,2),(3,3),(4,4)]⟩,by rfl⟩
 .rintro _ rfl;dsimp only at f|-;refine sD (pT ?_);obtain⟨bP,hv25,hw25,f⟩:=q8 f
  try simp only[go_sem] at hw25
  refine pL sK ?_ (hp:=by exact⟨id,id,rU,id,rU,id,fun e=>by first|exact rU e|exact rfl|exact e.elim|simp_all,pD,pD,pD,pD,pD,(pZ hv25)⟩) (h:=by simp only[go_sem,hw25];rfl)
  refine pL sK ?_;obtain⟨bQ,hv26,hw26,f⟩:=q8 f
  try simp only[go_sem] at hw26
  refine pL sK ?_ (hp:=by exact⟨pD,pD,pD,pD,pD,(pZ hv26)⟩) (h:=by simp only[go_sem,hw26];rfl)
  refine pL sK ?_;refine qY ?_;obtain⟨y1,hy1,f⟩:=tN f;refine sE 2 (fun s=> ∃v,y1= .inl v∧s=(fun x=>⟨[],[(0,.cells rY (x.1,(x.2.1,(x.2.2,((([]:oT),(aB.2.1,(aB.2.2.1,(aB.2.2.2.1,())))),((some 3),(aC.1,())))))) [(6,1),(8,2)]),(1,.grow 53 7 (aB.2.2.2.1.length)),(2,.grow 3 1 (aC.1.length)),(3,.map .str .bool aF)],4,139,4⟩) v) ?_ ?_
  .refine sC hy1 (fun x=>⟨[(0,(.val .ref (some (0,0)),none)),(2,(.val .ref (some (4,0)),none)),(8,(.val .ref (some (5,0)),none))],[(0,.cells rY (x.1,(x.2.1,(x.2.2.1,((([]:oT),(aB.2.1,(aB.2.2.1,(aB.2.2.2.1,())))),((some 3),(aC.1,())))))) [(6,1),(8,2)]),(1,.grow 53 7 (aB.2.2.2.1.length)),(2,.grow 3 1 (aC.1.length)),(3,.map .str .bool aF),(4,.cells vA (x.2.2.2.1,(x.2.2.2.2.1,(x.2.2.2.2.2.1,(x.2.2.2.2.2.2.1,())))) []),(5,.cells rN (([]:oT),(([]:oT),(([]:oT),(x.2.2.2.2.2.2.2.1,(([]:oU),((0:Int),(x.2.2.2.2.2.2.2.2,()))))))) [(3,6)]),(6,.grow 9 1 (x.2.2.2.2.2.2.2.1.length))],7,139,4⟩) ⟨[0,2,8],[(0,0),(1,1),(2,2),(3,3),(4,4),(5,933),(6,934)]⟩ pF ?_;intro x1 w1 n1 d g;obtain⟨bR,bS,bT,bU,bV,bW,bX,bZ,c7⟩:=x1;unfold aGH at d;dsimp only at d|-;refine pW ?_;refine pL sK ?_;refine pY d (fun d hc8=> ?_) (fun d hc8=> ?_)
   .refine qG (pT (qY ?_));obtain⟨c8,hv27,hw27,d⟩:=q8 d
    try simp only[go_sem] at hw27
    refine pL sK ?_ (hp:=by exact⟨pD,pD,pD,pD,pD,(pZ hv27)⟩) (h:=by simp only[go_sem,hw27];rfl)
    obtain⟨c9,hv28,hw28,d⟩:=q8 d
    try simp only[go_sem] at hw28
    refine pL sK ?_ (hp:=by exact⟨pD,pD,pD,pD,pD,pD,(pZ hv28)⟩) (h:=by simp only[go_sem,hw28];rfl)
    refine qY ?_;refine pL sK ?_ (hp:=by exact⟨id,id,rI⟩);refine pY d (fun d hc9=> ?_) (fun d hc9=> ?_)
    .obtain⟨cA,hv29,hw29,d⟩:=q8 d
     try simp only[go_sem] at hw29
     refine qJ sK ?_ (hp:=by exact⟨pD,pD,pD,pD,pD,pD,(pZ hv29)⟩) (h:=by simp only[go_sem,hw29];rfl)
     refine r5 (r5 ?_);cases d;exact rT ⟨⟨[0,2,8],[(0,0),(1,1),(2,2),(3,3),(4,4),(5,5),(6,6)]⟩,_,by rfl,g⟩
    .refine pL sK ?_ (hp:=by exact⟨id,id,rI⟩);refine pY d (fun d hc10=> ?_) (fun d hc10=> ?_)
     .obtain⟨cB,hv30,hw30,d⟩:=q8 d
      try simp only[go_sem] at hw30
      refine qJ sK ?_ (hp:=by exact⟨pD,pD,pD,pD,pD,pD,pD,(pZ hv30)⟩) (h:=by simp only[go_sem,hw30];rfl)
      refine r5 (r5 ?_);cases d;exact rT ⟨⟨[0,2,8],[(0,0),(1,1),(2,2),(3,3),(4,4),(5,5),(6,6)]⟩,_,by rfl,g⟩
     .refine pW ?_;by_cases hva11:((vB (c9.1,(c9.2.1,(c9.2.2.1,(c9.2.2.2,())))) ([]:oT) ([]:oT))).isSome=true
      .rw[aQI hva11] at d;obtain⟨cC,hv31,hw31,d⟩:=q8 d
       try simp only[go_sem] at hw31
       refine qJ sK ?_ (hp:=by exact(pZ hv31)) (h:=by simp only[go_sem,hw31];rfl);refine pT ?_;obtain⟨cD,hv32,hw32,d⟩:=q8 d
       try simp only[go_sem] at hw32
       refine pL sK ?_ (hp:=by exact⟨id,id,rU,id,rU,pD,pD,pD,pD,pD,(pZ hv32)⟩) (h:=by simp only[go_sem,hw32];rfl)
       obtain⟨cE,hv33,hw33,d⟩:=q8 d
       try simp only[go_sem] at hw33
       obtain⟨hg34,d⟩:=pP d;refine UL sK 4 6 ?_ (hp:=by exact⟨pD,pD,pD,pD,pD,pZ hv33,pD,hg34⟩) (ha1:=by simp only[List.take_succ_cons,List.take_zero,go_sem,hw33]<;>rfl) (hx1:=by simp only[go_sem,hw33]<;>rfl) (h:=by simp only[go_sem,hw33];rfl)
       refine pL sK ?_;refine pV (r6 (r6 (tM (tQ (r6 ?_)))));cases d;cases g;dsimp only at f;cases f;exact oV [(0,0),(1,1),(2,2),(3,3)]
      rw[aQO hva11] at d;obtain⟨cF,hv35,hw35,d⟩:=q8 d
      try simp only[go_sem] at hw35
      refine qJ a8b ?_ (hp:=by exact(pZ hv35)) (h:=by simp only[go_sem,hw35];rfl);refine pT ?_;obtain⟨cG,hv36,hw36,d⟩:=q8 d
      try simp only[go_sem] at hw36
      refine pL sK ?_ (hp:=by exact⟨id,id,rU,id,rU,pD,pD,pD,pD,pD,(pZ hv36)⟩) (h:=by simp only[go_sem,hw36];rfl)
      obtain⟨cH,hv37,hw37,d⟩:=q8 d
      try simp only[go_sem] at hw37
      obtain⟨hg38,d⟩:=pP d;refine UL sK 4 6 ?_ (hp:=by exact⟨pD,pD,pD,pD,pD,pZ hv37,pD,hg38⟩) (ha1:=by simp only[List.take_succ_cons,List.take_zero,go_sem,hw37]<;>rfl) (hx1:=by simp only[go_sem,hw37]<;>rfl) (h:=by simp only[go_sem,hw37];rfl)
      refine pL sK ?_;refine pV (r6 (r6 (tM (tQ (r6 ?_)))));cases d;cases g;dsimp only at f;cases f;exact oV [(0,0),(1,1),(2,2),(3,3)]
   .refine s8 (s7 (sA ?_));cases d;cases g;exact s9 ⟨⟨[],[(0,0),(1,1),(2,2),(3,3)]⟩,_,rfl,by rfl⟩
  .rintro _ ⟨v,rfl,rfl⟩;obtain⟨cI,cJ,cK⟩:=v;dsimp only at f|-;refine sD ?_;cases f;exact oV [(0,0),(1,1),(2,2),(3,3)]
attribute [irreducible] AY
end
noncomputable section
def AZ (O:(List rO)) (Z:Int) (aA:Int) (aB:rS) (aC:(p6×Unit)) (aD:p4):Option ((List rO)×Int×Int×(List sH)×p6×p4):=(zH O Z aA aB aC aD).bind fun aE=>if ((vB (aE.1,(aE.2.1,(aE.2.2.1,(aE.2.2.2,())))) ([105,100]:oT) ([115,116,97,116,101,32,102,108,97,103,115]:oT))).isSome=true then (vB (aE.1,(aE.2.1,(aE.2.2.1,(aE.2.2.2,())))) ([105,100]:oT) ([115,116,97,116,101,32,102,108,97,103,115]:oT)).bind fun aF=>(IF (rM .str .str aF ([102,108,97,103,115]:oT))).bind fun aG=>if ((t6 (sU (rM .str .str aF ([102,108,97,103,115]:oT)) ([32]:oT))).length)<4611686018427387904 then if (((((!decide (aE.1=(1:Int)))&&(!decide (aE.1=(2:Int))))||(!decide (aE.2.1=([101,110,116,114,121]:oT))))==false)=true→((D1 aE.2.2.1)).isSome=true) then if ((aE.2.2.2||(rM .str .bool aD (rM .str .str aF ([105,100]:oT))))==false)=true then if (((aE.2.2.2||(rM .str .bool aD (rM .str .str aF ([105,100]:oT))))==false)=true→((AV (tE (t6 (sU (rM .str .str aF ([102,108,97,103,115]:oT)) ([32]:oT)))))).isSome=true) then if (((aE.2.2.2||(rM .str .bool aD (rM .str .str aF ([105,100]:oT))))==false)=true→List.length (val (AV (tE (t6 (sU (rM .str .str aF ([102,108,97,103,115]:oT)) ([32]:oT))))))≤9223372036854775807) then (wD O Z aA aB aC ((((!decide (aE.1=(1:Int)))&&(!decide (aE.1=(2:Int))))||(!decide (aE.2.1=([101,110,116,114,121]:oT))))||(val (D1 aE.2.2.1))) ((aE.2.2.2||(rM .str .bool aD (rM .str .str aF ([105,100]:oT))))||(decide (((((Lib.compact (val (AV (tE (t6 (sU (rM .str .str aF ([102,108,97,103,115]:oT)) ([32]:oT))))))).length):Nat):Int)<((tE (t6 (sU (rM .str .str aF ([102,108,97,103,115]:oT)) ([32]:oT)))).length:Int)))) ((decide ((20:Int)<((tE (t6 (sU (rM .str .str aF ([102,108,97,103,115]:oT)) ([32]:oT)))).length:Int)))||(decide ((aB.2.2.2.1.length:Int)=(1000:Int)))) aD).bind fun aH=>if (!decide (aH.2=(0:Int)))=true then some ((O,aH.1,aH.2,aB.2.2.2.1,aC.1,aD)) else (E6 ([([110,101,119]:oT),([102,117,122,122,121]:oT),([116,114,97,110,115,108,97,116,101,100]:oT),([114,101,118,105,101,119,101,100]:oT),([111,98,115,111,108,101,116,101]:oT)]:oU) (rM .str .str aF ([115,116,97,116,101]:oT))).bind fun aI=>(wW O aH.1 aH.2 (aB.1,(aB.2.1,(aB.2.2.1,(aB.2.2.2.1,())))) (aC.1,()) (tO .str .bool (rM .str .str aF ([105,100]:oT)) true aD)).bind fun aJ=>sG (σ:=(Int×(List rO)×Int×Int×oT×oT×oU×(List qK))) (if (decide (aE.1=(1:Int)))=true then (y8 aJ aH.1 aH.2 (aB.1,(aB.2.1,(aB.2.2.1,(aB.2.2.2.1,())))) (aC.1,()) ((rM .str .str aF ([105,100]:oT)),(([]:oT),(([]:oT),(([]:oU),((tE (t6 (sU (rM .str .str aF ([102,108,97,103,115]:oT)) ([32]:oT)))),((max (0:Int) aI),(([]:List qK),()))))))) (tO .str .bool (rM .str .str aF ([105,100]:oT)) true aD)).bind fun aK=>some ((aK.1,aK.2.1,aK.2.2.1,aK.2.2.2.1,aK.2.2.2.2.1,aK.2.2.2.2.2.1,aK.2.2.2.2.2.2.1,aK.2.2.2.2.2.2.2)) else some ((((qB rX O (0:Int)).2.2.1+(((qB rX O (0:Int)).2.1).length:Int)),aJ,aH.1,aH.2,([]:oT),([]:oT),([]:oU),([]:List qK))) ) fun(aL,aM,aN,aO,aP,aQ,aR,aS)=>if (aB.2.2.2.1.length+([((rM .str .str aF ([105,100]:oT)),(aP,(aQ,(aR,((tE (t6 (sU (rM .str .str aF ([102,108,97,103,115]:oT)) ([32]:oT)))),((max (0:Int) aI),(aS,())))))))]:List sH).length)*128≤140737488355328 then if (aC.1.length+([aL]:p6).length)*8≤140737488355328 then some ((aM,aN,aO,(aB.2.2.2.1++([((rM .str .str aF ([105,100]:oT)),(aP,(aQ,(aR,((tE (t6 (sU (rM .str .str aF ([102,108,97,103,115]:oT)) ([32]:oT)))),((max (0:Int) aI),(aS,())))))))]:List sH)),(aC.1++([aL]:p6)),(tO .str .bool (rM .str .str aF ([105,100]:oT)) true aD))) else none else none else none else none else (wD O Z aA aB aC ((((!decide (aE.1=(1:Int)))&&(!decide (aE.1=(2:Int))))||(!decide (aE.2.1=([101,110,116,114,121]:oT))))||(val (D1 aE.2.2.1))) true ((decide ((20:Int)<((tE (t6 (sU (rM .str .str aF ([102,108,97,103,115]:oT)) ([32]:oT)))).length:Int)))||(decide ((aB.2.2.2.1.length:Int)=(1000:Int)))) aD).bind fun aT=>if (!decide (aT.2=(0:Int)))=true then some ((O,aT.1,aT.2,aB.2.2.2.1,aC.1,aD)) else (E6 ([([110,101,119]:oT),([102,117,122,122,121]:oT),([116,114,97,110,115,108,97,116,101,100]:oT),([114,101,118,105,101,119,101,100]:oT),([111,98,115,111,108,101,116,101]:oT)]:oU) (rM .str .str aF ([115,116,97,116,101]:oT))).bind fun aU=>(wW O aT.1 aT.2 (aB.1,(aB.2.1,(aB.2.2.1,(aB.2.2.2.1,())))) (aC.1,()) (tO .str .bool (rM .str .str aF ([105,100]:oT)) true aD)).bind fun aV=>sG (σ:=(Int×(List rO)×Int×Int×oT×oT×oU×(List qK))) (if (decide (aE.1=(1:Int)))=true then (y8 aV aT.1 aT.2 (aB.1,(aB.2.1,(aB.2.2.1,(aB.2.2.2.1,())))) (aC.1,()) ((rM .str .str aF ([105,100]:oT)),(([]:oT),(([]:oT),(([]:oU),((tE (t6 (sU (rM .str .str aF ([102,108,97,103,115]:oT)) ([32]:oT)))),((max (0:Int) aU),(([]:List qK),()))))))) (tO .str .bool (rM .str .str aF ([105,100]:oT)) true aD)).bind fun aW=>some ((aW.1,aW.2.1,aW.2.2.1,aW.2.2.2.1,aW.2.2.2.2.1,aW.2.2.2.2.2.1,aW.2.2.2.2.2.2.1,aW.2.2.2.2.2.2.2)) else some ((((qB rX O (0:Int)).2.2.1+(((qB rX O (0:Int)).2.1).length:Int)),aV,aT.1,aT.2,([]:oT),([]:oT),([]:oU),([]:List qK))) ) fun(aX,aY,aZ,bA,bB,bC,bD,bE)=>if (aB.2.2.2.1.length+([((rM .str .str aF ([105,100]:oT)),(bB,(bC,(bD,((tE (t6 (sU (rM .str .str aF ([102,108,97,103,115]:oT)) ([32]:oT)))),((max (0:Int) aU),(bE,())))))))]:List sH).length)*128≤140737488355328 then if (aC.1.length+([aX]:p6).length)*8≤140737488355328 then some ((aY,aZ,bA,(aB.2.2.2.1++([((rM .str .str aF ([105,100]:oT)),(bB,(bC,(bD,((tE (t6 (sU (rM .str .str aF ([102,108,97,103,115]:oT)) ([32]:oT)))),((max (0:Int) aU),(bE,())))))))]:List sH)),(aC.1++([aX]:p6)),(tO .str .bool (rM .str .str aF ([105,100]:oT)) true aD))) else none else none else none else none else (D0 (aE.1,(aE.2.1,(aE.2.2.1,(aE.2.2.2,())))) ([105,100]:oT) ([115,116,97,116,101,32,102,108,97,103,115]:oT)).bind fun bF=>(IF ([]:oT)).bind fun bG=>if ((t6 (sU ([]:oT) ([32]:oT))).length)<4611686018427387904 then if ((((((!decide (aE.1=(1:Int)))&&(!decide (aE.1=(2:Int))))||(!decide (aE.2.1=([101,110,116,114,121]:oT))))||true)==false)=true→((D1 aE.2.2.1)).isSome=true) then if ((aE.2.2.2||(rM .str .bool aD ([]:oT)))==false)=true then if (((aE.2.2.2||(rM .str .bool aD ([]:oT)))==false)=true→((AV (tE (t6 (sU ([]:oT) ([32]:oT)))))).isSome=true) then if (((aE.2.2.2||(rM .str .bool aD ([]:oT)))==false)=true→List.length (val (AV (tE (t6 (sU ([]:oT) ([32]:oT))))))≤9223372036854775807) then (wD O Z aA aB aC (((((!decide (aE.1=(1:Int)))&&(!decide (aE.1=(2:Int))))||(!decide (aE.2.1=([101,110,116,114,121]:oT))))||true)||(val (D1 aE.2.2.1))) ((aE.2.2.2||(rM .str .bool aD ([]:oT)))||(decide (((((Lib.compact (val (AV (tE (t6 (sU ([]:oT) ([32]:oT))))))).length):Nat):Int)<((tE (t6 (sU ([]:oT) ([32]:oT)))).length:Int)))) ((decide ((20:Int)<((tE (t6 (sU ([]:oT) ([32]:oT)))).length:Int)))||(decide ((aB.2.2.2.1.length:Int)=(1000:Int)))) aD).bind fun bH=>if (!decide (bH.2=(0:Int)))=true then some ((O,bH.1,bH.2,aB.2.2.2.1,aC.1,aD)) else (E6 ([([110,101,119]:oT),([102,117,122,122,121]:oT),([116,114,97,110,115,108,97,116,101,100]:oT),([114,101,118,105,101,119,101,100]:oT),([111,98,115,111,108,101,116,101]:oT)]:oU) ([]:oT)).bind fun bI=>(wW O bH.1 bH.2 (aB.1,(aB.2.1,(aB.2.2.1,(aB.2.2.2.1,())))) (aC.1,()) (tO .str .bool ([]:oT) true aD)).bind fun bJ=>sG (σ:=(Int×(List rO)×Int×Int×oT×oT×oU×(List qK))) (if (decide (aE.1=(1:Int)))=true then (y8 bJ bH.1 bH.2 (aB.1,(aB.2.1,(aB.2.2.1,(aB.2.2.2.1,())))) (aC.1,()) (([]:oT),(([]:oT),(([]:oT),(([]:oU),((tE (t6 (sU ([]:oT) ([32]:oT)))),((max (0:Int) bI),(([]:List qK),()))))))) (tO .str .bool ([]:oT) true aD)).bind fun bK=>some ((bK.1,bK.2.1,bK.2.2.1,bK.2.2.2.1,bK.2.2.2.2.1,bK.2.2.2.2.2.1,bK.2.2.2.2.2.2.1,bK.2.2.2.2.2.2.2)) else some ((((qB rX O (0:Int)).2.2.1+(((qB rX O (0:Int)).2.1).length:Int)),bJ,bH.1,bH.2,([]:oT),([]:oT),([]:oU),([]:List qK))) ) fun(bM,bN,bO,bP,bQ,bR,bS,bT)=>if (aB.2.2.2.1.length+([(([]:oT),(bQ,(bR,(bS,((tE (t6 (sU ([]:oT) ([32]:oT)))),((max (0:Int) bI),(bT,())))))))]:List sH).length)*128≤140737488355328 then if (aC.1.length+([bM]:p6).length)*8≤140737488355328 then some ((bN,bO,bP,(aB.2.2.2.1++([(([]:oT),(bQ,(bR,(bS,((tE (t6 (sU ([]:oT) ([32]:oT)))),((max (0:Int) bI),(bT,())))))))]:List sH)),(aC.1++([bM]:p6)),(tO .str .bool ([]:oT) true aD))) else none else none else none else none else (wD O Z aA aB aC (((((!decide (aE.1=(1:Int)))&&(!decide (aE.1=(2:Int))))||(!decide (aE.2.1=([101,110,116,114,121]:oT))))||true)||(val (D1 aE.2.2.1))) true ((decide ((20:Int)<((tE (t6 (sU ([]:oT) ([32]:oT)))).length:Int)))||(decide ((aB.2.2.2.1.length:Int)=(1000:Int)))) aD).bind fun bU=>if (!decide (bU.2=(0:Int)))=true then some ((O,bU.1,bU.2,aB.2.2.2.1,aC.1,aD)) else (E6 ([([110,101,119]:oT),([102,117,122,122,121]:oT),([116,114,97,110,115,108,97,116,101,100]:oT),([114,101,118,105,101,119,101,100]:oT),([111,98,115,111,108,101,116,101]:oT)]:oU) ([]:oT)).bind fun bV=>(wW O bU.1 bU.2 (aB.1,(aB.2.1,(aB.2.2.1,(aB.2.2.2.1,())))) (aC.1,()) (tO .str .bool ([]:oT) true aD)).bind fun bW=>sG (σ:=(Int×(List rO)×Int×Int×oT×oT×oU×(List qK))) (if (decide (aE.1=(1:Int)))=true then (y8 bW bU.1 bU.2 (aB.1,(aB.2.1,(aB.2.2.1,(aB.2.2.2.1,())))) (aC.1,()) (([]:oT),(([]:oT),(([]:oT),(([]:oU),((tE (t6 (sU ([]:oT) ([32]:oT)))),((max (0:Int) bV),(([]:List qK),()))))))) (tO .str .bool ([]:oT) true aD)).bind fun bX=>some ((bX.1,bX.2.1,bX.2.2.1,bX.2.2.2.1,bX.2.2.2.2.1,bX.2.2.2.2.2.1,bX.2.2.2.2.2.2.1,bX.2.2.2.2.2.2.2)) else some ((((qB rX O (0:Int)).2.2.1+(((qB rX O (0:Int)).2.1).length:Int)),bW,bU.1,bU.2,([]:oT),([]:oT),([]:oU),([]:List qK))) ) fun(bZ,c7,c8,c9,cA,cB,cC,cD)=>if (aB.2.2.2.1.length+([(([]:oT),(cA,(cB,(cC,((tE (t6 (sU ([]:oT) ([32]:oT)))),((max (0:Int) bV),(cD,())))))))]:List sH).length)*128≤140737488355328 then if (aC.1.length+([bZ]:p6).length)*8≤140737488355328 then some ((c7,c8,c9,(aB.2.2.2.1++([(([]:oT),(cA,(cB,(cC,((tE (t6 (sU ([]:oT) ([32]:oT)))),((max (0:Int) bV),(cD,())))))))]:List sH)),(aC.1++([bZ]:p6)),(tO .str .bool ([]:oT) true aD))) else none else none else none else none
section
variable (O:(List rO)) (Z:Int) (aA:Int) (aB:rS) (aC:(p6×Unit)) (aD:Nat) (aE:Nat) (aF:p4)
abbrev a8c:List pN:=[(.val .ref (some (0,0)),none)]
abbrev a8d:List pM:=[.cells rY (O,(Z,(aA,(aB,((some 3),aC))))) [(6,1),(8,2)],.grow 53 7 aD,.grow 3 1 aE,.map .str .bool aF]
@[go_sem] def a8e:pR:=⟨[aD=(aB.2.2.2.1.length),aE=(aC.1.length),((AZ O Z aA aB aC aF)).isSome=true],[],[.cells rY ((val (AZ O Z aA aB aC aF)).1,((val (AZ O Z aA aB aC aF)).2.1,((val (AZ O Z aA aB aC aF)).2.2.1,((aB.1,(aB.2.1,(aB.2.2.1,((val (AZ O Z aA aB aC aF)).2.2.2.1,())))),((some 3),((val (AZ O Z aA aB aC aF)).2.2.2.2.1,())))))) [(6,1),(8,2)],.grow 53 7 (((val (AZ O Z aA aB aC aF)).2.2.2.1).length),.grow 3 1 (((val (AZ O Z aA aB aC aF)).2.2.2.2.1).length),.map .str .bool ((val (AZ O Z aA aB aC aF)).2.2.2.2.2)]⟩
def aGK:List pN→List pM→Option pR:=qU (V:=((List rO)×Int×Int×rS×(p6×Unit)×Nat×Nat×p4)) (fun x=>a8c) (fun x=>a8d x.1 x.2.1 x.2.2.1 x.2.2.2.1 x.2.2.2.2.1 x.2.2.2.2.2.1 x.2.2.2.2.2.2.1 x.2.2.2.2.2.2.2) fun x=>a8e x.1 x.2.1 x.2.2.1 x.2.2.2.1 x.2.2.2.2.1 x.2.2.2.2.2.1 x.2.2.2.2.2.2.1 x.2.2.2.2.2.2.2
@[go_sem] def aQA:aGK (no_index a8c) (no_index (a8d O Z aA aB aC aD aE aF))=some (a8e O Z aA aB aC aD aE aF):=qV (fun⟨a0,a1,a2,a3,a4,a5,a6,a7⟩ ⟨b0,b1,b2,b3,b4,b5,b6,b7⟩ h1 h2=>by cases h1;cases h2;rfl) (O,Z,aA,aB,aC,aD,aE,aF)
end
@[go_sem] abbrev aGL:Nat×qC:=(54,⟨[.p rY [6,8]],aGK,[(0,7,.m)],[],none⟩)
def sY:qM Tryz.prog [u7,yO,rG,tG,AQ,BL,x5,vG,FW,CW,A3,A4,wV,CV] (qO [ES,L6,U4,I2,a45,a3z,I0,BQ,P2,U0,G2,a71]):=⟨⟨uF,⟨A5,⟨rJ,⟨tT,⟨CU,⟨E3,⟨y6,⟨vW,⟨KT,⟨FV,⟨BN,⟨BO,⟨xP,⟨FU,trivial⟩⟩⟩⟩⟩⟩⟩⟩⟩⟩⟩⟩⟩⟩,pU GO (pU P3 (pU a3N (pU TP (pU aE2 (pU aEc (pU TN (pU CY (pU U3 (pU a1l (pU IB (pU aGB qS))))))))))),qQ⟩
def aMq:qM Tryz.prog [u7,yO,rG,tG,AQ,BL,x5,vG,FW,CW,A3,A4,wV,CV] (qO [ES,U4,I2,a45,a3z,I0,BQ,P2,U0,G2,a71,L7]):=⟨⟨uF,⟨A5,⟨rJ,⟨tT,⟨CU,⟨E3,⟨y6,⟨vW,⟨KT,⟨FV,⟨BN,⟨BO,⟨xP,⟨FU,trivial⟩⟩⟩⟩⟩⟩⟩⟩⟩⟩⟩⟩⟩⟩,pU GO (pU a3N (pU TP (pU aE2 (pU aEc (pU TN (pU CY (pU U3 (pU a1l (pU IB (pU aGB (pU P4 qS))))))))))),qQ⟩
def aMr:qE Tryz.prog aGL:=by
 refine qW sY Tryz.func54 (c:=_) rfl (N:=131) pE (ts:=[]) rfl (fun _ _=>rfl) ?_;intro⟨O,Z,aA,aB,aC,aD,aE,aF⟩ hs hrow;dsimp only[a8c,a8d,a8e,qR,pX,qD,qI,qT,Nat.reduceAdd] at hs hrow|-;obtain⟨rfl,rfl,hz⟩:=hs;obtain⟨z0,e⟩:=aQF.1 hz
 try rw[r8 e]
 clear hz;unfold AZ at e;obtain⟨aG,hv1,hw1,e⟩:=q8 e
 try simp only[go_sem] at hw1
 refine pL sY ?_ (hp:=by exact⟨pD,pD,pD,pD,pD,pD,(pZ hv1)⟩) (h:=by simp only[go_sem,hw1];rfl)
 refine pW ?_;by_cases hva1:((vB (aG.1,(aG.2.1,(aG.2.2.1,(aG.2.2.2,())))) ([105,100]:oT) ([115,116,97,116,101,32,102,108,97,103,115]:oT))).isSome=true
 .rw[aQI hva1] at e;obtain⟨aH,hv2,hw2,e⟩:=q8 e
  try simp only[go_sem] at hw2
  refine qJ sY ?_ (hp:=by exact(pZ hv2)) (h:=by simp only[go_sem,hw2];rfl);refine pT ?_;obtain⟨aI,hv3,hw3,e⟩:=q8 e
  try simp only[go_sem] at hw3
  refine pL sY ?_ (hp:=by exact(pZ hv3)) (h:=by simp only[go_sem,hw3];rfl);obtain⟨hg4,e⟩:=pP e;refine pL sY ?_ (hp:=by exact⟨pD,hg4⟩)
  obtain⟨hg5,e⟩:=pP e;refine pL sY ?_ (hp:=by exact⟨id,id,rI,id,id,rU,id,rU,id,id,hg5,rU⟩);refine pW ?_;refine NO 420 rfl (by repeat' (first|exact trivial|apply And.intro|exact(fun _=>rfl) |exact(fun h=>absurd h oX))) ?_
  by_cases hgs2:((aG.2.2.2||(rM .str .bool aF (rM .str .str aH ([105,100]:oT))))==false)=true
  .rw[aQI hgs2] at e;obtain⟨hg6,e⟩:=pP e;obtain⟨hg7,e⟩:=pP e;obtain⟨aJ,hv8,hw8,e⟩:=q8 e
   try simp only[go_sem] at hw8
   refine xN sY ?_ (hp:=by exact⟨id,id,id,id,id,id,rU,hgs2,id,hg6,hgs2,fun _=>(by first|rfl|trivial),hg7,id,id,id,rU,id,id,id,id,id,id,rU,pD,pD,pD,pD,pD,(pZ hv8)⟩) (h:=by simp only[go_sem,hw8];rfl)
   refine pT (pW ?_);refine pL sY ?_;refine pY e (fun e hc3=> ?_) (fun e hc3=> ?_)
   .refine pV (qP ?_);cases e;exact oV [(0,0),(1,1),(2,2),(3,3)]
   .refine qG (pT ?_);refine tW sY ?_;obtain⟨aK,hv9,hw9,e⟩:=q8 e
    try simp only[go_sem] at hw9
    refine tW sY ?_ (hp:=by exact(pZ hv9)) (h:=by simp only[go_sem,hw9];rfl);obtain⟨aL,hv10,hw10,e⟩:=q8 e
    try simp only[go_sem] at hw10
    refine pL sY ?_ (hp:=by exact⟨pD,pD,pD,pD,pD,(pZ hv10)⟩) (h:=by simp only[go_sem,hw10];rfl)
    refine pW ?_;refine pL sY ?_;obtain⟨y1,f,e⟩:=r9 e;refine vF (fun s=>s=(fun x=>⟨[(0,(.val .ref (some (0,0)),none)),(8,(.val .ref (some (4,0)),none)),(9,(.val (.int .i64) x.1,none))],[(0,.cells rY (x.2.1,(x.2.2.1,(x.2.2.2.1,((aB.1,(aB.2.1,(aB.2.2.1,(aB.2.2.2.1,())))),((some 3),(aC.1,())))))) [(6,1),(8,2)]),(1,.grow 53 7 (aB.2.2.2.1.length)),(2,.grow 3 1 (aC.1.length)),(3,.map .str .bool (tO .str .bool (rM .str .str aH ([105,100]:oT)) true aF)),(4,.cells rN ((rM .str .str aH ([105,100]:oT)),(x.2.2.2.2.1,(x.2.2.2.2.2.1,(x.2.2.2.2.2.2.1,((tE (t6 (sU (rM .str .str aH ([102,108,97,103,115]:oT)) ([32]:oT)))),((max (0:Int) aK),(x.2.2.2.2.2.2.2,()))))))) [(3,5)]),(5,.grow 9 1 (x.2.2.2.2.2.2.1.length))],6,131,4⟩) y1) ?_ ?_
    .refine pY f (fun f hc4=> ?_) (fun f hc4=> ?_)
     .obtain⟨aM,hv11,hw11,f⟩:=q8 f
      try simp only[go_sem] at hw11
      refine qJ sY ?_ (hp:=by exact⟨pD,pD,pD,pD,pD,pD,(pZ hv11)⟩) (h:=by simp only[go_sem,hw11];rfl)
      cases f;exact sB ⟨⟨[0,8,9],[(0,0),(1,1),(2,2),(3,3),(4,3204),(5,3236)]⟩,by rfl⟩
     .refine qG ?_;cases f;exact sB ⟨⟨[0,8,9],[(0,0),(1,1),(2,2),(3,3),(4,3204),(5,3236)]⟩,by rfl⟩
    .rintro _ rfl;obtain⟨aN,aO,aP,aQ,aR,aS,aT,aU⟩:=y1;dsimp only at e|-;refine pT ?_;obtain⟨hg12,e⟩:=pP e;obtain⟨hg13,e⟩:=pP e;refine xN sY ?_ (hp:=by exact⟨pD,hg12,pD,hg13⟩)
     cases e;exact oV [(0,0),(1,1),(2,2),(3,3)]
  rw[aQO hgs2] at e;obtain⟨aV,hv14,hw14,e⟩:=q8 e
  try simp only[go_sem] at hw14
  refine xN (YJ (l:=[1000000026]) sY pF) ?_ (hp:=by exact⟨id,id,id,id,id,id,rU,by first|exact Bool.eq_false_iff.2 hgs2|simpa using hgs2|simpa[qI] using hgs2,by first|exact Bool.eq_false_iff.2 hgs2|simpa using hgs2|simpa[qI] using hgs2,by first|exact Bool.eq_false_iff.2 hgs2|simpa using hgs2|simpa[qI] using hgs2,by first|exact Bool.eq_false_iff.2 hgs2|simpa using hgs2|simpa[qI] using hgs2,by first|exact Bool.eq_false_iff.2 hgs2|simpa using hgs2|simpa[qI] using hgs2,by first|exact Bool.eq_false_iff.2 hgs2|simpa using hgs2|simpa[qI] using hgs2,by first|exact Bool.eq_false_iff.2 hgs2|simpa using hgs2|simpa[qI] using hgs2,by first|exact Bool.of_not_eq_false (fun d=>hgs2 (by rw[d];rfl)) |exact Bool.of_not_eq_true (fun d=>hgs2 (by rw[d];rfl)) |simpa using hgs2|simpa[qI] using hgs2,id,id,id,id,id,id,rU,pD,pD,pD,pD,pD,(pZ hv14)⟩) (h:=by simp only[go_sem,hw14];rfl)
  refine pT (pW ?_);refine pL sY ?_;refine pY e (fun e hc5=> ?_) (fun e hc5=> ?_)
  .refine pV (qP ?_);cases e;exact oV [(0,0),(1,1),(2,2),(3,3)]
  .refine qG (pT ?_);refine tW sY ?_;obtain⟨aW,hv15,hw15,e⟩:=q8 e
   try simp only[go_sem] at hw15
   refine tW sY ?_ (hp:=by exact(pZ hv15)) (h:=by simp only[go_sem,hw15];rfl);obtain⟨aX,hv16,hw16,e⟩:=q8 e
   try simp only[go_sem] at hw16
   refine pL sY ?_ (hp:=by exact⟨pD,pD,pD,pD,pD,(pZ hv16)⟩) (h:=by simp only[go_sem,hw16];rfl)
   refine pW ?_;refine pL sY ?_;obtain⟨y1,f,e⟩:=r9 e;refine vF (fun s=>s=(fun x=>⟨[(0,(.val .ref (some (0,0)),none)),(8,(.val .ref (some (4,0)),none)),(9,(.val (.int .i64) x.1,none))],[(0,.cells rY (x.2.1,(x.2.2.1,(x.2.2.2.1,((aB.1,(aB.2.1,(aB.2.2.1,(aB.2.2.2.1,())))),((some 3),(aC.1,())))))) [(6,1),(8,2)]),(1,.grow 53 7 (aB.2.2.2.1.length)),(2,.grow 3 1 (aC.1.length)),(3,.map .str .bool (tO .str .bool (rM .str .str aH ([105,100]:oT)) true aF)),(4,.cells rN ((rM .str .str aH ([105,100]:oT)),(x.2.2.2.2.1,(x.2.2.2.2.2.1,(x.2.2.2.2.2.2.1,((tE (t6 (sU (rM .str .str aH ([102,108,97,103,115]:oT)) ([32]:oT)))),((max (0:Int) aW),(x.2.2.2.2.2.2.2,()))))))) [(3,5)]),(5,.grow 9 1 (x.2.2.2.2.2.2.1.length))],6,131,4⟩) y1) ?_ ?_
   .refine pY f (fun f hc6=> ?_) (fun f hc6=> ?_)
    .obtain⟨aY,hv17,hw17,f⟩:=q8 f
     try simp only[go_sem] at hw17
     refine qJ sY ?_ (hp:=by exact⟨pD,pD,pD,pD,pD,pD,(pZ hv17)⟩) (h:=by simp only[go_sem,hw17];rfl)
     cases f;exact sB ⟨⟨[0,8,9],[(0,0),(1,1),(2,2),(3,3),(4,3204),(5,3236)]⟩,by rfl⟩
    .refine qG ?_;cases f;exact sB ⟨⟨[0,8,9],[(0,0),(1,1),(2,2),(3,3),(4,3204),(5,3236)]⟩,by rfl⟩
   .rintro _ rfl;obtain⟨aZ,bA,bB,bC,bD,bE,bF,bG⟩:=y1;dsimp only at e|-;refine pT ?_;obtain⟨hg18,e⟩:=pP e;obtain⟨hg19,e⟩:=pP e;refine xN sY ?_ (hp:=by exact⟨pD,hg18,pD,hg19⟩)
    cases e;exact oV [(0,0),(1,1),(2,2),(3,3)]
 rw[aQO hva1] at e;obtain⟨bH,hv20,hw20,e⟩:=q8 e
 try simp only[go_sem] at hw20
 refine qJ aMq ?_ (hp:=by exact(pZ hv20)) (h:=by simp only[go_sem,hw20];rfl);refine pT ?_;obtain⟨bI,hv21,hw21,e⟩:=q8 e
 try simp only[go_sem] at hw21
 refine pL sY ?_ (hp:=by exact(pZ hv21)) (h:=by simp only[go_sem,hw21];rfl);obtain⟨hg22,e⟩:=pP e;refine pL sY ?_ (hp:=by exact⟨pD,hg22⟩)
 obtain⟨hg23,e⟩:=pP e;refine pL sY ?_ (hp:=by exact⟨id,id,rI,id,id,rU,id,rU,id,id,hg23,(fun d=>by first|exact rU d|exact rfl|exact d.elim|simp_all)⟩)
 refine pW ?_;refine NO 420 rfl (by repeat' (first|exact trivial|apply And.intro|exact(fun _=>rfl) |exact(fun h=>absurd h oX))) ?_
 by_cases hgs7:((aG.2.2.2||(rM .str .bool aF ([]:oT)))==false)=true
 .rw[aQI hgs7] at e;obtain⟨hg24,e⟩:=pP e;obtain⟨hg25,e⟩:=pP e;obtain⟨bJ,hv26,hw26,e⟩:=q8 e
  try simp only[go_sem] at hw26
  refine xN sY ?_ (hp:=by exact⟨id,id,id,id,id,id,rU,hgs7,id,hg24,hgs7,fun _=>(by first|rfl|trivial),hg25,id,id,id,rU,id,id,id,id,id,id,rU,pD,pD,pD,pD,pD,(pZ hv26)⟩) (h:=by simp only[go_sem,hw26];rfl)
  refine pT (pW ?_);refine pL sY ?_;refine pY e (fun e hc8=> ?_) (fun e hc8=> ?_)
  .refine pV (qP ?_);cases e;exact oV [(0,0),(1,1),(2,2),(3,3)]
  .refine qG (pT ?_);refine tW sY ?_;obtain⟨bK,hv27,hw27,e⟩:=q8 e
   try simp only[go_sem] at hw27
   refine tW sY ?_ (hp:=by exact(pZ hv27)) (h:=by simp only[go_sem,hw27];rfl);obtain⟨bM,hv28,hw28,e⟩:=q8 e
   try simp only[go_sem] at hw28
   refine pL sY ?_ (hp:=by exact⟨pD,pD,pD,pD,pD,(pZ hv28)⟩) (h:=by simp only[go_sem,hw28];rfl)
   refine pW ?_;refine pL sY ?_;obtain⟨y1,f,e⟩:=r9 e;refine vF (fun s=>s=(fun x=>⟨[(0,(.val .ref (some (0,0)),none)),(8,(.val .ref (some (4,0)),none)),(9,(.val (.int .i64) x.1,none))],[(0,.cells rY (x.2.1,(x.2.2.1,(x.2.2.2.1,((aB.1,(aB.2.1,(aB.2.2.1,(aB.2.2.2.1,())))),((some 3),(aC.1,())))))) [(6,1),(8,2)]),(1,.grow 53 7 (aB.2.2.2.1.length)),(2,.grow 3 1 (aC.1.length)),(3,.map .str .bool (tO .str .bool ([]:oT) true aF)),(4,.cells rN (([]:oT),(x.2.2.2.2.1,(x.2.2.2.2.2.1,(x.2.2.2.2.2.2.1,((tE (t6 (sU ([]:oT) ([32]:oT)))),((max (0:Int) bK),(x.2.2.2.2.2.2.2,()))))))) [(3,5)]),(5,.grow 9 1 (x.2.2.2.2.2.2.1.length))],6,131,4⟩) y1) ?_ ?_
   .refine pY f (fun f hc9=> ?_) (fun f hc9=> ?_)
    .obtain⟨bN,hv29,hw29,f⟩:=q8 f
     try simp only[go_sem] at hw29
     refine qJ sY ?_ (hp:=by exact⟨pD,pD,pD,pD,pD,pD,(pZ hv29)⟩) (h:=by simp only[go_sem,hw29];rfl)
     cases f;exact sB ⟨⟨[0,8,9],[(0,0),(1,1),(2,2),(3,3),(4,3204),(5,3236)]⟩,by rfl⟩
    .refine qG ?_;cases f;exact sB ⟨⟨[0,8,9],[(0,0),(1,1),(2,2),(3,3),(4,3204),(5,3236)]⟩,by rfl⟩
   .rintro _ rfl;obtain⟨bO,bP,bQ,bR,bS,bT,bU,bV⟩:=y1;dsimp only at e|-;refine pT ?_;obtain⟨hg30,e⟩:=pP e;obtain⟨hg31,e⟩:=pP e;refine xN sY ?_ (hp:=by exact⟨pD,hg30,pD,hg31⟩)
    cases e;exact oV [(0,0),(1,1),(2,2),(3,3)]
 rw[aQO hgs7] at e;obtain⟨bW,hv32,hw32,e⟩:=q8 e
 try simp only[go_sem] at hw32
 refine xN (YJ (l:=[1000000026]) sY pF) ?_ (hp:=by exact⟨id,id,id,id,id,id,rU,by first|exact Bool.eq_false_iff.2 hgs7|simpa using hgs7|simpa[qI] using hgs7,by first|exact Bool.eq_false_iff.2 hgs7|simpa using hgs7|simpa[qI] using hgs7,by first|exact Bool.eq_false_iff.2 hgs7|simpa using hgs7|simpa[qI] using hgs7,by first|exact Bool.eq_false_iff.2 hgs7|simpa using hgs7|simpa[qI] using hgs7,by first|exact Bool.eq_false_iff.2 hgs7|simpa using hgs7|simpa[qI] using hgs7,by first|exact Bool.eq_false_iff.2 hgs7|simpa using hgs7|simpa[qI] using hgs7,by first|exact Bool.eq_false_iff.2 hgs7|simpa using hgs7|simpa[qI] using hgs7,by first|exact Bool.of_not_eq_false (fun d=>hgs7 (by rw[d];rfl)) |exact Bool.of_not_eq_true (fun d=>hgs7 (by rw[d];rfl)) |simpa using hgs7|simpa[qI] using hgs7,id,id,id,id,id,id,rU,pD,pD,pD,pD,pD,(pZ hv32)⟩) (h:=by simp only[go_sem,hw32];rfl)
 refine pT (pW ?_);refine pL sY ?_;refine pY e (fun e hc10=> ?_) (fun e hc10=> ?_)
 .refine pV (qP ?_);cases e;exact oV [(0,0),(1,1),(2,2),(3,3)]
 .refine qG (pT ?_);refine tW sY ?_;obtain⟨bX,hv33,hw33,e⟩:=q8 e
  try simp only[go_sem] at hw33
  refine tW sY ?_ (hp:=by exact(pZ hv33)) (h:=by simp only[go_sem,hw33];rfl);obtain⟨bZ,hv34,hw34,e⟩:=q8 e
  try simp only[go_sem] at hw34
  refine pL sY ?_ (hp:=by exact⟨pD,pD,pD,pD,pD,(pZ hv34)⟩) (h:=by simp only[go_sem,hw34];rfl)
  refine pW ?_;refine pL sY ?_;obtain⟨y1,f,e⟩:=r9 e;refine vF (fun s=>s=(fun x=>⟨[(0,(.val .ref (some (0,0)),none)),(8,(.val .ref (some (4,0)),none)),(9,(.val (.int .i64) x.1,none))],[(0,.cells rY (x.2.1,(x.2.2.1,(x.2.2.2.1,((aB.1,(aB.2.1,(aB.2.2.1,(aB.2.2.2.1,())))),((some 3),(aC.1,())))))) [(6,1),(8,2)]),(1,.grow 53 7 (aB.2.2.2.1.length)),(2,.grow 3 1 (aC.1.length)),(3,.map .str .bool (tO .str .bool ([]:oT) true aF)),(4,.cells rN (([]:oT),(x.2.2.2.2.1,(x.2.2.2.2.2.1,(x.2.2.2.2.2.2.1,((tE (t6 (sU ([]:oT) ([32]:oT)))),((max (0:Int) bX),(x.2.2.2.2.2.2.2,()))))))) [(3,5)]),(5,.grow 9 1 (x.2.2.2.2.2.2.1.length))],6,131,4⟩) y1) ?_ ?_
  .refine pY f (fun f hc11=> ?_) (fun f hc11=> ?_)
   .obtain⟨c7,hv35,hw35,f⟩:=q8 f
    try simp only[go_sem] at hw35
    refine qJ sY ?_ (hp:=by exact⟨pD,pD,pD,pD,pD,pD,(pZ hv35)⟩) (h:=by simp only[go_sem,hw35];rfl)
    cases f;exact sB ⟨⟨[0,8,9],[(0,0),(1,1),(2,2),(3,3),(4,3204),(5,3236)]⟩,by rfl⟩
   .refine qG ?_;cases f;exact sB ⟨⟨[0,8,9],[(0,0),(1,1),(2,2),(3,3),(4,3204),(5,3236)]⟩,by rfl⟩
  .rintro _ rfl;obtain⟨c8,c9,cA,cB,cC,cD,cE,cF⟩:=y1;dsimp only at e|-;refine pT ?_;obtain⟨hg36,e⟩:=pP e;obtain⟨hg37,e⟩:=pP e;refine xN sY ?_ (hp:=by exact⟨pD,hg36,pD,hg37⟩)
   cases e;exact oV [(0,0),(1,1),(2,2),(3,3)]
attribute [irreducible] AZ
end
noncomputable section
def aGM (O:((List rO)×Int×Int×oT×oU×(List qK)×p6)):((List rO)×Int×Int×(List sH)×p6×p4)→Option (((List rO)×Int×Int×(List sH)×p6×p4)⊕((List rO)×Int×Int×(List sH)×p6×p4)):=fun(Z,aA,aB,aC,aD,aE)=>if (decide (aB=(0:Int)))=true then (BU Z aA aB (O.2.2.2.1,(O.2.2.2.2.1,(O.2.2.2.2.2.1,(aC,())))) (aD,()) aE).bind fun aF=>(zH aF aA aB (O.2.2.2.1,(O.2.2.2.2.1,(O.2.2.2.2.2.1,(aC,())))) (aD,()) aE).bind fun aG=>if (decide (aG.1=(3:Int)))=true then some (.inr (aF,aA,aB,aC,aD,aE)) else (AZ aF aA aB (O.2.2.2.1,(O.2.2.2.2.1,(O.2.2.2.2.2.1,(aC,())))) (aD,()) aE).bind fun aH=>some (.inl (aH.1,aH.2.1,aH.2.2.1,aH.2.2.2.1,aH.2.2.2.2.1,aH.2.2.2.2.2)) else some (.inr (Z,aA,aB,aC,aD,aE))
def yR (O:oT):Option ((List rO)×Int×Int×oT×oU×(List qK)×(List sH)×p6×p4):=(Gs.slices_Collect_elements_token_elements_tokensF1 O).bind fun Z=>(AY Z (0:Int) (0:Int) (([]:oT),(([]:oU),(([]:List qK),(([]:List sH),())))) (([]:p6),()) ([]:p4)).bind fun aA=>sG (rF (aGM aA) (aA.1,aA.2.1,aA.2.2.1,([]:List sH),aA.2.2.2.2.2.2,([]:p4))) fun(aB,aC,aD,aE,aF,aG)=>(C3 aB aC aD (aA.2.2.2.1,(aA.2.2.2.2.1,(aA.2.2.2.2.2.1,(aE,())))) (aF,()) ([101,110,116,114,105,101,115]:oT) aG).bind fun aH=>sG (σ:=(List rO)) (if (decide (aH.2.2=(0:Int)))=true then (BU aH.1 aH.2.1 aH.2.2 (aA.2.2.2.1,(aA.2.2.2.2.1,(aA.2.2.2.2.2.1,(aE,())))) (aF,()) aG).bind fun aI=>some (aI) else some (aH.1) ) fun aJ=>(C3 aJ aH.2.1 aH.2.2 (aA.2.2.2.1,(aA.2.2.2.2.1,(aA.2.2.2.2.2.1,(aE,())))) (aF,()) ([99,97,116,97,108,111,103]:oT) aG).bind fun aK=>sG (σ:=(List rO)) (if (decide (aK.2.2=(0:Int)))=true then (BU aK.1 aK.2.1 aK.2.2 (aA.2.2.2.1,(aA.2.2.2.2.1,(aA.2.2.2.2.2.1,(aE,())))) (aF,()) aG).bind fun aL=>some (aL) else some (aK.1) ) fun aM=>if 0≤(0:Int)∧(0:Int)<(aM.length:Int) then if (!decide ((qB rX aM (0:Int)).1=(4:Int)))=true then (AT aM aK.2.1 aK.2.2 (aA.2.2.2.1,(aA.2.2.2.2.1,(aA.2.2.2.2.2.1,(aE,())))) (aF,()) (3:Int) aG).bind fun aN=>some ((aM,aN.1,aN.2,aA.2.2.2.1,aA.2.2.2.2.1,aA.2.2.2.2.2.1,aE,aF,aG)) else some ((aM,aK.2.1,aK.2.2,aA.2.2.2.1,aA.2.2.2.2.1,aA.2.2.2.2.2.1,aE,aF,aG)) else none
section
variable (O:oT)
abbrev a8f:List pN:=[(.val .str O,none)]
abbrev a8g:List pM:=[]
@[go_sem] def a8h:pR:=⟨[((yR O)).isSome=true],[(.val .ref (some (0,0)),none)],[.cells rY ((val (yR O)).1,((val (yR O)).2.1,((val (yR O)).2.2.1,(((val (yR O)).2.2.2.1,((val (yR O)).2.2.2.2.1,((val (yR O)).2.2.2.2.2.1,((val (yR O)).2.2.2.2.2.2.1,())))),((some 1),((val (yR O)).2.2.2.2.2.2.2.1,())))))) [(6,2),(8,3)],.map .str .bool ((val (yR O)).2.2.2.2.2.2.2.2),.grow 53 7 (((val (yR O)).2.2.2.2.2.2.1).length),.grow 3 1 (((val (yR O)).2.2.2.2.2.2.2.1).length)]⟩
def aGN:List pN→List pM→Option pR:=qU (V:=oT) (a8f) (fun x=>a8g) fun x=>a8h x
@[go_sem] def aQB:aGN (no_index (a8f O)) (no_index a8g)=some (a8h O):=qV (fun a0 b0 h1 h2=>by cases h1;cases h2;rfl) O
end
@[go_sem] abbrev aGO:Nat×qC:=(26,⟨[.v],aGN,[],[],none⟩)
def x9:qM Tryz.prog [u7,yO,rG,AQ,A1,FW,A3,y3,wV] (qO [aCF,a0m,aGJ,L9,ES,aGL,PY,I8]):=⟨⟨uF,⟨A5,⟨rJ,⟨CU,⟨E2,⟨KT,⟨BN,⟨CQ,⟨xP,trivial⟩⟩⟩⟩⟩⟩⟩⟩⟩,pU aLc (pU aK3 (pU aMp (pU P8 (pU GO (pU aMr (pU UG (pU KW qS))))))),qQ⟩
def aMs:qE Tryz.prog aGO:=by
 refine qW x9 Tryz.func26 (c:=_) rfl (N:=54) pE (ts:=[(2,none)]) rfl (fun _ _=>rfl) ?_;intro O hs hrow;dsimp only[a8f,a8g,a8h,qR,pX,qD,qI,qT,Nat.reduceAdd] at hs hrow|-;have hz:=hs;obtain⟨z0,e⟩:=aQF.1 hz
 try rw[r8 e]
 clear hz hs;unfold yR at e;refine pL x9 ?_;obtain⟨Z,hv1,hw1,e⟩:=q8 e
 try simp only[go_sem] at hw1
 refine pL x9 ?_ (hp:=by exact⟨pD,(pZ hv1)⟩) (h:=by simp only[go_sem,hw1];rfl)
 obtain⟨aA,hv2,hw2,e⟩:=q8 e
 try simp only[go_sem] at hw2
 refine pL x9 ?_ (hp:=by exact⟨pD,pD,pD,pD,(pZ hv2)⟩) (h:=by simp only[go_sem,hw2];rfl)
 refine pW (qY ?_);obtain⟨y1,hy1,e⟩:=r9 e;refine sE 0 (fun s=>s=(fun x=>⟨[(3,(.val .ref (some (0,0)),none))],[(0,.cells rY (x.1,(x.2.1,(x.2.2.1,((aA.2.2.2.1,(aA.2.2.2.2.1,(aA.2.2.2.2.2.1,(x.2.2.2.1,())))),((some 1),(x.2.2.2.2.1,())))))) [(6,2),(8,3)]),(1,.map .str .bool x.2.2.2.2.2),(2,.grow 53 7 (x.2.2.2.1.length)),(3,.grow 3 1 (x.2.2.2.2.1.length))],4,54,0⟩) y1) ?_ ?_
 .refine sC hy1 (fun x=>⟨[(3,(.val .ref (some (0,0)),none))],[(0,.cells rY (x.1,(x.2.1,(x.2.2.1,((aA.2.2.2.1,(aA.2.2.2.2.1,(aA.2.2.2.2.2.1,(x.2.2.2.1,())))),((some 1),(x.2.2.2.2.1,())))))) [(6,2),(8,3)]),(1,.map .str .bool x.2.2.2.2.2),(2,.grow 53 7 (x.2.2.2.1.length)),(3,.grow 3 1 (x.2.2.2.2.1.length))],4,54,0⟩) ⟨[3],[(0,192),(1,128),(2,195),(3,196)]⟩ pF ?_;intro x1 w1 n1 d f;obtain⟨aB,aC,aD,aE,aF,aG⟩:=x1;unfold aGM at d;dsimp only at d|-;refine pW ?_;refine pL x9 ?_;refine pY d (fun d hc1=> ?_) (fun d hc1=> ?_)
  .refine qG (pT (qY ?_));obtain⟨aH,hv3,hw3,d⟩:=q8 d
   try simp only[go_sem] at hw3
   refine pL x9 ?_ (hp:=by exact⟨pD,pD,pD,pD,pD,(pZ hv3)⟩) (h:=by simp only[go_sem,hw3];rfl)
   refine pW ?_;obtain⟨aI,hv4,hw4,d⟩:=q8 d
   try simp only[go_sem] at hw4
   refine pL x9 ?_ (hp:=by exact⟨pD,pD,pD,pD,pD,pD,(pZ hv4)⟩) (h:=by simp only[go_sem,hw4];rfl)
   refine pY d (fun d hc2=> ?_) (fun d hc2=> ?_)
   .refine s8 (s7 (aBm oX (sA ?_)));cases d;cases f;exact s9 ⟨⟨[3],[(0,0),(1,1),(2,2),(3,3)]⟩,by rfl⟩
   .refine qG (pT ?_);obtain⟨aJ,hv5,hw5,d⟩:=q8 d
    try simp only[go_sem] at hw5
    refine qJ x9 ?_ (hp:=by exact⟨pD,pD,(pZ hv5)⟩) (h:=by simp only[go_sem,hw5];rfl)
    refine r5 ?_;cases d;exact rT ⟨⟨[3],[(0,0),(1,1),(2,2),(3,3)]⟩,_,by rfl,f⟩
  .refine s8 (s7 (sA ?_));cases d;cases f;exact s9 ⟨⟨[3],[(0,0),(1,1),(2,2),(3,3)]⟩,by rfl⟩
 .rintro _ rfl;obtain⟨aK,aL,aM,aN,aO,aP⟩:=y1;dsimp only at e|-;refine sD (pT ?_);obtain⟨aQ,hv6,hw6,e⟩:=q8 e
  try simp only[go_sem] at hw6
  refine pL x9 ?_ (hp:=by exact⟨pD,pD,pD,pD,pD,(pZ hv6)⟩) (h:=by simp only[go_sem,hw6];rfl)
  refine pW ?_;refine pL x9 ?_;obtain⟨aR,d,e⟩:=r9 e;refine vF (fun s=>s=(fun x=>⟨[(3,(.val .ref (some (0,0)),none))],[(0,.cells rY (x,(aQ.2.1,(aQ.2.2,((aA.2.2.2.1,(aA.2.2.2.2.1,(aA.2.2.2.2.2.1,(aN,())))),((some 1),(aO,())))))) [(6,2),(8,3)]),(1,.map .str .bool aP),(2,.grow 53 7 (aN.length)),(3,.grow 3 1 (aO.length))],4,54,0⟩) aR) ?_ ?_
  .refine pY d (fun d hc3=> ?_) (fun d hc3=> ?_)
   .obtain⟨aS,hv7,hw7,d⟩:=q8 d
    try simp only[go_sem] at hw7
    refine qJ x9 ?_ (hp:=by exact⟨pD,pD,pD,pD,pD,(pZ hv7)⟩) (h:=by simp only[go_sem,hw7];rfl)
    cases d;exact sB ⟨⟨[3],[(0,0),(1,1),(2,2),(3,3)]⟩,by rfl⟩
   .refine qG ?_;cases d;exact sB ⟨⟨[3],[(0,0),(1,1),(2,2),(3,3)]⟩,by rfl⟩
  .rintro _ rfl;dsimp only at e|-;refine pT ?_;obtain⟨aT,hv8,hw8,e⟩:=q8 e
   try simp only[go_sem] at hw8
   refine pL x9 ?_ (hp:=by exact⟨pD,pD,pD,pD,pD,(pZ hv8)⟩) (h:=by simp only[go_sem,hw8];rfl)
   refine pW ?_;refine pL x9 ?_;obtain⟨aU,d,e⟩:=r9 e;refine vF (fun s=>s=(fun x=>⟨[(3,(.val .ref (some (0,0)),none))],[(0,.cells rY (x,(aT.2.1,(aT.2.2,((aA.2.2.2.1,(aA.2.2.2.2.1,(aA.2.2.2.2.2.1,(aN,())))),((some 1),(aO,())))))) [(6,2),(8,3)]),(1,.map .str .bool aP),(2,.grow 53 7 (aN.length)),(3,.grow 3 1 (aO.length))],4,54,0⟩) aU) ?_ ?_
   .refine pY d (fun d hc4=> ?_) (fun d hc4=> ?_)
    .obtain⟨aV,hv9,hw9,d⟩:=q8 d
     try simp only[go_sem] at hw9
     refine qJ x9 ?_ (hp:=by exact⟨pD,pD,pD,pD,pD,(pZ hv9)⟩) (h:=by simp only[go_sem,hw9];rfl)
     cases d;exact sB ⟨⟨[3],[(0,0),(1,1),(2,2),(3,3)]⟩,by rfl⟩
    .refine qG ?_;cases d;exact sB ⟨⟨[3],[(0,0),(1,1),(2,2),(3,3)]⟩,by rfl⟩
   .rintro _ rfl;dsimp only at e|-;refine pT (pW ?_);obtain⟨hg10,e⟩:=pP e;refine pL x9 ?_ (hp:=by exact hg10);refine pY e (fun e hc5=> ?_) (fun e hc5=> ?_)
    .obtain⟨aW,hv11,hw11,e⟩:=q8 e
     try simp only[go_sem] at hw11
     refine qJ x9 ?_ (hp:=by exact⟨pD,pD,pD,pD,pD,(pZ hv11)⟩) (h:=by simp only[go_sem,hw11];rfl)
     refine pT ?_;refine pL x9 ?_;refine pV ?_;cases e;exact oV [(0,0),(1,1),(2,2),(3,3)]
    .refine qG (pT ?_);refine pL x9 ?_;refine pV ?_;cases e;exact oV [(0,0),(1,1),(2,2),(3,3)]
attribute [irreducible] yR
end
noncomputable section
def D9 (O:oT):Option (oT×oU×(List qK)×(List sH)×Int×Int):=(yR O).bind fun Z=>if (!decide (Z.2.2.1=(0:Int)))=true then some ((([]:oT),([]:oU),([]:List qK),([]:List sH),Z.2.1,Z.2.2.1)) else some ((Z.2.2.2.1,Z.2.2.2.2.1,Z.2.2.2.2.2.1,Z.2.2.2.2.2.2.1,(0:Int),(0:Int)))
section
variable (O:oT)
abbrev a8i:List pN:=[(.val .str O,none)]
abbrev a8j:List pM:=[]
@[go_sem] def a8k:pR:=⟨[((D9 O)).isSome=true],[(.val vM ((val (D9 O)).1,((val (D9 O)).2.1,((val (D9 O)).2.2.1,((val (D9 O)).2.2.2.1,())))),none),(.val (.int .i64) ((val (D9 O)).2.2.2.2.1),none),(.val (.int .i64) ((val (D9 O)).2.2.2.2.2),none)],[]⟩
def aGP:List pN→List pM→Option pR:=qU (V:=oT) (a8i) (fun x=>a8j) fun x=>a8k x
@[go_sem] def aQC:aGP (no_index (a8i O)) (no_index a8j)=some (a8k O):=qV (fun a0 b0 h1 h2=>by cases h1;cases h2;rfl) O
end
@[go_sem] abbrev aGQ:Nat×qC:=(12,⟨[.v],aGP,[],[],none⟩)
def LS:qM Tryz.prog [u7,AQ,x5,A3] (qO [aGO]):=⟨⟨uF,⟨CU,⟨y6,⟨BN,trivial⟩⟩⟩⟩,pU aMs qS,qQ⟩
def aMt:qE Tryz.prog aGQ:=by
 refine qW LS Tryz.func12 (c:=_) rfl (N:=26) pE (ts:=[(2,some 36),(3,none),(4,none)]) rfl (fun _ _=>rfl) ?_;intro O hs hrow;dsimp only[a8i,a8j,a8k,qR,pX,qD,qI,qT,Nat.reduceAdd] at hs hrow|-;have hz:=hs;obtain⟨z0,e⟩:=aQF.1 hz
 try rw[r8 e]
 clear hz hs;unfold D9 at e;refine pL LS ?_;obtain⟨Z,hv1,hw1,e⟩:=q8 e
 try simp only[go_sem] at hw1
 refine pL LS ?_ (hp:=by exact(pZ hv1)) (h:=by simp only[go_sem,hw1];rfl);refine pW ?_;refine pL LS ?_;refine pY e (fun e hc1=> ?_) (fun e hc1=> ?_)
 .refine tW LS ?_;refine pV (qP ?_);cases e;exact oV []
 .refine qG (pT ?_);refine pL LS ?_;refine pV ?_;cases e;exact oV []
def LT:Option Bool:=(D9 ([60,99,97,116,97,108,111,103,32,116,97,103,61,34,100,101,34,62,60,101,110,116,114,105,101,115,62,60,101,110,116,114,121,32,105,100,61,34,97,34,62,60,116,97,114,103,101,116,62,120,60,47,116,97,114,103,101,116,62,60,47,101,110,116,114,121,62,60,47,101,110,116,114,105,101,115,62,60,47,99,97,116,97,108,111,103,62]:oT)).bind fun O=>if (((((decide (O.2.2.2.2.2=(0:Int)))&&(decide (O.1=([100,101]:oT))))&&(decide ((O.2.2.2.1.length:Int)=(1:Int))))==true)=true→0≤(0:Int)∧(0:Int)<(O.2.2.2.1.length:Int)) then if ((((((decide (O.2.2.2.2.2=(0:Int)))&&(decide (O.1=([100,101]:oT))))&&(decide ((O.2.2.2.1.length:Int)=(1:Int))))&&(decide ((qB rN O.2.2.2.1 (0:Int)).1=([97]:oT))))==true)=true→0≤(0:Int)∧(0:Int)<(O.2.2.2.1.length:Int)) then some ((((((decide (O.2.2.2.2.2=(0:Int)))&&(decide (O.1=([100,101]:oT))))&&(decide ((O.2.2.2.1.length:Int)=(1:Int))))&&(decide ((qB rN O.2.2.2.1 (0:Int)).1=([97]:oT))))&&(decide ((qB rN O.2.2.2.1 (0:Int)).2.2.1=([120]:oT))))) else none else none
section
abbrev a8l:List pN:=[]
abbrev a8m:List pM:=[]
@[go_sem] def a8n:pR:=⟨[(LT).isSome=true],[(.val .bool (val LT),none)],[]⟩
def aGR:List pN→List pM→Option pR:=qU (V:=Unit) (fun x=>a8l) (fun x=>a8m) fun x=>a8n
@[go_sem] def aQD:aGR (no_index a8l) (no_index a8m)=some a8n:=qV (fun _ _ h1 h2=>by cases h1;cases h2;rfl) ()
end
@[go_sem] abbrev aGS:Nat×qC:=(8,⟨[],aGR,[],[],none⟩)
def UM:qM Tryz.prog [rG,BL,x5,vG] (qO [aGQ]):=⟨⟨rJ,⟨E3,⟨y6,⟨vW,trivial⟩⟩⟩⟩,pU aMt qS,qQ⟩
def aMu:qE Tryz.prog aGS:=by
 refine qW UM Tryz.func8 (c:=_) rfl (N:=38) pE (ts:=[(0,none)]) rfl (fun _ _=>rfl) ?_;intro⟨⟩ hs hrow;dsimp only[a8l,a8m,a8n,qR,pX,qD,qI,qT,Nat.reduceAdd] at hs hrow|-;have hz:=hs;obtain⟨z0,e⟩:=aQF.1 hz
 try rw[r8 e]
 clear hz hs;unfold LT at e;refine pL UM ?_ (h:=by simp only[List.append_eq,go_sem];rfl);obtain⟨O,hv1,hw1,e⟩:=q8 e
 try simp only[go_sem] at hw1
 refine pL UM ?_ (hp:=by exact(pZ hv1)) (h:=by simp only[List.append_eq,go_sem,hw1];rfl);obtain⟨hg2,e⟩:=pP e;obtain⟨hg3,e⟩:=pP e;refine pL UM ?_ (hp:=by exact⟨id,id,rI,id,id,id,rI,id,id,hg2,id,id,id,rI,id,id,hg3,id,id,id,rI⟩) (h:=by simp only[List.append_eq,go_sem];rfl);refine pV ?_;cases e;exact oV []
attribute [irreducible] D9 LT
end
noncomputable section
def J7 (O:rS):Option Bool:=LT.bind fun Z=>if (!Z)=true then some (false) else (IQ O).bind fun aA=>if (!aA)=true then some (true) else (GL O).bind fun aB=>(GM O).bind fun aC=>(C0 O).bind fun aD=>(C2 O).bind fun aE=>if (((((decide (aB.1=aC.1))&&(decide (aB.2=aC.2)))&&(decide (aD.2.2.2=aE.2.2.2)))==true)=true→((GB (aD.1,(aD.2.1,(aD.2.2.1,()))) (aE.1,(aE.2.1,(aE.2.2.1,()))))).isSome=true) then some (((((decide (aB.1=aC.1))&&(decide (aB.2=aC.2)))&&(decide (aD.2.2.2=aE.2.2.2)))&&(val (GB (aD.1,(aD.2.1,(aD.2.2.1,()))) (aE.1,(aE.2.1,(aE.2.2.1,()))))))) else none
section
variable (O:rS)
abbrev Q2:List pN:=[(.val vM O,none)]
abbrev UN:List pM:=[]
@[go_sem] def LU:pR:=⟨[((J7 O)).isSome=true],[(.val .bool (val (J7 O)),none)],[]⟩
def a8o:List pN→List pM→Option pR:=qU (V:=rS) (Q2) (fun x=>UN) fun x=>LU x
@[go_sem] def aMv:a8o (no_index (Q2 O)) (no_index UN)=some (LU O):=qV (fun a0 b0 h1 h2=>by cases h1;cases h2;rfl) O
end
@[go_sem] abbrev aMw:Nat×qC:=(4,⟨[.v],a8o,[],[],none⟩)
def C7:qM Tryz.prog [FS,x5,CT] (qO [aGS,aE6,aGk,aGm,a7n,a7r,aCu,aE4]):=⟨⟨KS,⟨y6,⟨FT,trivial⟩⟩⟩,pU aMu (pU aLS (pU aMd (pU aMe (pU aGe (pU aGg (pU aK9 (pU aLR qS))))))),qQ⟩
def aMx:qE Tryz.prog aMw:=by
 refine qW C7 Tryz.func4 (c:=_) rfl (N:=55) pE (ts:=[(2,none)]) rfl (fun _ _=>rfl) ?_;intro O hs hrow;dsimp only[Q2,UN,LU,qR,pX,qD,qI,qT,Nat.reduceAdd] at hs hrow|-;have hz:=hs;obtain⟨z0,d⟩:=aQF.1 hz
 try rw[r8 d]
 clear hz hs;unfold J7 at d;refine pL C7 ?_;refine pW ?_;obtain⟨Z,hv1,hw1,d⟩:=q8 d
 try simp only[go_sem] at hw1
 refine pL C7 ?_ (hp:=by exact(pZ hv1)) (h:=by simp only[go_sem,hw1];rfl);refine pY d (fun d hc1=> ?_) (fun d hc1=> ?_)
 .refine pL C7 ?_;refine pV (qP ?_);cases d;exact oV []
 .refine qG (pT (pW ?_));obtain⟨aA,hv2,hw2,d⟩:=q8 d
  try simp only[go_sem] at hw2
  refine pL C7 ?_ (hp:=by exact(pZ hv2)) (h:=by simp only[go_sem,hw2];rfl);refine pY d (fun d hc2=> ?_) (fun d hc2=> ?_)
  .refine pL C7 ?_;refine pV (qP ?_);cases d;exact oV []
  .refine qG (pT ?_);obtain⟨aB,hv3,hw3,d⟩:=q8 d
   try simp only[go_sem] at hw3
   refine pL C7 ?_ (hp:=by exact(pZ hv3)) (h:=by simp only[go_sem,hw3];rfl);obtain⟨aC,hv4,hw4,d⟩:=q8 d
   try simp only[go_sem] at hw4
   refine pL C7 ?_ (hp:=by exact(pZ hv4)) (h:=by simp only[go_sem,hw4];rfl);obtain⟨aD,hv5,hw5,d⟩:=q8 d
   try simp only[go_sem] at hw5
   refine pL C7 ?_ (hp:=by exact(pZ hv5)) (h:=by simp only[go_sem,hw5];rfl);obtain⟨aE,hv6,hw6,d⟩:=q8 d
   try simp only[go_sem] at hw6
   refine pL C7 ?_ (hp:=by exact(pZ hv6)) (h:=by simp only[go_sem,hw6];rfl);obtain⟨hg7,d⟩:=pP d;refine tW C7 ?_ (hp:=by exact⟨id,id,rI,id,id,rI,id,id,id,hg7,rI⟩);refine pV ?_;cases d;exact oV []
attribute [irreducible] J7
end
end Go.Proofs.YtkpflnijijccpaaGreatDoor
section
end
namespace Go.Proofs.YtkpflnijijccpaaGreatDoor
open Vc
theorem ET {σ ρ:Type}(f:σ→Option (σ⊕ρ)) (x:σ):rF f x=(f x).bind fun w=>match w with
    | .inl y=>rF f y
    | .inr r=>some r:=by
  cases h:f x with
  | none=>
    cases h2:rF f x with
    |none=>rfl
    | some r=>
      obtain⟨n,hn⟩:=T9 h2;cases n with
      |zero=>cases hn
      |succ n=>unfold iter at hn;rw[h] at hn;cases hn
  | some w=>
    cases w with
    |inl y=>exact CM h
    |inr r=>exact xM h
theorem J8 {t:Ty}{l:List t.den}{i:Nat}(h:i<l.length):qB t l (i:Int)=l[i]:=by
  unfold qB;rw[aRv,aQ9,aQM h];rfl
theorem UO {l:oT}{i:Nat}(h:i<l.length):rP l (i:Int)=(l[i].toNat:Int):=by
  unfold rP;rw[aRv,aQ9,aQM h];rfl
def B0 {β:Type}(f:Nat→β) (b:β):p9→β
  |some k=>f k
  |none=>b
theorem a8p {α ρ:Type}{f:Int→Option (Int⊕(Unit⊕ρ))}{l:List α}(p:α→Bool) (g:Nat→ρ)
    (hf: ∀(i:Nat) (h:i<l.length),f i=if p l[i]=true then some (.inr (.inr (g i))) else some (.inl (i+1)))
    (he:f l.length=some (.inr (.inl ()))): ∀(n j:Nat),j+n=l.length→rF f j=some (B0 (fun k=> .inr (g (j+k))) (.inl ()) ((l.drop j).findIdx? p))
  | 0,j,hj=>by
    have:j=l.length:=by omega
    subst this;rw[aRy,ET,he];rfl
  | n+1,j,hj=>by
    have hlt:j<l.length:=by omega
    rw[ET,hf j hlt,aRn hlt,aSE];by_cases hp:p l[j]=true
    · rw[aQI hp,aQI hp]
      rfl
    · rw[aQO hp,aQO hp]
      show rF f ((j:Int)+1)=_;have:=a8p p g hf he n (j+1) oW;rw[show ((j:Int)+1)=((j+1:Nat):Int) by omega,this];cases(l.drop (j+1)).findIdx? p with
      |none=>rfl
      | some k=>
        show some (Sum.inr (g (j+1+k)))=some (Sum.inr (g (j+(k+1))));rw[show j+1+k=j+(k+1) by omega]
theorem Q3 {α ρ:Type}{f:Int→Option (Int⊕(Unit⊕ρ))}{l:List α}(p:α→Bool) (g:Nat→ρ)
    (hf: ∀(i:Nat) (h:i<l.length),f i=if p l[i]=true then some (.inr (.inr (g i))) else some (.inl (i+1)))
    (he:f l.length=some (.inr (.inl ()))):rF f 0=some (B0 (fun k=> .inr (g k)) (.inl ()) (l.findIdx? p)):=by
  have:=a8p p g hf he l.length 0 oW;simpa using this
theorem aGT {s:oT}{i:Nat}(h:i<s.length) (ha:s[i].toNat<128):vS s i=(s[i].toNat:Int)∧yG s i=i+1:=by
  have h1:=Lib.decodeL_drop ⟨s.toArray⟩ i
  have h2:(⟨s.toArray⟩:ByteArray).data.toList.drop i=s[i]::s.drop (i+1):=by
    show s.drop i=_;rw[aRn h]
  rw[h2,Lib.decodeL_ascii _ _ ha] at h1;unfold vS yG WF;rw[←h1,aQI h];exact⟨rfl,rfl⟩
theorem aMy {n b0 b1 b2 b3:Nat}(h:128≤b0):128≤(Lib.decodeN n b0 b1 b2 b3).1:=by
  unfold Lib.decodeN
  repeat' split
  all_goals first|omega|(dsimp only;omega)
theorem aGU {s:oT}{i:Nat}(h:i<s.length) (ha:128≤s[i].toNat):128≤vS s i:=by
  unfold vS;rw[Lib.decode_at]
  have:(⟨s.toArray⟩:ByteArray).get! i=s[i]:=by
    show s.toArray[i]! =_;simp [h]
  rw[this];exact Int.ofNat_le.2 (aMy ha)
theorem aGV {ρ:Type}{f:Nat→Option (Nat⊕(Unit⊕ρ))}{s:oT}(p:Int→Bool) (g:Nat→ρ) (hb: ∀c,128≤c→p c=true)
    (hf: ∀(i:Nat) (h:i<s.length),f i=if p (vS s i)=true then some (.inr (.inr (g i))) else some (.inl (yG s i)))
    (he:f s.length=some (.inr (.inl ()))): ∀(n j:Nat),j+n=s.length→rF f j=some (B0 (fun k=> .inr (g (j+k))) (.inl ()) ((s.drop j).findIdx? (fun b=>p b.toNat)))
  | 0,j,hj=>by
    have:j=s.length:=by omega
    subst this;rw[aRy,ET,he];rfl
  | n+1,j,hj=>by
    have hlt:j<s.length:=by omega
    rw[ET,hf j hlt,aRn hlt,aSE];by_cases ha:s[j].toNat<128
    · obtain⟨e1,e2⟩:=aGT hlt ha
      rw[e1,e2];by_cases hp:p (s[j].toNat:Int)=true
      · rw[aQI hp,aQI hp]
        rfl
      · rw[aQO hp,aQO hp]
        show rF f (j+1)=_;rw[aGV p g hb hf he n (j+1) oW];cases(s.drop (j+1)).findIdx? (fun b=>p b.toNat) with
        |none=>rfl
        | some k=>
          show some (Sum.inr (g (j+1+k)))=some (Sum.inr (g (j+(k+1))));rw[show j+1+k=j+(k+1) by omega]
    · rw[aQI (hb _ (aGU hlt oW)),aQI (hb _ oW)]
      rfl
theorem aMz {ρ:Type}{f:Nat→Option (Nat⊕(Unit⊕ρ))}{s:oT}(p:Int→Bool) (g:Nat→ρ) (hb: ∀c,128≤c→p c=true)
    (hf: ∀(i:Nat) (h:i<s.length),f i=if p (vS s i)=true then some (.inr (.inr (g i))) else some (.inl (yG s i)))
    (he:f s.length=some (.inr (.inl ()))):rF f 0=some (B0 (fun k=> .inr (g k)) (.inl ()) (s.findIdx? (fun b=>p b.toNat))):=by
  have:=aGV p g hb hf he s.length 0 oW;simpa using this
def s5 {α:Type}(l:List α):Prop:=l.length≤4000000000
theorem vC {i:Nat}(h:i≤4000000000):pO ((i:Int)+1):=by unfold pO;omega
theorem tH {i n:Nat}(h:i<n):0≤(i:Int)∧(i:Int)<(n:Int):=⟨oW,oW⟩
theorem vI {i n:Nat}(h:i<n):decide ((i:Int)<(n:Int))=true:=by simpa using h
theorem vP (n:Nat): ¬decide ((n:Int)<(n:Int))=true:=by simp
theorem aGW {α:Type}{p:α→Bool}: ∀{l:List α},(l.findIdx? p).isSome=l.any p
  |[]=>rfl
  | x::l=>by
    rw[aSE,List.any_cons];cases p x with
    |true=>rfl
    |false=>simp [aGW (l:=l)]
theorem LV {α β:Type}{p:α→Bool}{l:List α}{f:Nat→β}{b:β}:B0 f b (l.findIdx? p)=if l.any p=true then f ((l.findIdx? p).getD 0) else b:=by
  rw[←aGW];cases l.findIdx? p with
  |none=>rfl
  |some k=>rfl
def GP (c:Int):Bool:=(((!((decide ((97:Int)≤c))&&(decide (c≤(122:Int)))))&&(!((decide ((48:Int)≤c))&&(decide (c≤(57:Int))))))&&(!decide (c=(45:Int))))&&((decide (c<(65:Int)))||(decide ((90:Int)<c)))
def B1 (s:oT):Bool:= !(s.any fun b=>GP b.toNat)&&((decide ((1:Int)≤(s.length:Int)))&&(decide ((s.length:Int)≤(40:Int))))
theorem aMA (s:oT) (hs:s5 s):IJ s=some (B1 s):=by
  unfold s5 at hs
  have h:=Q3 (f:=P9 s) (l:=s) (fun b=>GP b.toNat) (fun _=>false) (fun i h=>by
    unfold P9;rw[aQI (vI h),aQI (tH h),UO h,aQI (vC oW)];rfl) (by
    unfold P9;rw[aQO (vP _)])
  unfold IJ;rw[h,LV];unfold B1;cases s.any fun b=>GP b.toNat<;>rfl
def UP (c:Int):Bool:=((((decide (c<(97:Int)))||(decide ((122:Int)<c)))&&((decide (c<(65:Int)))||(decide ((90:Int)<c))))&&((decide (c<(48:Int)))||(decide ((57:Int)<c))))&&(!decide (c=(45:Int)))
theorem aMB (c:Int):UP c=GP c:=by
  unfold UP GP;rw[aR7];simp;omega
theorem aMC (s:oT):BP s=some (B1 s):=by
  have h:=aMz (f:=OL s) (s:=s) (fun c=>UP c) (fun _=>false) (fun c h=>by unfold UP;simp;omega) (fun i h=>by
    unfold OL;rw[aQI (by simpa using h),aQI (by simpa using h)];rfl) (by
    unfold OL;rw[aQO oY])
  unfold BP;rw[h,LV];simp only[aMB];unfold B1;cases s.any fun b=>GP b.toNat<;>rfl
def wK (c:Int):Bool:=((((!((decide ((97:Int)≤c))&&(decide (c≤(122:Int)))))&&(!((decide ((48:Int)≤c))&&(decide (c≤(57:Int))))))&&(!decide (c=(45:Int))))&&(!decide (c=(95:Int))))&&(!decide (c=(46:Int)))
def wX (c:Int):Bool:=(decide ((97:Int)≤c))&&(decide (c≤(122:Int)))
def xQ:oT→Bool
  |[]=>false
  |b::t=>(!decide (40<t.length+1)&&wX b.toNat)&& !(t.any fun b=>wK b.toNat)
theorem aGX (s:oT) (hs:s5 s):G7 s=some (xQ s):=by
  unfold s5 at hs;unfold G7;cases s with
  |nil=>simp [xQ]
  | cons b t=>
    have hb0:rP (b::t) (0:Int)=(b.toNat:Int):=UO (i:=0) oY;rw[aQI (fun _=>⟨aR0 0,by simp only[aQJ];omega⟩),hb0];unfold xQ;by_cases hl:(40:Int)<((b::t).length:Int)
    · have hl2:40<t.length+1:=by simp only[aQJ] at hl;omega
      rw[aQI (by simp only[hl,decide_true,Bool.or_true,Bool.true_or])];simp [hl2]
    · have hl2: ¬40<t.length+1:=by simp only[aQJ] at hl;omega
      have hl3: ¬((b::t).length:Int)<1:=by simp;omega
      by_cases hb:wX b.toNat=true
      · rw[aQO (by unfold wX at hb;simp only[hl,hl3,hb];simp)]
        have h:=a8p (f:=PA (b::t)) (l:=b::t) (fun b=>wK b.toNat) (fun _=>false) (fun i h=>by
          unfold PA;rw[aQI (vI h),aQI (tH h),UO h,aQI (vC oW)];rfl) (by
          unfold PA;rw[aQO (vP _)]) t.length 1 oZ
        rw[show ((1:Nat):Int)=1 from rfl] at h;rw[h,LV];simp only[List.drop_succ_cons,aSd,hb,hl2,decide_false,Bool.not_false,Bool.true_and];cases t.any fun b=>wK b.toNat<;>rfl
      · rw[aQI (by unfold wX at hb;simp only[hb];simp)]
        simp [hb]
theorem aGY (s:oT): ∀(n j:Nat),j+n=s.length→rF (KY s) j=some (if (s.drop j).any (fun b=>wK b.toNat)=true∨(j=0∧s≠[]∧wX (s.getD 0 0).toNat=false) then .inr false else .inl ())
  | 0,j,hj=>by
    have:j=s.length:=by omega
    subst this;rw[aRy,ET];unfold KY;rw[aQO oY];by_cases h0:s=[]
    .subst h0;simp
    · have:s.length≠0:=by simpa using h0
      simp [this]
  | n+1,j,hj=>by
    have hlt:j<s.length:=by omega
    have ih:=aGY s n (j+1) oW;rw[ET,aRn hlt,List.any_cons]
    have hstep:KY s j=if (wK (s[j].toNat:Int)=true∨(j=0∧wX (s[j].toNat:Int)=false)) then some (.inr (.inr false)) else some (.inl (j+1)):=by
      unfold KY;rw[aQI (by simpa using hlt),aQI (by simpa using hlt),aQI (by simpa using hlt)];by_cases ha:s[j].toNat<128
      · obtain⟨e1,e2⟩:=aGT hlt ha
        rw[e1,e2];by_cases h1:wX (s[j].toNat:Int)=true
        · rw[aQI (by unfold wX at h1;exact h1),aQO]
          unfold wX at h1;simp only[aQU,aQY] at h1;simp [wK,wX];omega
        · have h1':wX (s[j].toNat:Int)=false:=by simpa using h1
          rw[aQO (by unfold wX at h1;exact h1)]
          have h2: ¬(97≤(s[j].toNat:Int)∧(s[j].toNat:Int)≤122):=by
            unfold wX at h1;simpa using h1
          by_cases h3:wK (s[j].toNat:Int)=true∨j=0
          · rw[aQO,aQI]
            · rcases h3 with h3|h3
              .exact .inl h3
              .exact .inr ⟨h3,h1'⟩
            · simp [wK] at h3|-
              omega
          · rw[aQI,aQO]
            · intro h
              rcases h with h|⟨h,_⟩
              .exact h3 (.inl h)
              .exact h3 (.inr h)
            · simp [wK] at h3|-
              omega
      · have hb:=aGU hlt oW
        rw[aQO oZ,aQO oZ,aQI (.inl (by simp [wK];omega))]
    rw[hstep];have hd:s.getD 0 0=s[0]'oW:=by simp [aQ9,aQM (show 0<s.length by omega)]
    have hne:s≠[]:=by intro h;subst h;simp at hlt
    by_cases hp:wK (s[j].toNat:Int)=true∨(j=0∧wX (s[j].toNat:Int)=false)
    · rw[aQI hp,aQI]
      .rfl
      · rcases hp with hp|⟨rfl,hp⟩
        .left;simp [hp]
        .right;exact⟨rfl,hne,by rw[hd];exact hp⟩
    · rw[aQO hp]
      show rF _ (j+1)=_;rw[ih]
      have hnb:wK (s[j].toNat:Int)=false:=by
        cases h:wK (s[j].toNat:Int) with
        |true=>exact absurd (.inl h) hp
        |false=>rfl
      simp only[hnb,Bool.false_or];congr 2;apply propext;constructor
      · rintro(h|⟨h,_⟩)
        .exact .inl h
        .omega
      · rintro(h|⟨rfl,_,h⟩)
        .exact .inl h
        · rw[hd] at h
          exact absurd (.inr ⟨rfl,h⟩) hp
theorem aGZ (s:oT):A6 s=some (xQ s):=by
  have h:=aGY s s.length 0 oW;unfold A6;rw[h,aSd];cases s with
  |nil=>simp [xQ,sR]
  | cons b t=>
    simp only[List.any_cons,List.getD_cons_zero,ne_eq,reduceCtorEq,not_false_eq_true,true_and,xQ];cases hs:wX b.toNat with
    |false=>simp [sR]
    | true=>
      have hn:wK b.toNat=false:=by
        unfold wX at hs;simp only[aQU,aQY] at hs;simp [wK];omega
      simp only[hn,Bool.false_or];cases t.any (fun b=>wK b.toNat) with
      |true=>simp [sR]
      | false=>
        simp only[aSg,false_or,and_false,aSF];show some (decide ((1:Int)≤((b::t).length:Int))&&decide (((b::t).length:Int)≤40))=_;congr 1;rw[aR7];simp only[aQJ,aQU,aQY,aRj,aRO,Bool.not_false,and_true];omega
theorem aG0 {β:Type}{f:Nat→β}{b:β}{o:p9}:sR (some (B0 (fun k=> .inr (f k)) (.inl ()) o)) (fun _=>some b)=some (B0 f b o):=by
  cases o<;>rfl
theorem aMD {α:Type}{p:α→Bool}{l:List α}:decide ((0:Int)≤B0 (fun k=>(k:Int)) (-1) (l.findIdx? p))=l.any p:=by
  rw[LV];cases l.any p
  .rfl
  .simp only[aR4,aQY];omega
def aME:oU:=[[110,101,119],[102,117,122,122,121],[116,114,97,110,115,108,97,116,101,100],[114,101,118,105,101,119,101,100],[111,98,115,111,108,101,116,101]]
abbrev w4:=oT×oT×Unit
theorem aMF {α:Type}{l:List α}{k:Nat}:s0 l 0 (k:Int)=l.take k:=by unfold s0;simp
theorem aMG {α:Type}{l:List α}{k:Nat}:s0 l (k:Int) (l.length:Int)=l.drop k:=by
  unfold s0;rw[aRv,aRv,List.take_of_length_le];rw[aRg];exact aQ4 _
def AC (n:Int):Prop:=0≤n∧n≤1114111∧(n<55296∨57343<n)
def GQ (n:Int):Bool:=(((decide ((0:Int)≤n))&&(decide (n≤(1114111:Int))))&&((decide (n<(55296:Int)))||(decide ((57343:Int)<n))))
theorem J9 (n:Int):GQ n=true↔AC n:=by
  unfold GQ AC;simp;omega
theorem UQ {n:Int}(h0:0≤n) (h1:n≤127):Lib.encodeRune n=sN [n]:=by
  unfold Lib.encodeRune;rw[Lib.encodeRuneZ_one h0 h1];rfl
theorem UR {n:Int}(h0:128≤n) (h1:n≤2047):Lib.encodeRune n=sN [192+n/64,128+n%64]:=by
  unfold Lib.encodeRune;rw[Lib.encodeRuneZ_two h0 h1];rfl
theorem a8q {n:Int}(h:(2048≤n∧n<55296)∨(57343<n∧n≤65535)):Lib.encodeRune n=sN [224+n/4096,128+n/64%64,128+n%64]:=by
  unfold Lib.encodeRune;rw[Lib.encodeRuneZ_three h];rfl
theorem aG1 {n:Int}(h0:65536≤n) (h1:n≤1114111):Lib.encodeRune n=sN [240+n/262144,128+n/4096%64,128+n/64%64,128+n%64]:=by
  unfold Lib.encodeRune;rw[Lib.encodeRuneZ_four h0 h1];rfl
theorem aG2 {n:Int}(h:AC n):AU n=some (Lib.encodeRune n):=by
  obtain⟨h0,h1,hs⟩:=h;have w1:IntKind.i64.wrap (n/64)=n/64:=by rw[aRI];omega
  have w2:IntKind.i64.wrap (n/4096)=n/4096:=by rw[aRI];omega
  have w3:IntKind.i64.wrap (n/262144)=n/262144:=by rw[aRI];omega
  have m1:Int.tmod n 64=n%64:=aSn h0;have m2:Int.tmod (n/64) 64=n/64%64:=aSn oW;have m3:Int.tmod (n/4096) 64=n/4096%64:=aSn oW;unfold AU;simp only[Int.tdiv_eq_ediv_of_nonneg h0,w1,w2,w3,m1,m2,m3,IntKind.wrap_u8];by_cases c1:n<128
  .rw[aQI (by simpa using c1),UQ h0 oW,show n%256=n by omega]
  · rw[aQO (by simpa using c1)]
    by_cases c2:n<2048
    .rw[aQI (by simpa using c2),aQI (by unfold pO;omega),aQI (by unfold pO;omega),UR oW oW,show (192+n/64) %256=192+n/64 by omega,show (128+n%64) %256=128+n%64 by omega]
    · rw[aQO (by simpa using c2)]
      by_cases c3:n<65536
      .rw[aQI (by simpa using c3),aQI (by unfold pO;omega),aQI (by unfold pO;omega),aQI (by unfold pO;omega),a8q oW,show (224+n/4096) %256=224+n/4096 by omega,show (128+n/64%64) %256=128+n/64%64 by omega,show (128+n%64) %256=128+n%64 by omega]
      .rw[aQO (by simpa using c3),aQI (by unfold pO;omega),aQI (by unfold pO;omega),aQI (by unfold pO;omega),aQI (by unfold pO;omega),aG1 oW oW,show (240+n/262144) %256=240+n/262144 by omega,show (128+n/4096%64) %256=128+n/4096%64 by omega,show (128+n/64%64) %256=128+n/64%64 by omega,show (128+n%64) %256=128+n%64 by omega]
theorem aMH (n:Int):(Lib.encodeRuneZ n).length≤4:=by
  unfold Lib.encodeRuneZ
  repeat' split
  all_goals simp
theorem aG3 {l:oT}{i:Nat}(h:i<l.length):rP l (i:Int)=((l.getD i 0).toNat:Int):=by
  rw[UO h,aQ9,aQM h];rfl
theorem aMI {s:oT}{x n:Int}{i:Nat}(h:i<s.length) (hn:(i:Int)<n) (hx:0≤x) (hx1:x≤1000000) (hi:i≤10):BR s n (x,(i:Int))=
    if (s.getD i 0).toNat/64=2 then some (.inl (64*x+(s.getD i 0).toNat-128,((i+1:Nat):Int))) else some (.inr (.inr (65533,1))):=by
  have hb:=(s.getD i 0).toNat_lt;have hy:=aG3 h;generalize (s.getD i 0).toNat=B at hb hy|-;unfold BR;dsimp only;rw[aQI (by simpa using hn),aQI (tH h),aQI (fun _=>tH h),hy];by_cases hc:B/64=2
  · rw[aQO oZ,aQI hc,aQI (by unfold pO;omega),aQI (tH h),show IntKind.i64.wrap (B:Int)=(B:Int) by rw[aRI];omega,
      aQI (by unfold pO;omega),aQI (by unfold pO;omega),aQI (by unfold pO;omega)]
    rfl
  .rw[aQI oZ,aQO hc]
theorem a8r {s:oT}{x n i:Int}(h:n≤i):BR s n (x,i)=some (.inr (.inl x)):=by
  unfold BR;dsimp only;rw[aQO (by simpa using h)]
def t8 (s:oT) (i:Nat):Bool:=decide ((s.getD i 0).toNat/64=2)
def wL (s:oT) (i:Nat) (x:Int):Int:=64*x+(s.getD i 0).toNat-128
theorem a8s {s:oT}{i:Nat}{x m:Int}(h0:0≤x) (hm:x≤m) (hc:t8 s i=true):0≤wL s i x∧wL s i x≤64*m+63:=by
  have hb:=(s.getD i 0).toNat_lt;unfold t8 at hc;unfold wL;simp only[aQY] at hc;omega
theorem LW {s:oT}{x n:Int}{i:Nat}(h:i<s.length) (hn:(i:Int)<n) (hx:0≤x) (hx1:x≤1000000) (hi:i≤10):
    rF (BR s n) (x,(i:Int))=if t8 s i=true then rF (BR s n) (wL s i x,((i+1:Nat):Int)) else some (.inr (65533,1)):=by
  rw[ET,aMI h hn hx hx1 hi];unfold t8 wL;simp only[aQY];by_cases hc:(s.getD i 0).toNat/64=2
  .rw[aQI hc,aQI hc];rfl
  .rw[aQO hc,aQO hc];rfl
theorem aMJ {s:oT}{x:Int}(h:1<s.length) (hx:0≤x) (hx1:x≤31):rF (BR s 2) (x,1)=some (if t8 s 1=true then .inl (wL s 1 x) else .inr (65533,1)):=by
  show rF _ (x,((1:Nat):Int))=_;rw[LW h oX hx oW oX];by_cases c1:t8 s 1=true
  .rw[aQI c1,aQI c1,xM (a8r oX)]
  .rw[aQO c1,aQO c1]
theorem aMK {s:oT}{x:Int}(h:2<s.length) (hx:0≤x) (hx1:x≤15):rF (BR s 3) (x,1)=some (if (t8 s 1&&t8 s 2)=true then .inl (wL s 2 (wL s 1 x)) else .inr (65533,1)):=by
  show rF _ (x,((1:Nat):Int))=_;rw[LW oW oX hx oW oX];by_cases c1:t8 s 1=true
  · have b1:=a8s hx hx1 c1
    rw[aQI c1,LW h oX b1.1 oW oX,c1,Bool.true_and];by_cases c2:t8 s 2=true
    .rw[aQI c2,aQI c2,xM (a8r oX)]
    .rw[aQO c2,aQO c2]
  .rw[aQO c1,aQO (by simp [c1])]
theorem aML {s:oT}{x:Int}(h:3<s.length) (hx:0≤x) (hx1:x≤7):rF (BR s 4) (x,1)=some (if (t8 s 1&&t8 s 2&&t8 s 3)=true then .inl (wL s 3 (wL s 2 (wL s 1 x))) else .inr (65533,1)):=by
  show rF _ (x,((1:Nat):Int))=_;rw[LW oW oX hx oW oX];by_cases c1:t8 s 1=true
  · have b1:=a8s hx hx1 c1
    rw[aQI c1,LW oW oX b1.1 oW oX,c1,Bool.true_and];by_cases c2:t8 s 2=true
    · have b2:=a8s b1.1 b1.2 c2
      rw[aQI c2,LW h oX b2.1 oW oX,c2,Bool.true_and];by_cases c3:t8 s 3=true
      .rw[aQI c3,aQI c3,xM (a8r oX)]
      .rw[aQO c3,aQO c3]
    .rw[aQO c2,aQO (by simp [c2])]
  .rw[aQO c1,aQO (by simp [c1])]
def uD (s:oT) (x:Int) (n:Nat):Int×Int:=if GQ x=true∧Lib.encodeRune x=s.take n then(x,n) else(65533,1)
theorem a8t {s:oT}{x:Int}{n:Nat}(hn:n≤s.length):
    (if (((!(((decide ((0:Int)≤x))&&(decide (x≤(1114111:Int))))&&((decide (x<(55296:Int)))||(decide ((57343:Int)<x)))))==false)=true→((AU x)).isSome=true) then
    if (((!(((decide ((0:Int)≤x))&&(decide (x≤(1114111:Int))))&&((decide (x<(55296:Int)))||(decide ((57343:Int)<x)))))==false)=true→0≤(0:Int)∧(0:Int)≤(n:Int)∧(n:Int)≤(List.length s:Int)) then
     if ((!(((decide ((0:Int)≤x))&&(decide (x≤(1114111:Int))))&&((decide (x<(55296:Int)))||(decide ((57343:Int)<x)))))||(!decide ((val (AU x))=(s0 s (0:Int) (n:Int)))))=true then
      some (((65533:Int),(1:Int)))
     else
      some ((x,(n:Int)))
    else none
   else none)=some (uD s x n):=by
  rw[aMF];simp only[show (((decide ((0:Int)≤x))&&(decide (x≤(1114111:Int))))&&((decide (x<(55296:Int)))||(decide ((57343:Int)<x))))=GQ x from rfl]
  unfold uD;by_cases hs:GQ x=true
  · have ho:=aG2 ((J9 x).1 hs)
    rw[aQI (fun _=>by rw[ho];rfl),aQI (fun _=>⟨aR0 _,oW,oW⟩),ho,hs];by_cases he:Lib.encodeRune x=s.take n
    .rw[aQO (by simp [val,he]),aQI ⟨rfl,he⟩]
    .rw[aQI (by simp [val,he]),aQO (fun h=>he h.2)]
  · have hs':GQ x=false:=by simpa using hs
    rw[aQI (fun h=>by simp [hs'] at h),aQI (fun h=>by simp [hs'] at h),aQI (by simp [hs']),aQO (fun h=>hs h.1)]
theorem EU (z:Int) (l:p6) (x:UInt8) (h:z=(x.toNat:Int)):sN (z::l)=x::sN l:=by
  show UInt8.ofNat z.toNat::sN l=_;rw[h];simp
theorem a8u:sN []=[]:=rfl
theorem LX (l:p6):(sN l).length=l.length:=by simp [sN]
theorem aMM {s:oT}(hl:1<s.length) (h0:192≤(s.getD 0 0).toNat) (h0':(s.getD 0 0).toNat<224) (hc:t8 s 1=true):
    uD s (wL s 1 ((s.getD 0 0).toNat-192)) 2=(((Lib.decodeL s).1:Int),((Lib.decodeL s).2:Int)):=by
  unfold t8 at hc;simp only[aQY] at hc;have k0:=(s.getD 0 0).toNat_lt;have k1:=(s.getD 1 0).toNat_lt
  have hd:Lib.decodeL s=if (s.getD 0 0).toNat%32*64+(s.getD 1 0).toNat%64≥128 then((s.getD 0 0).toNat%32*64+(s.getD 1 0).toNat%64,2) else(65533,1):=by
    rw[Lib.decodeL_N];unfold Lib.decodeN;rw[aQO oW,aQI ⟨oW,oW,hc⟩]
  rw[hd];unfold uD wL;rw[Lib.takeB s hl];have hx:GQ (64*((s.getD 0 0).toNat-192)+(s.getD 1 0).toNat-128)=true:=(J9 _).2 (by unfold AC;omega);rw[hx];by_cases hv:(s.getD 0 0).toNat%32*64+(s.getD 1 0).toNat%64≥128
  · rw[aQI hv,aQI ⟨rfl,by
      rw[UR oW oW,EU _ _ (s.getD 0 0) oW,EU _ _ (s.getD 1 0) oW,a8u]⟩]
    exact Prod.ext (by show _=(((_:Nat)):Int);omega) rfl
  · rw[aQO hv,aQO (fun h=>by
      have h2:=aQ0 List.length h.2;rw[UQ oW oW,LX] at h2;simp at h2)]
    rfl
theorem aMN {s:oT}(hl:2<s.length) (h0:224≤(s.getD 0 0).toNat) (h0':(s.getD 0 0).toNat<240) (hc:t8 s 1=true) (hc2:t8 s 2=true):
    uD s (wL s 2 (wL s 1 ((s.getD 0 0).toNat-224))) 3=(((Lib.decodeL s).1:Int),((Lib.decodeL s).2:Int)):=by
  unfold t8 at hc hc2;simp only[aQY] at hc hc2;have k0:=(s.getD 0 0).toNat_lt;have k1:=(s.getD 1 0).toNat_lt;have k2:=(s.getD 2 0).toNat_lt;obtain⟨V,hV⟩: ∃V,(s.getD 0 0).toNat%16*4096+(s.getD 1 0).toNat%64*64+(s.getD 2 0).toNat%64=V:=⟨_,rfl⟩
  have hd:Lib.decodeL s=if V≥2048∧(V<55296∨(57344≤V∧V≤1114111)) then(V,3) else(65533,1):=by
    rw[Lib.decodeL_N];unfold Lib.decodeN;rw[aQO oW,aQO oW,aQI ⟨oW,⟨oW,hc⟩,oW,hc2⟩,hV]
  rw[hd];unfold uD wL;rw[Lib.takeC s hl];generalize hX:64*(64*(((s.getD 0 0).toNat:Int)-224)+(s.getD 1 0).toNat-128)+(s.getD 2 0).toNat-128=X;have hXV:X=(V:Int):=by omega
  by_cases hv:V≥2048∧(V<55296∨(57344≤V∧V≤1114111))
  · rw[aQI hv,aQI ⟨(J9 _).2 (by unfold AC;omega),by
      rw[a8q oW,EU _ _ (s.getD 0 0) oW,EU _ _ (s.getD 1 0) oW,EU _ _ (s.getD 2 0) oW,a8u]⟩]
    exact Prod.ext hXV rfl
  · rw[aQO hv,aQO (fun h=>by
      have hs:=(J9 _).1 h.1;unfold AC at hs;have hlt:X<2048:=by omega
      have h2:=aQ0 List.length h.2;by_cases h7:X≤127
      .rw[UQ oW h7,LX] at h2;simp at h2
      .rw[UR oW oW,LX] at h2;simp at h2)]
    rfl
theorem aMO {s:oT}(hl:3<s.length) (h0:240≤(s.getD 0 0).toNat) (h0':(s.getD 0 0).toNat<248) (hc:t8 s 1=true) (hc2:t8 s 2=true) (hc3:t8 s 3=true):
    uD s (wL s 3 (wL s 2 (wL s 1 ((s.getD 0 0).toNat-240)))) 4=(((Lib.decodeL s).1:Int),((Lib.decodeL s).2:Int)):=by
  unfold t8 at hc hc2 hc3;simp only[aQY] at hc hc2 hc3;have k0:=(s.getD 0 0).toNat_lt;have k1:=(s.getD 1 0).toNat_lt;have k2:=(s.getD 2 0).toNat_lt;have k3:=(s.getD 3 0).toNat_lt;obtain⟨V,hV⟩: ∃V,(s.getD 0 0).toNat%8*262144+(s.getD 1 0).toNat%64*4096+(s.getD 2 0).toNat%64*64+(s.getD 3 0).toNat%64=V:=⟨_,rfl⟩
  have hd:Lib.decodeL s=if V≥65536∧(V<55296∨(57344≤V∧V≤1114111)) then(V,4) else(65533,1):=by
    rw[Lib.decodeL_N];unfold Lib.decodeN;rw[aQO oW,aQO oW,aQO oW,aQI ⟨oW,⟨oW,hc⟩,⟨oW,hc2⟩,oW,hc3⟩,hV]
  rw[hd];unfold uD wL;rw[Lib.takeD s hl];generalize hX:64*(64*(64*(((s.getD 0 0).toNat:Int)-240)+(s.getD 1 0).toNat-128)+(s.getD 2 0).toNat-128)+(s.getD 3 0).toNat-128=X;have hXV:X=(V:Int):=by omega
  by_cases hv:V≥65536∧(V<55296∨(57344≤V∧V≤1114111))
  · rw[aQI hv,aQI ⟨(J9 _).2 (by unfold AC;omega),by
      rw[aG1 oW oW,EU _ _ (s.getD 0 0) oW,EU _ _ (s.getD 1 0) oW,EU _ _ (s.getD 2 0) oW,EU _ _ (s.getD 3 0) oW,a8u]⟩]
    exact Prod.ext hXV rfl
  · rw[aQO hv,aQO (fun h=>by
      have hs:=(J9 _).1 h.1;unfold AC at hs;have hlt:X<65536:=by omega
      have h2:=aQ0 List.length h.2;by_cases h7:X≤127
      .rw[UQ oW h7,LX] at h2;simp at h2
      · by_cases h8:X≤2047
        .rw[UR oW oW,LX] at h2;simp at h2
        .rw[a8q oW,LX] at h2;simp at h2)]
    rfl
theorem JA {s:oT}(h: ¬(s.getD 0 0).toNat<128) (h2: ¬((s.getD 0 0).toNat/32=6∧1<s.length∧t8 s 1=true)) (h3: ¬((s.getD 0 0).toNat/16=14∧2<s.length∧(t8 s 1&&t8 s 2)=true))
    (h4: ¬((s.getD 0 0).toNat/8=30∧3<s.length∧(t8 s 1&&t8 s 2&&t8 s 3)=true)):Lib.decodeL s=(65533,1):=by
  unfold t8 at h2 h3 h4;simp only[aQU,aQY] at h2 h3 h4;rw[Lib.decodeL_N];unfold Lib.decodeN;rw[aQO h,aQO (fun⟨a,b,c⟩=>h2 ⟨a,b,c⟩),aQO (fun⟨a,⟨b,c⟩,d,e⟩=>h3 ⟨a,d,c,e⟩),aQO (fun⟨a,⟨b,c⟩,⟨d,e⟩,f,g⟩=>h4 ⟨a,f,⟨c,e⟩,g⟩)]
theorem aMP {s:oT}(hne:s≠[]):G5 s=some (((Lib.decodeL s).1:Int),((Lib.decodeL s).2:Int)):=by
  have hl:0<s.length:=aR8.2 hne;have hy:rP s 0=((s.getD 0 0).toNat:Int):=aG3 (i:=0) hl;have k0:=(s.getD 0 0).toNat_lt;have hw:IntKind.i64.wrap ((s.getD 0 0).toNat:Int)=((s.getD 0 0).toNat:Int):=by rw[aRI];omega
  unfold G5;rw[aQI ⟨aR0 _,oW⟩,hy,hw];by_cases c1:(s.getD 0 0).toNat<128
  · rw[aQI (by simp only[aQY];omega)]
    rw[Lib.decodeL_N];unfold Lib.decodeN;rw[aQI c1];rfl
  · rw[aQO (by simp only[aQY];omega)]
    by_cases c2:192≤(s.getD 0 0).toNat∧(s.getD 0 0).toNat<224
    · rw[aQI (by simp only[aQU,aQY];omega),aQI (by unfold pO;omega)]
      show (if decide ((s.length:Int)<2)=true then _ else _)=_;by_cases l2:1<s.length
      · rw[aQO (by simp only[aQY];omega),aMJ l2 oW oW]
        by_cases hc:t8 s 1=true
        · rw[aQI hc,←aMM l2 c2.1 c2.2 hc,←a8t (s:=s) (n:=2) oW]
          rfl
        · rw[aQO hc,JA c1 (fun h=>hc h.2.2) (fun h=>by omega) (fun h=>by omega)]
          rfl
      · rw[aQI (by simp only[aQY];omega),JA c1 (fun h=>l2 h.2.1) (fun h=>by omega) (fun h=>by omega)]
        rfl
    · rw[aQO (by simp only[aQU,aQY];omega)]
      by_cases c3:224≤(s.getD 0 0).toNat∧(s.getD 0 0).toNat<240
      · rw[aQI (by simp only[aQU,aQY];omega),aQI (by unfold pO;omega)]
        show (if decide ((s.length:Int)<3)=true then _ else _)=_;by_cases l2:2<s.length
        · rw[aQO (by simp only[aQY];omega),aMK l2 oW oW]
          by_cases hc:(t8 s 1&&t8 s 2)=true
          · have hc':=aQU _ _▸hc
            rw[aQI hc,←aMN l2 c3.1 c3.2 hc'.1 hc'.2,←a8t (s:=s) (n:=3) oW];rfl
          · rw[aQO hc,JA c1 (fun h=>by omega) (fun h=>hc h.2.2) (fun h=>by omega)]
            rfl
        · rw[aQI (by simp only[aQY];omega),JA c1 (fun h=>by omega) (fun h=>l2 h.2.1) (fun h=>by omega)]
          rfl
      · rw[aQO (by simp only[aQU,aQY];omega)]
        by_cases c4:240≤(s.getD 0 0).toNat∧(s.getD 0 0).toNat<248
        · rw[aQI (by simp only[aQU,aQY];omega),aQI (by unfold pO;omega)]
          show (if decide ((s.length:Int)<4)=true then _ else _)=_;by_cases l2:3<s.length
          · rw[aQO (by simp only[aQY];omega),aML l2 oW oW]
            by_cases hc:(t8 s 1&&t8 s 2&&t8 s 3)=true
            · have hc':=aQU _ _▸hc
              have hc'':=aQU _ _▸hc'.1;rw[aQI hc,←aMO l2 c4.1 c4.2 hc''.1 hc''.2 hc'.2,←a8t (s:=s) (n:=4) oW];rfl
            · rw[aQO hc,JA c1 (fun h=>by omega) (fun h=>by omega) (fun h=>hc h.2.2)]
              rfl
          · rw[aQI (by simp only[aQY];omega),JA c1 (fun h=>by omega) (fun h=>by omega) (fun h=>l2 h.2.1)]
            rfl
        · rw[aQO (by simp only[aQU,aQY];omega),JA c1 (fun h=>by omega) (fun h=>by omega) (fun h=>by omega)]
          rfl
def xA:Nat→oT→p6
  |0,_=>[]
  |n+1,s=>if s=[] then[] else((Lib.decodeL s).1:Int)::xA n (s.drop (Lib.decodeL s).2)
theorem aG4: ∀(n:Nat) (s:oT),(xA n s).length≤n
  |0,_=>aQ4 _
  | n+1,s=>by
    unfold xA;split
    .simp
    · simp only[aQJ]
      have:=aG4 n (s.drop (Lib.decodeL s).2);omega
theorem aMQ (s:oT):AC ((Lib.decodeL s).1:Int):=by
  have k0:=(s.getD 0 0).toNat_lt;rw[Lib.decodeL_N];rcases Lib.decodeN_shape s.length (s.getD 0 0).toNat (s.getD 1 0).toNat (s.getD 2 0).toNat (s.getD 3 0).toNat with⟨c,e⟩ |⟨c1,c2,c3,cv,e⟩ |⟨c1,c2,c3,c4,cv,cs,e⟩ |⟨c1,c2,c3,c4,c5,cv,cw,e⟩ |e
  all_goals (rw[e];unfold AC;dsimp only;omega)
theorem aG5: ∀(n:Nat) (s:oT) (out:p6),s.length≤n→out.length+s.length≤4000000000→rF LB (s,out)=some (out++xA n s)
  | n,[],out,_,_=>by
    rw[xM (r:=out) (by unfold LB;simp)];cases n<;>simp [xA]
  |0,b::t,_,h,_=>by simp at h
  | n+1,b::t,out,h,ho=>by
    have hne:(b::t)≠[]:=by simp
    have hle:=Lib.decodeL_le (b::t) hne;have hw:=Lib.decodeL_width (b::t)
    have hstep:LB (b::t,out)=some (.inl ((b::t).drop (Lib.decodeL (b::t)).2,out++[((Lib.decodeL (b::t)).1:Int)])):=by
      unfold LB;dsimp only;rw[aQI oY,aMP hne];simp only[aQL];rw[aQI (by simp only[aQJ,aQW] at ho|-;omega),aQI ⟨oW,oW,aR0 _⟩,aMG]
    rw[CM hstep,aG5 n _ _ (by rw[aRg];simp only[aQJ] at h hle|-;omega) (by rw[aRg,aQG];simp only[aQJ,aQW] at ho hle|-;omega)];rw[show xA (n+1) (b::t)=((Lib.decodeL (b::t)).1:Int)::xA n ((b::t).drop (Lib.decodeL (b::t)).2) by rw[xA,aQO hne],aQR];rfl
def US (s:oT):p6:=xA s.length s
theorem aMR (s:oT) (hs:s5 s):G8 s=some (US s):=by
  unfold s5 at hs;unfold G8;rw[aG5 s.length s [] (aQ4 _) (by simpa using hs)];rfl
theorem aG6: ∀(n:Nat) (s:oT),∀x∈xA n s,AC x
  |0,_,_,h=>by cases h
  | n+1,s,x,h=>by
    unfold xA at h;split at h
    .cases h
    · rcases aQV.1 h with h|h
      .rw[h];exact aMQ s
      .exact aG6 n _ x h
def GR (l:p6):oT:=(l.map Lib.encodeRune).flatten
theorem aMS (n:Int):(Lib.encodeRune n).length≤4:=by
  unfold Lib.encodeRune;rw[aSw];exact aMH n
theorem aG7 (l:p6) (hsc: ∀x∈l,AC x) (hl:s5 l): ∀(n j:Nat) (s:oT),j+n=l.length→s.length+4*n≤10000000000000→rF (LA l) (s,(j:Int))=some (s++GR (l.drop j))
  | 0,j,s,hj,_=>by
    have:j=l.length:=by omega
    subst this;rw[xM (r:=s) (by unfold LA;simp),aRy];simp [GR]
  | n+1,j,s,hj,hs=>by
    have hlt:j<l.length:=by omega
    unfold s5 at hl;have hx:=hsc l[j] (aRH hlt);have h4:=aMS l[j]
    have hstep:LA l (s,(j:Int))=some (.inl (s++Lib.encodeRune l[j],((j+1:Nat):Int))):=by
      unfold LA;dsimp only;rw[aQI (vI hlt),aQI (tH hlt),J8 (t:= .int .i64) hlt];have hb:=(J9 l[j]).2 hx;unfold GQ at hb;rw[aQI hb,aQI (tH hlt),aG2 hx];simp only[aQL];rw[aQI (by rw[aQG];omega),aQI (vC oW)];rfl
    rw[CM hstep,aG7 l hsc hl n (j+1) _ oW (by rw[aQG];omega),aRn hlt,aQR];rfl
theorem aMT (l:p6) (hsc: ∀x∈l,AC x) (hl:s5 l):IL l=some (GR l):=by
  have hl':=hl;unfold s5 at hl';unfold IL;rw[show ((0:Int))=((0:Nat):Int) from rfl,aG7 l hsc hl l.length 0 [] oW oZ];rfl
theorem aG8: ∀(n:Nat) (s:oT),s.length≤n→s.length≤(GR (xA n s)).length∧(GR (xA n s)=s↔Lib.validD s=true)
  | n,[],_=>by
    have:xA n []=[]:=by cases n<;>simp [xA]
    rw[this];simp [GR,Lib.validD_nil]
  |0,b::t,h=>by simp at h
  | n+1,b::t,h=>by
    have hne:(b::t)≠[]:=by simp
    have hle:=Lib.decodeL_le (b::t) hne;have hw:=Lib.decodeL_width (b::t);obtain⟨ih1,ih2⟩:=aG8 n ((b::t).drop (Lib.decodeL (b::t)).2) (by rw[aRg];simp only[aQJ] at h|-;omega)
    have hr:GR (xA (n+1) (b::t))=Lib.encodeRune ((Lib.decodeL (b::t)).1:Int)++GR (xA n ((b::t).drop (Lib.decodeL (b::t)).2)):=by
      rw[xA,aQO hne];rfl
    rw[hr,Lib.validD_step _ hne];rw[aRg] at ih1;by_cases hv:(Lib.decodeL (b::t)).1=65533∧(Lib.decodeL (b::t)).2=1
    · rw[aQI hv,hv.1]
      have e3:(Lib.encodeRune ((65533:Nat):Int)).length=3:=rfl;rw[hv.2] at ih1|-;refine⟨by rw[aQG,e3];omega,fun he=> ?_,fun he=>by cases he⟩;have:=aQ0 List.length he;rw[aQG,e3] at this;omega
    · have he:=Lib.encode_decode (b::t) hne hv
      rw[aQO hv,he];refine⟨by rw[aQG,aRd];omega,?_⟩;rw[←ih2];constructor
      · intro h1
        exact List.append_cancel_left (h1.trans (aR2 _ _).symm)
      · intro h1
        rw[h1,aR2]
theorem aMU (s:oT) (hs:s5 s):tU s=some (Lib.validD s):=by
  have hl:s5 (US s):=by
    have:=aG4 s.length s;unfold s5 US at*;omega
  unfold tU;rw[aMR s hs];simp only[aQL];rw[aMT (US s) (fun x hx=>aG6 _ _ x hx) hl];simp only[aQL];congr 1;have:=(aG8 s.length s (aQ4 _)).2;rw[aR7,aQY];exact this
def wY (s:oT):Bool:=decide ((s.length:Int)≤4000)&&Lib.validD s
theorem Q4 (s:oT) (hs:s5 s):D6 s=some ()∧((decide ((s.length:Int)≤4000))&&val (tU s))=wY s:=by
  unfold D6;rw[aMU s hs];exact⟨aQI (fun _=>rfl),rfl⟩
theorem Q5 (s:oT) (hs:s5 s):BT s=some ():=by
  unfold s5 at hs;unfold BT OP;rw[aQI (fun _=>by rw[aQI oW];rfl)]
theorem vQ {p:Prop}{α:Type}{v:α}:p→(some v).isSome=true:=fun _=>rfl
theorem Q6 {ρ:Type}{f:Int→Option (Int⊕(Unit⊕ρ))}{n:Nat}(p:Nat→Bool) (g:Nat→ρ)
    (hf: ∀(i:Nat),i<n→f i=if p i=true then some (.inr (.inr (g i))) else some (.inl (i+1)))
    (he:f n=some (.inr (.inl ()))):rF f 0=some (B0 (fun k=> .inr (g k)) (.inl ()) ((List.range n).findIdx? p)):=by
  refine Q3 (l:=List.range n) p g (fun i h=> ?_) (by rw[List.length_range];exact he);have hi:i<n:=by rw[List.length_range] at h;exact h
  rw[List.getElem_range];exact hf i hi
theorem aG9 (a b:oT):(!Op.bytesLess a b)=(Op.bytesLess b a||decide (b=a)):=by
  rw[bytesLess_eq,bytesLess_eq,aR7];simp only[aRj,aRO,aRV,aQY];constructor
  · intro h
    exact(List.le_iff_lt_or_eq.1 (List.not_lt.1 h))
  · rintro(h|h)
    .exact List.lt_asymm h
    .rw[h];exact List.lt_irrefl _
theorem Q7 {n:Nat}{p:Nat→Bool}{b:Bool}:sR (some (B0 (fun _=>Sum.inr false) (Sum.inl ()) ((List.range n).findIdx? p))) (fun _:Unit=>some b)=some (!((List.range n).any p)&&b):=by
  rw[LV];cases(List.range n).any p<;>rfl
def AD (l:oU):Bool:=decide ((l.length:Int)≤20)&& !(l.any fun x=> !wY x)
theorem aMV {α:Type}{l:List α}{p:α→Bool}{b:Bool}:sR (some (B0 (fun _=>Sum.inr false) (Sum.inl ()) (l.findIdx? p))) (fun _:Unit=>some b)=some (!(l.any p)&&b):=by
  rw[LV];cases l.any p<;>rfl
theorem aHa (l:oU) (hl:s5 l) (hx: ∀x∈l,s5 x):yP l=some (AD l):=by
  unfold s5 at hl
  have h:=Q3 (f:=PO l) (l:=l) (fun x=> !wY x) (fun _=>false) (fun i h=>by
    obtain⟨h1,h2⟩:=Q4 l[i] (hx _ (aRH h));unfold PO;rw[aQI (vI h),aQI (tH h),J8 (t:= .str) h,h1,aQL,h2,aQI (vC oW)]) (by
    unfold PO;rw[aQO (vP _)])
  unfold yP;rw[h,aMV,AD,Bool.and_comm]
theorem aMW (l:oU) (hl:s5 l) (hx: ∀x∈l,s5 x):zF l=some (l.any fun x=> !wY x):=by
  unfold s5 at hl
  have h:=Q3 (f:=PM l) (l:=l) (fun x=> !wY x) (fun k=>(k:Int)) (fun i h=>by
    have h1:=Q5 l[i] (hx _ (aRH h));unfold PM PJ;rw[aQI (vI h),aQI (tH h),J8 (t:= .str) h,h1,aQL,aQL,aQI (vC oW)];rfl) (by
    unfold PM;rw[aQO (vP _)])
  unfold zF LI;rw[h,aG0];show some (decide _)=_;rw[aMD]
theorem aHb (l:oU) (hl:s5 l) (hx: ∀x∈l,s5 x):IU l=some ()∧((decide ((l.length:Int)≤20))&&(!(val (zF l))))=AD l:=by
  unfold IU;rw[aMW l hl hx];exact⟨aQI vQ,rfl⟩
def a8v (l:oU) (i:Nat):Bool:=(!xQ (l.getD i []))||(decide (0<i)&& !Op.bytesLess (l.getD (i-1) []) (l.getD i []))
def LY (l:oU):Bool:= !((List.range l.length).any (a8v l))&&decide ((l.length:Int)≤20)
theorem LZ {l:oU}{i:Nat}:qB .str l (i:Int)=l.getD i []:=by unfold qB;rw[aRv];rfl
theorem aHc {l:oU}{i:Nat}:qB .str l ((i:Int)-1)=l.getD (i-1) []:=by
  unfold qB;rw[show ((i:Int)-1).toNat=i-1 by omega];rfl
theorem UT {i:Nat}:decide ((0:Int)<(i:Int))=decide (0<i):=by simp
theorem aMX (l:oU) (hl:s5 l):E8 l=some (LY l):=by
  unfold s5 at hl
  have h:=Q6 (f:=ON l) (n:=l.length) (a8v l) (fun _=>false) (fun i h=>by
    unfold ON;rw[aQI (vI h),aQI (tH h),LZ,aHc,aGZ,aQL,UT]
    have h0: ∀q:Bool,((q==false)&&(decide (0<i)==true))=true→0<i:=fun q hq=>by
      simp only[aQU,beq_iff_eq,aQY] at hq;exact hq.2
    rw[aQI (fun hq=>by have:=h0 _ hq;unfold pO;omega),aQI (fun hq=>by have:=h0 _ hq;omega),aQI (vC oW)];rfl) (by
    unfold ON;rw[aQO (vP _)])
  unfold E8;rw[h,Q7];rfl
theorem aMY (l:oU) (hl:s5 l) (hx: ∀x∈l,s5 x):BX l=some (LY l):=by
  unfold s5 at hl
  have h:=Q6 (f:=PG l) (n:=l.length) (a8v l) (fun _=>false) (fun i h=>by
    unfold PG;have hf:s5 (l.getD i []):=by rw[aQ9,aQM h];exact hx _ (aRH h)
    rw[aQI (vI h),aQI (tH h),LZ,aHc,aGX _ hf,aQL,UT]
    have h0: ∀q:Bool,((q==false)&&(decide (0<i)==true))=true→0<i:=fun q hq=>by
      simp only[aQU,beq_iff_eq,aQY] at hq;exact hq.2
    rw[aQI (fun _=>tH h),aQI (fun hq=>by have:=h0 _ hq;unfold pO;omega),aQI (fun hq=>by have:=h0 _ hq;omega),aQI (vC oW),←aG9];rfl) (by
    unfold PG;rw[aQO (vP _)])
  unfold BX;rw[h,Q7];rfl
abbrev fD:w4:=([],([],()))
def UU (l:List w4) (i:Nat):Bool:=((!xQ (l.getD i fD).1)||(!wY (l.getD i fD).2.1))||(decide (0<i)&& !Op.bytesLess (l.getD (i-1) fD).1 (l.getD i fD).1)
def zI (l:List w4):Bool:= !((List.range l.length).any (UU l))&&decide ((l.length:Int)≤20)
theorem UV {l:List w4}{i:Nat}:qB (.pair .str (.pair .str .unit)) l (i:Int)=l.getD i fD:=by unfold qB;rw[aRv];rfl
theorem aHd {l:List w4}{i:Nat}:qB (.pair .str (.pair .str .unit)) l ((i:Int)-1)=l.getD (i-1) fD:=by
  unfold qB;rw[show ((i:Int)-1).toNat=i-1 by omega];rfl
def Q8 (x:w4):Prop:=s5 x.1∧s5 x.2.1
theorem C8 {α:Type}{l:List α}{i:Nat}{d:α}(h:i<l.length):l.getD i d∈l:=by
  rw[aQ9,aQM h];exact aRH h
theorem UW {i:Nat}{q:Bool}(hq:((q==false)&&(decide (0<i)==true))=true):0<i:=by
  simp only[aQU,beq_iff_eq,aQY] at hq;exact hq.2
theorem aHe (l:List w4) (hl:s5 l) (hx: ∀x∈l,Q8 x):D3 l=some (zI l):=by
  unfold s5 at hl
  have h:=Q6 (f:=PH l) (n:=l.length) (UU l) (fun _=>false) (fun i h=>by
    unfold PH;have hf:=hx _ (C8 (d:=fD) h);rw[aQI (vI h),aQI (tH h),UV,aHd,aGZ,aQL,UT,Q5 _ hf.2];rw[aQI vQ,aQI (fun hq=>by have:=UW hq;unfold pO;omega),aQI (fun hq=>by have:=UW hq;omega),aQI (vC oW)];rfl) (by
    unfold PH;rw[aQO (vP _)])
  unfold D3;rw[h,Q7];rfl
theorem aHf (l:List w4) (hl:s5 l) (hx: ∀x∈l,Q8 x):AX l=some (zI l):=by
  unfold s5 at hl
  have h:=Q6 (f:=PP l) (n:=l.length) (UU l) (fun _=>false) (fun i h=>by
    unfold PP;have hf:=hx _ (C8 (d:=fD) h);obtain⟨h1,h2⟩:=Q4 _ hf.2;rw[aQI (vI h),aQI (tH h),UV,aHd,aGX _ hf.1,aQL,UT,h1,h2];rw[aQI (fun _=>tH h),aQI vQ,aQI (fun _=>tH h),aQI (fun hq=>by have:=UW hq;unfold pO;omega),aQI (fun hq=>by have:=UW hq;omega),aQI (vC oW),←aG9];rfl) (by
    unfold PP;rw[aQO (vP _)])
  unfold AX;rw[h,Q7];rfl
abbrev vD:=sH
structure a8w (x:vD):Prop where
  id:s5 x.1
  src:s5 x.2.1
  tgt:s5 x.2.2.1
  com:s5 x.2.2.2.1∧∀y∈x.2.2.2.1,s5 y
  flg:s5 x.2.2.2.2.1∧∀y∈x.2.2.2.2.1,s5 y
  fld:s5 x.2.2.2.2.2.2.1∧∀y∈x.2.2.2.2.2.2.1,Q8 y
def DA (x:vD):Bool:=
  (((((((!decide (x.1=[]))&&decide ((x.1.length:Int)≤200))&&wY x.1)&&wY x.2.1)&&wY x.2.2.1)&&AD x.2.2.2.1)&&LY x.2.2.2.2.1)&&(decide (0≤x.2.2.2.2.2.1)&&decide (x.2.2.2.2.2.1≤4))&&zI x.2.2.2.2.2.2.1
theorem aMZ (x:vD) (h:a8w x):GG x=some (DA x):=by
  obtain⟨t1,t2⟩:=aHb _ h.com.1 h.com.2;have e1:=aMX _ h.flg.1;have e2:=aHe _ h.fld.1 h.fld.2;unfold GG;rw[Q5 _ h.id,Q5 _ h.src,Q5 _ h.tgt,t1,t2,e1,e2];have k: ∀s:oT,(decide ((s.length:Int)≤4000)&&Lib.validD s)=wY s:=fun s=>rfl;rw[aQI vQ,aQL,aQI vQ,aQI vQ,aQI vQ,aQI vQ,k,k,k];unfold DA;show (if _ then some false else some _)=_;have a1:decide ((200:Int)<(x.1.length:Int))= !decide ((x.1.length:Int)≤200):=by rw[←decide_not];exact aRW.2 oW
  have a2:decide (x.2.2.2.2.2.1<(0:Int))= !decide ((0:Int)≤x.2.2.2.2.2.1):=by rw[←decide_not];exact aRW.2 oW
  have a3:decide ((4:Int)<x.2.2.2.2.2.1)= !decide (x.2.2.2.2.2.1≤(4:Int)):=by rw[←decide_not];exact aRW.2 oW
  rw[a1,a2,a3];show (if _ then some false else some (((((wY x.2.1&&wY x.2.2.1)&&AD x.2.2.2.1)&&LY x.2.2.2.2.1))&&zI x.2.2.2.2.2.2.1))=_;generalize decide (x.1=[])=b1;generalize decide ((x.1.length:Int)≤200)=b2;generalize wY x.1=b3;generalize wY x.2.1=b4;generalize wY x.2.2.1=b5;generalize AD x.2.2.2.1=b6;generalize LY x.2.2.2.2.1=b7;generalize decide ((0:Int)≤x.2.2.2.2.2.1)=b8;generalize decide (x.2.2.2.2.2.1≤(4:Int))=b9;generalize zI x.2.2.2.2.2.2.1=b10;cases b1<;>cases b2<;>cases b3<;>cases b8<;>cases b9<;>simp
theorem aM0 (x:vD) (h:a8w x):LJ x=some ()∧((((((((((!decide (x.1=([]:oT)))&&(decide ((List.length x.1:Int)≤(200:Int))))&&((decide ((List.length x.1:Int)≤(4000:Int)))&&(val (tU x.1))))&&((decide ((List.length x.2.1:Int)≤(4000:Int)))&&(val (tU x.2.1))))&&((decide ((List.length x.2.2.1:Int)≤(4000:Int)))&&(val (tU x.2.2.1))))&&(val (yP x.2.2.2.1)))&&(val (BX x.2.2.2.2.1)))&&(decide ((0:Int)≤x.2.2.2.2.2.1)))&&(decide (x.2.2.2.2.2.1≤(4:Int))))&&(val (AX x.2.2.2.2.2.2.1)))=DA x:=by
  obtain⟨u1,v1⟩:=Q4 _ h.id;obtain⟨u2,v2⟩:=Q4 _ h.src;obtain⟨u3,v3⟩:=Q4 _ h.tgt;have e0:=aHa _ h.com.1 h.com.2;have e1:=aMY _ h.flg.1 h.flg.2;have e2:=aHf _ h.fld.1 h.fld.2;unfold LJ;rw[u1,u2,u3,v1,v2,v3,e0,e1,e2];refine⟨?_,?_⟩
  .rw[aQI vQ,aQI vQ,aQI vQ,aQI vQ,aQI vQ,aQI vQ]
  · unfold DA
    show (((((((((!_&&_)&&_)&&_)&&_)&&AD x.2.2.2.1)&&LY x.2.2.2.2.1)&&_)&&_)&&zI x.2.2.2.2.2.2.1)=_;simp only[Bool.and_assoc]
theorem aHg (a b:oT):tY (a++b)=tY a++tY b:=by simp [tY]
theorem a8x (a:oT):sN (tY a)=a:=by
  unfold sN tY;rw[List.map_map]
  conv=>rhs;rw[←List.map_id a]
  congr 1;funext b;simp
theorem aM1 {p:Prop}{α:Type}{v:α}:p→(some v).isSome=true:=fun _=>rfl
abbrev C4:=oT×(oU×(List w4×(List sH×Unit)))
theorem aHh {v:Ty}(a b:oT) (y:v.den): ∀l:List (oT×v.den),rM .str v (tO .str v a y l) b=if b=a then y else rM .str v l b
  | []=>by
    show (if decide (b=a)=true then y else v.zero)=if b=a then y else v.zero;by_cases h:b=a<;>simp [h]
  | (x,z)::r=>by
    have ih:=aHh a b y r;show rM .str v (if decide (a=x)=true then(a,y)::r else(x,z)::tO .str v a y r) b=if b=a then y else(if decide (b=x)=true then z else rM .str v r b);by_cases h:a=x
    · rw[aQI (aRD h)]
      show (if decide (b=a)=true then y else rM .str v r b)=_;by_cases hb:b=a
      .rw[aQI (aRD hb),aQI hb]
      .rw[aQO (by simpa using hb),aQO hb,aQO (by rw[←h];simpa using hb)]
    · rw[aQO (by simpa using h)]
      show (if decide (b=x)=true then z else rM .str v (tO .str v a y r) b)=_;rw[ih];by_cases hb:b=a
      .rw[aQI hb,aQI hb,aQO (by rw[hb];simpa using h)]
      .rw[aQO hb,aQO hb]
theorem aHi: ∀(x y:oT),Op.bytesLess x y=decide (x<y)
  |[],[]=>by simp [Op.bytesLess]
  |_::_,[]=>by simp [Op.bytesLess]
  |[],_::_=>by simp [Op.bytesLess]
  | a::x,b::y=>by
    rw[Op.bytesLess,aHi x y];simp only[List.cons_lt_cons_iff];by_cases h1:a<b<;>by_cases h2:a=b<;>by_cases h3:x<y<;>simp [h1,h2,h3]
theorem aM2 {σ ρ:Type}{f:σ→Option (σ⊕ρ)}{x y:σ}(h:f x=some (.inl y)):rF f x=rF f y:=by
  rw[ET,h];rfl
theorem aM3 {σ ρ:Type}{f:σ→Option (σ⊕ρ)}{x:σ}{r:ρ}(h:f x=some (.inr r)):rF f x=some r:=by
  rw[ET,h];rfl
def a8y (es:List sH) (x:oT):Int×Bool:=B0 (fun k=>((k:Int),true)) ((0:Int),false) (es.findIdx? fun y=>decide (y.1=x))
theorem aM4 (c:C4) (x:oT) (hl:c.2.2.2.1.length≤5000):FX c x=some (a8y c.2.2.2.1 x):=by
  have h:=Q3 (f:=OJ c x) (l:=c.2.2.2.1) (fun y=>decide (y.1=x)) (fun k=>((k:Int),true)) (fun i h=>by
    unfold OJ;rw[aQI (vI h),aQI (tH h),J8 (t:=rN) h,aQI (vC oW)]) (by
    unfold OJ;rw[aQO (vP _)])
  unfold FX;rw[h,aG0];rfl
def a8z (ids:p4) (es:List sH):Prop:= ∀x,rM .str .bool ids x=es.any fun y=>decide (y.1=x)
theorem aM5 {ids:p4}{es:List sH}(h:a8z ids es) (e:sH) (x:oT) (he:e.1=x):a8z (tO .str .bool x true ids) (es++[e]):=by
  intro y;rw[aHh,List.any_append,←h y];by_cases hy:y=x
  .rw[aQI hy];simp [he,hy]
  · rw[aQO hy]
    have:decide (e.1=y)=false:=by rw[he];simpa using fun hh=>hy hh.symm
    simp [this]
theorem aHj {σ ρ:Type}{f:σ→Option (σ⊕ρ)}{n:Nat}(st:Nat→σ) {r:ρ}(h: ∀i,i<n→f (st i)=some (.inl (st (i+1)))) (he:f (st n)=some (.inr r)): ∀(k i:Nat),i+k=n→rF f (st i)=some r
  | 0,i,hi=>by
    have:i=n:=by omega
    subst this;exact aM3 he
  | k+1,i,hi=>by
    rw[aM2 (h i oW)];exact aHj st h he k (i+1) oW
theorem aM6 (d:tF) (h:d.2.1.length≤5000):EI d d=some ([],0):=by
  have hn:((([d.1]:oU)++d.2.1)++([d.2.2.1]:oU)).length=d.2.1.length+2:=by simp
  have hA:E5 d=some ():=by
    unfold E5;rw[aQI oZ,aQI oZ]
  have hloop:=aHj (f:=P7 d d) (n:=d.2.1.length+2) (fun i=>(([]:List (Int×oT×Unit)),(i:Int))) (r:=[])
    (fun i hi=>by
      unfold P7;dsimp only;rw[hn,aQI (vI hi),aQI (tH hi),aQI (tH hi),aQO oY,aQI (vC oW)];rfl)
    (by
      unfold P7;dsimp only;rw[hn,aQO (vP _)]) (d.2.1.length+2) 0 oW
  unfold EI;rw[aQO oY,hA,aQL,aQL,show (([]:List (Int×oT×Unit)),(0:Int))=(([]:List (Int×oT×Unit)),((0:Nat):Int)) from rfl,hloop];rfl
theorem aM7 (d:tF) (h:d.2.1.length≤5000):GB d d=some true:=by
  unfold GB;rw[aM6 d h];rfl
abbrev eD:vD:=([],([],([],([],([],(0,([],())))))))
def DB (es:List vD) (i:Nat):Bool:=((es.take i).any fun y=>decide (y.1=(es.getD i eD).1))|| !DA (es.getD i eD)
def wM (c:C4):Bool:=((B1 c.1&&AD c.2.1)&&zI c.2.2.1)&&(decide ((c.2.2.2.1.length:Int)≤1000)&& !((List.range c.2.2.2.1.length).any (DB c.2.2.2.1)))
theorem UX {l:List vD}{i:Nat}:qB rN l (i:Int)=l.getD i eD:=by unfold qB;rw[aRv];rfl
structure Q9 (c:C4):Prop where
  tag:s5 c.1
  com:s5 c.2.1∧∀y∈c.2.1,s5 y
  fld:s5 c.2.2.1∧∀y∈c.2.2.1,Q8 y
  len:c.2.2.2.1.length≤5000
  ent: ∀x∈c.2.2.2.1,a8w x
theorem aM8 {α:Type}{l:List α}{i:Nat}{d:α}(h:i<l.length):l.take (i+1)=l.take i++[l.getD i d]:=by
  rw[List.take_add_one,aQM h,aQ9,aQM h];rfl
theorem aHk {c:C4}(hc:Q9 c): ∀(n i:Nat) (m:p4),i+n=c.2.2.2.1.length→a8z m (c.2.2.2.1.take i)→
    rF (IW c) ((i:Int),m)=some (if (List.range' i n).any (DB c.2.2.2.1)=true then .inr false else .inl ())
  | 0,i,m,hi,_=>by
    have:i=c.2.2.2.1.length:=by omega
    subst this;refine xM ?_;unfold IW;dsimp only;rw[aQO (vP _)];rfl
  | n+1,i,m,hi,hm=>by
    have h:i<c.2.2.2.1.length:=by omega
    have he:=hc.ent _ (C8 (d:=eD) h);have hl:=hc.len
    have hst:IW c ((i:Int),m)=if DB c.2.2.2.1 i=true then some (.inr (.inr false)) else some (.inl (((i+1:Nat):Int),tO .str .bool (c.2.2.2.1.getD i eD).1 true m)):=by
      unfold IW;dsimp only;rw[aQI (vI h),aQI (tH h),UX,hm,aMZ _ he,aQI vQ,aQI (vC oW)];rfl
    rw[aSq,List.any_cons];by_cases hb:DB c.2.2.2.1 i=true
    · rw[aQI hb] at hst
      rw[hb,Bool.true_or,aQI rfl];exact xM hst
    · rw[aQO hb] at hst
      rw[CM hst,aHk hc n (i+1) _ oW (by rw[aM8 (d:=eD) h];exact aM5 hm _ _ rfl)];simp only[aSc] at hb;rw[hb,Bool.false_or]
theorem aM9 {c:C4}(hc:Q9 c):IX c=some (wM c):=by
  obtain⟨t1,t2⟩:=aHb _ hc.com.1 hc.com.2;have e2:=aHe _ hc.fld.1 hc.fld.2;have hlp:=aHk hc c.2.2.2.1.length 0 [] oW (fun x=>by rfl);rw[←List.range_eq_range'] at hlp;have hlp':rF (IW c) ((0:Int),[])=_:=hlp;have a1:decide ((1000:Int)<(c.2.2.2.1.length:Int))= !decide ((c.2.2.2.1.length:Int)≤1000):=by rw[←decide_not];exact aRW.2 oW
  unfold IX;rw[aMC,aQL,t1,t2,e2,aQI vQ,aQI vQ,hlp',a1];unfold wM;show (if (((!B1 c.1)||(!AD c.2.1))||(!zI c.2.2.1)||_)=true then some false else _)=_
  generalize B1 c.1=b1;generalize AD c.2.1=b2;generalize zI c.2.2.1=b3;generalize decide ((c.2.2.2.1.length:Int)≤1000)=b4;generalize (List.range c.2.2.2.1.length).any (DB c.2.2.2.1)=b5;cases b1<;>cases b2<;>cases b3<;>cases b4<;>cases b5<;>rfl
theorem aNa {es:List vD}{i:Nat}(h:i<es.length):decide ((a8y es (es.getD i eD).1).1=(i:Int))= !((es.take i).any fun y=>decide (y.1=(es.getD i eD).1)):=by
  have hx:es.getD i eD=es[i]:=by rw[aQ9,aQM h];rfl
  unfold a8y;cases hf:es.findIdx? fun y=>decide (y.1=(es.getD i eD).1) with
  | none=>
    have:=List.findIdx?_eq_none_iff.1 hf es[i] (aRH h);rw[hx] at this;simp at this
  | some k=>
    obtain⟨hk,h1,h2⟩:=List.findIdx?_eq_some_iff_getElem.1 hf;simp only[aQY,aRO] at h1 h2;show decide ((k:Int)=(i:Int))=_;rw[aR7,aQY,aRj,aRS]
    have hki:k≤i:=by
      rcases aRw i k with hlt|hge
      .exact absurd (aQ0 Prod.fst hx.symm) (h2 i hlt)
      .exact hge
    constructor
    · intro he x hxm
      obtain⟨j,hj,rfl⟩:=aR9 hxm;rw[aRd] at hj;rw[List.getElem_take];have:=h2 j oW;simpa using this
    · intro hall
      rcases aRw k i with hlt|hge
      · have:=hall es[k] (by rw[List.mem_take_iff_getElem];exact⟨k,oW,rfl⟩)
        simp [h1] at this
      .omega
theorem aNb (c:C4) (hc:Q9 c):IV c=some ((B1 c.1&&AD c.2.1)&&zI c.2.2.1):=by
  unfold IV;rw[aMA _ hc.tag,aQL,aHa _ hc.com.1 hc.com.2,aHf _ hc.fld.1 hc.fld.2,aQI vQ,aQI vQ];rfl
theorem aNc {c:C4}(hc:Q9 c):IZ c=some (wM c):=by
  have hl:=hc.len
  have h:=Q6 (f:=PU c) (n:=c.2.2.2.1.length) (DB c.2.2.2.1) (fun _=>false) (fun i h=>by
    have he:=hc.ent _ (C8 (d:=eD) h);obtain⟨u,v⟩:=aM0 _ he;unfold PU;rw[aQI (vI h),aQI (tH h),UX,aM4 c _ hl,aQL,aQI (fun _=>tH h),u,aQI vQ,v,aNa h,aQI (vC oW),Bool.not_not];rfl) (by
    unfold PU;rw[aQO (vP _)])
  have a1:decide ((1000:Int)<(c.2.2.2.1.length:Int))= !decide ((c.2.2.2.1.length:Int)≤1000):=by rw[←decide_not];exact aRW.2 oW
  unfold IZ;rw[aNb c hc,aQL,h,Q7,a1];unfold wM;generalize ((B1 c.1&&AD c.2.1)&&zI c.2.2.1)=b1;generalize decide ((c.2.2.2.1.length:Int)≤1000)=b2;generalize (List.range c.2.2.2.1.length).any (DB c.2.2.2.1)=b3;cases b1<;>cases b2<;>cases b3<;>rfl
def tX:Nat:=140737488351232
theorem aHl {l:oU}(hl:l.length≤tX) (hx: ∀x∈l,x.length≤tX): ∀(m i:Nat) (n:Int),i+m=l.length→0≤n→n≤1125899906842624→
    ∃r,rF (FZ l) (n,(i:Int))=some r∧n≤r∧r≤1125899906842624∧(r<1099511627776→∀x∈l.drop i,n+(x.length:Int)≤r)
  | 0,i,n,hi,h0,h1=>by
    have:i=l.length:=by omega
    subst this;refine⟨n,xM ?_,aR0 _,h1,fun _ x hx=>by rw[aRy] at hx;cases hx⟩;unfold FZ;dsimp only;rw[aQO oY]
  | m+1,i,n,hi,h0,h1=>by
    have h:i<l.length:=by omega
    by_cases hn:n<1099511627776
    · have hxi:=hx _ (aRH h)
      unfold tX at hxi hl
      have hst:FZ l (n,(i:Int))=some (.inl (n+(l[i].length:Int),((i+1:Nat):Int))):=by
        unfold FZ;dsimp only;rw[aQI (by simp [h,hn]),aQI (tH h),J8 (t:= .str) h,aQI (by unfold pO;omega),aQI (by unfold pO;omega)];rfl
      obtain⟨r,e,e1,e2,e3⟩:=aHl (by unfold tX;exact hl) hx m (i+1) (n+(l[i].length:Int)) oW oW oW;refine⟨r,by rw[CM hst,e],oW,e2,fun hr x hxm=> ?_⟩;rw[aRn h] at hxm;rcases aQV.1 hxm with rfl|hxm
      .omega
      · have:=e3 hr x hxm
        omega
    · refine⟨n,xM ?_,aR0 _,h1,fun hr=>by omega⟩
      unfold FZ;dsimp only;rw[aQO (by simp [hn])]
theorem aHm {l:List w4}(hl:l.length≤tX) (hx: ∀x∈l,x.1.length≤tX∧x.2.1.length≤tX): ∀(m i:Nat) (n:Int),i+m=l.length→0≤n→n≤1125899906842624→
    ∃r,rF (G0 l) (n,(i:Int))=some r∧n≤r∧r≤1125899906842624∧(r<1099511627776→∀x∈l.drop i,n+(x.1.length:Int)+(x.2.1.length:Int)≤r)
  | 0,i,n,hi,h0,h1=>by
    have:i=l.length:=by omega
    subst this;refine⟨n,xM ?_,aR0 _,h1,fun _ x hx=>by rw[aRy] at hx;cases hx⟩;unfold G0;dsimp only;rw[aQO oY]
  | m+1,i,n,hi,h0,h1=>by
    have h:i<l.length:=by omega
    by_cases hn:n<1099511627776
    · have hxi:=hx _ (aRH h)
      unfold tX at hxi hl
      have hst:G0 l (n,(i:Int))=some (.inl (n+(l[i].1.length:Int)+(l[i].2.1.length:Int),((i+1:Nat):Int))):=by
        unfold G0;dsimp only;rw[aQI (by simp [h,hn]),aQI (tH h),J8 (t:= .pair .str (.pair .str .unit)) h,aQI (by unfold pO;omega),aQI (tH h),aQI (by unfold pO;omega),aQI (by unfold pO;omega)];rfl
      obtain⟨r,e,e1,e2,e3⟩:=aHm (by unfold tX;exact hl) hx m (i+1) (n+(l[i].1.length:Int)+(l[i].2.1.length:Int)) oW oW oW;refine⟨r,by rw[CM hst,e],oW,e2,fun hr x hxm=> ?_⟩;rw[aRn h] at hxm;rcases aQV.1 hxm with rfl|hxm
      .omega
      · have:=e3 hr x hxm
        omega
    · refine⟨n,xM ?_,aR0 _,h1,fun hr=>by omega⟩
      unfold G0;dsimp only;rw[aQO (by simp [hn])]
def B2 (l:oU):Prop:=l.length≤6000∧∀x∈l,x.length≤6000
def GS (l:List w4):Prop:=l.length≤6000∧∀x∈l,x.1.length≤6000∧x.2.1.length≤6000
theorem a8A {l:oU}{f:List w4}(hl:l.length≤tX) (hx: ∀x∈l,x.length≤tX) (hf:f.length≤tX) (hy: ∀x∈f,x.1.length≤tX∧x.2.1.length≤tX):
    ∃r,x6 l f=some r∧0≤r∧r≤1125899906842624∧(r≤6000→B2 l∧GS f):=by
  have hl':=hl;have hf':=hf;unfold tX at hl' hf';obtain⟨r,e,e1,e2,e3⟩:=aHl hl hx l.length 0 ((l.length:Int)+(f.length:Int)) oW oW oW;obtain⟨r',k,k1,k2,k3⟩:=aHm hf hy f.length 0 r oW oW e2;have e':rF (FZ l) ((l.length:Int)+(f.length:Int),(0:Int))=some r:=e;have k':rF (G0 f) (r,(0:Int))=some r':=k;refine⟨r',?_,oW,k2,fun hr=>⟨⟨oW,fun x hxm=> ?_⟩,⟨oW,fun x hxm=> ?_⟩⟩⟩
  · unfold x6
    rw[aQI (by unfold pO;omega),e'];unfold sG;rw[aQL,k',aQL]
  · have:=e3 oW x (by rw[aSd];exact hxm)
    omega
  · have:=k3 oW x (by rw[aSd];exact hxm)
    omega
structure a8B (x:vD):Prop where
  id:x.1.length≤tX
  src:x.2.1.length≤tX
  tgt:x.2.2.1.length≤tX
  com:x.2.2.2.1.length≤tX∧∀y∈x.2.2.2.1,y.length≤tX
  flg:x.2.2.2.2.1.length≤tX∧∀y∈x.2.2.2.2.1,y.length≤tX
  fld:x.2.2.2.2.2.2.1.length≤tX∧∀y∈x.2.2.2.2.2.2.1,y.1.length≤tX∧y.2.1.length≤tX
structure DC (x:vD):Prop where
  id:x.1.length≤6000
  src:x.2.1.length≤6000
  tgt:x.2.2.1.length≤6000
  com:B2 x.2.2.2.1
  flg:B2 x.2.2.2.2.1
  fld:GS x.2.2.2.2.2.2.1
theorem aNd (x:vD) (h:a8B x): ∃b:Bool,L8 x=some ()∧
    ((decide ((((List.length x.1:Int)+(List.length x.2.1:Int))+(List.length x.2.2.1:Int))≤(6000:Int)))&&(decide (((val (x6 x.2.2.2.1 x.2.2.2.2.2.2.1))+(val (x6 x.2.2.2.2.1 ([]:List qK))))≤(6000:Int))))=b∧(b=true→DC x):=by
  obtain⟨r,e,e1,e2,e3⟩:=a8A h.com.1 h.com.2 h.fld.1 h.fld.2;obtain⟨r',k,k1,k2,k3⟩:=a8A (f:=[]) h.flg.1 h.flg.2 (by unfold tX;simp) (fun x hx=>by cases hx);have a1:=h.id;have a2:=h.src;have a3:=h.tgt;unfold tX at a1 a2 a3;refine⟨_,?_,rfl,fun hb=> ?_⟩
  · unfold L8
    rw[e,k,aQI (by unfold pO;omega),aQI (by unfold pO;omega),aQI vQ,aQI vQ,aQI (fun _=>by show pO (r+r');unfold pO;omega)]
  · rw[e,k] at hb
    simp only[aQU,aQY] at hb;obtain⟨h1,h2⟩:=hb;have h2:r+r'≤6000:=h2;obtain⟨p,q⟩:=e3 oW;obtain⟨p',_⟩:=k3 oW;exact⟨oW,oW,oW,p,p',q⟩
structure UY (c:C4):Prop where
  tag:c.1.length≤tX
  com:c.2.1.length≤tX∧∀y∈c.2.1,y.length≤tX
  fld:c.2.2.1.length≤tX∧∀y∈c.2.2.1,y.1.length≤tX∧y.2.1.length≤tX
  ent: ∀x∈c.2.2.2.1,a8B x
structure DD (c:C4):Prop where
  tag:c.1.length≤100
  com:B2 c.2.1
  fld:GS c.2.2.1
  len:c.2.2.2.1.length≤1000
  ent: ∀x∈c.2.2.2.1,DC x
theorem aHn {c:C4}(hc:UY c) (hl:c.2.2.2.1.length≤12): ∀(n i:Nat),i+n=c.2.2.2.1.length→
    ∃r,rF (IP c) (i:Int)=some r∧(r= .inr false∨(r= .inl ()∧∀x∈c.2.2.2.1.drop i,DC x))
  | 0,i,hi=>by
    have:i=c.2.2.2.1.length:=by omega
    subst this;refine⟨.inl (),xM ?_,.inr ⟨rfl,fun x hx=>by rw[aRy] at hx;cases hx⟩⟩;unfold IP;rw[aQO (vP _)]
  | n+1,i,hi=>by
    have h:i<c.2.2.2.1.length:=by omega
    obtain⟨b,e1,e2,e3⟩:=aNd _ (hc.ent _ (aRH h))
    have hst:IP c (i:Int)=if (!b)=true then some (.inr (.inr false)) else some (.inl ((i+1:Nat):Int)):=by
      unfold IP;rw[aQI (vI h),aQI (tH h),J8 (t:=rN) h,e1,aQL,e2,aQI (vC oW)];rfl
    cases b with
    |false=>exact⟨_,xM hst,.inl rfl⟩
    | true=>
      obtain⟨r,k,k2⟩:=aHn hc hl n (i+1) oW;refine⟨r,by rw[CM hst,k],k2.imp id fun⟨a,b⟩=>⟨a,fun x hx=> ?_⟩⟩;rw[aRn h] at hx;rcases aQV.1 hx with rfl|hx
      .exact e3 rfl
      .exact b x hx
theorem aNe {c:C4}(hc:UY c): ∃b,IQ c=some b∧(b=true→DD c):=by
  obtain⟨r,e,e1,e2,e3⟩:=a8A hc.com.1 hc.com.2 hc.fld.1 hc.fld.2;unfold IQ;rw[e,aQI vQ];by_cases hb:(((decide ((100:Int)<(List.length c.1:Int)))||(decide ((6000:Int)<(val (some r)))))||(decide ((12:Int)<(List.length c.2.2.2.1:Int))))=true
  · rw[aQI hb]
    exact⟨false,rfl,fun h=>by cases h⟩
  · rw[aQO hb]
    simp only[aRV,aQY] at hb;have hr: ¬(6000:Int)<r:=fun h=>hb (.inl (.inr h));obtain⟨p,q⟩:=e3 oW;obtain⟨r',k,k2⟩:=aHn hc oW c.2.2.2.1.length 0 oW;have k':rF (IP c) (0:Int)=some r':=k;rw[k'];rcases k2 with rfl|⟨rfl,k3⟩
    .exact⟨false,rfl,fun h=>by cases h⟩
    .exact⟨true,rfl,fun _=>⟨oW,p,q,oW,by rw[aSd] at k3;exact k3⟩⟩
theorem aHo {σ ρ α:Type}{f:σ→Option (σ⊕ρ)}(st:Int→List α→σ) (out:List α→ρ) {n M B:Nat}(g:Nat→List α) (hg: ∀i,i<n→(g i).length≤B)
    (hf: ∀(i:Nat) s,i<n→s.length+B≤M→f (st i s)=some (.inl (st ((i:Int)+1) (s++g i)))) (he: ∀s,f (st n s)=some (.inr (out s))):
    ∀(k i:Nat) (s:List α),i+k=n→s.length+k*B≤M→rF f (st i s)=some (out (s++(List.range' i k).flatMap g))
  | 0,i,s,hi,_=>by
    have:i=n:=by omega
    subst this;rw[xM (he s)];simp
  | k+1,i,s,hi,hM=>by
    rw[aRB] at hM;have hgi:=hg i oW;rw[CM (hf i s oW oW),show ((i:Int)+1)=((i+1:Nat):Int) by omega,aHo st out g hg hf he k (i+1) (s++g i) oW (by rw[aQG];omega),aSq,aRM,aQR]
theorem DE {σ ρ α:Type}{f:σ→Option (σ⊕ρ)}(st:Int→List α→σ) (out:List α→ρ) {n M B:Nat}(g:Nat→List α) (hg: ∀i,i<n→(g i).length≤B) (s:List α) (hM:s.length+n*B≤M)
    (hf: ∀(i:Nat) s,i<n→s.length+B≤M→f (st i s)=some (.inl (st ((i:Int)+1) (s++g i)))) (he: ∀s,f (st n s)=some (.inr (out s))):
    rF f (st 0 s)=some (out (s++(List.range' 0 n).flatMap g)):=aHo st out g hg hf he n 0 s oW hM
theorem EV {α β:Type}{l:List α}{d:α}(h:α→List β):(List.range' 0 l.length).flatMap (fun i=>h (l.getD i d))=l.flatMap h:=by
  have e:(List.range' 0 l.length).map (fun i=>l.getD i d)=l:=by
    apply List.ext_getElem
    .simp
    · intro i h1 h2
      simp [aQ9,h2]
  conv=>rhs;rw[←e]
  rw[List.flatMap_map]
theorem QA {α β:Type}{l:List α}{h:α→List β}{B:Nat}(hb: ∀x∈l,(h x).length≤B):(l.flatMap h).length≤l.length*B:=by
  induction l with
  |nil=>simp
  | cons x l ih=>
    rw[aRM,aQG,aQJ,aRB];have h1:=hb x aQ3;have h2:=ih fun y hy=>hb y (aQZ _ hy);omega
theorem aHp {s:oT}{i:Nat}:rP s (i:Int)=((s.getD i 0).toNat:Int):=by unfold rP;rw[aRv]
theorem aHq {l:pA}{g:Nat→oT}:l.flatMap (fun i=>tY (g i))=tY (l.flatMap g):=by
  induction l with
  |nil=>rfl
  |cons x l ih=>rw[aRM,aRM,aHg,ih]
theorem a8C (l:oT):(tY l).length=l.length:=by simp [tY]
def EW (h:oT) (l:oU) (t:oT):oT:=h++(l.flatten++t)
theorem aHr {f:(Int×oT)→p6→Option (p6⊕oT)}(hf: ∀it b,b.length+it.2.length≤140737488355328→f it b=some (.inl (b++tY it.2))): ∀(l:List (Int×oT)) (b:p6),
    b.length+((l.map (·.2)).flatten).length≤140737488355328→z6 f l b=some (.inl (b++tY (l.map (·.2)).flatten))
  |[],b,_=>by simp [z6,tY]
  | it::l,b,h=>by
    simp only[aRP,aSl,aQG] at h;unfold z6;rw[hf it b oW,aQL];show z6 f l _=_;rw[aHr hf l _ (by rw[aQG,a8C];omega)];simp only[aRP,aSl,aHg,aQR]
theorem aHs (d:tF):((zZ d).map (·.2)).flatten=EW d.1 d.2.1 d.2.2.1:=by
  unfold zZ EW
  have e:(List.range d.2.1.length).map (fun j=>d.2.1.getD j [])=d.2.1:=by
    apply List.ext_getElem
    .simp
    · intro i h1 h2
      simp [aQ9,h2]
  have e2:(((List.range d.2.1.length).map fun j:Nat=>((j:Int)+1,d.2.1.getD j [])).map (·.2))=d.2.1:=by
    rw[List.map_map];exact e
  simp only[aRP,List.map_append,List.map_nil,aSl,List.flatten_append,List.flatten_nil,List.append_nil,e2,aQR]
theorem aHt (d:tF) (hl:d.2.1.length≤900000) (hb:(EW d.1 d.2.1 d.2.2.1).length≤140737488355328):IG d=some (EW d.1 d.2.1 d.2.2.1):=by
  have h:=aHr (f:=U6) (fun it b h=>by
    unfold U6 CX;rw[aQI h,aQL]) (zZ d) [] (by rw[aHs];simpa using hb)
  unfold IG;rw[aQI oW,h,aHs];unfold sR;dsimp only;rw[aQL];simp only[List.nil_append,a8x]
theorem aNf (d:tF) (hl:d.2.1.length≤900000) (hb: ∀x∈([d.1]++d.2.1)++[d.2.2.1],x.length≤100000000000):II d=some (EW d.1 d.2.1 d.2.2.1):=by
  obtain⟨L,hL⟩: ∃L,([d.1]++d.2.1)++[d.2.2.1]=L:=⟨_,rfl⟩;have hLl:L.length=d.2.1.length+2:=by rw[←hL];simp
  rw[hL] at hb
  have h:=DE (f:=P6 d) (fun i s=>(s,i)) (fun s=>s) (n:=L.length) (M:=1000000000000000000) (B:=100000000000) (fun i=>L.getD i []) (fun i hi=>hb _ (C8 hi)) [] oZ (fun i s hi hM=>by
    unfold P6;dsimp only;have:=hb _ (C8 (d:=[]) hi);rw[hL,aQI (vI hi),aQI (tH hi),LZ,aQI (by rw[aQG];omega),aQI (vC oW)]) (fun b=>by
    unfold P6;dsimp only;rw[hL,aQO (vP _)])
  unfold II E5;rw[aQI oZ,aQI oZ,aQL,h];unfold sG;rw[aQL,EV (l:=L) (d:=[]) (fun x=>x)];congr 1;rw[List.nil_append,←hL];unfold EW;simp
theorem sW {l:oT}{n:Nat}(h:l.length≤n) (hn:n≤9223372036854775807):(l.length:Int)≤9223372036854775807:=by omega
theorem GT {l:oU}(h:B2 l) {i:Nat}(hi:i<l.length):(l.getD i []).length≤6000:=h.2 _ (C8 hi)
theorem GU {l:List w4}(h:GS l) {i:Nat}(hi:i<l.length):(l.getD i fD).1.length≤6000∧(l.getD i fD).2.1.length≤6000:=h.2 _ (C8 hi)
theorem aNg {n:Int}(h0:0≤n) (h1:n≤4):(qB .str aME n).length≤10:=by
  have:n=0∨n=1∨n=2∨n=3∨n=4:=by omega
  rcases this with rfl|rfl|rfl|rfl|rfl<;>decide
theorem aHu {α β:Type}{f:α→β}{l:List α}:l.flatMap (fun x=>[f x])=l.map f:=by
  induction l with
  |nil=>rfl
  |cons x l ih=>rw[aRM,ih];rfl
theorem QB {c:C4}(hok:wM c=true) {i:Nat}(hi:i<c.2.2.2.1.length):DA (c.2.2.2.1.getD i eD)=true:=by
  unfold wM at hok;simp only[aQU,aRj,aRS,aSA] at hok;have:=hok.2.2 i hi;unfold DB at this;simp only[aRV,aRj,not_or,Bool.not_eq_false] at this;exact this.2
theorem a8D {x:vD}(h:DA x=true):0≤x.2.2.2.2.2.1∧x.2.2.2.2.2.1≤4:=by
  unfold DA at h;simp only[aQU,aQY] at h;exact h.1.2
theorem aNh {l:oT}(h: ∀b∈l,b.toNat<128):Lib.validD l=true:=by
  rw[Lib.validD_ascii l.length l (fun b hb=>h b (List.mem_of_mem_take hb)),aRy];rfl
theorem aNi {b:UInt8}(h:wK b.toNat=false):b.toNat<128:=by
  unfold wK at h;simp only[Bool.and_eq_false_iff,Bool.not_eq_false',aQU,aQY] at h;omega
theorem aNj {x:oT}(h:xQ x=true):wY x=true:=by
  cases x with
  |nil=>cases h
  | cons b t=>
    unfold xQ at h;simp only[aQU,aRj,aRS,aSc,aRO] at h;obtain⟨⟨h0,h1⟩,h2⟩:=h;unfold wY;rw[aQU,aQY];refine⟨by simp only[aQJ];omega,aNh fun c hc=> ?_⟩;rcases aQV.1 hc with rfl|hc
    · unfold wX at h1
      simp only[aQU,aQY] at h1;omega
    .exact aNi (h2 c hc)
theorem aNk {α:Type}{r:α→α→Prop}(tr: ∀a b c,r a b→r b c→r a c) {l:List α}(h: ∀(i:Nat) (hi:i+1<l.length),r l[i] l[i+1]):l.Pairwise r:=by
  rw[aSp];intro i j hi hj hij;obtain⟨k,rfl⟩: ∃k,j=i+1+k:=⟨j-i-1,oW⟩
  induction k with
  |zero=>exact h i hj
  |succ k ih=>exact tr _ _ _ (ih oW oW) (h (i+1+k) hj)
theorem QC {α:Type}{l:List α}{i:Nat}{d:α}(h:i<l.length):l.getD i d=l[i]:=by
  rw[aQ9,aQM h];rfl
theorem aHv {l:List w4}(h:zI l=true):l.length≤20∧(∀x∈l,xQ x.1=true∧wY x.1=true∧wY x.2.1=true)∧l.Pairwise (fun a b=>a.1<b.1):=by
  unfold zI at h;simp only[aQU,aRj,aRS,aQY,aSA,aSc] at h;obtain⟨h1,h2⟩:=h;unfold UU at h1;simp only[aR5,Bool.and_eq_false_iff,Bool.not_eq_false',aRO] at h1;refine⟨oW,fun x hx=> ?_,aNk (r:=fun a b:w4=>a.1<b.1) (fun a b c=>List.lt_trans) fun i hi=> ?_⟩
  · obtain⟨i,hi,rfl⟩:=aR9 hx
    have:=(h1 i hi).1;rw[QC hi] at this;exact⟨this.1,aNj this.1,this.2⟩
  · have:=(h1 (i+1) hi).2
    rw[QC hi,Nat.add_sub_cancel,QC (show i<l.length by omega),aHi] at this;exact aRk (this.resolve_left oW)
theorem aNl {es:List vD}(h: ∀i,i<es.length→DB es i=false):es.Pairwise (fun a b=>a.1≠b.1):=by
  rw[aSp];intro i j hi hj hij he;have h1:=h j hj;unfold DB at h1;simp only[aR5,aRS,aQY] at h1;rw[QC hj] at h1;exact h1.1 es[i] (by rw[List.mem_take_iff_getElem];exact⟨i,oW,rfl⟩) he
theorem aNm {c:C4}(h:wM c=true):B1 c.1=true∧AD c.2.1=true∧zI c.2.2.1=true∧c.2.2.2.1.length≤1000∧(∀x∈c.2.2.2.1,DA x=true)∧c.2.2.2.1.Pairwise (fun a b=>a.1≠b.1):=by
  have h':=h;unfold wM at h';simp only[aQU,aRj,aRS,aSA,aQY,aSc] at h';obtain⟨⟨⟨h1,h2⟩,h3⟩,h4,h5⟩:=h';refine⟨h1,h2,h3,oW,fun x hx=> ?_,aNl h5⟩;obtain⟨i,hi,rfl⟩:=aR9 hx;have:=QB h hi;rwa [QC hi] at this
noncomputable section
def wZ (b:Nat):oT:=(GA (b:Int)).getD []
theorem aNn:((List.range 256).all fun b=>decide (GA (b:Int)=some (wZ b))&&([true,false].all fun f=>decide (IK 4 (b:Int) f=some (wZ b)))&&decide ((wZ b).length≤6))=true:=by kernel_rfl
theorem QD (b:UInt8) (f:Bool):GA (b.toNat:Int)=some (wZ b.toNat)∧IK 4 (b.toNat:Int) f=some (wZ b.toNat)∧(wZ b.toNat).length≤6:=by
  have h:=aRz.1 aNn b.toNat (aSA.2 (UInt8.toNat_lt b));simp only[aQU,aQY] at h;have h2:=aRz.1 h.1.2 f (by cases f<;>simp)
  exact⟨h.1.1,aRk h2,h.2⟩
def y9 (s:oT):oT:=s.flatMap fun b=>wZ b.toNat
theorem M0 (s:oT):(y9 s).length≤6*s.length:=by
  have:=QA (l:=s) (h:=fun b:UInt8=>wZ b.toNat) (B:=6) fun b _=>(QD b true).2.2;unfold y9;omega
theorem aNo {s:oT}(hs:s5 s):IS (4:Int) s=some (y9 s):=by
  unfold s5 at hs
  have h:=DE (f:=PL (4:Int) s) (fun i b=>(i,b)) (fun b=>b) (n:=s.length) (M:=10000000000000) (B:=6) (fun i=>tY (wZ (s.getD i 0).toNat)) (fun i _=>by rw[a8C];exact(QD _ true).2.2) [] oZ (fun i b hi hM=>by
    obtain⟨e1,_,e3⟩:=QD (s.getD i 0) true;unfold PL;dsimp only;rw[aQI (vI hi),aQI oX,aQI (tH hi),aHp,e1,aQL];unfold CX;rw[aQI (by dsimp only;omega),aQL,aQI (vC oW)]) (fun b=>by
    unfold PL;dsimp only;rw[aQO (vP _)])
  unfold IS;rw[aQO oY,h,aHq,EV (l:=s) (d:=0) fun b:UInt8=>wZ b.toNat];unfold sG;rw[aQL,List.nil_append,a8x];rfl
theorem aNp {s:oT}(hs:s5 s):IR (4:Int) s=some (y9 s):=by
  unfold s5 at hs
  have h:=DE (f:=PI (4:Int) s) (fun i b=>(b,i)) (fun b=>b) (n:=s.length) (M:=10000000000000) (B:=6) (fun i=>tY (wZ (s.getD i 0).toNat)) (fun i _=>by rw[a8C];exact(QD _ true).2.2) [] oZ (fun i b hi hM=>by
    obtain⟨_,e2,e3⟩:=QD (s.getD i 0) (decide ((i:Int)=0));unfold PI;dsimp only;rw[aQI (vI hi),aQI (tH hi),aHp,e2,aQL,aQI oW,aQI (vC oW)]) (fun b=>by
    unfold PI;dsimp only;rw[aQO (vP _)])
  unfold IR;rw[aQO oY,h,aHq,EV (l:=s) (d:=0) fun b:UInt8=>wZ b.toNat];unfold sG;rw[aQL,List.nil_append,a8x];rfl
end
noncomputable section
def blk (b:UInt8):Bool:=([32,9,10,13]:oT).contains b
end
noncomputable section
abbrev M1:=Int×oT×Int×Unit
structure LOk (l:List M1):Prop where
  ne:l≠[]
  txt: ∀t∈l,t.2.1.length≤1000000000
  pos: ∀t∈l,0≤t.2.2.1∧t.2.2.1≤1000000000
  tag: ∀t∈l,t.1=2→2≤t.2.1.length
  last: ∀t,l.getLast? =some t→t.1=0∨t.1=4
  len:l.length≤1000000000
theorem LOk.drop {l:List M1}(h:LOk l) {k:Nat}(hk:k<l.length):LOk (l.drop k):=by
  have hs:=List.drop_subset k l;refine⟨fun e=> ?_,fun t ht=>h.txt t (hs ht),fun t ht=>h.pos t (hs ht),fun t ht=>h.tag t (hs ht),fun t ht=> ?_,by rw[aRg];have:=h.len;omega⟩
  · have:=aQ0 List.length e
    rw[aRg,aQW] at this;omega
  · refine h.last t ?_
    rw[List.getLast?_drop,aQO oW] at ht;exact ht
def M2 (l' l:List M1):Prop:= ∃k,k<l.length∧l'=l.drop k
theorem M2.trans {a b c:List M1}(h:M2 a b) (k:M2 b c):M2 a c:=by
  obtain⟨i,hi,rfl⟩:=h;obtain⟨j,hj,rfl⟩:=k;rw[aRg] at hi;exact⟨j+i,oW,by rw[List.drop_drop]⟩
end
noncomputable section
abbrev a8F:oT:=[99,111,109,109,101,110,116]
abbrev QE:oT:=[102,105,101,108,100]
abbrev M3:oT:=[115,111,117,114,99,101]
abbrev QF:oT:=[116,97,114,103,101,116]
end
noncomputable section
section
variable {c:rS}{en:p6×Unit}{ids:p4}{mm:List (oT×oT)}
abbrev HR:=((List rO)×Int×Int)⊕((List rO)×Int×Int×oT×oU×(List qK)×p6)
def a8G (l:List M1) (r:HR):Prop:= ∃l' a' e',M2 l' l/\e'≠0/\(r= .inl (l',a',e')\/∃q,r= .inr (l',a',e',q))
theorem a8G.trans {l l2:List M1}{r:HR}(h:a8G l2 r) (k:M2 l2 l):a8G l r:=by
 obtain⟨l',a',e',h1,h2,h3⟩:=h;exact⟨l',a',e',h1.trans k,h2,h3⟩
end
end
noncomputable section
theorem GV {l:oT}(h:l.length<=6000):s5 l:=by unfold s5;omega
theorem a8H {l:oU}(h:B2 l):s5 l/\∀y∈l,s5 y:=⟨by have:=h.1;unfold s5;omega,fun y hy=>GV (h.2 y hy)⟩
theorem aHw {l:List w4}(h:GS l):s5 l/\∀y∈l,Q8 y:=⟨by have:=h.1;unfold s5;omega,fun y hy=>⟨GV (h.2 y hy).1,GV (h.2 y hy).2⟩⟩
theorem DD.fitP {c:C4}(h:DD c):Q9 c:=
 ⟨by have:=h.tag;unfold s5;omega,a8H h.com,aHw h.fld,by have:=h.len;omega,fun x hx=>by
  have e:=h.ent x hx;exact⟨GV e.id,GV e.src,GV e.tgt,a8H e.com,a8H e.flg,aHw e.fld⟩⟩
theorem aNq:((List.range 256).all fun b=>(wK (b:Int)||decide (wZ b=[b.toUInt8]))&&(GP (b:Int)||decide (wZ b=[b.toUInt8]))&&(!wX (b:Int)||decide (wZ b=[b.toUInt8])))=true:=by kernel_rfl
theorem a8I (b:UInt8):(wK (b.toNat:Int)=false->wZ b.toNat=[b])/\(GP (b.toNat:Int)=false->wZ b.toNat=[b])/\(wX (b.toNat:Int)=true->wZ b.toNat=[b]):=by
 have h:=aRz.1 aNq b.toNat (aSA.2 (UInt8.toNat_lt b));have hb:b.toNat.toUInt8=b:=by simp
 rw[hb] at h;simp only[aQU,aRV,aQY,aRj] at h;exact⟨fun e=>h.1.1.resolve_left (by rw[e];decide),fun e=>h.1.2.resolve_left (by rw[e];decide),fun e=>h.2.resolve_left (by rw[e];decide)⟩
theorem aHx {s:oT}(h: ∀b∈s,wZ b.toNat=[b]):y9 s=s:=by
 induction s with
 |nil=>rfl
 |cons b s ih=>
  unfold y9 at ih|-;rw[aRM,h b aQ3,ih (fun c hc=>h c (aQZ _ hc))];rfl
theorem aNr {s:oT}(h:B1 s=true):y9 s=s:=by
 unfold B1 at h;simp only[aQU,aRj,aRS] at h;exact aHx fun b hb=>(a8I b).2.1 (by simpa using h.1 b hb)
theorem aNs {s:oT}(h:xQ s=true):y9 s=s:=by
 cases s with
 |nil=>rfl
 |cons b t=>
  unfold xQ at h;simp only[aQU,aRj,aRS] at h;refine aHx fun c hc=> ?_;rcases aQV.1 hc with rfl|hc
  .exact(a8I c).2.2 h.1.2
  .exact(a8I c).1 (by simpa using h.2 c hc)
def B3 (ind name attrs s:oT):oT:=(((((((([10]++ind)++[60])++name)++attrs)++[62])++y9 s)++[60,47])++name)++[62]
theorem M4 {ind name attrs s:oT}(hi:ind.length<=4) (hn:name.length<=8) (ha:attrs.length<=6010) (hs:s.length<=6000):(B3 ind name attrs s).length<=42040:=by
 have:=M0 s;simp only[B3,aQG,aQJ,aQW];omega
theorem aHy {s:oT}(hs:s.length<=6000):GH s=some (y9 s):=by
 unfold GH;rw[aNo (GV hs)];rfl
theorem UZ {s:oT}(hs:s.length<=6000):D5 s=some (y9 s):=by
 unfold D5;rw[aNp (GV hs)];rfl
theorem V0 {ind name attrs s:oT}(hi:ind.length<=4) (hn:name.length<=8) (ha:attrs.length<=6010) (hs:s.length<=6000):BY ind name attrs s=some (B3 ind name attrs s):=by
 have he:=M0 s;unfold BY;rw[aHy hs,aQL]
 iterate 9 rw[aQI (sW (n:=100000) (by simp only[aQG,aQJ,aQW];omega) oX)]
 rfl
theorem V1 {ind name attrs s:oT}(hi:ind.length<=4) (hn:name.length<=8) (ha:attrs.length<=6010) (hs:s.length<=6000):D7 ind (name++attrs) name s=some (B3 ind name attrs s):=by
 have he:=M0 s;unfold D7;rw[UZ hs,aQL]
 iterate 8 rw[aQI (sW (n:=100000) (by simp only[aQG,aQJ,aQW];omega) oX)]
 unfold B3;simp only[aQR]
def EX (ind s:oT):oT:=B3 ind a8F [] s
def DF (ind:oT) (l:oU):oT:=l.flatMap (EX ind)
def JB (n:oT):oT:=([32,110,97,109,101,61,34]++n)++[34]
def EY (ind:oT) (f:w4):oT:=B3 ind QE (JB f.1) f.2.1
def M5 (ind:oT) (l:List w4):oT:=l.flatMap (EY ind)
theorem a8J {n:oT}(h:n.length<=6000):(JB n).length<=6010:=by
 simp only[JB,aQG,aQJ,aQW];omega
theorem QG {ind s:oT}(hi:ind.length<=4) (h:s.length<=6000):(EX ind s).length<=42040:=M4 hi oY oY h
theorem QH {ind:oT}{f:w4}(hi:ind.length<=4) (h:f.1.length<=6000/\f.2.1.length<=6000):(EY ind f).length<=42040:=M4 hi oY (a8J h.1) h.2
theorem JC {ind:oT}(hi:ind.length<=4) {l:oU}(h:B2 l):(DF ind l).length<=252240000:=by
 have:=QA (l:=l) (h:=EX ind) (B:=42040) fun x hx=>QG hi (h.2 x hx);have h1:=h.1;unfold DF
 calc _<=l.length*42040:=this
  _<=6000*42040:=aSo _ h1
theorem M6 {ind:oT}(hi:ind.length<=4) {l:List w4}(h:GS l):(M5 ind l).length<=252240000:=by
 have:=QA (l:=l) (h:=EY ind) (B:=42040) fun x hx=>QH hi (h.2 x hx);have h1:=h.1;unfold M5
 calc _<=l.length*42040:=this
  _<=6000*42040:=aSo _ h1
theorem aHz {ind:oT}(hi:ind.length<=4) {l:oU}(h:B2 l):GI ind l=some (DF ind l):=by
 have hl:=h.1;have k:=DE (f:=PS ind l) (fun i s=>(s,i)) (fun s=>s) (n:=l.length) (M:=1000000000) (B:=42040) (fun i=>EX ind (l.getD i [])) (fun i hi2=>QG hi (GT h hi2)) [] oZ (fun i s hi2 hM=>by
  have h1:=QG hi (GT h hi2);have e:=V1 (ind:=ind) (name:=a8F) (attrs:=[]) hi oY oY (GT h hi2);rw[List.append_nil] at e;unfold PS;dsimp only;rw[aQI (vI hi2),aQI (tH hi2),LZ,e,aQL,aQI (sW (n:=1000000000) (by rw[aQG];show s.length+(EX ind (l.getD i [])).length<=_;omega) oX),aQI (vC oW)];rfl) (fun b=>by
  unfold PS;dsimp only;rw[aQO (vP _)])
 unfold GI;rw[k,EV (l:=l) (d:=[]) (EX ind)];rfl
theorem a8K {ind:oT}(hi:ind.length<=4) {l:List w4}(h:GS l) (hn: ∀f∈l,xQ f.1=true):EP ind l=some (M5 ind l):=by
 have hl:=h.1;have k:=DE (f:=PT ind l) (fun i s=>(s,i)) (fun s=>s) (n:=l.length) (M:=1000000000) (B:=42040) (fun i=>EY ind (l.getD i fD)) (fun i hi2=>QH hi (GU h hi2)) [] oZ (fun i s hi2 hM=>by
  have h1:=QH hi (GU h hi2);have h2:=(GU h hi2).1;have h3:=a8J h2;have e:=V1 (ind:=ind) (name:=QE) (attrs:=JB (l.getD i fD).1) hi oY h3 (GU h hi2).2;have ee:([102,105,101,108,100,32,110,97,109,101,61,34]++(l.getD i fD).1)++[34]=QE++JB (l.getD i fD).1:=by
   unfold JB;simp only[aQR];rfl
  unfold PT;dsimp only;rw[aQI (vI hi2),aQI (tH hi2),UV,UZ h2,aQL,aNs (hn _ (C8 hi2)),aQI (sW (n:=1000000000) (by simp only[aQG,aQJ,aQW];omega) oX),aQI (sW (n:=1000000000) (by simp only[aQG,aQJ,aQW];omega) oX),aQI (tH hi2),ee,e,aQL,aQI (sW (n:=1000000000) (by rw[aQG];show s.length+(EY ind (l.getD i fD)).length<=_;omega) oX),aQI (vC oW)];rfl) (fun b=>by
  unfold PT;dsimp only;rw[aQO (vP _)])
 unfold EP;rw[k,EV (l:=l) (d:=fD) (EY ind)];rfl
theorem a8L {ind:oT}(hi:ind.length<=4) {cl:oU}(hc:B2 cl) {fl:List w4}(hf:GS fl) {b:oT}(hb:b.length<=100000):EQ ind cl b fl=some ((DF ind cl++b)++M5 ind fl):=by
 have hl:=hc.1;have hl2:=hf.1;have c1:=JC hi hc;have k:=DE (f:=PV ind cl) (fun i s=>(s,i)) (fun s=>s) (n:=cl.length) (M:=1000000000) (B:=42040) (fun i=>EX ind (cl.getD i [])) (fun i hi2=>QG hi (GT hc hi2)) [] oZ (fun i s hi2 hM=>by
  have h1:=QG hi (GT hc hi2);have e:=V0 (ind:=ind) (name:=a8F) (attrs:=[]) hi oY oY (GT hc hi2);unfold PV;dsimp only;rw[aQI (vI hi2),aQI (tH hi2),LZ,e,aQL,aQI (sW (n:=1000000000) (by rw[aQG];show s.length+(EX ind (cl.getD i [])).length<=_;omega) oX),aQI (vC oW)];rfl) (fun b=>by
  unfold PV;dsimp only;rw[aQO (vP _)])
 have k2:=DE (f:=LM ind fl) (fun i s=>(s,i)) (fun s=>s) (n:=fl.length) (M:=1000000000) (B:=42040) (fun i=>EY ind (fl.getD i fD)) (fun i hi2=>QH hi (GU hf hi2)) (DF ind cl++b) (by rw[aQG];omega) (fun i s hi2 hM=>by
  have h1:=QH hi (GU hf hi2);have h2:=(GU hf hi2).1;have h3:=a8J h2;have e:BY ind QE (([32,110,97,109,101,61,34]++(fl.getD i fD).1)++[34]) (fl.getD i fD).2.1=_:=V0 (ind:=ind) (name:=QE) (attrs:=JB (fl.getD i fD).1) hi oY h3 (GU hf hi2).2;unfold LM;dsimp only;rw[aQI (vI hi2),aQI (tH hi2),UV,aQI (sW (n:=1000000000) (by simp only[aQG,aQJ,aQW];omega) oX),aQI (sW (n:=1000000000) (by simp only[aQG,aQJ,aQW];omega) oX),e,aQL,aQI (sW (n:=1000000000) (by rw[aQG];show s.length+(EY ind (fl.getD i fD)).length<=_;omega) oX),aQI (vC oW)];rfl) (fun b=>by
  unfold LM;dsimp only;rw[aQO (vP _)])
 unfold EQ;rw[k,EV (l:=cl) (d:=[]) (EX ind)];unfold sG;rw[aQL,List.nil_append];show (if ((DF ind cl++b).length:Int)<=_ then(rF (LM ind fl) (DF ind cl++b,0)).bind _ else none)=_;rw[aQI (sW (n:=1000000000) (by rw[aQG];omega) oX),k2,EV (l:=fl) (d:=fD) (EY ind)];rfl
end
noncomputable section
abbrev M7:oT:=[32,102,108,97,103,115,61,34]
theorem aHA (x:oT) (r:oU):z8 (x::r) [32]=x++r.flatMap (fun y=>[32]++y):=by
 unfold z8;rw[Lib.join_cons];unfold Lib.joinTail;rw[List.flatMap_def]
theorem aHB {l:oU}(h:B2 l):(z8 l [32]).length<=36012000:=by
 cases l with
 |nil=>simp [z8,Lib.join_nil]
 |cons x r=>
  rw[aHA,aQG];have h1:=h.1;have h2:=h.2 x aQ3;have h3:=QA (l:=r) (h:=fun y=>[32]++y) (B:=6001) fun y hy=>by
   have:=h.2 y (aQZ _ hy);simp only[aQG,aQJ,aQW];omega
  simp only[aQJ] at h1;have h4:r.length*6001<=6000*6001:=aSo _ oW;omega
def EZ (l:oU):oT:=if l=[] then[] else(M7++z8 l [32])++[34]
theorem aNt {l:oU}(h:B2 l):(EZ l).length<=36012100:=by
 have:=aHB h;unfold EZ;split
 .simp
 .simp only[aQG,aQJ,aQW];omega
def gF (l:oU) (i:Nat):oT:=((if i=0 then M7 else[32])++l.getD i [])++(if i+1=l.length then[34] else[])
theorem aHC: ∀(suf pre:oU),pre≠[]->(List.range' pre.length suf.length).flatMap (gF (pre++suf))=suf.flatMap (fun y=>[32]++y)++(if suf=[] then[] else[34])
 |[],pre,_=>by simp
 |y::t,pre,hp=>by
  have ih:=aHC t (pre++[y]) oY;rw[aQG,aQR] at ih;have hpl:=aR8.2 hp;have h0:gF (pre++(y::t)) pre.length=([32]++y)++(if t=[] then[34] else[]):=by
   unfold gF;rw[aQO oW,aQ9,aQN (aQ4 _),aSu];have:(pre.length+1=(pre++(y::t)).length)↔t=[]:=by
    simp only[aQG,aQJ];rw[<-aRE];omega
   simp only[this];rfl
  rw[aQJ,aSq,aRM,h0];simp only[aQJ,aQW,List.cons_append,List.nil_append] at ih;rw[ih,aRM];by_cases ht:t=[]
  .subst ht;simp
  .simp [ht]
theorem aNu {l:oU}:(List.range' 0 l.length).flatMap (gF l)=EZ l:=by
 cases l with
 |nil=>rfl
 |cons x r=>
  have h:(List.range' 1 r.length).flatMap (gF (x::r))=r.flatMap (fun y=>[32]++y)++(if r=[] then[] else[34]):=aHC r [x] oY;have h0:gF (x::r) 0=(M7++x)++(if r=[] then[34] else[]):=by
   unfold gF;rw[aQI rfl];have:(0+1=(x::r).length)↔r=[]:=by
    simp only[aQJ];rw[<-aRE];omega
   simp only[this];rfl
  rw[aQJ,aSq,aRM,h0,h];unfold EZ;rw[aQO (List.cons_ne_nil x r),aHA];by_cases hr:r=[]
  .rw[aQI hr,aQI hr,hr];simp only[List.flatMap_nil,List.append_nil]
  .rw[aQO hr,aQO hr];simp only[aQR,List.append_nil,List.nil_append]
theorem aNv {l:oU}(h:B2 l) {i:Nat}(hi:i<l.length):(gF l i).length<=6010:=by
 have:=GT h hi;unfold gF;rw[aQG,aQG];have h1:(if i=0 then M7 else[32]).length<=8:=by split<;>simp
 have h2:(if i+1=l.length then([34]:oT) else[]).length<=1:=by split<;>simp
 omega
theorem JD {σ ρ:Type}{x:Option σ}{y:σ}{k:σ->Option ρ}{r:Option ρ}(h1:x=some y) (h2:k y=r):sG x k=r:=by
 unfold sG;rw[h1];exact h2
theorem aNw {i:Nat}:decide ((i:Int)=0)=decide (i=0):=aRW.2 oW
theorem aNx {x:vD}(h:DC x) (s:oT) (hs:s.length<=500000000):rF (LL x) (s,(0:Int))=some (s++EZ x.2.2.2.2.1):=by
 have hl:=h.flg.1;have k:=DE (f:=LL x) (fun i s=>(s,i)) (fun s=>s) (n:=x.2.2.2.2.1.length) (M:=1000000000) (B:=6010) (gF x.2.2.2.2.1) (fun i hi=>aNv h.flg hi) s oW (fun i s hi hM=>by
  have h1:=GT h.flg hi;unfold LL;dsimp only;rw[aQI (vI hi),aNw];refine JD (y:=s++(if i=0 then M7 else[32])) ?_ ?_
  .by_cases h0:i=0
   .rw[aQI (aRD h0),aQI h0,aQI (sW (n:=1000000000) (by simp only[aQG,aQJ,aQW];omega) oX)]
   .rw[aQO (by simpa using h0),aQO h0,aQI (sW (n:=1000000000) (by simp only[aQG,aQJ,aQW];omega) oX)]
  .have h8:(if i=0 then M7 else[32]).length<=8:=by split<;>simp
   have hd:decide ((i:Int)=(x.2.2.2.2.1.length:Int)-1)=decide (i+1=x.2.2.2.2.1.length):=aRW.2 oW;rw[aQI (tH hi),LZ,aQI (sW (n:=1000000000) (by simp only[aQG];omega) oX),aQI (by unfold pO;omega),hd];unfold gF;by_cases hn:i+1=x.2.2.2.2.1.length
   .rw[aQI (aRD hn),aQI hn,aQI (sW (n:=1000000000) (by simp only[aQG,aQJ,aQW];omega) oX),aQI (vC oW)];simp only[aQR]
   .rw[aQO (by simpa using hn),aQO hn,aQI (vC oW)];simp only[aQR,List.append_nil]) (fun b=>by
  unfold LL;dsimp only;rw[aQO (vP _)])
 rw[aNu] at k;exact k
abbrev i4:oT:=[32,32,32,32]
abbrev i2:oT:=[32,32]
abbrev QI:oT:=[10,32,32,60,101,110,116,114,121,32,105,100,61,34]
abbrev sSt:oT:=[32,115,116,97,116,101,61,34]
abbrev aNz:oT:=[10,32,32,60,47,101,110,116,114,121,62]
def C9 (n:Int):oT:=if n=0 then[] else(sSt++qB .str ([[110,101,119],[102,117,122,122,121],[116,114,97,110,115,108,97,116,101,100],[114,101,118,105,101,119,101,100],[111,98,115,111,108,101,116,101]]:oU) n)++[34]
def F0 (x:vD):oT:=(((QI++y9 x.1)++[34])++C9 x.2.2.2.2.2.1)++EZ x.2.2.2.2.1
def DG (x:vD):oT:=if x.2.1=[] then[] else B3 i4 M3 [] x.2.1
def CA (x:vD):oT:=if x.2.2.1=[] then[] else B3 i4 QF [] x.2.2.1
def wN (x:vD):oT:=((F0 x++[62])++((DF i4 x.2.2.2.1++(DG x++CA x))++M5 i4 x.2.2.2.2.2.2.1))++aNz
theorem a8M {n:Int}(h0:0<=n) (h1:n<=4):(qB .str ([[110,101,119],[102,117,122,122,121],[116,114,97,110,115,108,97,116,101,100],[114,101,118,105,101,119,101,100],[111,98,115,111,108,101,116,101]]:oU) n).length<=10:=aNg h0 h1
theorem a8N {n:Int}(h0:0<=n) (h1:n<=4):(C9 n).length<=30:=by
 have:=a8M h0 h1;unfold C9;split
 .simp
 .simp only[aQG,aQJ,aQW];omega
theorem a8O {x:vD}(h:DC x):(DG x).length<=42040:=by
 unfold DG;split
 .simp
 .exact M4 oY oY oY h.src
theorem a8P {x:vD}(h:DC x):(CA x).length<=42040:=by
 unfold CA;split
 .simp
 .exact M4 oY oY oY h.tgt
theorem a8Q {x:vD}(h:DC x) (r0:0<=x.2.2.2.2.2.1) (r4:x.2.2.2.2.2.1<=4):(F0 x).length<=36100000:=by
 have h1:=M0 x.1;have h2:=a8N r0 r4;have h3:=aNt h.flg;have h4:=h.id;simp only[F0,aQG,aQJ,aQW];omega
theorem aNA {x:vD}(h:DC x) (r0:0<=x.2.2.2.2.2.1) (r4:x.2.2.2.2.2.1<=4):(wN x).length<=600000000:=by
 have h1:=a8Q h r0 r4;have h2:=JC (ind:=i4) oY h.com;have h3:=M6 (ind:=i4) oY h.fld;have h4:=a8O h;have h5:=a8P h;simp only[wN,aQG,aQJ,aQW];omega
theorem aNB {x:vD}(h:DC x) (r0:0<=x.2.2.2.2.2.1) (r4:x.2.2.2.2.2.1<=4):J0 x=some (wN x):=by
 have e1:=M0 x.1;have e2:=h.id;have e3:=a8M r0 r4;have e4:=a8N r0 r4;have e5:=aHB h.flg;have e6:=a8Q h r0 r4;have e7:=h.flg.1;have c1:=JC (ind:=i4) oY h.com;have c2:=M6 (ind:=i4) oY h.fld;have c3:=a8O h;have c4:=a8P h;unfold J0;rw[aHy h.id,aQL,aQI (sW (n:=1000000000) (by simp only[aQG,aQJ,aQW];omega) oX),aQI (sW (n:=1000000000) (by simp only[aQG,aQJ,aQW];omega) oX)];refine JD (y:=((QI++y9 x.1)++[34])++C9 x.2.2.2.2.2.1) ?_ ?_
 .by_cases hs:x.2.2.2.2.2.1=0
  .rw[aQO (by simp [hs])];simp [C9,hs]
  .rw[aQI (by simpa using hs),aQI ⟨r0,by simp only[aQJ,aQW];omega⟩]
   iterate 3 rw[aQI (sW (n:=1000000000) (by simp only[aQG,aQJ,aQW];omega) oX)]
   unfold C9;rw[aQO hs]
 refine JD (y:=F0 x) ?_ ?_
 .by_cases hf:x.2.2.2.2.1=[]
  .rw[aQO (by simp [hf])];simp [F0,EZ,hf]
  .have hp:=aR8.2 hf;rw[aQI oZ,aQI ⟨oW,oW⟩]
   iterate 3 rw[aQI (sW (n:=1000000000) (by simp only[aQG,aQJ,aQW];omega) oX)]
   unfold F0 EZ;rw[aQO hf]
 refine JD (y:=DG x) ?_ ?_
 .by_cases hs:x.2.1=[]
  .rw[aQO (by simp [hs])];simp [DG,hs]
  .have e:=V0 (ind:=i4) (name:=M3) (attrs:=[]) oY oY oY h.src;have el:=M4 (ind:=i4) (name:=M3) (attrs:=[]) oY oY oY h.src;rw[aQI (by simpa using hs),e,aQL,List.nil_append,aQI (sW (n:=1000000000) oW oX)];simp [DG,hs]
 by_cases ht:x.2.2.1=[]
 .have et:CA x=[]:=by simp [CA,ht]
  rw[aQO (by simp [ht]),aQI (sW (n:=1000000000) (by simp only[aQG,aQJ,aQW];omega) oX),a8L (ind:=i4) oY h.com h.fld oW,aQL]
  iterate 2 rw[aQI (sW (n:=1000000000) (by simp only[aQG,aQJ,aQW];omega) oX)]
  unfold wN;rw[et,List.append_nil]
 .have e:=V0 (ind:=i4) (name:=QF) (attrs:=[]) oY oY oY h.tgt;have et:CA x=B3 i4 QF [] x.2.2.1:=by simp [CA,ht]
  rw[aQI (by simpa using ht),e,aQL,<-et,aQI (sW (n:=1000000000) (by simp only[aQG];omega) oX),aQI (sW (n:=1000000000) (by simp only[aQG,aQJ,aQW];omega) oX),a8L (ind:=i4) oY h.com h.fld (by simp only[aQG];omega),aQL]
  iterate 2 rw[aQI (sW (n:=1000000000) (by simp only[aQG,aQJ,aQW];omega) oX)]
  rfl
theorem aNC {x:vD}(h:DC x) (hn: ∀f∈x.2.2.2.2.2.2.1,xQ f.1=true) (r0:0<=x.2.2.2.2.2.1) (r4:x.2.2.2.2.2.1<=4):IY x=some (wN x):=by
 have e1:=M0 x.1;have e2:=h.id;have e3:=a8M r0 r4;have e4:=a8N r0 r4;have e6:=a8Q h r0 r4;have c1:=JC (ind:=i4) oY h.com;have c2:=M6 (ind:=i4) oY h.fld;have c3:=a8O h;have c4:=a8P h;unfold IY;rw[UZ h.id,aQL,aQI (sW (n:=1000000000) (by simp only[aQG,aQJ,aQW];omega) oX),aQI (sW (n:=1000000000) (by simp only[aQG,aQJ,aQW];omega) oX)];refine JD (y:=((QI++y9 x.1)++[34])++C9 x.2.2.2.2.2.1) ?_ ?_
 .by_cases hs:x.2.2.2.2.2.1=0
  .rw[aQO (by simp [hs])];simp [C9,hs]
  .have hsn:KX x.2.2.2.2.2.1=some ():=by
    unfold KX;rw[aQI ⟨r0,by simp only[aQJ,aQW];omega⟩]
   rw[aQI (by simpa using hs),aQI (sW (n:=1000000000) (by simp only[aQG,aQJ,aQW];omega) oX),hsn,aQL]
   iterate 2 rw[aQI (sW (n:=1000000000) (by simp only[aQG,aQJ,aQW];omega) oX)]
   unfold C9;rw[aQO hs];simp only[aQR]
 have hb:((((QI++y9 x.1)++[34])++C9 x.2.2.2.2.2.1).length)<=500000000:=by simp only[aQG,aQJ,aQW];omega
 have hfl:=aNx h _ hb;rw[show (((QI++y9 x.1)++[34])++C9 x.2.2.2.2.2.1)++EZ x.2.2.2.2.1=F0 x from rfl] at hfl;refine JD (y:=F0 x) hfl ?_;rw[aQI (sW (n:=1000000000) (by simp only[aQG,aQJ,aQW];omega) oX),aHz (ind:=i4) oY h.com,aQL];rw[aQI (sW (n:=1000000000) (by simp only[aQG,aQJ,aQW];omega) oX)];refine JD (y:=((F0 x++[62])++DF i4 x.2.2.2.1)++DG x) ?_ ?_
 .by_cases hs:x.2.1=[]
  .rw[aQO (by simp [hs])];simp only[DG,hs,aR4,List.append_nil]
  .have e:=V1 (ind:=i4) (name:=M3) (attrs:=[]) oY oY oY h.src;have el:=M4 (ind:=i4) (name:=M3) (attrs:=[]) oY oY oY h.src;rw[List.append_nil] at e;rw[aQI (by simpa using hs),e,aQL];have es:DG x=B3 i4 M3 [] x.2.1:=by simp [DG,hs]
   rw[<-es];rw[aQI (sW (n:=1000000000) (by simp only[aQG,aQJ,aQW];omega) oX)]
 by_cases ht:x.2.2.1=[]
 .have et:CA x=[]:=by simp [CA,ht]
  rw[aQO (by simp [ht]),a8K (ind:=i4) oY h.fld hn,aQL]
  iterate 2 rw[aQI (sW (n:=1000000000) (by simp only[aQG,aQJ,aQW];omega) oX)]
  unfold wN;rw[et,List.append_nil];simp only[aQR]
 .have e:=V1 (ind:=i4) (name:=QF) (attrs:=[]) oY oY oY h.tgt;rw[List.append_nil] at e;have et:CA x=B3 i4 QF [] x.2.2.1:=by simp [CA,ht]
  rw[aQI (by simpa using ht),e,aQL,<-et,aQI (sW (n:=1000000000) (by simp only[aQG,aQJ,aQW];omega) oX),a8K (ind:=i4) oY h.fld hn,aQL]
  iterate 2 rw[aQI (sW (n:=1000000000) (by simp only[aQG,aQJ,aQW];omega) oX)]
  unfold wN;simp only[aQR]
end
noncomputable section
abbrev aND:oT:=[60,99,97,116,97,108,111,103,32,116,97,103,61,34]
abbrev aNE:oT:=[10,60,101,110,116,114,105,101,115,62]
abbrev F1:oT:=[10,60,47,101,110,116,114,105,101,115,62,10,60,47,99,97,116,97,108,111,103,62,10]
def B4 (c:C4):oT:=(((aND++c.1)++[34,62])++(DF i2 c.2.1++M5 i2 c.2.2.1))++aNE
theorem aNF {c:C4}(h:DD c):(B4 c).length<=600000000:=by
 have h1:=JC (ind:=i2) oY h.com;have h2:=M6 (ind:=i2) oY h.fld;have h3:=h.tag;simp only[B4,aQG,aQJ,aQW];omega
theorem aNG {c:C4}(hok:wM c=true) {i:Nat}(hi:i<c.2.2.2.1.length): ∀f∈(c.2.2.2.1.getD i eD).2.2.2.2.2.2.1,xQ f.1=true:=by
 have h:=QB hok hi;unfold DA at h;simp only[aQU] at h;exact fun f hf=>((aHv h.2).2.1 f hf).1
theorem aHD {c:C4}(hc:DD c):C0 c=some (if wM c=true then(B4 c,c.2.2.2.1.map wN,F1,0) else([],[],[],1)):=by
 unfold C0;rw[aM9 hc.fitP,aQL];by_cases hok:wM c=true
 .have hl:=hc.len;have q1:=hc.tag;have h2:=JC (ind:=i2) oY hc.com;have h3:=M6 (ind:=i2) oY hc.fld;have k:=DE (f:=PW c) (fun i b=>(i,b)) (fun b=>b) (n:=c.2.2.2.1.length) (M:=1000000) (B:=1) (fun i=>[wN (c.2.2.2.1.getD i eD)]) (fun i hi=>by simp) [] oZ (fun i b hi hM=>by
   obtain⟨r0,r4⟩:=a8D (QB hok hi);unfold PW;dsimp only;rw[aQI (vI hi),aQI (tH hi),UX,aNB (hc.ent _ (C8 hi)) r0 r4,aQL,aQI oZ,aQI (vC oW)]) (fun b=>by
   unfold PW;dsimp only;rw[aQO (vP _)])
  rw[hok,aQO oX,aQI rfl,aQI (sW (n:=1000000000) (by simp only[aQG,aQJ,aQW];omega) oX),aQI (sW (n:=1000000000) (by simp only[aQG,aQJ,aQW];omega) oX),a8L (ind:=i2) oY hc.com hc.fld oY,aQL,List.append_nil]
  iterate 2 rw[aQI (sW (n:=1000000000) (by simp only[aQG,aQJ,aQW];omega) oX)]
  rw[k,EV (l:=c.2.2.2.1) (d:=eD) (fun x=>[wN x])];unfold sG;rw[aQL];rw[List.nil_append,aHu];rfl
 .simp only[aSc] at hok;rw[hok,aQI (show (!false)=true from rfl),aQO oX]
theorem aHE {c:C4}(hc:DD c):C2 c=some (if wM c=true then(B4 c,c.2.2.2.1.map wN,F1,0) else([],[],[],1)):=by
 unfold C2;rw[aNc hc.fitP,aQL];by_cases hok:wM c=true
 .have hl:=hc.len;have q1:=hc.tag;have h2:=JC (ind:=i2) oY hc.com;have h3:=M6 (ind:=i2) oY hc.fld;have hall:=aNm hok;have hfn: ∀f∈c.2.2.1,xQ f.1=true:=fun f hf=>((aHv hall.2.2.1).2.1 f hf).1;have k:=DE (f:=PX c) (fun i b=>(i,b)) (fun b=>b) (n:=c.2.2.2.1.length) (M:=1000000) (B:=1) (fun i=>[wN (c.2.2.2.1.getD i eD)]) (fun i hi=>by simp) [] oZ (fun i b hi hM=>by
   obtain⟨r0,r4⟩:=a8D (QB hok hi);unfold PX;dsimp only;rw[aQI (vI hi),aQI (tH hi),UX,aNC (hc.ent _ (C8 hi)) (aNG hok hi) r0 r4,aQL,aQI oZ,aQI (vC oW)]) (fun b=>by
   unfold PX;dsimp only;rw[aQO (vP _)])
  rw[hok,aQO oX,aQI rfl,UZ oW,aNr hall.1,aQL,aQI (sW (n:=1000000000) (by simp only[aQG,aQJ,aQW];omega) oX),aQI (sW (n:=1000000000) (by simp only[aQG,aQJ,aQW];omega) oX),aHz (ind:=i2) oY hc.com,aQL,aQI (sW (n:=1000000000) (by simp only[aQG,aQJ,aQW];omega) oX),a8K (ind:=i2) oY hc.fld hfn,aQL]
  iterate 2 rw[aQI (sW (n:=1000000000) (by simp only[aQG,aQJ,aQW];omega) oX)]
  rw[k,EV (l:=c.2.2.2.1) (d:=eD) (fun x=>[wN x])];unfold sG;rw[aQL];rw[List.nil_append,aHu];unfold B4;simp only[aQR]
 .simp only[aSc] at hok;rw[hok,aQI (show (!false)=true from rfl),aQO oX]
theorem aHF {c:C4}(hc:DD c) (hok:wM c=true): ∀x∈([B4 c]++c.2.2.2.1.map wN)++[F1],x.length<=1000000000:=by
 intro x hx;simp only[aRF,aQ2,List.mem_map] at hx;rcases hx with(rfl|⟨y,hy,rfl⟩) |rfl
 .have:=aNF hc;omega
 .obtain⟨i,hi,rfl⟩:=aR9 hy;have he:=QB hok hi;rw[aQ9,aQM hi] at he;obtain⟨r0,r4⟩:=a8D he;have:=aNA (hc.ent _ hy) r0 r4;omega
 .simp
def M8 (c:C4):oT:=EW (B4 c) (c.2.2.2.1.map wN) F1
theorem zFl {α : Type} {B : Nat} : ∀ {l : List (List α)}, (∀ x ∈ l, x.length ≤ B) → l.flatten.length ≤ l.length * B
  | [], _ => by simp
  | x :: l, h => by
    have h1 := h x List.mem_cons_self
    have h2 := zFl (l := l) fun y hy => h y (List.mem_cons_of_mem _ hy)
    rw [List.flatten_cons, List.length_append, List.length_cons, Nat.succ_mul]
    omega
theorem aNH {c:C4}(hc:DD c) (hok:wM c=true):(M8 c).length<=1002000000000:=by
 have hl:=hc.len
 have e:M8 c=(([B4 c]++c.2.2.2.1.map wN)++[F1]).flatten:=by
  unfold M8 EW;rw[List.flatten_append,List.flatten_append];simp only[List.flatten_cons,List.flatten_nil,List.append_nil,List.append_assoc]
 have hk:=zFl (aHF hc hok)
 rw[← e] at hk;simp only[List.length_append,List.length_singleton,List.length_map] at hk;omega
theorem aNI {c:C4}(hc:DD c):GL c=some (if wM c=true then(M8 c,0) else([],1)):=by
 unfold GL;rw[aHD hc,aQL];by_cases hok:wM c=true
 .have hl:=hc.len;have:=aNH hc hok;rw[aQI hok,aQI hok];dsimp only;rw[aHt (B4 c,(c.2.2.2.1.map wN,(F1,()))) oZ (by show (M8 c).length<=_;omega),aQL];rfl
 .rw[aQO hok,aQO hok];dsimp only;rw[aHt ([],([],([],()))) oY (by simp [EW]),aQL];rfl
theorem aNJ {c:C4}(hc:DD c):GM c=some (if wM c=true then(M8 c,0) else([],1)):=by
 unfold GM;rw[aHE hc,aQL];by_cases hok:wM c=true
 .have hl:=hc.len;rw[aQI hok,aQI hok];dsimp only;rw[aQO (show¬(!decide ((0:Int)=0))=true from by decide),aNf (B4 c,(c.2.2.2.1.map wN,(F1,()))) oZ (fun x hx=>by have:=aHF hc hok x hx;omega),aQL];rfl
 .rw[aQO hok,aQO hok];dsimp only;rw[aQI (show (!decide ((1:Int)=0))=true from by decide)]
theorem aNK:LT=some true:=by kernel_rfl
theorem aNL {c:C4}(hc:UY c):J7 c=some true:=by
 unfold J7;rw[aNK,aQL,aQO oX];obtain⟨b,hb,hf⟩:=aNe hc;rw[hb,aQL];cases b with
 |false=>rw[aQI (show (!false)=true from rfl)]
 |true=>
  have hw:=hf rfl;rw[aQO oX,aNI hw,aNJ hw,aHD hw,aHE hw];simp only[aQL];obtain⟨d,hd⟩: ∃d,(if wM c=true then(B4 c,c.2.2.2.1.map wN,F1,(0:Int)) else([],[],[],1))=d:=⟨_,rfl⟩;have hdl:d.2.1.length<=5000:=by
   have hl:=hw.len;rw[<-hd];split
   .simp;omega
   .simp
  have hS:=aM7 (d.1,(d.2.1,(d.2.2.1,()))) hdl;rw[hd,hS,aQI aM1];simp [val]
end
end Go.Proofs.YtkpflnijijccpaaGreatDoor
namespace Go.Proofs.YtkpflnijijccpaaGreatDoor
open Go.ChangeShapes Go.WideShapes Go.ChangeAt Go.RowKit
section
variable {H:Type}{enc:TypeId×pC->H}{P:Program}
theorem aNM (hl:laidOutB P=true) {W W':pB}(hb:Below W.heap.size W W'):
  ∀{ts:List TypeId}{vs:p7}{ds:List (DataW H)}{ps:List MemPlace},(∀t∈ts,P.readableRec t=true/\t<P.types.size)->
  DataW.TrodAll enc P W 0 (fun _=>true) true ts vs ds ps->(∀x∈ps,x.block<W.heap.size)->
  DataW.TrodAll enc P W' 0 (fun b=>decide (b<W.heap.size)) true ts vs ds ps:=by
 intro ts
 induction ts with
 |nil=>
  intro vs ds ps _ h _;obtain⟨rfl,rfl,rfl⟩:=trodAll_nil h;exact trodAll_mk0
 |cons t ts ih=>
  intro vs ds ps hr h hlt;obtain⟨v,vs',d,ds',p,q,rfl,rfl,rfl,h0,r0⟩:=trodAll_cons h;exact trodAll_cons_mk (Below.trod hl (hr t oY).1 (hr t oY).2 h0 hb (fun x hx=>hlt x (by simp [hx]))) (ih (fun t' ht'=>hr t' (by simp [ht'])) r0 (fun x hx=>hlt x (by simp [hx])))
theorem aNN {f:Func}{s:ChangeSpec}{W W':pB}{args:Array pC}{ds gs:List (DataW H)}{before:List MemPlace}{tb:TypeId}
  (hl:laidOutB P=true) (hr: ∀t∈f.params.toList,P.readableRec t=true/\t<P.types.size)
  (hW:DataW.Whole enc P f.params.toList s.vars false W args.toList ds gs before) (hv:s.vars=[])
  (hfn:s.fn H ds={results:=[.lit (.bool true)],args:=ds}) (hrt:f.resultTypes= #[tb]) (htb:P.underlying tb=some .bool)
  (hb:Below W.heap.size W W'):s.post enc P f false true false false W args (.bool true) W':=by
 have hW':=hW;obtain⟨p,q,hA,hV,rfl,hfz,hnd⟩:=hW;rw[hv] at hV;obtain⟨rfl,rfl⟩:=trodVars_none hV;have hlt: ∀x∈p,x.block<W.heap.size:=fun x hx=>by simpa using hW'.lt x (by simp [hx])
 refine⟨ds,[],p++[],[],p,[],hW',?_,?_,?_,hb.frame _,fun h=>by cases h⟩
 .rw[List.append_nil,hfn,hrt];exact trodAll_mk1 (shut_bool htb true)
 .rw[List.append_nil,hfn];exact aNM hl hb hr hA hlt
 .rw[hv,List.append_nil,hfn];rfl
end
section
variable {H:Type}{enc:TypeId×pC->H}
theorem aNO {C:Checked}{f:FuncId}{fn:Func}{s:ChangeSpec}{tb:TypeId}{F2:List (String×DataW Unit)}(own:ownKnob C.prog.godebug=none) {os:Os}(started:os.Started) (F:Stop.Interp)
  (noInit:C.prog.inits.idxOf? f=none) (hfn:C.prog.funcs[f]? =some fn)
  (hl:laidOutB C.prog=true) (hr: ∀t∈fn.params.toList,C.prog.readableRec t=true/\t<C.prog.types.size) (hv:s.vars=[])
  (hrt:fn.resultTypes= #[tb]) (htb:C.prog.underlying tb=some .bool)
  (hspec: ∀(ds:List (DataW H)) (W:pB) (args:Array pC) ps,DataW.TrodAll enc C.prog W 0 (fun _=>true) true fn.params.toList args.toList ds ps->s.fn H ds={results:=[.lit (.bool true)],args:=ds})
  (witness: ∃(w:pB) (tape:Tape) (i:Input),w.os=os/\(w.forCall tape i).Shaped C.prog/\i.vars=[]/\Input.okWide C.prog (w.forCall tape i) .any w.heap.size f i/\
   (OpenSpec.ofChange s).preRow enc C.prog fn [] false F2 (w.forCall tape i).memory i.args/\Assume.holds {} C.prog (lone (Frame.enter C.prog f i.args .normal) [] (w.forCall tape i)))
  (contract: ∀(W:pB) (base:Nat) (args:Array pC) (ds:List (DataW H)) (ps:List MemPlace),
   (∀(j:Nat) t v,fn.params[j]? =some t->args[j]? =some v->Value.okWide C.prog W .any base t v)->
   DataW.TrodAll enc C.prog W 0 (fun _=>true) true fn.params.toList args.toList ds ps->
   (∀x∈ps,x.block<W.heap.size)->(DataW.weightsEach C.prog fn.params.toList ds).all (·<=reachBytes)=true->laidMetH C.prog F2 W->W.ShapedOpen C.prog->
   Calls C.prog f args W fun e W'=>e= .returned (.bool true)/\Below W.heap.size W W'):
  ReturnsInHanded {} C os f .any ((OpenSpec.ofChange s).preRow enc C.prog fn [] false F2) (s.post enc C.prog fn false true false false):=by
 refine returnsInHanded_of_row (C:=C) (s:=OpenSpec.ofChange s) (F:=F) own started noInit hfn witness ?_;intro W base args ds gs before hval hW _ _ hsz hL hsh _;have hW':=hW;obtain⟨p,q,hA,hV,rfl,hfz,hnd⟩:=hW;have hV':DataW.TrodVars enc C.prog W (fun _=>true) s.vars gs q:=hV;rw[hv] at hV';obtain⟨rfl,rfl⟩:=trodVars_none hV';have hlt: ∀x∈p,x.block<W.heap.size:=fun x hx=>by simpa using hW'.lt x (by simp [hx])
 have hvt:(OpenSpec.ofChange s).bare.plain.varTypes C.prog=[]:=by
  simp [OpenSpec.ofChange,ChangeSpec.plain,hv];rfl
 rw[hvt,List.append_nil,List.append_nil] at hsz;refine(contract W base args ds p hval hA hlt hsz hL hsh).mono fun e W' ⟨he,hb⟩=> ?_;subst he;exact⟨_,rfl,aNN hl hr hW' hv (hspec ds W args p hA) hrt htb hb⟩
end
end Go.Proofs.YtkpflnijijccpaaGreatDoor
namespace Go.Proofs.YtkpflnijijccpaaGreatDoor
open Go.Shelf Go.Lib
open Vc
theorem aNP:(Rows.laid_unicode_utf8_first:DataW Unit)=Lib.firstData:=by kernel_rfl
theorem aNQ:(Rows.laid_unicode_utf8_acceptRanges:DataW Unit)=Lib.acceptData:=by kernel_rfl
def aNR:p6:=[0,1,56,2,57,49,28,3,61,58,42,50,38,29,17,4,62,47,59,36,45,43,51,22,53,39,33,30,24,18,12,5,63,55,48,27,60,41,37,16,46,35,44,21,52,32,23,11,54,26,40,15,34,20,31,10,25,14,19,9,13,8,7,6]
theorem aNS:(Rows.laid_internal_strconv_uint64pow10:DataW Unit)=Lib.tabData .u64 Lib.pow10Tab:=by kernel_rfl
theorem aNT:(Rows.laid_strings_asciiSpace:DataW Unit)=Lib.tabData .u8 Lib.asciiSpaceTab:=by kernel_rfl
theorem aNU {P:Program}{w:pB}{g:Nat}{t:TypeId}{k:IntKind}{zero:Array pC}(h:w.ShapedOpen P) (hg:g<P.globals.size)
  (h0:((begin P (fun _ _=>0) default).world.heap[g]?).bind Obj.row? =some (zero,t)) (hz:zero.size=1)
  (hb:P.buildable t=true) (hc:P.cellTypes P.depth t=some [t]) (hu:P.underlying t=some (.int k)): ∃m,w.cell? ⟨g,0,none⟩=some (.int k m):=by
 obtain⟨cs,hh,hs,hr⟩:=h.1 g zero t hg h0;obtain⟨ts,hts,_,hall⟩:=hr hb;rw[hc] at hts;cases hts;have h1:0<cs.size:=by omega
 obtain⟨u,hu',hok⟩:=hall 0 cs[0] (by simp [h1]);have:u=t:=by simpa using hu'.symm
 subst this;have hcell:w.cell? ⟨g,0,none⟩=some cs[0]:=by simp [World.cell?,hh,h1]
 rw[hcell];unfold Cell.ok at hok;rw[hu] at hok;cases hv:cs[0]<;>rw[hv] at hok<;>simp at hok
 rename_i k' m;exact⟨m,by rw[hok.1]⟩
theorem aNV {W:pB}(hsh:W.ShapedOpen Tryz.prog): ∃m,W.cell? ⟨1,0,none⟩=some (.int .i64 m):=
 aNU (t:=3) (zero:= #[.int .i64 0]) hsh (aRk pE) pE rfl pE pE Tryz.underlying3
def aNW:Ren:=⟨fun x=>x,fun x=>if x=5 then 5 else if x=119 then 182 else if x=138 then 229 else 230,fun x=>if x=3 then 3 else 4⟩
theorem aHG {P:Program}{w:pB}{n:String}{g:Nat}{cs:Array pC}(hg:P.globalNamed n=some g) (h:w.var? P n=some cs): ∃e fz,w.heap[g]? =some (.cells cs e fz):=by
 unfold World.var? at h;rw[hg,aQL] at h;split at h
 .rename_i cs' e fz hh;cases h;exact⟨e,fz,hh⟩
 .cases h
theorem aNX {W:pB}(hL:laidMet Tryz.prog Rows.elementsPrintRow.laid W) (hsh:W.ShapedOpen Tryz.prog):AE W:=by
 obtain⟨m,hm⟩:=aNV hsh;have hp:=laidMet.reads hL (.tail _ (.tail _ (.head _)));have h1:=laidMet.reads hL (.tail _ (.tail _ (.tail _ (.head _))));have hs:=laidMet.reads hL (.tail _ (.tail _ (.tail _ (.tail _ (.tail _ (.head _))))));have h2:=laidMet.reads hL (.tail _ (.tail _ (.tail _ (.tail _ (.tail _ (.tail _ (.head _)))))));rw[aNS] at hp;rw[aNT] at hs;rw[aNP] at h2;rw[aNQ] at h1;have hU:Lib.Utf8Tabs 3 4 W:=utf8Tabs_of_readsT (ρ:=aNW) ⟨pE,pE,pE,pE⟩ ⟨pE,pE,pE,pE,pE,pE,pE⟩ h2 h1;have hP: ∃e fz,W.heap[5]? =some (.cells (Lib.pow10Tab.map fun z=>Value.int .u64 z).toArray e fz):=by
  obtain⟨g,t,cs,fuel,p,hg,ht,hv,hd⟩:=hp;have hg0:Tryz.prog.globalNamed "internal/strconv.uint64pow10" =some 5:=by kernel_rfl
  have ht0:(Tryz.prog.globals[5]?).map (·.type)=some 267:=by kernel_rfl
  obtain rfl:=aQH (hg0.symm.trans hg);obtain rfl:=aQH (ht0.symm.trans ht);have hc:=cells_of_tab Tryz.underlying267 Tryz.underlying207 pE pE hd;rw[<-hc];exact aHG hg hv
 have hS: ∃e fz,W.heap[0]? =some (.cells (Lib.asciiSpaceTab.map fun z=>Value.int .u8 z).toArray e fz):=by
  obtain⟨g,t,cs,fuel,p,hg,ht,hv,hd⟩:=hs;have hg0:Tryz.prog.globalNamed "strings.asciiSpace" =some 0:=by kernel_rfl
  have ht0:(Tryz.prog.globals[0]?).map (·.type)=some 182:=by kernel_rfl
  obtain rfl:=aQH (hg0.symm.trans hg);obtain rfl:=aQH (ht0.symm.trans ht);have hc:=cells_of_tab Tryz.underlying182 Tryz.underlying5 pE pE hd;rw[<-hc];exact aHG hg hv
 refine⟨?_,hU,⟨m,hm⟩,fun x hx=> ?_⟩
 .obtain⟨e,fz,h⟩:=hP;have b0:5<W.heap.size:=(aQ1.1 h).1;show 6<=W.heap.size;omega
 .unfold a8U at hx;simp only[aQV,aSb,or_false] at hx;rcases hx with rfl|rfl
  .exact⟨oX,hP⟩
  .exact⟨oX,hS⟩
noncomputable def V2 (os:Os):pB:=
 let N:=(World.settled Tryz.prog os).heap.size
 let w0:=World.holding Tryz.prog os ⟨#[.cells (Lib.whiteT.map fun(z:Nat)=>Value.int .u16 (z:Int)).toArray 241,.cells #[.slice (some ⟨N,0,none⟩) 7 7,.slice none 0 0,.int .i64 2] 238],#[],[]⟩
 let sL (h:Array Obj) (g:Nat) (cs:Array pC):Array Obj:=h.modify g fun
  | .cells _ t frozen=> .cells cs t frozen
  |o=>o
 let h1:=sL w0.heap 3 (Lib.firstTab.map fun z=>Value.int .u8 z).toArray
 let h2:=sL h1 4 ((List.range 16).flatMap fun i=>[Value.int .u8 (Lib.accLo i),Value.int .u8 (Lib.accHi i)]).toArray
 let h3:=sL h2 7 (aNR.map fun z=>Value.int .u8 z).toArray
 let h4:=sL h3 6 (([0,1,28,2,29,14,24,3,30,22,20,15,25,17,4,8,31,27,13,23,21,19,16,7,26,12,18,6,11,5,10,9]:p6).map fun z=>Value.int .u8 z).toArray
 let h5:=sL h4 5 ((List.range 20).map fun i=>Value.int .u64 (10^i)).toArray
 let h6:=sL h5 0 (Lib.asciiSpaceTab.map fun z=>Value.int .u8 z).toArray
 let h7:=sL h6 2 #[.pointer (some ⟨N+1,0,none⟩)]
 {w0 with heap:=h7}
theorem aNY (os:Os) (args:Array pC):laidMet Tryz.prog Rows.elementsPrintRow.laid ((V2 os).forCall (fun _ _=>0) ⟨#[],args,[]⟩).memory:=
 laidMet_of_run3 10 pE pE pE
end Go.Proofs.YtkpflnijijccpaaGreatDoor
namespace Go.Proofs.YtkpflnijijccpaaGreatDoor
open Vc Go.RowKit
inductive a8R where
 |ty (t:TypeId) |fs (o:Nat) (l:List Field)
inductive wO (P:Program):a8R->Ty->Prop
 |bool {t}:P.underlying t=some .bool->wO P (.ty t) .bool
 |int {t k}:P.underlying t=some (.int k)->wO P (.ty t) (.int k)
 |str {t}:P.underlying t=some .string->wO P (.ty t) .str
 |list {t e u}:P.underlying t=some (.slice e)->P.cellsOf e=u.cells->0<u.cells->0<P.bytesOf e->wO P (.ty e) u->wO P (.ty t) (.list u)
 |struct {t fs ty}:ty.isRow=true->P.underlying t=some (.struct fs)->P.cellsOf t=ty.cells->wO P (.fs 0 fs.toList) ty->wO P (.ty t) ty
 |nil {o}:wO P (.fs o []) .unit
 |cons {o}{f:Field}{r a b}:f.offset=o->P.cellsOf f.type=a.cells->wO P (.ty f.type) a->wO P (.fs (o+a.cells) r) b->wO P (.fs o (f::r)) (.pair a b)
def Bd:(t:Ty)->t.den->Prop
 | .str,s=>List.length s<=140737488351232
 | .int k,n=>(Lit.int k n).wf=true
 | .list u,l=>List.length l<=140737488351232/\∀x:u.den,x∈(l:List u.den)->Bd u x
 | .pair a b,x=>Bd a x.1/\Bd b x.2
 |_,_=>True
def GW (w:pB):Gh:=⟨fun b _=>b<w.heap.size,fun _=>none,fun _ _=>none⟩
theorem aHH {α:Type}{R:α->p7->Prop}{w:pB}{S:Nat->Nat->Prop}{c b:Nat}: ∀{l:List α}{o:Nat},(∀i x,l[i]? =some x->∃cs,cs.length=c/\w.rangeAt b (o+i*c) cs/\(∀j,j<c->S b (o+i*c+j))/\R x cs)->wQ R w S c b o l
 |[],_,_=>trivial
 |x::l,o,h=>by
  refine⟨?_,aHH fun i y hy=> ?_⟩
  .obtain⟨cs,h1,h2,h3,h4⟩:=h 0 x rfl;exact⟨cs,h1,by simpa using h2,by simpa using h3,h4⟩
  .obtain⟨cs,h1,h2,h3,h4⟩:=h (i+1) y (by simpa using hy);have e:o+(i+1)*c=o+c+i*c:=by rw[aRB];omega
   exact⟨cs,h1,by rw[<-e];exact h2,by rw[<-e];exact h3,h4⟩
section
variable {H:Type}{enc:TypeId×pC->H}{P:Program}{W:pB}
theorem aHI {e:TypeId}: ∀{l:List (DataW H)}{i:Nat}{d:DataW H},l[i]? =some d->∀n∈d.weights P e,n∈DataW.weightsAll P e l
 |d0::l,0,d,h,n,hn=>by
  simp only[aQ8,aQE] at h;subst h;simp only[DataW.weightsAll,aRF];exact .inl hn
 |d0::l,i+1,d,h,n,hn=>by
  simp only[aRi] at h;simp only[DataW.weightsAll,aRF];exact .inr (aHI h n hn)
 |[],_,_,h,_,_=>by simp at h
def aNZ (enc:TypeId×pC->H) (P:Program) (W:pB):a8R->Ty->Prop
 | .ty t,u=> ∀(fuel:Nat) (cs:p7) (y:DataW H×List MemPlace),DataW.trod enc P W 0 (fun _=>true) true fuel t cs=some y->(∀n∈y.1.weights P t,n<=reachBytes)->∃x:u.den,Rd (GW W) W u x cs/\Bd u x
 | .fs o l,u=> ∀(fuel:Nat) (cs:p7) (xs:List (DataW H×List MemPlace)),cs.length=o+u.cells->xs.length=l.length->(∀(i:Nat) (f:Field),l[i]? =some f->DataW.trod enc P W 0 (fun _=>true) true fuel f.type ((cs.drop f.offset).take (P.cellsOf f.type))=xs[i]?)->(∀n∈DataW.weightsEach P (l.map (·.type)) (xs.map (·.1)),n<=reachBytes)->∃x:u.den,Rd (GW W) W u x (cs.drop o)/\Bd u x
theorem aN0 {e:TypeId}{u:Ty}{a:Addr}{len cap:Nat}(hc:P.cellsOf e=u.cells) (hpos:0<u.cells) (hcap:len<=cap)
  (each: ∀i,i<len->∃(cs:p7) (x:u.den),W.cells? 0 (a.add (i*u.cells)) u.cells=some cs/\Rd (GW W) W u x cs/\Bd u x):
  ∃l:List u.den,l.length=len/\Rd (GW W) W (.list u) l [.slice (some a) len cap]/\∀x∈l,Bd u x:=by
 have build: ∀k,k<=len->∃l:List u.den,l.length=k/\∀i x,l[i]? =some x->∃cs:p7,W.cells? 0 (a.add (i*u.cells)) u.cells=some cs/\Rd (GW W) W u x cs/\Bd u x:=by
  intro k
  induction k with
  |zero=>intro _;exact⟨[],rfl,fun i x h=>by simp at h⟩
  |succ k ih=>
   intro hk;obtain⟨l,h1,h2⟩:=ih oW;obtain⟨cs,x,h3,h4⟩:=each k oW;refine⟨l++[x],by simp [h1],fun i y hy=> ?_⟩;rw[List.getElem?_append] at hy;split at hy
   .exact h2 i y hy
   .rename_i hi;obtain⟨j,hj⟩: ∃j,i=l.length+j:=⟨i-l.length,oW⟩;subst hj;rw[aRr] at hy;cases j with
    |zero=>
     simp only[aQ8,aQE] at hy;subst hy;exact⟨cs,by rw[aRL,h1];exact h3,h4⟩
    |succ j=>simp at hy
 obtain⟨l,hll,hle⟩:=build len (aQ4 _);refine⟨l,hll,?_,fun x hx=> ?_⟩
 .subst hll;by_cases hl0:l=[]
  .subst hl0;exact⟨some a,cap,rfl,hcap,.inl rfl⟩
  .obtain⟨b,off,spot⟩:=a;have hlp:0<l.length:=aR8.2 hl0;have hspot:spot=none:=by
    obtain⟨cs,x,h3,_⟩:=each 0 hlp;have h4:=(World.cells?_some h3).2.2 0 hpos;have hlen0:=(World.cells?_some h3).2.1;rw[aQM oW] at h4;simpa[Addr.add] using World.cell?_spot h4
   subst hspot;refine⟨_,cap,rfl,hcap,.inr ⟨b,off,rfl,aHH fun i x hx=> ?_⟩⟩;obtain⟨cs,h3,h4,_⟩:=hle i x hx;obtain⟨_,h5,h6⟩:=World.cells?_some h3;have hcell: ∀j v,cs[j]? =some v->W.cell? ⟨b,off+i*u.cells+j,none⟩=some v:=by
    intro j v hv;have hj:j<u.cells:=by have:=(aQP.1 hv).1;omega
    have:=h6 j hj;rw[hv] at this;rw[aSj,aSj] at this;exact this
   refine⟨cs,h5,hcell,fun j hj=> ?_,h4⟩;exact Vc.S6 (hcell 0 _ (aQM oW))
 .obtain⟨i,hi,he⟩:=aR9 hx;obtain⟨cs,h3,h4,h5⟩:=hle i x (by rw[aQM hi,he]);exact h5
theorem aN1 {ix:a8R}{u:Ty}(h:wO P ix u):aNZ enc P W ix u:=by
 induction h with
 |bool ht=>
  intro fuel cs y hy _;obtain⟨b,rfl,_⟩:=DataW.trod_bool ht hy;exact⟨b,rfl,trivial⟩
 |int ht=>
  intro fuel cs y hy _;obtain⟨n,rfl,_,hw⟩:=DataW.trod_int ht hy;exact⟨n,rfl,hw⟩
 |str ht=>
  intro fuel cs y hy hw;obtain⟨s,rfl,rfl,_⟩:=DataW.trod_string ht hy;refine⟨s.data.toList,by show [Value.string s]=[Value.string ⟨s.data.toList.toArray⟩];rw[aRQ],?_⟩;exact hw _ (by simp [DataW.weights])
 | @list t e u ht hc hpos hb _ ih=>
  intro fuel cs y hy hw;rcases DataW.trod_slice ht hy with⟨rfl,_⟩ |⟨a,len,cap,elems,rest,n,_,rfl,rfl,_,hl,_,hlen,hall,_,_⟩
  .exact⟨[],⟨none,0,rfl,aQ4 _,.inl rfl⟩,by simp,fun x hx=>by cases hx⟩
  .have hws:DataW.weights P t (.slice (elems.map (·.1)) (rest.map (·.1)))=((elems.map (·.1)).length+(rest.map (·.1)).length)*P.bytesOf e::(DataW.weightsAll P e (elems.map (·.1))++DataW.weightsAll P e (rest.map (·.1))):=by
    simp [DataW.weights,ht]
   rw[hws] at hw;have hn:=hw _ aQ3;obtain⟨l,h1,h2,h3⟩:=aN0 (W:=W) (a:=a) (cap:=cap) hc hpos hl fun i hi=>by
    have h1:=hall i hi;rw[hc,aQM oW,Option.bind_eq_some_iff] at h1;obtain⟨cs,h2,h3⟩:=h1;obtain⟨x,hx⟩:=ih n cs _ h3 fun m hm=>hw m (by
     refine aQZ _ (aRF.2 (.inl (aHI (i:=i) ?_ m hm)));rw[List.getElem?_map,aQM oW];rfl)
    exact⟨cs,x,h2,hx⟩
   refine⟨l,h2,?_,h3⟩;have:elems.length<=(elems.length+rest.length)*P.bytesOf e:=by
    calc elems.length<=(elems.length+rest.length)*1:=by omega
     _<=_:=Nat.mul_le_mul_left _ hb
   simp only[aSw] at hn;have hr:reachBytes=140737488351232:=rfl;show l.length<=_;omega
 |struct hrow ht hcl _ ih=>
  intro fuel cs y hy hw;obtain⟨xs,n,rfl,rfl,hl,hlen,hf⟩:=DataW.trod_struct ht hy;have:=ih n cs xs (by rw[hl,hcl];omega) (by rw[hlen];simp) (fun i f hi=>hf i f (by simpa using hi)) fun m hm=>hw m (by simpa[DataW.weights,ht] using hm);rwa [aSd] at this
 |nil=>
  intro fuel cs xs hl _ _ _;refine⟨(),?_,trivial⟩;show cs.drop _=[];exact List.drop_of_length_le (by simp [Ty.cells] at hl;omega)
 | @cons o f r a b ho hc _ _ iha ihb=>
  intro fuel cs xs hl hx hf hw;cases xs with
  |nil=>simp at hx
  |cons x0 xs=>
   have h0:=hf 0 f rfl;rw[hc,ho] at h0;obtain⟨xa,ra,ba⟩:=iha fuel _ x0 h0 fun m hm=>hw m (by simp only[aRP,DataW.weightsEach,aRF];exact .inl hm);obtain⟨xb,rb,bb⟩:=ihb fuel cs xs (by simp only[Ty.cells] at hl;omega) (by simpa using hx) (fun i f' hi=>by have:=hf (i+1) f' (by simpa using hi);simpa using this) fun m hm=>hw m (by simp only[aRP,DataW.weightsEach,aRF];exact .inr hm);refine⟨(xa,xb),⟨_,_,(aR2 a.cells (cs.drop o)).symm,ra,?_⟩,ba,bb⟩;rw[List.drop_drop];exact rb
theorem aN2 {t:TypeId}{u:Ty}{base:Nat}{v:pC}{d:DataW H}{ps:List MemPlace}(h:wO P (.ty t) u) (hok:Value.okWide P W .any base t v) (hT:DataW.Trod enc P W 0 (fun _=>true) true t v d ps) (hw: ∀n∈d.weights P t,n<=reachBytes): ∃x:u.den,sM (GW W) W u x v/\Bd u x:=by
 obtain⟨fuel,hf⟩:=hT;obtain⟨x,hx,hb⟩:=aN1 (enc:=enc) (W:=W) h fuel _ _ hf hw;refine⟨x,?_,hb⟩;cases h with
 |bool ht=>obtain⟨b,rfl⟩:=Go.WideShapes.okWide_bool ht hok;exact .inr ⟨rfl,hx⟩
 |int ht=>obtain⟨b,rfl⟩:=Go.WideShapes.okWide_int ht hok;exact .inr ⟨rfl,hx⟩
 |str ht=>obtain⟨b,rfl⟩:=Go.WideShapes.okWide_string ht hok;exact .inr ⟨rfl,hx⟩
 |list ht=>obtain⟨a,l,c,rfl⟩:=Go.WideShapes.okWide_slice ht hok;exact .inr ⟨rfl,hx⟩
 |struct hrow ht=>obtain⟨cs,rfl,_⟩:=Go.WideShapes.okWide_struct ht hok;exact .inl ⟨hrow,cs.toList,by rw[aRQ],hx⟩
end
end Go.Proofs.YtkpflnijijccpaaGreatDoor
namespace Go.Proofs.YtkpflnijijccpaaGreatDoor
open Vc
open Go.ChangeShapes Go.WideShapes Go.ChangeAt Go.RowKit
theorem JE:wO Tryz.prog (.ty 9) .str:= .str Tryz.underlying9
theorem a8S:wO Tryz.prog (.ty 24) (.list .str):= .list Tryz.underlying24 pE oX (aRk pE) JE
theorem aN3:wO Tryz.prog (.ty 111) (.pair .str (.pair .str .unit)):=by
 refine .struct rfl Tryz.underlying111 pE ?_;exact .cons rfl pE JE (.cons rfl pE JE .nil)
theorem aHJ:wO Tryz.prog (.ty 33) (.list (.pair .str (.pair .str .unit))):= .list Tryz.underlying33 pE oX (aRk pE) aN3
theorem aN4:wO Tryz.prog (.ty 53) rN:=by
 refine .struct rfl Tryz.underlying53 pE ?_;exact .cons rfl pE JE (.cons rfl pE JE (.cons rfl pE JE (.cons rfl pE a8S (.cons rfl pE a8S (.cons rfl pE (.int Tryz.underlying3) (.cons rfl pE aHJ .nil))))))
theorem aN5:wO Tryz.prog (.ty 34) (.list rN):= .list Tryz.underlying34 pE oX (aRk pE) aN4
theorem aN6:wO Tryz.prog (.ty 36) vM:=by
 refine .struct rfl Tryz.underlying36 pE ?_;exact .cons rfl pE JE (.cons rfl pE a8S (.cons rfl pE aHJ (.cons rfl pE aN5 .nil)))
theorem aN7 {x:vD}(h:Bd rN x):a8B x:=by
 obtain⟨h1,h2,h3,⟨h4,k4⟩,⟨h5,k5⟩,_,⟨h7,k7⟩,_⟩:=h;exact⟨h1,h2,h3,⟨h4,k4⟩,⟨h5,k5⟩,h7,fun y hy=>⟨(k7 y hy).1,(k7 y hy).2.1⟩⟩
theorem aN8 {c:C4}(h:Bd vM c):UY c:=by
 obtain⟨h1,⟨h2,k2⟩,⟨h3,k3⟩,⟨h4,k4⟩,_⟩:=h;exact⟨h1,⟨h2,k2⟩,⟨h3,fun y hy=>⟨(k3 y hy).1,(k3 y hy).2.1⟩⟩,fun x hx=>aN7 (k4 x hx)⟩
theorem aN9 {W:pB}(hT:AE W) (v:pC) (c:C4) (hv:sM (GW W) W vM c v) (hB:Bd vM c):
  Calls Tryz.prog 4 #[v] W fun e W'=>e= .returned (.bool true)/\Below W.heap.size W W':=by
 have hC:a8o (Q2 c) UN=some (LU c):=aMv _;have ht:=aNL (aN8 hB);refine(aMx.1.2 (GW W) W (Q2 c) [v] [] _ ⟨(fun i b h=>by cases h),(fun i j bi bj b o _ h=>by cases h),fun b o h=>h,hT,(fun i blk b o h=>by cases h)⟩ ⟨v,[],rfl,⟨hv,trivial⟩,rfl⟩ hC ?_).mono fun e W' ⟨v,g',he,r⟩=> ?_
 .intro p hp;have:p=((J7 c).isSome=true):=by simpa[LU] using hp
  rw[this,ht];rfl
 .have hv:v= .bool true:=by
   have h1:=r.ret;unfold LU at h1;rw[ht] at h1;exact uI h1.1
  subst hv;exact⟨he,⟨r.fr.os,r.fr.tape,r.fr.output,r.fr.size,fun k hk=>r.fr.blk k hk (fun o ⟨i,blk,hi,_⟩=>by cases hi)⟩⟩
end Go.Proofs.YtkpflnijijccpaaGreatDoor
namespace Go.Proofs.YtkpflnijijccpaaGreatDoor
open Go.ChangeShapes Go.WideShapes Go.ChangeAt Go.RowKit Go.Lib
theorem aOa:(Rows.elementsPrintRow.inPlace==Tryz.prog.inPlace 4)=true:=by kernel_rfl
theorem aOb:(Rows.elementsPrintRow.unfollowed==Tryz.prog.unfollowed 4)=true:=by kernel_rfl
theorem aOc:(Rows.elementsPrintRow.recurses==Tryz.prog.recurses 4)=true:=by kernel_rfl
theorem aOd:(Rows.elementsPrintRow.named==Tryz.prog.varsNamed 4)=true:=by kernel_rfl
theorem aOe:joinedFacts Tryz.prog 4 Tryz.f4 Rows.elementsPrintSpec Rows.elementsPrintRow=true:=by
 unfold joinedFacts;rw[aOa,aOb,aOc,aOd]
 kernel_rfl
namespace elementsPrintLaw
theorem own:ownKnob Tryz.prog.godebug=none:=by kernel_rfl
theorem F2:laidOutB Tryz.prog=true:=by kernel_rfl
theorem aOf:Tryz.prog.readableRec 36=true:=by kernel_rfl
theorem ltC:36<Tryz.prog.types.size:=aRk pE
def QJ:pC:= .agg #[.string ⟨#[]⟩,.slice none 0 0,.slice none 0 0,.slice none 0 0]
theorem aOh (os:Os) {H:Type}(enc:TypeId×pC->H):
  (OpenSpec.ofChange Rows.elementsPrintSpec).preRow enc Tryz.prog Tryz.f4 [] false Rows.elementsPrintRow.laid ((V2 os).forCall (fun _ _=>0) ⟨#[],#[QJ],[]⟩).memory #[QJ]:=by
 have hw:(DataW.whole enc Tryz.prog ((V2 os).forCall (fun _ _=>0) ⟨#[],#[QJ],[]⟩).memory Tryz.f4.params.toList (OpenSpec.ofChange Rows.elementsPrintSpec).vars false #[QJ].toList 8).map (fun x=>(x.1,x.2.1))=
   some ([.agg [.lit (.string []),.nil,.nil,.nil]],[]):=by kernel_rfl
 obtain⟨⟨x1,x2,x3⟩,hx,hx1⟩:=aQQ.1 hw;simp only[aRc] at hx1;obtain⟨rfl,rfl⟩:=hx1;exact OpenSpec.preRow_of_cond 8 hx pE (fun k hk=>by cases hk) pE (aNY os _)
theorem lifted (os:Os) (started:os.Started) (H:Type) (enc:TypeId×pC->H) (F:Stop.Interp):
  ReturnsInHanded {} Tryz.checked os 4 .any ((OpenSpec.ofChange Rows.elementsPrintSpec).preRow enc Tryz.prog Tryz.f4 [] false Rows.elementsPrintRow.laid) (Rows.elementsPrintSpec.post enc Tryz.prog Tryz.f4 false true false false):=by
 refine aNO (C:=Tryz.checked) (tb:=4) own started F pE Tryz.func4 F2 ?_ rfl rfl Tryz.underlying4 ?_
  (witness_row_atRef (enc:=enc) (C:=Tryz.checked) false (V2 os) #[QJ] rfl pE pE pE (aOh os enc)) ?_
 .intro t ht;rw[Tryz.params4] at ht;simp only[aQV,aSb,or_false] at ht;rcases ht with rfl
  exact⟨aOf,ltC⟩
 .intro ds W args ps h;have h':DataW.TrodAll enc Tryz.prog W 0 (fun _=>true) true Tryz.f4.params.toList args.toList ds ps:=h;rw[Tryz.params4] at h';obtain⟨v0,d0,rfl,rfl,h0⟩:=trodAll_one h';rfl
 .intro W base args ds ps hval0 hA0 hlt hsz0 hL hsh;have hval: ∀(j:Nat) t v,Tryz.f4.params[j]? =some t->args[j]? =some v->Value.okWide Tryz.prog W .any base t v:=hval0;have hA:DataW.TrodAll enc Tryz.prog W 0 (fun _=>true) true Tryz.f4.params.toList args.toList ds ps:=hA0;have hsz:(DataW.weightsEach Tryz.prog Tryz.f4.params.toList ds).all (·<=reachBytes)=true:=hsz0;rw[Tryz.params4] at hA hval hsz;obtain⟨v0,d0,rfl,rfl,h0⟩:=trodAll_one hA;obtain⟨c,hv,hB⟩:=aN2 aN6 (hval 0 36 v0 rfl rfl) h0 (fun n hn=>by
   have:=aRz.1 hsz n (DataW.weights_mem_each (j:=0) rfl rfl n hn);simpa using this)
  exact aN9 (aNX hL hsh) v0 c hv hB
end elementsPrintLaw
theorem aHK:Rows.ElementsPrintSaid:=
 OpenClaim.holds_of_wide 4 Tryz.f4 rfl rfl rfl rfl rfl rfl rfl ⟨rfl,rfl,rfl,rfl,rfl⟩ rfl rfl rfl rfl rfl pE Tryz.func4 aOe
  (aRk pE) (by unfold Func.isWrapper;first|(rw[aQI (by decide+kernel)];kernel_rfl) |(rw[aQO (by decide+kernel)];exact⟨rfl,rfl⟩))
  (fun os started H enc _=>by rw[OpenClaim.pre_eq_preRow];exact elementsPrintLaw.lifted os started H enc (fun _ _ _=>0))
#print axioms aHK
end Go.Proofs.YtkpflnijijccpaaGreatDoor
namespace Go.Proofs.YtkpflnijijccpaaGreatDoor
open Go
theorem aOi:Rows.elementsPrintRow.wfByText (OpenSpec.ofChange Rows.elementsPrintSpec)=true:=by kernel_rfl
theorem aOj:Tryz.prog.mainIs=some (true, "1008dd62a78bd228180e1c22f450e234c81a9eabf1ab0f49fd7302bf1e97eed2".toList):=by kernel_rfl
theorem aOk:false=Tryz.prog.looks []:=by kernel_rfl
theorem aOl:false=Rows.elementsPrintRow.goesBy Tryz.prog:=by kernel_rfl
theorem aOm:Tryz.prog.funcNamed "calque/calquelaw41.ElementsPrint" =some 4:=by kernel_rfl
theorem aOn:([36].all fun u=> !Tryz.prog.wantsStandIn u)=true:=by kernel_rfl
theorem elementsPrintCard_holds:Rows.ElementsPrintCardSaid:=
 Claim7.holds_tied_plain_at .later [] [.data,.data,.data,.data,.listed,.data,.pinned] true (true, "1008dd62a78bd228180e1c22f450e234c81a9eabf1ab0f49fd7302bf1e97eed2") false
  aHK (fun _ h=>by cases h) aOi (fun _ h=>by cases h) elementsPrint_row_tie rfl ⟨rfl,rfl⟩ aOj rfl
  (fun f fn hf hfn=>by
   obtain rfl:f=4:=aQH (aOm.symm.trans hf) |>.symm
   obtain rfl:fn=Tryz.f4:=(aQH (Tryz.func4.symm.trans hfn)).symm;exact⟨aOk,fun j t ht=>by
    rw[Tryz.params4] at ht;have hm:t∈[36]:=by simpa using Array.mem_of_getElem? ht
    exact(show Tryz.prog.wantsStandIn t=false by simpa using aRz.1 aOn t hm)⟩)
  aOl
#print axioms elementsPrintCard_holds
end Go.Proofs.YtkpflnijijccpaaGreatDoor
