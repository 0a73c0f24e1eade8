/- Packed by a program of mine (wip/tools/pack.py): the same texts with short names and few blanks. -/
import Derived.KernelRfl
import Derived.Test.YtbbpilohihldiaaGreatDoorW02
set_option linter.defProp false
set_option linter.unusedVariables false
set_option linter.unusedSimpArgs false
set_option linter.unusedSectionVars false
set_option maxRecDepth 100000
set_option maxHeartbeats 4000000
namespace Go.Proofs.YtbbpilohihldiaaGreatDoor
open Vc
noncomputable section
def S6 (O:Int) (Z:pG):(Int×pP)→Option ((Int×pP)⊕pP):=fun(aA,aB)=>if (decide (aA<(Z.length:Int)))=true then if (decide (O=(4:Int)))=true then if 0≤aA∧aA<(Z.length:Int) then if False then (ED (aB,()) (WA (r7 Z aA))).bind fun aC=>if qJ (aA+(1:Int)) then some (.inl ((aA+(1:Int)),(aB++tV (WA (r7 Z aA))))) else none else none else none else if 0≤aA∧aA<(Z.length:Int) then (I8 O (r7 Z aA) (decide (aA=(0:Int)))).bind fun aD=>(ED (aB,()) aD).bind fun aE=>if qJ (aA+(1:Int)) then some (.inl ((aA+(1:Int)),(aB++tV aD))) else none else none else some (.inr aB)
def JX (O:Int) (Z:pG):Option pG:=if (!((decide ((1:Int)≤O))&&(decide (O≤(4:Int)))))=true then some (([]:pG)) else sB (rE (S6 O Z) ((0:Int),([]:pP))) fun aA=>some ((tE aA))
section
variable (O:Int) (Z:pG)
abbrev a6c:List qI:=[(.val (.int .i64) O,none),(.val .str Z,none)]
abbrev a6d:List qH:=[]
@[go_sem] def a6e:qQ:=⟨[((JX O Z)).isSome=true],[(.val .str (val (JX O Z)),none)],[]⟩
def aFY:List qI→List qH→Option qQ:=rT (V:=(Int×pG)) (fun x=>a6c x.1 x.2) (fun x=>a6d) fun x=>a6e x.1 x.2
@[go_sem] def aUj:aFY (no_index (a6c O Z)) (no_index a6d)=some (a6e O Z):=rV (fun⟨a0,a1⟩ ⟨b0,b1⟩ h1 h2=>by cases h1;cases h2;rfl) (O,Z)
end
@[go_sem] abbrev aFZ:Nat×rI:=(110,⟨[.v,.v],aFY,[],[],none⟩)
def CQ:rL Tryz.prog [sM,HV] (rK [WQ,aDF,WM,aFD,RI]):=⟨⟨sO,⟨LN,trivial⟩⟩,qU a2Z (qU aNr (qU a1Z (qU aN4 (qU WL rX)))),rM⟩
def aOe:rP Tryz.prog aFZ:=by
 refine rW CQ Tryz.func110 (c:=_) rfl (N:=32) pX (ts:=[(4,none)]) rfl (fun _ _=>rfl) ?_;intro⟨O,Z⟩ hs hrow;dsimp only[a6c,a6d,a6e,rQ,qW,rF,rO,rS,Nat.reduceAdd] at hs hrow|-;have hz:=hs;obtain⟨z0,e⟩:=aVb.1 hz
 try rw[s9 e]
 clear hz hs;unfold JX at e;refine qG CQ ?_;refine qZ ?_;refine qG CQ ?_;refine qY e (fun e hc1=> ?_) (fun e hc1=> ?_)
 .refine qG CQ ?_;refine qR (s0 ?_);cases e;exact pI []
 .refine rJ (qS ?_);refine qG CQ ?_;refine qZ ?_;refine qG CQ ?_;refine sA ?_;obtain⟨aA,hy1,e⟩:=qK e;refine uS 0 (fun s=>s=(fun x=>⟨[(5,(.val .ref (some (0,0)),none))],[(0,.cells y7 ((some (0,0)),(x,())) [(1,1)]),(1,.grow 5 1 (x.length))],2,32,0⟩) aA) ?_ ?_
  .refine uR hy1 (fun x=>⟨[(0,(.val (.int .i64) O,none)),(1,(.val .str Z,none)),(5,(.val .ref (some (0,0)),none)),(11,(.val (.int .i64) (Z.length:Int),none)),(12,(.val (.int .i64) x.1,none))],[(0,.cells y7 ((some (0,0)),(x.2,())) [(1,1)]),(1,.grow 5 1 (x.2.length))],2,32,0⟩) ⟨[0,1,5,11,12],[(0,128),(1,129)]⟩ pY ?_;intro x1 w1 n1 d f;obtain⟨aB,aC⟩:=x1;unfold S6 at d;dsimp only at d|-;refine qG CQ ?_;refine qZ ?_;refine qY d (fun d hc2=> ?_) (fun d hc2=> ?_)
   .refine rJ (qS (qZ (sA ?_)));refine qG CQ ?_;refine qG CQ ?_;refine qY d (fun d hc3=> ?_) (fun d hc3=> ?_)
    .obtain⟨hg1,d⟩:=qP d;obtain⟨hg2,d⟩:=qP d;obtain⟨aD,hv3,hw3,d⟩:=rH d
     try simp only[go_sem] at hw3
     refine rY CQ ?_ (hp:=by exact⟨hg1,hg2,pW,(rG hv3)⟩) (h:=by simp only[go_sem,hw3];rfl)
     refine s5 (qS ?_);obtain⟨hg4,d⟩:=qP d;refine rY CQ ?_ (hp:=by exact hg4);cases d;exact tI ⟨⟨[0,1,5,11,12],[(0,0),(1,1)]⟩,_,by rfl,f⟩
    .obtain⟨hg5,d⟩:=qP d;obtain⟨aE,hv6,hw6,d⟩:=rH d
     try simp only[go_sem] at hw6
     obtain⟨aF,hv7,hw7,d⟩:=rH d
     try simp only[go_sem] at hw7
     refine rY CQ ?_ (hp:=by exact⟨hg5,rG hv6,pW,(rG hv7)⟩) (h:=by simp only[go_sem,hw6,hw7];rfl)
     refine s5 (qS ?_);obtain⟨hg8,d⟩:=qP d;refine rY CQ ?_ (hp:=by exact hg8);cases d;exact tI ⟨⟨[0,1,5,11,12],[(0,0),(1,1)]⟩,_,by rfl,f⟩
   .refine uF (uK (uH ?_));cases d;cases f;exact uG ⟨⟨[5],[(0,0),(1,1)]⟩,by rfl⟩
  .rintro _ rfl;dsimp only at e|-;refine uQ (qS ?_);refine qG CQ ?_ (hp:=by first|rfl|trivial)
   refine qR ?_;cases e;exact pI []
def uZ (O:pG):Option Bool:=(JQ O).bind fun Z=>(LZ Z).bind fun aA=>some ((decide (aA=O)))
section
variable (O:pG)
abbrev a6f:List qI:=[(.val .str O,none)]
abbrev a6g:List qH:=[]
@[go_sem] def a6h:qQ:=⟨[((uZ O)).isSome=true],[(.val .bool (val (uZ O)),none)],[]⟩
def aF0:List qI→List qH→Option qQ:=rT (V:=pG) (a6f) (fun x=>a6g) fun x=>a6h x
@[go_sem] def aUk:aF0 (no_index (a6f O)) (no_index a6g)=some (a6h O):=rV (fun a0 b0 h1 h2=>by cases h1;cases h2;rfl) O
end
@[go_sem] abbrev aF1:Nat×rI:=(115,⟨[.v],aF0,[],[],none⟩)
def a6i:rL Tryz.prog [] (rK [aFH,aFF]):=⟨trivial,qU aN6 (qU aN5 rX),rM⟩
def aOf:rP Tryz.prog aF1:=by
 refine rW a6i Tryz.func115 (c:=_) rfl (N:=8) pX (ts:=[(2,none)]) rfl (fun _ _=>rfl) ?_;intro O hs hrow;dsimp only[a6f,a6g,a6h,rQ,qW,rF,rO,rS,Nat.reduceAdd] at hs hrow|-;have hz:=hs;obtain⟨z0,e⟩:=aVb.1 hz
 try rw[s9 e]
 clear hz hs;unfold uZ at e;refine qG a6i ?_;obtain⟨Z,hv1,hw1,e⟩:=rH e
 try simp only[go_sem] at hw1
 obtain⟨aA,hv2,hw2,e⟩:=rH e
 try simp only[go_sem] at hw2
 refine qG a6i ?_ (hp:=by exact⟨rG hv1,(rG hv2)⟩) (h:=by simp only[go_sem,hw1,hw2];rfl);refine qR ?_;cases e;exact pI []
def IB (O:(pG×(Int×Unit))):Int→Option (Int⊕(Int⊕(Bool×Int))):=fun Z=>if (decide (Z<(O.1.length:Int)))=true then if 0≤Z∧Z≤(O.1.length:Int)∧(O.1.length:Int)≤(O.1.length:Int) then if 0≤(0:Int)∧(0:Int)<((qV O.1 Z (O.1.length:Int)).length:Int) then if (decide ((0:Int)≤(uY ([32,9,10,13]:pG) (r7 (qV O.1 Z (O.1.length:Int)) (0:Int)))))=true then if qJ (Z+(1:Int)) then some (.inl (Z+(1:Int))) else none else (LW (qV O.1 Z (O.1.length:Int)) ([47,47]:pG)).bind fun aA=>if ((decide ((([47,47]:pG).length:Int)≤((qV O.1 Z (O.1.length:Int)).length:Int)))&&(decide ((qV (qV O.1 Z (O.1.length:Int)) (0:Int) (([47,47]:pG).length:Int))=([47,47]:pG))))=true then if (decide ((uY (qV O.1 Z (O.1.length:Int)) (10:Int))<(0:Int)))=true then if qJ (((qV O.1 Z (O.1.length:Int)).length:Int)- (1:Int)) then if qJ ((((qV O.1 Z (O.1.length:Int)).length:Int)- (1:Int))+(1:Int)) then if qJ (Z+((((qV O.1 Z (O.1.length:Int)).length:Int)- (1:Int))+(1:Int))) then some (.inl (Z+((((qV O.1 Z (O.1.length:Int)).length:Int)- (1:Int))+(1:Int)))) else none else none else none else if qJ ((uY (qV O.1 Z (O.1.length:Int)) (10:Int))+(1:Int)) then if qJ (Z+((uY (qV O.1 Z (O.1.length:Int)) (10:Int))+(1:Int))) then some (.inl (Z+((uY (qV O.1 Z (O.1.length:Int)) (10:Int))+(1:Int)))) else none else none else (LW (qV O.1 Z (O.1.length:Int)) ([47,42]:pG)).bind fun aB=>if ((decide ((([47,42]:pG).length:Int)≤((qV O.1 Z (O.1.length:Int)).length:Int)))&&(decide ((qV (qV O.1 Z (O.1.length:Int)) (0:Int) (([47,42]:pG).length:Int))=([47,42]:pG))))=true then if 0≤(2:Int)∧(2:Int)≤((qV O.1 Z (O.1.length:Int)).length:Int)∧((qV O.1 Z (O.1.length:Int)).length:Int)≤((qV O.1 Z (O.1.length:Int)).length:Int) then if List.length (qV (qV O.1 Z (O.1.length:Int)) (2:Int) ((qV O.1 Z (O.1.length:Int)).length:Int))<4294967281 then if (decide ((NW (qV (qV O.1 Z (O.1.length:Int)) (2:Int) ((qV O.1 Z (O.1.length:Int)).length:Int)) ([42,47]:pG))<(0:Int)))=true then some (.inr (.inr ((false,Z)))) else if qJ ((NW (qV (qV O.1 Z (O.1.length:Int)) (2:Int) ((qV O.1 Z (O.1.length:Int)).length:Int)) ([42,47]:pG))+(4:Int)) then if qJ (Z+((NW (qV (qV O.1 Z (O.1.length:Int)) (2:Int) ((qV O.1 Z (O.1.length:Int)).length:Int)) ([42,47]:pG))+(4:Int))) then some (.inl (Z+((NW (qV (qV O.1 Z (O.1.length:Int)) (2:Int) ((qV O.1 Z (O.1.length:Int)).length:Int)) ([42,47]:pG))+(4:Int)))) else none else none else none else none else some (.inr (.inl Z)) else none else none else some (.inr (.inl Z))
def JY (O:(pG×(Int×Unit))):Option (Bool×Int):=sZ (rE (IB O) O.2.1) fun Z=>some ((true,Z))
section
variable (O:(pG×(Int×Unit)))
abbrev a6j:List qI:=[(.val .ref (some (0,0)),none)]
abbrev a6k:List qH:=[.cells FA O []]
@[go_sem] def a6l:qQ:=⟨[((JY O)).isSome=true],[(.val .bool ((val (JY O)).1),none)],[.cells FA (O.1,((val (JY O)).2,())) []]⟩
def aF2:List qI→List qH→Option qQ:=rT (V:=(pG×(Int×Unit))) (fun x=>a6j) (a6k) fun x=>a6l x
@[go_sem] def aUl:aF2 (no_index a6j) (no_index (a6k O))=some (a6l O):=rV (fun a0 b0 h1 h2=>by cases h1;cases h2;rfl) O
end
@[go_sem] abbrev aF3:Nat×rI:=(118,⟨[.p FA []],aF2,[],[],none⟩)
def zN:rL Tryz.prog [vP,sM,RG] (rK [O4,aFu,aDB]):=⟨⟨w8,⟨sO,⟨a1J,trivial⟩⟩⟩,qU RH (qU aN1 (qU aNn rX)),rM⟩
def aOg:rP Tryz.prog aF3:=by
 refine rW zN Tryz.func118 (c:=_) rfl (N:=73) pX (ts:=[(2,none)]) rfl (fun _ _=>rfl) ?_;intro O hs hrow;dsimp only[a6j,a6k,a6l,rQ,qW,rF,rO,rS,Nat.reduceAdd] at hs hrow|-;have hz:=hs;obtain⟨z0,e⟩:=aVb.1 hz
 try rw[s9 e]
 clear hz hs;unfold JY at e;refine qG zN ?_;refine aMj (qZ (aMg (qS (qZ (sA ?_)))));obtain⟨y1,hy1,e⟩:=wG e;refine uS 0 (fun s=> ∃v,y1= .inl v∧s=(fun x=>⟨[],[(0,.cells FA (O.1,(x,())) [])],1,73,1⟩) v) ?_ ?_
 .refine uR hy1 (fun x=>⟨[(0,(.val .ref (some (0,0)),none))],[(0,.cells FA (O.1,(x,())) [])],1,73,1⟩) ⟨[0],[(0,0)]⟩ pY ?_;intro Z w1 n1 d f;unfold IB at d;dsimp only at d|-;refine qZ ?_;refine xE zN ?_;refine qY d (fun d hc1=> ?_) (fun d hc1=> ?_)
  .refine rJ (qS (sA ?_));obtain⟨hg1,d⟩:=qP d;refine xE zN ?_ (hp:=by exact hg1);refine sA ?_;obtain⟨hg2,d⟩:=qP d;refine qG zN ?_ (hp:=by exact hg2);refine qY d (fun d hc2=> ?_) (fun d hc2=> ?_)
   .obtain⟨hg3,d⟩:=qP d;refine rY zN ?_ (hp:=by exact hg3);refine s5 (s5 ?_);cases d;exact tI ⟨⟨[0],[(0,0)]⟩,_,by rfl,f⟩
   .obtain⟨aA,hv4,hw4,d⟩:=rH d
    try simp only[go_sem] at hw4
    refine qG zN ?_ (hp:=by exact(rG hv4)) (h:=by simp only[go_sem,hw4];rfl);refine qY d (fun d hc3=> ?_) (fun d hc3=> ?_)
    .refine qG zN ?_;refine qZ ?_;refine qG zN ?_;refine qY d (fun d hc4=> ?_) (fun d hc4=> ?_)
     .obtain⟨hg5,d⟩:=qP d;refine rY zN ?_ (hp:=by exact hg5);refine qS ?_;obtain⟨hg6,d⟩:=qP d;obtain⟨hg7,d⟩:=qP d;refine rY zN ?_ (hp:=by exact⟨hg6,hg7⟩);refine s5 (s5 ?_);cases d;exact tI ⟨⟨[0],[(0,0)]⟩,_,by rfl,f⟩
     .refine rJ (qS ?_);obtain⟨hg8,d⟩:=qP d;obtain⟨hg9,d⟩:=qP d;refine rY zN ?_ (hp:=by exact⟨hg8,hg9⟩);refine s5 (s5 ?_);cases d;exact tI ⟨⟨[0],[(0,0)]⟩,_,by rfl,f⟩
    .obtain⟨aB,hv10,hw10,d⟩:=rH d
     try simp only[go_sem] at hw10
     refine qG zN ?_ (hp:=by exact(rG hv10)) (h:=by simp only[go_sem,hw10];rfl);refine qY d (fun d hc5=> ?_) (fun d hc5=> ?_)
     .obtain⟨hg11,d⟩:=qP d;obtain⟨hg12,d⟩:=qP d;refine qG zN ?_ (hp:=by exact⟨hg11,hg12⟩);refine qZ ?_;refine qG zN ?_;refine qY d (fun d hc6=> ?_) (fun d hc6=> ?_)
      .refine qG zN ?_;refine qR (s0 (sF (sF (wF (wE (sF (s0 ?_)))))));cases d;cases f;dsimp only at e;cases e;exact pI [(0,0)]
      .refine rJ (qS ?_);obtain⟨hg13,d⟩:=qP d;obtain⟨hg14,d⟩:=qP d;refine rY zN ?_ (hp:=by exact⟨hg13,hg14⟩);refine s5 (s5 ?_);cases d;exact tI ⟨⟨[0],[(0,0)]⟩,_,by rfl,f⟩
     .refine uF (a1m pK (a1m pK (uH ?_)));cases d;cases f;exact uG ⟨⟨[],[(0,0)]⟩,_,rfl,by rfl⟩
  .refine uF (uK (uH ?_));cases d;cases f;exact uG ⟨⟨[],[(0,0)]⟩,_,rfl,by rfl⟩
 .rintro _ ⟨aC,rfl,rfl⟩;dsimp only at e|-;refine uQ (qS ?_);refine qG zN ?_;refine qR ?_;cases e;exact pI [(0,0)]
def S7 (O:pG):Option Unit:=(FH O).bind fun Z=>some (())
section
variable (O:pG)
abbrev a6m:List qI:=[(.val .str O,none)]
abbrev a6n:List qH:=[]
@[go_sem] def a6o:qQ:=⟨[((S7 O)).isSome=true],[(.val .bool (!((decide ((O.length:Int)≤(4000:Int)))&&(Lib.validD O))),none)],[]⟩
def aF4:List qI→List qH→Option qQ:=rT (V:=pG) (a6m) (fun x=>a6n) fun x=>a6o x
@[go_sem] def aUm:aF4 (no_index (a6m O)) (no_index a6n)=some (a6o O):=rV (fun a0 b0 h1 h2=>by cases h1;cases h2;rfl) O
end
@[go_sem] abbrev aF5:Nat×rI:=(160,⟨[.v],aF4,[],[],none⟩)
def a6p:rL Tryz.prog [] (rK [RX]):=⟨trivial,qU X4 rX,rM⟩
def aOh:rP Tryz.prog aF5:=by
 refine rW a6p Tryz.func160 (c:=_) rfl (N:=6) pX (ts:=[(2,none)]) rfl (fun _ _=>rfl) ?_;intro O hs hrow;dsimp only[a6m,a6n,a6o,rQ,qW,rF,rO,rS,Nat.reduceAdd] at hs hrow|-;have hz:=hs;obtain⟨z0,e⟩:=aVb.1 hz
 try rw[s9 e]
 clear hz hs;unfold S7 at e;refine qG a6p ?_;obtain⟨Z,hv1,hw1,e⟩:=rH e
 try simp only[go_sem] at hw1
 refine qG a6p ?_ (hp:=by exact(rG hv1)) (h:=by simp only[go_sem,hw1];rfl);refine qR ?_;cases e;exact pI []
def GP (O:(pP×Unit)) (Z:Int):Option (Int×pP):=(JU O.1 Z).bind fun aA=>if qJ ((aA.length:Int)- (O.1.length:Int)) then some ((((aA.length:Int)- (O.1.length:Int)),aA)) else none
section
variable (O:Int) (Z:(pP×Unit)) (aA:Nat)
abbrev a6q:List qI:=[(.val .ref (some (0,0)),none),(.val (.int .i32) O,none)]
abbrev a6r:List qH:=[.cells y7 ((some (0,0)),Z) [(1,1)],.grow 5 1 aA]
@[go_sem] def a6s:qQ:=⟨[aA=(Z.1.length),((GP Z O)).isSome=true],[(.val (.int .i64) ((val (GP Z O)).1),none),(.any,none)],[.cells y7 ((some (0,0)),((val (GP Z O)).2,())) [(1,1)],.grow 5 1 (((val (GP Z O)).2).length)]⟩
def aF6:List qI→List qH→Option qQ:=rT (V:=(Int×(pP×Unit)×Nat)) (fun x=>a6q x.1) (fun x=>a6r x.2.1 x.2.2) fun x=>a6s x.1 x.2.1 x.2.2
@[go_sem] def aUn:aF6 (no_index (a6q O)) (no_index (a6r Z aA))=some (a6s O Z aA):=rV (fun⟨a0,a1,a2⟩ ⟨b0,b1,b2⟩ h1 h2=>by cases h1;cases h2;rfl) (O,Z,aA)
end
@[go_sem] abbrev aF7:Nat×rI:=(290,⟨[.p y7 [1],.v],aF6,[],[],none⟩)
def OP:rL Tryz.prog [GD,HV] (rK [WK,aFR]):=⟨⟨JE,⟨LN,trivial⟩⟩,qU a1L (qU aOa rX),rM⟩
def aOi:rP Tryz.prog aF7:=by
 refine rW OP Tryz.func290 (c:=_) rfl (N:=30) pX (ts:=[(4,none),(5,none)]) rfl (fun _ _=>rfl) ?_;intro⟨O,Z,aA⟩ hs hrow;dsimp only[a6q,a6r,a6s,rQ,qW,rF,rO,rS,Nat.reduceAdd] at hs hrow|-;obtain⟨rfl,hz⟩:=hs;obtain⟨z0,e⟩:=aVb.1 hz
 try rw[s9 e]
 clear hz;unfold GP at e;refine qG OP ?_;refine qG OP ?_ (hp:=by first|rfl|trivial)
 refine qG OP ?_;obtain⟨aB,hv1,hw1,e⟩:=rH e
 try simp only[go_sem] at hw1
 refine qG OP ?_ (hp:=by exact⟨pW,(rG hv1)⟩) (h:=by simp only[go_sem,hw1];rfl)
 obtain⟨hg2,e⟩:=qP e;refine qG OP ?_ (hp:=by exact hg2);refine qR ?_;cases e;exact pI [(0,0),(1,1)]
attribute [irreducible] JX uZ JY S7 GP
end
noncomputable section
def OQ (O:pG) (Z:pG) (aA:pG) (aB:pG) (aC:pH) (aD:(Int×((List r5)×Unit))) (aE:Bool) (aF:pH) (aG:pN):Option Bool:=(JS aD.2.1 O).bind fun aH=>some (aH.2)
section
variable (O:pG) (Z:pG) (aA:pG) (aB:pG) (aC:pH) (aD:Nat) (aE:(Int×((List r5)×Unit))) (aF:Bool) (aG:Nat) (aH:Nat) (aI:pH) (aJ:Nat) (aK:pN)
abbrev a6t:List qI:=[(.val .str O,none),(.val .ref (some (0,0)),none)]
abbrev a6u:List qH:=[.cells .ref (some (1,0)) [],.cells u7 ((Z,(aA,(aB,(aC,((some (4,aD)),aE))))),(aF,((some 5),()))) [(3,2),(6,3)],.grow 9 1 aG,.grow 149 2 aH,.row 9 .str aI aJ,.map .str .bool aK]
@[go_sem] def a6v:qQ:=⟨[aG=(aC.length),aH=(aE.2.1.length),aD=aJ,((OQ O Z aA aB aC aE aF aI aK)).isSome=true],[(.val .bool (val (OQ O Z aA aB aC aE aF aI aK)),none)],[.cells .ref (some (1,0)) [],.cells u7 ((Z,(aA,(aB,(aC,((some (4,(aI.length))),(aE.1,(aE.2.1,()))))))),(aF,((some 5),()))) [(3,2),(6,3)],.grow 9 1 (aC.length),.grow 149 2 (aE.2.1.length),.row 9 .str aI (aI.length),.map .str .bool aK]⟩
def aF8:List qI→List qH→Option qQ:=rT (V:=(pG×pG×pG×pG×pH×Nat×(Int×((List r5)×Unit))×Bool×Nat×Nat×pH×Nat×pN)) (fun x=>a6t x.1) (fun x=>a6u x.2.1 x.2.2.1 x.2.2.2.1 x.2.2.2.2.1 x.2.2.2.2.2.1 x.2.2.2.2.2.2.1 x.2.2.2.2.2.2.2.1 x.2.2.2.2.2.2.2.2.1 x.2.2.2.2.2.2.2.2.2.1 x.2.2.2.2.2.2.2.2.2.2.1 x.2.2.2.2.2.2.2.2.2.2.2.1 x.2.2.2.2.2.2.2.2.2.2.2.2) fun x=>a6v x.1 x.2.1 x.2.2.1 x.2.2.2.1 x.2.2.2.2.1 x.2.2.2.2.2.1 x.2.2.2.2.2.2.1 x.2.2.2.2.2.2.2.1 x.2.2.2.2.2.2.2.2.1 x.2.2.2.2.2.2.2.2.2.1 x.2.2.2.2.2.2.2.2.2.2.1 x.2.2.2.2.2.2.2.2.2.2.2.1 x.2.2.2.2.2.2.2.2.2.2.2.2
@[go_sem] def aUo:aF8 (no_index (a6t O)) (no_index (a6u Z aA aB aC aD aE aF aG aH aI aJ aK))=some (a6v O Z aA aB aC aD aE aF aG aH aI aJ aK):=rV (fun⟨a0,a1,a2,a3,a4,a5,a6,a7,a8,a9,a10,a11,a12⟩ ⟨b0,b1,b2,b3,b4,b5,b6,b7,b8,b9,b10,b11,b12⟩ h1 h2=>by cases h1;cases h2;rfl) (O,Z,aA,aB,aC,aD,aE,aF,aG,aH,aI,aJ,aK)
end
@[go_sem] abbrev a6w:Nat×rI:=(254,⟨[.v,.p .ref []],aF8,[(0,0,.p u7 [3,6]),(1,4,.r),(1,8,.m)],[0,1,2,3,4,5],none⟩)
def aF9:rL Tryz.prog [] (rK [a5I]):=⟨trivial,qU aN7 rX,rM⟩
def a6x:rL Tryz.prog [y8,EC,O3,DE] (rK [a5I]):=⟨⟨yX,⟨GG,⟨WI,⟨FD,trivial⟩⟩⟩⟩,aF9.Γ,rM⟩
def aOj:rP Tryz.prog a6w:=by
 refine rW aF9 Tryz.func254 (c:=_) rfl (N:=17) pX (ts:=[(3,none)]) rfl (fun _ _=>rfl) ?_;intro⟨O,Z,aA,aB,aC,aD,aE,aF,aG,aH,aI,aJ,aK⟩ hs hrow;dsimp only[a6t,a6u,a6v,rQ,qW,rF,rO,rS,Nat.reduceAdd] at hs hrow|-;obtain⟨rfl,rfl,rfl,hz⟩:=hs;obtain⟨rfl,_⟩:=hrow;obtain⟨z0,d⟩:=aVb.1 hz
 try rw[s9 d]
 clear hz;unfold OQ at d;refine qG a6x ?_;obtain⟨aL,hv1,hw1,d⟩:=rH d
 try simp only[go_sem] at hw1
 refine qG a6x ?_ (hp:=by exact(rG hv1)) (h:=by simp only[go_sem,hw1];rfl);refine qG a6x ?_;refine qR ?_;cases d;exact pI [(0,0),(1,1),(2,2),(3,3),(4,4),(5,5)]
attribute [irreducible] OQ
end
noncomputable section
def S8 (O:pG):Option (pG×Int):=if (decide ((O.length:Int)<(2:Int)))=true then some ((([]:pG),(0:Int))) else if 0≤(1:Int)∧(1:Int)<(O.length:Int) then if (decide ((r7 O (1:Int))=(110:Int)))=true then some ((([10]:pG),(2:Int))) else if (decide ((r7 O (1:Int))=(114:Int)))=true then some ((([13]:pG),(2:Int))) else if (decide ((r7 O (1:Int))=(116:Int)))=true then some ((([9]:pG),(2:Int))) else (FE (r7 O (1:Int)) ([92,34,61,58,35,33,123,125,32]:pG)).bind fun Z=>if Z=true then if 0≤(1:Int)∧(1:Int)≤(2:Int)∧(2:Int)≤(O.length:Int) then some (((qV O (1:Int) (2:Int)),(2:Int))) else none else if ((decide ((r7 O (1:Int))=(120:Int)))&&(decide ((4:Int)≤(O.length:Int))))=true then if 0≤(2:Int)∧(2:Int)≤(4:Int)∧(4:Int)≤(O.length:Int) then (M0 (qV O (2:Int) (4:Int)) (16:Int)).bind fun aA=>if ((decide ((0:Int)≤aA))&&(decide (aA≤(127:Int))))=true then some (((tE ([(IntKind.wrap .u8 aA)]:pP)),(4:Int))) else some ((([]:pG),(0:Int))) else none else if ((decide ((r7 O (1:Int))=(117:Int)))&&(decide ((6:Int)≤(O.length:Int))))=true then if 0≤(2:Int)∧(2:Int)≤(6:Int)∧(6:Int)≤(O.length:Int) then (M0 (qV O (2:Int) (6:Int)) (16:Int)).bind fun aB=>if ((decide ((0:Int)≤aB))&&(((decide ((0:Int)≤aB))&&(decide (aB≤(1114111:Int))))&&((decide (aB<(55296:Int)))||(decide ((57343:Int)<aB)))))=true then (CO aB).bind fun aC=>some ((aC,(6:Int))) else some ((([]:pG),(0:Int))) else none else some ((([]:pG),(0:Int))) else none
def aOk (O:pG):Int→Option (Int⊕Int):=fun Z=>if ((((decide (Z<(O.length:Int)))&&(decide (Z<(12:Int))))==true)=true→0≤Z∧Z<(O.length:Int)) then if (((decide (Z<(O.length:Int)))&&(decide (Z<(12:Int))))&&(!decide ((r7 O Z)=(59:Int))))=true then if qJ (Z+(1:Int)) then some (.inl (Z+(1:Int))) else none else some (.inr Z) else none
def aGa (O:pG):Option (pG×Int):=sB (rE (aOk O) (0:Int)) fun Z=>if (((decide (Z=(O.length:Int)))==false)=true→0≤Z∧Z<(O.length:Int)) then if ((decide (Z=(O.length:Int)))||(!decide ((r7 O Z)=(59:Int))))=true then some ((([]:pG),(0:Int))) else if 0≤(1:Int)∧(1:Int)≤Z∧Z≤(O.length:Int) then if (decide ((qV O (1:Int) Z)=([97,109,112]:pG)))=true then if qJ (Z+(1:Int)) then some ((([38]:pG),(Z+(1:Int)))) else none else if (decide ((qV O (1:Int) Z)=([108,116]:pG)))=true then if qJ (Z+(1:Int)) then some ((([60]:pG),(Z+(1:Int)))) else none else if (decide ((qV O (1:Int) Z)=([103,116]:pG)))=true then if qJ (Z+(1:Int)) then some ((([62]:pG),(Z+(1:Int)))) else none else if (decide ((qV O (1:Int) Z)=([113,117,111,116]:pG)))=true then if qJ (Z+(1:Int)) then some ((([34]:pG),(Z+(1:Int)))) else none else if (decide ((qV O (1:Int) Z)=([97,112,111,115]:pG)))=true then if qJ (Z+(1:Int)) then some ((([39]:pG),(Z+(1:Int)))) else none else sB (σ:=Int) (if ((((decide ((3:Int)≤((qV O (1:Int) Z).length:Int)))&&(decide (((qV O (1:Int) Z).length:Int)≤(8:Int))))==true)=true→0≤(0:Int)∧(0:Int)≤(2:Int)∧(2:Int)≤((qV O (1:Int) Z).length:Int)) then if (((decide ((3:Int)≤((qV O (1:Int) Z).length:Int)))&&(decide (((qV O (1:Int) Z).length:Int)≤(8:Int))))&&(decide ((qV (qV O (1:Int) Z) (0:Int) (2:Int))=([35,120]:pG))))=true then if 0≤(2:Int)∧(2:Int)≤((qV O (1:Int) Z).length:Int)∧((qV O (1:Int) Z).length:Int)≤((qV O (1:Int) Z).length:Int) then (M0 (qV (qV O (1:Int) Z) (2:Int) ((qV O (1:Int) Z).length:Int)) (16:Int)).bind fun aA=>some (aA) else none else if ((((decide ((2:Int)≤((qV O (1:Int) Z).length:Int)))&&(decide (((qV O (1:Int) Z).length:Int)≤(8:Int))))==true)=true→0≤(0:Int)∧(0:Int)≤(1:Int)∧(1:Int)≤((qV O (1:Int) Z).length:Int)) then if (((decide ((2:Int)≤((qV O (1:Int) Z).length:Int)))&&(decide (((qV O (1:Int) Z).length:Int)≤(8:Int))))&&(decide ((qV (qV O (1:Int) Z) (0:Int) (1:Int))=([35]:pG))))=true then if 0≤(1:Int)∧(1:Int)≤((qV O (1:Int) Z).length:Int)∧((qV O (1:Int) Z).length:Int)≤((qV O (1:Int) Z).length:Int) then (M0 (qV (qV O (1:Int) Z) (1:Int) ((qV O (1:Int) Z).length:Int)) (10:Int)).bind fun aB=>some (aB) else none else some ((-1:Int)) else none else none ) fun aC=>if ((decide (aC<(0:Int)))||(!(((decide ((0:Int)≤aC))&&(decide (aC≤(1114111:Int))))&&((decide (aC<(55296:Int)))||(decide ((57343:Int)<aC))))))=true then some ((([]:pG),(0:Int))) else (CO aC).bind fun aD=>if qJ (Z+(1:Int)) then some ((aD,(Z+(1:Int)))) else none else none else none
def BR (O:pG):Option pG:=(JX (3:Int) O).bind fun Z=>if ((([34]:pG)++Z).length:Int)≤9223372036854775807 then if (((([34]:pG)++Z)++([34]:pG)).length:Int)≤9223372036854775807 then some (((([34]:pG)++Z)++([34]:pG))) else none else none
section
variable (O:pG)
abbrev a6y:List qI:=[(.val .str O,none)]
abbrev a6z:List qH:=[]
@[go_sem] def a6A:qQ:=⟨[((BR O)).isSome=true],[(.val .str (val (BR O)),none)],[]⟩
def aGb:List qI→List qH→Option qQ:=rT (V:=pG) (a6y) (fun x=>a6z) fun x=>a6A x
@[go_sem] def aUp:aGb (no_index (a6y O)) (no_index a6z)=some (a6A O):=rV (fun a0 b0 h1 h2=>by cases h1;cases h2;rfl) O
end
@[go_sem] abbrev SA:Nat×rI:=(60,⟨[.v],aGb,[],[],none⟩)
def a6B:rL Tryz.prog [] (rK [aFZ]):=⟨trivial,qU aOe rX,rM⟩
def X9:rP Tryz.prog SA:=by
 refine rW a6B Tryz.func60 (c:=_) rfl (N:=7) pX (ts:=[(2,none)]) rfl (fun _ _=>rfl) ?_;intro O hs hrow;dsimp only[a6y,a6z,a6A,rQ,qW,rF,rO,rS,Nat.reduceAdd] at hs hrow|-;have hz:=hs;obtain⟨z0,d⟩:=aVb.1 hz
 try rw[s9 d]
 clear hz hs;unfold BR at d;refine qG a6B ?_;obtain⟨Z,hv1,hw1,d⟩:=rH d
 try simp only[go_sem] at hw1
 obtain⟨hg2,d⟩:=qP d;obtain⟨hg3,d⟩:=qP d;refine qG a6B ?_ (hp:=by exact⟨rG hv1,hg2,hg3⟩) (h:=by simp only[go_sem,hw1];rfl);refine qR ?_;cases d;exact pI []
attribute [irreducible] S8 aGa BR
end
noncomputable section
def SB (O:pH):Int→Option (Int⊕(Unit⊕Int)):=fun Z=>if (decide (Z<(O.length:Int)))=true then if 0≤Z∧Z<(O.length:Int) then (S7 (rC .str O Z)).bind fun aA=>if (!((decide (((rC .str O Z).length:Int)≤(4000:Int)))&&(Lib.validD (rC .str O Z))))=true then some (.inr (.inr (Z))) else if qJ (Z+(1:Int)) then some (.inl (Z+(1:Int))) else none else none else some (.inr (.inl ()))
def OR (O:pH):Option Int:=sZ (rE (SB O) (0:Int)) fun _=>some ((-1:Int))
section
variable (O:pH)
abbrev a6C:List qI:=[(.val (.list .str) O,none),(.val .clo (some (160,[])),none)]
abbrev a6D:List qH:=[]
@[go_sem] def a6E:qQ:=⟨[((OR O)).isSome=true],[(.val (.int .i64) (val (OR O)),none)],[]⟩
def aGc:List qI→List qH→Option qQ:=rT (V:=pH) (a6C) (fun x=>a6D) fun x=>a6E x
@[go_sem] def aUq:aGc (no_index (a6C O)) (no_index a6D)=some (a6E O):=rV (fun a0 b0 h1 h2=>by cases h1;cases h2;rfl) O
end
@[go_sem] abbrev aGd:Nat×rI:=(197,⟨[.v,.v],aGc,[],[],none⟩)
def IC:rL Tryz.prog [sM,wH] (rK [aF5]):=⟨⟨sO,⟨wX,trivial⟩⟩,qU aOh rX,rM⟩
def aOl:rP Tryz.prog aGd:=by
 refine rW IC Tryz.func197 (c:=_) rfl (N:=19) pX (ts:=[(4,none)]) rfl (fun _ _=>rfl) ?_;intro O hs hrow;dsimp only[a6C,a6D,a6E,rQ,qW,rF,rO,rS,Nat.reduceAdd] at hs hrow|-;have hz:=hs;obtain⟨z0,e⟩:=aVb.1 hz
 try rw[s9 e]
 clear hz hs;unfold OR at e;refine qG IC ?_;refine qZ ?_;refine qG IC ?_;refine sA ?_;obtain⟨y1,hy1,e⟩:=wG e;refine uS 0 (fun s=> ∃v,y1= .inl v∧s=(fun _=>⟨[],[],0,19,0⟩) v) ?_ ?_
 .refine uR hy1 (fun x=>⟨[(0,(.val (.list .str) O,none)),(1,(.val .clo (some (160,[])),none)),(7,(.val (.int .i64) (O.length:Int),none)),(8,(.val (.int .i64) x,none))],[],0,19,0⟩) ⟨[0,1,7,8],[]⟩ pY ?_;intro Z w1 n1 d f;unfold SB at d;dsimp only at d|-;refine qG IC ?_;refine qZ ?_;refine qY d (fun d hc1=> ?_) (fun d hc1=> ?_)
  .refine rJ (qS (qZ (sA ?_)));refine qG IC ?_;obtain⟨hg1,d⟩:=qP d;obtain⟨aA,hv2,hw2,d⟩:=rH d
   try simp only[go_sem] at hw2
   refine qG IC ?_ (hp:=by exact⟨hg1,(rG hv2)⟩) (h:=by simp only[go_sem,hw2];rfl);refine qY d (fun d hc2=> ?_) (fun d hc2=> ?_)
   .refine qG IC ?_;refine qR (sF (s0 (wF (wE (sF (s0 ?_))))));cases d;cases f;dsimp only at e;cases e;exact pI []
   .refine rJ (s5 (qS ?_));obtain⟨hg3,d⟩:=qP d;refine rY IC ?_ (hp:=by exact hg3);cases d;exact tI ⟨⟨[0,1,7,8],[]⟩,_,by rfl,f⟩
  .refine uF (uK (uH ?_));cases d;cases f;exact uG ⟨⟨[],[]⟩,_,rfl,by rfl⟩
 .rintro _ ⟨v,rfl,rfl⟩;dsimp only at e|-;refine uQ (qS ?_);refine qG IC ?_;refine qR ?_;cases e;exact pI []
def CR (O:pH):Option Bool:=(OR O).bind fun Z=>some ((decide ((0:Int)≤Z)))
section
variable (O:pH)
abbrev a6F:List qI:=[(.val (.list .str) O,none),(.val .clo (some (160,[])),none)]
abbrev a6G:List qH:=[]
@[go_sem] def a6H:qQ:=⟨[((CR O)).isSome=true],[(.val .bool (val (CR O)),none)],[]⟩
def aGe:List qI→List qH→Option qQ:=rT (V:=pH) (a6F) (fun x=>a6G) fun x=>a6H x
@[go_sem] def aUr:aGe (no_index (a6F O)) (no_index a6G)=some (a6H O):=rV (fun a0 b0 h1 h2=>by cases h1;cases h2;rfl) O
end
@[go_sem] abbrev aGf:Nat×rI:=(159,⟨[.v,.v],aGe,[],[],none⟩)
def a6I:rL Tryz.prog [] (rK [aGd]):=⟨trivial,qU aOl rX,rM⟩
def aOm:rP Tryz.prog aGf:=by
 refine rW a6I Tryz.func159 (c:=_) rfl (N:=9) pX (ts:=[(4,none)]) rfl (fun _ _=>rfl) ?_;intro O hs hrow;dsimp only[a6F,a6G,a6H,rQ,qW,rF,rO,rS,Nat.reduceAdd] at hs hrow|-;have hz:=hs;obtain⟨z0,e⟩:=aVb.1 hz
 try rw[s9 e]
 clear hz hs;unfold CR at e;refine qG a6I ?_;obtain⟨Z,hv1,hw1,e⟩:=rH e
 try simp only[go_sem] at hw1
 refine qG a6I ?_ (hp:=by exact(rG hv1)) (h:=by simp only[go_sem,hw1];rfl);refine qR ?_;cases e;exact pI []
def SC (O:pH):(pG×Int)→Option ((pG×Int)⊕pG):=fun(Z,aA)=>if (decide (aA<(O.length:Int)))=true then if 0≤aA∧aA<(O.length:Int) then (BR (rC .str O aA)).bind fun aB=>if ((([10,32,32,99,111,109,109,101,110,116,32]:pG)++aB).length:Int)≤9223372036854775807 then if ((Z++(([10,32,32,99,111,109,109,101,110,116,32]:pG)++aB)).length:Int)≤9223372036854775807 then if qJ (aA+(1:Int)) then some (.inl ((Z++(([10,32,32,99,111,109,109,101,110,116,32]:pG)++aB)),(aA+(1:Int)))) else none else none else none else none else some (.inr Z)
def JZ (O:pH):Option pG:=sB (rE (SC O) (([]:pG),(0:Int))) fun Z=>some (Z)
section
variable (O:pH)
abbrev a6J:List qI:=[(.val (.list .str) O,none)]
abbrev a6K:List qH:=[]
@[go_sem] def a6L:qQ:=⟨[((JZ O)).isSome=true],[(.val .str (val (JZ O)),none)],[]⟩
def aGg:List qI→List qH→Option qQ:=rT (V:=pH) (a6J) (fun x=>a6K) fun x=>a6L x
@[go_sem] def aUs:aGg (no_index (a6J O)) (no_index a6K)=some (a6L O):=rV (fun a0 b0 h1 h2=>by cases h1;cases h2;rfl) O
end
@[go_sem] abbrev a6M:Nat×rI:=(61,⟨[.v],aGg,[],[],none⟩)
def ID:rL Tryz.prog [sM,wH] (rK [SA]):=⟨⟨sO,⟨wX,trivial⟩⟩,qU X9 rX,rM⟩
def aGh:rP Tryz.prog a6M:=by
 refine rW ID Tryz.func61 (c:=_) rfl (N:=19) pX (ts:=[(2,none)]) rfl (fun _ _=>rfl) ?_;intro O hs hrow;dsimp only[a6J,a6K,a6L,rQ,qW,rF,rO,rS,Nat.reduceAdd] at hs hrow|-;have hz:=hs;obtain⟨z0,e⟩:=aVb.1 hz
 try rw[s9 e]
 clear hz hs;unfold JZ at e;refine qG ID ?_;refine qG ID ?_;refine qZ ?_;refine qG ID ?_;refine sA ?_;obtain⟨Z,hy1,e⟩:=qK e;refine uS 0 (fun s=>s=(fun x=>⟨[(3,(.val .str x,none))],[],0,19,0⟩) Z) ?_ ?_
 .refine uR hy1 (fun x=>⟨[(3,(.val .str x.1,none)),(6,(.val (.list .str) O,none)),(7,(.val (.int .i64) (O.length:Int),none)),(8,(.val (.int .i64) x.2,none))],[],0,19,0⟩) ⟨[3,6,7,8],[]⟩ pY ?_;intro x1 w1 n1 d f;obtain⟨aA,aB⟩:=x1;unfold SC at d;dsimp only at d|-;refine qG ID ?_;refine qZ ?_;refine qY d (fun d hc1=> ?_) (fun d hc1=> ?_)
  .refine rJ (qS (qZ (sA ?_)));obtain⟨hg1,d⟩:=qP d;refine qG ID ?_ (hp:=by exact hg1);obtain⟨aC,hv2,hw2,d⟩:=rH d
   try simp only[go_sem] at hw2
   obtain⟨hg3,d⟩:=qP d;obtain⟨hg4,d⟩:=qP d;refine rY ID ?_ (hp:=by exact⟨rG hv2,hg3,hg4⟩) (h:=by simp only[go_sem,hw2];rfl);refine s5 (qS ?_);obtain⟨hg5,d⟩:=qP d;refine rY ID ?_ (hp:=by exact hg5);cases d;exact tI ⟨⟨[3,6,7,8],[]⟩,_,by rfl,f⟩
  .refine uF (uK (uH ?_));cases d;cases f;exact uG ⟨⟨[3],[]⟩,by rfl⟩
 .rintro _ rfl;dsimp only at e|-;refine uQ (qS ?_);refine qG ID ?_;refine qR ?_;cases e;exact pI []
def SD (O:(List r5)):(pG×Int)→Option ((pG×Int)⊕pG):=fun(Z,aA)=>if (decide (aA<(O.length:Int)))=true then if 0≤aA∧aA<(O.length:Int) then (BR ((rC (.pair .str (.pair .str .unit)) O aA).1)).bind fun aB=>if ((([10,32,32,102,105,101,108,100,32]:pG)++aB).length:Int)≤9223372036854775807 then if (((([10,32,32,102,105,101,108,100,32]:pG)++aB)++([32]:pG)).length:Int)≤9223372036854775807 then (BR ((rC (.pair .str (.pair .str .unit)) O aA).2.1)).bind fun aC=>if ((((([10,32,32,102,105,101,108,100,32]:pG)++aB)++([32]:pG))++aC).length:Int)≤9223372036854775807 then if ((Z++(((([10,32,32,102,105,101,108,100,32]:pG)++aB)++([32]:pG))++aC)).length:Int)≤9223372036854775807 then if qJ (aA+(1:Int)) then some (.inl ((Z++(((([10,32,32,102,105,101,108,100,32]:pG)++aB)++([32]:pG))++aC)),(aA+(1:Int)))) else none else none else none else none else none else none else some (.inr Z)
def K0 (O:(List r5)):Option pG:=sB (rE (SD O) (([]:pG),(0:Int))) fun Z=>some (Z)
section
variable (O:(List r5))
abbrev a6N:List qI:=[(.val (.list (.pair .str (.pair .str .unit))) O,none)]
abbrev a6O:List qH:=[]
@[go_sem] def a6P:qQ:=⟨[((K0 O)).isSome=true],[(.val .str (val (K0 O)),none)],[]⟩
def aGi:List qI→List qH→Option qQ:=rT (V:=(List r5)) (a6N) (fun x=>a6O) fun x=>a6P x
@[go_sem] def aUt:aGi (no_index (a6N O)) (no_index a6O)=some (a6P O):=rV (fun a0 b0 h1 h2=>by cases h1;cases h2;rfl) O
end
@[go_sem] abbrev a6Q:Nat×rI:=(62,⟨[.v],aGi,[],[],none⟩)
def IE:rL Tryz.prog [sM,y8,DD] (rK [SA]):=⟨⟨sO,⟨yX,⟨FC,trivial⟩⟩⟩,qU X9 rX,rM⟩
def aGj:rP Tryz.prog a6Q:=by
 refine rW IE Tryz.func62 (c:=_) rfl (N:=25) pX (ts:=[(2,none)]) rfl (fun _ _=>rfl) ?_;intro O hs hrow;dsimp only[a6N,a6O,a6P,rQ,qW,rF,rO,rS,Nat.reduceAdd] at hs hrow|-;have hz:=hs;obtain⟨z0,e⟩:=aVb.1 hz
 try rw[s9 e]
 clear hz hs;unfold K0 at e;refine qG IE ?_;refine qG IE ?_;refine qZ ?_;refine qG IE ?_;refine sA ?_;obtain⟨Z,hy1,e⟩:=qK e;refine uS 0 (fun s=>s=(fun x=>⟨[(3,(.val .str x,none))],[],0,25,0⟩) Z) ?_ ?_
 .refine uR hy1 (fun x=>⟨[(3,(.val .str x.1,none)),(6,(.val (.list (.pair .str (.pair .str .unit))) O,none)),(7,(.val (.int .i64) (O.length:Int),none)),(8,(.val (.int .i64) x.2,none))],[],0,25,0⟩) ⟨[3,6,7,8],[]⟩ pY ?_;intro x1 w1 n1 d f;obtain⟨aA,aB⟩:=x1;unfold SD at d;dsimp only at d|-;refine qG IE ?_;refine qZ ?_;refine qY d (fun d hc1=> ?_) (fun d hc1=> ?_)
  .refine rJ (qS (qZ (sA ?_)));obtain⟨hg1,d⟩:=qP d;refine qG IE ?_ (hp:=by exact hg1);obtain⟨aC,hv2,hw2,d⟩:=rH d
   try simp only[go_sem] at hw2
   obtain⟨hg3,d⟩:=qP d;obtain⟨hg4,d⟩:=qP d;obtain⟨aD,hv5,hw5,d⟩:=rH d
   try simp only[go_sem] at hw5
   obtain⟨hg6,d⟩:=qP d;obtain⟨hg7,d⟩:=qP d;refine GB IE ?_ (hp:=by exact⟨rG hv2,hg3,hg4,rG hv5,hg6,hg7⟩) (h:=by simp only[go_sem,hw2,hw5];rfl);refine s5 (qS ?_);obtain⟨hg8,d⟩:=qP d;refine rY IE ?_ (hp:=by exact hg8);cases d;exact tI ⟨⟨[3,6,7,8],[]⟩,_,by rfl,f⟩
  .refine uF (uK (uH ?_));cases d;cases f;exact uG ⟨⟨[3],[]⟩,by rfl⟩
 .rintro _ rfl;dsimp only at e|-;refine uQ (qS ?_);refine qG IE ?_;refine qR ?_;cases e;exact pI []
def FM (O:pG):Option Unit:=if (((decide ((O.length:Int)≤(4000:Int)))==true)=true→((uZ O)).isSome=true) then some (()) else none
section
variable (O:pG)
abbrev a6R:List qI:=[(.val .str O,none)]
abbrev a6S:List qH:=[]
@[go_sem] def a6T:qQ:=⟨[((FM O)).isSome=true],[(.val .bool ((decide ((O.length:Int)≤(4000:Int)))&&(val (uZ O))),none)],[]⟩
def aGk:List qI→List qH→Option qQ:=rT (V:=pG) (a6R) (fun x=>a6S) fun x=>a6T x
@[go_sem] def aUu:aGk (no_index (a6R O)) (no_index a6S)=some (a6T O):=rV (fun a0 b0 h1 h2=>by cases h1;cases h2;rfl) O
end
@[go_sem] abbrev XA:Nat×rI:=(69,⟨[.v],aGk,[],[],none⟩)
def a6U:rL Tryz.prog [sM] (rK [aF1]):=⟨⟨sO,trivial⟩,qU aOf rX,rM⟩
def a6V:rP Tryz.prog XA:=by
 refine rW a6U Tryz.func69 (c:=_) rfl (N:=10) pX (ts:=[(2,none)]) rfl (fun _ _=>rfl) ?_;intro O hs hrow;dsimp only[a6R,a6S,a6T,rQ,qW,rF,rO,rS,Nat.reduceAdd] at hs hrow|-;have hz:=hs;obtain⟨z0,e⟩:=aVb.1 hz
 try rw[s9 e]
 clear hz hs;unfold FM at e;refine qG a6U ?_;obtain⟨hg1,e⟩:=qP e;refine qG a6U ?_ (hp:=by exact⟨id,hg1,sL⟩);refine qR ?_;cases e;exact pI []
def M2 (O:pH):Option Unit:=if (((decide ((O.length:Int)≤(20:Int)))==true)=true→((CR O)).isSome=true) then some (()) else none
section
variable (O:pH)
abbrev a6W:List qI:=[(.val (.list .str) O,none)]
abbrev a6X:List qH:=[]
@[go_sem] def a6Y:qQ:=⟨[((M2 O)).isSome=true],[(.val .bool ((decide ((O.length:Int)≤(20:Int)))&&(!(val (CR O)))),none)],[]⟩
def aGl:List qI→List qH→Option qQ:=rT (V:=pH) (a6W) (fun x=>a6X) fun x=>a6Y x
@[go_sem] def aUv:aGl (no_index (a6W O)) (no_index a6X)=some (a6Y O):=rV (fun a0 b0 h1 h2=>by cases h1;cases h2;rfl) O
end
@[go_sem] abbrev a6Z:Nat×rI:=(107,⟨[.v],aGl,[],[],none⟩)
def a60:rL Tryz.prog [wH] (rK [aGf]):=⟨⟨wX,trivial⟩,qU aOm rX,rM⟩
def aGm:rP Tryz.prog a6Z:=by
 refine rW a60 Tryz.func107 (c:=_) rfl (N:=11) pX (ts:=[(2,none)]) rfl (fun _ _=>rfl) ?_;intro O hs hrow;dsimp only[a6W,a6X,a6Y,rQ,qW,rF,rO,rS,Nat.reduceAdd] at hs hrow|-;have hz:=hs;obtain⟨z0,e⟩:=aVb.1 hz
 try rw[s9 e]
 clear hz hs;unfold M2 at e;refine qG a60 ?_;obtain⟨hg1,e⟩:=qP e;refine qG a60 ?_ (hp:=by exact⟨id,hg1,id,sL⟩);refine qR ?_;cases e;exact pI []
attribute [irreducible] OR CR JZ K0 FM M2
end
noncomputable section
def OS (O:rZ):(pG×Int)→Option ((pG×Int)⊕pG):=fun(Z,aA)=>if (decide (aA<(O.2.2.2.2.1.length:Int)))=true then if 0≤aA∧aA<(O.2.2.2.2.1.length:Int) then if ((([10,32,32,102,108,97,103,32]:pG)++(rC .str O.2.2.2.2.1 aA)).length:Int)≤9223372036854775807 then if ((Z++(([10,32,32,102,108,97,103,32]:pG)++(rC .str O.2.2.2.2.1 aA))).length:Int)≤9223372036854775807 then if qJ (aA+(1:Int)) then some (.inl ((Z++(([10,32,32,102,108,97,103,32]:pG)++(rC .str O.2.2.2.2.1 aA))),(aA+(1:Int)))) else none else none else none else none else some (.inr Z)
def M3 (O:rZ):Option pG:=(BR O.1).bind fun Z=>if ((([10,10,101,110,116,114,121,32]:pG)++Z).length:Int)≤9223372036854775807 then if (((([10,10,101,110,116,114,121,32]:pG)++Z)++([32,123]:pG)).length:Int)≤9223372036854775807 then (JZ O.2.2.2.1).bind fun aA=>if ((((([10,10,101,110,116,114,121,32]:pG)++Z)++([32,123]:pG))++aA).length:Int)≤9223372036854775807 then sB (σ:=pG) (if (!decide (O.2.1=([]:pG)))=true then (BR O.2.1).bind fun aB=>if ((([10,32,32,115,111,117,114,99,101,32]:pG)++aB).length:Int)≤9223372036854775807 then if (((((([10,10,101,110,116,114,121,32]:pG)++Z)++([32,123]:pG))++aA)++(([10,32,32,115,111,117,114,99,101,32]:pG)++aB)).length:Int)≤9223372036854775807 then some (((((([10,10,101,110,116,114,121,32]:pG)++Z)++([32,123]:pG))++aA)++(([10,32,32,115,111,117,114,99,101,32]:pG)++aB))) else none else none else some ((((([10,10,101,110,116,114,121,32]:pG)++Z)++([32,123]:pG))++aA)) ) fun aC=>sB (σ:=pG) (if (!decide (O.2.2.1=([]:pG)))=true then (BR O.2.2.1).bind fun aD=>if ((([10,32,32,116,97,114,103,101,116,32]:pG)++aD).length:Int)≤9223372036854775807 then if ((aC++(([10,32,32,116,97,114,103,101,116,32]:pG)++aD)).length:Int)≤9223372036854775807 then some ((aC++(([10,32,32,116,97,114,103,101,116,32]:pG)++aD))) else none else none else some (aC) ) fun aE=>sB (σ:=pG) (if (!decide (O.2.2.2.2.2.1=(0:Int)))=true then if 0≤O.2.2.2.2.2.1∧O.2.2.2.2.2.1<(([([110,101,119]:pG),([102,117,122,122,121]:pG),([116,114,97,110,115,108,97,116,101,100]:pG),([114,101,118,105,101,119,101,100]:pG),([111,98,115,111,108,101,116,101]:pG)]:pH).length:Int) then if ((([10,32,32,115,116,97,116,101,32]:pG)++(rC .str ([([110,101,119]:pG),([102,117,122,122,121]:pG),([116,114,97,110,115,108,97,116,101,100]:pG),([114,101,118,105,101,119,101,100]:pG),([111,98,115,111,108,101,116,101]:pG)]:pH) O.2.2.2.2.2.1)).length:Int)≤9223372036854775807 then if ((aE++(([10,32,32,115,116,97,116,101,32]:pG)++(rC .str ([([110,101,119]:pG),([102,117,122,122,121]:pG),([116,114,97,110,115,108,97,116,101,100]:pG),([114,101,118,105,101,119,101,100]:pG),([111,98,115,111,108,101,116,101]:pG)]:pH) O.2.2.2.2.2.1))).length:Int)≤9223372036854775807 then some ((aE++(([10,32,32,115,116,97,116,101,32]:pG)++(rC .str ([([110,101,119]:pG),([102,117,122,122,121]:pG),([116,114,97,110,115,108,97,116,101,100]:pG),([114,101,118,105,101,119,101,100]:pG),([111,98,115,111,108,101,116,101]:pG)]:pH) O.2.2.2.2.2.1)))) else none else none else none else some (aE) ) fun aF=>sB (rE (OS O) (aF,(0:Int))) fun aG=>(K0 O.2.2.2.2.2.2.1).bind fun aH=>if ((aG++aH).length:Int)≤9223372036854775807 then if (((aG++aH)++([10,125]:pG)).length:Int)≤9223372036854775807 then some (((aG++aH)++([10,125]:pG))) else none else none else none else none else none
section
variable (O:rZ)
abbrev a61:List qI:=[(.val t7 O,none)]
abbrev a62:List qH:=[]
@[go_sem] def a63:qQ:=⟨[((M3 O)).isSome=true],[(.val .str (val (M3 O)),none)],[]⟩
def aGn:List qI→List qH→Option qQ:=rT (V:=rZ) (a61) (fun x=>a62) fun x=>a63 x
@[go_sem] def aUw:aGn (no_index (a61 O)) (no_index a62)=some (a63 O):=rV (fun a0 b0 h1 h2=>by cases h1;cases h2;rfl) O
end
@[go_sem] abbrev aGo:Nat×rI:=(63,⟨[.v],aGn,[],[],none⟩)
def BS:rL Tryz.prog [vP,sM,wH,y8,B3] (rK [SA,a6M,RL,a6Q]):=⟨⟨w8,⟨sO,⟨wX,⟨yX,⟨CL,trivial⟩⟩⟩⟩⟩,qU X9 (qU aGh (qU a2t (qU aGj rX))),rM⟩
def aOn:rP Tryz.prog aGo:=by
 refine rW BS Tryz.func63 (c:=_) rfl (N:=62) pX (ts:=[(2,none)]) rfl (fun _ _=>rfl) ?_;intro O hs hrow;dsimp only[a61,a62,a63,rQ,qW,rF,rO,rS,Nat.reduceAdd] at hs hrow|-;have hz:=hs;obtain⟨z0,e⟩:=aVb.1 hz
 try rw[s9 e]
 clear hz hs;unfold M3 at e;refine qG BS ?_;obtain⟨Z,hv1,hw1,e⟩:=rH e
 try simp only[go_sem] at hw1
 obtain⟨hg2,e⟩:=qP e;obtain⟨hg3,e⟩:=qP e;obtain⟨aA,hv4,hw4,e⟩:=rH e
 try simp only[go_sem] at hw4
 obtain⟨hg5,e⟩:=qP e;refine xE BS ?_ (hp:=by exact⟨rG hv1,hg2,hg3,rG hv4,hg5⟩) (h:=by simp only[go_sem,hw1,hw4];rfl);refine qZ ?_;refine qG BS ?_;obtain⟨aB,d,e⟩:=qK e;refine DA (fun s=>s=(fun x=>⟨[(1,(.val .ref (some (0,0)),none)),(3,(.val .str x,none))],[(0,.cells t7 O [])],1,62,0⟩) aB) ?_ ?_
 .refine qY d (fun d hc1=> ?_) (fun d hc1=> ?_)
  .obtain⟨aC,hv6,hw6,d⟩:=rH d
   try simp only[go_sem] at hw6
   obtain⟨hg7,d⟩:=qP d;obtain⟨hg8,d⟩:=qP d;refine rY BS ?_ (hp:=by exact⟨rG hv6,hg7,hg8⟩) (h:=by simp only[go_sem,hw6];rfl);cases d;exact vO ⟨⟨[1,3],[(0,0)]⟩,by rfl⟩
  .refine rJ ?_;cases d;exact vO ⟨⟨[1,3],[(0,0)]⟩,by rfl⟩
 .rintro _ rfl;dsimp only at e|-;refine qS (qZ ?_);refine qG BS ?_;obtain⟨aD,d,e⟩:=qK e;refine DA (fun s=>s=(fun x=>⟨[(1,(.val .ref (some (0,0)),none)),(3,(.val .str x,none))],[(0,.cells t7 O [])],1,62,0⟩) aD) ?_ ?_
  .refine qY d (fun d hc2=> ?_) (fun d hc2=> ?_)
   .obtain⟨aE,hv9,hw9,d⟩:=rH d
    try simp only[go_sem] at hw9
    obtain⟨hg10,d⟩:=qP d;obtain⟨hg11,d⟩:=qP d;refine rY BS ?_ (hp:=by exact⟨rG hv9,hg10,hg11⟩) (h:=by simp only[go_sem,hw9];rfl);cases d;exact vO ⟨⟨[1,3],[(0,0)]⟩,by rfl⟩
   .refine rJ ?_;cases d;exact vO ⟨⟨[1,3],[(0,0)]⟩,by rfl⟩
  .rintro _ rfl;dsimp only at e|-;refine qS (qZ ?_);refine qG BS ?_;obtain⟨aF,d,e⟩:=qK e;refine DA (fun s=>s=(fun x=>⟨[(1,(.val .ref (some (0,0)),none)),(3,(.val .str x,none))],[(0,.cells t7 O [])],1,62,0⟩) aF) ?_ ?_
   .refine qY d (fun d hc3=> ?_) (fun d hc3=> ?_)
    .obtain⟨hg12,d⟩:=qP d;obtain⟨hg13,d⟩:=qP d;obtain⟨hg14,d⟩:=qP d;refine GB BS ?_ (hp:=by exact⟨hg12,hg13,hg14⟩);cases d;exact vO ⟨⟨[1,3],[(0,0)]⟩,by rfl⟩
    .refine rJ ?_;cases d;exact vO ⟨⟨[1,3],[(0,0)]⟩,by rfl⟩
   .rintro _ rfl;dsimp only at e|-;refine qS (qZ ?_);refine qG BS ?_;refine sA ?_;obtain⟨aG,hy1,e⟩:=qK e;refine uS 0 (fun s=>s=(fun x=>⟨[(1,(.val .ref (some (0,0)),none)),(3,(.val .str x,none))],[(0,.cells t7 O [])],1,62,0⟩) aG) ?_ ?_
    .refine uR hy1 (fun x=>⟨[(1,(.val .ref (some (0,0)),none)),(3,(.val .str x.1,none)),(45,(.val (.list .str) O.2.2.2.2.1,none)),(46,(.val (.int .i64) (O.2.2.2.2.1.length:Int),none)),(47,(.val (.int .i64) x.2,none))],[(0,.cells t7 O [])],1,62,0⟩) ⟨[1,3,45,46,47],[(0,0)]⟩ pY ?_;intro x1 w1 n1 d f;obtain⟨aH,aI⟩:=x1;unfold OS at d;dsimp only at d|-;refine qG BS ?_;refine qZ ?_;refine qY d (fun d hc4=> ?_) (fun d hc4=> ?_)
     .refine rJ (qS (qZ (sA ?_)));obtain⟨hg15,d⟩:=qP d;refine qG BS ?_ (hp:=by exact hg15);obtain⟨hg16,d⟩:=qP d;obtain⟨hg17,d⟩:=qP d;refine rY BS ?_ (hp:=by exact⟨hg16,hg17⟩);refine s5 (qS ?_);obtain⟨hg18,d⟩:=qP d;refine rY BS ?_ (hp:=by exact hg18);cases d;exact tI ⟨⟨[1,3,45,46,47],[(0,0)]⟩,_,by rfl,f⟩
     .refine uF (uK (uH ?_));cases d;cases f;exact uG ⟨⟨[1,3],[(0,0)]⟩,by rfl⟩
    .rintro _ rfl;dsimp only at e|-;refine uQ (qS ?_);obtain⟨aJ,hv19,hw19,e⟩:=rH e
     try simp only[go_sem] at hw19
     obtain⟨hg20,e⟩:=qP e;obtain⟨hg21,e⟩:=qP e;refine qG BS ?_ (hp:=by exact⟨rG hv19,hg20,hg21⟩) (h:=by simp only[go_sem,hw19];rfl);refine qR ?_;cases e;exact pI []
def SE (O:pH):Int→Option (Int⊕(Unit⊕Bool)):=fun Z=>if (decide (Z<(O.length:Int)))=true then if 0≤Z∧Z<(O.length:Int) then (FM (rC .str O Z)).bind fun aA=>if (!((decide (((rC .str O Z).length:Int)≤(4000:Int)))&&(val (uZ (rC .str O Z)))))=true then some (.inr (.inr (false))) else if qJ (Z+(1:Int)) then some (.inl (Z+(1:Int))) else none else none else some (.inr (.inl ()))
def EH (O:pH):Option Bool:=sZ (rE (SE O) (0:Int)) fun _=>some ((decide ((O.length:Int)≤(20:Int))))
section
variable (O:pH)
abbrev a64:List qI:=[(.val (.list .str) O,none)]
abbrev a65:List qH:=[]
@[go_sem] def a66:qQ:=⟨[((EH O)).isSome=true],[(.val .bool (val (EH O)),none)],[]⟩
def aGp:List qI→List qH→Option qQ:=rT (V:=pH) (a64) (fun x=>a65) fun x=>a66 x
@[go_sem] def aUx:aGp (no_index (a64 O)) (no_index a65)=some (a66 O):=rV (fun a0 b0 h1 h2=>by cases h1;cases h2;rfl) O
end
@[go_sem] abbrev aGq:Nat×rI:=(70,⟨[.v],aGp,[],[],none⟩)
def K1:rL Tryz.prog [sM,wH] (rK [XA]):=⟨⟨sO,⟨wX,trivial⟩⟩,qU a6V rX,rM⟩
def aOo:rP Tryz.prog aGq:=by
 refine rW K1 Tryz.func70 (c:=_) rfl (N:=19) pX (ts:=[(2,none)]) rfl (fun _ _=>rfl) ?_;intro O hs hrow;dsimp only[a64,a65,a66,rQ,qW,rF,rO,rS,Nat.reduceAdd] at hs hrow|-;have hz:=hs;obtain⟨z0,e⟩:=aVb.1 hz
 try rw[s9 e]
 clear hz hs;unfold EH at e;refine qG K1 ?_;refine qZ ?_;refine qG K1 ?_;refine sA ?_;obtain⟨y1,hy1,e⟩:=wG e;refine uS 0 (fun s=> ∃v,y1= .inl v∧s=(fun _=>⟨[(0,(.val (.list .str) O,none))],[],0,19,0⟩) v) ?_ ?_
 .refine uR hy1 (fun x=>⟨[(0,(.val (.list .str) O,none)),(3,(.val (.int .i64) x,none))],[],0,19,0⟩) ⟨[0,3],[]⟩ pY ?_;intro Z w1 n1 d f;unfold SE at d;dsimp only at d|-;refine qZ ?_;refine qG K1 ?_;refine qY d (fun d hc1=> ?_) (fun d hc1=> ?_)
  .refine rJ (qS (qZ (sA ?_)));obtain⟨hg1,d⟩:=qP d;obtain⟨aA,hv2,hw2,d⟩:=rH d
   try simp only[go_sem] at hw2
   refine qG K1 ?_ (hp:=by exact⟨hg1,(rG hv2)⟩) (h:=by simp only[go_sem,hw2];rfl);refine qY d (fun d hc2=> ?_) (fun d hc2=> ?_)
   .refine qG K1 ?_;refine qR (sF (s0 (wF (wE (sF (s0 ?_))))));cases d;cases f;dsimp only at e;cases e;exact pI []
   .refine rJ (s5 (qS ?_));obtain⟨hg3,d⟩:=qP d;refine rY K1 ?_ (hp:=by exact hg3);cases d;exact tI ⟨⟨[0,3],[]⟩,_,by rfl,f⟩
  .refine uF (uK (uH ?_));cases d;cases f;exact uG ⟨⟨[0],[]⟩,_,rfl,by rfl⟩
 .rintro _ ⟨v,rfl,rfl⟩;dsimp only at e|-;refine uQ (qS ?_);refine qG K1 ?_;refine qR ?_;cases e;exact pI []
attribute [irreducible] M3 EH
end
noncomputable section
def SF (O:(List r5)):Int→Option (Int⊕(Unit⊕Bool)):=fun Z=>if (decide (Z<(O.length:Int)))=true then if 0≤Z∧Z<(O.length:Int) then (GN ((rC (.pair .str (.pair .str .unit)) O Z).1)).bind fun aA=>if (((!aA)==false)=true→0≤Z∧Z<(O.length:Int)) then if (((!aA)==false)=true→((FM ((rC (.pair .str (.pair .str .unit)) O Z).2.1))).isSome=true) then if (((((!aA)||(!((decide ((((rC (.pair .str (.pair .str .unit)) O Z).2.1).length:Int)≤(4000:Int)))&&(val (uZ ((rC (.pair .str (.pair .str .unit)) O Z).2.1))))))==false)&&((decide ((0:Int)<Z))==true))=true→0≤Z∧Z<(O.length:Int)) then if (((((!aA)||(!((decide ((((rC (.pair .str (.pair .str .unit)) O Z).2.1).length:Int)≤(4000:Int)))&&(val (uZ ((rC (.pair .str (.pair .str .unit)) O Z).2.1))))))==false)&&((decide ((0:Int)<Z))==true))=true→qJ (Z- (1:Int))) then if (((((!aA)||(!((decide ((((rC (.pair .str (.pair .str .unit)) O Z).2.1).length:Int)≤(4000:Int)))&&(val (uZ ((rC (.pair .str (.pair .str .unit)) O Z).2.1))))))==false)&&((decide ((0:Int)<Z))==true))=true→0≤(Z- (1:Int))∧(Z- (1:Int))<(O.length:Int)) then if (((!aA)||(!((decide ((((rC (.pair .str (.pair .str .unit)) O Z).2.1).length:Int)≤(4000:Int)))&&(val (uZ ((rC (.pair .str (.pair .str .unit)) O Z).2.1))))))||((decide ((0:Int)<Z))&&(Op.bytesLess (rC (.pair .str (.pair .str .unit)) O Z).1 (rC (.pair .str (.pair .str .unit)) O (Z- (1:Int))).1||decide ((rC (.pair .str (.pair .str .unit)) O Z).1=(rC (.pair .str (.pair .str .unit)) O (Z- (1:Int))).1))))=true then some (.inr (.inr (false))) else if qJ (Z+(1:Int)) then some (.inl (Z+(1:Int))) else none else none else none else none else none else none else none else some (.inr (.inl ()))
def GQ (O:(List r5)):Option Bool:=sZ (rE (SF O) (0:Int)) fun _=>some ((decide ((O.length:Int)≤(20:Int))))
section
variable (O:(List r5))
abbrev a67:List qI:=[(.val (.list (.pair .str (.pair .str .unit))) O,none)]
abbrev a68:List qH:=[]
@[go_sem] def a69:qQ:=⟨[((GQ O)).isSome=true],[(.val .bool (val (GQ O)),none)],[]⟩
def aGr:List qI→List qH→Option qQ:=rT (V:=(List r5)) (a67) (fun x=>a68) fun x=>a69 x
@[go_sem] def aUy:aGr (no_index (a67 O)) (no_index a68)=some (a69 O):=rV (fun a0 b0 h1 h2=>by cases h1;cases h2;rfl) O
end
@[go_sem] abbrev aGs:Nat×rI:=(72,⟨[.v],aGr,[],[],none⟩)
def K2:rL Tryz.prog [sM,y8,DD] (rK [a5b,XA]):=⟨⟨sO,⟨yX,⟨FC,trivial⟩⟩⟩,qU aFs (qU a6V rX),rM⟩
def aOp:rP Tryz.prog aGs:=by
 refine rW K2 Tryz.func72 (c:=_) rfl (N:=47) pX (ts:=[(2,none)]) rfl (fun _ _=>rfl) ?_;intro O hs hrow;dsimp only[a67,a68,a69,rQ,qW,rF,rO,rS,Nat.reduceAdd] at hs hrow|-;have hz:=hs;obtain⟨z0,f⟩:=aVb.1 hz
 try rw[s9 f]
 clear hz hs;unfold GQ at f;refine qG K2 ?_;refine qZ ?_;refine qG K2 ?_;refine sA ?_;obtain⟨y1,hy1,f⟩:=wG f;refine uS 0 (fun s=> ∃v,y1= .inl v∧s=(fun _=>⟨[(0,(.val (.list (.pair .str (.pair .str .unit))) O,none))],[],0,47,0⟩) v) ?_ ?_
 .refine uR hy1 (fun x=>⟨[(0,(.val (.list (.pair .str (.pair .str .unit))) O,none)),(3,(.val (.int .i64) x,none))],[],0,47,0⟩) ⟨[0,3],[]⟩ pY ?_;intro Z w1 n1 e g;unfold SF at e;dsimp only at e|-;refine qZ ?_;refine qG K2 ?_;refine qY e (fun e hc1=> ?_) (fun e hc1=> ?_)
  .refine rJ (qS (qZ (sA ?_)));obtain⟨hg1,e⟩:=qP e;obtain⟨aA,hv2,hw2,e⟩:=rH e
   try simp only[go_sem] at hw2
   obtain⟨hg3,e⟩:=qP e;obtain⟨hg4,e⟩:=qP e;obtain⟨hg5,e⟩:=qP e;obtain⟨hg6,e⟩:=qP e;obtain⟨hg7,e⟩:=qP e;refine xE K2 ?_ (hp:=by exact⟨hg1,rG hv2,id,id,hg3,id,id,id,hg4,id,u6,id,id,id,id,hg5,id,id,id,hg6,id,id,hg7,id,id,id,id,id,fun hG d=>GA hG d,u6⟩) (h:=by simp only[go_sem,hw2];rfl);refine qY e (fun e hc2=> ?_) (fun e hc2=> ?_)
   .refine qG K2 ?_;refine qR (sF (s0 (wF (wE (sF (s0 ?_))))));cases e;cases g;dsimp only at f;cases f;exact pI []
   .refine rJ (s5 (qS ?_));obtain⟨hg8,e⟩:=qP e;refine rY K2 ?_ (hp:=by exact hg8);cases e;exact tI ⟨⟨[0,3],[]⟩,_,by rfl,g⟩
  .refine uF (uK (uH ?_));cases e;cases g;exact uG ⟨⟨[0],[]⟩,_,rfl,by rfl⟩
 .rintro _ ⟨v,rfl,rfl⟩;dsimp only at f|-;refine uQ (qS ?_);refine qG K2 ?_;refine qR ?_;cases f;exact pI []
attribute [irreducible] GQ
end
noncomputable section
def SG (O:pP):(Int×pP)→Option ((Int×pP)⊕pP):=fun(Z,aA)=>if (decide (Z<(O.length:Int)))=true then if 0≤Z∧Z<(O.length:Int) then if (!(((decide ((0:Int)≤(rC (.int .i64) O Z)))&&(decide ((rC (.int .i64) O Z)≤(1114111:Int))))&&((decide ((rC (.int .i64) O Z)<(55296:Int)))||(decide ((57343:Int)<(rC (.int .i64) O Z))))))=true then (GP (aA,()) (IntKind.wrap .i32 (65533:Int))).bind fun aB=>if qJ (Z+(1:Int)) then some (.inl ((Z+(1:Int)),aB.2)) else none else (GP (aA,()) (IntKind.wrap .i32 (rC (.int .i64) O Z))).bind fun aC=>if qJ (Z+(1:Int)) then some (.inl ((Z+(1:Int)),aC.2)) else none else none else some (.inr aA)
def OT (O:pP):Option pG:=sB (rE (SG O) ((0:Int),([]:pP))) fun Z=>some ((tE Z))
section
variable (O:pP)
abbrev a7a:List qI:=[(.val (.list (.int .i64)) O,none)]
abbrev a7b:List qH:=[]
@[go_sem] def a7c:qQ:=⟨[((OT O)).isSome=true],[(.val .str (val (OT O)),none)],[]⟩
def aGt:List qI→List qH→Option qQ:=rT (V:=pP) (a7a) (fun x=>a7b) fun x=>a7c x
@[go_sem] def aUz:aGt (no_index (a7a O)) (no_index a7b)=some (a7c O):=rV (fun a0 b0 h1 h2=>by cases h1;cases h2;rfl) O
end
@[go_sem] abbrev aGu:Nat×rI:=(277,⟨[.v],aGt,[],[],none⟩)
def DH:rL Tryz.prog [vP,O1,JH,HV] (rK [aE7,aF7,RI]):=⟨⟨w8,⟨WB,⟨O2,⟨LN,trivial⟩⟩⟩⟩,qU aNQ (qU aOi (qU WL rX)),rM⟩
def aOq:rP Tryz.prog aGu:=by
 refine rW DH Tryz.func277 (c:=_) rfl (N:=20) pX (ts:=[(2,none)]) rfl (fun _ _=>rfl) ?_;intro O hs hrow;dsimp only[a7a,a7b,a7c,rQ,qW,rF,rO,rS,Nat.reduceAdd] at hs hrow|-;have hz:=hs;obtain⟨z0,e⟩:=aVb.1 hz
 try rw[s9 e]
 clear hz hs;unfold OT at e;refine qG DH ?_;refine qG DH ?_;refine qZ ?_;refine qG DH ?_;refine sA ?_;obtain⟨Z,hy1,e⟩:=qK e;refine uS 0 (fun s=>s=(fun x=>⟨[(3,(.val .ref (some (0,0)),none))],[(0,.cells y7 ((some (0,0)),(x,())) [(1,1)]),(1,.grow 5 1 (x.length))],2,20,0⟩) Z) ?_ ?_
 .refine uR hy1 (fun x=>⟨[(3,(.val .ref (some (0,0)),none)),(6,(.val (.list (.int .i64)) O,none)),(7,(.val (.int .i64) (O.length:Int),none)),(8,(.val (.int .i64) x.1,none))],[(0,.cells y7 ((some (0,0)),(x.2,())) [(1,1)]),(1,.grow 5 1 (x.2.length))],2,20,0⟩) ⟨[3,6,7,8],[(0,32),(1,33)]⟩ pY ?_;intro x1 w1 n1 d f;obtain⟨aA,aB⟩:=x1;unfold SG at d;dsimp only at d|-;refine qG DH ?_;refine qZ ?_;refine qY d (fun d hc1=> ?_) (fun d hc1=> ?_)
  .refine rJ (qS (qZ (sA ?_)));obtain⟨hg1,d⟩:=qP d;refine qG DH ?_ (hp:=by exact hg1);refine qZ ?_;refine qG DH ?_;refine qY d (fun d hc2=> ?_) (fun d hc2=> ?_)
   .refine rY DH ?_;refine qS ?_;obtain⟨aC,hv2,hw2,d⟩:=rH d
    try simp only[go_sem] at hw2
    refine rY DH ?_ (hp:=by exact⟨pW,(rG hv2)⟩) (h:=by simp only[go_sem,hw2];rfl)
    refine s5 (qS ?_);obtain⟨hg3,d⟩:=qP d;refine rY DH ?_ (hp:=by exact hg3);cases d;exact tI ⟨⟨[3,6,7,8],[(0,0),(1,1)]⟩,_,by rfl,f⟩
   .refine rJ (qS ?_);obtain⟨aD,hv4,hw4,d⟩:=rH d
    try simp only[go_sem] at hw4
    refine rY DH ?_ (hp:=by exact⟨pW,(rG hv4)⟩) (h:=by simp only[go_sem,hw4];rfl)
    refine s5 (qS ?_);obtain⟨hg5,d⟩:=qP d;refine rY DH ?_ (hp:=by exact hg5);cases d;exact tI ⟨⟨[3,6,7,8],[(0,0),(1,1)]⟩,_,by rfl,f⟩
  .refine uF (uK (uH ?_));cases d;cases f;exact uG ⟨⟨[3],[(0,0),(1,1)]⟩,by rfl⟩
 .rintro _ rfl;dsimp only at e|-;refine uQ (qS ?_);refine qG DH ?_ (hp:=by first|rfl|trivial)
  refine qR ?_;cases e;exact pI []
attribute [irreducible] OT
end
noncomputable section
def K3 (O:rZ):Option Bool:=if ((((decide (O.1=([]:pG)))||(decide ((200:Int)<(O.1.length:Int))))==false)=true→((FH O.1)).isSome=true) then if (((((decide (O.1=([]:pG)))||(decide ((200:Int)<(O.1.length:Int))))||(!((decide ((O.1.length:Int)≤(4000:Int)))&&(Lib.validD O.1))))||(decide (O.2.2.2.2.2.1<(0:Int))))||(decide ((4:Int)<O.2.2.2.2.2.1)))=true then some (false) else (FH O.2.1).bind fun Z=>if ((((decide ((O.2.1.length:Int)≤(4000:Int)))&&(Lib.validD O.2.1))==true)=true→((FH O.2.2.1)).isSome=true) then if (((((decide ((O.2.1.length:Int)≤(4000:Int)))&&(Lib.validD O.2.1))&&((decide ((O.2.2.1.length:Int)≤(4000:Int)))&&(Lib.validD O.2.2.1)))==true)=true→((M2 O.2.2.2.1)).isSome=true) then if ((((((decide ((O.2.1.length:Int)≤(4000:Int)))&&(Lib.validD O.2.1))&&((decide ((O.2.2.1.length:Int)≤(4000:Int)))&&(Lib.validD O.2.2.1)))&&((decide ((O.2.2.2.1.length:Int)≤(20:Int)))&&(!(val (CR O.2.2.2.1)))))==true)=true→((HZ O.2.2.2.2.1)).isSome=true) then if (((((((decide ((O.2.1.length:Int)≤(4000:Int)))&&(Lib.validD O.2.1))&&((decide ((O.2.2.1.length:Int)≤(4000:Int)))&&(Lib.validD O.2.2.1)))&&((decide ((O.2.2.2.1.length:Int)≤(20:Int)))&&(!(val (CR O.2.2.2.1)))))&&(val (HZ O.2.2.2.2.1)))==true)=true→((GO O.2.2.2.2.2.2.1)).isSome=true) then some (((((((decide ((O.2.1.length:Int)≤(4000:Int)))&&(Lib.validD O.2.1))&&((decide ((O.2.2.1.length:Int)≤(4000:Int)))&&(Lib.validD O.2.2.1)))&&((decide ((O.2.2.2.1.length:Int)≤(20:Int)))&&(!(val (CR O.2.2.2.1)))))&&(val (HZ O.2.2.2.2.1)))&&(val (GO O.2.2.2.2.2.2.1)))) else none else none else none else none else none
section
variable (O:rZ)
abbrev a7d:List qI:=[(.val t7 O,none)]
abbrev a7e:List qH:=[]
@[go_sem] def a7f:qQ:=⟨[((K3 O)).isSome=true],[(.val .bool (val (K3 O)),none)],[]⟩
def aGv:List qI→List qH→Option qQ:=rT (V:=rZ) (a7d) (fun x=>a7e) fun x=>a7f x
@[go_sem] def aUA:aGv (no_index (a7d O)) (no_index a7e)=some (a7f O):=rV (fun a0 b0 h1 h2=>by cases h1;cases h2;rfl) O
end
@[go_sem] abbrev aGw:Nat×rI:=(109,⟨[.v],aGv,[],[],none⟩)
def SH:rL Tryz.prog [vP,sM,wH,y8,B3] (rK [RX,a6Z,aEj,a6b]):=⟨⟨w8,⟨sO,⟨wX,⟨yX,⟨CL,trivial⟩⟩⟩⟩⟩,qU X4 (qU aGm (qU aNB (qU aFX rX))),rM⟩
def aOr:rP Tryz.prog aGw:=by
 refine rW SH Tryz.func109 (c:=_) rfl (N:=51) pX (ts:=[(2,none)]) rfl (fun _ _=>rfl) ?_;intro O hs hrow;dsimp only[a7d,a7e,a7f,rQ,qW,rF,rO,rS,Nat.reduceAdd] at hs hrow|-;have hz:=hs;obtain⟨z0,e⟩:=aVb.1 hz
 try rw[s9 e]
 clear hz hs;unfold K3 at e;refine qG SH ?_;refine qZ ?_;obtain⟨hg1,e⟩:=qP e;refine qG SH ?_ (hp:=by exact⟨id,id,id,u6,id,id,hg1,id,u6,id,id,u6,id,id,u6⟩);refine qY e (fun e hc1=> ?_) (fun e hc1=> ?_)
 .refine qG SH ?_;refine qR (s0 ?_);cases e;exact pI []
 .refine rJ (qS ?_);obtain⟨Z,hv2,hw2,e⟩:=rH e
  try simp only[go_sem] at hw2
  obtain⟨hg3,e⟩:=qP e;obtain⟨hg4,e⟩:=qP e;obtain⟨hg5,e⟩:=qP e;obtain⟨hg6,e⟩:=qP e;refine qG SH ?_ (hp:=by exact⟨rG hv2,id,id,hg3,sL,id,id,hg4,sL,id,id,hg5,sL,id,id,hg6,sL⟩) (h:=by simp only[go_sem,hw2];rfl);refine qR ?_;cases e;exact pI []
def SI (O:Int) (Z:pG):(pP×Int)→Option ((pP×Int)⊕(pP⊕(pG×Int×Int))):=fun(aA,aB)=>if (decide (aB<(Z.length:Int)))=true then if 0≤aB∧aB<(Z.length:Int) then if qJ (aB+(1:Int)) then if 0≤aB∧aB≤(aB+(1:Int))∧(aB+(1:Int))≤(Z.length:Int) then sB (σ:=(pG×Int)) (if ((!decide (O=(4:Int)))&&(decide ((r7 Z aB)=(92:Int))))=true then if 0≤aB∧aB≤(Z.length:Int)∧(Z.length:Int)≤(Z.length:Int) then (S8 (qV Z aB (Z.length:Int))).bind fun aC=>some ((aC.1,aC.2)) else none else if ((decide (O=(4:Int)))&&(decide ((r7 Z aB)=(38:Int))))=true then if 0≤aB∧aB≤(Z.length:Int)∧(Z.length:Int)≤(Z.length:Int) then (aGa (qV Z aB (Z.length:Int))).bind fun aD=>some ((aD.1,aD.2)) else none else if ((!decide (O=(4:Int)))&&(decide ((r7 Z aB)=(10:Int))))=true then if ((!decide (O=(4:Int)))&&(decide ((r7 Z aB)=(10:Int))))=true then some (((qV Z aB (aB+(1:Int))),(0:Int))) else some (((qV Z aB (aB+(1:Int))),(1:Int))) else if (((decide (O=(2:Int)))||(decide (O=(3:Int))))&&(decide ((r7 Z aB)=(34:Int))))=true then if (((decide (O=(2:Int)))||(decide (O=(3:Int))))&&(decide ((r7 Z aB)=(34:Int))))=true then some (((qV Z aB (aB+(1:Int))),(0:Int))) else some (((qV Z aB (aB+(1:Int))),(1:Int))) else if (((decide (O=(4:Int)))==true)=true→((FE (r7 Z aB) ([60,34]:pG))).isSome=true) then if ((decide (O=(4:Int)))&&(val (FE (r7 Z aB) ([60,34]:pG))))=true then some (((qV Z aB (aB+(1:Int))),(0:Int))) else some (((qV Z aB (aB+(1:Int))),(1:Int))) else none ) fun(aE,aF)=>if (decide (aF=(0:Int)))=true then some (.inr (.inr ((([]:pG),aB,(3:Int))))) else if List.length aA+aE.length≤140737488355328 then if qJ (aB+aF) then some (.inl ((aA++tV aE),(aB+aF))) else none else none else none else none else none else some (.inr (.inl aA))
def SJ (O:Int) (Z:pG):Option (pG×Int×Int):=if (!((decide ((1:Int)≤O))&&(decide (O≤(4:Int)))))=true then some ((([]:pG),(0:Int),(1:Int))) else sZ (rE (SI O Z) (([]:pP),(0:Int))) fun aA=>some (((tE aA),(0:Int),(0:Int)))
def OU (O:rZ):Option Unit:=if ((((!decide (O.1=([]:pG)))&&(decide ((O.1.length:Int)≤(200:Int))))==true)=true→((FM O.1)).isSome=true) then if (((((!decide (O.1=([]:pG)))&&(decide ((O.1.length:Int)≤(200:Int))))&&((decide ((O.1.length:Int)≤(4000:Int)))&&(val (uZ O.1))))==true)=true→((FM O.2.1)).isSome=true) then if ((((((!decide (O.1=([]:pG)))&&(decide ((O.1.length:Int)≤(200:Int))))&&((decide ((O.1.length:Int)≤(4000:Int)))&&(val (uZ O.1))))&&((decide ((O.2.1.length:Int)≤(4000:Int)))&&(val (uZ O.2.1))))==true)=true→((FM O.2.2.1)).isSome=true) then if (((((((!decide (O.1=([]:pG)))&&(decide ((O.1.length:Int)≤(200:Int))))&&((decide ((O.1.length:Int)≤(4000:Int)))&&(val (uZ O.1))))&&((decide ((O.2.1.length:Int)≤(4000:Int)))&&(val (uZ O.2.1))))&&((decide ((O.2.2.1.length:Int)≤(4000:Int)))&&(val (uZ O.2.2.1))))==true)=true→((EH O.2.2.2.1)).isSome=true) then if ((((((((!decide (O.1=([]:pG)))&&(decide ((O.1.length:Int)≤(200:Int))))&&((decide ((O.1.length:Int)≤(4000:Int)))&&(val (uZ O.1))))&&((decide ((O.2.1.length:Int)≤(4000:Int)))&&(val (uZ O.2.1))))&&((decide ((O.2.2.1.length:Int)≤(4000:Int)))&&(val (uZ O.2.2.1))))&&(val (EH O.2.2.2.1)))==true)=true→((FL O.2.2.2.2.1)).isSome=true) then if (((((((((((!decide (O.1=([]:pG)))&&(decide ((O.1.length:Int)≤(200:Int))))&&((decide ((O.1.length:Int)≤(4000:Int)))&&(val (uZ O.1))))&&((decide ((O.2.1.length:Int)≤(4000:Int)))&&(val (uZ O.2.1))))&&((decide ((O.2.2.1.length:Int)≤(4000:Int)))&&(val (uZ O.2.2.1))))&&(val (EH O.2.2.2.1)))&&(val (FL O.2.2.2.2.1)))&&(decide ((0:Int)≤O.2.2.2.2.2.1)))&&(decide (O.2.2.2.2.2.1≤(4:Int))))==true)=true→((GQ O.2.2.2.2.2.2.1)).isSome=true) then some (()) else none else none else none else none else none else none
section
variable (O:rZ)
abbrev a7g:List qI:=[(.val t7 O,none)]
abbrev a7h:List qH:=[]
@[go_sem] def a7i:qQ:=⟨[((OU O)).isSome=true],[(.val .bool ((((((((((!decide (O.1=([]:pG)))&&(decide ((O.1.length:Int)≤(200:Int))))&&((decide ((O.1.length:Int)≤(4000:Int)))&&(val (uZ O.1))))&&((decide ((O.2.1.length:Int)≤(4000:Int)))&&(val (uZ O.2.1))))&&((decide ((O.2.2.1.length:Int)≤(4000:Int)))&&(val (uZ O.2.2.1))))&&(val (EH O.2.2.2.1)))&&(val (FL O.2.2.2.2.1)))&&(decide ((0:Int)≤O.2.2.2.2.2.1)))&&(decide (O.2.2.2.2.2.1≤(4:Int))))&&(val (GQ O.2.2.2.2.2.2.1))),none)],[]⟩
def aGx:List qI→List qH→Option qQ:=rT (V:=rZ) (a7g) (fun x=>a7h) fun x=>a7i x
@[go_sem] def aUB:aGx (no_index (a7g O)) (no_index a7h)=some (a7i O):=rV (fun a0 b0 h1 h2=>by cases h1;cases h2;rfl) O
end
@[go_sem] abbrev a7j:Nat×rI:=(36,⟨[.v],aGx,[],[],none⟩)
def a7k:rL Tryz.prog [vP,sM,wH,y8,B3] (rK [XA,aGq,aFV,aGs]):=⟨⟨w8,⟨sO,⟨wX,⟨yX,⟨CL,trivial⟩⟩⟩⟩⟩,qU a6V (qU aOo (qU aOd (qU aOp rX))),rM⟩
def aOs:rP Tryz.prog a7j:=by
 refine rW a7k Tryz.func36 (c:=_) rfl (N:=52) pX (ts:=[(2,none)]) rfl (fun _ _=>rfl) ?_;intro O hs hrow;dsimp only[a7g,a7h,a7i,rQ,qW,rF,rO,rS,Nat.reduceAdd] at hs hrow|-;have hz:=hs;obtain⟨z0,e⟩:=aVb.1 hz
 try rw[s9 e]
 clear hz hs;unfold OU at e;refine qG a7k ?_;obtain⟨hg1,e⟩:=qP e;obtain⟨hg2,e⟩:=qP e;obtain⟨hg3,e⟩:=qP e;obtain⟨hg4,e⟩:=qP e;obtain⟨hg5,e⟩:=qP e;obtain⟨hg6,e⟩:=qP e;refine qG a7k ?_ (hp:=by exact⟨id,id,id,sL,id,id,hg1,sL,id,id,hg2,sL,id,id,hg3,sL,id,id,hg4,sL,id,id,hg5,sL,id,id,sL,id,id,sL,id,id,hg6,sL⟩);refine qR ?_;cases e;exact pI []
attribute [irreducible] K3 SJ OU
end
noncomputable section
def M4 (O:sC):(Int×pN)→Option ((Int×pN)⊕(Unit⊕Bool)):=fun(Z,aA)=>if (decide (Z<(O.2.2.2.1.length:Int)))=true then if 0≤Z∧Z<(O.2.2.2.1.length:Int) then if (((sR .str .bool aA ((rC t7 O.2.2.2.1 Z).1))==false)=true→((K3 (rC t7 O.2.2.2.1 Z))).isSome=true) then if ((sR .str .bool aA ((rC t7 O.2.2.2.1 Z).1))||(!(val (K3 (rC t7 O.2.2.2.1 Z)))))=true then some (.inr (.inr (false))) else if qJ (Z+(1:Int)) then some (.inl ((Z+(1:Int)),(tY .str .bool ((rC t7 O.2.2.2.1 Z).1) true aA))) else none else none else none else some (.inr (.inl ()))
def M5 (O:sC):Option Bool:=(HY O.1).bind fun Z=>if (((!Z)==false)=true→((M2 O.2.1)).isSome=true) then if ((((!Z)||(!((decide ((O.2.1.length:Int)≤(20:Int)))&&(!(val (CR O.2.1))))))==false)=true→((GO O.2.2.1)).isSome=true) then if ((((!Z)||(!((decide ((O.2.1.length:Int)≤(20:Int)))&&(!(val (CR O.2.1))))))||(!(val (GO O.2.2.1))))||(decide ((1000:Int)<(O.2.2.2.1.length:Int))))=true then some (false) else sZ (rE (M4 O) ((0:Int),([]:pN))) fun _=>some (true) else none else none
section
variable (O:sC)
abbrev a7l:List qI:=[(.val F9 O,none)]
abbrev a7m:List qH:=[]
@[go_sem] def a7n:qQ:=⟨[((M5 O)).isSome=true],[(.val .bool (val (M5 O)),none)],[]⟩
def aGy:List qI→List qH→Option qQ:=rT (V:=sC) (a7l) (fun x=>a7m) fun x=>a7n x
@[go_sem] def aUC:aGy (no_index (a7l O)) (no_index a7m)=some (a7n O):=rV (fun a0 b0 h1 h2=>by cases h1;cases h2;rfl) O
end
@[go_sem] abbrev aGz:Nat×rI:=(59,⟨[.v],aGy,[],[],none⟩)
def DI:rL Tryz.prog [GE,sM,wH,y8,HU,DC,B3,JG] (rK [a2y,a6Z,a6b,aGw]):=⟨⟨JF,⟨sO,⟨wX,⟨yX,⟨LM,⟨FB,⟨CL,⟨O0,trivial⟩⟩⟩⟩⟩⟩⟩⟩,qU aD0 (qU aGm (qU aFX (qU aOr rX))),rM⟩
def aOt:rP Tryz.prog aGz:=by
 refine rW DI Tryz.func59 (c:=_) rfl (N:=49) pX (ts:=[(2,none)]) rfl (fun _ _=>rfl) ?_;intro O hs hrow;dsimp only[a7l,a7m,a7n,rQ,qW,rF,rO,rS,Nat.reduceAdd] at hs hrow|-;have hz:=hs;obtain⟨z0,d⟩:=aVb.1 hz
 try rw[s9 d]
 clear hz hs;unfold M5 at d;refine qG DI ?_;refine qZ ?_;obtain⟨Z,hv1,hw1,d⟩:=rH d
 try simp only[go_sem] at hw1
 obtain⟨hg2,d⟩:=qP d;obtain⟨hg3,d⟩:=qP d;refine qG DI ?_ (hp:=by exact⟨rG hv1,id,id,hg2,id,u6,id,id,hg3,id,u6,id,id,id,u6⟩) (h:=by simp only[go_sem,hw1];rfl);refine qY d (fun d hc1=> ?_) (fun d hc1=> ?_)
 .refine qG DI ?_;refine qR (s0 ?_);cases d;exact pI []
 .refine rJ (qS ?_);refine qG DI ?_;refine qZ ?_;refine qG DI ?_;refine sA ?_;obtain⟨y1,hy1,d⟩:=wG d;refine uS 0 (fun s=> ∃v,y1= .inl v∧s=(fun _=>⟨[],[],0,49,0⟩) v) ?_ ?_
  .refine uR hy1 (fun x=>⟨[(3,(.val .mp (some 0),none)),(30,(.val (.list t7) O.2.2.2.1,none)),(31,(.val (.int .i64) (O.2.2.2.1.length:Int),none)),(32,(.val (.int .i64) x.1,none))],[(0,.map .str .bool x.2)],1,49,0⟩) ⟨[3,30,31,32],[(0,768)]⟩ pY ?_;intro x1 w1 n1 f g;obtain⟨aA,aB⟩:=x1;unfold M4 at f;dsimp only at f|-;refine qG DI ?_;refine qZ ?_;refine qY f (fun f hc2=> ?_) (fun f hc2=> ?_)
   .refine rJ (qS (qZ (sA ?_)));obtain⟨hg4,f⟩:=qP f;refine qG DI ?_ (hp:=by exact hg4);refine qZ ?_;obtain⟨hg5,f⟩:=qP f;refine qG DI ?_ (hp:=by exact⟨id,hg5,id,u6⟩);refine qY f (fun f hc3=> ?_) (fun f hc3=> ?_)
    .refine qG DI ?_;refine qR (s0 (sF (s0 (wF (wE (sF (s0 ?_)))))));cases f;cases g;dsimp only at d;cases d;exact pI []
    .refine rJ (qS ?_);refine rY DI ?_;refine s5 (qS ?_);obtain⟨hg6,f⟩:=qP f;refine rY DI ?_ (hp:=by exact hg6);cases f;exact tI ⟨⟨[3,30,31,32],[(0,0)]⟩,_,by rfl,g⟩
   .refine uF (uK (uH ?_));cases f;cases g;exact uG ⟨⟨[],[]⟩,_,rfl,by rfl⟩
  .rintro _ ⟨v,rfl,rfl⟩;dsimp only at d|-;refine uQ (qS ?_);refine qG DI ?_;refine qR ?_;cases d;exact pI []
def K4 (O:Int):Option pG:=(OT ([O]:pP)).bind fun Z=>some (Z)
section
variable (O:Int)
abbrev a7o:List qI:=[(.val (.int .i64) O,none)]
abbrev a7p:List qH:=[]
@[go_sem] def a7q:qQ:=⟨[((K4 O)).isSome=true],[(.val .str (val (K4 O)),none),(.val .bool ((decide (O≤(1114111:Int)))&&((decide (O<(55296:Int)))||(decide ((57343:Int)<O)))),none)],[]⟩
def aGA:List qI→List qH→Option qQ:=rT (V:=Int) (a7o) (fun x=>a7p) fun x=>a7q x
@[go_sem] def aUD:aGA (no_index (a7o O)) (no_index a7p)=some (a7q O):=rV (fun a0 b0 h1 h2=>by cases h1;cases h2;rfl) O
end
@[go_sem] abbrev a7r:Nat×rI:=(252,⟨[.v],aGA,[],[],none⟩)
def XB:rL Tryz.prog [JH] (rK [aGu]):=⟨⟨O2,trivial⟩,qU aOq rX,rM⟩
def aGB:rP Tryz.prog a7r:=by
 refine rW XB Tryz.func252 (c:=_) rfl (N:=19) pX (ts:=[(2,none),(3,none)]) rfl (fun _ _=>rfl) ?_;intro O hs hrow;dsimp only[a7o,a7p,a7q,rQ,qW,rF,rO,rS,Nat.reduceAdd] at hs hrow|-;have hz:=hs;obtain⟨z0,d⟩:=aVb.1 hz
 try rw[s9 d]
 clear hz hs;unfold K4 at d;refine qG XB ?_;refine qG XB ?_ (hp:=by exact⟨id,id,id,id,fun hG e=>HS hG e,sL⟩);obtain⟨Z,hv1,hw1,d⟩:=rH d
 try simp only[go_sem] at hw1
 refine qG XB ?_ (hp:=by exact(rG hv1)) (h:=by simp only[go_sem,hw1];rfl);refine qR ?_;cases d;exact pI []
def SK (O:sC):(Int×pH)→Option ((Int×pH)⊕pH):=fun(Z,aA)=>if (decide (Z<(O.2.2.2.1.length:Int)))=true then if 0≤Z∧Z<(O.2.2.2.1.length:Int) then (M3 (rC t7 O.2.2.2.1 Z)).bind fun aB=>if (aA.length+([aB]:pH).length)*16≤140737488355328 then if qJ (Z+(1:Int)) then some (.inl ((Z+(1:Int)),(aA++([aB]:pH)))) else none else none else none else some (.inr aA)
def FN (O:sC):Option (pG×pH×pG×Int):=(M5 O).bind fun Z=>if (!Z)=true then some ((([]:pG),([]:pH),([]:pG),(1:Int))) else (BR O.1).bind fun aA=>if ((([99,97,116,97,108,111,103,32]:pG)++aA).length:Int)≤9223372036854775807 then if (((([99,97,116,97,108,111,103,32]:pG)++aA)++([32,123]:pG)).length:Int)≤9223372036854775807 then (JZ O.2.1).bind fun aB=>if ((((([99,97,116,97,108,111,103,32]:pG)++aA)++([32,123]:pG))++aB).length:Int)≤9223372036854775807 then (K0 O.2.2.1).bind fun aC=>if (((((([99,97,116,97,108,111,103,32]:pG)++aA)++([32,123]:pG))++aB)++aC).length:Int)≤9223372036854775807 then if ((((((([99,97,116,97,108,111,103,32]:pG)++aA)++([32,123]:pG))++aB)++aC)++([10,125]:pG)).length:Int)≤9223372036854775807 then sB (rE (SK O) ((0:Int),([]:pH))) fun aD=>some (((((((([99,97,116,97,108,111,103,32]:pG)++aA)++([32,123]:pG))++aB)++aC)++([10,125]:pG)),aD,([10]:pG),(0:Int))) else none else none else none else none else none
section
variable (O:sC)
abbrev a7s:List qI:=[(.val F9 O,none)]
abbrev a7t:List qH:=[]
@[go_sem] def a7u:qQ:=⟨[((FN O)).isSome=true],[(.val CK ((val (FN O)).1,((val (FN O)).2.1,((val (FN O)).2.2.1,()))),none),(.val (.int .i64) ((val (FN O)).2.2.2),none)],[]⟩
def aGC:List qI→List qH→Option qQ:=rT (V:=sC) (a7s) (fun x=>a7t) fun x=>a7u x
@[go_sem] def aUE:aGC (no_index (a7s O)) (no_index a7t)=some (a7u O):=rV (fun a0 b0 h1 h2=>by cases h1;cases h2;rfl) O
end
@[go_sem] abbrev a7v:Nat×rI:=(32,⟨[.v],aGC,[],[],none⟩)
def FO:rL Tryz.prog [sM,wH,y8,HU,DC,JD,B3] (rK [aGz,SA,a6M,a6Q,aGo]):=⟨⟨sO,⟨wX,⟨yX,⟨LM,⟨FB,⟨NZ,⟨CL,trivial⟩⟩⟩⟩⟩⟩⟩,qU aOt (qU X9 (qU aGh (qU aGj (qU aOn rX)))),rM⟩
def aOu:rP Tryz.prog a7v:=by
 refine rW FO Tryz.func32 (c:=_) rfl (N:=42) pX (ts:=[(2,some 34),(3,none)]) rfl (fun _ _=>rfl) ?_;intro O hs hrow;dsimp only[a7s,a7t,a7u,rQ,qW,rF,rO,rS,Nat.reduceAdd] at hs hrow|-;have hz:=hs;obtain⟨z0,d⟩:=aVb.1 hz
 try rw[s9 d]
 clear hz hs;unfold FN at d;refine qG FO ?_;refine qZ ?_;obtain⟨Z,hv1,hw1,d⟩:=rH d
 try simp only[go_sem] at hw1
 refine qG FO ?_ (hp:=by exact(rG hv1)) (h:=by simp only[go_sem,hw1];rfl);refine qY d (fun d hc1=> ?_) (fun d hc1=> ?_)
 .refine qG FO ?_;refine qR (s0 ?_);cases d;exact pI []
 .refine rJ (qS ?_);obtain⟨aA,hv2,hw2,d⟩:=rH d
  try simp only[go_sem] at hw2
  obtain⟨hg3,d⟩:=qP d;obtain⟨hg4,d⟩:=qP d;obtain⟨aB,hv5,hw5,d⟩:=rH d
  try simp only[go_sem] at hw5
  obtain⟨hg6,d⟩:=qP d;obtain⟨aC,hv7,hw7,d⟩:=rH d
  try simp only[go_sem] at hw7
  obtain⟨hg8,d⟩:=qP d;obtain⟨hg9,d⟩:=qP d;refine xE FO ?_ (hp:=by exact⟨rG hv2,hg3,hg4,rG hv5,hg6,rG hv7,hg8,hg9⟩) (h:=by simp only[go_sem,hw2,hw5,hw7];rfl);refine qZ ?_;refine qG FO ?_;refine sA ?_;obtain⟨aD,hy1,d⟩:=qK d;refine uS 0 (fun s=>s=(fun x=>⟨[(2,(.val .ref (some (0,0)),none)),(4,(.val .ref (some (1,0)),none))],[(0,.cells CK (([]:pG),(([]:pH),(([]:pG),()))) [(1,2)]),(1,.cells CK ((((((([99,97,116,97,108,111,103,32]:pG)++aA)++([32,123]:pG))++aB)++aC)++([10,125]:pG)),(x,(([10]:pG),()))) [(1,3)]),(2,.grow 9 1 (([]:pH).length)),(3,.grow 9 1 (x.length))],4,42,0⟩) aD) ?_ ?_
  .refine uR hy1 (fun x=>⟨[(2,(.val .ref (some (0,0)),none)),(4,(.val .ref (some (1,0)),none)),(27,(.val (.list t7) O.2.2.2.1,none)),(28,(.val (.int .i64) (O.2.2.2.1.length:Int),none)),(29,(.val (.int .i64) x.1,none))],[(0,.cells CK (([]:pG),(([]:pH),(([]:pG),()))) [(1,2)]),(1,.cells CK ((((((([99,97,116,97,108,111,103,32]:pG)++aA)++([32,123]:pG))++aB)++aC)++([10,125]:pG)),(x.2,(([10]:pG),()))) [(1,3)]),(2,.grow 9 1 (([]:pH).length)),(3,.grow 9 1 (x.2.length))],4,42,0⟩) ⟨[2,4,27,28,29],[(0,32),(1,672),(2,33),(3,704)]⟩ pY ?_;intro x1 w1 n1 f g;obtain⟨aE,aF⟩:=x1;unfold SK at f;dsimp only at f|-;refine qG FO ?_;refine qZ ?_;refine qY f (fun f hc2=> ?_) (fun f hc2=> ?_)
   .refine rJ (qS (qZ (sA ?_)));obtain⟨hg10,f⟩:=qP f;refine qG FO ?_ (hp:=by exact hg10);obtain⟨aG,hv11,hw11,f⟩:=rH f
    try simp only[go_sem] at hw11
    obtain⟨hg12,f⟩:=qP f;refine GB FO ?_ (hp:=by exact⟨rG hv11,pW,hg12⟩) (h:=by simp only[go_sem,hw11];rfl)
    refine s5 (qS ?_);obtain⟨hg13,f⟩:=qP f;refine rY FO ?_ (hp:=by exact hg13);cases f;exact tI ⟨⟨[2,4,27,28,29],[(0,0),(1,1),(2,2),(3,3)]⟩,_,by rfl,g⟩
   .refine uF (uK (uH ?_));cases f;cases g;exact uG ⟨⟨[2,4],[(0,0),(1,1),(2,2),(3,3)]⟩,by rfl⟩
  .rintro _ rfl;dsimp only at d|-;refine uQ (qS ?_);refine qG FO ?_;refine qR ?_;cases d;exact pI []
attribute [irreducible] M5 K4 FN
end
noncomputable section
def SL (O:pG):Int→Option (Int⊕Int):=fun Z=>if (((decide (Z<(O.length:Int)))==true)=true→0≤Z∧Z<(O.length:Int)) then if ((((decide (Z<(O.length:Int)))==true)&&((((decide ((97:Int)≤(r7 O Z)))&&(decide ((r7 O Z)≤(122:Int))))||((decide ((65:Int)≤(r7 O Z)))&&(decide ((r7 O Z)≤(90:Int)))))==false))=true→0≤Z∧Z<(O.length:Int)) then if (((((decide (Z<(O.length:Int)))==true)&&((((decide ((97:Int)≤(r7 O Z)))&&(decide ((r7 O Z)≤(122:Int))))||((decide ((65:Int)≤(r7 O Z)))&&(decide ((r7 O Z)≤(90:Int)))))==false))&&((decide ((48:Int)≤(r7 O Z)))==true))=true→0≤Z∧Z<(O.length:Int)) then if ((((decide (Z<(O.length:Int)))==true)&&(((((decide ((97:Int)≤(r7 O Z)))&&(decide ((r7 O Z)≤(122:Int))))||((decide ((65:Int)≤(r7 O Z)))&&(decide ((r7 O Z)≤(90:Int)))))||((decide ((48:Int)≤(r7 O Z)))&&(decide ((r7 O Z)≤(57:Int)))))==false))=true→0≤Z∧Z<(O.length:Int)) then if ((((decide (Z<(O.length:Int)))==true)&&((((((decide ((97:Int)≤(r7 O Z)))&&(decide ((r7 O Z)≤(122:Int))))||((decide ((65:Int)≤(r7 O Z)))&&(decide ((r7 O Z)≤(90:Int)))))||((decide ((48:Int)≤(r7 O Z)))&&(decide ((r7 O Z)≤(57:Int)))))||(decide ((r7 O Z)=(45:Int))))==false))=true→0≤Z∧Z<(O.length:Int)) then if ((((decide (Z<(O.length:Int)))==true)&&(((((((decide ((97:Int)≤(r7 O Z)))&&(decide ((r7 O Z)≤(122:Int))))||((decide ((65:Int)≤(r7 O Z)))&&(decide ((r7 O Z)≤(90:Int)))))||((decide ((48:Int)≤(r7 O Z)))&&(decide ((r7 O Z)≤(57:Int)))))||(decide ((r7 O Z)=(45:Int))))||(decide ((r7 O Z)=(95:Int))))==false))=true→0≤Z∧Z<(O.length:Int)) then if ((decide (Z<(O.length:Int)))&&(((((((decide ((97:Int)≤(r7 O Z)))&&(decide ((r7 O Z)≤(122:Int))))||((decide ((65:Int)≤(r7 O Z)))&&(decide ((r7 O Z)≤(90:Int)))))||((decide ((48:Int)≤(r7 O Z)))&&(decide ((r7 O Z)≤(57:Int)))))||(decide ((r7 O Z)=(45:Int))))||(decide ((r7 O Z)=(95:Int))))||(decide ((r7 O Z)=(46:Int)))))=true then if qJ (Z+(1:Int)) then some (.inl (Z+(1:Int))) else none else some (.inr Z) else none else none else none else none else none else none
def OV (O:pG) (Z:Int):Option (Int×pG×Int×Int):=(OK O Z).bind fun aA=>if (decide (aA=(O.length:Int)))=true then some (((0:Int),([]:pG),aA,aA)) else if 0≤aA∧aA<(O.length:Int) then if ((decide ((r7 O aA)=(123:Int)))||(decide ((r7 O aA)=(125:Int))))=true then if qJ (aA+(1:Int)) then if 0≤aA∧aA≤(aA+(1:Int))∧(aA+(1:Int))≤(O.length:Int) then if qJ (aA+(1:Int)) then some (((3:Int),(qV O aA (aA+(1:Int))),aA,(aA+(1:Int)))) else none else none else none else if (decide ((r7 O aA)=(34:Int)))=true then if qJ (aA+(1:Int)) then if 0≤(aA+(1:Int))∧(aA+(1:Int))≤(O.length:Int)∧(O.length:Int)≤(O.length:Int) then (OE (3:Int) (qV O (aA+(1:Int)) (O.length:Int)) (34:Int)).bind fun aB=>if (decide (aB<(0:Int)))=true then some (((0:Int),([]:pG),aA,aA)) else if qJ (aA+(1:Int)) then if qJ (aA+(1:Int)) then if qJ ((aA+(1:Int))+aB) then if 0≤(aA+(1:Int))∧(aA+(1:Int))≤((aA+(1:Int))+aB)∧((aA+(1:Int))+aB)≤(O.length:Int) then (SJ (3:Int) (qV O (aA+(1:Int)) ((aA+(1:Int))+aB))).bind fun aC=>if (((!decide (aC.2.2=(0:Int)))==false)=true→((FM aC.1)).isSome=true) then if ((!decide (aC.2.2=(0:Int)))||(!((decide ((aC.1.length:Int)≤(4000:Int)))&&(val (uZ aC.1)))))=true then some (((0:Int),([]:pG),aA,aA)) else if qJ (aA+aB) then if qJ ((aA+aB)+(2:Int)) then some (((1:Int),aC.1,aA,((aA+aB)+(2:Int)))) else none else none else none else none else none else none else none else none else none else if (((decide ((97:Int)≤(r7 O aA)))&&(decide ((r7 O aA)≤(122:Int))))||((decide ((65:Int)≤(r7 O aA)))&&(decide ((r7 O aA)≤(90:Int)))))=true then sB (rE (SL O) aA) fun aD=>if 0≤aA∧aA≤aD∧aD≤(O.length:Int) then some (((2:Int),(qV O aA aD),aA,aD)) else none else some (((0:Int),([]:pG),aA,aA)) else none
def vY (O:HT) (Z:Int) (aA:pG):Option (Int×Int×Int×Int×pG×Int×Int):=(OV O.1 O.2.1).bind fun aB=>if (!decide (O.2.2.2.1=(0:Int)))=true then some ((O.2.1,O.2.2.1,O.2.2.2.1,aB.1,aB.2.1,aB.2.2.1,aB.2.2.2)) else if ((!decide (aB.1=Z))||((!decide (aA=([]:pG)))&&(!decide (aB.2.1=aA))))=true then sH (z7 O (aB.1,(aB.2.1,(aB.2.2.1,(aB.2.2.2,())))) (3:Int)) fun aC=>some ((O.2.1,aC.1,aC.2,aB.1,aB.2.1,aB.2.2.1,aB.2.2.2)) else some ((aB.2.2.2,O.2.2.1,O.2.2.2.1,aB.1,aB.2.1,aB.2.2.1,aB.2.2.2))
attribute [irreducible] OV vY
end
noncomputable section
def IF (O:pG):Option (pG×Int):=if (decide ((O.length:Int)<(2:Int)))=true then some ((([]:pG),(0:Int))) else if 0≤(1:Int)∧(1:Int)<(O.length:Int) then if (decide ((r7 O (1:Int))=(110:Int)))=true then some ((([10]:pG),(2:Int))) else if (decide ((r7 O (1:Int))=(114:Int)))=true then some ((([13]:pG),(2:Int))) else if (decide ((r7 O (1:Int))=(116:Int)))=true then some ((([9]:pG),(2:Int))) else if (decide ((r7 O (1:Int))=(120:Int)))=true then if (decide ((4:Int)≤(O.length:Int)))=true then if 0≤(2:Int)∧(2:Int)≤(4:Int)∧(4:Int)≤(O.length:Int) then (GL (qV O (2:Int) (4:Int)) (16:Int)).bind fun Z=>if (Z.2&&(decide (Z.1≤(127:Int))))=true then some (((tE ([(IntKind.wrap .u8 Z.1)]:pP)),(4:Int))) else some ((([]:pG),(0:Int))) else none else some ((([]:pG),(0:Int))) else if (decide ((r7 O (1:Int))=(117:Int)))=true then if (decide ((6:Int)≤(O.length:Int)))=true then if 0≤(2:Int)∧(2:Int)≤(6:Int)∧(6:Int)≤(O.length:Int) then (GL (qV O (2:Int) (6:Int)) (16:Int)).bind fun aA=>if aA.2=true then (K4 aA.1).bind fun aB=>if ((decide (aA.1≤(1114111:Int)))&&((decide (aA.1<(55296:Int)))||(decide ((57343:Int)<aA.1))))=true then some ((aB,(6:Int))) else some ((([]:pG),(0:Int))) else some ((([]:pG),(0:Int))) else none else some ((([]:pG),(0:Int))) else if (decide ((0:Int)≤(uY ([92,34,61,58,35,33,123,125,32]:pG) (r7 O (1:Int)))))=true then if 0≤(1:Int)∧(1:Int)≤(2:Int)∧(2:Int)≤(O.length:Int) then some (((qV O (1:Int) (2:Int)),(2:Int))) else none else some ((([]:pG),(0:Int))) else none
section
variable (O:pG)
abbrev a7w:List qI:=[(.val .str O,none)]
abbrev a7x:List qH:=[]
@[go_sem] def a7y:qQ:=⟨[((IF O)).isSome=true],[(.val .str ((val (IF O)).1),none),(.val (.int .i64) ((val (IF O)).2),none)],[]⟩
def aGD:List qI→List qH→Option qQ:=rT (V:=pG) (a7w) (fun x=>a7x) fun x=>a7y x
@[go_sem] def aUF:aGD (no_index (a7w O)) (no_index a7x)=some (a7y O):=rV (fun a0 b0 h1 h2=>by cases h1;cases h2;rfl) O
end
@[go_sem] abbrev aGE:Nat×rI:=(209,⟨[.v],aGD,[],[],none⟩)
def vI:rL Tryz.prog [vP,EB,sM,GD] (rK [a4h,a7r,O4]):=⟨⟨w8,⟨GF,⟨sO,⟨JE,trivial⟩⟩⟩⟩,qU aEY (qU aGB (qU RH rX)),rM⟩
def aOv:rP Tryz.prog aGE:=by
 refine rW vI Tryz.func209 (c:=_) rfl (N:=67) pX (ts:=[(2,none),(3,none)]) rfl (fun _ _=>rfl) ?_;intro O hs hrow;dsimp only[a7w,a7x,a7y,rQ,qW,rF,rO,rS,Nat.reduceAdd] at hs hrow|-;have hz:=hs;obtain⟨z0,d⟩:=aVb.1 hz
 try rw[s9 d]
 clear hz hs;unfold IF at d;refine qG vI ?_;refine qZ ?_;refine qG vI ?_;refine qY d (fun d hc1=> ?_) (fun d hc1=> ?_)
 .refine qG vI ?_;refine qR (s0 ?_);cases d;exact pI []
 .refine rJ (qS (qZ ?_));obtain⟨hg1,d⟩:=qP d;refine qG vI ?_ (hp:=by exact hg1);refine qG vI ?_;refine sA ?_;refine qG vI ?_;refine qY d (fun d hc2=> ?_) (fun d hc2=> ?_)
  .refine qG vI ?_;refine qR (sF (s0 ?_));cases d;exact pI []
  .refine qG vI ?_;refine qY d (fun d hc3=> ?_) (fun d hc3=> ?_)
   .refine qG vI ?_;refine qR (sF (s0 ?_));cases d;exact pI []
   .refine qG vI ?_;refine qY d (fun d hc4=> ?_) (fun d hc4=> ?_)
    .refine qG vI ?_;refine qR (sF (s0 ?_));cases d;exact pI []
    .refine qG vI ?_;refine qY d (fun d hc5=> ?_) (fun d hc5=> ?_)
     .refine qG vI ?_;refine qY d (fun d hc6=> ?_) (fun d hc6=> ?_)
      .obtain⟨hg2,d⟩:=qP d;obtain⟨Z,hv3,hw3,d⟩:=rH d
       try simp only[go_sem] at hw3
       refine qG vI ?_ (hp:=by exact⟨hg2,(rG hv3)⟩) (h:=by simp only[go_sem,hw3];rfl);refine qG vI ?_ (hp:=by exact⟨id,sL⟩);refine qY d (fun d hc7=> ?_) (fun d hc7=> ?_)
       .refine qG vI ?_;refine qR (sF (s0 ?_));cases d;exact pI []
       .refine rJ (s5 (qS ?_));refine qG vI ?_;refine qR ?_;cases d;exact pI []
      .refine rJ (s5 (qS ?_));refine qG vI ?_;refine qR ?_;cases d;exact pI []
     .refine qG vI ?_;refine qY d (fun d hc8=> ?_) (fun d hc8=> ?_)
      .refine qG vI ?_;refine qY d (fun d hc9=> ?_) (fun d hc9=> ?_)
       .obtain⟨hg4,d⟩:=qP d;obtain⟨aA,hv5,hw5,d⟩:=rH d
        try simp only[go_sem] at hw5
        refine qG vI ?_ (hp:=by exact⟨hg4,(rG hv5)⟩) (h:=by simp only[go_sem,hw5];rfl);refine qG vI ?_;refine qY d (fun d hc10=> ?_) (fun d hc10=> ?_)
        .obtain⟨aB,hv6,hw6,d⟩:=rH d
         try simp only[go_sem] at hw6
         refine qG vI ?_ (hp:=by exact(rG hv6)) (h:=by simp only[go_sem,hw6];rfl);refine qG vI ?_;refine qY d (fun d hc11=> ?_) (fun d hc11=> ?_)
         .refine qG vI ?_;refine qR (sF (s0 ?_));cases d;exact pI []
         .refine rJ (s5 (qS ?_));refine qG vI ?_;refine qR ?_;cases d;exact pI []
        .refine rJ (s5 (qS ?_));refine qG vI ?_;refine qR ?_;cases d;exact pI []
       .refine rJ (s5 (qS ?_));refine qG vI ?_;refine qR ?_;cases d;exact pI []
      .refine qG vI ?_;refine qY d (fun d hc12=> ?_) (fun d hc12=> ?_)
       .obtain⟨hg7,d⟩:=qP d;refine qG vI ?_ (hp:=by exact hg7);refine qR (sF (s0 ?_));cases d;exact pI []
       .refine rJ (s5 (qS ?_));refine qG vI ?_;refine qR ?_;cases d;exact pI []
def OW (O:pG):Option (pG×Int):=if (decide ((uY O (59:Int))<(0:Int)))=true then some ((([]:pG),(0:Int))) else if 0≤(1:Int)∧(1:Int)≤(uY O (59:Int))∧(uY O (59:Int))≤(O.length:Int) then if (decide ((qV O (1:Int) (uY O (59:Int)))=([97,109,112]:pG)))=true then if qJ ((uY O (59:Int))+(1:Int)) then some ((([38]:pG),((uY O (59:Int))+(1:Int)))) else none else if (decide ((qV O (1:Int) (uY O (59:Int)))=([108,116]:pG)))=true then if qJ ((uY O (59:Int))+(1:Int)) then some ((([60]:pG),((uY O (59:Int))+(1:Int)))) else none else if (decide ((qV O (1:Int) (uY O (59:Int)))=([103,116]:pG)))=true then if qJ ((uY O (59:Int))+(1:Int)) then some ((([62]:pG),((uY O (59:Int))+(1:Int)))) else none else if (decide ((qV O (1:Int) (uY O (59:Int)))=([113,117,111,116]:pG)))=true then if qJ ((uY O (59:Int))+(1:Int)) then some ((([34]:pG),((uY O (59:Int))+(1:Int)))) else none else if (decide ((qV O (1:Int) (uY O (59:Int)))=([97,112,111,115]:pG)))=true then if qJ ((uY O (59:Int))+(1:Int)) then some ((([39]:pG),((uY O (59:Int))+(1:Int)))) else none else (LX (qV O (1:Int) (uY O (59:Int))) ([35]:pG)).bind fun Z=>if (!Z.2)=true then some ((([]:pG),(0:Int))) else (LX Z.1 ([120]:pG)).bind fun aA=>sB (σ:=(pG×Int×Int)) (if aA.2=true then some ((aA.1,(16:Int),(6:Int))) else some ((Z.1,(10:Int),(7:Int))) ) fun(aB,aC,aD)=>(GL aB aC).bind fun aE=>if ((!aE.2)||(decide (aD<(aB.length:Int))))=true then some ((([]:pG),(0:Int))) else (K4 aE.1).bind fun aF=>if (!((decide (aE.1≤(1114111:Int)))&&((decide (aE.1<(55296:Int)))||(decide ((57343:Int)<aE.1)))))=true then some ((([]:pG),(0:Int))) else if qJ ((uY O (59:Int))+(1:Int)) then some ((aF,((uY O (59:Int))+(1:Int)))) else none else none
section
variable (O:pG)
abbrev a7z:List qI:=[(.val .str O,none)]
abbrev a7A:List qH:=[]
@[go_sem] def a7B:qQ:=⟨[((OW O)).isSome=true],[(.val .str ((val (OW O)).1),none),(.val (.int .i64) ((val (OW O)).2),none)],[]⟩
def aGF:List qI→List qH→Option qQ:=rT (V:=pG) (a7z) (fun x=>a7A) fun x=>a7B x
@[go_sem] def aUG:aGF (no_index (a7z O)) (no_index a7A)=some (a7B O):=rV (fun a0 b0 h1 h2=>by cases h1;cases h2;rfl) O
end
@[go_sem] abbrev aGG:Nat×rI:=(210,⟨[.v],aGF,[],[],none⟩)
def vL:rL Tryz.prog [sM] (rK [O4,aFw,a4h,a7r]):=⟨⟨sO,trivial⟩,qU RH (qU aN2 (qU aEY (qU aGB rX))),rM⟩
def aOw:rP Tryz.prog aGG:=by
 refine rW vL Tryz.func210 (c:=_) rfl (N:=80) pX (ts:=[(2,none),(3,none)]) rfl (fun _ _=>rfl) ?_;intro O hs hrow;dsimp only[a7z,a7A,a7B,rQ,qW,rF,rO,rS,Nat.reduceAdd] at hs hrow|-;have hz:=hs;obtain⟨z0,d⟩:=aVb.1 hz
 try rw[s9 d]
 clear hz hs;unfold OW at d;refine qG vL ?_;refine qG vL ?_;refine qZ ?_;refine qG vL ?_;refine qY d (fun d hc1=> ?_) (fun d hc1=> ?_)
 .refine qG vL ?_;refine qR (s0 ?_);cases d;exact pI []
 .refine rJ (qS ?_);obtain⟨hg1,d⟩:=qP d;refine qG vL ?_ (hp:=by exact hg1);refine qZ ?_;refine qG vL ?_;refine sA ?_;refine qG vL ?_;refine qY d (fun d hc2=> ?_) (fun d hc2=> ?_)
  .obtain⟨hg2,d⟩:=qP d;refine qG vL ?_ (hp:=by exact hg2);refine qR (sF (s0 ?_));cases d;exact pI []
  .refine qG vL ?_;refine qY d (fun d hc3=> ?_) (fun d hc3=> ?_)
   .obtain⟨hg3,d⟩:=qP d;refine qG vL ?_ (hp:=by exact hg3);refine qR (sF (s0 ?_));cases d;exact pI []
   .refine qG vL ?_;refine qY d (fun d hc4=> ?_) (fun d hc4=> ?_)
    .obtain⟨hg4,d⟩:=qP d;refine qG vL ?_ (hp:=by exact hg4);refine qR (sF (s0 ?_));cases d;exact pI []
    .refine qG vL ?_;refine qY d (fun d hc5=> ?_) (fun d hc5=> ?_)
     .obtain⟨hg5,d⟩:=qP d;refine qG vL ?_ (hp:=by exact hg5);refine qR (sF (s0 ?_));cases d;exact pI []
     .refine qG vL ?_;refine qY d (fun d hc6=> ?_) (fun d hc6=> ?_)
      .obtain⟨hg6,d⟩:=qP d;refine qG vL ?_ (hp:=by exact hg6);refine qR (sF (s0 ?_));cases d;exact pI []
      .refine rJ (s5 (qS ?_));obtain⟨Z,hv7,hw7,d⟩:=rH d
       try simp only[go_sem] at hw7
       refine qG vL ?_ (hp:=by exact(rG hv7)) (h:=by simp only[go_sem,hw7];rfl);refine qZ ?_;refine qG vL ?_;refine qY d (fun d hc7=> ?_) (fun d hc7=> ?_)
       .refine qG vL ?_;refine qR (s0 ?_);cases d;exact pI []
       .refine rJ (qS ?_);refine qG vL ?_;refine qZ ?_;obtain⟨aA,hv8,hw8,d⟩:=rH d
        try simp only[go_sem] at hw8
        refine qG vL ?_ (hp:=by exact(rG hv8)) (h:=by simp only[go_sem,hw8];rfl);refine qG vL ?_;obtain⟨y1,f,d⟩:=qK d;refine DA (fun s=>s=(fun x=>⟨[(4,(.val (.int .i64) (uY O (59:Int)),none)),(6,(.val .str x.1,none)),(8,(.val (.int .i64) x.2.1,none)),(9,(.val (.int .i64) x.2.2,none))],[],0,80,0⟩) y1) ?_ ?_
        .refine qY f (fun f hc8=> ?_) (fun f hc8=> ?_)
         .refine rY vL ?_;cases f;exact vO ⟨⟨[4,6,8,9],[]⟩,by rfl⟩
         .refine rJ ?_;cases f;exact vO ⟨⟨[4,6,8,9],[]⟩,by rfl⟩
        .rintro _ rfl;obtain⟨aB,aC,aD⟩:=y1;dsimp only at d|-;refine qS ?_;obtain⟨aE,hv9,hw9,d⟩:=rH d
         try simp only[go_sem] at hw9
         refine qG vL ?_ (hp:=by exact(rG hv9)) (h:=by simp only[go_sem,hw9];rfl);refine qZ ?_;refine qG vL ?_ (hp:=by exact⟨id,id,id,u6⟩);refine qY d (fun d hc9=> ?_) (fun d hc9=> ?_)
         .refine qG vL ?_;refine qR (s0 ?_);cases d;exact pI []
         .refine rJ (qS ?_);obtain⟨aF,hv10,hw10,d⟩:=rH d
          try simp only[go_sem] at hw10
          refine qG vL ?_ (hp:=by exact(rG hv10)) (h:=by simp only[go_sem,hw10];rfl);refine qZ ?_;refine qG vL ?_;refine qY d (fun d hc10=> ?_) (fun d hc10=> ?_)
          .refine qG vL ?_;refine qR (s0 ?_);cases d;exact pI []
          .refine rJ (qS ?_);obtain⟨hg11,d⟩:=qP d;refine qG vL ?_ (hp:=by exact hg11);refine qR ?_;cases d;exact pI []
attribute [irreducible] IF OW
end
noncomputable section
def XC (O:HT) (Z:rZ):Option (Int×Int×Int×(List r5)):=(vY O (1:Int) ([]:pG)).bind fun aA=>if (!decide (aA.2.2.1=(0:Int)))=true then some ((aA.1,aA.2.1,aA.2.2.1,Z.2.2.2.2.2.2.1)) else (WT Z.2.2.2.2.2.2.1 aA.2.2.2.2.1).bind fun aB=>(GN aA.2.2.2.2.1).bind fun aC=>if (!aC)=true then sH (z7 (O.1,(aA.1,(aA.2.1,(aA.2.2.1,((O.2.2.2.2.1.1,(O.2.2.2.2.1.2.1,(O.2.2.2.2.1.2.2.1,(O.2.2.2.2.1.2.2.2.1,())))),(O.2.2.2.2.2.1,())))))) (aA.2.2.2.1,(aA.2.2.2.2.1,(aA.2.2.2.2.2.1,(aA.2.2.2.2.2.2,())))) (3:Int)) fun aD=>some ((aA.1,aD.1,aD.2,Z.2.2.2.2.2.2.1)) else if aB.2=true then sH (z7 (O.1,(aA.1,(aA.2.1,(aA.2.2.1,((O.2.2.2.2.1.1,(O.2.2.2.2.1.2.1,(O.2.2.2.2.1.2.2.1,(O.2.2.2.2.1.2.2.2.1,())))),(O.2.2.2.2.2.1,())))))) (aA.2.2.2.1,(aA.2.2.2.2.1,(aA.2.2.2.2.2.1,(aA.2.2.2.2.2.2,())))) (9:Int)) fun aE=>some ((aA.1,aE.1,aE.2,Z.2.2.2.2.2.2.1)) else if (decide ((20:Int)≤(Z.2.2.2.2.2.2.1.length:Int)))=true then sH (z7 (O.1,(aA.1,(aA.2.1,(aA.2.2.1,((O.2.2.2.2.1.1,(O.2.2.2.2.1.2.1,(O.2.2.2.2.1.2.2.1,(O.2.2.2.2.1.2.2.2.1,())))),(O.2.2.2.2.2.1,())))))) (aA.2.2.2.1,(aA.2.2.2.2.1,(aA.2.2.2.2.2.1,(aA.2.2.2.2.2.2,())))) (6:Int)) fun aF=>some ((aA.1,aF.1,aF.2,Z.2.2.2.2.2.2.1)) else (vY (O.1,(aA.1,(aA.2.1,(aA.2.2.1,((O.2.2.2.2.1.1,(O.2.2.2.2.1.2.1,(O.2.2.2.2.1.2.2.1,(O.2.2.2.2.1.2.2.2.1,())))),(O.2.2.2.2.2.1,())))))) (1:Int) ([]:pG)).bind fun aG=>(WV Z.2.2.2.2.2.2.1 aA.2.2.2.2.1 aG.2.2.2.2.1).bind fun aH=>some ((aG.1,aG.2.1,aG.2.2.1,aH))
def XD (O:rZ) (Z:(Int×Int×Int×Int×pG×Int×Int)):Int→Option (Int⊕Int):=fun aA=>if (((decide (aA<(O.2.2.2.2.1.length:Int)))==true)=true→0≤aA∧aA<(O.2.2.2.2.1.length:Int)) then if ((decide (aA<(O.2.2.2.2.1.length:Int)))&&(Op.bytesLess (rC .str O.2.2.2.2.1 aA) Z.2.2.2.2.1))=true then if qJ (aA+(1:Int)) then some (.inl (aA+(1:Int))) else none else some (.inr aA) else none
def XE (O:HT) (Z:rZ):Option (Int×Int×Int×pH):=(vY O (2:Int) ([]:pG)).bind fun aA=>if (!decide (aA.2.2.1=(0:Int)))=true then some ((aA.1,aA.2.1,aA.2.2.1,Z.2.2.2.2.1)) else (GN aA.2.2.2.2.1).bind fun aB=>if (!aB)=true then sH (z7 (O.1,(aA.1,(aA.2.1,(aA.2.2.1,((O.2.2.2.2.1.1,(O.2.2.2.2.1.2.1,(O.2.2.2.2.1.2.2.1,(O.2.2.2.2.1.2.2.2.1,())))),(O.2.2.2.2.2.1,())))))) (aA.2.2.2.1,(aA.2.2.2.2.1,(aA.2.2.2.2.2.1,(aA.2.2.2.2.2.2,())))) (3:Int)) fun aC=>some ((aA.1,aC.1,aC.2,Z.2.2.2.2.1)) else (X1 Z.2.2.2.2.1 aA.2.2.2.2.1).bind fun aD=>if aD=true then sH (z7 (O.1,(aA.1,(aA.2.1,(aA.2.2.1,((O.2.2.2.2.1.1,(O.2.2.2.2.1.2.1,(O.2.2.2.2.1.2.2.1,(O.2.2.2.2.1.2.2.2.1,())))),(O.2.2.2.2.2.1,())))))) (aA.2.2.2.1,(aA.2.2.2.2.1,(aA.2.2.2.2.2.1,(aA.2.2.2.2.2.2,())))) (9:Int)) fun aE=>some ((aA.1,aE.1,aE.2,Z.2.2.2.2.1)) else if (decide ((20:Int)≤(Z.2.2.2.2.1.length:Int)))=true then sH (z7 (O.1,(aA.1,(aA.2.1,(aA.2.2.1,((O.2.2.2.2.1.1,(O.2.2.2.2.1.2.1,(O.2.2.2.2.1.2.2.1,(O.2.2.2.2.1.2.2.2.1,())))),(O.2.2.2.2.2.1,())))))) (aA.2.2.2.1,(aA.2.2.2.2.1,(aA.2.2.2.2.2.1,(aA.2.2.2.2.2.2,())))) (6:Int)) fun aF=>some ((aA.1,aF.1,aF.2,Z.2.2.2.2.1)) else sB (rE (XD Z aA) (0:Int)) fun aG=>if 0≤(0:Int)∧(0:Int)≤aG∧aG≤(Z.2.2.2.2.1.length:Int) then if (([]:pH).length+(qV Z.2.2.2.2.1 (0:Int) aG).length)*16≤140737488355328 then if ((([]:pH)++(qV Z.2.2.2.2.1 (0:Int) aG)).length+([aA.2.2.2.2.1]:pH).length)*16≤140737488355328 then if 0≤aG∧aG≤(Z.2.2.2.2.1.length:Int)∧(Z.2.2.2.2.1.length:Int)≤(Z.2.2.2.2.1.length:Int) then if (((([]:pH)++(qV Z.2.2.2.2.1 (0:Int) aG))++([aA.2.2.2.2.1]:pH)).length+(qV Z.2.2.2.2.1 aG (Z.2.2.2.2.1.length:Int)).length)*16≤140737488355328 then some ((aA.1,aA.2.1,aA.2.2.1,(((([]:pH)++(qV Z.2.2.2.2.1 (0:Int) aG))++([aA.2.2.2.2.1]:pH))++(qV Z.2.2.2.2.1 aG (Z.2.2.2.2.1.length:Int))))) else none else none else none else none else none
attribute [irreducible] XC XE
end
noncomputable section
def aGH (O:Int) (Z:pG):(Int×pP)→Option ((Int×pP)⊕(pP⊕(pG×Int×Int))):=fun(aA,aB)=>if (decide (aA<(Z.length:Int)))=true then if 0≤aA∧aA<(Z.length:Int) then if (decide ((r7 Z aA)=(38:Int)))=true then if 0≤aA∧aA≤(Z.length:Int)∧(Z.length:Int)≤(Z.length:Int) then (OW (qV Z aA (Z.length:Int))).bind fun aC=>if (decide (aC.2=(0:Int)))=true then some (.inr (.inr ((([]:pG),aA,(3:Int))))) else (ED (aB,()) aC.1).bind fun aD=>if qJ (aA+aC.2) then some (.inl ((aA+aC.2),(aB++tV aC.1))) else none else none else if 0≤aA∧aA<(Z.length:Int) then if (LQ O (r7 Z aA))=true then some (.inr (.inr ((([]:pG),aA,(3:Int))))) else if 0≤aA∧aA<(Z.length:Int) then (LR (aB,()) (r7 Z aA)).bind fun aE=>if qJ (aA+(1:Int)) then some (.inl ((aA+(1:Int)),(aB++([(r7 Z aA)]:pP)))) else none else none else none else none else some (.inr (.inl aB))
def OX (O:Int) (Z:pG):(Int×pP)→Option ((Int×pP)⊕(pP⊕(pG×Int×Int))):=fun(aA,aB)=>if (decide (aA<(Z.length:Int)))=true then if 0≤aA∧aA<(Z.length:Int) then if (decide ((r7 Z aA)=(92:Int)))=true then if 0≤aA∧aA≤(Z.length:Int)∧(Z.length:Int)≤(Z.length:Int) then (IF (qV Z aA (Z.length:Int))).bind fun aC=>if (decide (aC.2=(0:Int)))=true then some (.inr (.inr ((([]:pG),aA,(3:Int))))) else (ED (aB,()) aC.1).bind fun aD=>if qJ (aA+aC.2) then some (.inl ((aA+aC.2),(aB++tV aC.1))) else none else none else if 0≤aA∧aA<(Z.length:Int) then if (LQ O (r7 Z aA))=true then some (.inr (.inr ((([]:pG),aA,(3:Int))))) else if 0≤aA∧aA<(Z.length:Int) then (LR (aB,()) (r7 Z aA)).bind fun aE=>if qJ (aA+(1:Int)) then some (.inl ((aA+(1:Int)),(aB++([(r7 Z aA)]:pP)))) else none else none else none else none else some (.inr (.inl aB))
def GR (O:Int) (Z:pG):Option (pG×Int×Int):=if (!((decide ((1:Int)≤O))&&(decide (O≤(4:Int)))))=true then some ((([]:pG),(0:Int),(1:Int))) else if (decide (O=(4:Int)))=true then sZ (rE (aGH O Z) ((0:Int),([]:pP))) fun aA=>some (((tE aA),(0:Int),(0:Int))) else sZ (rE (OX O Z) ((0:Int),([]:pP))) fun aB=>some (((tE aB),(0:Int),(0:Int)))
section
variable (O:Int) (Z:pG)
abbrev a7C:List qI:=[(.val (.int .i64) O,none),(.val .str Z,none)]
abbrev a7D:List qH:=[]
@[go_sem] def a7E:qQ:=⟨[((GR O Z)).isSome=true],[(.val .str ((val (GR O Z)).1),none),(.val (.int .i64) ((val (GR O Z)).2.1),none),(.val (.int .i64) ((val (GR O Z)).2.2),none)],[]⟩
def aGI:List qI→List qH→Option qQ:=rT (V:=(Int×pG)) (fun x=>a7C x.1 x.2) (fun x=>a7D) fun x=>a7E x.1 x.2
@[go_sem] def aUH:aGI (no_index (a7C O Z)) (no_index a7D)=some (a7E O Z):=rV (fun⟨a0,a1⟩ ⟨b0,b1⟩ h1 h2=>by cases h1;cases h2;rfl) (O,Z)
end
@[go_sem] abbrev aGJ:Nat×rI:=(174,⟨[.v,.v],aGI,[],[],none⟩)
def v8:rL Tryz.prog [sM,HV] (rK [WQ,aGG,WM,aER,aET,RI,aGE]):=⟨⟨sO,⟨LN,trivial⟩⟩,qU a2Z (qU aOw (qU a1Z (qU aNL (qU aNM (qU WL (qU aOv rX)))))),rM⟩
def aOx:rP Tryz.prog aGJ:=by
 refine rW v8 Tryz.func174 (c:=_) rfl (N:=58) pX (ts:=[(4,none),(5,none),(6,none)]) rfl (fun _ _=>rfl) ?_;intro⟨O,Z⟩ hs hrow;dsimp only[a7C,a7D,a7E,rQ,qW,rF,rO,rS,Nat.reduceAdd] at hs hrow|-;have hz:=hs;obtain⟨z0,e⟩:=aVb.1 hz
 try rw[s9 e]
 clear hz hs;unfold GR at e;refine qG v8 ?_;refine qZ ?_;refine qG v8 ?_;refine qY e (fun e hc1=> ?_) (fun e hc1=> ?_)
 .refine qG v8 ?_;refine qR (s0 ?_);cases e;exact pI []
 .refine rJ (qS ?_);refine qG v8 ?_;refine qZ ?_;refine qG v8 ?_;refine qY e (fun e hc2=> ?_) (fun e hc2=> ?_)
  .refine rY v8 ?_;refine qS ?_;refine qG v8 ?_;refine qZ ?_;refine qG v8 ?_;refine sA ?_;obtain⟨y1,hy1,e⟩:=wG e;refine uS 0 (fun s=> ∃v,y1= .inl v∧s=(fun x=>⟨[(9,(.val .ref (some (0,0)),none))],[(0,.cells y7 ((some (0,0)),(x,())) [(1,1)]),(1,.grow 5 1 (x.length))],2,58,0⟩) v) ?_ ?_
   .refine uR hy1 (fun x=>⟨[(0,(.val (.int .i64) O,none)),(1,(.val .str Z,none)),(7,(.val (.int .u8) (38:Int),none)),(8,(.val .clo (some (210,[])),none)),(9,(.val .ref (some (0,0)),none)),(10,(.val (.int .i64) x.1,none))],[(0,.cells y7 ((some (0,0)),(x.2,())) [(1,1)]),(1,.grow 5 1 (x.2.length))],2,58,0⟩) ⟨[0,1,7,8,9,10],[(0,384),(1,385)]⟩ pY ?_;intro x1 w1 n1 d f;obtain⟨aA,aB⟩:=x1;unfold aGH at d;dsimp only at d|-;refine qZ ?_;refine qG v8 ?_;refine qY d (fun d hc3=> ?_) (fun d hc3=> ?_)
    .refine rJ (qS (sA (sA ?_)));obtain⟨hg1,d⟩:=qP d;refine qG v8 ?_ (hp:=by exact hg1);refine qY d (fun d hc4=> ?_) (fun d hc4=> ?_)
     .obtain⟨hg2,d⟩:=qP d;obtain⟨aC,hv3,hw3,d⟩:=rH d
      try simp only[go_sem] at hw3
      refine qG v8 ?_ (hp:=by exact⟨hg2,(rG hv3)⟩) (h:=by simp only[go_sem,hw3];rfl);refine qZ ?_;refine qG v8 ?_;refine qY d (fun d hc5=> ?_) (fun d hc5=> ?_)
      .refine qG v8 ?_;refine qR (s0 (sF (sF (wF (wE (sF (s0 ?_)))))));cases d;cases f;dsimp only at e;cases e;exact pI []
      .refine rJ (qS ?_);obtain⟨aD,hv4,hw4,d⟩:=rH d
       try simp only[go_sem] at hw4
       refine qG v8 ?_ (hp:=by exact⟨pW,(rG hv4)⟩) (h:=by simp only[go_sem,hw4];rfl)
       obtain⟨hg5,d⟩:=qP d;refine rY v8 ?_ (hp:=by exact hg5);refine s5 (s5 ?_);cases d;exact tI ⟨⟨[0,1,7,8,9,10],[(0,0),(1,1)]⟩,_,by rfl,f⟩
     .obtain⟨hg6,d⟩:=qP d;refine qG v8 ?_ (hp:=by exact hg6);refine qY d (fun d hc6=> ?_) (fun d hc6=> ?_)
      .refine qG v8 ?_;refine qR (sF (sF (wF (wE (sF (s0 ?_))))));cases d;cases f;dsimp only at e;cases e;exact pI []
      .obtain⟨hg7,d⟩:=qP d;obtain⟨aE,hv8,hw8,d⟩:=rH d
       try simp only[go_sem] at hw8
       refine qG v8 ?_ (hp:=by exact⟨hg7,pW,(rG hv8)⟩) (h:=by simp only[go_sem,hw8];rfl)
       obtain⟨hg9,d⟩:=qP d;refine rY v8 ?_ (hp:=by exact hg9);refine s5 (s5 ?_);cases d;exact tI ⟨⟨[0,1,7,8,9,10],[(0,0),(1,1)]⟩,_,by rfl,f⟩
    .refine uF (uK (uH ?_));cases d;cases f;exact uG ⟨⟨[9],[(0,0),(1,1)]⟩,_,rfl,by rfl⟩
   .rintro _ ⟨aF,rfl,rfl⟩;dsimp only at e|-;refine uQ (qS ?_);refine qG v8 ?_ (hp:=by first|rfl|trivial)
    refine qR ?_;cases e;exact pI []
  .refine rJ (qS ?_);refine qG v8 ?_;refine qZ ?_;refine qG v8 ?_;refine sA ?_;obtain⟨y1,hy1,e⟩:=wG e;refine uS 0 (fun s=> ∃v,y1= .inl v∧s=(fun x=>⟨[(9,(.val .ref (some (0,0)),none))],[(0,.cells y7 ((some (0,0)),(x,())) [(1,1)]),(1,.grow 5 1 (x.length))],2,58,0⟩) v) ?_ ?_
   .refine uR hy1 (fun x=>⟨[(0,(.val (.int .i64) O,none)),(1,(.val .str Z,none)),(7,(.val (.int .u8) (92:Int),none)),(8,(.val .clo (some (209,[])),none)),(9,(.val .ref (some (0,0)),none)),(10,(.val (.int .i64) x.1,none))],[(0,.cells y7 ((some (0,0)),(x.2,())) [(1,1)]),(1,.grow 5 1 (x.2.length))],2,58,0⟩) ⟨[0,1,7,8,9,10],[(0,320),(1,321)]⟩ pY ?_;intro x1 w1 n1 d f;obtain⟨aG,aH⟩:=x1;unfold OX at d;dsimp only at d|-;refine qZ ?_;refine qG v8 ?_;refine qY d (fun d hc7=> ?_) (fun d hc7=> ?_)
    .refine rJ (qS (sA (sA ?_)));obtain⟨hg10,d⟩:=qP d;refine qG v8 ?_ (hp:=by exact hg10);refine qY d (fun d hc8=> ?_) (fun d hc8=> ?_)
     .obtain⟨hg11,d⟩:=qP d;obtain⟨aI,hv12,hw12,d⟩:=rH d
      try simp only[go_sem] at hw12
      refine qG v8 ?_ (hp:=by exact⟨hg11,(rG hv12)⟩) (h:=by simp only[go_sem,hw12];rfl);refine qZ ?_;refine qG v8 ?_;refine qY d (fun d hc9=> ?_) (fun d hc9=> ?_)
      .refine qG v8 ?_;refine qR (s0 (sF (sF (wF (wE (sF (s0 ?_)))))));cases d;cases f;dsimp only at e;cases e;exact pI []
      .refine rJ (qS ?_);obtain⟨aJ,hv13,hw13,d⟩:=rH d
       try simp only[go_sem] at hw13
       refine qG v8 ?_ (hp:=by exact⟨pW,(rG hv13)⟩) (h:=by simp only[go_sem,hw13];rfl)
       obtain⟨hg14,d⟩:=qP d;refine rY v8 ?_ (hp:=by exact hg14);refine s5 (s5 ?_);cases d;exact tI ⟨⟨[0,1,7,8,9,10],[(0,0),(1,1)]⟩,_,by rfl,f⟩
     .obtain⟨hg15,d⟩:=qP d;refine qG v8 ?_ (hp:=by exact hg15);refine qY d (fun d hc10=> ?_) (fun d hc10=> ?_)
      .refine qG v8 ?_;refine qR (sF (sF (wF (wE (sF (s0 ?_))))));cases d;cases f;dsimp only at e;cases e;exact pI []
      .obtain⟨hg16,d⟩:=qP d;obtain⟨aK,hv17,hw17,d⟩:=rH d
       try simp only[go_sem] at hw17
       refine qG v8 ?_ (hp:=by exact⟨hg16,pW,(rG hv17)⟩) (h:=by simp only[go_sem,hw17];rfl)
       obtain⟨hg18,d⟩:=qP d;refine rY v8 ?_ (hp:=by exact hg18);refine s5 (s5 ?_);cases d;exact tI ⟨⟨[0,1,7,8,9,10],[(0,0),(1,1)]⟩,_,by rfl,f⟩
    .refine uF (uK (uH ?_));cases d;cases f;exact uG ⟨⟨[9],[(0,0),(1,1)]⟩,_,rfl,by rfl⟩
   .rintro _ ⟨aL,rfl,rfl⟩;dsimp only at e|-;refine uQ (qS ?_);refine qG v8 ?_ (hp:=by first|rfl|trivial)
    refine qR ?_;cases e;exact pI []
attribute [irreducible] GR
end
noncomputable section
def IG (O:pG) (Z:Int):Option (Int×pG×Int):=if 0≤(1:Int)∧(1:Int)≤(O.length:Int)∧(O.length:Int)≤(O.length:Int) then (LY (3:Int) (qV O (1:Int) (O.length:Int)) (34:Int)).bind fun aA=>if (decide (aA<(0:Int)))=true then some (((0:Int),([]:pG),Z)) else if qJ (aA+(1:Int)) then if 0≤(1:Int)∧(1:Int)≤(aA+(1:Int))∧(aA+(1:Int))≤(O.length:Int) then (GR (3:Int) (qV O (1:Int) (aA+(1:Int)))).bind fun aB=>if (((!decide (aB.2.2=(0:Int)))==false)=true→((FH aB.1)).isSome=true) then if ((!decide (aB.2.2=(0:Int)))||(!((decide ((aB.1.length:Int)≤(4000:Int)))&&(Lib.validD aB.1))))=true then some (((0:Int),([]:pG),Z)) else if qJ (Z+aA) then if qJ ((Z+aA)+(2:Int)) then some (((1:Int),aB.1,((Z+aA)+(2:Int)))) else none else none else none else none else none else none
section
variable (O:pG) (Z:Int)
abbrev a7F:List qI:=[(.val .str O,none),(.val (.int .i64) Z,none)]
abbrev a7G:List qH:=[]
@[go_sem] def a7H:qQ:=⟨[((IG O Z)).isSome=true],[(.val NY ((val (IG O Z)).1,((val (IG O Z)).2.1,(Z,((val (IG O Z)).2.2,())))),none)],[]⟩
def aGK:List qI→List qH→Option qQ:=rT (V:=(pG×Int)) (fun x=>a7F x.1 x.2) (fun x=>a7G) fun x=>a7H x.1 x.2
@[go_sem] def aUI:aGK (no_index (a7F O Z)) (no_index a7G)=some (a7H O Z):=rV (fun⟨a0,a1⟩ ⟨b0,b1⟩ h1 h2=>by cases h1;cases h2;rfl) (O,Z)
end
@[go_sem] abbrev aGL:Nat×rI:=(119,⟨[.v,.v],aGK,[],[],none⟩)
def IH:rL Tryz.prog [sM,B4] (rK [aFz,aGJ,RX]):=⟨⟨sO,⟨CM,trivial⟩⟩,qU aN3 (qU aOx (qU X4 rX)),rM⟩
def aOy:rP Tryz.prog aGL:=by
 refine rW IH Tryz.func119 (c:=_) rfl (N:=43) pX (ts:=[(4,some 65)]) rfl (fun _ _=>rfl) ?_;intro⟨O,Z⟩ hs hrow;dsimp only[a7F,a7G,a7H,rQ,qW,rF,rO,rS,Nat.reduceAdd] at hs hrow|-;have hz:=hs;obtain⟨z0,d⟩:=aVb.1 hz
 try rw[s9 d]
 clear hz hs;unfold IG at d;refine qG IH ?_;obtain⟨hg1,d⟩:=qP d;obtain⟨aA,hv2,hw2,d⟩:=rH d
 try simp only[go_sem] at hw2
 refine qG IH ?_ (hp:=by exact⟨hg1,(rG hv2)⟩) (h:=by simp only[go_sem,hw2];rfl);refine qZ ?_;refine qG IH ?_;refine qY d (fun d hc1=> ?_) (fun d hc1=> ?_)
 .refine qG IH ?_;refine qR (s0 ?_);cases d;exact pI []
 .refine rJ (qS ?_);obtain⟨hg3,d⟩:=qP d;obtain⟨hg4,d⟩:=qP d;obtain⟨aB,hv5,hw5,d⟩:=rH d
  try simp only[go_sem] at hw5
  refine qG IH ?_ (hp:=by exact⟨hg3,hg4,(rG hv5)⟩) (h:=by simp only[go_sem,hw5];rfl);refine qZ ?_;obtain⟨hg6,d⟩:=qP d;refine qG IH ?_ (hp:=by exact⟨id,hg6,id,u6⟩);refine qY d (fun d hc2=> ?_) (fun d hc2=> ?_)
  .refine qG IH ?_;refine qR (s0 ?_);cases d;exact pI []
  .refine rJ (qS ?_);obtain⟨hg7,d⟩:=qP d;obtain⟨hg8,d⟩:=qP d;refine qG IH ?_ (hp:=by exact⟨hg7,hg8⟩);refine qR ?_;cases d;exact pI []
attribute [irreducible] IG
end
noncomputable section
def CS (O:(pG×(Int×Unit))):Option (Int×pG×Int×Int×Int):=(JY O).bind fun Z=>if (!Z.1)=true then some (((0:Int),([]:pG),Z.2,Z.2,Z.2)) else if (decide (Z.2=(O.1.length:Int)))=true then some (((4:Int),([]:pG),Z.2,Z.2,Z.2)) else if 0≤Z.2∧Z.2≤(O.1.length:Int)∧(O.1.length:Int)≤(O.1.length:Int) then if 0≤(0:Int)∧(0:Int)<((qV O.1 Z.2 (O.1.length:Int)).length:Int) then if ((decide ((r7 (qV O.1 Z.2 (O.1.length:Int)) (0:Int))=(123:Int)))||(decide ((r7 (qV O.1 Z.2 (O.1.length:Int)) (0:Int))=(125:Int))))=true then if 0≤(0:Int)∧(0:Int)≤(1:Int)∧(1:Int)≤((qV O.1 Z.2 (O.1.length:Int)).length:Int) then if qJ (Z.2+(1:Int)) then some (((3:Int),(qV (qV O.1 Z.2 (O.1.length:Int)) (0:Int) (1:Int)),Z.2,(Z.2+(1:Int)),(Z.2+(1:Int)))) else none else none else if (decide ((r7 (qV O.1 Z.2 (O.1.length:Int)) (0:Int))=(34:Int)))=true then (IG (qV O.1 Z.2 (O.1.length:Int)) Z.2).bind fun aA=>some ((aA.1,aA.2.1,Z.2,aA.2.2,aA.2.2)) else if (((decide ((97:Int)≤(r7 (qV O.1 Z.2 (O.1.length:Int)) (0:Int))))&&(decide ((r7 (qV O.1 Z.2 (O.1.length:Int)) (0:Int))≤(122:Int))))||((decide ((65:Int)≤(r7 (qV O.1 Z.2 (O.1.length:Int)) (0:Int))))&&(decide ((r7 (qV O.1 Z.2 (O.1.length:Int)) (0:Int))≤(90:Int)))))=true then (LT (qV O.1 Z.2 (O.1.length:Int))).bind fun aB=>sB (σ:=Int) (if (decide (aB<(0:Int)))=true then some (((qV O.1 Z.2 (O.1.length:Int)).length:Int)) else some (aB) ) fun aC=>if 0≤(0:Int)∧(0:Int)≤aC∧aC≤((qV O.1 Z.2 (O.1.length:Int)).length:Int) then if qJ (Z.2+aC) then some (((2:Int),(qV (qV O.1 Z.2 (O.1.length:Int)) (0:Int) aC),Z.2,(Z.2+aC),(Z.2+aC))) else none else none else some (((0:Int),([]:pG),Z.2,Z.2,Z.2)) else none else none
section
variable (O:(pG×(Int×Unit)))
abbrev a7I:List qI:=[(.val .ref (some (0,0)),none)]
abbrev a7J:List qH:=[.cells FA O []]
@[go_sem] def a7K:qQ:=⟨[((CS O)).isSome=true],[(.val NY ((val (CS O)).1,((val (CS O)).2.1,((val (CS O)).2.2.1,((val (CS O)).2.2.2.1,())))),none)],[.cells FA (O.1,((val (CS O)).2.2.2.2,())) []]⟩
def aGM:List qI→List qH→Option qQ:=rT (V:=(pG×(Int×Unit))) (fun x=>a7I) (a7J) fun x=>a7K x
@[go_sem] def aUJ:aGM (no_index a7I) (no_index (a7J O))=some (a7K O):=rV (fun a0 b0 h1 h2=>by cases h1;cases h2;rfl) O
end
@[go_sem] abbrev a7L:Nat×rI:=(81,⟨[.p FA []],aGM,[],[],none⟩)
def w9:rL Tryz.prog [vP,sM,RG,B4] (rK [aF3,aGL,a2C,aFj]):=⟨⟨w8,⟨sO,⟨a1J,⟨CM,trivial⟩⟩⟩⟩,qU aOg (qU aOy (qU aD3 (qU aNW rX))),rM⟩
def aGN:rP Tryz.prog a7L:=by
 refine rW w9 Tryz.func81 (c:=_) rfl (N:=87) pX (ts:=[(2,some 65)]) rfl (fun _ _=>rfl) ?_;intro O hs hrow;dsimp only[a7I,a7J,a7K,rQ,qW,rF,rO,rS,Nat.reduceAdd] at hs hrow|-;have hz:=hs;obtain⟨z0,d⟩:=aVb.1 hz
 try rw[s9 d]
 clear hz hs;unfold CS at d;refine qG w9 ?_;refine qZ ?_;obtain⟨Z,hv1,hw1,d⟩:=rH d
 try simp only[go_sem] at hw1
 refine qG w9 ?_ (hp:=by exact(rG hv1)) (h:=by simp only[go_sem,hw1];rfl);refine qY d (fun d hc1=> ?_) (fun d hc1=> ?_)
 .refine xE w9 ?_;refine qR (s0 ?_);cases d;exact pI [(0,0)]
 .refine rJ (qS ?_);refine qG w9 ?_;refine qZ ?_;refine qG w9 ?_;refine qY d (fun d hc2=> ?_) (fun d hc2=> ?_)
  .refine qG w9 ?_;refine qR (s0 ?_);cases d;exact pI [(0,0)]
  .refine rJ (qS ?_);obtain⟨hg2,d⟩:=qP d;refine qG w9 ?_ (hp:=by exact hg2);refine qG w9 ?_;refine qZ ?_;obtain⟨hg3,d⟩:=qP d;refine qG w9 ?_ (hp:=by exact hg3);refine sA ?_;refine qG w9 ?_ (hp:=by exact⟨id,u6⟩);refine qY d (fun d hc3=> ?_) (fun d hc3=> ?_)
   .obtain⟨hg4,d⟩:=qP d;obtain⟨hg5,d⟩:=qP d;refine rY w9 ?_ (hp:=by exact⟨hg4,hg5⟩);refine s5 (qS ?_);refine qG w9 ?_;refine qG w9 ?_;refine qR ?_;cases d;exact pI [(0,0)]
   .refine qG w9 ?_;refine qY d (fun d hc4=> ?_) (fun d hc4=> ?_)
    .obtain⟨aA,hv6,hw6,d⟩:=rH d
     try simp only[go_sem] at hw6
     refine rY w9 ?_ (hp:=by exact(rG hv6)) (h:=by simp only[go_sem,hw6];rfl);refine s5 (qS ?_);refine qG w9 ?_;refine qG w9 ?_;refine qR ?_;cases d;exact pI [(0,0)]
    .refine qG w9 ?_;refine qY d (fun d hc5=> ?_) (fun d hc5=> ?_)
     .obtain⟨aB,hv7,hw7,d⟩:=rH d
      try simp only[go_sem] at hw7
      refine qG w9 ?_ (hp:=by exact(rG hv7)) (h:=by simp only[go_sem,hw7];rfl);refine qZ ?_;refine qG w9 ?_;obtain⟨aC,e,d⟩:=qK d;refine DA (fun s=>s=(fun x=>⟨[(0,(.val .ref (some (0,0)),none)),(2,(.val .ref (some (1,0)),none)),(3,(.val (.int .i64) Z.2,none)),(4,(.val .str (qV O.1 Z.2 (O.1.length:Int)),none)),(5,(.val .ref (some (2,0)),none)),(7,(.val (.int .i64) x,none))],[(0,.cells FA (O.1,(Z.2,())) []),(1,.cells NY ((0:Int),(([]:pG),((0:Int),((0:Int),())))) []),(2,.cells NY ((0:Int),(([]:pG),(Z.2,(Z.2,())))) [])],3,87,1⟩) aC) ?_ ?_
      .refine qY e (fun e hc6=> ?_) (fun e hc6=> ?_)
       .refine rY w9 ?_;cases e;exact vO ⟨⟨[0,2,3,4,5,7],[(0,0),(1,1),(2,833)]⟩,by rfl⟩
       .refine rJ ?_;cases e;exact vO ⟨⟨[0,2,3,4,5,7],[(0,0),(1,1),(2,833)]⟩,by rfl⟩
      .rintro _ rfl;dsimp only at d|-;refine qS ?_;obtain⟨hg8,d⟩:=qP d;obtain⟨hg9,d⟩:=qP d;refine rY w9 ?_ (hp:=by exact⟨hg8,hg9⟩);refine s5 (qS ?_);refine qG w9 ?_;refine qG w9 ?_;refine qR ?_;cases d;exact pI [(0,0)]
     .refine rJ (s5 (qS ?_));refine qG w9 ?_;refine qG w9 ?_;refine qR ?_;cases d;exact pI [(0,0)]
attribute [irreducible] CS
end
noncomputable section
def BT (O:HT) (Z:rZ) (aA:(Bool×(Bool×(Bool×Unit)))) (aB:sP) (aC:Bool):Option (Int×Int×Int×pG×pG×pH×pH×Int×(List r5)×Bool×Bool×Bool):=if (decide (aB.2.1=([99,111,109,109,101,110,116]:pG)))=true then if (decide ((20:Int)≤(Z.2.2.2.1.length:Int)))=true then sH (z7 O aB (6:Int)) fun aD=>some ((O.2.1,aD.1,aD.2,Z.2.1,Z.2.2.1,Z.2.2.2.1,Z.2.2.2.2.1,Z.2.2.2.2.2.1,Z.2.2.2.2.2.2.1,aA.1,aA.2.1,aA.2.2.1)) else (vY O (1:Int) ([]:pG)).bind fun aE=>if (([]:pH).length+Z.2.2.2.1.length)*16≤140737488355328 then if ((([]:pH)++Z.2.2.2.1).length+([aE.2.2.2.2.1]:pH).length)*16≤140737488355328 then some ((aE.1,aE.2.1,aE.2.2.1,Z.2.1,Z.2.2.1,((([]:pH)++Z.2.2.2.1)++([aE.2.2.2.2.1]:pH)),Z.2.2.2.2.1,Z.2.2.2.2.2.1,Z.2.2.2.2.2.2.1,aA.1,aA.2.1,aA.2.2.1)) else none else none else if (decide (aB.2.1=([102,105,101,108,100]:pG)))=true then (XC O Z).bind fun aF=>some ((aF.1,aF.2.1,aF.2.2.1,Z.2.1,Z.2.2.1,Z.2.2.2.1,Z.2.2.2.2.1,Z.2.2.2.2.2.1,aF.2.2.2,aA.1,aA.2.1,aA.2.2.1)) else if aC=true then sH (z7 O aB (3:Int)) fun aG=>some ((O.2.1,aG.1,aG.2,Z.2.1,Z.2.2.1,Z.2.2.2.1,Z.2.2.2.2.1,Z.2.2.2.2.2.1,Z.2.2.2.2.2.2.1,aA.1,aA.2.1,aA.2.2.1)) else if (decide (aB.2.1=([102,108,97,103]:pG)))=true then (XE O Z).bind fun aH=>some ((aH.1,aH.2.1,aH.2.2.1,Z.2.1,Z.2.2.1,Z.2.2.2.1,aH.2.2.2,Z.2.2.2.2.2.1,Z.2.2.2.2.2.2.1,aA.1,aA.2.1,aA.2.2.1)) else sB (σ:=Bool) (if ((decide (aB.2.1=([115,111,117,114,99,101]:pG)))&&aA.1)=true then some (((decide (aB.2.1=([115,111,117,114,99,101]:pG)))&&aA.1)) else if ((decide (aB.2.1=([116,97,114,103,101,116]:pG)))&&aA.2.1)=true then some (((decide (aB.2.1=([116,97,114,103,101,116]:pG)))&&aA.2.1)) else some (((decide (aB.2.1=([115,116,97,116,101]:pG)))&&aA.2.2.1)) ) fun aI=>if aI=true then sH (z7 O aB (9:Int)) fun aJ=>some ((O.2.1,aJ.1,aJ.2,Z.2.1,Z.2.2.1,Z.2.2.2.1,Z.2.2.2.2.1,Z.2.2.2.2.2.1,Z.2.2.2.2.2.2.1,aA.1,aA.2.1,aA.2.2.1)) else if (decide (aB.2.1=([115,111,117,114,99,101]:pG)))=true then (vY O (1:Int) ([]:pG)).bind fun aK=>some ((aK.1,aK.2.1,aK.2.2.1,aK.2.2.2.2.1,Z.2.2.1,Z.2.2.2.1,Z.2.2.2.2.1,Z.2.2.2.2.2.1,Z.2.2.2.2.2.2.1,true,aA.2.1,aA.2.2.1)) else if (decide (aB.2.1=([116,97,114,103,101,116]:pG)))=true then (vY O (1:Int) ([]:pG)).bind fun aL=>some ((aL.1,aL.2.1,aL.2.2.1,Z.2.1,aL.2.2.2.2.1,Z.2.2.2.1,Z.2.2.2.2.1,Z.2.2.2.2.2.1,Z.2.2.2.2.2.2.1,aA.1,true,aA.2.2.1)) else if (decide (aB.2.1=([115,116,97,116,101]:pG)))=true then (vY O (2:Int) ([]:pG)).bind fun aM=>if (((decide (aM.2.2.1=(0:Int)))==true)=true→((O7 aM.2.2.2.2.1)).isSome=true) then sB (σ:=(Int×Int)) (if ((decide (aM.2.2.1=(0:Int)))&&(decide ((val (O7 aM.2.2.2.2.1))<(0:Int))))=true then sH (z7 (O.1,(aM.1,(aM.2.1,(aM.2.2.1,((O.2.2.2.2.1.1,(O.2.2.2.2.1.2.1,(O.2.2.2.2.1.2.2.1,(O.2.2.2.2.1.2.2.2.1,())))),(O.2.2.2.2.2.1,())))))) (aM.2.2.2.1,(aM.2.2.2.2.1,(aM.2.2.2.2.2.1,(aM.2.2.2.2.2.2,())))) (3:Int)) fun aN=>some ((aN.1,aN.2)) else some ((aM.2.1,aM.2.2.1)) ) fun(aO,aP)=>(O7 aM.2.2.2.2.1).bind fun aQ=>some ((aM.1,aO,aP,Z.2.1,Z.2.2.1,Z.2.2.2.1,Z.2.2.2.2.1,aQ,Z.2.2.2.2.2.2.1,aA.1,aA.2.1,true)) else none else sH (z7 O aB (3:Int)) fun aR=>some ((O.2.1,aR.1,aR.2,Z.2.1,Z.2.2.1,Z.2.2.2.1,Z.2.2.2.2.1,Z.2.2.2.2.2.1,Z.2.2.2.2.2.2.1,aA.1,aA.2.1,aA.2.2.1))
def tP (O:(pG×(Int×Unit))) (Z:sP) (aA:Int) (aB:Int) (aC:sC) (aD:(pP×(Int×Unit))) (aE:pN):Option (Int×Int×pG×Int×Int×Int):=if (decide (aB=(0:Int)))=true then (CS O).bind fun aF=>some ((aF.2.2.2.2,aF.1,aF.2.1,aF.2.2.1,aF.2.2.2.1,Z.2.2.2.1)) else some ((O.2.1,Z.1,Z.2.1,Z.2.2.1,Z.2.2.2.1,aD.2.1))
section
variable (O:(pG×(Int×Unit))) (Z:sP) (aA:Int) (aB:Int) (aC:sC) (aD:(pP×(Int×Unit))) (aE:Nat) (aF:Nat) (aG:pN)
abbrev a7M:List qI:=[(.val .ref (some (0,0)),none)]
abbrev a7N:List qH:=[.cells sJ (O,(Z,(aA,(aB,(aC,((some 3),aD)))))) [(11,1),(13,2)],.grow 55 7 aE,.grow 3 1 aF,.map .str .bool aG]
@[go_sem] def a7O:qQ:=⟨[aE=(aC.2.2.2.1.length),aF=(aD.1.length),((tP O Z aA aB aC aD aG)).isSome=true],[],[.cells sJ ((O.1,((val (tP O Z aA aB aC aD aG)).1,())),(((val (tP O Z aA aB aC aD aG)).2.1,((val (tP O Z aA aB aC aD aG)).2.2.1,((val (tP O Z aA aB aC aD aG)).2.2.2.1,((val (tP O Z aA aB aC aD aG)).2.2.2.2.1,())))),(aA,(aB,((aC.1,(aC.2.1,(aC.2.2.1,(aC.2.2.2.1,())))),((some 3),(aD.1,((val (tP O Z aA aB aC aD aG)).2.2.2.2.2,())))))))) [(11,1),(13,2)],.grow 55 7 (aC.2.2.2.1.length),.grow 3 1 (aD.1.length),.map .str .bool aG]⟩
def aGO:List qI→List qH→Option qQ:=rT (V:=((pG×(Int×Unit))×sP×Int×Int×sC×(pP×(Int×Unit))×Nat×Nat×pN)) (fun x=>a7M) (fun x=>a7N x.1 x.2.1 x.2.2.1 x.2.2.2.1 x.2.2.2.2.1 x.2.2.2.2.2.1 x.2.2.2.2.2.2.1 x.2.2.2.2.2.2.2.1 x.2.2.2.2.2.2.2.2) fun x=>a7O x.1 x.2.1 x.2.2.1 x.2.2.2.1 x.2.2.2.2.1 x.2.2.2.2.2.1 x.2.2.2.2.2.2.1 x.2.2.2.2.2.2.2.1 x.2.2.2.2.2.2.2.2
@[go_sem] def aUK:aGO (no_index a7M) (no_index (a7N O Z aA aB aC aD aE aF aG))=some (a7O O Z aA aB aC aD aE aF aG):=rV (fun⟨a0,a1,a2,a3,a4,a5,a6,a7,a8⟩ ⟨b0,b1,b2,b3,b4,b5,b6,b7,b8⟩ h1 h2=>by cases h1;cases h2;rfl) (O,Z,aA,aB,aC,aD,aE,aF,aG)
end
@[go_sem] abbrev zO:Nat×rI:=(178,⟨[.p sJ [11,13]],aGO,[(0,12,.m)],[1,2,3],none⟩)
def XF:rL Tryz.prog [vP,HW,B4,yY] (rK [a7L]):=⟨⟨w8,⟨LO,⟨CM,⟨AC,trivial⟩⟩⟩⟩,qU aGN rX,rM⟩
def FP:rP Tryz.prog zO:=by
 refine rW XF Tryz.func178 (c:=_) rfl (N:=22) pX (ts:=[]) rfl (fun _ _=>rfl) ?_;intro⟨O,Z,aA,aB,aC,aD,aE,aF,aG⟩ hs hrow;dsimp only[a7M,a7N,a7O,rQ,qW,rF,rO,rS,Nat.reduceAdd] at hs hrow|-;obtain⟨rfl,rfl,hz⟩:=hs;obtain⟨z0,d⟩:=aVb.1 hz
 try rw[s9 d]
 clear hz;unfold tP at d;refine qG XF ?_;refine qY d (fun d hc1=> ?_) (fun d hc1=> ?_)
 .refine qG XF ?_;obtain⟨aH,hv1,hw1,d⟩:=rH d
  try simp only[go_sem] at hw1
  refine rY XF ?_ (hp:=by exact(rG hv1)) (h:=by simp only[go_sem,hw1];rfl);cases d;exact pI [(0,0),(1,1),(2,2),(3,3)]
 .refine rJ ?_;cases d;exact pI [(0,0),(1,1),(2,2),(3,3)]
attribute [irreducible] BT tP
end
noncomputable section
def uL (O:HT) (Z:rZ) (aA:Bool):(Int×Int×Int×pG×pG×pH×pH×Int×(List r5)×Bool×Bool×Bool)→Option ((Int×Int×Int×pG×pG×pH×pH×Int×(List r5)×Bool×Bool×Bool)⊕((Int×Int×Int×pG×pG×pH×pH×Int×(List r5))⊕(Int×Int×Int×pP×pG×pG×pH×pH×Int×(List r5)))):=fun(aB,aC,aD,aE,aF,aG,aH,aI,aJ,aK,aL,aM)=>if (decide (aD=(0:Int)))=true then (OV O.1 aB).bind fun aN=>if ((decide (aN.1=(3:Int)))&&(decide (aN.2.1=([125]:pG))))=true then if (([]:pP).length+O.2.2.2.2.2.1.length)*8≤140737488355328 then if ((([]:pP)++O.2.2.2.2.2.1).length+([aN.2.2.2]:pP).length)*8≤140737488355328 then some (.inr (.inr ((aN.2.2.2,aC,aD,((([]:pP)++O.2.2.2.2.2.1)++([aN.2.2.2]:pP)),aE,aF,aG,aH,aI,aJ)))) else none else none else if (!decide (aN.1=(2:Int)))=true then sH (z7 (O.1,(aB,(aC,(aD,((O.2.2.2.2.1.1,(O.2.2.2.2.1.2.1,(O.2.2.2.2.1.2.2.1,(O.2.2.2.2.1.2.2.2.1,())))),(O.2.2.2.2.2.1,())))))) (aN.1,(aN.2.1,(aN.2.2.1,(aN.2.2.2,())))) (3:Int)) fun aO=>some (.inr (.inr ((aB,aO.1,aO.2,O.2.2.2.2.2.1,aE,aF,aG,aH,aI,aJ)))) else (BT (O.1,(aN.2.2.2,(aC,(aD,((O.2.2.2.2.1.1,(O.2.2.2.2.1.2.1,(O.2.2.2.2.1.2.2.1,(O.2.2.2.2.1.2.2.2.1,())))),(O.2.2.2.2.2.1,())))))) (Z.1,(aE,(aF,(aG,(aH,(aI,(aJ,()))))))) (aK,(aL,(aM,()))) (aN.1,(aN.2.1,(aN.2.2.1,(aN.2.2.2,())))) aA).bind fun aP=>some (.inl (aP.1,aP.2.1,aP.2.2.1,aP.2.2.2.1,aP.2.2.2.2.1,aP.2.2.2.2.2.1,aP.2.2.2.2.2.2.1,aP.2.2.2.2.2.2.2.1,aP.2.2.2.2.2.2.2.2.1,aP.2.2.2.2.2.2.2.2.2.1,aP.2.2.2.2.2.2.2.2.2.2.1,aP.2.2.2.2.2.2.2.2.2.2.2)) else some (.inr (.inl (aB,aC,aD,aE,aF,aG,aH,aI,aJ)))
def vC (O:HT) (Z:rZ) (aA:Bool):Option (Int×Int×Int×pP×pG×pG×pH×pH×Int×(List r5)):=(vY O (3:Int) ([123]:pG)).bind fun aB=>sZ (rE (uL O Z aA) (aB.1,aB.2.1,aB.2.2.1,Z.2.1,Z.2.2.1,Z.2.2.2.1,Z.2.2.2.2.1,Z.2.2.2.2.2.1,Z.2.2.2.2.2.2.1,false,false,false)) fun(aC,aD,aE,aF,aG,aH,aI,aJ,aK)=>some ((aC,aD,aE,O.2.2.2.2.2.1,aF,aG,aH,aI,aJ,aK))
attribute [irreducible] vC
end
noncomputable section
def B7 (O:(pG×(Int×Unit))) (Z:sP) (aA:Int) (aB:Int) (aC:sC) (aD:(pP×(Int×Unit))) (aE:pG) (aF:pG) (aG:pG) (aH:pH) (aI:(Int×((List r5)×Unit))) (aJ:Bool) (aK:pN) (aL:pH) (aM:pN):Option (Int×Int×pG×Int×Int×Int×Int×Int):=sB (σ:=(Int×Int)) (if (sR .str .bool aM Z.2.1)=true then sH (vH O Z aA aB aC aD (9:Int) aK) fun aN=>some ((aN.1,aN.2)) else some ((aA,aB)) ) fun(aO,aP)=>(tP (O.1,(O.2.1,())) (Z.1,(Z.2.1,(Z.2.2.1,(Z.2.2.2.1,())))) aO aP (aC.1,(aC.2.1,(aC.2.2.1,(aC.2.2.2.1,())))) (aD.1,(aD.2.1,())) aK).bind fun aQ=>some ((aQ.1,aQ.2.1,aQ.2.2.1,aQ.2.2.2.1,aQ.2.2.2.2.1,aO,aP,aQ.2.2.2.2.2))
section
variable (O:(pG×(Int×Unit))) (Z:sP) (aA:Int) (aB:Int) (aC:sC) (aD:(pP×(Int×Unit))) (aE:Nat) (aF:Nat) (aG:pG) (aH:pG) (aI:pG) (aJ:pH) (aK:Nat) (aL:(Int×((List r5)×Unit))) (aM:Bool) (aN:Nat) (aO:Nat) (aP:pN) (aQ:pH) (aR:Nat) (aS:pN)
abbrev a7P:List qI:=[(.val .ref (some (0,0)),none),(.val .ref (some (3,0)),none)]
abbrev a7Q:List qH:=[.cells sJ (O,(Z,(aA,(aB,(aC,((some 6),aD)))))) [(11,1),(13,2)],.grow 55 7 aE,.grow 3 1 aF,.cells u7 ((aG,(aH,(aI,(aJ,((some (7,aK)),aL))))),(aM,((some 8),()))) [(3,4),(6,5)],.grow 9 1 aN,.grow 149 2 aO,.map .str .bool aP,.row 9 .str aQ aR,.map .str .bool aS]
@[go_sem] def a7R:qQ:=⟨[aE=(aC.2.2.2.1.length),aF=(aD.1.length),aN=(aJ.length),aO=(aL.2.1.length),aK=aR,((B7 O Z aA aB aC aD aG aH aI aJ aL aM aP aQ aS)).isSome=true],[],[.cells sJ ((O.1,((val (B7 O Z aA aB aC aD aG aH aI aJ aL aM aP aQ aS)).1,())),(((val (B7 O Z aA aB aC aD aG aH aI aJ aL aM aP aQ aS)).2.1,((val (B7 O Z aA aB aC aD aG aH aI aJ aL aM aP aQ aS)).2.2.1,((val (B7 O Z aA aB aC aD aG aH aI aJ aL aM aP aQ aS)).2.2.2.1,((val (B7 O Z aA aB aC aD aG aH aI aJ aL aM aP aQ aS)).2.2.2.2.1,())))),((val (B7 O Z aA aB aC aD aG aH aI aJ aL aM aP aQ aS)).2.2.2.2.2.1,((val (B7 O Z aA aB aC aD aG aH aI aJ aL aM aP aQ aS)).2.2.2.2.2.2.1,((aC.1,(aC.2.1,(aC.2.2.1,(aC.2.2.2.1,())))),((some 6),(aD.1,((val (B7 O Z aA aB aC aD aG aH aI aJ aL aM aP aQ aS)).2.2.2.2.2.2.2,())))))))) [(11,1),(13,2)],.grow 55 7 (aC.2.2.2.1.length),.grow 3 1 (aD.1.length),.cells u7 ((aG,(aH,(aI,(aJ,((some (7,(aQ.length))),(aL.1,(aL.2.1,()))))))),(aM,((some 8),()))) [(3,4),(6,5)],.grow 9 1 (aJ.length),.grow 149 2 (aL.2.1.length),.map .str .bool aP,.row 9 .str aQ (aQ.length),.map .str .bool (tY .str .bool Z.2.1 true aS)]⟩
def aGP:List qI→List qH→Option qQ:=rT (V:=((pG×(Int×Unit))×sP×Int×Int×sC×(pP×(Int×Unit))×Nat×Nat×pG×pG×pG×pH×Nat×(Int×((List r5)×Unit))×Bool×Nat×Nat×pN×pH×Nat×pN)) (fun x=>a7P) (fun x=>a7Q x.1 x.2.1 x.2.2.1 x.2.2.2.1 x.2.2.2.2.1 x.2.2.2.2.2.1 x.2.2.2.2.2.2.1 x.2.2.2.2.2.2.2.1 x.2.2.2.2.2.2.2.2.1 x.2.2.2.2.2.2.2.2.2.1 x.2.2.2.2.2.2.2.2.2.2.1 x.2.2.2.2.2.2.2.2.2.2.2.1 x.2.2.2.2.2.2.2.2.2.2.2.2.1 x.2.2.2.2.2.2.2.2.2.2.2.2.2.1 x.2.2.2.2.2.2.2.2.2.2.2.2.2.2.1 x.2.2.2.2.2.2.2.2.2.2.2.2.2.2.2.1 x.2.2.2.2.2.2.2.2.2.2.2.2.2.2.2.2.1 x.2.2.2.2.2.2.2.2.2.2.2.2.2.2.2.2.2.1 x.2.2.2.2.2.2.2.2.2.2.2.2.2.2.2.2.2.2.1 x.2.2.2.2.2.2.2.2.2.2.2.2.2.2.2.2.2.2.2.1 x.2.2.2.2.2.2.2.2.2.2.2.2.2.2.2.2.2.2.2.2) fun x=>a7R x.1 x.2.1 x.2.2.1 x.2.2.2.1 x.2.2.2.2.1 x.2.2.2.2.2.1 x.2.2.2.2.2.2.1 x.2.2.2.2.2.2.2.1 x.2.2.2.2.2.2.2.2.1 x.2.2.2.2.2.2.2.2.2.1 x.2.2.2.2.2.2.2.2.2.2.1 x.2.2.2.2.2.2.2.2.2.2.2.1 x.2.2.2.2.2.2.2.2.2.2.2.2.1 x.2.2.2.2.2.2.2.2.2.2.2.2.2.1 x.2.2.2.2.2.2.2.2.2.2.2.2.2.2.1 x.2.2.2.2.2.2.2.2.2.2.2.2.2.2.2.1 x.2.2.2.2.2.2.2.2.2.2.2.2.2.2.2.2.1 x.2.2.2.2.2.2.2.2.2.2.2.2.2.2.2.2.2.1 x.2.2.2.2.2.2.2.2.2.2.2.2.2.2.2.2.2.2.1 x.2.2.2.2.2.2.2.2.2.2.2.2.2.2.2.2.2.2.2.1 x.2.2.2.2.2.2.2.2.2.2.2.2.2.2.2.2.2.2.2.2
@[go_sem] def aUL:aGP (no_index a7P) (no_index (a7Q O Z aA aB aC aD aE aF aG aH aI aJ aK aL aM aN aO aP aQ aR aS))=some (a7R O Z aA aB aC aD aE aF aG aH aI aJ aK aL aM aN aO aP aQ aR aS):=rV (fun⟨a0,a1,a2,a3,a4,a5,a6,a7,a8,a9,a10,a11,a12,a13,a14,a15,a16,a17,a18,a19,a20⟩ ⟨b0,b1,b2,b3,b4,b5,b6,b7,b8,b9,b10,b11,b12,b13,b14,tD,b16,b17,b18,b19,b20⟩ h1 h2=>by cases h1;cases h2;rfl) (O,Z,aA,aB,aC,aD,aE,aF,aG,aH,aI,aJ,aK,aL,aM,aN,aO,aP,aQ,aR,aS)
end
@[go_sem] abbrev M6:Nat×rI:=(256,⟨[.p sJ [11,13],.p u7 [3,6]],aGP,[(0,12,.m),(3,4,.r),(3,8,.m)],[1,2,3,4,5,6,7],none⟩)
def aGQ:rL Tryz.prog [] (rK [B6,zO]):=⟨trivial,qU GK (qU FP rX),rM⟩
def XG:rL Tryz.prog [GE,sM,B4,JG,yY,DE] (rK [B6,zO]):=⟨⟨JF,⟨sO,⟨CM,⟨O0,⟨AC,⟨FD,trivial⟩⟩⟩⟩⟩⟩,aGQ.Γ,rM⟩
def a7S:rP Tryz.prog M6:=by
 refine rW aGQ Tryz.func256 (c:=_) rfl (N:=27) pX (ts:=[]) rfl (fun _ _=>rfl) ?_;intro⟨O,Z,aA,aB,aC,aD,aE,aF,aG,aH,aI,aJ,aK,aL,aM,aN,aO,aP,aQ,aR,aS⟩ hs hrow;dsimp only[a7P,a7Q,a7R,rQ,qW,rF,rO,rS,Nat.reduceAdd] at hs hrow|-;obtain⟨rfl,rfl,rfl,rfl,rfl,hz⟩:=hs;obtain⟨rfl,_⟩:=hrow;obtain⟨z0,d⟩:=aVb.1 hz
 try rw[s9 d]
 clear hz;unfold B7 at d;refine qZ ?_;refine xE XG ?_;obtain⟨y1,e,d⟩:=qK d;refine DA (fun s=>s=(fun x=>⟨[(0,(.val .ref (some (0,0)),none)),(1,(.val .ref (some (3,0)),none))],[(0,.cells sJ ((O.1,(O.2.1,())),((Z.1,(Z.2.1,(Z.2.2.1,(Z.2.2.2.1,())))),(x.1,(x.2,((aC.1,(aC.2.1,(aC.2.2.1,(aC.2.2.2.1,())))),((some 6),(aD.1,(aD.2.1,())))))))) [(11,1),(13,2)]),(1,.grow 55 7 (aC.2.2.2.1.length)),(2,.grow 3 1 (aD.1.length)),(3,.cells u7 ((aG,(aH,(aI,(aJ,((some (7,(aQ.length))),(aL.1,(aL.2.1,()))))))),(aM,((some 8),()))) [(3,4),(6,5)]),(4,.grow 9 1 (aJ.length)),(5,.grow 149 2 (aL.2.1.length)),(6,.map .str .bool aP),(7,.row 9 .str aQ (aQ.length)),(8,.map .str .bool aS)],9,27,9⟩) y1) ?_ ?_
 .refine qY e (fun e hc1=> ?_) (fun e hc1=> ?_)
  .obtain⟨aT,hw_38,e⟩:=xD e
   try simp only[go_sem] at hw_38
   refine rY XG ?_ (hp:=by exact⟨pW,pW,pW,pW,pW⟩) (h:=by simp only[go_sem,hw_38];rfl)
   cases e;exact vO ⟨⟨[0,1],[(0,0),(1,1),(2,2),(3,3),(4,4),(5,5),(6,6),(7,7),(8,8)]⟩,by rfl⟩
  .refine rJ ?_;cases e;exact vO ⟨⟨[0,1],[(0,0),(1,1),(2,2),(3,3),(4,4),(5,5),(6,6),(7,7),(8,8)]⟩,by rfl⟩
 .rintro _ rfl;obtain⟨aU,aV⟩:=y1;dsimp only at d|-;refine qS ?_;refine xE XG ?_;obtain⟨aW,hv1,hw1,d⟩:=rH d
  try simp only[go_sem] at hw1
  refine rY XG ?_ (hp:=by exact⟨pW,pW,pW,pW,pW,(rG hv1)⟩) (h:=by simp only[go_sem,hw1];rfl)
  cases d;exact pI [(0,0),(1,1),(2,2),(3,3),(4,4),(5,5),(6,6),(7,7),(8,8)]
def B8 (O:(pG×(Int×Unit))) (Z:sP) (aA:Int) (aB:Int) (aC:sC) (aD:(pP×(Int×Unit))) (aE:Int) (aF:Bool) (aG:pN):Option (Int×Int×pG×Int×Int×Int×Int×Int):=if ((!decide (Z.1=aE))||(!true))=true then sH (vH O Z aA aB aC aD (3:Int) aG) fun aH=>(tP (O.1,(O.2.1,())) (Z.1,(Z.2.1,(Z.2.2.1,(Z.2.2.2.1,())))) aH.1 aH.2 (aC.1,(aC.2.1,(aC.2.2.1,(aC.2.2.2.1,())))) (aD.1,(aD.2.1,())) aG).bind fun aI=>some ((aI.1,aI.2.1,aI.2.2.1,aI.2.2.2.1,aI.2.2.2.2.1,aH.1,aH.2,aI.2.2.2.2.2)) else if false=true then sH (vH O Z aA aB aC aD (9:Int) aG) fun aJ=>(tP (O.1,(O.2.1,())) (Z.1,(Z.2.1,(Z.2.2.1,(Z.2.2.2.1,())))) aJ.1 aJ.2 (aC.1,(aC.2.1,(aC.2.2.1,(aC.2.2.2.1,())))) (aD.1,(aD.2.1,())) aG).bind fun aK=>some ((aK.1,aK.2.1,aK.2.2.1,aK.2.2.2.1,aK.2.2.2.2.1,aJ.1,aJ.2,aK.2.2.2.2.2)) else if aF=true then sH (vH O Z aA aB aC aD (6:Int) aG) fun aL=>(tP (O.1,(O.2.1,())) (Z.1,(Z.2.1,(Z.2.2.1,(Z.2.2.2.1,())))) aL.1 aL.2 (aC.1,(aC.2.1,(aC.2.2.1,(aC.2.2.2.1,())))) (aD.1,(aD.2.1,())) aG).bind fun aM=>some ((aM.1,aM.2.1,aM.2.2.1,aM.2.2.2.1,aM.2.2.2.2.1,aL.1,aL.2,aM.2.2.2.2.2)) else (tP O Z aA aB aC aD aG).bind fun aN=>some ((aN.1,aN.2.1,aN.2.2.1,aN.2.2.2.1,aN.2.2.2.2.1,aA,aB,aN.2.2.2.2.2))
section
variable (O:Int) (Z:Bool) (aA:(pG×(Int×Unit))) (aB:sP) (aC:Int) (aD:Int) (aE:sC) (aF:(pP×(Int×Unit))) (aG:Nat) (aH:Nat) (aI:pN)
abbrev a7T:List qI:=[(.val .ref (some (0,0)),none),(.val (.int .i64) O,none),(.val .clo (some (278,[])),none),(.val .clo (some (125,[])),none),(.val .bool Z,none)]
abbrev a7U:List qH:=[.cells sJ (aA,(aB,(aC,(aD,(aE,((some 3),aF)))))) [(11,1),(13,2)],.grow 55 7 aG,.grow 3 1 aH,.map .str .bool aI]
@[go_sem] def a7V:qQ:=⟨[aG=(aE.2.2.2.1.length),aH=(aF.1.length),((B8 aA aB aC aD aE aF O Z aI)).isSome=true],[(.val .str aB.2.1,none)],[.cells sJ ((aA.1,((val (B8 aA aB aC aD aE aF O Z aI)).1,())),(((val (B8 aA aB aC aD aE aF O Z aI)).2.1,((val (B8 aA aB aC aD aE aF O Z aI)).2.2.1,((val (B8 aA aB aC aD aE aF O Z aI)).2.2.2.1,((val (B8 aA aB aC aD aE aF O Z aI)).2.2.2.2.1,())))),((val (B8 aA aB aC aD aE aF O Z aI)).2.2.2.2.2.1,((val (B8 aA aB aC aD aE aF O Z aI)).2.2.2.2.2.2.1,((aE.1,(aE.2.1,(aE.2.2.1,(aE.2.2.2.1,())))),((some 3),(aF.1,((val (B8 aA aB aC aD aE aF O Z aI)).2.2.2.2.2.2.2,())))))))) [(11,1),(13,2)],.grow 55 7 (aE.2.2.2.1.length),.grow 3 1 (aF.1.length),.map .str .bool aI]⟩
def aGR:List qI→List qH→Option qQ:=rT (V:=(Int×Bool×(pG×(Int×Unit))×sP×Int×Int×sC×(pP×(Int×Unit))×Nat×Nat×pN)) (fun x=>a7T x.1 x.2.1) (fun x=>a7U x.2.2.1 x.2.2.2.1 x.2.2.2.2.1 x.2.2.2.2.2.1 x.2.2.2.2.2.2.1 x.2.2.2.2.2.2.2.1 x.2.2.2.2.2.2.2.2.1 x.2.2.2.2.2.2.2.2.2.1 x.2.2.2.2.2.2.2.2.2.2) fun x=>a7V x.1 x.2.1 x.2.2.1 x.2.2.2.1 x.2.2.2.2.1 x.2.2.2.2.2.1 x.2.2.2.2.2.2.1 x.2.2.2.2.2.2.2.1 x.2.2.2.2.2.2.2.2.1 x.2.2.2.2.2.2.2.2.2.1 x.2.2.2.2.2.2.2.2.2.2
@[go_sem] def aUM:aGR (no_index (a7T O Z)) (no_index (a7U aA aB aC aD aE aF aG aH aI))=some (a7V O Z aA aB aC aD aE aF aG aH aI):=rV (fun⟨a0,a1,a2,a3,a4,a5,a6,a7,a8,a9,a10⟩ ⟨b0,b1,b2,b3,b4,b5,b6,b7,b8,b9,b10⟩ h1 h2=>by cases h1;cases h2;rfl) (O,Z,aA,aB,aC,aD,aE,aF,aG,aH,aI)
end
@[go_sem] abbrev aGS:Nat×rI:=(124,⟨[.p sJ [11,13],.v,.v,.v,.v],aGR,[(0,12,.m)],[1,2,3],none⟩)
def AD:rL Tryz.prog [vP,sM,B4,yY] (rK [aE4,B6,zO,WP]):=⟨⟨w8,⟨sO,⟨CM,⟨AC,trivial⟩⟩⟩⟩,qU aNP (qU GK (qU FP (qU a2M rX))),rM⟩
def aOz:rP Tryz.prog aGS:=by
 refine rW AD Tryz.func124 (c:=_) rfl (N:=46) pX (ts:=[(10,none)]) rfl (fun _ _=>rfl) ?_;intro⟨O,Z,aA,aB,aC,aD,aE,aF,aG,aH,aI⟩ hs hrow;dsimp only[a7T,a7U,a7V,rQ,qW,rF,rO,rS,Nat.reduceAdd] at hs hrow|-;obtain⟨rfl,rfl,hz⟩:=hs;obtain⟨z0,d⟩:=aVb.1 hz
 try rw[s9 d]
 clear hz;unfold B8 at d;refine qG AD ?_;refine qG AD ?_;refine qZ (sA ?_);refine qG AD ?_ (hp:=by exact⟨id,id,id,u6⟩);refine qY d (fun d hc1=> ?_) (fun d hc1=> ?_)
 .obtain⟨aJ,hw_27,d⟩:=xD d
  try simp only[go_sem] at hw_27
  refine rY AD ?_ (hp:=by exact⟨pW,pW,pW,pW,pW⟩) (h:=by simp only[go_sem,hw_27];rfl)
  refine s5 (qS ?_);obtain⟨aK,hv1,hw1,d⟩:=rH d
  try simp only[go_sem] at hw1
  refine qG AD ?_ (hp:=by exact⟨pW,pW,pW,pW,pW,(rG hv1)⟩) (h:=by simp only[go_sem,hw1];rfl)
  refine qG AD ?_;refine qR ?_;cases d;exact pI [(0,0),(1,1),(2,2),(3,3)]
 .refine qG AD ?_;refine qY d (fun d hc2=> ?_) (fun d hc2=> ?_)
  .obtain⟨aL,hw_29,d⟩:=xD d
   try simp only[go_sem] at hw_29
   refine rY AD ?_ (hp:=by exact⟨pW,pW,pW,pW,pW⟩) (h:=by simp only[go_sem,hw_29];rfl)
   refine s5 (qS ?_);obtain⟨aM,hv2,hw2,d⟩:=rH d
   try simp only[go_sem] at hw2
   refine qG AD ?_ (hp:=by exact⟨pW,pW,pW,pW,pW,(rG hv2)⟩) (h:=by simp only[go_sem,hw2];rfl)
   refine qG AD ?_;refine qR ?_;cases d;exact pI [(0,0),(1,1),(2,2),(3,3)]
  .refine qG AD ?_;refine qY d (fun d hc3=> ?_) (fun d hc3=> ?_)
   .obtain⟨aN,hw_31,d⟩:=xD d
    try simp only[go_sem] at hw_31
    refine rY AD ?_ (hp:=by exact⟨pW,pW,pW,pW,pW⟩) (h:=by simp only[go_sem,hw_31];rfl)
    refine s5 (qS ?_);obtain⟨aO,hv3,hw3,d⟩:=rH d
    try simp only[go_sem] at hw3
    refine qG AD ?_ (hp:=by exact⟨pW,pW,pW,pW,pW,(rG hv3)⟩) (h:=by simp only[go_sem,hw3];rfl)
    refine qG AD ?_;refine qR ?_;cases d;exact pI [(0,0),(1,1),(2,2),(3,3)]
   .refine rJ (s5 (qS ?_));obtain⟨aP,hv4,hw4,d⟩:=rH d
    try simp only[go_sem] at hw4
    refine qG AD ?_ (hp:=by exact⟨pW,pW,pW,pW,pW,(rG hv4)⟩) (h:=by simp only[go_sem,hw4];rfl)
    refine qG AD ?_;refine qR ?_;cases d;exact pI [(0,0),(1,1),(2,2),(3,3)]
attribute [irreducible] B7 B8
end
noncomputable section
def B9 (O:(pG×(Int×Unit))) (Z:sP) (aA:Int) (aB:Int) (aC:sC) (aD:(pP×(Int×Unit))) (aE:Int) (aF:Bool) (aG:pN):Option (Int×Int×pG×Int×Int×Int×Int×Int):=if (((!decide (Z.1=aE))==false)=true→((HY Z.2.1)).isSome=true) then if ((!decide (Z.1=aE))||(!(val (HY Z.2.1))))=true then sH (vH O Z aA aB aC aD (3:Int) aG) fun aH=>(tP (O.1,(O.2.1,())) (Z.1,(Z.2.1,(Z.2.2.1,(Z.2.2.2.1,())))) aH.1 aH.2 (aC.1,(aC.2.1,(aC.2.2.1,(aC.2.2.2.1,())))) (aD.1,(aD.2.1,())) aG).bind fun aI=>some ((aI.1,aI.2.1,aI.2.2.1,aI.2.2.2.1,aI.2.2.2.2.1,aH.1,aH.2,aI.2.2.2.2.2)) else if false=true then sH (vH O Z aA aB aC aD (9:Int) aG) fun aJ=>(tP (O.1,(O.2.1,())) (Z.1,(Z.2.1,(Z.2.2.1,(Z.2.2.2.1,())))) aJ.1 aJ.2 (aC.1,(aC.2.1,(aC.2.2.1,(aC.2.2.2.1,())))) (aD.1,(aD.2.1,())) aG).bind fun aK=>some ((aK.1,aK.2.1,aK.2.2.1,aK.2.2.2.1,aK.2.2.2.2.1,aJ.1,aJ.2,aK.2.2.2.2.2)) else if aF=true then sH (vH O Z aA aB aC aD (6:Int) aG) fun aL=>(tP (O.1,(O.2.1,())) (Z.1,(Z.2.1,(Z.2.2.1,(Z.2.2.2.1,())))) aL.1 aL.2 (aC.1,(aC.2.1,(aC.2.2.1,(aC.2.2.2.1,())))) (aD.1,(aD.2.1,())) aG).bind fun aM=>some ((aM.1,aM.2.1,aM.2.2.1,aM.2.2.2.1,aM.2.2.2.2.1,aL.1,aL.2,aM.2.2.2.2.2)) else (tP O Z aA aB aC aD aG).bind fun aN=>some ((aN.1,aN.2.1,aN.2.2.1,aN.2.2.2.1,aN.2.2.2.2.1,aA,aB,aN.2.2.2.2.2)) else none
section
variable (O:Int) (Z:Bool) (aA:(pG×(Int×Unit))) (aB:sP) (aC:Int) (aD:Int) (aE:sC) (aF:(pP×(Int×Unit))) (aG:Nat) (aH:Nat) (aI:pN)
abbrev a7W:List qI:=[(.val .ref (some (0,0)),none),(.val (.int .i64) O,none),(.val .clo (some (106,[])),none),(.val .clo (some (125,[])),none),(.val .bool Z,none)]
abbrev a7X:List qH:=[.cells sJ (aA,(aB,(aC,(aD,(aE,((some 3),aF)))))) [(11,1),(13,2)],.grow 55 7 aG,.grow 3 1 aH,.map .str .bool aI]
@[go_sem] def a7Y:qQ:=⟨[aG=(aE.2.2.2.1.length),aH=(aF.1.length),((B9 aA aB aC aD aE aF O Z aI)).isSome=true],[(.val .str aB.2.1,none)],[.cells sJ ((aA.1,((val (B9 aA aB aC aD aE aF O Z aI)).1,())),(((val (B9 aA aB aC aD aE aF O Z aI)).2.1,((val (B9 aA aB aC aD aE aF O Z aI)).2.2.1,((val (B9 aA aB aC aD aE aF O Z aI)).2.2.2.1,((val (B9 aA aB aC aD aE aF O Z aI)).2.2.2.2.1,())))),((val (B9 aA aB aC aD aE aF O Z aI)).2.2.2.2.2.1,((val (B9 aA aB aC aD aE aF O Z aI)).2.2.2.2.2.2.1,((aE.1,(aE.2.1,(aE.2.2.1,(aE.2.2.2.1,())))),((some 3),(aF.1,((val (B9 aA aB aC aD aE aF O Z aI)).2.2.2.2.2.2.2,())))))))) [(11,1),(13,2)],.grow 55 7 (aE.2.2.2.1.length),.grow 3 1 (aF.1.length),.map .str .bool aI]⟩
def aGT:List qI→List qH→Option qQ:=rT (V:=(Int×Bool×(pG×(Int×Unit))×sP×Int×Int×sC×(pP×(Int×Unit))×Nat×Nat×pN)) (fun x=>a7W x.1 x.2.1) (fun x=>a7X x.2.2.1 x.2.2.2.1 x.2.2.2.2.1 x.2.2.2.2.2.1 x.2.2.2.2.2.2.1 x.2.2.2.2.2.2.2.1 x.2.2.2.2.2.2.2.2.1 x.2.2.2.2.2.2.2.2.2.1 x.2.2.2.2.2.2.2.2.2.2) fun x=>a7Y x.1 x.2.1 x.2.2.1 x.2.2.2.1 x.2.2.2.2.1 x.2.2.2.2.2.1 x.2.2.2.2.2.2.1 x.2.2.2.2.2.2.2.1 x.2.2.2.2.2.2.2.2.1 x.2.2.2.2.2.2.2.2.2.1 x.2.2.2.2.2.2.2.2.2.2
@[go_sem] def aUN:aGT (no_index (a7W O Z)) (no_index (a7X aA aB aC aD aE aF aG aH aI))=some (a7Y O Z aA aB aC aD aE aF aG aH aI):=rV (fun⟨a0,a1,a2,a3,a4,a5,a6,a7,a8,a9,a10⟩ ⟨b0,b1,b2,b3,b4,b5,b6,b7,b8,b9,b10⟩ h1 h2=>by cases h1;cases h2;rfl) (O,Z,aA,aB,aC,aD,aE,aF,aG,aH,aI)
end
@[go_sem] abbrev aGU:Nat×rI:=(124,⟨[.p sJ [11,13],.v,.v,.v,.v],aGT,[(0,12,.m)],[1,2,3],none⟩)
def AE:rL Tryz.prog [vP,sM,B4,yY] (rK [a2y,B6,zO,WP]):=⟨⟨w8,⟨sO,⟨CM,⟨AC,trivial⟩⟩⟩⟩,qU aD0 (qU GK (qU FP (qU a2M rX))),rM⟩
def aOA:rP Tryz.prog aGU:=by
 refine rW AE Tryz.func124 (c:=_) rfl (N:=46) pX (ts:=[(10,none)]) rfl (fun _ _=>rfl) ?_;intro⟨O,Z,aA,aB,aC,aD,aE,aF,aG,aH,aI⟩ hs hrow;dsimp only[a7W,a7X,a7Y,rQ,qW,rF,rO,rS,Nat.reduceAdd] at hs hrow|-;obtain⟨rfl,rfl,hz⟩:=hs;obtain⟨z0,d⟩:=aVb.1 hz
 try rw[s9 d]
 clear hz;unfold B9 at d;refine qG AE ?_;refine qG AE ?_;refine qZ (sA ?_);obtain⟨hg1,d⟩:=qP d;refine qG AE ?_ (hp:=by exact⟨id,id,hg1,id,u6⟩);refine qY d (fun d hc1=> ?_) (fun d hc1=> ?_)
 .obtain⟨aJ,hw_27,d⟩:=xD d
  try simp only[go_sem] at hw_27
  refine rY AE ?_ (hp:=by exact⟨pW,pW,pW,pW,pW⟩) (h:=by simp only[go_sem,hw_27];rfl)
  refine s5 (qS ?_);obtain⟨aK,hv2,hw2,d⟩:=rH d
  try simp only[go_sem] at hw2
  refine qG AE ?_ (hp:=by exact⟨pW,pW,pW,pW,pW,(rG hv2)⟩) (h:=by simp only[go_sem,hw2];rfl)
  refine qG AE ?_;refine qR ?_;cases d;exact pI [(0,0),(1,1),(2,2),(3,3)]
 .refine qG AE ?_;refine qY d (fun d hc2=> ?_) (fun d hc2=> ?_)
  .obtain⟨aL,hw_29,d⟩:=xD d
   try simp only[go_sem] at hw_29
   refine rY AE ?_ (hp:=by exact⟨pW,pW,pW,pW,pW⟩) (h:=by simp only[go_sem,hw_29];rfl)
   refine s5 (qS ?_);obtain⟨aM,hv3,hw3,d⟩:=rH d
   try simp only[go_sem] at hw3
   refine qG AE ?_ (hp:=by exact⟨pW,pW,pW,pW,pW,(rG hv3)⟩) (h:=by simp only[go_sem,hw3];rfl)
   refine qG AE ?_;refine qR ?_;cases d;exact pI [(0,0),(1,1),(2,2),(3,3)]
  .refine qG AE ?_;refine qY d (fun d hc3=> ?_) (fun d hc3=> ?_)
   .obtain⟨aN,hw_31,d⟩:=xD d
    try simp only[go_sem] at hw_31
    refine rY AE ?_ (hp:=by exact⟨pW,pW,pW,pW,pW⟩) (h:=by simp only[go_sem,hw_31];rfl)
    refine s5 (qS ?_);obtain⟨aO,hv4,hw4,d⟩:=rH d
    try simp only[go_sem] at hw4
    refine qG AE ?_ (hp:=by exact⟨pW,pW,pW,pW,pW,(rG hv4)⟩) (h:=by simp only[go_sem,hw4];rfl)
    refine qG AE ?_;refine qR ?_;cases d;exact pI [(0,0),(1,1),(2,2),(3,3)]
   .refine rJ (s5 (qS ?_));obtain⟨aP,hv5,hw5,d⟩:=rH d
    try simp only[go_sem] at hw5
    refine qG AE ?_ (hp:=by exact⟨pW,pW,pW,pW,pW,(rG hv5)⟩) (h:=by simp only[go_sem,hw5];rfl)
    refine qG AE ?_;refine qR ?_;cases d;exact pI [(0,0),(1,1),(2,2),(3,3)]
def BA (O:(pG×(Int×Unit))) (Z:sP) (aA:Int) (aB:Int) (aC:sC) (aD:(pP×(Int×Unit))) (aE:Int) (aF:Bool) (aG:pN):Option (Int×Int×pG×Int×Int×Int×Int×Int):=if (((!decide (Z.1=aE))==false)=true→((JT Z.2.1)).isSome=true) then if ((!decide (Z.1=aE))||(!(val (JT Z.2.1))))=true then sH (vH O Z aA aB aC aD (3:Int) aG) fun aH=>(tP (O.1,(O.2.1,())) (Z.1,(Z.2.1,(Z.2.2.1,(Z.2.2.2.1,())))) aH.1 aH.2 (aC.1,(aC.2.1,(aC.2.2.1,(aC.2.2.2.1,())))) (aD.1,(aD.2.1,())) aG).bind fun aI=>some ((aI.1,aI.2.1,aI.2.2.1,aI.2.2.2.1,aI.2.2.2.2.1,aH.1,aH.2,aI.2.2.2.2.2)) else if false=true then sH (vH O Z aA aB aC aD (9:Int) aG) fun aJ=>(tP (O.1,(O.2.1,())) (Z.1,(Z.2.1,(Z.2.2.1,(Z.2.2.2.1,())))) aJ.1 aJ.2 (aC.1,(aC.2.1,(aC.2.2.1,(aC.2.2.2.1,())))) (aD.1,(aD.2.1,())) aG).bind fun aK=>some ((aK.1,aK.2.1,aK.2.2.1,aK.2.2.2.1,aK.2.2.2.2.1,aJ.1,aJ.2,aK.2.2.2.2.2)) else if aF=true then sH (vH O Z aA aB aC aD (6:Int) aG) fun aL=>(tP (O.1,(O.2.1,())) (Z.1,(Z.2.1,(Z.2.2.1,(Z.2.2.2.1,())))) aL.1 aL.2 (aC.1,(aC.2.1,(aC.2.2.1,(aC.2.2.2.1,())))) (aD.1,(aD.2.1,())) aG).bind fun aM=>some ((aM.1,aM.2.1,aM.2.2.1,aM.2.2.2.1,aM.2.2.2.2.1,aL.1,aL.2,aM.2.2.2.2.2)) else (tP O Z aA aB aC aD aG).bind fun aN=>some ((aN.1,aN.2.1,aN.2.2.1,aN.2.2.2.1,aN.2.2.2.2.1,aA,aB,aN.2.2.2.2.2)) else none
section
variable (O:Int) (Z:Bool) (aA:(pG×(Int×Unit))) (aB:sP) (aC:Int) (aD:Int) (aE:sC) (aF:(pP×(Int×Unit))) (aG:Nat) (aH:Nat) (aI:pN)
abbrev a7Z:List qI:=[(.val .ref (some (0,0)),none),(.val (.int .i64) O,none),(.val .clo (some (257,[])),none),(.val .clo (some (125,[])),none),(.val .bool Z,none)]
abbrev a71:List qH:=[.cells sJ (aA,(aB,(aC,(aD,(aE,((some 3),aF)))))) [(11,1),(13,2)],.grow 55 7 aG,.grow 3 1 aH,.map .str .bool aI]
@[go_sem] def a73:qQ:=⟨[aG=(aE.2.2.2.1.length),aH=(aF.1.length),((BA aA aB aC aD aE aF O Z aI)).isSome=true],[(.val .str aB.2.1,none)],[.cells sJ ((aA.1,((val (BA aA aB aC aD aE aF O Z aI)).1,())),(((val (BA aA aB aC aD aE aF O Z aI)).2.1,((val (BA aA aB aC aD aE aF O Z aI)).2.2.1,((val (BA aA aB aC aD aE aF O Z aI)).2.2.2.1,((val (BA aA aB aC aD aE aF O Z aI)).2.2.2.2.1,())))),((val (BA aA aB aC aD aE aF O Z aI)).2.2.2.2.2.1,((val (BA aA aB aC aD aE aF O Z aI)).2.2.2.2.2.2.1,((aE.1,(aE.2.1,(aE.2.2.1,(aE.2.2.2.1,())))),((some 3),(aF.1,((val (BA aA aB aC aD aE aF O Z aI)).2.2.2.2.2.2.2,())))))))) [(11,1),(13,2)],.grow 55 7 (aE.2.2.2.1.length),.grow 3 1 (aF.1.length),.map .str .bool aI]⟩
def aGV:List qI→List qH→Option qQ:=rT (V:=(Int×Bool×(pG×(Int×Unit))×sP×Int×Int×sC×(pP×(Int×Unit))×Nat×Nat×pN)) (fun x=>a7Z x.1 x.2.1) (fun x=>a71 x.2.2.1 x.2.2.2.1 x.2.2.2.2.1 x.2.2.2.2.2.1 x.2.2.2.2.2.2.1 x.2.2.2.2.2.2.2.1 x.2.2.2.2.2.2.2.2.1 x.2.2.2.2.2.2.2.2.2.1 x.2.2.2.2.2.2.2.2.2.2) fun x=>a73 x.1 x.2.1 x.2.2.1 x.2.2.2.1 x.2.2.2.2.1 x.2.2.2.2.2.1 x.2.2.2.2.2.2.1 x.2.2.2.2.2.2.2.1 x.2.2.2.2.2.2.2.2.1 x.2.2.2.2.2.2.2.2.2.1 x.2.2.2.2.2.2.2.2.2.2
@[go_sem] def aUO:aGV (no_index (a7Z O Z)) (no_index (a71 aA aB aC aD aE aF aG aH aI))=some (a73 O Z aA aB aC aD aE aF aG aH aI):=rV (fun⟨a0,a1,a2,a3,a4,a5,a6,a7,a8,a9,a10⟩ ⟨b0,b1,b2,b3,b4,b5,b6,b7,b8,b9,b10⟩ h1 h2=>by cases h1;cases h2;rfl) (O,Z,aA,aB,aC,aD,aE,aF,aG,aH,aI)
end
@[go_sem] abbrev a74:Nat×rI:=(124,⟨[.p sJ [11,13],.v,.v,.v,.v],aGV,[(0,12,.m)],[1,2,3],none⟩)
def AF:rL Tryz.prog [vP,sM,B4,yY] (rK [aFM,B6,zO,WP]):=⟨⟨w8,⟨sO,⟨CM,⟨AC,trivial⟩⟩⟩⟩,qU aN8 (qU GK (qU FP (qU a2M rX))),rM⟩
def aOB:rP Tryz.prog a74:=by
 refine rW AF Tryz.func124 (c:=_) rfl (N:=46) pX (ts:=[(10,none)]) rfl (fun _ _=>rfl) ?_;intro⟨O,Z,aA,aB,aC,aD,aE,aF,aG,aH,aI⟩ hs hrow;dsimp only[a7Z,a71,a73,rQ,qW,rF,rO,rS,Nat.reduceAdd] at hs hrow|-;obtain⟨rfl,rfl,hz⟩:=hs;obtain⟨z0,d⟩:=aVb.1 hz
 try rw[s9 d]
 clear hz;unfold BA at d;refine qG AF ?_;refine qG AF ?_;refine qZ (sA ?_);obtain⟨hg1,d⟩:=qP d;refine qG AF ?_ (hp:=by exact⟨id,id,hg1,id,u6⟩);refine qY d (fun d hc1=> ?_) (fun d hc1=> ?_)
 .obtain⟨aJ,hw_27,d⟩:=xD d
  try simp only[go_sem] at hw_27
  refine rY AF ?_ (hp:=by exact⟨pW,pW,pW,pW,pW⟩) (h:=by simp only[go_sem,hw_27];rfl)
  refine s5 (qS ?_);obtain⟨aK,hv2,hw2,d⟩:=rH d
  try simp only[go_sem] at hw2
  refine qG AF ?_ (hp:=by exact⟨pW,pW,pW,pW,pW,(rG hv2)⟩) (h:=by simp only[go_sem,hw2];rfl)
  refine qG AF ?_;refine qR ?_;cases d;exact pI [(0,0),(1,1),(2,2),(3,3)]
 .refine qG AF ?_;refine qY d (fun d hc2=> ?_) (fun d hc2=> ?_)
  .obtain⟨aL,hw_29,d⟩:=xD d
   try simp only[go_sem] at hw_29
   refine rY AF ?_ (hp:=by exact⟨pW,pW,pW,pW,pW⟩) (h:=by simp only[go_sem,hw_29];rfl)
   refine s5 (qS ?_);obtain⟨aM,hv3,hw3,d⟩:=rH d
   try simp only[go_sem] at hw3
   refine qG AF ?_ (hp:=by exact⟨pW,pW,pW,pW,pW,(rG hv3)⟩) (h:=by simp only[go_sem,hw3];rfl)
   refine qG AF ?_;refine qR ?_;cases d;exact pI [(0,0),(1,1),(2,2),(3,3)]
  .refine qG AF ?_;refine qY d (fun d hc3=> ?_) (fun d hc3=> ?_)
   .obtain⟨aN,hw_31,d⟩:=xD d
    try simp only[go_sem] at hw_31
    refine rY AF ?_ (hp:=by exact⟨pW,pW,pW,pW,pW⟩) (h:=by simp only[go_sem,hw_31];rfl)
    refine s5 (qS ?_);obtain⟨aO,hv4,hw4,d⟩:=rH d
    try simp only[go_sem] at hw4
    refine qG AF ?_ (hp:=by exact⟨pW,pW,pW,pW,pW,(rG hv4)⟩) (h:=by simp only[go_sem,hw4];rfl)
    refine qG AF ?_;refine qR ?_;cases d;exact pI [(0,0),(1,1),(2,2),(3,3)]
   .refine rJ (s5 (qS ?_));obtain⟨aP,hv5,hw5,d⟩:=rH d
    try simp only[go_sem] at hw5
    refine qG AF ?_ (hp:=by exact⟨pW,pW,pW,pW,pW,(rG hv5)⟩) (h:=by simp only[go_sem,hw5];rfl)
    refine qG AF ?_;refine qR ?_;cases d;exact pI [(0,0),(1,1),(2,2),(3,3)]
attribute [irreducible] B9 BA
end
noncomputable section
def CT (O:(pG×(Int×Unit))) (Z:sP) (aA:Int) (aB:Int) (aC:sC) (aD:(pP×(Int×Unit))) (aE:Int) (aF:Bool) (aG:pN) (aH:pG) (aI:pG) (aJ:pG) (aK:pH) (aL:(Int×((List r5)×Unit))) (aM:Bool) (aN:pH) (aO:pN):Option (Int×Int×pG×Int×Int×Int×Int×Int):=if (((!decide (Z.1=aE))==false)=true→((EF Z.2.1)).isSome=true) then if ((!decide (Z.1=aE))||(!(val (EF Z.2.1))))=true then sH (vH O Z aA aB aC aD (3:Int) aG) fun aP=>(tP (O.1,(O.2.1,())) (Z.1,(Z.2.1,(Z.2.2.1,(Z.2.2.2.1,())))) aP.1 aP.2 (aC.1,(aC.2.1,(aC.2.2.1,(aC.2.2.2.1,())))) (aD.1,(aD.2.1,())) aG).bind fun aQ=>some ((aQ.1,aQ.2.1,aQ.2.2.1,aQ.2.2.2.1,aQ.2.2.2.2.1,aP.1,aP.2,aQ.2.2.2.2.2)) else (OQ Z.2.1 aH aI aJ aK aL aM aN aO).bind fun aR=>if aR=true then sH (vH O Z aA aB aC aD (9:Int) aG) fun aS=>(tP (O.1,(O.2.1,())) (Z.1,(Z.2.1,(Z.2.2.1,(Z.2.2.2.1,())))) aS.1 aS.2 (aC.1,(aC.2.1,(aC.2.2.1,(aC.2.2.2.1,())))) (aD.1,(aD.2.1,())) aG).bind fun aT=>some ((aT.1,aT.2.1,aT.2.2.1,aT.2.2.2.1,aT.2.2.2.2.1,aS.1,aS.2,aT.2.2.2.2.2)) else if aF=true then sH (vH O Z aA aB aC aD (6:Int) aG) fun aU=>(tP (O.1,(O.2.1,())) (Z.1,(Z.2.1,(Z.2.2.1,(Z.2.2.2.1,())))) aU.1 aU.2 (aC.1,(aC.2.1,(aC.2.2.1,(aC.2.2.2.1,())))) (aD.1,(aD.2.1,())) aG).bind fun aV=>some ((aV.1,aV.2.1,aV.2.2.1,aV.2.2.2.1,aV.2.2.2.2.1,aU.1,aU.2,aV.2.2.2.2.2)) else (tP O Z aA aB aC aD aG).bind fun aW=>some ((aW.1,aW.2.1,aW.2.2.1,aW.2.2.2.1,aW.2.2.2.2.1,aA,aB,aW.2.2.2.2.2)) else none
section
variable (O:Int) (Z:Bool) (aA:(pG×(Int×Unit))) (aB:sP) (aC:Int) (aD:Int) (aE:sC) (aF:(pP×(Int×Unit))) (aG:Nat) (aH:Nat) (aI:pN) (aJ:pG) (aK:pG) (aL:pG) (aM:pH) (aN:Nat) (aO:(Int×((List r5)×Unit))) (aP:Bool) (aQ:Nat) (aR:Nat) (aS:pH) (aT:Nat) (aU:pN)
abbrev a77:List qI:=[(.val .ref (some (0,0)),none),(.val (.int .i64) O,none),(.val .clo (some (162,[])),none),(.val .clo (some (254,[(3,0)])),none),(.val .bool Z,none)]
abbrev a78:List qH:=[.cells sJ (aA,(aB,(aC,(aD,(aE,((some 4),aF)))))) [(11,1),(13,2)],.grow 55 7 aG,.grow 3 1 aH,.cells .ref (some (5,0)) [],.map .str .bool aI,.cells u7 ((aJ,(aK,(aL,(aM,((some (8,aN)),aO))))),(aP,((some 9),()))) [(3,6),(6,7)],.grow 9 1 aQ,.grow 149 2 aR,.row 9 .str aS aT,.map .str .bool aU]
@[go_sem] def a79:qQ:=⟨[aG=(aE.2.2.2.1.length),aH=(aF.1.length),aQ=(aM.length),aR=(aO.2.1.length),aN=aT,((CT aA aB aC aD aE aF O Z aI aJ aK aL aM aO aP aS aU)).isSome=true],[(.val .str aB.2.1,none)],[.cells sJ ((aA.1,((val (CT aA aB aC aD aE aF O Z aI aJ aK aL aM aO aP aS aU)).1,())),(((val (CT aA aB aC aD aE aF O Z aI aJ aK aL aM aO aP aS aU)).2.1,((val (CT aA aB aC aD aE aF O Z aI aJ aK aL aM aO aP aS aU)).2.2.1,((val (CT aA aB aC aD aE aF O Z aI aJ aK aL aM aO aP aS aU)).2.2.2.1,((val (CT aA aB aC aD aE aF O Z aI aJ aK aL aM aO aP aS aU)).2.2.2.2.1,())))),((val (CT aA aB aC aD aE aF O Z aI aJ aK aL aM aO aP aS aU)).2.2.2.2.2.1,((val (CT aA aB aC aD aE aF O Z aI aJ aK aL aM aO aP aS aU)).2.2.2.2.2.2.1,((aE.1,(aE.2.1,(aE.2.2.1,(aE.2.2.2.1,())))),((some 4),(aF.1,((val (CT aA aB aC aD aE aF O Z aI aJ aK aL aM aO aP aS aU)).2.2.2.2.2.2.2,())))))))) [(11,1),(13,2)],.grow 55 7 (aE.2.2.2.1.length),.grow 3 1 (aF.1.length),.cells .ref (some (5,0)) [],.map .str .bool aI,.cells u7 ((aJ,(aK,(aL,(aM,((some (8,(aS.length))),(aO.1,(aO.2.1,()))))))),(aP,((some 9),()))) [(3,6),(6,7)],.grow 9 1 (aM.length),.grow 149 2 (aO.2.1.length),.row 9 .str aS (aS.length),.map .str .bool aU]⟩
def aGW:List qI→List qH→Option qQ:=rT (V:=(Int×Bool×(pG×(Int×Unit))×sP×Int×Int×sC×(pP×(Int×Unit))×Nat×Nat×pN×pG×pG×pG×pH×Nat×(Int×((List r5)×Unit))×Bool×Nat×Nat×pH×Nat×pN)) (fun x=>a77 x.1 x.2.1) (fun x=>a78 x.2.2.1 x.2.2.2.1 x.2.2.2.2.1 x.2.2.2.2.2.1 x.2.2.2.2.2.2.1 x.2.2.2.2.2.2.2.1 x.2.2.2.2.2.2.2.2.1 x.2.2.2.2.2.2.2.2.2.1 x.2.2.2.2.2.2.2.2.2.2.1 x.2.2.2.2.2.2.2.2.2.2.2.1 x.2.2.2.2.2.2.2.2.2.2.2.2.1 x.2.2.2.2.2.2.2.2.2.2.2.2.2.1 x.2.2.2.2.2.2.2.2.2.2.2.2.2.2.1 x.2.2.2.2.2.2.2.2.2.2.2.2.2.2.2.1 x.2.2.2.2.2.2.2.2.2.2.2.2.2.2.2.2.1 x.2.2.2.2.2.2.2.2.2.2.2.2.2.2.2.2.2.1 x.2.2.2.2.2.2.2.2.2.2.2.2.2.2.2.2.2.2.1 x.2.2.2.2.2.2.2.2.2.2.2.2.2.2.2.2.2.2.2.1 x.2.2.2.2.2.2.2.2.2.2.2.2.2.2.2.2.2.2.2.2.1 x.2.2.2.2.2.2.2.2.2.2.2.2.2.2.2.2.2.2.2.2.2.1 x.2.2.2.2.2.2.2.2.2.2.2.2.2.2.2.2.2.2.2.2.2.2) fun x=>a79 x.1 x.2.1 x.2.2.1 x.2.2.2.1 x.2.2.2.2.1 x.2.2.2.2.2.1 x.2.2.2.2.2.2.1 x.2.2.2.2.2.2.2.1 x.2.2.2.2.2.2.2.2.1 x.2.2.2.2.2.2.2.2.2.1 x.2.2.2.2.2.2.2.2.2.2.1 x.2.2.2.2.2.2.2.2.2.2.2.1 x.2.2.2.2.2.2.2.2.2.2.2.2.1 x.2.2.2.2.2.2.2.2.2.2.2.2.2.1 x.2.2.2.2.2.2.2.2.2.2.2.2.2.2.1 x.2.2.2.2.2.2.2.2.2.2.2.2.2.2.2.1 x.2.2.2.2.2.2.2.2.2.2.2.2.2.2.2.2.1 x.2.2.2.2.2.2.2.2.2.2.2.2.2.2.2.2.2.1 x.2.2.2.2.2.2.2.2.2.2.2.2.2.2.2.2.2.2.1 x.2.2.2.2.2.2.2.2.2.2.2.2.2.2.2.2.2.2.2.1 x.2.2.2.2.2.2.2.2.2.2.2.2.2.2.2.2.2.2.2.2.1 x.2.2.2.2.2.2.2.2.2.2.2.2.2.2.2.2.2.2.2.2.2.1 x.2.2.2.2.2.2.2.2.2.2.2.2.2.2.2.2.2.2.2.2.2.2
@[go_sem] def aUP:aGW (no_index (a77 O Z)) (no_index (a78 aA aB aC aD aE aF aG aH aI aJ aK aL aM aN aO aP aQ aR aS aT aU))=some (a79 O Z aA aB aC aD aE aF aG aH aI aJ aK aL aM aN aO aP aQ aR aS aT aU):=rV (fun⟨a0,a1,a2,a3,a4,a5,a6,a7,a8,a9,a10,a11,a12,a13,a14,a15,a16,a17,a18,a19,a20,a21,a22⟩ ⟨b0,b1,b2,b3,b4,b5,b6,b7,b8,b9,b10,b11,b12,b13,b14,tD,b16,b17,b18,b19,b20,b21,b22⟩ h1 h2=>by cases h1;cases h2;rfl) (O,Z,aA,aB,aC,aD,aE,aF,aG,aH,aI,aJ,aK,aL,aM,aN,aO,aP,aQ,aR,aS,aT,aU)
end
@[go_sem] abbrev a8a:Nat×rI:=(124,⟨[.p sJ [11,13],.v,.v,.f [(.ref,[])],.v],aGW,[(0,12,.m),(3,0,.p u7 [3,6]),(5,4,.r),(5,8,.m)],[1,2,3,4,5,6,7,8,9],none⟩)
def aGX:rL Tryz.prog [] (rK [LP,B6,zO,a6w]):=⟨trivial,qU WW (qU GK (qU FP (qU aOj rX))),rM⟩
def BB:rL Tryz.prog [vP,sM,B4,yY] (rK [LP,B6,zO,a6w]):=⟨⟨w8,⟨sO,⟨CM,⟨AC,trivial⟩⟩⟩⟩,aGX.Γ,rM⟩
def aOC:rP Tryz.prog a8a:=by
 refine rW aGX Tryz.func124 (c:=_) rfl (N:=46) pX (ts:=[(10,none)]) rfl (fun _ _=>rfl) ?_;intro⟨O,Z,aA,aB,aC,aD,aE,aF,aG,aH,aI,aJ,aK,aL,aM,aN,aO,aP,aQ,aR,aS,aT,aU⟩ hs hrow;dsimp only[a77,a78,a79,rQ,qW,rF,rO,rS,Nat.reduceAdd] at hs hrow|-;obtain⟨rfl,rfl,rfl,rfl,rfl,hz⟩:=hs;obtain⟨rfl,_⟩:=hrow;obtain⟨z0,d⟩:=aVb.1 hz
 try rw[s9 d]
 clear hz;unfold CT at d;refine qG BB ?_;refine qG BB ?_;refine qZ (sA ?_);obtain⟨hg1,d⟩:=qP d;refine qG BB ?_ (hp:=by exact⟨id,id,hg1,id,u6⟩);refine qY d (fun d hc1=> ?_) (fun d hc1=> ?_)
 .obtain⟨aV,hw_40,d⟩:=xD d
  try simp only[go_sem] at hw_40
  refine rY BB ?_ (hp:=by exact⟨pW,pW,pW,pW,pW⟩) (h:=by simp only[go_sem,hw_40];rfl)
  refine s5 (qS ?_);obtain⟨aW,hv2,hw2,d⟩:=rH d
  try simp only[go_sem] at hw2
  refine qG BB ?_ (hp:=by exact⟨pW,pW,pW,pW,pW,(rG hv2)⟩) (h:=by simp only[go_sem,hw2];rfl)
  refine qG BB ?_;refine qR ?_;cases d;exact pI [(0,0),(1,1),(2,2),(3,3),(4,4),(5,5),(6,6),(7,7),(8,8),(9,9)]
 .obtain⟨aX,hv3,hw3,d⟩:=rH d
  try simp only[go_sem] at hw3
  refine qG BB ?_ (hp:=by exact⟨pW,pW,pW,pW,pW,pW,pW,pW,pW,(rG hv3)⟩) (h:=by simp only[go_sem,hw3];rfl)
  refine qY d (fun d hc2=> ?_) (fun d hc2=> ?_)
  .obtain⟨aY,hw_43,d⟩:=xD d
   try simp only[go_sem] at hw_43
   refine rY BB ?_ (hp:=by exact⟨pW,pW,pW,pW,pW⟩) (h:=by simp only[go_sem,hw_43];rfl)
   refine s5 (qS ?_);obtain⟨aZ,hv4,hw4,d⟩:=rH d
   try simp only[go_sem] at hw4
   refine qG BB ?_ (hp:=by exact⟨pW,pW,pW,pW,pW,(rG hv4)⟩) (h:=by simp only[go_sem,hw4];rfl)
   refine qG BB ?_;refine qR ?_;cases d;exact pI [(0,0),(1,1),(2,2),(3,3),(4,4),(5,5),(6,6),(7,7),(8,8),(9,9)]
  .refine qG BB ?_;refine qY d (fun d hc3=> ?_) (fun d hc3=> ?_)
   .obtain⟨bA,hw_45,d⟩:=xD d
    try simp only[go_sem] at hw_45
    refine rY BB ?_ (hp:=by exact⟨pW,pW,pW,pW,pW⟩) (h:=by simp only[go_sem,hw_45];rfl)
    refine s5 (qS ?_);obtain⟨bB,hv5,hw5,d⟩:=rH d
    try simp only[go_sem] at hw5
    refine qG BB ?_ (hp:=by exact⟨pW,pW,pW,pW,pW,(rG hv5)⟩) (h:=by simp only[go_sem,hw5];rfl)
    refine qG BB ?_;refine qR ?_;cases d;exact pI [(0,0),(1,1),(2,2),(3,3),(4,4),(5,5),(6,6),(7,7),(8,8),(9,9)]
   .refine rJ (s5 (qS ?_));obtain⟨bC,hv6,hw6,d⟩:=rH d
    try simp only[go_sem] at hw6
    refine qG BB ?_ (hp:=by exact⟨pW,pW,pW,pW,pW,(rG hv6)⟩) (h:=by simp only[go_sem,hw6];rfl)
    refine qG BB ?_;refine qR ?_;cases d;exact pI [(0,0),(1,1),(2,2),(3,3),(4,4),(5,5),(6,6),(7,7),(8,8),(9,9)]
def CU (O:HT):Option (Int×Int×Int×pG×pH×(List r5)×pP):=(vY O (2:Int) ([99,97,116,97,108,111,103]:pG)).bind fun Z=>(vY (O.1,(Z.1,(Z.2.1,(Z.2.2.1,((O.2.2.2.2.1.1,(O.2.2.2.2.1.2.1,(O.2.2.2.2.1.2.2.1,(O.2.2.2.2.1.2.2.2.1,())))),(O.2.2.2.2.2.1,())))))) (1:Int) ([]:pG)).bind fun aA=>if (((decide (aA.2.2.1=(0:Int)))==true)=true→((I6 aA.2.2.2.2.1)).isSome=true) then sB (σ:=(Int×Int)) (if ((decide (aA.2.2.1=(0:Int)))&&(!(val (I6 aA.2.2.2.2.1))))=true then sH (z7 (O.1,(aA.1,(aA.2.1,(aA.2.2.1,((O.2.2.2.2.1.1,(O.2.2.2.2.1.2.1,(O.2.2.2.2.1.2.2.1,(O.2.2.2.2.1.2.2.2.1,())))),(O.2.2.2.2.2.1,())))))) (aA.2.2.2.1,(aA.2.2.2.2.1,(aA.2.2.2.2.2.1,(aA.2.2.2.2.2.2,())))) (3:Int)) fun aB=>some ((aB.1,aB.2)) else some ((aA.2.1,aA.2.2.1)) ) fun(aC,aD)=>(vC (O.1,(aA.1,(aC,(aD,((O.2.2.2.2.1.1,(O.2.2.2.2.1.2.1,(O.2.2.2.2.1.2.2.1,(O.2.2.2.2.1.2.2.2.1,())))),(O.2.2.2.2.2.1,())))))) (([]:pG),(([]:pG),(([]:pG),(([]:pH),(([]:pH),((0:Int),(([]:List r5),()))))))) true).bind fun aE=>some ((aE.1,aE.2.1,aE.2.2.1,aA.2.2.2.2.1,aE.2.2.2.2.2.2.1,aE.2.2.2.2.2.2.2.2.2,aE.2.2.2.1)) else none
attribute [irreducible] CT CU
end
noncomputable section
def CV (O:(pG×(Int×Unit))) (Z:sP) (aA:Int) (aB:Int) (aC:sC) (aD:(pP×(Int×Unit))) (aE:Int) (aF:Bool) (aG:pN) (aH:pG) (aI:pG) (aJ:pG) (aK:pH) (aL:(Int×((List r5)×Unit))) (aM:Bool) (aN:pH) (aO:pN):Option (Int×Int×pG×Int×Int×Int×Int×Int):=if (((!decide (Z.1=aE))==false)=true→((EF Z.2.1)).isSome=true) then if ((!decide (Z.1=aE))||(!(val (EF Z.2.1))))=true then sH (vH O Z aA aB aC aD (3:Int) aG) fun aP=>(tP (O.1,(O.2.1,())) (Z.1,(Z.2.1,(Z.2.2.1,(Z.2.2.2.1,())))) aP.1 aP.2 (aC.1,(aC.2.1,(aC.2.2.1,(aC.2.2.2.1,())))) (aD.1,(aD.2.1,())) aG).bind fun aQ=>some ((aQ.1,aQ.2.1,aQ.2.2.1,aQ.2.2.2.1,aQ.2.2.2.2.1,aP.1,aP.2,aQ.2.2.2.2.2)) else (OO Z.2.1 aH aI aJ aK aL aM aN aO).bind fun aR=>if aR=true then sH (vH O Z aA aB aC aD (9:Int) aG) fun aS=>(tP (O.1,(O.2.1,())) (Z.1,(Z.2.1,(Z.2.2.1,(Z.2.2.2.1,())))) aS.1 aS.2 (aC.1,(aC.2.1,(aC.2.2.1,(aC.2.2.2.1,())))) (aD.1,(aD.2.1,())) aG).bind fun aT=>some ((aT.1,aT.2.1,aT.2.2.1,aT.2.2.2.1,aT.2.2.2.2.1,aS.1,aS.2,aT.2.2.2.2.2)) else if aF=true then sH (vH O Z aA aB aC aD (6:Int) aG) fun aU=>(tP (O.1,(O.2.1,())) (Z.1,(Z.2.1,(Z.2.2.1,(Z.2.2.2.1,())))) aU.1 aU.2 (aC.1,(aC.2.1,(aC.2.2.1,(aC.2.2.2.1,())))) (aD.1,(aD.2.1,())) aG).bind fun aV=>some ((aV.1,aV.2.1,aV.2.2.1,aV.2.2.2.1,aV.2.2.2.2.1,aU.1,aU.2,aV.2.2.2.2.2)) else (tP O Z aA aB aC aD aG).bind fun aW=>some ((aW.1,aW.2.1,aW.2.2.1,aW.2.2.2.1,aW.2.2.2.2.1,aA,aB,aW.2.2.2.2.2)) else none
section
variable (O:Int) (Z:Bool) (aA:(pG×(Int×Unit))) (aB:sP) (aC:Int) (aD:Int) (aE:sC) (aF:(pP×(Int×Unit))) (aG:Nat) (aH:Nat) (aI:pN) (aJ:pG) (aK:pG) (aL:pG) (aM:pH) (aN:Nat) (aO:(Int×((List r5)×Unit))) (aP:Bool) (aQ:Nat) (aR:Nat) (aS:pH) (aT:Nat) (aU:pN)
abbrev a8b:List qI:=[(.val .ref (some (0,0)),none),(.val (.int .i64) O,none),(.val .clo (some (162,[])),none),(.val .clo (some (258,[(3,0)])),none),(.val .bool Z,none)]
abbrev a8c:List qH:=[.cells sJ (aA,(aB,(aC,(aD,(aE,((some 4),aF)))))) [(11,1),(13,2)],.grow 55 7 aG,.grow 3 1 aH,.cells .ref (some (5,0)) [],.map .str .bool aI,.cells u7 ((aJ,(aK,(aL,(aM,((some (8,aN)),aO))))),(aP,((some 9),()))) [(3,6),(6,7)],.grow 9 1 aQ,.grow 149 2 aR,.row 9 .str aS aT,.map .str .bool aU]
@[go_sem] def a8d:qQ:=⟨[aG=(aE.2.2.2.1.length),aH=(aF.1.length),aQ=(aM.length),aR=(aO.2.1.length),aN=aT,((CV aA aB aC aD aE aF O Z aI aJ aK aL aM aO aP aS aU)).isSome=true],[(.val .str aB.2.1,none)],[.cells sJ ((aA.1,((val (CV aA aB aC aD aE aF O Z aI aJ aK aL aM aO aP aS aU)).1,())),(((val (CV aA aB aC aD aE aF O Z aI aJ aK aL aM aO aP aS aU)).2.1,((val (CV aA aB aC aD aE aF O Z aI aJ aK aL aM aO aP aS aU)).2.2.1,((val (CV aA aB aC aD aE aF O Z aI aJ aK aL aM aO aP aS aU)).2.2.2.1,((val (CV aA aB aC aD aE aF O Z aI aJ aK aL aM aO aP aS aU)).2.2.2.2.1,())))),((val (CV aA aB aC aD aE aF O Z aI aJ aK aL aM aO aP aS aU)).2.2.2.2.2.1,((val (CV aA aB aC aD aE aF O Z aI aJ aK aL aM aO aP aS aU)).2.2.2.2.2.2.1,((aE.1,(aE.2.1,(aE.2.2.1,(aE.2.2.2.1,())))),((some 4),(aF.1,((val (CV aA aB aC aD aE aF O Z aI aJ aK aL aM aO aP aS aU)).2.2.2.2.2.2.2,())))))))) [(11,1),(13,2)],.grow 55 7 (aE.2.2.2.1.length),.grow 3 1 (aF.1.length),.cells .ref (some (5,0)) [],.map .str .bool aI,.cells u7 ((aJ,(aK,(aL,(aM,((some (8,(aS.length))),(aO.1,(aO.2.1,()))))))),(aP,((some 9),()))) [(3,6),(6,7)],.grow 9 1 (aM.length),.grow 149 2 (aO.2.1.length),.row 9 .str aS (aS.length),.map .str .bool aU]⟩
def aGY:List qI→List qH→Option qQ:=rT (V:=(Int×Bool×(pG×(Int×Unit))×sP×Int×Int×sC×(pP×(Int×Unit))×Nat×Nat×pN×pG×pG×pG×pH×Nat×(Int×((List r5)×Unit))×Bool×Nat×Nat×pH×Nat×pN)) (fun x=>a8b x.1 x.2.1) (fun x=>a8c x.2.2.1 x.2.2.2.1 x.2.2.2.2.1 x.2.2.2.2.2.1 x.2.2.2.2.2.2.1 x.2.2.2.2.2.2.2.1 x.2.2.2.2.2.2.2.2.1 x.2.2.2.2.2.2.2.2.2.1 x.2.2.2.2.2.2.2.2.2.2.1 x.2.2.2.2.2.2.2.2.2.2.2.1 x.2.2.2.2.2.2.2.2.2.2.2.2.1 x.2.2.2.2.2.2.2.2.2.2.2.2.2.1 x.2.2.2.2.2.2.2.2.2.2.2.2.2.2.1 x.2.2.2.2.2.2.2.2.2.2.2.2.2.2.2.1 x.2.2.2.2.2.2.2.2.2.2.2.2.2.2.2.2.1 x.2.2.2.2.2.2.2.2.2.2.2.2.2.2.2.2.2.1 x.2.2.2.2.2.2.2.2.2.2.2.2.2.2.2.2.2.2.1 x.2.2.2.2.2.2.2.2.2.2.2.2.2.2.2.2.2.2.2.1 x.2.2.2.2.2.2.2.2.2.2.2.2.2.2.2.2.2.2.2.2.1 x.2.2.2.2.2.2.2.2.2.2.2.2.2.2.2.2.2.2.2.2.2.1 x.2.2.2.2.2.2.2.2.2.2.2.2.2.2.2.2.2.2.2.2.2.2) fun x=>a8d x.1 x.2.1 x.2.2.1 x.2.2.2.1 x.2.2.2.2.1 x.2.2.2.2.2.1 x.2.2.2.2.2.2.1 x.2.2.2.2.2.2.2.1 x.2.2.2.2.2.2.2.2.1 x.2.2.2.2.2.2.2.2.2.1 x.2.2.2.2.2.2.2.2.2.2.1 x.2.2.2.2.2.2.2.2.2.2.2.1 x.2.2.2.2.2.2.2.2.2.2.2.2.1 x.2.2.2.2.2.2.2.2.2.2.2.2.2.1 x.2.2.2.2.2.2.2.2.2.2.2.2.2.2.1 x.2.2.2.2.2.2.2.2.2.2.2.2.2.2.2.1 x.2.2.2.2.2.2.2.2.2.2.2.2.2.2.2.2.1 x.2.2.2.2.2.2.2.2.2.2.2.2.2.2.2.2.2.1 x.2.2.2.2.2.2.2.2.2.2.2.2.2.2.2.2.2.2.1 x.2.2.2.2.2.2.2.2.2.2.2.2.2.2.2.2.2.2.2.1 x.2.2.2.2.2.2.2.2.2.2.2.2.2.2.2.2.2.2.2.2.1 x.2.2.2.2.2.2.2.2.2.2.2.2.2.2.2.2.2.2.2.2.2.1 x.2.2.2.2.2.2.2.2.2.2.2.2.2.2.2.2.2.2.2.2.2.2
@[go_sem] def aUQ:aGY (no_index (a8b O Z)) (no_index (a8c aA aB aC aD aE aF aG aH aI aJ aK aL aM aN aO aP aQ aR aS aT aU))=some (a8d O Z aA aB aC aD aE aF aG aH aI aJ aK aL aM aN aO aP aQ aR aS aT aU):=rV (fun⟨a0,a1,a2,a3,a4,a5,a6,a7,a8,a9,a10,a11,a12,a13,a14,a15,a16,a17,a18,a19,a20,a21,a22⟩ ⟨b0,b1,b2,b3,b4,b5,b6,b7,b8,b9,b10,b11,b12,b13,b14,tD,b16,b17,b18,b19,b20,b21,b22⟩ h1 h2=>by cases h1;cases h2;rfl) (O,Z,aA,aB,aC,aD,aE,aF,aG,aH,aI,aJ,aK,aL,aM,aN,aO,aP,aQ,aR,aS,aT,aU)
end
@[go_sem] abbrev a8e:Nat×rI:=(124,⟨[.p sJ [11,13],.v,.v,.f [(.ref,[])],.v],aGY,[(0,12,.m),(3,0,.p u7 [3,6]),(5,4,.r),(5,8,.m)],[1,2,3,4,5,6,7,8,9],none⟩)
def aGZ:rL Tryz.prog [] (rK [LP,B6,zO,a5Q]):=⟨trivial,qU WW (qU GK (qU FP (qU aN9 rX))),rM⟩
def BC:rL Tryz.prog [vP,sM,B4,yY] (rK [LP,B6,zO,a5Q]):=⟨⟨w8,⟨sO,⟨CM,⟨AC,trivial⟩⟩⟩⟩,aGZ.Γ,rM⟩
def aOD:rP Tryz.prog a8e:=by
 refine rW aGZ Tryz.func124 (c:=_) rfl (N:=46) pX (ts:=[(10,none)]) rfl (fun _ _=>rfl) ?_;intro⟨O,Z,aA,aB,aC,aD,aE,aF,aG,aH,aI,aJ,aK,aL,aM,aN,aO,aP,aQ,aR,aS,aT,aU⟩ hs hrow;dsimp only[a8b,a8c,a8d,rQ,qW,rF,rO,rS,Nat.reduceAdd] at hs hrow|-;obtain⟨rfl,rfl,rfl,rfl,rfl,hz⟩:=hs;obtain⟨rfl,_⟩:=hrow;obtain⟨z0,d⟩:=aVb.1 hz
 try rw[s9 d]
 clear hz;unfold CV at d;refine qG BC ?_;refine qG BC ?_;refine qZ (sA ?_);obtain⟨hg1,d⟩:=qP d;refine qG BC ?_ (hp:=by exact⟨id,id,hg1,id,u6⟩);refine qY d (fun d hc1=> ?_) (fun d hc1=> ?_)
 .obtain⟨aV,hw_40,d⟩:=xD d
  try simp only[go_sem] at hw_40
  refine rY BC ?_ (hp:=by exact⟨pW,pW,pW,pW,pW⟩) (h:=by simp only[go_sem,hw_40];rfl)
  refine s5 (qS ?_);obtain⟨aW,hv2,hw2,d⟩:=rH d
  try simp only[go_sem] at hw2
  refine qG BC ?_ (hp:=by exact⟨pW,pW,pW,pW,pW,(rG hv2)⟩) (h:=by simp only[go_sem,hw2];rfl)
  refine qG BC ?_;refine qR ?_;cases d;exact pI [(0,0),(1,1),(2,2),(3,3),(4,4),(5,5),(6,6),(7,7),(8,8),(9,9)]
 .obtain⟨aX,hv3,hw3,d⟩:=rH d
  try simp only[go_sem] at hw3
  refine qG BC ?_ (hp:=by exact⟨pW,pW,pW,pW,pW,pW,pW,pW,pW,(rG hv3)⟩) (h:=by simp only[go_sem,hw3];rfl)
  refine qY d (fun d hc2=> ?_) (fun d hc2=> ?_)
  .obtain⟨aY,hw_43,d⟩:=xD d
   try simp only[go_sem] at hw_43
   refine rY BC ?_ (hp:=by exact⟨pW,pW,pW,pW,pW⟩) (h:=by simp only[go_sem,hw_43];rfl)
   refine s5 (qS ?_);obtain⟨aZ,hv4,hw4,d⟩:=rH d
   try simp only[go_sem] at hw4
   refine qG BC ?_ (hp:=by exact⟨pW,pW,pW,pW,pW,(rG hv4)⟩) (h:=by simp only[go_sem,hw4];rfl)
   refine qG BC ?_;refine qR ?_;cases d;exact pI [(0,0),(1,1),(2,2),(3,3),(4,4),(5,5),(6,6),(7,7),(8,8),(9,9)]
  .refine qG BC ?_;refine qY d (fun d hc3=> ?_) (fun d hc3=> ?_)
   .obtain⟨bA,hw_45,d⟩:=xD d
    try simp only[go_sem] at hw_45
    refine rY BC ?_ (hp:=by exact⟨pW,pW,pW,pW,pW⟩) (h:=by simp only[go_sem,hw_45];rfl)
    refine s5 (qS ?_);obtain⟨bB,hv5,hw5,d⟩:=rH d
    try simp only[go_sem] at hw5
    refine qG BC ?_ (hp:=by exact⟨pW,pW,pW,pW,pW,(rG hv5)⟩) (h:=by simp only[go_sem,hw5];rfl)
    refine qG BC ?_;refine qR ?_;cases d;exact pI [(0,0),(1,1),(2,2),(3,3),(4,4),(5,5),(6,6),(7,7),(8,8),(9,9)]
   .refine rJ (s5 (qS ?_));obtain⟨bC,hv6,hw6,d⟩:=rH d
    try simp only[go_sem] at hw6
    refine qG BC ?_ (hp:=by exact⟨pW,pW,pW,pW,pW,(rG hv6)⟩) (h:=by simp only[go_sem,hw6];rfl)
    refine qG BC ?_;refine qR ?_;cases d;exact pI [(0,0),(1,1),(2,2),(3,3),(4,4),(5,5),(6,6),(7,7),(8,8),(9,9)]
def z8 (O:(pG×(Int×Unit))) (Z:sP) (aA:Int) (aB:Int) (aC:sC) (aD:(pP×(Int×Unit))) (aE:Int) (aF:pG) (aG:pN):Option (Int×Int×pG×Int×Int×Int×Int×Int):=if (!(((decide (aB=(0:Int)))&&(decide (Z.1=aE)))&&(decide (Z.2.1=aF))))=true then sH (vH O Z aA aB aC aD (3:Int) aG) fun aH=>(tP (O.1,(O.2.1,())) (Z.1,(Z.2.1,(Z.2.2.1,(Z.2.2.2.1,())))) aH.1 aH.2 (aC.1,(aC.2.1,(aC.2.2.1,(aC.2.2.2.1,())))) (aD.1,(aD.2.1,())) aG).bind fun aI=>some ((aI.1,aI.2.1,aI.2.2.1,aI.2.2.2.1,aI.2.2.2.2.1,aH.1,aH.2,aI.2.2.2.2.2)) else (tP O Z aA aB aC aD aG).bind fun aJ=>some ((aJ.1,aJ.2.1,aJ.2.2.1,aJ.2.2.2.1,aJ.2.2.2.2.1,aA,aB,aJ.2.2.2.2.2))
section
variable (O:Int) (Z:pG) (aA:(pG×(Int×Unit))) (aB:sP) (aC:Int) (aD:Int) (aE:sC) (aF:(pP×(Int×Unit))) (aG:Nat) (aH:Nat) (aI:pN)
abbrev a8f:List qI:=[(.val .ref (some (0,0)),none),(.val (.int .i64) O,none),(.val .str Z,none)]
abbrev a8g:List qH:=[.cells sJ (aA,(aB,(aC,(aD,(aE,((some 3),aF)))))) [(11,1),(13,2)],.grow 55 7 aG,.grow 3 1 aH,.map .str .bool aI]
@[go_sem] def a8h:qQ:=⟨[aG=(aE.2.2.2.1.length),aH=(aF.1.length),((z8 aA aB aC aD aE aF O Z aI)).isSome=true],[],[.cells sJ ((aA.1,((val (z8 aA aB aC aD aE aF O Z aI)).1,())),(((val (z8 aA aB aC aD aE aF O Z aI)).2.1,((val (z8 aA aB aC aD aE aF O Z aI)).2.2.1,((val (z8 aA aB aC aD aE aF O Z aI)).2.2.2.1,((val (z8 aA aB aC aD aE aF O Z aI)).2.2.2.2.1,())))),((val (z8 aA aB aC aD aE aF O Z aI)).2.2.2.2.2.1,((val (z8 aA aB aC aD aE aF O Z aI)).2.2.2.2.2.2.1,((aE.1,(aE.2.1,(aE.2.2.1,(aE.2.2.2.1,())))),((some 3),(aF.1,((val (z8 aA aB aC aD aE aF O Z aI)).2.2.2.2.2.2.2,())))))))) [(11,1),(13,2)],.grow 55 7 (aE.2.2.2.1.length),.grow 3 1 (aF.1.length),.map .str .bool aI]⟩
def aG0:List qI→List qH→Option qQ:=rT (V:=(Int×pG×(pG×(Int×Unit))×sP×Int×Int×sC×(pP×(Int×Unit))×Nat×Nat×pN)) (fun x=>a8f x.1 x.2.1) (fun x=>a8g x.2.2.1 x.2.2.2.1 x.2.2.2.2.1 x.2.2.2.2.2.1 x.2.2.2.2.2.2.1 x.2.2.2.2.2.2.2.1 x.2.2.2.2.2.2.2.2.1 x.2.2.2.2.2.2.2.2.2.1 x.2.2.2.2.2.2.2.2.2.2) fun x=>a8h x.1 x.2.1 x.2.2.1 x.2.2.2.1 x.2.2.2.2.1 x.2.2.2.2.2.1 x.2.2.2.2.2.2.1 x.2.2.2.2.2.2.2.1 x.2.2.2.2.2.2.2.2.1 x.2.2.2.2.2.2.2.2.2.1 x.2.2.2.2.2.2.2.2.2.2
@[go_sem] def aUR:aG0 (no_index (a8f O Z)) (no_index (a8g aA aB aC aD aE aF aG aH aI))=some (a8h O Z aA aB aC aD aE aF aG aH aI):=rV (fun⟨a0,a1,a2,a3,a4,a5,a6,a7,a8,a9,a10⟩ ⟨b0,b1,b2,b3,b4,b5,b6,b7,b8,b9,b10⟩ h1 h2=>by cases h1;cases h2;rfl) (O,Z,aA,aB,aC,aD,aE,aF,aG,aH,aI)
end
@[go_sem] abbrev SM:Nat×rI:=(123,⟨[.p sJ [11,13],.v,.v],aG0,[(0,12,.m)],[1,2,3],none⟩)
def SN:rL Tryz.prog [] (rK [aEs,B6,zO]):=⟨trivial,qU aNE (qU GK (qU FP rX)),rM⟩
def a8i:rP Tryz.prog SM:=by
 refine rW SN Tryz.func123 (c:=_) rfl (N:=15) pX (ts:=[]) rfl (fun _ _=>rfl) ?_;intro⟨O,Z,aA,aB,aC,aD,aE,aF,aG,aH,aI⟩ hs hrow;dsimp only[a8f,a8g,a8h,rQ,qW,rF,rO,rS,Nat.reduceAdd] at hs hrow|-;obtain⟨rfl,rfl,hz⟩:=hs;obtain⟨z0,d⟩:=aVb.1 hz
 try rw[s9 d]
 clear hz;unfold z8 at d;refine qZ ?_;refine qG SN ?_ (hp:=by exact⟨pW,pW,pW,pW,pW,pW⟩)
 refine qY d (fun d hc1=> ?_) (fun d hc1=> ?_)
 .obtain⟨aJ,hw_23,d⟩:=xD d
  try simp only[go_sem] at hw_23
  refine rY SN ?_ (hp:=by exact⟨pW,pW,pW,pW,pW⟩) (h:=by simp only[go_sem,hw_23];rfl)
  refine qS ?_;obtain⟨aK,hv1,hw1,d⟩:=rH d
  try simp only[go_sem] at hw1
  refine rY SN ?_ (hp:=by exact⟨pW,pW,pW,pW,pW,(rG hv1)⟩) (h:=by simp only[go_sem,hw1];rfl)
  cases d;exact pI [(0,0),(1,1),(2,2),(3,3)]
 .refine rJ (qS ?_);obtain⟨aL,hv2,hw2,d⟩:=rH d
  try simp only[go_sem] at hw2
  refine rY SN ?_ (hp:=by exact⟨pW,pW,pW,pW,pW,(rG hv2)⟩) (h:=by simp only[go_sem,hw2];rfl)
  cases d;exact pI [(0,0),(1,1),(2,2),(3,3)]
attribute [irreducible] CV z8
end
noncomputable section
def BD (O:(pG×(Int×Unit))) (Z:sP) (aA:Int) (aB:Int) (aC:sC) (aD:(pP×(Int×Unit))) (aE:Int) (aF:Bool) (aG:pN):Option (Int×Int×pG×Int×Int×Int×Int×Int):=if ((!decide (Z.1=aE))||(!((!decide (Z.2.1=([]:pG)))&&(decide ((Z.2.1.length:Int)≤(200:Int))))))=true then sH (vH O Z aA aB aC aD (3:Int) aG) fun aH=>(tP (O.1,(O.2.1,())) (Z.1,(Z.2.1,(Z.2.2.1,(Z.2.2.2.1,())))) aH.1 aH.2 (aC.1,(aC.2.1,(aC.2.2.1,(aC.2.2.2.1,())))) (aD.1,(aD.2.1,())) aG).bind fun aI=>some ((aI.1,aI.2.1,aI.2.2.1,aI.2.2.2.1,aI.2.2.2.2.1,aH.1,aH.2,aI.2.2.2.2.2)) else if (sR .str .bool aG Z.2.1)=true then sH (vH O Z aA aB aC aD (9:Int) aG) fun aJ=>(tP (O.1,(O.2.1,())) (Z.1,(Z.2.1,(Z.2.2.1,(Z.2.2.2.1,())))) aJ.1 aJ.2 (aC.1,(aC.2.1,(aC.2.2.1,(aC.2.2.2.1,())))) (aD.1,(aD.2.1,())) aG).bind fun aK=>some ((aK.1,aK.2.1,aK.2.2.1,aK.2.2.2.1,aK.2.2.2.2.1,aJ.1,aJ.2,aK.2.2.2.2.2)) else if aF=true then sH (vH O Z aA aB aC aD (6:Int) aG) fun aL=>(tP (O.1,(O.2.1,())) (Z.1,(Z.2.1,(Z.2.2.1,(Z.2.2.2.1,())))) aL.1 aL.2 (aC.1,(aC.2.1,(aC.2.2.1,(aC.2.2.2.1,())))) (aD.1,(aD.2.1,())) aG).bind fun aM=>some ((aM.1,aM.2.1,aM.2.2.1,aM.2.2.2.1,aM.2.2.2.2.1,aL.1,aL.2,aM.2.2.2.2.2)) else (tP O Z aA aB aC aD aG).bind fun aN=>some ((aN.1,aN.2.1,aN.2.2.1,aN.2.2.2.1,aN.2.2.2.2.1,aA,aB,aN.2.2.2.2.2))
section
variable (O:Int) (Z:Bool) (aA:(pG×(Int×Unit))) (aB:sP) (aC:Int) (aD:Int) (aE:sC) (aF:(pP×(Int×Unit))) (aG:Nat) (aH:Nat) (aI:pN)
abbrev a8j:List qI:=[(.val .ref (some (0,0)),none),(.val (.int .i64) O,none),(.val .clo (some (127,[])),none),(.val .clo (some (128,[(3,0)])),none),(.val .bool Z,none)]
abbrev a8k:List qH:=[.cells sJ (aA,(aB,(aC,(aD,(aE,((some 4),aF)))))) [(11,1),(13,2)],.grow 55 7 aG,.grow 3 1 aH,.cells .ref (some (0,0)) [],.map .str .bool aI]
@[go_sem] def a8l:qQ:=⟨[aG=(aE.2.2.2.1.length),aH=(aF.1.length),((BD aA aB aC aD aE aF O Z aI)).isSome=true],[(.val .str aB.2.1,none)],[.cells sJ ((aA.1,((val (BD aA aB aC aD aE aF O Z aI)).1,())),(((val (BD aA aB aC aD aE aF O Z aI)).2.1,((val (BD aA aB aC aD aE aF O Z aI)).2.2.1,((val (BD aA aB aC aD aE aF O Z aI)).2.2.2.1,((val (BD aA aB aC aD aE aF O Z aI)).2.2.2.2.1,())))),((val (BD aA aB aC aD aE aF O Z aI)).2.2.2.2.2.1,((val (BD aA aB aC aD aE aF O Z aI)).2.2.2.2.2.2.1,((aE.1,(aE.2.1,(aE.2.2.1,(aE.2.2.2.1,())))),((some 4),(aF.1,((val (BD aA aB aC aD aE aF O Z aI)).2.2.2.2.2.2.2,())))))))) [(11,1),(13,2)],.grow 55 7 (aE.2.2.2.1.length),.grow 3 1 (aF.1.length),.cells .ref (some (0,0)) [],.map .str .bool aI]⟩
def aG1:List qI→List qH→Option qQ:=rT (V:=(Int×Bool×(pG×(Int×Unit))×sP×Int×Int×sC×(pP×(Int×Unit))×Nat×Nat×pN)) (fun x=>a8j x.1 x.2.1) (fun x=>a8k x.2.2.1 x.2.2.2.1 x.2.2.2.2.1 x.2.2.2.2.2.1 x.2.2.2.2.2.2.1 x.2.2.2.2.2.2.2.1 x.2.2.2.2.2.2.2.2.1 x.2.2.2.2.2.2.2.2.2.1 x.2.2.2.2.2.2.2.2.2.2) fun x=>a8l x.1 x.2.1 x.2.2.1 x.2.2.2.1 x.2.2.2.2.1 x.2.2.2.2.2.1 x.2.2.2.2.2.2.1 x.2.2.2.2.2.2.2.1 x.2.2.2.2.2.2.2.2.1 x.2.2.2.2.2.2.2.2.2.1 x.2.2.2.2.2.2.2.2.2.2
@[go_sem] def aUS:aG1 (no_index (a8j O Z)) (no_index (a8k aA aB aC aD aE aF aG aH aI))=some (a8l O Z aA aB aC aD aE aF aG aH aI):=rV (fun⟨a0,a1,a2,a3,a4,a5,a6,a7,a8,a9,a10⟩ ⟨b0,b1,b2,b3,b4,b5,b6,b7,b8,b9,b10⟩ h1 h2=>by cases h1;cases h2;rfl) (O,Z,aA,aB,aC,aD,aE,aF,aG,aH,aI)
end
@[go_sem] abbrev aG2:Nat×rI:=(124,⟨[.p sJ [11,13],.v,.v,.f [(.ref,[])],.v],aG1,[(0,12,.m)],[1,2,3,4],none⟩)
def AG:rL Tryz.prog [vP,sM,B4,yY] (rK [aEb,B6,zO,aEe]):=⟨⟨w8,⟨sO,⟨CM,⟨AC,trivial⟩⟩⟩⟩,qU aNz (qU GK (qU FP (qU aNA rX))),rM⟩
def aOE:rP Tryz.prog aG2:=by
 refine rW AG Tryz.func124 (c:=_) rfl (N:=46) pX (ts:=[(10,none)]) rfl (fun _ _=>rfl) ?_;intro⟨O,Z,aA,aB,aC,aD,aE,aF,aG,aH,aI⟩ hs hrow;dsimp only[a8j,a8k,a8l,rQ,qW,rF,rO,rS,Nat.reduceAdd] at hs hrow|-;obtain⟨rfl,rfl,hz⟩:=hs;obtain⟨z0,d⟩:=aVb.1 hz
 try rw[s9 d]
 clear hz;unfold BD at d;refine qG AG ?_;refine qG AG ?_;refine qZ (sA ?_);refine qG AG ?_ (hp:=by exact⟨id,id,id,u6⟩);refine qY d (fun d hc1=> ?_) (fun d hc1=> ?_)
 .obtain⟨aJ,hw_27,d⟩:=xD d
  try simp only[go_sem] at hw_27
  refine rY AG ?_ (hp:=by exact⟨pW,pW,pW,pW,pW⟩) (h:=by simp only[go_sem,hw_27];rfl)
  refine s5 (qS ?_);obtain⟨aK,hv1,hw1,d⟩:=rH d
  try simp only[go_sem] at hw1
  refine qG AG ?_ (hp:=by exact⟨pW,pW,pW,pW,pW,(rG hv1)⟩) (h:=by simp only[go_sem,hw1];rfl)
  refine qG AG ?_;refine qR ?_;cases d;exact pI [(0,0),(1,1),(2,2),(3,3),(4,4)]
 .refine qG AG ?_ (hp:=by exact⟨pW,pW,pW,pW,pW,pW,pW⟩)
  refine qY d (fun d hc2=> ?_) (fun d hc2=> ?_)
  .obtain⟨aL,hw_29,d⟩:=xD d
   try simp only[go_sem] at hw_29
   refine rY AG ?_ (hp:=by exact⟨pW,pW,pW,pW,pW⟩) (h:=by simp only[go_sem,hw_29];rfl)
   refine s5 (qS ?_);obtain⟨aM,hv2,hw2,d⟩:=rH d
   try simp only[go_sem] at hw2
   refine qG AG ?_ (hp:=by exact⟨pW,pW,pW,pW,pW,(rG hv2)⟩) (h:=by simp only[go_sem,hw2];rfl)
   refine qG AG ?_;refine qR ?_;cases d;exact pI [(0,0),(1,1),(2,2),(3,3),(4,4)]
  .refine qG AG ?_;refine qY d (fun d hc3=> ?_) (fun d hc3=> ?_)
   .obtain⟨aN,hw_31,d⟩:=xD d
    try simp only[go_sem] at hw_31
    refine rY AG ?_ (hp:=by exact⟨pW,pW,pW,pW,pW⟩) (h:=by simp only[go_sem,hw_31];rfl)
    refine s5 (qS ?_);obtain⟨aO,hv3,hw3,d⟩:=rH d
    try simp only[go_sem] at hw3
    refine qG AG ?_ (hp:=by exact⟨pW,pW,pW,pW,pW,(rG hv3)⟩) (h:=by simp only[go_sem,hw3];rfl)
    refine qG AG ?_;refine qR ?_;cases d;exact pI [(0,0),(1,1),(2,2),(3,3),(4,4)]
   .refine rJ (s5 (qS ?_));obtain⟨aP,hv4,hw4,d⟩:=rH d
    try simp only[go_sem] at hw4
    refine qG AG ?_ (hp:=by exact⟨pW,pW,pW,pW,pW,(rG hv4)⟩) (h:=by simp only[go_sem,hw4];rfl)
    refine qG AG ?_;refine qR ?_;cases d;exact pI [(0,0),(1,1),(2,2),(3,3),(4,4)]
def BE (O:HT):Option (Int×Int×Int×(List rZ)×pP):=(vY O (2:Int) ([101,110,116,114,121]:pG)).bind fun Z=>(vY (O.1,(Z.1,(Z.2.1,(Z.2.2.1,((O.2.2.2.2.1.1,(O.2.2.2.2.1.2.1,(O.2.2.2.2.1.2.2.1,(O.2.2.2.2.1.2.2.2.1,())))),(O.2.2.2.2.2.1,())))))) (1:Int) ([]:pG)).bind fun aA=>if (!decide (aA.2.2.1=(0:Int)))=true then some ((aA.1,aA.2.1,aA.2.2.1,O.2.2.2.2.1.2.2.2.1,O.2.2.2.2.2.1)) else (HX (O.2.2.2.2.1.1,(O.2.2.2.2.1.2.1,(O.2.2.2.2.1.2.2.1,(O.2.2.2.2.1.2.2.2.1,())))) aA.2.2.2.2.1).bind fun aB=>if ((decide (aA.2.2.2.2.1=([]:pG)))||(decide ((200:Int)<(aA.2.2.2.2.1.length:Int))))=true then sH (z7 (O.1,(aA.1,(aA.2.1,(aA.2.2.1,((O.2.2.2.2.1.1,(O.2.2.2.2.1.2.1,(O.2.2.2.2.1.2.2.1,(O.2.2.2.2.1.2.2.2.1,())))),(O.2.2.2.2.2.1,())))))) (aA.2.2.2.1,(aA.2.2.2.2.1,(aA.2.2.2.2.2.1,(aA.2.2.2.2.2.2,())))) (3:Int)) fun aC=>some ((aA.1,aC.1,aC.2,O.2.2.2.2.1.2.2.2.1,O.2.2.2.2.2.1)) else if aB.2=true then sH (z7 (O.1,(aA.1,(aA.2.1,(aA.2.2.1,((O.2.2.2.2.1.1,(O.2.2.2.2.1.2.1,(O.2.2.2.2.1.2.2.1,(O.2.2.2.2.1.2.2.2.1,())))),(O.2.2.2.2.2.1,())))))) (aA.2.2.2.1,(aA.2.2.2.2.1,(aA.2.2.2.2.2.1,(aA.2.2.2.2.2.2,())))) (9:Int)) fun aD=>some ((aA.1,aD.1,aD.2,O.2.2.2.2.1.2.2.2.1,O.2.2.2.2.2.1)) else if (decide ((1000:Int)≤(O.2.2.2.2.1.2.2.2.1.length:Int)))=true then sH (z7 (O.1,(aA.1,(aA.2.1,(aA.2.2.1,((O.2.2.2.2.1.1,(O.2.2.2.2.1.2.1,(O.2.2.2.2.1.2.2.1,(O.2.2.2.2.1.2.2.2.1,())))),(O.2.2.2.2.2.1,())))))) (aA.2.2.2.1,(aA.2.2.2.2.1,(aA.2.2.2.2.2.1,(aA.2.2.2.2.2.2,())))) (6:Int)) fun aE=>some ((aA.1,aE.1,aE.2,O.2.2.2.2.1.2.2.2.1,O.2.2.2.2.2.1)) else (vC (O.1,(aA.1,(aA.2.1,(aA.2.2.1,((O.2.2.2.2.1.1,(O.2.2.2.2.1.2.1,(O.2.2.2.2.1.2.2.1,(O.2.2.2.2.1.2.2.2.1,())))),(O.2.2.2.2.2.1,())))))) (aA.2.2.2.2.1,(([]:pG),(([]:pG),(([]:pH),(([]:pH),((0:Int),(([]:List r5),()))))))) false).bind fun aF=>if (([]:List rZ).length+O.2.2.2.2.1.2.2.2.1.length)*128≤140737488355328 then if ((([]:List rZ)++O.2.2.2.2.1.2.2.2.1).length+([(aA.2.2.2.2.1,(aF.2.2.2.2.1,(aF.2.2.2.2.2.1,(aF.2.2.2.2.2.2.1,(aF.2.2.2.2.2.2.2.1,(aF.2.2.2.2.2.2.2.2.1,(aF.2.2.2.2.2.2.2.2.2,())))))))]:List rZ).length)*128≤140737488355328 then some ((aF.1,aF.2.1,aF.2.2.1,((([]:List rZ)++O.2.2.2.2.1.2.2.2.1)++([(aA.2.2.2.2.1,(aF.2.2.2.2.1,(aF.2.2.2.2.2.1,(aF.2.2.2.2.2.2.1,(aF.2.2.2.2.2.2.2.1,(aF.2.2.2.2.2.2.2.2.1,(aF.2.2.2.2.2.2.2.2.2,())))))))]:List rZ)),aF.2.2.2.1)) else none else none
attribute [irreducible] BD BE
end
noncomputable section
def zA (O:(pG×(Int×Unit))) (Z:sP) (aA:Int) (aB:Int) (aC:sC) (aD:(pP×(Int×Unit))) (aE:pN):Option (Int×Int×pG×Int×Int×Int×Int×Int):=(B8 O Z aA aB aC aD (1:Int) false aE).bind fun aF=>some ((aF.1,aF.2.1,aF.2.2.1,aF.2.2.2.1,aF.2.2.2.2.1,aF.2.2.2.2.2.1,aF.2.2.2.2.2.2.1,aF.2.2.2.2.2.2.2))
section
variable (O:(pG×(Int×Unit))) (Z:sP) (aA:Int) (aB:Int) (aC:sC) (aD:(pP×(Int×Unit))) (aE:Nat) (aF:Nat) (aG:pN)
abbrev a8m:List qI:=[(.val .ref (some (0,0)),none)]
abbrev a8n:List qH:=[.cells sJ (O,(Z,(aA,(aB,(aC,((some 3),aD)))))) [(11,1),(13,2)],.grow 55 7 aE,.grow 3 1 aF,.map .str .bool aG]
@[go_sem] def a8o:qQ:=⟨[aE=(aC.2.2.2.1.length),aF=(aD.1.length),((zA O Z aA aB aC aD aG)).isSome=true],[(.val .str Z.2.1,none)],[.cells sJ ((O.1,((val (zA O Z aA aB aC aD aG)).1,())),(((val (zA O Z aA aB aC aD aG)).2.1,((val (zA O Z aA aB aC aD aG)).2.2.1,((val (zA O Z aA aB aC aD aG)).2.2.2.1,((val (zA O Z aA aB aC aD aG)).2.2.2.2.1,())))),((val (zA O Z aA aB aC aD aG)).2.2.2.2.2.1,((val (zA O Z aA aB aC aD aG)).2.2.2.2.2.2.1,((aC.1,(aC.2.1,(aC.2.2.1,(aC.2.2.2.1,())))),((some 3),(aD.1,((val (zA O Z aA aB aC aD aG)).2.2.2.2.2.2.2,())))))))) [(11,1),(13,2)],.grow 55 7 (aC.2.2.2.1.length),.grow 3 1 (aD.1.length),.map .str .bool aG]⟩
def aG3:List qI→List qH→Option qQ:=rT (V:=((pG×(Int×Unit))×sP×Int×Int×sC×(pP×(Int×Unit))×Nat×Nat×pN)) (fun x=>a8m) (fun x=>a8n x.1 x.2.1 x.2.2.1 x.2.2.2.1 x.2.2.2.2.1 x.2.2.2.2.2.1 x.2.2.2.2.2.2.1 x.2.2.2.2.2.2.2.1 x.2.2.2.2.2.2.2.2) fun x=>a8o x.1 x.2.1 x.2.2.1 x.2.2.2.1 x.2.2.2.2.1 x.2.2.2.2.2.1 x.2.2.2.2.2.2.1 x.2.2.2.2.2.2.2.1 x.2.2.2.2.2.2.2.2
@[go_sem] def aUT:aG3 (no_index a8m) (no_index (a8n O Z aA aB aC aD aE aF aG))=some (a8o O Z aA aB aC aD aE aF aG):=rV (fun⟨a0,a1,a2,a3,a4,a5,a6,a7,a8⟩ ⟨b0,b1,b2,b3,b4,b5,b6,b7,b8⟩ h1 h2=>by cases h1;cases h2;rfl) (O,Z,aA,aB,aC,aD,aE,aF,aG)
end
@[go_sem] abbrev II:Nat×rI:=(253,⟨[.p sJ [11,13]],aG3,[(0,12,.m)],[1,2,3],none⟩)
def a8p:rL Tryz.prog [] (rK [aGS]):=⟨trivial,qU aOz rX,rM⟩
def XH:rP Tryz.prog II:=by
 refine rW a8p Tryz.func253 (c:=_) rfl (N:=5) pX (ts:=[(2,none)]) rfl (fun _ _=>rfl) ?_;intro⟨O,Z,aA,aB,aC,aD,aE,aF,aG⟩ hs hrow;dsimp only[a8m,a8n,a8o,rQ,qW,rF,rO,rS,Nat.reduceAdd] at hs hrow|-;obtain⟨rfl,rfl,hz⟩:=hs;obtain⟨z0,d⟩:=aVb.1 hz
 try rw[s9 d]
 clear hz;unfold zA at d;refine qG a8p ?_;obtain⟨aH,hv1,hw1,d⟩:=rH d
 try simp only[go_sem] at hw1
 refine qG a8p ?_ (hp:=by exact⟨pW,pW,pW,pW,pW,(rG hv1)⟩) (h:=by simp only[go_sem,hw1];rfl)
 refine qR ?_;cases d;exact pI [(0,0),(1,1),(2,2),(3,3)]
attribute [irreducible] zA
end
noncomputable section
def BU (O:(pG×(Int×Unit))) (Z:sP) (aA:Int) (aB:Int) (aC:sC) (aD:(pP×(Int×Unit))) (aE:pG) (aF:pG) (aG:pG) (aH:pH) (aI:(Int×((List r5)×Unit))) (aJ:Bool) (aK:pN) (aL:pH) (aM:pN):Option (Int×Int×pG×Int×Int×Int×Int×Int×Int):=(B7 O Z aA aB aC aD aE aF aG aH aI aJ aK aL aM).bind fun aN=>(BA (O.1,(aN.1,())) (aN.2.1,(aN.2.2.1,(aN.2.2.2.1,(aN.2.2.2.2.1,())))) aN.2.2.2.2.2.1 aN.2.2.2.2.2.2.1 (aC.1,(aC.2.1,(aC.2.2.1,(aC.2.2.2.1,())))) (aD.1,(aN.2.2.2.2.2.2.2,())) (2:Int) false aK).bind fun aO=>(DF ([([110,101,119]:pG),([102,117,122,122,121]:pG),([116,114,97,110,115,108,97,116,101,100]:pG),([114,101,118,105,101,119,101,100]:pG),([111,98,115,111,108,101,116,101]:pG)]:pH) aN.2.2.1).bind fun aP=>some ((aO.1,aO.2.1,aO.2.2.1,aO.2.2.2.1,aO.2.2.2.2.1,aO.2.2.2.2.2.1,aO.2.2.2.2.2.2.1,aO.2.2.2.2.2.2.2,(max (0:Int) aP)))
section
variable (O:(pG×(Int×Unit))) (Z:sP) (aA:Int) (aB:Int) (aC:sC) (aD:(pP×(Int×Unit))) (aE:Nat) (aF:Nat) (aG:pG) (aH:pG) (aI:pG) (aJ:pH) (aK:Nat) (aL:(Int×((List r5)×Unit))) (aM:Bool) (aN:Nat) (aO:Nat) (aP:pN) (aQ:pH) (aR:Nat) (aS:pN)
abbrev a8q:List qI:=[(.val .ref (some (0,0)),none),(.val .ref (some (3,0)),none)]
abbrev a8r:List qH:=[.cells sJ (O,(Z,(aA,(aB,(aC,((some 6),aD)))))) [(11,1),(13,2)],.grow 55 7 aE,.grow 3 1 aF,.cells u7 ((aG,(aH,(aI,(aJ,((some (7,aK)),aL))))),(aM,((some 8),()))) [(3,4),(6,5)],.grow 9 1 aN,.grow 149 2 aO,.map .str .bool aP,.row 9 .str aQ aR,.map .str .bool aS]
@[go_sem] def a8s:qQ:=⟨[aE=(aC.2.2.2.1.length),aF=(aD.1.length),aN=(aJ.length),aO=(aL.2.1.length),aK=aR,((BU O Z aA aB aC aD aG aH aI aJ aL aM aP aQ aS)).isSome=true],[],[.cells sJ ((O.1,((val (BU O Z aA aB aC aD aG aH aI aJ aL aM aP aQ aS)).1,())),(((val (BU O Z aA aB aC aD aG aH aI aJ aL aM aP aQ aS)).2.1,((val (BU O Z aA aB aC aD aG aH aI aJ aL aM aP aQ aS)).2.2.1,((val (BU O Z aA aB aC aD aG aH aI aJ aL aM aP aQ aS)).2.2.2.1,((val (BU O Z aA aB aC aD aG aH aI aJ aL aM aP aQ aS)).2.2.2.2.1,())))),((val (BU O Z aA aB aC aD aG aH aI aJ aL aM aP aQ aS)).2.2.2.2.2.1,((val (BU O Z aA aB aC aD aG aH aI aJ aL aM aP aQ aS)).2.2.2.2.2.2.1,((aC.1,(aC.2.1,(aC.2.2.1,(aC.2.2.2.1,())))),((some 6),(aD.1,((val (BU O Z aA aB aC aD aG aH aI aJ aL aM aP aQ aS)).2.2.2.2.2.2.2.1,())))))))) [(11,1),(13,2)],.grow 55 7 (aC.2.2.2.1.length),.grow 3 1 (aD.1.length),.cells u7 ((aG,(aH,(aI,(aJ,((some (7,(aQ.length))),((val (BU O Z aA aB aC aD aG aH aI aJ aL aM aP aQ aS)).2.2.2.2.2.2.2.2,(aL.2.1,()))))))),(aM,((some 8),()))) [(3,4),(6,5)],.grow 9 1 (aJ.length),.grow 149 2 (aL.2.1.length),.map .str .bool aP,.row 9 .str aQ (aQ.length),.map .str .bool (tY .str .bool Z.2.1 true aS)]⟩
def aG4:List qI→List qH→Option qQ:=rT (V:=((pG×(Int×Unit))×sP×Int×Int×sC×(pP×(Int×Unit))×Nat×Nat×pG×pG×pG×pH×Nat×(Int×((List r5)×Unit))×Bool×Nat×Nat×pN×pH×Nat×pN)) (fun x=>a8q) (fun x=>a8r x.1 x.2.1 x.2.2.1 x.2.2.2.1 x.2.2.2.2.1 x.2.2.2.2.2.1 x.2.2.2.2.2.2.1 x.2.2.2.2.2.2.2.1 x.2.2.2.2.2.2.2.2.1 x.2.2.2.2.2.2.2.2.2.1 x.2.2.2.2.2.2.2.2.2.2.1 x.2.2.2.2.2.2.2.2.2.2.2.1 x.2.2.2.2.2.2.2.2.2.2.2.2.1 x.2.2.2.2.2.2.2.2.2.2.2.2.2.1 x.2.2.2.2.2.2.2.2.2.2.2.2.2.2.1 x.2.2.2.2.2.2.2.2.2.2.2.2.2.2.2.1 x.2.2.2.2.2.2.2.2.2.2.2.2.2.2.2.2.1 x.2.2.2.2.2.2.2.2.2.2.2.2.2.2.2.2.2.1 x.2.2.2.2.2.2.2.2.2.2.2.2.2.2.2.2.2.2.1 x.2.2.2.2.2.2.2.2.2.2.2.2.2.2.2.2.2.2.2.1 x.2.2.2.2.2.2.2.2.2.2.2.2.2.2.2.2.2.2.2.2) fun x=>a8s x.1 x.2.1 x.2.2.1 x.2.2.2.1 x.2.2.2.2.1 x.2.2.2.2.2.1 x.2.2.2.2.2.2.1 x.2.2.2.2.2.2.2.1 x.2.2.2.2.2.2.2.2.1 x.2.2.2.2.2.2.2.2.2.1 x.2.2.2.2.2.2.2.2.2.2.1 x.2.2.2.2.2.2.2.2.2.2.2.1 x.2.2.2.2.2.2.2.2.2.2.2.2.1 x.2.2.2.2.2.2.2.2.2.2.2.2.2.1 x.2.2.2.2.2.2.2.2.2.2.2.2.2.2.1 x.2.2.2.2.2.2.2.2.2.2.2.2.2.2.2.1 x.2.2.2.2.2.2.2.2.2.2.2.2.2.2.2.2.1 x.2.2.2.2.2.2.2.2.2.2.2.2.2.2.2.2.2.1 x.2.2.2.2.2.2.2.2.2.2.2.2.2.2.2.2.2.2.1 x.2.2.2.2.2.2.2.2.2.2.2.2.2.2.2.2.2.2.2.1 x.2.2.2.2.2.2.2.2.2.2.2.2.2.2.2.2.2.2.2.2
@[go_sem] def aUU:aG4 (no_index a8q) (no_index (a8r O Z aA aB aC aD aE aF aG aH aI aJ aK aL aM aN aO aP aQ aR aS))=some (a8s O Z aA aB aC aD aE aF aG aH aI aJ aK aL aM aN aO aP aQ aR aS):=rV (fun⟨a0,a1,a2,a3,a4,a5,a6,a7,a8,a9,a10,a11,a12,a13,a14,a15,a16,a17,a18,a19,a20⟩ ⟨b0,b1,b2,b3,b4,b5,b6,b7,b8,b9,b10,b11,b12,b13,b14,tD,b16,b17,b18,b19,b20⟩ h1 h2=>by cases h1;cases h2;rfl) (O,Z,aA,aB,aC,aD,aE,aF,aG,aH,aI,aJ,aK,aL,aM,aN,aO,aP,aQ,aR,aS)
end
@[go_sem] abbrev a8t:Nat×rI:=(217,⟨[.p sJ [11,13],.p u7 [3,6]],aG4,[(0,12,.m),(3,4,.r),(3,8,.m)],[1,2,4,5,6,7],none⟩)
def aG5:rL Tryz.prog [] (rK [M6,RL,a74,WX]):=⟨trivial,qU a7S (qU a2t (qU aOB (qU aEB rX))),rM⟩
def a8u:rL Tryz.prog [vP,EC,DE] (rK [M6,RL,a74,WX]):=⟨⟨w8,⟨GG,⟨FD,trivial⟩⟩⟩,aG5.Γ,rM⟩
def aOF:rP Tryz.prog a8t:=by
 refine rW aG5 Tryz.func217 (c:=_) rfl (N:=18) pX (ts:=[]) rfl (fun _ _=>rfl) ?_;intro⟨O,Z,aA,aB,aC,aD,aE,aF,aG,aH,aI,aJ,aK,aL,aM,aN,aO,aP,aQ,aR,aS⟩ hs hrow;dsimp only[a8q,a8r,a8s,rQ,qW,rF,rO,rS,Nat.reduceAdd] at hs hrow|-;obtain⟨rfl,rfl,rfl,rfl,rfl,hz⟩:=hs;obtain⟨rfl,_⟩:=hrow;obtain⟨z0,d⟩:=aVb.1 hz
 try rw[s9 d]
 clear hz;unfold BU at d;obtain⟨aT,hv1,hw1,d⟩:=rH d
 try simp only[go_sem] at hw1
 refine qG a8u ?_ (hp:=by exact⟨pW,pW,pW,pW,pW,pW,pW,pW,pW,pW,pW,pW,(rG hv1)⟩) (h:=by simp only[go_sem,hw1];rfl)
 refine qG a8u ?_;obtain⟨aU,hv2,hw2,d⟩:=rH d
 try simp only[go_sem] at hw2
 obtain⟨aV,hv3,hw3,d⟩:=rH d
 try simp only[go_sem] at hw3
 refine rY a8u ?_ (hp:=by exact⟨pW,pW,pW,pW,pW,rG hv2,(rG hv3)⟩) (h:=by simp only[go_sem,hw2,hw3];rfl)
 cases d;exact pI [(0,0),(1,1),(2,2),(3,3),(4,4),(5,5),(6,6),(7,7),(8,8)]
attribute [irreducible] BU
end
noncomputable section
def AH (O:(pG×(Int×Unit))) (Z:sP) (aA:Int) (aB:Int) (aC:sC) (aD:(pP×(Int×Unit))) (aE:pG) (aF:pG) (aG:pG) (aH:pH) (aI:(Int×((List r5)×Unit))) (aJ:Bool) (aK:pN) (aL:pH) (aM:pN):Option (Int×Int×pG×Int×Int×Int×Int×Int×pH):=(tP O Z aA aB aC aD aK).bind fun aN=>(CV (O.1,(aN.1,())) (aN.2.1,(aN.2.2.1,(aN.2.2.2.1,(aN.2.2.2.2.1,())))) aA aB (aC.1,(aC.2.1,(aC.2.2.1,(aC.2.2.2.1,())))) (aD.1,(aN.2.2.2.2.2,())) (2:Int) (decide ((((aL.length):Nat):Int)=(20:Int))) aK aE aF aG aH aI aJ aL aM).bind fun aO=>if ((aL.length)+([aN.2.2.1]:pH).length)*16≤140737488355328 then some ((aO.1,aO.2.1,aO.2.2.1,aO.2.2.2.1,aO.2.2.2.2.1,aO.2.2.2.2.2.1,aO.2.2.2.2.2.2.1,aO.2.2.2.2.2.2.2,(aL++([aN.2.2.1]:pH)))) else none
section
variable (O:(pG×(Int×Unit))) (Z:sP) (aA:Int) (aB:Int) (aC:sC) (aD:(pP×(Int×Unit))) (aE:Nat) (aF:Nat) (aG:pG) (aH:pG) (aI:pG) (aJ:pH) (aK:Nat) (aL:(Int×((List r5)×Unit))) (aM:Bool) (aN:Nat) (aO:Nat) (aP:pN) (aQ:pH) (aR:Nat) (aS:pN)
abbrev a8v:List qI:=[(.val .ref (some (0,0)),none),(.val .ref (some (3,0)),none)]
abbrev a8w:List qH:=[.cells sJ (O,(Z,(aA,(aB,(aC,((some 6),aD)))))) [(11,1),(13,2)],.grow 55 7 aE,.grow 3 1 aF,.cells u7 ((aG,(aH,(aI,(aJ,((some (7,aK)),aL))))),(aM,((some 8),()))) [(3,4),(6,5)],.grow 9 1 aN,.grow 149 2 aO,.map .str .bool aP,.row 9 .str aQ aR,.map .str .bool aS]
@[go_sem] def a8x:qQ:=⟨[aE=(aC.2.2.2.1.length),aF=(aD.1.length),aN=(aJ.length),aO=(aL.2.1.length),aK=aR,((AH O Z aA aB aC aD aG aH aI aJ aL aM aP aQ aS)).isSome=true],[],[.cells sJ ((O.1,((val (AH O Z aA aB aC aD aG aH aI aJ aL aM aP aQ aS)).1,())),(((val (AH O Z aA aB aC aD aG aH aI aJ aL aM aP aQ aS)).2.1,((val (AH O Z aA aB aC aD aG aH aI aJ aL aM aP aQ aS)).2.2.1,((val (AH O Z aA aB aC aD aG aH aI aJ aL aM aP aQ aS)).2.2.2.1,((val (AH O Z aA aB aC aD aG aH aI aJ aL aM aP aQ aS)).2.2.2.2.1,())))),((val (AH O Z aA aB aC aD aG aH aI aJ aL aM aP aQ aS)).2.2.2.2.2.1,((val (AH O Z aA aB aC aD aG aH aI aJ aL aM aP aQ aS)).2.2.2.2.2.2.1,((aC.1,(aC.2.1,(aC.2.2.1,(aC.2.2.2.1,())))),((some 6),(aD.1,((val (AH O Z aA aB aC aD aG aH aI aJ aL aM aP aQ aS)).2.2.2.2.2.2.2.1,())))))))) [(11,1),(13,2)],.grow 55 7 (aC.2.2.2.1.length),.grow 3 1 (aD.1.length),.cells u7 ((aG,(aH,(aI,(aJ,((some (7,(((val (AH O Z aA aB aC aD aG aH aI aJ aL aM aP aQ aS)).2.2.2.2.2.2.2.2).length))),(aL.1,(aL.2.1,()))))))),(aM,((some 8),()))) [(3,4),(6,5)],.grow 9 1 (aJ.length),.grow 149 2 (aL.2.1.length),.map .str .bool aP,.row 9 .str ((val (AH O Z aA aB aC aD aG aH aI aJ aL aM aP aQ aS)).2.2.2.2.2.2.2.2) (((val (AH O Z aA aB aC aD aG aH aI aJ aL aM aP aQ aS)).2.2.2.2.2.2.2.2).length),.map .str .bool aS]⟩
def aG6:List qI→List qH→Option qQ:=rT (V:=((pG×(Int×Unit))×sP×Int×Int×sC×(pP×(Int×Unit))×Nat×Nat×pG×pG×pG×pH×Nat×(Int×((List r5)×Unit))×Bool×Nat×Nat×pN×pH×Nat×pN)) (fun x=>a8v) (fun x=>a8w x.1 x.2.1 x.2.2.1 x.2.2.2.1 x.2.2.2.2.1 x.2.2.2.2.2.1 x.2.2.2.2.2.2.1 x.2.2.2.2.2.2.2.1 x.2.2.2.2.2.2.2.2.1 x.2.2.2.2.2.2.2.2.2.1 x.2.2.2.2.2.2.2.2.2.2.1 x.2.2.2.2.2.2.2.2.2.2.2.1 x.2.2.2.2.2.2.2.2.2.2.2.2.1 x.2.2.2.2.2.2.2.2.2.2.2.2.2.1 x.2.2.2.2.2.2.2.2.2.2.2.2.2.2.1 x.2.2.2.2.2.2.2.2.2.2.2.2.2.2.2.1 x.2.2.2.2.2.2.2.2.2.2.2.2.2.2.2.2.1 x.2.2.2.2.2.2.2.2.2.2.2.2.2.2.2.2.2.1 x.2.2.2.2.2.2.2.2.2.2.2.2.2.2.2.2.2.2.1 x.2.2.2.2.2.2.2.2.2.2.2.2.2.2.2.2.2.2.2.1 x.2.2.2.2.2.2.2.2.2.2.2.2.2.2.2.2.2.2.2.2) fun x=>a8x x.1 x.2.1 x.2.2.1 x.2.2.2.1 x.2.2.2.2.1 x.2.2.2.2.2.1 x.2.2.2.2.2.2.1 x.2.2.2.2.2.2.2.1 x.2.2.2.2.2.2.2.2.1 x.2.2.2.2.2.2.2.2.2.1 x.2.2.2.2.2.2.2.2.2.2.1 x.2.2.2.2.2.2.2.2.2.2.2.1 x.2.2.2.2.2.2.2.2.2.2.2.2.1 x.2.2.2.2.2.2.2.2.2.2.2.2.2.1 x.2.2.2.2.2.2.2.2.2.2.2.2.2.2.1 x.2.2.2.2.2.2.2.2.2.2.2.2.2.2.2.1 x.2.2.2.2.2.2.2.2.2.2.2.2.2.2.2.2.1 x.2.2.2.2.2.2.2.2.2.2.2.2.2.2.2.2.2.1 x.2.2.2.2.2.2.2.2.2.2.2.2.2.2.2.2.2.2.1 x.2.2.2.2.2.2.2.2.2.2.2.2.2.2.2.2.2.2.2.1 x.2.2.2.2.2.2.2.2.2.2.2.2.2.2.2.2.2.2.2.2
@[go_sem] def aUV:aG6 (no_index a8v) (no_index (a8w O Z aA aB aC aD aE aF aG aH aI aJ aK aL aM aN aO aP aQ aR aS))=some (a8x O Z aA aB aC aD aE aF aG aH aI aJ aK aL aM aN aO aP aQ aR aS):=rV (fun⟨a0,a1,a2,a3,a4,a5,a6,a7,a8,a9,a10,a11,a12,a13,a14,a15,a16,a17,a18,a19,a20⟩ ⟨b0,b1,b2,b3,b4,b5,b6,b7,b8,b9,b10,b11,b12,b13,b14,tD,b16,b17,b18,b19,b20⟩ h1 h2=>by cases h1;cases h2;rfl) (O,Z,aA,aB,aC,aD,aE,aF,aG,aH,aI,aJ,aK,aL,aM,aN,aO,aP,aQ,aR,aS)
end
@[go_sem] abbrev a8y:Nat×rI:=(218,⟨[.p sJ [11,13],.p u7 [3,6]],aG6,[(0,12,.m),(3,4,.r),(3,8,.m)],[1,2,4,5,6,8],none⟩)
def aG7:rL Tryz.prog [] (rK [zO,a8e]):=⟨trivial,qU FP (qU aOD rX),rM⟩
def XI:rL Tryz.prog [wH,EC,O3,DE] (rK [zO,a8e]):=⟨⟨wX,⟨GG,⟨WI,⟨FD,trivial⟩⟩⟩⟩,aG7.Γ,rM⟩
def aOG:rP Tryz.prog a8y:=by
 refine rW aG7 Tryz.func218 (c:=_) rfl (N:=29) pX (ts:=[]) rfl (fun _ _=>rfl) ?_;intro⟨O,Z,aA,aB,aC,aD,aE,aF,aG,aH,aI,aJ,aK,aL,aM,aN,aO,aP,aQ,aR,aS⟩ hs hrow;dsimp only[a8v,a8w,a8x,rQ,qW,rF,rO,rS,Nat.reduceAdd] at hs hrow|-;obtain⟨rfl,rfl,rfl,rfl,rfl,hz⟩:=hs;obtain⟨rfl,_⟩:=hrow;obtain⟨z0,d⟩:=aVb.1 hz
 try rw[s9 d]
 clear hz;unfold AH at d;refine qG XI ?_;obtain⟨aT,hv1,hw1,d⟩:=rH d
 try simp only[go_sem] at hw1
 refine qG XI ?_ (hp:=by exact⟨pW,pW,pW,pW,pW,(rG hv1)⟩) (h:=by simp only[go_sem,hw1];rfl)
 refine qG XI ?_;obtain⟨aU,hv2,hw2,d⟩:=rH d
 try simp only[go_sem] at hw2
 obtain⟨hg3,d⟩:=qP d;refine GB XI ?_ (hp:=by exact⟨pW,pW,pW,pW,pW,pW,pW,pW,pW,pW,pW,pW,pW,pW,rG hv2,pW,hg3⟩) (h:=by simp only[go_sem,hw2];rfl)
 cases d;exact pI [(0,0),(1,1),(2,2),(3,3),(4,4),(5,5),(6,6),(7,7),(8,8)]
def vD (O:pG) (Z:(Int×Int×Int×pG×pH×(List r5)×pP)):(Int×Int×Int×(List rZ)×pP)→Option ((Int×Int×Int×(List rZ)×pP)⊕(Int×Int×Int×(List rZ)×pP)):=fun(aA,aB,aC,aD,aE)=>if (((decide (aC=(0:Int)))==true)=true→((OK O aA)).isSome=true) then if ((decide (aC=(0:Int)))&&(decide ((val (OK O aA))<(O.length:Int))))=true then (BE (O,(aA,(aB,(aC,((Z.2.2.2.1,(Z.2.2.2.2.1,(Z.2.2.2.2.2.1,(aD,())))),(aE,()))))))).bind fun aF=>some (.inl (aF.1,aF.2.1,aF.2.2.1,aF.2.2.2.1,aF.2.2.2.2)) else some (.inr (aA,aB,aC,aD,aE)) else none
def EI (O:pG):Option (pG×pH×(List r5)×(List rZ)×pP×Int×Int):=(CU (O,((0:Int),((0:Int),((0:Int),((([]:pG),(([]:pH),(([]:List r5),(([]:List rZ),())))),(([]:pP),()))))))).bind fun Z=>sB (rE (vD O Z) (Z.1,Z.2.1,Z.2.2.1,([]:List rZ),Z.2.2.2.2.2.2)) fun(aA,aB,aC,aD,aE)=>if (!decide (aC=(0:Int)))=true then some ((([]:pG),([]:pH),([]:List r5),([]:List rZ),([]:pP),aB,aC)) else some ((Z.2.2.2.1,Z.2.2.2.2.1,Z.2.2.2.2.2.1,aD,aE,(0:Int),(0:Int)))
def OY (O:pG):Option (pG×pH×(List r5)×(List rZ)×Int×Int):=(EI O).bind fun Z=>some ((Z.1,Z.2.1,Z.2.2.1,Z.2.2.2.1,Z.2.2.2.2.2.1,Z.2.2.2.2.2.2))
attribute [irreducible] AH EI OY
end
noncomputable section
def zP (O:(pG×(Int×Unit))) (Z:sP) (aA:Int) (aB:Int) (aC:sC) (aD:(pP×(Int×Unit))) (aE:pG) (aF:pG) (aG:pG) (aH:pH) (aI:(Int×((List r5)×Unit))) (aJ:Bool) (aK:pN) (aL:pH) (aM:pN):Option (Int×Int×pG×Int×Int×Int×Int×Int×pH):=sB (σ:=(Int×Int)) (if (decide ((aH.length:Int)=(20:Int)))=true then sH (vH O Z aA aB aC aD (6:Int) aK) fun aN=>some ((aN.1,aN.2)) else some ((aA,aB)) ) fun(aO,aP)=>(tP (O.1,(O.2.1,())) (Z.1,(Z.2.1,(Z.2.2.1,(Z.2.2.2.1,())))) aO aP (aC.1,(aC.2.1,(aC.2.2.1,(aC.2.2.2.1,())))) (aD.1,(aD.2.1,())) aK).bind fun aQ=>(zA (O.1,(aQ.1,())) (aQ.2.1,(aQ.2.2.1,(aQ.2.2.2.1,(aQ.2.2.2.2.1,())))) aO aP (aC.1,(aC.2.1,(aC.2.2.1,(aC.2.2.2.1,())))) (aD.1,(aQ.2.2.2.2.2,())) aK).bind fun aR=>if (aH.length+([aQ.2.2.1]:pH).length)*16≤140737488355328 then some ((aR.1,aR.2.1,aR.2.2.1,aR.2.2.2.1,aR.2.2.2.2.1,aR.2.2.2.2.2.1,aR.2.2.2.2.2.2.1,aR.2.2.2.2.2.2.2,(aH++([aQ.2.2.1]:pH)))) else none
section
variable (O:(pG×(Int×Unit))) (Z:sP) (aA:Int) (aB:Int) (aC:sC) (aD:(pP×(Int×Unit))) (aE:Nat) (aF:Nat) (aG:pG) (aH:pG) (aI:pG) (aJ:pH) (aK:Nat) (aL:(Int×((List r5)×Unit))) (aM:Bool) (aN:Nat) (aO:Nat) (aP:pN) (aQ:pH) (aR:Nat) (aS:pN)
abbrev a8z:List qI:=[(.val .ref (some (0,0)),none),(.val .ref (some (3,0)),none)]
abbrev a8A:List qH:=[.cells sJ (O,(Z,(aA,(aB,(aC,((some 6),aD)))))) [(11,1),(13,2)],.grow 55 7 aE,.grow 3 1 aF,.cells u7 ((aG,(aH,(aI,(aJ,((some (7,aK)),aL))))),(aM,((some 8),()))) [(3,4),(6,5)],.grow 9 1 aN,.grow 149 2 aO,.map .str .bool aP,.row 9 .str aQ aR,.map .str .bool aS]
@[go_sem] def a8B:qQ:=⟨[aE=(aC.2.2.2.1.length),aF=(aD.1.length),aN=(aJ.length),aO=(aL.2.1.length),aK=aR,((zP O Z aA aB aC aD aG aH aI aJ aL aM aP aQ aS)).isSome=true],[],[.cells sJ ((O.1,((val (zP O Z aA aB aC aD aG aH aI aJ aL aM aP aQ aS)).1,())),(((val (zP O Z aA aB aC aD aG aH aI aJ aL aM aP aQ aS)).2.1,((val (zP O Z aA aB aC aD aG aH aI aJ aL aM aP aQ aS)).2.2.1,((val (zP O Z aA aB aC aD aG aH aI aJ aL aM aP aQ aS)).2.2.2.1,((val (zP O Z aA aB aC aD aG aH aI aJ aL aM aP aQ aS)).2.2.2.2.1,())))),((val (zP O Z aA aB aC aD aG aH aI aJ aL aM aP aQ aS)).2.2.2.2.2.1,((val (zP O Z aA aB aC aD aG aH aI aJ aL aM aP aQ aS)).2.2.2.2.2.2.1,((aC.1,(aC.2.1,(aC.2.2.1,(aC.2.2.2.1,())))),((some 6),(aD.1,((val (zP O Z aA aB aC aD aG aH aI aJ aL aM aP aQ aS)).2.2.2.2.2.2.2.1,())))))))) [(11,1),(13,2)],.grow 55 7 (aC.2.2.2.1.length),.grow 3 1 (aD.1.length),.cells u7 ((aG,(aH,(aI,((val (zP O Z aA aB aC aD aG aH aI aJ aL aM aP aQ aS)).2.2.2.2.2.2.2.2,((some (7,(aQ.length))),(aL.1,(aL.2.1,()))))))),(aM,((some 8),()))) [(3,4),(6,5)],.grow 9 1 (((val (zP O Z aA aB aC aD aG aH aI aJ aL aM aP aQ aS)).2.2.2.2.2.2.2.2).length),.grow 149 2 (aL.2.1.length),.map .str .bool aP,.row 9 .str aQ (aQ.length),.map .str .bool aS]⟩
def aG8:List qI→List qH→Option qQ:=rT (V:=((pG×(Int×Unit))×sP×Int×Int×sC×(pP×(Int×Unit))×Nat×Nat×pG×pG×pG×pH×Nat×(Int×((List r5)×Unit))×Bool×Nat×Nat×pN×pH×Nat×pN)) (fun x=>a8z) (fun x=>a8A x.1 x.2.1 x.2.2.1 x.2.2.2.1 x.2.2.2.2.1 x.2.2.2.2.2.1 x.2.2.2.2.2.2.1 x.2.2.2.2.2.2.2.1 x.2.2.2.2.2.2.2.2.1 x.2.2.2.2.2.2.2.2.2.1 x.2.2.2.2.2.2.2.2.2.2.1 x.2.2.2.2.2.2.2.2.2.2.2.1 x.2.2.2.2.2.2.2.2.2.2.2.2.1 x.2.2.2.2.2.2.2.2.2.2.2.2.2.1 x.2.2.2.2.2.2.2.2.2.2.2.2.2.2.1 x.2.2.2.2.2.2.2.2.2.2.2.2.2.2.2.1 x.2.2.2.2.2.2.2.2.2.2.2.2.2.2.2.2.1 x.2.2.2.2.2.2.2.2.2.2.2.2.2.2.2.2.2.1 x.2.2.2.2.2.2.2.2.2.2.2.2.2.2.2.2.2.2.1 x.2.2.2.2.2.2.2.2.2.2.2.2.2.2.2.2.2.2.2.1 x.2.2.2.2.2.2.2.2.2.2.2.2.2.2.2.2.2.2.2.2) fun x=>a8B x.1 x.2.1 x.2.2.1 x.2.2.2.1 x.2.2.2.2.1 x.2.2.2.2.2.1 x.2.2.2.2.2.2.1 x.2.2.2.2.2.2.2.1 x.2.2.2.2.2.2.2.2.1 x.2.2.2.2.2.2.2.2.2.1 x.2.2.2.2.2.2.2.2.2.2.1 x.2.2.2.2.2.2.2.2.2.2.2.1 x.2.2.2.2.2.2.2.2.2.2.2.2.1 x.2.2.2.2.2.2.2.2.2.2.2.2.2.1 x.2.2.2.2.2.2.2.2.2.2.2.2.2.2.1 x.2.2.2.2.2.2.2.2.2.2.2.2.2.2.2.1 x.2.2.2.2.2.2.2.2.2.2.2.2.2.2.2.2.1 x.2.2.2.2.2.2.2.2.2.2.2.2.2.2.2.2.2.1 x.2.2.2.2.2.2.2.2.2.2.2.2.2.2.2.2.2.2.1 x.2.2.2.2.2.2.2.2.2.2.2.2.2.2.2.2.2.2.2.1 x.2.2.2.2.2.2.2.2.2.2.2.2.2.2.2.2.2.2.2.2
@[go_sem] def aUW:aG8 (no_index a8z) (no_index (a8A O Z aA aB aC aD aE aF aG aH aI aJ aK aL aM aN aO aP aQ aR aS))=some (a8B O Z aA aB aC aD aE aF aG aH aI aJ aK aL aM aN aO aP aQ aR aS):=rV (fun⟨a0,a1,a2,a3,a4,a5,a6,a7,a8,a9,a10,a11,a12,a13,a14,a15,a16,a17,a18,a19,a20⟩ ⟨b0,b1,b2,b3,b4,b5,b6,b7,b8,b9,b10,b11,b12,b13,b14,tD,b16,b17,b18,b19,b20⟩ h1 h2=>by cases h1;cases h2;rfl) (O,Z,aA,aB,aC,aD,aE,aF,aG,aH,aI,aJ,aK,aL,aM,aN,aO,aP,aQ,aR,aS)
end
@[go_sem] abbrev a8C:Nat×rI:=(213,⟨[.p sJ [11,13],.p u7 [3,6]],aG8,[(0,12,.m),(3,4,.r),(3,8,.m)],[1,2,5,6,7,8],none⟩)
def aG9:rL Tryz.prog [] (rK [B6,zO,II]):=⟨trivial,qU GK (qU FP (qU XH rX)),rM⟩
def XJ:rL Tryz.prog [wH,EC,DE] (rK [B6,zO,II]):=⟨⟨wX,⟨GG,⟨FD,trivial⟩⟩⟩,aG9.Γ,rM⟩
def aOH:rP Tryz.prog a8C:=by
 refine rW aG9 Tryz.func213 (c:=_) rfl (N:=28) pX (ts:=[]) rfl (fun _ _=>rfl) ?_;intro⟨O,Z,aA,aB,aC,aD,aE,aF,aG,aH,aI,aJ,aK,aL,aM,aN,aO,aP,aQ,aR,aS⟩ hs hrow;dsimp only[a8z,a8A,a8B,rQ,qW,rF,rO,rS,Nat.reduceAdd] at hs hrow|-;obtain⟨rfl,rfl,rfl,rfl,rfl,hz⟩:=hs;obtain⟨rfl,_⟩:=hrow;obtain⟨z0,d⟩:=aVb.1 hz
 try rw[s9 d]
 clear hz;unfold zP at d;refine qZ ?_;refine qG XJ ?_;obtain⟨y1,e,d⟩:=qK d;refine DA (fun s=>s=(fun x=>⟨[(0,(.val .ref (some (0,0)),none)),(1,(.val .ref (some (3,0)),none))],[(0,.cells sJ ((O.1,(O.2.1,())),((Z.1,(Z.2.1,(Z.2.2.1,(Z.2.2.2.1,())))),(x.1,(x.2,((aC.1,(aC.2.1,(aC.2.2.1,(aC.2.2.2.1,())))),((some 6),(aD.1,(aD.2.1,())))))))) [(11,1),(13,2)]),(1,.grow 55 7 (aC.2.2.2.1.length)),(2,.grow 3 1 (aD.1.length)),(3,.cells u7 ((aG,(aH,(aI,(aJ,((some (7,(aQ.length))),(aL.1,(aL.2.1,()))))))),(aM,((some 8),()))) [(3,4),(6,5)]),(4,.grow 9 1 (aJ.length)),(5,.grow 149 2 (aL.2.1.length)),(6,.map .str .bool aP),(7,.row 9 .str aQ (aQ.length)),(8,.map .str .bool aS)],9,28,9⟩) y1) ?_ ?_
 .refine qY e (fun e hc1=> ?_) (fun e hc1=> ?_)
  .obtain⟨aT,hw_40,e⟩:=xD e
   try simp only[go_sem] at hw_40
   refine rY XJ ?_ (hp:=by exact⟨pW,pW,pW,pW,pW⟩) (h:=by simp only[go_sem,hw_40];rfl)
   cases e;exact vO ⟨⟨[0,1],[(0,0),(1,1),(2,2),(3,3),(4,4),(5,5),(6,6),(7,7),(8,8)]⟩,by rfl⟩
  .refine rJ ?_;cases e;exact vO ⟨⟨[0,1],[(0,0),(1,1),(2,2),(3,3),(4,4),(5,5),(6,6),(7,7),(8,8)]⟩,by rfl⟩
 .rintro _ rfl;obtain⟨aU,aV⟩:=y1;dsimp only at d|-;refine qS ?_;obtain⟨aW,hv1,hw1,d⟩:=rH d
  try simp only[go_sem] at hw1
  refine qG XJ ?_ (hp:=by exact⟨pW,pW,pW,pW,pW,(rG hv1)⟩) (h:=by simp only[go_sem,hw1];rfl)
  obtain⟨aX,hv2,hw2,d⟩:=rH d
  try simp only[go_sem] at hw2
  obtain⟨hg3,d⟩:=qP d;refine GB XJ ?_ (hp:=by exact⟨pW,pW,pW,pW,pW,rG hv2,pW,hg3⟩) (h:=by simp only[go_sem,hw2];rfl)
  cases d;exact pI [(0,0),(1,1),(2,2),(3,3),(4,4),(5,5),(6,6),(7,7),(8,8)]
def BF (O:(pG×(Int×Unit))) (Z:sP) (aA:Int) (aB:Int) (aC:sC) (aD:(pP×(Int×Unit))) (aE:pG) (aF:pG) (aG:pG) (aH:pH) (aI:(Int×((List r5)×Unit))) (aJ:Bool) (aK:pN) (aL:pH) (aM:pN):Option (Int×Int×pG×Int×Int×Int×Int×Int×(List r5)):=(tP O Z aA aB aC aD aK).bind fun aN=>(CT (O.1,(aN.1,())) (aN.2.1,(aN.2.2.1,(aN.2.2.2.1,(aN.2.2.2.2.1,())))) aA aB (aC.1,(aC.2.1,(aC.2.2.1,(aC.2.2.2.1,())))) (aD.1,(aN.2.2.2.2.2,())) (1:Int) (decide ((aI.2.1.length:Int)=(20:Int))) aK aE aF aG aH aI aJ aL aM).bind fun aO=>(zA (O.1,(aO.1,())) (aO.2.1,(aO.2.2.1,(aO.2.2.2.1,(aO.2.2.2.2.1,())))) aO.2.2.2.2.2.1 aO.2.2.2.2.2.2.1 (aC.1,(aC.2.1,(aC.2.2.1,(aC.2.2.2.1,())))) (aD.1,(aO.2.2.2.2.2.2.2,())) aK).bind fun aP=>(JV aI.2.1 aN.2.2.1 aO.2.2.1).bind fun aQ=>some ((aP.1,aP.2.1,aP.2.2.1,aP.2.2.2.1,aP.2.2.2.2.1,aP.2.2.2.2.2.1,aP.2.2.2.2.2.2.1,aP.2.2.2.2.2.2.2,aQ))
section
variable (O:(pG×(Int×Unit))) (Z:sP) (aA:Int) (aB:Int) (aC:sC) (aD:(pP×(Int×Unit))) (aE:Nat) (aF:Nat) (aG:pG) (aH:pG) (aI:pG) (aJ:pH) (aK:Nat) (aL:(Int×((List r5)×Unit))) (aM:Bool) (aN:Nat) (aO:Nat) (aP:pN) (aQ:pH) (aR:Nat) (aS:pN)
abbrev a8D:List qI:=[(.val .ref (some (0,0)),none),(.val .ref (some (3,0)),none)]
abbrev a8E:List qH:=[.cells sJ (O,(Z,(aA,(aB,(aC,((some 6),aD)))))) [(11,1),(13,2)],.grow 55 7 aE,.grow 3 1 aF,.cells u7 ((aG,(aH,(aI,(aJ,((some (7,aK)),aL))))),(aM,((some 8),()))) [(3,4),(6,5)],.grow 9 1 aN,.grow 149 2 aO,.map .str .bool aP,.row 9 .str aQ aR,.map .str .bool aS]
@[go_sem] def a8F:qQ:=⟨[aE=(aC.2.2.2.1.length),aF=(aD.1.length),aN=(aJ.length),aO=(aL.2.1.length),aK=aR,((BF O Z aA aB aC aD aG aH aI aJ aL aM aP aQ aS)).isSome=true],[],[.cells sJ ((O.1,((val (BF O Z aA aB aC aD aG aH aI aJ aL aM aP aQ aS)).1,())),(((val (BF O Z aA aB aC aD aG aH aI aJ aL aM aP aQ aS)).2.1,((val (BF O Z aA aB aC aD aG aH aI aJ aL aM aP aQ aS)).2.2.1,((val (BF O Z aA aB aC aD aG aH aI aJ aL aM aP aQ aS)).2.2.2.1,((val (BF O Z aA aB aC aD aG aH aI aJ aL aM aP aQ aS)).2.2.2.2.1,())))),((val (BF O Z aA aB aC aD aG aH aI aJ aL aM aP aQ aS)).2.2.2.2.2.1,((val (BF O Z aA aB aC aD aG aH aI aJ aL aM aP aQ aS)).2.2.2.2.2.2.1,((aC.1,(aC.2.1,(aC.2.2.1,(aC.2.2.2.1,())))),((some 6),(aD.1,((val (BF O Z aA aB aC aD aG aH aI aJ aL aM aP aQ aS)).2.2.2.2.2.2.2.1,())))))))) [(11,1),(13,2)],.grow 55 7 (aC.2.2.2.1.length),.grow 3 1 (aD.1.length),.cells u7 ((aG,(aH,(aI,(aJ,((some (7,(aQ.length))),(aL.1,((val (BF O Z aA aB aC aD aG aH aI aJ aL aM aP aQ aS)).2.2.2.2.2.2.2.2,()))))))),(aM,((some 8),()))) [(3,4),(6,9)],.grow 9 1 (aJ.length),.grow 149 2 (aL.2.1.length),.map .str .bool aP,.row 9 .str aQ (aQ.length),.map .str .bool aS,.grow 149 2 (((val (BF O Z aA aB aC aD aG aH aI aJ aL aM aP aQ aS)).2.2.2.2.2.2.2.2).length)]⟩
def aHa:List qI→List qH→Option qQ:=rT (V:=((pG×(Int×Unit))×sP×Int×Int×sC×(pP×(Int×Unit))×Nat×Nat×pG×pG×pG×pH×Nat×(Int×((List r5)×Unit))×Bool×Nat×Nat×pN×pH×Nat×pN)) (fun x=>a8D) (fun x=>a8E x.1 x.2.1 x.2.2.1 x.2.2.2.1 x.2.2.2.2.1 x.2.2.2.2.2.1 x.2.2.2.2.2.2.1 x.2.2.2.2.2.2.2.1 x.2.2.2.2.2.2.2.2.1 x.2.2.2.2.2.2.2.2.2.1 x.2.2.2.2.2.2.2.2.2.2.1 x.2.2.2.2.2.2.2.2.2.2.2.1 x.2.2.2.2.2.2.2.2.2.2.2.2.1 x.2.2.2.2.2.2.2.2.2.2.2.2.2.1 x.2.2.2.2.2.2.2.2.2.2.2.2.2.2.1 x.2.2.2.2.2.2.2.2.2.2.2.2.2.2.2.1 x.2.2.2.2.2.2.2.2.2.2.2.2.2.2.2.2.1 x.2.2.2.2.2.2.2.2.2.2.2.2.2.2.2.2.2.1 x.2.2.2.2.2.2.2.2.2.2.2.2.2.2.2.2.2.2.1 x.2.2.2.2.2.2.2.2.2.2.2.2.2.2.2.2.2.2.2.1 x.2.2.2.2.2.2.2.2.2.2.2.2.2.2.2.2.2.2.2.2) fun x=>a8F x.1 x.2.1 x.2.2.1 x.2.2.2.1 x.2.2.2.2.1 x.2.2.2.2.2.1 x.2.2.2.2.2.2.1 x.2.2.2.2.2.2.2.1 x.2.2.2.2.2.2.2.2.1 x.2.2.2.2.2.2.2.2.2.1 x.2.2.2.2.2.2.2.2.2.2.1 x.2.2.2.2.2.2.2.2.2.2.2.1 x.2.2.2.2.2.2.2.2.2.2.2.2.1 x.2.2.2.2.2.2.2.2.2.2.2.2.2.1 x.2.2.2.2.2.2.2.2.2.2.2.2.2.2.1 x.2.2.2.2.2.2.2.2.2.2.2.2.2.2.2.1 x.2.2.2.2.2.2.2.2.2.2.2.2.2.2.2.2.1 x.2.2.2.2.2.2.2.2.2.2.2.2.2.2.2.2.2.1 x.2.2.2.2.2.2.2.2.2.2.2.2.2.2.2.2.2.2.1 x.2.2.2.2.2.2.2.2.2.2.2.2.2.2.2.2.2.2.2.1 x.2.2.2.2.2.2.2.2.2.2.2.2.2.2.2.2.2.2.2.2
@[go_sem] def aUX:aHa (no_index a8D) (no_index (a8E O Z aA aB aC aD aE aF aG aH aI aJ aK aL aM aN aO aP aQ aR aS))=some (a8F O Z aA aB aC aD aE aF aG aH aI aJ aK aL aM aN aO aP aQ aR aS):=rV (fun⟨a0,a1,a2,a3,a4,a5,a6,a7,a8,a9,a10,a11,a12,a13,a14,a15,a16,a17,a18,a19,a20⟩ ⟨b0,b1,b2,b3,b4,b5,b6,b7,b8,b9,b10,b11,b12,b13,b14,tD,b16,b17,b18,b19,b20⟩ h1 h2=>by cases h1;cases h2;rfl) (O,Z,aA,aB,aC,aD,aE,aF,aG,aH,aI,aJ,aK,aL,aM,aN,aO,aP,aQ,aR,aS)
end
@[go_sem] abbrev a8G:Nat×rI:=(214,⟨[.p sJ [11,13],.p u7 [3,6]],aHa,[(0,12,.m),(3,4,.r),(3,8,.m)],[1,2,4,5,6,7,8],none⟩)
def aHb:rL Tryz.prog [] (rK [zO,a8a,II,a5X]):=⟨trivial,qU FP (qU aOC (qU XH (qU aOb rX))),rM⟩
def SO:rL Tryz.prog [y8,EC,O3,DE] (rK [zO,a8a,II,a5X]):=⟨⟨yX,⟨GG,⟨WI,⟨FD,trivial⟩⟩⟩⟩,aHb.Γ,rM⟩
def aOI:rP Tryz.prog a8G:=by
 refine rW aHb Tryz.func214 (c:=_) rfl (N:=32) pX (ts:=[]) rfl (fun _ _=>rfl) ?_;intro⟨O,Z,aA,aB,aC,aD,aE,aF,aG,aH,aI,aJ,aK,aL,aM,aN,aO,aP,aQ,aR,aS⟩ hs hrow;dsimp only[a8D,a8E,a8F,rQ,qW,rF,rO,rS,Nat.reduceAdd] at hs hrow|-;obtain⟨rfl,rfl,rfl,rfl,rfl,hz⟩:=hs;obtain⟨rfl,_⟩:=hrow;obtain⟨z0,d⟩:=aVb.1 hz
 try rw[s9 d]
 clear hz;unfold BF at d;refine qG SO ?_;obtain⟨aT,hv1,hw1,d⟩:=rH d
 try simp only[go_sem] at hw1
 refine qG SO ?_ (hp:=by exact⟨pW,pW,pW,pW,pW,(rG hv1)⟩) (h:=by simp only[go_sem,hw1];rfl)
 refine qG SO ?_;obtain⟨aU,hv2,hw2,d⟩:=rH d
 try simp only[go_sem] at hw2
 refine qG SO ?_ (hp:=by exact⟨pW,pW,pW,pW,pW,pW,pW,pW,pW,pW,pW,pW,pW,pW,(rG hv2)⟩) (h:=by simp only[go_sem,hw2];rfl)
 obtain⟨aV,hv3,hw3,d⟩:=rH d
 try simp only[go_sem] at hw3
 obtain⟨aW,hv4,hw4,d⟩:=rH d
 try simp only[go_sem] at hw4
 refine GB SO ?_ (hp:=by exact⟨pW,pW,pW,pW,pW,rG hv3,(rG hv4)⟩) (h:=by simp only[go_sem,hw3,hw4];rfl)
 cases d;exact pI [(0,0),(1,1),(2,2),(3,3),(4,4),(5,5),(6,6),(7,7),(8,8),(9,809)]
attribute [irreducible] zP BF
end
noncomputable section
def BV (O:(pG×(Int×Unit))) (Z:sP) (aA:Int) (aB:Int) (aC:sC) (aD:(pP×(Int×Unit))) (aE:pG) (aF:pG) (aG:pG) (aH:pH) (aI:(Int×((List r5)×Unit))) (aJ:Bool) (aK:pN) (aL:pH) (aM:pN):Option (Int×Int×pG×Int×Int×Int×Int×Int×pG):=(B7 O Z aA aB aC aD aE aF aG aH aI aJ aK aL aM).bind fun aN=>(zA (O.1,(aN.1,())) (aN.2.1,(aN.2.2.1,(aN.2.2.2.1,(aN.2.2.2.2.1,())))) aN.2.2.2.2.2.1 aN.2.2.2.2.2.2.1 (aC.1,(aC.2.1,(aC.2.2.1,(aC.2.2.2.1,())))) (aD.1,(aN.2.2.2.2.2.2.2,())) aK).bind fun aO=>some ((aO.1,aO.2.1,aO.2.2.1,aO.2.2.2.1,aO.2.2.2.2.1,aO.2.2.2.2.2.1,aO.2.2.2.2.2.2.1,aO.2.2.2.2.2.2.2,aN.2.2.1))
section
variable (O:(pG×(Int×Unit))) (Z:sP) (aA:Int) (aB:Int) (aC:sC) (aD:(pP×(Int×Unit))) (aE:Nat) (aF:Nat) (aG:pG) (aH:pG) (aI:pG) (aJ:pH) (aK:Nat) (aL:(Int×((List r5)×Unit))) (aM:Bool) (aN:Nat) (aO:Nat) (aP:pN) (aQ:pH) (aR:Nat) (aS:pN)
abbrev a8H:List qI:=[(.val .ref (some (0,0)),none),(.val .ref (some (3,0)),none)]
abbrev a8I:List qH:=[.cells sJ (O,(Z,(aA,(aB,(aC,((some 6),aD)))))) [(11,1),(13,2)],.grow 55 7 aE,.grow 3 1 aF,.cells u7 ((aG,(aH,(aI,(aJ,((some (7,aK)),aL))))),(aM,((some 8),()))) [(3,4),(6,5)],.grow 9 1 aN,.grow 149 2 aO,.map .str .bool aP,.row 9 .str aQ aR,.map .str .bool aS]
@[go_sem] def a8J:qQ:=⟨[aE=(aC.2.2.2.1.length),aF=(aD.1.length),aN=(aJ.length),aO=(aL.2.1.length),aK=aR,((BV O Z aA aB aC aD aG aH aI aJ aL aM aP aQ aS)).isSome=true],[],[.cells sJ ((O.1,((val (BV O Z aA aB aC aD aG aH aI aJ aL aM aP aQ aS)).1,())),(((val (BV O Z aA aB aC aD aG aH aI aJ aL aM aP aQ aS)).2.1,((val (BV O Z aA aB aC aD aG aH aI aJ aL aM aP aQ aS)).2.2.1,((val (BV O Z aA aB aC aD aG aH aI aJ aL aM aP aQ aS)).2.2.2.1,((val (BV O Z aA aB aC aD aG aH aI aJ aL aM aP aQ aS)).2.2.2.2.1,())))),((val (BV O Z aA aB aC aD aG aH aI aJ aL aM aP aQ aS)).2.2.2.2.2.1,((val (BV O Z aA aB aC aD aG aH aI aJ aL aM aP aQ aS)).2.2.2.2.2.2.1,((aC.1,(aC.2.1,(aC.2.2.1,(aC.2.2.2.1,())))),((some 6),(aD.1,((val (BV O Z aA aB aC aD aG aH aI aJ aL aM aP aQ aS)).2.2.2.2.2.2.2.1,())))))))) [(11,1),(13,2)],.grow 55 7 (aC.2.2.2.1.length),.grow 3 1 (aD.1.length),.cells u7 ((aG,((val (BV O Z aA aB aC aD aG aH aI aJ aL aM aP aQ aS)).2.2.2.2.2.2.2.2,(aI,(aJ,((some (7,(aQ.length))),(aL.1,(aL.2.1,()))))))),(aM,((some 8),()))) [(3,4),(6,5)],.grow 9 1 (aJ.length),.grow 149 2 (aL.2.1.length),.map .str .bool aP,.row 9 .str aQ (aQ.length),.map .str .bool (tY .str .bool Z.2.1 true aS)]⟩
def aHc:List qI→List qH→Option qQ:=rT (V:=((pG×(Int×Unit))×sP×Int×Int×sC×(pP×(Int×Unit))×Nat×Nat×pG×pG×pG×pH×Nat×(Int×((List r5)×Unit))×Bool×Nat×Nat×pN×pH×Nat×pN)) (fun x=>a8H) (fun x=>a8I x.1 x.2.1 x.2.2.1 x.2.2.2.1 x.2.2.2.2.1 x.2.2.2.2.2.1 x.2.2.2.2.2.2.1 x.2.2.2.2.2.2.2.1 x.2.2.2.2.2.2.2.2.1 x.2.2.2.2.2.2.2.2.2.1 x.2.2.2.2.2.2.2.2.2.2.1 x.2.2.2.2.2.2.2.2.2.2.2.1 x.2.2.2.2.2.2.2.2.2.2.2.2.1 x.2.2.2.2.2.2.2.2.2.2.2.2.2.1 x.2.2.2.2.2.2.2.2.2.2.2.2.2.2.1 x.2.2.2.2.2.2.2.2.2.2.2.2.2.2.2.1 x.2.2.2.2.2.2.2.2.2.2.2.2.2.2.2.2.1 x.2.2.2.2.2.2.2.2.2.2.2.2.2.2.2.2.2.1 x.2.2.2.2.2.2.2.2.2.2.2.2.2.2.2.2.2.2.1 x.2.2.2.2.2.2.2.2.2.2.2.2.2.2.2.2.2.2.2.1 x.2.2.2.2.2.2.2.2.2.2.2.2.2.2.2.2.2.2.2.2) fun x=>a8J x.1 x.2.1 x.2.2.1 x.2.2.2.1 x.2.2.2.2.1 x.2.2.2.2.2.1 x.2.2.2.2.2.2.1 x.2.2.2.2.2.2.2.1 x.2.2.2.2.2.2.2.2.1 x.2.2.2.2.2.2.2.2.2.1 x.2.2.2.2.2.2.2.2.2.2.1 x.2.2.2.2.2.2.2.2.2.2.2.1 x.2.2.2.2.2.2.2.2.2.2.2.2.1 x.2.2.2.2.2.2.2.2.2.2.2.2.2.1 x.2.2.2.2.2.2.2.2.2.2.2.2.2.2.1 x.2.2.2.2.2.2.2.2.2.2.2.2.2.2.2.1 x.2.2.2.2.2.2.2.2.2.2.2.2.2.2.2.2.1 x.2.2.2.2.2.2.2.2.2.2.2.2.2.2.2.2.2.1 x.2.2.2.2.2.2.2.2.2.2.2.2.2.2.2.2.2.2.1 x.2.2.2.2.2.2.2.2.2.2.2.2.2.2.2.2.2.2.2.1 x.2.2.2.2.2.2.2.2.2.2.2.2.2.2.2.2.2.2.2.2
@[go_sem] def aUY:aHc (no_index a8H) (no_index (a8I O Z aA aB aC aD aE aF aG aH aI aJ aK aL aM aN aO aP aQ aR aS))=some (a8J O Z aA aB aC aD aE aF aG aH aI aJ aK aL aM aN aO aP aQ aR aS):=rV (fun⟨a0,a1,a2,a3,a4,a5,a6,a7,a8,a9,a10,a11,a12,a13,a14,a15,a16,a17,a18,a19,a20⟩ ⟨b0,b1,b2,b3,b4,b5,b6,b7,b8,b9,b10,b11,b12,b13,b14,tD,b16,b17,b18,b19,b20⟩ h1 h2=>by cases h1;cases h2;rfl) (O,Z,aA,aB,aC,aD,aE,aF,aG,aH,aI,aJ,aK,aL,aM,aN,aO,aP,aQ,aR,aS)
end
@[go_sem] abbrev a8K:Nat×rI:=(215,⟨[.p sJ [11,13],.p u7 [3,6]],aHc,[(0,12,.m),(3,4,.r),(3,8,.m)],[1,2,4,5,6,7],none⟩)
def aHd:rL Tryz.prog [] (rK [M6,II]):=⟨trivial,qU a7S (qU XH rX),rM⟩
def aHe:rL Tryz.prog [sM,EC,DE] (rK [M6,II]):=⟨⟨sO,⟨GG,⟨FD,trivial⟩⟩⟩,aHd.Γ,rM⟩
def aOJ:rP Tryz.prog a8K:=by
 refine rW aHd Tryz.func215 (c:=_) rfl (N:=13) pX (ts:=[]) rfl (fun _ _=>rfl) ?_;intro⟨O,Z,aA,aB,aC,aD,aE,aF,aG,aH,aI,aJ,aK,aL,aM,aN,aO,aP,aQ,aR,aS⟩ hs hrow;dsimp only[a8H,a8I,a8J,rQ,qW,rF,rO,rS,Nat.reduceAdd] at hs hrow|-;obtain⟨rfl,rfl,rfl,rfl,rfl,hz⟩:=hs;obtain⟨rfl,_⟩:=hrow;obtain⟨z0,d⟩:=aVb.1 hz
 try rw[s9 d]
 clear hz;unfold BV at d;obtain⟨aT,hv1,hw1,d⟩:=rH d
 try simp only[go_sem] at hw1
 refine qG aHe ?_ (hp:=by exact⟨pW,pW,pW,pW,pW,pW,pW,pW,pW,pW,pW,pW,(rG hv1)⟩) (h:=by simp only[go_sem,hw1];rfl)
 obtain⟨aU,hv2,hw2,d⟩:=rH d
 try simp only[go_sem] at hw2
 refine rY aHe ?_ (hp:=by exact⟨pW,pW,pW,pW,pW,(rG hv2)⟩) (h:=by simp only[go_sem,hw2];rfl)
 cases d;exact pI [(0,0),(1,1),(2,2),(3,3),(4,4),(5,5),(6,6),(7,7),(8,8)]
def BW (O:(pG×(Int×Unit))) (Z:sP) (aA:Int) (aB:Int) (aC:sC) (aD:(pP×(Int×Unit))) (aE:pG) (aF:pG) (aG:pG) (aH:pH) (aI:(Int×((List r5)×Unit))) (aJ:Bool) (aK:pN) (aL:pH) (aM:pN):Option (Int×Int×pG×Int×Int×Int×Int×Int×pG):=(B7 O Z aA aB aC aD aE aF aG aH aI aJ aK aL aM).bind fun aN=>(zA (O.1,(aN.1,())) (aN.2.1,(aN.2.2.1,(aN.2.2.2.1,(aN.2.2.2.2.1,())))) aN.2.2.2.2.2.1 aN.2.2.2.2.2.2.1 (aC.1,(aC.2.1,(aC.2.2.1,(aC.2.2.2.1,())))) (aD.1,(aN.2.2.2.2.2.2.2,())) aK).bind fun aO=>some ((aO.1,aO.2.1,aO.2.2.1,aO.2.2.2.1,aO.2.2.2.2.1,aO.2.2.2.2.2.1,aO.2.2.2.2.2.2.1,aO.2.2.2.2.2.2.2,aN.2.2.1))
section
variable (O:(pG×(Int×Unit))) (Z:sP) (aA:Int) (aB:Int) (aC:sC) (aD:(pP×(Int×Unit))) (aE:Nat) (aF:Nat) (aG:pG) (aH:pG) (aI:pG) (aJ:pH) (aK:Nat) (aL:(Int×((List r5)×Unit))) (aM:Bool) (aN:Nat) (aO:Nat) (aP:pN) (aQ:pH) (aR:Nat) (aS:pN)
abbrev a8L:List qI:=[(.val .ref (some (0,0)),none),(.val .ref (some (3,0)),none)]
abbrev a8M:List qH:=[.cells sJ (O,(Z,(aA,(aB,(aC,((some 6),aD)))))) [(11,1),(13,2)],.grow 55 7 aE,.grow 3 1 aF,.cells u7 ((aG,(aH,(aI,(aJ,((some (7,aK)),aL))))),(aM,((some 8),()))) [(3,4),(6,5)],.grow 9 1 aN,.grow 149 2 aO,.map .str .bool aP,.row 9 .str aQ aR,.map .str .bool aS]
@[go_sem] def a8N:qQ:=⟨[aE=(aC.2.2.2.1.length),aF=(aD.1.length),aN=(aJ.length),aO=(aL.2.1.length),aK=aR,((BW O Z aA aB aC aD aG aH aI aJ aL aM aP aQ aS)).isSome=true],[],[.cells sJ ((O.1,((val (BW O Z aA aB aC aD aG aH aI aJ aL aM aP aQ aS)).1,())),(((val (BW O Z aA aB aC aD aG aH aI aJ aL aM aP aQ aS)).2.1,((val (BW O Z aA aB aC aD aG aH aI aJ aL aM aP aQ aS)).2.2.1,((val (BW O Z aA aB aC aD aG aH aI aJ aL aM aP aQ aS)).2.2.2.1,((val (BW O Z aA aB aC aD aG aH aI aJ aL aM aP aQ aS)).2.2.2.2.1,())))),((val (BW O Z aA aB aC aD aG aH aI aJ aL aM aP aQ aS)).2.2.2.2.2.1,((val (BW O Z aA aB aC aD aG aH aI aJ aL aM aP aQ aS)).2.2.2.2.2.2.1,((aC.1,(aC.2.1,(aC.2.2.1,(aC.2.2.2.1,())))),((some 6),(aD.1,((val (BW O Z aA aB aC aD aG aH aI aJ aL aM aP aQ aS)).2.2.2.2.2.2.2.1,())))))))) [(11,1),(13,2)],.grow 55 7 (aC.2.2.2.1.length),.grow 3 1 (aD.1.length),.cells u7 ((aG,(aH,((val (BW O Z aA aB aC aD aG aH aI aJ aL aM aP aQ aS)).2.2.2.2.2.2.2.2,(aJ,((some (7,(aQ.length))),(aL.1,(aL.2.1,()))))))),(aM,((some 8),()))) [(3,4),(6,5)],.grow 9 1 (aJ.length),.grow 149 2 (aL.2.1.length),.map .str .bool aP,.row 9 .str aQ (aQ.length),.map .str .bool (tY .str .bool Z.2.1 true aS)]⟩
def aHf:List qI→List qH→Option qQ:=rT (V:=((pG×(Int×Unit))×sP×Int×Int×sC×(pP×(Int×Unit))×Nat×Nat×pG×pG×pG×pH×Nat×(Int×((List r5)×Unit))×Bool×Nat×Nat×pN×pH×Nat×pN)) (fun x=>a8L) (fun x=>a8M x.1 x.2.1 x.2.2.1 x.2.2.2.1 x.2.2.2.2.1 x.2.2.2.2.2.1 x.2.2.2.2.2.2.1 x.2.2.2.2.2.2.2.1 x.2.2.2.2.2.2.2.2.1 x.2.2.2.2.2.2.2.2.2.1 x.2.2.2.2.2.2.2.2.2.2.1 x.2.2.2.2.2.2.2.2.2.2.2.1 x.2.2.2.2.2.2.2.2.2.2.2.2.1 x.2.2.2.2.2.2.2.2.2.2.2.2.2.1 x.2.2.2.2.2.2.2.2.2.2.2.2.2.2.1 x.2.2.2.2.2.2.2.2.2.2.2.2.2.2.2.1 x.2.2.2.2.2.2.2.2.2.2.2.2.2.2.2.2.1 x.2.2.2.2.2.2.2.2.2.2.2.2.2.2.2.2.2.1 x.2.2.2.2.2.2.2.2.2.2.2.2.2.2.2.2.2.2.1 x.2.2.2.2.2.2.2.2.2.2.2.2.2.2.2.2.2.2.2.1 x.2.2.2.2.2.2.2.2.2.2.2.2.2.2.2.2.2.2.2.2) fun x=>a8N x.1 x.2.1 x.2.2.1 x.2.2.2.1 x.2.2.2.2.1 x.2.2.2.2.2.1 x.2.2.2.2.2.2.1 x.2.2.2.2.2.2.2.1 x.2.2.2.2.2.2.2.2.1 x.2.2.2.2.2.2.2.2.2.1 x.2.2.2.2.2.2.2.2.2.2.1 x.2.2.2.2.2.2.2.2.2.2.2.1 x.2.2.2.2.2.2.2.2.2.2.2.2.1 x.2.2.2.2.2.2.2.2.2.2.2.2.2.1 x.2.2.2.2.2.2.2.2.2.2.2.2.2.2.1 x.2.2.2.2.2.2.2.2.2.2.2.2.2.2.2.1 x.2.2.2.2.2.2.2.2.2.2.2.2.2.2.2.2.1 x.2.2.2.2.2.2.2.2.2.2.2.2.2.2.2.2.2.1 x.2.2.2.2.2.2.2.2.2.2.2.2.2.2.2.2.2.2.1 x.2.2.2.2.2.2.2.2.2.2.2.2.2.2.2.2.2.2.2.1 x.2.2.2.2.2.2.2.2.2.2.2.2.2.2.2.2.2.2.2.2
@[go_sem] def aUZ:aHf (no_index a8L) (no_index (a8M O Z aA aB aC aD aE aF aG aH aI aJ aK aL aM aN aO aP aQ aR aS))=some (a8N O Z aA aB aC aD aE aF aG aH aI aJ aK aL aM aN aO aP aQ aR aS):=rV (fun⟨a0,a1,a2,a3,a4,a5,a6,a7,a8,a9,a10,a11,a12,a13,a14,a15,a16,a17,a18,a19,a20⟩ ⟨b0,b1,b2,b3,b4,b5,b6,b7,b8,b9,b10,b11,b12,b13,b14,tD,b16,b17,b18,b19,b20⟩ h1 h2=>by cases h1;cases h2;rfl) (O,Z,aA,aB,aC,aD,aE,aF,aG,aH,aI,aJ,aK,aL,aM,aN,aO,aP,aQ,aR,aS)
end
@[go_sem] abbrev a8O:Nat×rI:=(216,⟨[.p sJ [11,13],.p u7 [3,6]],aHf,[(0,12,.m),(3,4,.r),(3,8,.m)],[1,2,4,5,6,7],none⟩)
def aHg:rL Tryz.prog [] (rK [M6,II]):=⟨trivial,qU a7S (qU XH rX),rM⟩
def aHh:rL Tryz.prog [sM,EC,DE] (rK [M6,II]):=⟨⟨sO,⟨GG,⟨FD,trivial⟩⟩⟩,aHg.Γ,rM⟩
def aOK:rP Tryz.prog a8O:=by
 refine rW aHg Tryz.func216 (c:=_) rfl (N:=13) pX (ts:=[]) rfl (fun _ _=>rfl) ?_;intro⟨O,Z,aA,aB,aC,aD,aE,aF,aG,aH,aI,aJ,aK,aL,aM,aN,aO,aP,aQ,aR,aS⟩ hs hrow;dsimp only[a8L,a8M,a8N,rQ,qW,rF,rO,rS,Nat.reduceAdd] at hs hrow|-;obtain⟨rfl,rfl,rfl,rfl,rfl,hz⟩:=hs;obtain⟨rfl,_⟩:=hrow;obtain⟨z0,d⟩:=aVb.1 hz
 try rw[s9 d]
 clear hz;unfold BW at d;obtain⟨aT,hv1,hw1,d⟩:=rH d
 try simp only[go_sem] at hw1
 refine qG aHh ?_ (hp:=by exact⟨pW,pW,pW,pW,pW,pW,pW,pW,pW,pW,pW,pW,(rG hv1)⟩) (h:=by simp only[go_sem,hw1];rfl)
 obtain⟨aU,hv2,hw2,d⟩:=rH d
 try simp only[go_sem] at hw2
 refine rY aHh ?_ (hp:=by exact⟨pW,pW,pW,pW,pW,(rG hv2)⟩) (h:=by simp only[go_sem,hw2];rfl)
 cases d;exact pI [(0,0),(1,1),(2,2),(3,3),(4,4),(5,5),(6,6),(7,7),(8,8)]
attribute [irreducible] BV BW
end
noncomputable section
def wY (O:(pG×(Int×Unit))) (Z:sC) (aA:(pP×(Int×Unit))) (aB:Bool) (aC:pN):(Int×Int×pG×Int×Int×Int×Int×Int×pG×pG×pH×Int×(List r5)×pH×pN)→Option ((Int×Int×pG×Int×Int×Int×Int×Int×pG×pG×pH×Int×(List r5)×pH×pN)⊕(Int×Int×pG×Int×Int×Int×Int×Int×pG×pG×pH×Int×(List r5)×pH×pN)):=fun(aD,aE,aF,aG,aH,aI,aJ,aK,aL,aM,aN,aO,aP,aQ,aR)=>if ((decide (aJ=(0:Int)))&&(decide (aE=(2:Int))))=true then if (!(yF .str .fn (y9 ([]:pG) aL aM aN (aO,(aP,())) aB aQ aR) aF))=true then sH (vH (O.1,(aD,())) (aE,(aF,(aG,(aH,())))) aI aJ (Z.1,(Z.2.1,(Z.2.2.1,(Z.2.2.2.1,())))) (aA.1,(aK,())) (3:Int) aC) fun aS=>some (.inr (aD,aE,aF,aG,aH,aS.1,aS.2,aK,aL,aM,aN,aO,aP,aQ,aR)) else sH (sR .str .fn (y9 ([]:pG) aL aM aN (aO,(aP,())) aB aQ aR) aF) fun aT=>if aT=some 213 then (zP (O.1,(aD,())) (aE,(aF,(aG,(aH,())))) aI aJ (Z.1,(Z.2.1,(Z.2.2.1,(Z.2.2.2.1,())))) (aA.1,(aK,())) ([]:pG) aL aM aN (aO,(aP,())) aB aC aQ aR).bind fun aU=>some (.inl (aU.1,aU.2.1,aU.2.2.1,aU.2.2.2.1,aU.2.2.2.2.1,aU.2.2.2.2.2.1,aU.2.2.2.2.2.2.1,aU.2.2.2.2.2.2.2.1,aL,aM,aU.2.2.2.2.2.2.2.2,aO,aP,aQ,aR)) else if aT=some 214 then (BF (O.1,(aD,())) (aE,(aF,(aG,(aH,())))) aI aJ (Z.1,(Z.2.1,(Z.2.2.1,(Z.2.2.2.1,())))) (aA.1,(aK,())) ([]:pG) aL aM aN (aO,(aP,())) aB aC aQ aR).bind fun aV=>some (.inl (aV.1,aV.2.1,aV.2.2.1,aV.2.2.2.1,aV.2.2.2.2.1,aV.2.2.2.2.2.1,aV.2.2.2.2.2.2.1,aV.2.2.2.2.2.2.2.1,aL,aM,aN,aO,aV.2.2.2.2.2.2.2.2,aQ,aR)) else if aT=some 215 then (BV (O.1,(aD,())) (aE,(aF,(aG,(aH,())))) aI aJ (Z.1,(Z.2.1,(Z.2.2.1,(Z.2.2.2.1,())))) (aA.1,(aK,())) ([]:pG) aL aM aN (aO,(aP,())) aB aC aQ aR).bind fun aW=>some (.inl (aW.1,aW.2.1,aW.2.2.1,aW.2.2.2.1,aW.2.2.2.2.1,aW.2.2.2.2.2.1,aW.2.2.2.2.2.2.1,aW.2.2.2.2.2.2.2.1,aW.2.2.2.2.2.2.2.2,aM,aN,aO,aP,aQ,(tY .str .bool aF true aR))) else if aT=some 216 then (BW (O.1,(aD,())) (aE,(aF,(aG,(aH,())))) aI aJ (Z.1,(Z.2.1,(Z.2.2.1,(Z.2.2.2.1,())))) (aA.1,(aK,())) ([]:pG) aL aM aN (aO,(aP,())) aB aC aQ aR).bind fun aX=>some (.inl (aX.1,aX.2.1,aX.2.2.1,aX.2.2.2.1,aX.2.2.2.2.1,aX.2.2.2.2.2.1,aX.2.2.2.2.2.2.1,aX.2.2.2.2.2.2.2.1,aL,aX.2.2.2.2.2.2.2.2,aN,aO,aP,aQ,(tY .str .bool aF true aR))) else if aT=some 217 then (BU (O.1,(aD,())) (aE,(aF,(aG,(aH,())))) aI aJ (Z.1,(Z.2.1,(Z.2.2.1,(Z.2.2.2.1,())))) (aA.1,(aK,())) ([]:pG) aL aM aN (aO,(aP,())) aB aC aQ aR).bind fun aY=>some (.inl (aY.1,aY.2.1,aY.2.2.1,aY.2.2.2.1,aY.2.2.2.2.1,aY.2.2.2.2.2.1,aY.2.2.2.2.2.2.1,aY.2.2.2.2.2.2.2.1,aL,aM,aN,aY.2.2.2.2.2.2.2.2,aP,aQ,(tY .str .bool aF true aR))) else if aT=some 218 then (AH (O.1,(aD,())) (aE,(aF,(aG,(aH,())))) aI aJ (Z.1,(Z.2.1,(Z.2.2.1,(Z.2.2.2.1,())))) (aA.1,(aK,())) ([]:pG) aL aM aN (aO,(aP,())) aB aC aQ aR).bind fun aZ=>some (.inl (aZ.1,aZ.2.1,aZ.2.2.1,aZ.2.2.2.1,aZ.2.2.2.2.1,aZ.2.2.2.2.2.1,aZ.2.2.2.2.2.2.1,aZ.2.2.2.2.2.2.2.1,aL,aM,aN,aO,aP,aZ.2.2.2.2.2.2.2.2,aR)) else none else some (.inr (aD,aE,aF,aG,aH,aI,aJ,aK,aL,aM,aN,aO,aP,aQ,aR))
def wO (O:(pG×(Int×Unit))) (Z:sP) (aA:Int) (aB:Int) (aC:sC) (aD:(pP×(Int×Unit))) (aE:Bool) (aF:pN):Option (pG×pG×pH×pH×Int×(List r5)×Int×Int×pG×Int×Int×Int×Int×pP×Int):=(z8 O Z aA aB aC aD (3:Int) ([123]:pG) aF).bind fun aG=>sB (rE (wY O aC aD aE aF) (aG.1,aG.2.1,aG.2.2.1,aG.2.2.2.1,aG.2.2.2.2.1,aG.2.2.2.2.2.1,aG.2.2.2.2.2.2.1,aG.2.2.2.2.2.2.2,([]:pG),([]:pG),([]:pH),(0:Int),([]:List r5),([]:pH),([]:pN))) fun(aH,aI,aJ,aK,aL,aM,aN,aO,aP,aQ,aR,aS,aT,aU,aV)=>(z8 (O.1,(aH,())) (aI,(aJ,(aK,(aL,())))) aM aN (aC.1,(aC.2.1,(aC.2.2.1,(aC.2.2.2.1,())))) (aD.1,(aO,())) (3:Int) ([125]:pG) aF).bind fun aW=>if (aU.length)<4611686018427387904 then if (aD.1.length+([aW.2.2.2.2.2.2.2]:pP).length)*8≤140737488355328 then some ((aP,aQ,aR,(xF aU),aS,aT,aW.1,aW.2.1,aW.2.2.1,aW.2.2.2.1,aW.2.2.2.2.1,aW.2.2.2.2.2.1,aW.2.2.2.2.2.2.1,(aD.1++([aW.2.2.2.2.2.2.2]:pP)),aW.2.2.2.2.2.2.2)) else none else none
section
variable (O:Bool) (Z:(pG×(Int×Unit))) (aA:sP) (aB:Int) (aC:Int) (aD:sC) (aE:(pP×(Int×Unit))) (aF:Nat) (aG:Nat) (aH:pN)
abbrev a8P:List qI:=[(.val .ref (some (0,0)),none),(.val .bool O,none)]
abbrev a8Q:List qH:=[.cells sJ (Z,(aA,(aB,(aC,(aD,((some 3),aE)))))) [(11,1),(13,2)],.grow 55 7 aF,.grow 3 1 aG,.map .str .bool aH]
@[go_sem] def a8R:qQ:=⟨[aF=(aD.2.2.2.1.length),aG=(aE.1.length),((wO Z aA aB aC aD aE O aH)).isSome=true],[(.val t7 (([]:pG),((val (wO Z aA aB aC aD aE O aH)).1,((val (wO Z aA aB aC aD aE O aH)).2.1,((val (wO Z aA aB aC aD aE O aH)).2.2.1,((val (wO Z aA aB aC aD aE O aH)).2.2.2.1,((val (wO Z aA aB aC aD aE O aH)).2.2.2.2.1,((val (wO Z aA aB aC aD aE O aH)).2.2.2.2.2.1,()))))))),none)],[.cells sJ ((Z.1,((val (wO Z aA aB aC aD aE O aH)).2.2.2.2.2.2.1,())),(((val (wO Z aA aB aC aD aE O aH)).2.2.2.2.2.2.2.1,((val (wO Z aA aB aC aD aE O aH)).2.2.2.2.2.2.2.2.1,((val (wO Z aA aB aC aD aE O aH)).2.2.2.2.2.2.2.2.2.1,((val (wO Z aA aB aC aD aE O aH)).2.2.2.2.2.2.2.2.2.2.1,())))),((val (wO Z aA aB aC aD aE O aH)).2.2.2.2.2.2.2.2.2.2.2.1,((val (wO Z aA aB aC aD aE O aH)).2.2.2.2.2.2.2.2.2.2.2.2.1,((aD.1,(aD.2.1,(aD.2.2.1,(aD.2.2.2.1,())))),((some 3),((val (wO Z aA aB aC aD aE O aH)).2.2.2.2.2.2.2.2.2.2.2.2.2.1,((val (wO Z aA aB aC aD aE O aH)).2.2.2.2.2.2.2.2.2.2.2.2.2.2,())))))))) [(11,1),(13,2)],.grow 55 7 (aD.2.2.2.1.length),.grow 3 1 (((val (wO Z aA aB aC aD aE O aH)).2.2.2.2.2.2.2.2.2.2.2.2.2.1).length),.map .str .bool aH]⟩
def aHi:List qI→List qH→Option qQ:=rT (V:=(Bool×(pG×(Int×Unit))×sP×Int×Int×sC×(pP×(Int×Unit))×Nat×Nat×pN)) (fun x=>a8P x.1) (fun x=>a8Q x.2.1 x.2.2.1 x.2.2.2.1 x.2.2.2.2.1 x.2.2.2.2.2.1 x.2.2.2.2.2.2.1 x.2.2.2.2.2.2.2.1 x.2.2.2.2.2.2.2.2.1 x.2.2.2.2.2.2.2.2.2) fun x=>a8R x.1 x.2.1 x.2.2.1 x.2.2.2.1 x.2.2.2.2.1 x.2.2.2.2.2.1 x.2.2.2.2.2.2.1 x.2.2.2.2.2.2.2.1 x.2.2.2.2.2.2.2.2.1 x.2.2.2.2.2.2.2.2.2
@[go_sem] def aU0:aHi (no_index (a8P O)) (no_index (a8Q Z aA aB aC aD aE aF aG aH))=some (a8R O Z aA aB aC aD aE aF aG aH):=rV (fun⟨a0,a1,a2,a3,a4,a5,a6,a7,a8,a9⟩ ⟨b0,b1,b2,b3,b4,b5,b6,b7,b8,b9⟩ h1 h2=>by cases h1;cases h2;rfl) (O,Z,aA,aB,aC,aD,aE,aF,aG,aH)
end
@[go_sem] abbrev a8S:Nat×rI:=(126,⟨[.p sJ [11,13],.v],aHi,[(0,12,.m)],[1,3],none⟩)
def XK:rL Tryz.prog [B3,a1K] (rK [SM,a3s,B6,a8C,a8G,a8K,a8O,a8t,a8y,a1M]):=⟨⟨CL,⟨aNl,trivial⟩⟩,qU a8i (qU aNF (qU GK (qU aOH (qU aOI (qU aOJ (qU aOK (qU aOF (qU aOG (qU aNs rX))))))))),rM⟩
def BX:rL Tryz.prog [vP,GE,sM,wH,HW,EC,B4,JG,JH,yY,DE,WE,WF] (rK [SM,a3s,B6,a8C,a8G,a8K,a8O,a8t,a8y,a1M]):=⟨⟨w8,⟨JF,⟨sO,⟨wX,⟨LO,⟨GG,⟨CM,⟨O0,⟨O2,⟨AC,⟨FD,⟨aDv,⟨aDw,trivial⟩⟩⟩⟩⟩⟩⟩⟩⟩⟩⟩⟩⟩,XK.Γ,rM⟩
def aHj:rP Tryz.prog a8S:=by
 refine rW XK Tryz.func126 (c:=_) rfl (N:=71) pX (ts:=[(4,some 55)]) rfl (fun _ _=>rfl) ?_;intro⟨O,Z,aA,aB,aC,aD,aE,aF,aG,aH⟩ hs hrow;dsimp only[a8P,a8Q,a8R,rQ,qW,rF,rO,rS,Nat.reduceAdd] at hs hrow|-;obtain⟨rfl,rfl,hz⟩:=hs;obtain⟨z0,e⟩:=aVb.1 hz
 try rw[s9 e]
 clear hz;unfold wO at e;refine qG XK ?_;refine qG BX ?_;obtain⟨aI,hv1,hw1,e⟩:=rH e
 try simp only[go_sem] at hw1
 refine qG BX ?_ (hp:=by exact⟨pW,pW,pW,pW,pW,(rG hv1)⟩) (h:=by simp only[go_sem,hw1];rfl)
 refine qZ (sA ?_);obtain⟨y1,hy1,e⟩:=qK e;refine uS 0 (fun s=>s=(fun x=>⟨[(0,(.val .ref (some (0,0)),none)),(4,(.val .ref (some (4,0)),none)),(5,(.val .ref (some (5,0)),none))],[(0,.cells sJ ((Z.1,(x.1,())),((x.2.1,(x.2.2.1,(x.2.2.2.1,(x.2.2.2.2.1,())))),(x.2.2.2.2.2.1,(x.2.2.2.2.2.2.1,((aD.1,(aD.2.1,(aD.2.2.1,(aD.2.2.2.1,())))),((some 3),(aE.1,(x.2.2.2.2.2.2.2.1,())))))))) [(11,1),(13,2)]),(1,.grow 55 7 (aD.2.2.2.1.length)),(2,.grow 3 1 (aE.1.length)),(3,.map .str .bool aH),(4,.cells t7 (([]:pG),(([]:pG),(([]:pG),(([]:pH),(([]:pH),((0:Int),(([]:List r5),()))))))) [(3,6),(4,7),(6,8)]),(5,.cells u7 ((([]:pG),(x.2.2.2.2.2.2.2.2.1,(x.2.2.2.2.2.2.2.2.2.1,(x.2.2.2.2.2.2.2.2.2.2.1,((some (9,(x.2.2.2.2.2.2.2.2.2.2.2.2.2.1.length))),(x.2.2.2.2.2.2.2.2.2.2.2.1,(x.2.2.2.2.2.2.2.2.2.2.2.2.1,()))))))),(O,((some 10),()))) [(3,11),(6,12)]),(6,.grow 9 1 (([]:pH).length)),(7,.grow 9 1 (([]:pH).length)),(8,.grow 149 2 (([]:List r5).length)),(9,.row 9 .str x.2.2.2.2.2.2.2.2.2.2.2.2.2.1 (x.2.2.2.2.2.2.2.2.2.2.2.2.2.1.length)),(10,.map .str .bool x.2.2.2.2.2.2.2.2.2.2.2.2.2.2),(11,.grow 9 1 (x.2.2.2.2.2.2.2.2.2.2.1.length)),(12,.grow 149 2 (x.2.2.2.2.2.2.2.2.2.2.2.2.1.length))],13,71,4⟩) y1) ?_ ?_
 .refine uR hy1 (fun x=>⟨[(0,(.val .ref (some (0,0)),none)),(4,(.val .ref (some (4,0)),none)),(5,(.val .ref (some (5,0)),none))],[(0,.cells sJ ((Z.1,(x.1,())),((x.2.1,(x.2.2.1,(x.2.2.2.1,(x.2.2.2.2.1,())))),(x.2.2.2.2.2.1,(x.2.2.2.2.2.2.1,((aD.1,(aD.2.1,(aD.2.2.1,(aD.2.2.2.1,())))),((some 3),(aE.1,(x.2.2.2.2.2.2.2.1,())))))))) [(11,1),(13,2)]),(1,.grow 55 7 (aD.2.2.2.1.length)),(2,.grow 3 1 (aE.1.length)),(3,.map .str .bool aH),(4,.cells t7 (([]:pG),(([]:pG),(([]:pG),(([]:pH),(([]:pH),((0:Int),(([]:List r5),()))))))) [(3,6),(4,7),(6,8)]),(5,.cells u7 ((([]:pG),(x.2.2.2.2.2.2.2.2.1,(x.2.2.2.2.2.2.2.2.2.1,(x.2.2.2.2.2.2.2.2.2.2.1,((some (9,(x.2.2.2.2.2.2.2.2.2.2.2.2.2.1.length))),(x.2.2.2.2.2.2.2.2.2.2.2.1,(x.2.2.2.2.2.2.2.2.2.2.2.2.1,()))))))),(O,((some 10),()))) [(3,11),(6,12)]),(6,.grow 9 1 (([]:pH).length)),(7,.grow 9 1 (([]:pH).length)),(8,.grow 149 2 (([]:List r5).length)),(9,.row 9 .str x.2.2.2.2.2.2.2.2.2.2.2.2.2.1 (x.2.2.2.2.2.2.2.2.2.2.2.2.2.1.length)),(10,.map .str .bool x.2.2.2.2.2.2.2.2.2.2.2.2.2.2),(11,.grow 9 1 (x.2.2.2.2.2.2.2.2.2.2.1.length)),(12,.grow 149 2 (x.2.2.2.2.2.2.2.2.2.2.2.2.1.length))],13,71,4⟩) ⟨[0,4,5],[(0,0),(1,1),(2,2),(3,3),(4,4),(5,132),(6,5),(7,6),(8,7),(9,135),(10,68),(11,133),(12,134)]⟩ pY ?_;intro x1 w1 n1 d g;obtain⟨aJ,aK,aL,aM,aN,aO,aP,aQ,aR,aS,aT,aU,aV,aW,aX⟩:=x1;unfold wY at d;dsimp only at d|-;refine qZ ?_;refine qG BX ?_ (hp:=by exact⟨id,id,id,id,id,sL⟩);refine qY d (fun d hc1=> ?_) (fun d hc1=> ?_)
  .refine rJ (qS (sA ?_));refine xE BX ?_ (hp:=by exact⟨pW,pW,pW,pW,pW,pW,pW,pW⟩)
   refine qZ ?_;refine qG BX ?_;refine qY d (fun d hc2=> ?_) (fun d hc2=> ?_)
   .obtain⟨aY,hw_357,d⟩:=xD d
    try simp only[go_sem] at hw_357
    refine qG BX ?_ (hp:=by exact⟨pW,pW,pW,pW,pW⟩) (h:=by simp only[go_sem,hw_357];rfl)
    refine uF (uK (a1m pK (uH ?_)));cases d;cases g;exact uG ⟨⟨[0,4,5],[(0,0),(1,1),(2,2),(3,3),(4,4),(5,5),(6,6),(7,7),(8,8),(9,9),(10,10),(11,11),(12,12)]⟩,by rfl⟩
   .refine rJ (qS ?_);replace d:=aMs d;generalize (sR .str .fn (y9 ([]:pG) aR aS aT (aU,(aV,())) O aW aX) aL)=aZ at d|-;by_cases hfn:aZ=some 213
    .subst hfn;rw[aU8 rfl] at d;obtain⟨bA,hv2,hw2,d⟩:=rH d
     try simp only[go_sem] at hw2
     refine rY BX ?_ (hp:=by exact⟨pW,pW,pW,pW,pW,pW,pW,pW,pW,pW,pW,(rG hv2)⟩) (h:=by simp only[go_sem,hw2];rfl)
     refine s5 ?_;cases d;exact tI ⟨⟨[0,4,5],[(0,0),(1,1),(2,2),(3,3),(4,4),(5,5),(6,6),(7,7),(8,8),(9,9),(10,10),(11,11),(12,12)]⟩,_,by rfl,g⟩
    rw[aVa hfn] at d;clear hfn;by_cases hfn:aZ=some 214
    .subst hfn;rw[aU8 rfl] at d;obtain⟨bB,hv3,hw3,d⟩:=rH d
     try simp only[go_sem] at hw3
     refine rY BX ?_ (hp:=by exact⟨pW,pW,pW,pW,pW,pW,pW,pW,pW,pW,pW,pW,(rG hv3)⟩) (h:=by simp only[go_sem,hw3];rfl)
     refine s5 ?_;cases d;exact tI ⟨⟨[0,4,5],[(0,0),(1,1),(2,2),(3,3),(4,4),(5,5),(6,6),(7,7),(8,8),(9,9),(10,10),(11,11),(12,1014)]⟩,_,by rfl,g⟩
    rw[aVa hfn] at d;clear hfn;by_cases hfn:aZ=some 215
    .subst hfn;rw[aU8 rfl] at d;obtain⟨bC,hv4,hw4,d⟩:=rH d
     try simp only[go_sem] at hw4
     refine rY BX ?_ (hp:=by exact⟨pW,pW,pW,pW,pW,pW,pW,pW,pW,pW,pW,(rG hv4)⟩) (h:=by simp only[go_sem,hw4];rfl)
     refine s5 ?_;cases d;exact tI ⟨⟨[0,4,5],[(0,0),(1,1),(2,2),(3,3),(4,4),(5,5),(6,6),(7,7),(8,8),(9,9),(10,10),(11,11),(12,12)]⟩,_,by rfl,g⟩
    rw[aVa hfn] at d;clear hfn;by_cases hfn:aZ=some 216
    .subst hfn;rw[aU8 rfl] at d;obtain⟨bD,hv5,hw5,d⟩:=rH d
     try simp only[go_sem] at hw5
     refine rY BX ?_ (hp:=by exact⟨pW,pW,pW,pW,pW,pW,pW,pW,pW,pW,pW,(rG hv5)⟩) (h:=by simp only[go_sem,hw5];rfl)
     refine s5 ?_;cases d;exact tI ⟨⟨[0,4,5],[(0,0),(1,1),(2,2),(3,3),(4,4),(5,5),(6,6),(7,7),(8,8),(9,9),(10,10),(11,11),(12,12)]⟩,_,by rfl,g⟩
    rw[aVa hfn] at d;clear hfn;by_cases hfn:aZ=some 217
    .subst hfn;rw[aU8 rfl] at d;obtain⟨bE,hv6,hw6,d⟩:=rH d
     try simp only[go_sem] at hw6
     refine rY BX ?_ (hp:=by exact⟨pW,pW,pW,pW,pW,pW,pW,pW,pW,pW,pW,(rG hv6)⟩) (h:=by simp only[go_sem,hw6];rfl)
     refine s5 ?_;cases d;exact tI ⟨⟨[0,4,5],[(0,0),(1,1),(2,2),(3,3),(4,4),(5,5),(6,6),(7,7),(8,8),(9,9),(10,10),(11,11),(12,12)]⟩,_,by rfl,g⟩
    rw[aVa hfn] at d;clear hfn;by_cases hfn:aZ=some 218
    .subst hfn;rw[aU8 rfl] at d;obtain⟨bF,hv7,hw7,d⟩:=rH d
     try simp only[go_sem] at hw7
     refine rY BX ?_ (hp:=by exact⟨pW,pW,pW,pW,pW,pW,pW,pW,pW,pW,pW,(rG hv7)⟩) (h:=by simp only[go_sem,hw7];rfl)
     refine s5 ?_;cases d;exact tI ⟨⟨[0,4,5],[(0,0),(1,1),(2,2),(3,3),(4,4),(5,5),(6,6),(7,7),(8,8),(9,9),(10,10),(11,11),(12,12)]⟩,_,by rfl,g⟩
    rw[aVa hfn] at d;clear hfn;cases d
  .refine uF (uK (uH ?_));cases d;cases g;exact uG ⟨⟨[0,4,5],[(0,0),(1,1),(2,2),(3,3),(4,4),(5,5),(6,6),(7,7),(8,8),(9,9),(10,10),(11,11),(12,12)]⟩,by rfl⟩
 .rintro _ rfl;obtain⟨bG,bH,bI,bJ,bK,bM,bN,bO,bP,bQ,bR,bS,bT,bU,bV⟩:=y1;dsimp only at e|-;refine uQ (qS ?_);obtain⟨bW,hv8,hw8,e⟩:=rH e
  try simp only[go_sem] at hw8
  refine qG BX ?_ (hp:=by exact⟨pW,pW,pW,pW,pW,(rG hv8)⟩) (h:=by simp only[go_sem,hw8];rfl)
  obtain⟨hg9,e⟩:=qP e;refine qG BX ?_ (hp:=by exact⟨pW,hg9⟩)
  obtain⟨hg10,e⟩:=qP e;refine xE BX ?_ (hp:=by exact⟨pW,hg10⟩)
  refine qZ ?_;refine aMl 9 5 rfl rfl (aW1 rfl) (by repeat' (first|exact trivial|apply And.intro|exact(fun _=>rfl) |exact(fun h=>absurd h pK))) (by repeat' (first|exact trivial|apply And.intro|exact(fun _=>rfl) |exact(fun h=>absurd h pK))) (u':=aDs) (y':=((([]:pG),(bP,(bQ,(bR,((xF bU),(bS,(bT,()))))))),(O,((some 10),())))) (by first|rfl|kernel_rfl) ?_
  refine rY XK ?_;refine qS (qR ?_);cases e;exact pI [(0,0),(1,1),(2,2),(3,3)]
attribute [irreducible] wO
end
noncomputable section
def zB (O:(pG×(Int×Unit))) (Z:sP) (aA:Int) (aB:Int) (aC:sC) (aD:(pP×(Int×Unit))) (aE:pN):Option (Int×Int×pG×Int×Int×Int×Int×pG×pH×(List r5)×pP×Int):=(z8 O Z aA aB aC aD (2:Int) ([99,97,116,97,108,111,103]:pG) aE).bind fun aF=>(B9 (O.1,(aF.1,())) (aF.2.1,(aF.2.2.1,(aF.2.2.2.1,(aF.2.2.2.2.1,())))) aF.2.2.2.2.2.1 aF.2.2.2.2.2.2.1 (aC.1,(aC.2.1,(aC.2.2.1,(aC.2.2.2.1,())))) (aD.1,(aF.2.2.2.2.2.2.2,())) (1:Int) false aE).bind fun aG=>(wO (O.1,(aG.1,())) (aG.2.1,(aG.2.2.1,(aG.2.2.2.1,(aG.2.2.2.2.1,())))) aG.2.2.2.2.2.1 aG.2.2.2.2.2.2.1 (aF.2.2.1,(aC.2.1,(aC.2.2.1,(aC.2.2.2.1,())))) (aD.1,(aG.2.2.2.2.2.2.2,())) false aE).bind fun aH=>some ((aH.2.2.2.2.2.2.1,aH.2.2.2.2.2.2.2.1,aH.2.2.2.2.2.2.2.2.1,aH.2.2.2.2.2.2.2.2.2.1,aH.2.2.2.2.2.2.2.2.2.2.1,aH.2.2.2.2.2.2.2.2.2.2.2.1,aH.2.2.2.2.2.2.2.2.2.2.2.2.1,aF.2.2.1,aH.2.2.1,aH.2.2.2.2.2.1,aH.2.2.2.2.2.2.2.2.2.2.2.2.2.1,aH.2.2.2.2.2.2.2.2.2.2.2.2.2.2))
section
variable (O:(pG×(Int×Unit))) (Z:sP) (aA:Int) (aB:Int) (aC:sC) (aD:(pP×(Int×Unit))) (aE:Nat) (aF:Nat) (aG:pN)
abbrev a8T:List qI:=[(.val .ref (some (0,0)),none)]
abbrev a8U:List qH:=[.cells sJ (O,(Z,(aA,(aB,(aC,((some 3),aD)))))) [(11,1),(13,2)],.grow 55 7 aE,.grow 3 1 aF,.map .str .bool aG]
@[go_sem] def a8V:qQ:=⟨[aE=(aC.2.2.2.1.length),aF=(aD.1.length),((zB O Z aA aB aC aD aG)).isSome=true],[],[.cells sJ ((O.1,((val (zB O Z aA aB aC aD aG)).1,())),(((val (zB O Z aA aB aC aD aG)).2.1,((val (zB O Z aA aB aC aD aG)).2.2.1,((val (zB O Z aA aB aC aD aG)).2.2.2.1,((val (zB O Z aA aB aC aD aG)).2.2.2.2.1,())))),((val (zB O Z aA aB aC aD aG)).2.2.2.2.2.1,((val (zB O Z aA aB aC aD aG)).2.2.2.2.2.2.1,(((val (zB O Z aA aB aC aD aG)).2.2.2.2.2.2.2.1,((val (zB O Z aA aB aC aD aG)).2.2.2.2.2.2.2.2.1,((val (zB O Z aA aB aC aD aG)).2.2.2.2.2.2.2.2.2.1,(aC.2.2.2.1,())))),((some 3),((val (zB O Z aA aB aC aD aG)).2.2.2.2.2.2.2.2.2.2.1,((val (zB O Z aA aB aC aD aG)).2.2.2.2.2.2.2.2.2.2.2,())))))))) [(11,1),(13,2)],.grow 55 7 (aC.2.2.2.1.length),.grow 3 1 (((val (zB O Z aA aB aC aD aG)).2.2.2.2.2.2.2.2.2.2.1).length),.map .str .bool aG]⟩
def aHk:List qI→List qH→Option qQ:=rT (V:=((pG×(Int×Unit))×sP×Int×Int×sC×(pP×(Int×Unit))×Nat×Nat×pN)) (fun x=>a8T) (fun x=>a8U x.1 x.2.1 x.2.2.1 x.2.2.2.1 x.2.2.2.2.1 x.2.2.2.2.2.1 x.2.2.2.2.2.2.1 x.2.2.2.2.2.2.2.1 x.2.2.2.2.2.2.2.2) fun x=>a8V x.1 x.2.1 x.2.2.1 x.2.2.2.1 x.2.2.2.2.1 x.2.2.2.2.2.1 x.2.2.2.2.2.2.1 x.2.2.2.2.2.2.2.1 x.2.2.2.2.2.2.2.2
@[go_sem] def aU1:aHk (no_index a8T) (no_index (a8U O Z aA aB aC aD aE aF aG))=some (a8V O Z aA aB aC aD aE aF aG):=rV (fun⟨a0,a1,a2,a3,a4,a5,a6,a7,a8⟩ ⟨b0,b1,b2,b3,b4,b5,b6,b7,b8⟩ h1 h2=>by cases h1;cases h2;rfl) (O,Z,aA,aB,aC,aD,aE,aF,aG)
end
@[go_sem] abbrev aHl:Nat×rI:=(82,⟨[.p sJ [11,13]],aHk,[(0,12,.m)],[1,3],none⟩)
def SP:rL Tryz.prog [sM,wH,y8,DC,B3,yY] (rK [SM,aGU,a8S]):=⟨⟨sO,⟨wX,⟨yX,⟨FB,⟨CL,⟨AC,trivial⟩⟩⟩⟩⟩⟩,qU a8i (qU aOA (qU aHj rX)),rM⟩
def aOL:rP Tryz.prog aHl:=by
 refine rW SP Tryz.func82 (c:=_) rfl (N:=25) pX (ts:=[]) rfl (fun _ _=>rfl) ?_;intro⟨O,Z,aA,aB,aC,aD,aE,aF,aG⟩ hs hrow;dsimp only[a8T,a8U,a8V,rQ,qW,rF,rO,rS,Nat.reduceAdd] at hs hrow|-;obtain⟨rfl,rfl,hz⟩:=hs;obtain⟨z0,d⟩:=aVb.1 hz
 try rw[s9 d]
 clear hz;unfold zB at d;obtain⟨aH,hv1,hw1,d⟩:=rH d
 try simp only[go_sem] at hw1
 refine qG SP ?_ (hp:=by exact⟨pW,pW,pW,pW,pW,(rG hv1)⟩) (h:=by simp only[go_sem,hw1];rfl)
 obtain⟨aI,hv2,hw2,d⟩:=rH d
 try simp only[go_sem] at hw2
 refine qG SP ?_ (hp:=by exact⟨pW,pW,pW,pW,pW,(rG hv2)⟩) (h:=by simp only[go_sem,hw2];rfl)
 obtain⟨aJ,hv3,hw3,d⟩:=rH d
 try simp only[go_sem] at hw3
 refine qG SP ?_ (hp:=by exact⟨pW,pW,pW,pW,(rG hv3)⟩) (h:=by simp only[go_sem,hw3];rfl)
 refine GB SP ?_;cases d;exact pI [(0,0),(1,1),(2,2),(3,3)]
def zC (O:(pG×(Int×Unit))) (Z:sP) (aA:Int) (aB:Int) (aC:sC) (aD:(pP×(Int×Unit))) (aE:pN):Option (Int×Int×pG×Int×Int×Int×Int×(List rZ)×pP×Int×pN):=(z8 O Z aA aB aC aD (2:Int) ([101,110,116,114,121]:pG) aE).bind fun aF=>(BD (O.1,(aF.1,())) (aF.2.1,(aF.2.2.1,(aF.2.2.2.1,(aF.2.2.2.2.1,())))) aF.2.2.2.2.2.1 aF.2.2.2.2.2.2.1 (aC.1,(aC.2.1,(aC.2.2.1,(aC.2.2.2.1,())))) (aD.1,(aF.2.2.2.2.2.2.2,())) (1:Int) (decide ((aC.2.2.2.1.length:Int)=(1000:Int))) aE).bind fun aG=>(wO (O.1,(aG.1,())) (aG.2.1,(aG.2.2.1,(aG.2.2.2.1,(aG.2.2.2.2.1,())))) aG.2.2.2.2.2.1 aG.2.2.2.2.2.2.1 (aC.1,(aC.2.1,(aC.2.2.1,(aC.2.2.2.1,())))) (aD.1,(aG.2.2.2.2.2.2.2,())) true (tY .str .bool aF.2.2.1 true aE)).bind fun aH=>if (aC.2.2.2.1.length+([(aF.2.2.1,(aH.1,(aH.2.1,(aH.2.2.1,(aH.2.2.2.1,(aH.2.2.2.2.1,(aH.2.2.2.2.2.1,())))))))]:List rZ).length)*128≤140737488355328 then some ((aH.2.2.2.2.2.2.1,aH.2.2.2.2.2.2.2.1,aH.2.2.2.2.2.2.2.2.1,aH.2.2.2.2.2.2.2.2.2.1,aH.2.2.2.2.2.2.2.2.2.2.1,aH.2.2.2.2.2.2.2.2.2.2.2.1,aH.2.2.2.2.2.2.2.2.2.2.2.2.1,(aC.2.2.2.1++([(aF.2.2.1,(aH.1,(aH.2.1,(aH.2.2.1,(aH.2.2.2.1,(aH.2.2.2.2.1,(aH.2.2.2.2.2.1,())))))))]:List rZ)),aH.2.2.2.2.2.2.2.2.2.2.2.2.2.1,aH.2.2.2.2.2.2.2.2.2.2.2.2.2.2,(tY .str .bool aF.2.2.1 true aE))) else none
section
variable (O:(pG×(Int×Unit))) (Z:sP) (aA:Int) (aB:Int) (aC:sC) (aD:(pP×(Int×Unit))) (aE:Nat) (aF:Nat) (aG:pN)
abbrev a8W:List qI:=[(.val .ref (some (0,0)),none)]
abbrev a8X:List qH:=[.cells sJ (O,(Z,(aA,(aB,(aC,((some 3),aD)))))) [(11,1),(13,2)],.grow 55 7 aE,.grow 3 1 aF,.map .str .bool aG]
@[go_sem] def a8Y:qQ:=⟨[aE=(aC.2.2.2.1.length),aF=(aD.1.length),((zC O Z aA aB aC aD aG)).isSome=true],[],[.cells sJ ((O.1,((val (zC O Z aA aB aC aD aG)).1,())),(((val (zC O Z aA aB aC aD aG)).2.1,((val (zC O Z aA aB aC aD aG)).2.2.1,((val (zC O Z aA aB aC aD aG)).2.2.2.1,((val (zC O Z aA aB aC aD aG)).2.2.2.2.1,())))),((val (zC O Z aA aB aC aD aG)).2.2.2.2.2.1,((val (zC O Z aA aB aC aD aG)).2.2.2.2.2.2.1,((aC.1,(aC.2.1,(aC.2.2.1,((val (zC O Z aA aB aC aD aG)).2.2.2.2.2.2.2.1,())))),((some 3),((val (zC O Z aA aB aC aD aG)).2.2.2.2.2.2.2.2.1,((val (zC O Z aA aB aC aD aG)).2.2.2.2.2.2.2.2.2.1,())))))))) [(11,1),(13,2)],.grow 55 7 (((val (zC O Z aA aB aC aD aG)).2.2.2.2.2.2.2.1).length),.grow 3 1 (((val (zC O Z aA aB aC aD aG)).2.2.2.2.2.2.2.2.1).length),.map .str .bool ((val (zC O Z aA aB aC aD aG)).2.2.2.2.2.2.2.2.2.2)]⟩
def aHm:List qI→List qH→Option qQ:=rT (V:=((pG×(Int×Unit))×sP×Int×Int×sC×(pP×(Int×Unit))×Nat×Nat×pN)) (fun x=>a8W) (fun x=>a8X x.1 x.2.1 x.2.2.1 x.2.2.2.1 x.2.2.2.2.1 x.2.2.2.2.2.1 x.2.2.2.2.2.2.1 x.2.2.2.2.2.2.2.1 x.2.2.2.2.2.2.2.2) fun x=>a8Y x.1 x.2.1 x.2.2.1 x.2.2.2.1 x.2.2.2.2.1 x.2.2.2.2.2.1 x.2.2.2.2.2.2.1 x.2.2.2.2.2.2.2.1 x.2.2.2.2.2.2.2.2
@[go_sem] def aU2:aHm (no_index a8W) (no_index (a8X O Z aA aB aC aD aE aF aG))=some (a8Y O Z aA aB aC aD aE aF aG):=rV (fun⟨a0,a1,a2,a3,a4,a5,a6,a7,a8⟩ ⟨b0,b1,b2,b3,b4,b5,b6,b7,b8⟩ h1 h2=>by cases h1;cases h2;rfl) (O,Z,aA,aB,aC,aD,aE,aF,aG)
end
@[go_sem] abbrev aHn:Nat×rI:=(83,⟨[.p sJ [11,13]],aHm,[(0,12,.m)],[],none⟩)
def IJ:rL Tryz.prog [GE,sM,HU,DC,B3,WC,JG,yY] (rK [SM,aG2,a8S]):=⟨⟨JF,⟨sO,⟨LM,⟨FB,⟨CL,⟨aDt,⟨O0,⟨AC,trivial⟩⟩⟩⟩⟩⟩⟩⟩,qU a8i (qU aOE (qU aHj rX)),rM⟩
def aOM:rP Tryz.prog aHn:=by
 refine rW IJ Tryz.func83 (c:=_) rfl (N:=39) pX (ts:=[]) rfl (fun _ _=>rfl) ?_;intro⟨O,Z,aA,aB,aC,aD,aE,aF,aG⟩ hs hrow;dsimp only[a8W,a8X,a8Y,rQ,qW,rF,rO,rS,Nat.reduceAdd] at hs hrow|-;obtain⟨rfl,rfl,hz⟩:=hs;obtain⟨z0,d⟩:=aVb.1 hz
 try rw[s9 d]
 clear hz;unfold zC at d;refine qG IJ ?_;obtain⟨aH,hv1,hw1,d⟩:=rH d
 try simp only[go_sem] at hw1
 refine qG IJ ?_ (hp:=by exact⟨pW,pW,pW,pW,pW,(rG hv1)⟩) (h:=by simp only[go_sem,hw1];rfl)
 refine qG IJ ?_;obtain⟨aI,hv2,hw2,d⟩:=rH d
 try simp only[go_sem] at hw2
 refine xE IJ ?_ (hp:=by exact⟨pW,pW,pW,pW,pW,pW,(rG hv2)⟩) (h:=by simp only[go_sem,hw2];rfl)
 refine qG IJ ?_;obtain⟨aJ,hv3,hw3,d⟩:=rH d
 try simp only[go_sem] at hw3
 refine qG IJ ?_ (hp:=by exact⟨pW,pW,pW,pW,(rG hv3)⟩) (h:=by simp only[go_sem,hw3];rfl)
 refine qG IJ ?_;obtain⟨hg4,d⟩:=qP d;refine GB IJ ?_ (hp:=by exact⟨pW,hg4⟩)
 cases d;exact pI [(0,0),(1,1),(2,2),(3,3)]
attribute [irreducible] zB zC
end
noncomputable section
def DJ (O:pG) (Z:(Int×Int×pG×Int×Int×Int×Int×pG×pH×(List r5)×pP×Int)):(Int×Int×pG×Int×Int×Int×Int×(List rZ)×pP×Int×pN)→Option ((Int×Int×pG×Int×Int×Int×Int×(List rZ)×pP×Int×pN)⊕(Int×Int×pG×Int×Int×Int×Int×(List rZ)×pP×Int×pN)):=fun(aA,aB,aC,aD,aE,aF,aG,aH,aI,aJ,aK)=>if ((decide (aG=(0:Int)))&&(!decide (aB=(4:Int))))=true then (zC (O,(aA,())) (aB,(aC,(aD,(aE,())))) aF aG (Z.2.2.2.2.2.2.2.1,(Z.2.2.2.2.2.2.2.2.1,(Z.2.2.2.2.2.2.2.2.2.1,(aH,())))) (aI,(aJ,())) aK).bind fun aL=>some (.inl (aL.1,aL.2.1,aL.2.2.1,aL.2.2.2.1,aL.2.2.2.2.1,aL.2.2.2.2.2.1,aL.2.2.2.2.2.2.1,aL.2.2.2.2.2.2.2.1,aL.2.2.2.2.2.2.2.2.1,aL.2.2.2.2.2.2.2.2.2.1,aL.2.2.2.2.2.2.2.2.2.2)) else some (.inr (aA,aB,aC,aD,aE,aF,aG,aH,aI,aJ,aK))
def wP (O:pG):Option (Int×Int×pG×Int×Int×Int×Int×pG×pH×(List r5)×(List rZ)×pP×Int×pN):=(CS (O,((0:Int),()))).bind fun Z=>(zB (O,(Z.2.2.2.2,())) (Z.1,(Z.2.1,(Z.2.2.1,(Z.2.2.2.1,())))) (0:Int) (0:Int) (([]:pG),(([]:pH),(([]:List r5),(([]:List rZ),())))) (([]:pP),((0:Int),())) ([]:pN)).bind fun aA=>sB (rE (DJ O aA) (aA.1,aA.2.1,aA.2.2.1,aA.2.2.2.1,aA.2.2.2.2.1,aA.2.2.2.2.2.1,aA.2.2.2.2.2.2.1,([]:List rZ),aA.2.2.2.2.2.2.2.2.2.2.1,aA.2.2.2.2.2.2.2.2.2.2.2,([]:pN))) fun(aB,aC,aD,aE,aF,aG,aH,aI,aJ,aK,aL)=>some ((aB,aC,aD,aE,aF,aG,aH,aA.2.2.2.2.2.2.2.1,aA.2.2.2.2.2.2.2.2.1,aA.2.2.2.2.2.2.2.2.2.1,aI,aJ,aK,aL))
section
variable (O:pG)
abbrev a8Z:List qI:=[(.val .str O,none)]
abbrev a80:List qH:=[]
@[go_sem] def a81:qQ:=⟨[((wP O)).isSome=true],[(.val .ref (some (0,0)),none)],[.cells sJ ((O,((val (wP O)).1,())),(((val (wP O)).2.1,((val (wP O)).2.2.1,((val (wP O)).2.2.2.1,((val (wP O)).2.2.2.2.1,())))),((val (wP O)).2.2.2.2.2.1,((val (wP O)).2.2.2.2.2.2.1,(((val (wP O)).2.2.2.2.2.2.2.1,((val (wP O)).2.2.2.2.2.2.2.2.1,((val (wP O)).2.2.2.2.2.2.2.2.2.1,((val (wP O)).2.2.2.2.2.2.2.2.2.2.1,())))),((some 1),((val (wP O)).2.2.2.2.2.2.2.2.2.2.2.1,((val (wP O)).2.2.2.2.2.2.2.2.2.2.2.2.1,())))))))) [(11,2),(13,3)],.map .str .bool ((val (wP O)).2.2.2.2.2.2.2.2.2.2.2.2.2),.grow 55 7 (((val (wP O)).2.2.2.2.2.2.2.2.2.2.1).length),.grow 3 1 (((val (wP O)).2.2.2.2.2.2.2.2.2.2.2.1).length)]⟩
def aHo:List qI→List qH→Option qQ:=rT (V:=pG) (a8Z) (fun x=>a80) fun x=>a81 x
@[go_sem] def aU3:aHo (no_index (a8Z O)) (no_index a80)=some (a81 O):=rV (fun a0 b0 h1 h2=>by cases h1;cases h2;rfl) O
end
@[go_sem] abbrev a82:Nat×rI:=(44,⟨[.v],aHo,[],[],none⟩)
def K5:rL Tryz.prog [vP,GE,sM,HW,RG,B4,JG,yY] (rK [a7L,aHl,aHn]):=⟨⟨w8,⟨JF,⟨sO,⟨LO,⟨a1J,⟨CM,⟨O0,⟨AC,trivial⟩⟩⟩⟩⟩⟩⟩⟩,qU aGN (qU aOL (qU aOM rX)),rM⟩
def aHp:rP Tryz.prog a82:=by
 refine rW K5 Tryz.func44 (c:=_) rfl (N:=34) pX (ts:=[(2,none)]) rfl (fun _ _=>rfl) ?_;intro O hs hrow;dsimp only[a8Z,a80,a81,rQ,qW,rF,rO,rS,Nat.reduceAdd] at hs hrow|-;have hz:=hs;obtain⟨z0,d⟩:=aVb.1 hz
 try rw[s9 d]
 clear hz hs;unfold wP at d;refine qG K5 ?_;refine qG K5 ?_;obtain⟨Z,hv1,hw1,d⟩:=rH d
 try simp only[go_sem] at hw1
 refine qG K5 ?_ (hp:=by exact(rG hv1)) (h:=by simp only[go_sem,hw1];rfl);obtain⟨aA,hv2,hw2,d⟩:=rH d
 try simp only[go_sem] at hw2
 refine qG K5 ?_ (hp:=by exact⟨pW,pW,pW,pW,(rG hv2)⟩) (h:=by simp only[go_sem,hw2];rfl)
 refine qZ (sA ?_);obtain⟨y1,hy1,d⟩:=qK d;refine uS 0 (fun s=>s=(fun x=>⟨[(3,(.val .ref (some (0,0)),none))],[(0,.cells sJ ((O,(x.1,())),((x.2.1,(x.2.2.1,(x.2.2.2.1,(x.2.2.2.2.1,())))),(x.2.2.2.2.2.1,(x.2.2.2.2.2.2.1,((aA.2.2.2.2.2.2.2.1,(aA.2.2.2.2.2.2.2.2.1,(aA.2.2.2.2.2.2.2.2.2.1,(x.2.2.2.2.2.2.2.1,())))),((some 1),(x.2.2.2.2.2.2.2.2.1,(x.2.2.2.2.2.2.2.2.2.1,())))))))) [(11,2),(13,3)]),(1,.map .str .bool x.2.2.2.2.2.2.2.2.2.2),(2,.grow 55 7 (x.2.2.2.2.2.2.2.1.length)),(3,.grow 3 1 (x.2.2.2.2.2.2.2.2.1.length))],4,34,0⟩) y1) ?_ ?_
 .refine uR hy1 (fun x=>⟨[(3,(.val .ref (some (0,0)),none))],[(0,.cells sJ ((O,(x.1,())),((x.2.1,(x.2.2.1,(x.2.2.2.1,(x.2.2.2.2.1,())))),(x.2.2.2.2.2.1,(x.2.2.2.2.2.2.1,((aA.2.2.2.2.2.2.2.1,(aA.2.2.2.2.2.2.2.2.1,(aA.2.2.2.2.2.2.2.2.2.1,(x.2.2.2.2.2.2.2.1,())))),((some 1),(x.2.2.2.2.2.2.2.2.1,(x.2.2.2.2.2.2.2.2.2.1,())))))))) [(11,2),(13,3)]),(1,.map .str .bool x.2.2.2.2.2.2.2.2.2.2),(2,.grow 55 7 (x.2.2.2.2.2.2.2.1.length)),(3,.grow 3 1 (x.2.2.2.2.2.2.2.2.1.length))],4,34,0⟩) ⟨[3],[(0,160),(1,96),(2,163),(3,164)]⟩ pY ?_;intro x1 w1 n1 f g;obtain⟨aB,aC,aD,aE,aF,aG,aH,aI,aJ,aK,aL⟩:=x1;unfold DJ at f;dsimp only at f|-;refine qZ ?_;refine qG K5 ?_ (hp:=by exact⟨id,id,id,id,id,sL⟩);refine qY f (fun f hc1=> ?_) (fun f hc1=> ?_)
  .refine rJ (qS (sA ?_));obtain⟨aM,hv3,hw3,f⟩:=rH f
   try simp only[go_sem] at hw3
   refine rY K5 ?_ (hp:=by exact⟨pW,pW,(rG hv3)⟩) (h:=by simp only[go_sem,hw3];rfl)
   refine s5 ?_;cases f;exact tI ⟨⟨[3],[(0,0),(1,1),(2,2),(3,3)]⟩,_,by rfl,g⟩
  .refine uF (uK (uH ?_));cases f;cases g;exact uG ⟨⟨[3],[(0,0),(1,1),(2,2),(3,3)]⟩,by rfl⟩
 .rintro _ rfl;obtain⟨aN,aO,aP,aQ,aR,aS,aT,aU,aV,aW,aX⟩:=y1;dsimp only at d|-;refine uQ (qS ?_);refine qG K5 ?_;refine qR ?_;cases d;exact pI [(0,0),(1,1),(2,2),(3,3)]
def zD (O:pG):Option (pG×pH×(List r5)×(List rZ)×Int×Int):=(wP O).bind fun Z=>if (!decide (Z.2.2.2.2.2.2.1=(0:Int)))=true then some ((([]:pG),([]:pH),([]:List r5),([]:List rZ),Z.2.2.2.2.2.1,Z.2.2.2.2.2.2.1)) else some ((Z.2.2.2.2.2.2.2.1,Z.2.2.2.2.2.2.2.2.1,Z.2.2.2.2.2.2.2.2.2.1,Z.2.2.2.2.2.2.2.2.2.2.1,(0:Int),(0:Int)))
section
variable (O:pG)
abbrev a83:List qI:=[(.val .str O,none)]
abbrev a84:List qH:=[]
@[go_sem] def a85:qQ:=⟨[((zD O)).isSome=true],[(.val F9 ((val (zD O)).1,((val (zD O)).2.1,((val (zD O)).2.2.1,((val (zD O)).2.2.2.1,())))),none),(.val (.int .i64) ((val (zD O)).2.2.2.2.1),none),(.val (.int .i64) ((val (zD O)).2.2.2.2.2),none)],[]⟩
def aHq:List qI→List qH→Option qQ:=rT (V:=pG) (a83) (fun x=>a84) fun x=>a85 x
@[go_sem] def aU4:aHq (no_index (a83 O)) (no_index a84)=some (a85 O):=rV (fun a0 b0 h1 h2=>by cases h1;cases h2;rfl) O
end
@[go_sem] abbrev XL:Nat×rI:=(16,⟨[.v],aHq,[],[],none⟩)
def OZ:rL Tryz.prog [vP,DC,HW,yY] (rK [a82]):=⟨⟨w8,⟨FB,⟨LO,⟨AC,trivial⟩⟩⟩⟩,qU aHp rX,rM⟩
def aHr:rP Tryz.prog XL:=by
 refine rW OZ Tryz.func16 (c:=_) rfl (N:=26) pX (ts:=[(2,some 27),(3,none),(4,none)]) rfl (fun _ _=>rfl) ?_;intro O hs hrow;dsimp only[a83,a84,a85,rQ,qW,rF,rO,rS,Nat.reduceAdd] at hs hrow|-;have hz:=hs;obtain⟨z0,d⟩:=aVb.1 hz
 try rw[s9 d]
 clear hz hs;unfold zD at d;refine qG OZ ?_;obtain⟨Z,hv1,hw1,d⟩:=rH d
 try simp only[go_sem] at hw1
 refine qG OZ ?_ (hp:=by exact(rG hv1)) (h:=by simp only[go_sem,hw1];rfl);refine qZ ?_;refine qG OZ ?_;refine qY d (fun d hc1=> ?_) (fun d hc1=> ?_)
 .refine xE OZ ?_;refine qR (s0 ?_);cases d;exact pI []
 .refine rJ (qS ?_);refine qG OZ ?_;refine qR ?_;cases d;exact pI []
def P0 (O:pG) (Z:(Int×Int×pG×Int×Int×Int×Int×pG×pH×(List r5)×(List rZ)×pP×Int×pN)):(Int×pH)→Option ((Int×pH)⊕pH):=fun(aA,aB)=>if (decide (aA<(Z.2.2.2.2.2.2.2.2.2.2.2.1.length:Int)))=true then if qJ (aA- (1:Int)) then if 0≤(aA- (1:Int))∧(aA- (1:Int))<(Z.2.2.2.2.2.2.2.2.2.2.2.1.length:Int) then if 0≤aA∧aA<(Z.2.2.2.2.2.2.2.2.2.2.2.1.length:Int) then if 0≤(rC (.int .i64) Z.2.2.2.2.2.2.2.2.2.2.2.1 (aA- (1:Int)))∧(rC (.int .i64) Z.2.2.2.2.2.2.2.2.2.2.2.1 (aA- (1:Int)))≤(rC (.int .i64) Z.2.2.2.2.2.2.2.2.2.2.2.1 aA)∧(rC (.int .i64) Z.2.2.2.2.2.2.2.2.2.2.2.1 aA)≤(O.length:Int) then if (aB.length+([(qV O (rC (.int .i64) Z.2.2.2.2.2.2.2.2.2.2.2.1 (aA- (1:Int))) (rC (.int .i64) Z.2.2.2.2.2.2.2.2.2.2.2.1 aA))]:pH).length)*16≤140737488355328 then if qJ (aA+(1:Int)) then some (.inl ((aA+(1:Int)),(aB++([(qV O (rC (.int .i64) Z.2.2.2.2.2.2.2.2.2.2.2.1 (aA- (1:Int))) (rC (.int .i64) Z.2.2.2.2.2.2.2.2.2.2.2.1 aA))]:pH)))) else none else none else none else none else none else none else some (.inr aB)
def DK (O:pG):Option (pG×pH×pG×Int):=(wP O).bind fun Z=>if (!decide (Z.2.2.2.2.2.2.1=(0:Int)))=true then some ((([]:pG),([]:pH),([]:pG),Z.2.2.2.2.2.2.1)) else if 0≤(0:Int)∧(0:Int)<(Z.2.2.2.2.2.2.2.2.2.2.2.1.length:Int) then if 0≤(0:Int)∧(0:Int)≤(rC (.int .i64) Z.2.2.2.2.2.2.2.2.2.2.2.1 (0:Int))∧(rC (.int .i64) Z.2.2.2.2.2.2.2.2.2.2.2.1 (0:Int))≤(O.length:Int) then if qJ ((Z.2.2.2.2.2.2.2.2.2.2.2.1.length:Int)- (1:Int)) then if 0≤((Z.2.2.2.2.2.2.2.2.2.2.2.1.length:Int)- (1:Int))∧((Z.2.2.2.2.2.2.2.2.2.2.2.1.length:Int)- (1:Int))<(Z.2.2.2.2.2.2.2.2.2.2.2.1.length:Int) then if 0≤(rC (.int .i64) Z.2.2.2.2.2.2.2.2.2.2.2.1 ((Z.2.2.2.2.2.2.2.2.2.2.2.1.length:Int)- (1:Int)))∧(rC (.int .i64) Z.2.2.2.2.2.2.2.2.2.2.2.1 ((Z.2.2.2.2.2.2.2.2.2.2.2.1.length:Int)- (1:Int)))≤(O.length:Int)∧(O.length:Int)≤(O.length:Int) then sB (rE (P0 O Z) ((1:Int),([]:pH))) fun aA=>some (((qV O (0:Int) (rC (.int .i64) Z.2.2.2.2.2.2.2.2.2.2.2.1 (0:Int))),aA,(qV O (rC (.int .i64) Z.2.2.2.2.2.2.2.2.2.2.2.1 ((Z.2.2.2.2.2.2.2.2.2.2.2.1.length:Int)- (1:Int))) (O.length:Int)),(0:Int))) else none else none else none else none else none
section
variable (O:pG)
abbrev a86:List qI:=[(.val .str O,none)]
abbrev a87:List qH:=[]
@[go_sem] def a88:qQ:=⟨[((DK O)).isSome=true],[(.val CK ((val (DK O)).1,((val (DK O)).2.1,((val (DK O)).2.2.1,()))),none),(.val (.int .i64) ((val (DK O)).2.2.2),none)],[]⟩
def aHs:List qI→List qH→Option qQ:=rT (V:=pG) (a86) (fun x=>a87) fun x=>a88 x
@[go_sem] def aU5:aHs (no_index (a86 O)) (no_index a87)=some (a88 O):=rV (fun a0 b0 h1 h2=>by cases h1;cases h2;rfl) O
end
@[go_sem] abbrev a89:Nat×rI:=(19,⟨[.v],aHs,[],[],none⟩)
def FQ:rL Tryz.prog [vP,sM,wH,HW,JD,JH,yY] (rK [a82]):=⟨⟨w8,⟨sO,⟨wX,⟨LO,⟨NZ,⟨O2,⟨AC,trivial⟩⟩⟩⟩⟩⟩⟩,qU aHp rX,rM⟩
def aON:rP Tryz.prog a89:=by
 refine rW FQ Tryz.func19 (c:=_) rfl (N:=74) pX (ts:=[(2,some 34),(3,none)]) rfl (fun _ _=>rfl) ?_;intro O hs hrow;dsimp only[a86,a87,a88,rQ,qW,rF,rO,rS,Nat.reduceAdd] at hs hrow|-;have hz:=hs;obtain⟨z0,d⟩:=aVb.1 hz
 try rw[s9 d]
 clear hz hs;unfold DK at d;refine qG FQ ?_;obtain⟨Z,hv1,hw1,d⟩:=rH d
 try simp only[go_sem] at hw1
 refine qG FQ ?_ (hp:=by exact(rG hv1)) (h:=by simp only[go_sem,hw1];rfl);refine qZ ?_;refine qG FQ ?_;refine qY d (fun d hc1=> ?_) (fun d hc1=> ?_)
 .refine xE FQ ?_;refine qR (s0 ?_);cases d;exact pI []
 .refine rJ (qS ?_);obtain⟨hg2,d⟩:=qP d;obtain⟨hg3,d⟩:=qP d;obtain⟨hg4,d⟩:=qP d;obtain⟨hg5,d⟩:=qP d;obtain⟨hg6,d⟩:=qP d;refine xE FQ ?_ (hp:=by exact⟨hg2,hg3,hg4,hg5,hg6⟩);refine qZ ?_;refine qG FQ ?_;refine sA ?_;obtain⟨aA,hy1,d⟩:=qK d;refine uS 0 (fun s=>s=(fun x=>⟨[(2,(.val .ref (some (0,0)),none)),(5,(.val .ref (some (1,0)),none))],[(0,.cells CK (([]:pG),(([]:pH),(([]:pG),()))) [(1,2)]),(1,.cells CK ((qV O (0:Int) (rC (.int .i64) Z.2.2.2.2.2.2.2.2.2.2.2.1 (0:Int))),(x,((qV O (rC (.int .i64) Z.2.2.2.2.2.2.2.2.2.2.2.1 ((Z.2.2.2.2.2.2.2.2.2.2.2.1.length:Int)- (1:Int))) (O.length:Int)),()))) [(1,3)]),(2,.grow 9 1 (([]:pH).length)),(3,.grow 9 1 (x.length))],4,74,0⟩) aA) ?_ ?_
  .refine uR hy1 (fun x=>⟨[(0,(.val .str O,none)),(2,(.val .ref (some (0,0)),none)),(4,(.val .ref (some (1,0)),none)),(5,(.val .ref (some (2,0)),none)),(6,(.val (.int .i64) x.1,none))],[(0,.cells CK (([]:pG),(([]:pH),(([]:pG),()))) [(1,3)]),(1,.cells sJ ((O,(Z.1,())),((Z.2.1,(Z.2.2.1,(Z.2.2.2.1,(Z.2.2.2.2.1,())))),(Z.2.2.2.2.2.1,(Z.2.2.2.2.2.2.1,((Z.2.2.2.2.2.2.2.1,(Z.2.2.2.2.2.2.2.2.1,(Z.2.2.2.2.2.2.2.2.2.1,(Z.2.2.2.2.2.2.2.2.2.2.1,())))),((some 4),(Z.2.2.2.2.2.2.2.2.2.2.2.1,(Z.2.2.2.2.2.2.2.2.2.2.2.2.1,())))))))) [(11,5),(13,6)]),(2,.cells CK ((qV O (0:Int) (rC (.int .i64) Z.2.2.2.2.2.2.2.2.2.2.2.1 (0:Int))),(x.2,((qV O (rC (.int .i64) Z.2.2.2.2.2.2.2.2.2.2.2.1 ((Z.2.2.2.2.2.2.2.2.2.2.2.1.length:Int)- (1:Int))) (O.length:Int)),()))) [(1,7)]),(3,.grow 9 1 (([]:pH).length)),(4,.map .str .bool Z.2.2.2.2.2.2.2.2.2.2.2.2.2),(5,.grow 55 7 (Z.2.2.2.2.2.2.2.2.2.2.1.length)),(6,.grow 3 1 (Z.2.2.2.2.2.2.2.2.2.2.2.1.length)),(7,.grow 9 1 (x.2.length))],8,74,0⟩) ⟨[0,2,4,5,6],[(0,0),(1,96),(2,1056),(3,1),(4,97),(5,98),(6,99),(7,1088)]⟩ pY ?_;intro x1 w1 n1 f g;obtain⟨aB,aC⟩:=x1;unfold P0 at f;dsimp only at f|-;refine qZ ?_;refine qG FQ ?_;refine qY f (fun f hc2=> ?_) (fun f hc2=> ?_)
   .refine rJ (qS (qZ (sA ?_)));obtain⟨hg7,f⟩:=qP f;obtain⟨hg8,f⟩:=qP f;obtain⟨hg9,f⟩:=qP f;obtain⟨hg10,f⟩:=qP f;obtain⟨hg11,f⟩:=qP f;refine GB FQ ?_ (hp:=by exact⟨hg7,hg8,hg9,hg10,pW,hg11⟩)
    refine s5 (qS ?_);obtain⟨hg12,f⟩:=qP f;refine rY FQ ?_ (hp:=by exact hg12);cases f;exact tI ⟨⟨[0,2,4,5,6],[(0,0),(1,1),(2,2),(3,3),(4,4),(5,5),(6,6),(7,7)]⟩,_,by rfl,g⟩
   .refine uF (uK (uH ?_));cases f;cases g;exact uG ⟨⟨[2,5],[(0,0),(1,2),(2,3),(3,7)]⟩,by rfl⟩
  .rintro _ rfl;dsimp only at d|-;refine uQ (qS ?_);refine qG FQ ?_;refine qR ?_;cases d;exact pI []
def P9:Option Bool:=(zD ([99,97,116,97,108,111,103,34,100,101,34,123,125,47,42,32,120,32,42,47,101,110,116,114,121,34,97,34,123,116,97,114,103,101,116,34,120,34,125,47,47]:pG)).bind fun O=>if (((((decide (O.2.2.2.2.2=(0:Int)))&&(decide (O.1=([100,101]:pG))))&&(decide ((O.2.2.2.1.length:Int)=(1:Int))))==true)=true→0≤(0:Int)∧(0:Int)<(O.2.2.2.1.length:Int)) then if ((((((decide (O.2.2.2.2.2=(0:Int)))&&(decide (O.1=([100,101]:pG))))&&(decide ((O.2.2.2.1.length:Int)=(1:Int))))&&(decide ((rC t7 O.2.2.2.1 (0:Int)).1=([97]:pG))))==true)=true→0≤(0:Int)∧(0:Int)<(O.2.2.2.1.length:Int)) then some ((((((decide (O.2.2.2.2.2=(0:Int)))&&(decide (O.1=([100,101]:pG))))&&(decide ((O.2.2.2.1.length:Int)=(1:Int))))&&(decide ((rC t7 O.2.2.2.1 (0:Int)).1=([97]:pG))))&&(decide ((rC t7 O.2.2.2.1 (0:Int)).2.2.1=([120]:pG))))) else none else none
section
abbrev a9a:List qI:=[]
abbrev a9b:List qH:=[]
@[go_sem] def a9c:qQ:=⟨[(P9).isSome=true],[(.val .bool (val P9),none)],[]⟩
def aHt:List qI→List qH→Option qQ:=rT (V:=Unit) (fun x=>a9a) (fun x=>a9b) fun x=>a9c
@[go_sem] def aU6:aHt (no_index a9a) (no_index a9b)=some a9c:=rV (fun _ _ h1 h2=>by cases h1;cases h2;rfl) ()
end
@[go_sem] abbrev a9d:Nat×rI:=(15,⟨[],aHt,[],[],none⟩)
def XM:rL Tryz.prog [sM,HU,DC,B3] (rK [XL]):=⟨⟨sO,⟨LM,⟨FB,⟨CL,trivial⟩⟩⟩⟩,qU aHr rX,rM⟩
def aOO:rP Tryz.prog a9d:=by
 refine rW XM Tryz.func15 (c:=_) rfl (N:=38) pX (ts:=[(0,none)]) rfl (fun _ _=>rfl) ?_;intro⟨⟩ hs hrow;dsimp only[a9a,a9b,a9c,rQ,qW,rF,rO,rS,Nat.reduceAdd] at hs hrow|-;have hz:=hs;obtain⟨z0,d⟩:=aVb.1 hz
 try rw[s9 d]
 clear hz hs;unfold P9 at d;refine qG XM ?_;obtain⟨O,hv1,hw1,d⟩:=rH d
 try simp only[go_sem] at hw1
 refine qG XM ?_ (hp:=by exact(rG hv1)) (h:=by simp only[go_sem,hw1];rfl);obtain⟨hg2,d⟩:=qP d;obtain⟨hg3,d⟩:=qP d;refine qG XM ?_ (hp:=by exact⟨id,id,sL,id,id,id,sL,id,id,hg2,id,id,id,sL,id,id,hg3,id,id,id,sL⟩);refine qR ?_;cases d;exact pI []
attribute [irreducible] wP zD DK P9
end
noncomputable section
def M7 (O:pG) (Z:Int) (aA:rZ):Option Bool:=P9.bind fun aB=>if (!aB)=true then some (false) else if (((decide ((4000:Int)<(O.length:Int)))==false)=true→((OJ aA)).isSome=true) then if ((((decide ((4000:Int)<(O.length:Int)))||(!((decide ((((aA.1.length:Int)+(aA.2.1.length:Int))+(aA.2.2.1.length:Int))≤(6000:Int)))&&(decide (((val (zM aA.2.2.2.1 aA.2.2.2.2.2.2.1))+(val (zM aA.2.2.2.2.1 ([]:List r5))))≤(6000:Int))))))==false)=true→((OU aA)).isSome=true) then if (((decide ((4000:Int)<(O.length:Int)))||(!((decide ((((aA.1.length:Int)+(aA.2.1.length:Int))+(aA.2.2.1.length:Int))≤(6000:Int)))&&(decide (((val (zM aA.2.2.2.1 aA.2.2.2.2.2.2.1))+(val (zM aA.2.2.2.2.1 ([]:List r5))))≤(6000:Int))))))||(!((((((((((!decide (aA.1=([]:pG)))&&(decide ((aA.1.length:Int)≤(200:Int))))&&((decide ((aA.1.length:Int)≤(4000:Int)))&&(val (uZ aA.1))))&&((decide ((aA.2.1.length:Int)≤(4000:Int)))&&(val (uZ aA.2.1))))&&((decide ((aA.2.2.1.length:Int)≤(4000:Int)))&&(val (uZ aA.2.2.1))))&&(val (EH aA.2.2.2.1)))&&(val (FL aA.2.2.2.2.1)))&&(decide ((0:Int)≤aA.2.2.2.2.2.1)))&&(decide (aA.2.2.2.2.2.1≤(4:Int))))&&(val (GQ aA.2.2.2.2.2.2.1)))))=true then some (true) else (DK O).bind fun aC=>(zD O).bind fun aD=>if ((!decide (aC.2.2.2=(0:Int)))||(!decide (aD.2.2.2.2.2=(0:Int))))=true then some ((decide (aC.2.2.2=aD.2.2.2.2.2))) else (FN (aD.1,(aD.2.1,(aD.2.2.1,(aD.2.2.2.1,()))))).bind fun aE=>(FN (([120]:pG),(([]:pH),(([]:List r5),(([aA]:List rZ),()))))).bind fun aF=>if ((((!decide (aE.2.2.2=(0:Int)))||(!decide (aF.2.2.2=(0:Int))))||(!decide ((aF.2.1.length:Int)=(1:Int))))||(!decide ((aC.2.1.length:Int)=(aD.2.2.2.1.length:Int))))=true then some (false) else (JP (aE.1,(aC.2.1,(aE.2.2.1,())))).bind fun aG=>(zD aG).bind fun aH=>if (((!decide (aH.2.2.2.2.2=(0:Int)))==false)=true→((M1 (aH.1,(aH.2.1,(aH.2.2.1,(aH.2.2.2.1,())))) (aD.1,(aD.2.1,(aD.2.2.1,(aD.2.2.2.1,())))))).isSome=true) then if ((!decide (aH.2.2.2.2.2=(0:Int)))||(!((((decide (aH.1=aD.1))&&(val (xH aH.2.1 aD.2.1)))&&(val (B5 aH.2.2.1 aD.2.2.1)))&&(val (FI aH.2.2.2.1 aD.2.2.2.1)))))=true then some (false) else if (decide ((aC.2.1.length:Int)=(0:Int)))=true then some (true) else if (aC.2.1.length:Int)≠0 then (HX (aD.1,(aD.2.1,(aD.2.2.1,(aD.2.2.2.1,())))) aA.1).bind fun aI=>if (aI.2&&(!decide (aI.1=(Int.tmod (IntKind.wrap .i64 Z) (aC.2.1.length:Int)))))=true then some (true) else if (0+aC.2.1.length)*16≤140737488355328 then if 0≤(0:Int)∧(0:Int)<(aF.2.1.length:Int) then if 0≤(Int.tmod (IntKind.wrap .i64 Z) (aC.2.1.length:Int))∧(Int.tmod (IntKind.wrap .i64 Z) (aC.2.1.length:Int))<((((([]:pH)++aC.2.1).length):Nat):Int) then if (0+aD.2.2.2.1.length)*128≤140737488355328 then if 0≤(Int.tmod (IntKind.wrap .i64 Z) (aC.2.1.length:Int))∧(Int.tmod (IntKind.wrap .i64 Z) (aC.2.1.length:Int))<((((([]:List rZ)++aD.2.2.2.1).length):Nat):Int) then (JP (aC.1,((List.set (([]:pH)++aC.2.1) (Int.toNat (Int.tmod (IntKind.wrap .i64 Z) (aC.2.1.length:Int))) (rC .str aF.2.1 (0:Int))),(aC.2.2.1,())))).bind fun aJ=>(zD aJ).bind fun aK=>if ((decide (aK.2.2.2.2.2=(0:Int)))==true)=true then if (((decide (aK.2.2.2.2.2=(0:Int)))==true)=true→((M1 (aK.1,(aK.2.1,(aK.2.2.1,(aK.2.2.2.1,())))) (aD.1,(aD.2.1,(aD.2.2.1,((List.set (([]:List rZ)++aD.2.2.2.1) (Int.toNat (Int.tmod (IntKind.wrap .i64 Z) (aC.2.1.length:Int))) aA),())))))).isSome=true) then some (((decide (aK.2.2.2.2.2=(0:Int)))&&((((decide (aK.1=aD.1))&&(val (xH aK.2.1 aD.2.1)))&&(val (B5 aK.2.2.1 aD.2.2.1)))&&(val (FI aK.2.2.2.1 (List.set (([]:List rZ)++aD.2.2.2.1) (Int.toNat (Int.tmod (IntKind.wrap .i64 Z) (aC.2.1.length:Int))) aA)))))) else none else none else none else none else none else none else none else none else none else none else none
section
variable (O:pG) (Z:Int) (aA:rZ)
abbrev SQ:List qI:=[(.val .str O,none),(.val (.int .u8) Z,none),(.val t7 aA,none)]
abbrev XN:List qH:=[]
@[go_sem] def PA:qQ:=⟨[((M7 O Z aA)).isSome=true],[(.val .bool (val (M7 O Z aA)),none)],[]⟩
def a9e:List qI→List qH→Option qQ:=rT (V:=(pG×Int×rZ)) (fun x=>SQ x.1 x.2.1 x.2.2) (fun x=>XN) fun x=>PA x.1 x.2.1 x.2.2
@[go_sem] def aOP:a9e (no_index (SQ O Z aA)) (no_index XN)=some (PA O Z aA):=rV (fun⟨a0,a1,a2⟩ ⟨b0,b1,b2⟩ h1 h2=>by cases h1;cases h2;rfl) (O,Z,aA)
end
@[go_sem] abbrev aOQ:Nat×rI:=(9,⟨[.v,.v,.v],a9e,[],[],none⟩)
def vQ:rL Tryz.prog [vP,EB,sM,WH,WJ,DC,JD,B3] (rK [a9d,a4Y,a7j,a89,XL,a7v,a4Q,a52,a1R]):=⟨⟨w8,⟨GF,⟨sO,⟨aDy,⟨aDz,⟨FB,⟨NZ,⟨CL,trivial⟩⟩⟩⟩⟩⟩⟩⟩,qU aOO (qU aNY (qU aOs (qU aON (qU aHr (qU aOu (qU aNX (qU aOc (qU aNu rX)))))))),rM⟩
def SR:rL Tryz.prog [sM,WH,WJ,DC,JD,EC] (rK [a9d,a4Y,a7j,a89,XL,a7v,a4Q,a52,a1R]):=⟨⟨sO,⟨aDy,⟨aDz,⟨FB,⟨NZ,⟨GG,trivial⟩⟩⟩⟩⟩⟩,vQ.Γ,rM⟩
def aOR:rP Tryz.prog aOQ:=by
 refine rW vQ Tryz.func9 (c:=_) rfl (N:=179) pX (ts:=[(6,none)]) rfl (fun _ _=>rfl) ?_;intro⟨O,Z,aA⟩ hs hrow;dsimp only[SQ,XN,PA,rQ,qW,rF,rO,rS,Nat.reduceAdd] at hs hrow|-;have hz:=hs;obtain⟨z0,d⟩:=aVb.1 hz
 try rw[s9 d]
 clear hz hs;unfold M7 at d;refine qG vQ ?_;refine qZ ?_;obtain⟨aB,hv1,hw1,d⟩:=rH d
 try simp only[go_sem] at hw1
 refine qG vQ ?_ (hp:=by exact(rG hv1)) (h:=by simp (maxSteps:=2000000) only[go_sem,hw1];rfl);refine qY d (fun d hc1=> ?_) (fun d hc1=> ?_)
 .refine qG vQ ?_;refine qR (s0 ?_);cases d;exact pI []
 .refine rJ (qS (qZ ?_));obtain⟨hg2,d⟩:=qP d;obtain⟨hg3,d⟩:=qP d;refine qG vQ ?_ (hp:=by exact⟨id,hg2,id,u6,id,hg3,id,u6⟩);refine qY d (fun d hc2=> ?_) (fun d hc2=> ?_)
  .refine qG vQ ?_;refine qR (s0 ?_);cases d;exact pI []
  .refine rJ (qS ?_);obtain⟨aC,hv4,hw4,d⟩:=rH d
   try simp only[go_sem] at hw4
   refine qG vQ ?_ (hp:=by exact(rG hv4)) (h:=by simp (maxSteps:=2000000) only[go_sem,hw4];rfl);obtain⟨aD,hv5,hw5,d⟩:=rH d
   try simp only[go_sem] at hw5
   refine qG vQ ?_ (hp:=by exact(rG hv5)) (h:=by simp (maxSteps:=2000000) only[go_sem,hw5];rfl);refine qZ ?_;refine qG vQ ?_ (hp:=by exact⟨id,u6⟩);refine qY d (fun d hc3=> ?_) (fun d hc3=> ?_)
   .refine qG vQ ?_;refine qR (s0 ?_);cases d;exact pI []
   .refine rJ (qS ?_);obtain⟨aE,hv6,hw6,d⟩:=rH d
    try simp only[go_sem] at hw6
    refine qG vQ ?_ (hp:=by exact(rG hv6)) (h:=by simp (maxSteps:=2000000) only[go_sem,hw6];rfl);obtain⟨aF,hv7,hw7,d⟩:=rH d
    try simp only[go_sem] at hw7
    refine qG vQ ?_ (hp:=by exact(rG hv7)) (h:=by simp (maxSteps:=2000000) only[go_sem,hw7];rfl);refine qZ ?_;refine qG vQ ?_ (hp:=by exact⟨id,u6,id,id,id,u6,id,id,id,id,id,id,u6⟩);refine qY d (fun d hc4=> ?_) (fun d hc4=> ?_)
    .refine qG vQ ?_;refine qR (s0 ?_);cases d;exact pI []
    .refine rJ (qS ?_);refine qG vQ ?_;refine xE vQ ?_;obtain⟨aG,hv8,hw8,d⟩:=rH d
     try simp only[go_sem] at hw8
     obtain⟨aH,hv9,hw9,d⟩:=rH d
     try simp only[go_sem] at hw9
     refine qG vQ ?_ (hp:=by exact⟨rG hv8,(rG hv9)⟩) (h:=by simp (maxSteps:=2000000) only[go_sem,hw8,hw9];rfl);refine qZ ?_;obtain⟨hg10,d⟩:=qP d;refine qG vQ ?_ (hp:=by exact⟨id,id,hg10,id,u6⟩);refine qY d (fun d hc5=> ?_) (fun d hc5=> ?_)
     .refine qG vQ ?_;refine qR (s0 ?_);cases d;exact pI []
     .refine rJ (qS (qZ ?_));refine qG vQ ?_;refine qY d (fun d hc6=> ?_) (fun d hc6=> ?_)
      .refine qG vQ ?_;refine qR (s0 ?_);cases d;exact pI []
      .refine rJ (qS ?_);obtain⟨hg11,d⟩:=qP d;refine qG vQ ?_ (hp:=by exact hg11);refine qZ ?_;obtain⟨aI,hv12,hw12,d⟩:=rH d
       try simp only[go_sem] at hw12
       refine qG vQ ?_ (hp:=by exact(rG hv12)) (h:=by simp (maxSteps:=2000000) only[go_sem,hw12];rfl);refine qG vQ ?_ (hp:=by exact⟨id,id,sL⟩);refine qY d (fun d hc7=> ?_) (fun d hc7=> ?_)
       .refine qG vQ ?_;refine qR (s0 ?_);cases d;exact pI []
       .refine rJ (qS ?_);refine qG vQ ?_;obtain⟨hg13,d⟩:=qP d;refine qG vQ ?_ (hp:=by exact⟨pW,hg13⟩)
        obtain⟨hg14,d⟩:=qP d;obtain⟨hg15,d⟩:=qP d;refine xE SR ?_ (hp:=by exact⟨hg14,hg15,pW⟩)
        refine qG SR ?_;obtain⟨hg16,d⟩:=qP d;refine qG SR ?_ (hp:=by exact⟨pW,hg16⟩)
        obtain⟨hg17,d⟩:=qP d;refine qG vQ ?_ (hp:=by exact⟨hg17,pW⟩)
        obtain⟨aJ,hv18,hw18,d⟩:=rH d
        try simp only[go_sem] at hw18
        obtain⟨aK,hv19,hw19,d⟩:=rH d
        try simp only[go_sem] at hw19
        refine qG SR ?_ (hp:=by exact⟨pW,rG hv18,(rG hv19)⟩) (h:=by simp (maxSteps:=2000000) only[go_sem,hw18,hw19];rfl)
        obtain⟨hg20,d⟩:=qP d;obtain⟨hg21,d⟩:=qP d;refine qG SR ?_ (hp:=by exact⟨hg20,fun _=>(by first|rfl|trivial),id,hg21,sL⟩)
        refine qR ?_;cases d;exact pI []
attribute [irreducible] M7
end
end Go.Proofs.YtbbpilohihldiaaGreatDoor
section
end
namespace Go.Proofs.YtbbpilohihldiaaGreatDoor
open Vc
def tN {i:Nat}(h:i<=4000000000):qJ ((i:Int)+1):=by unfold qJ;omega
def sN {i n:Nat}(h:i<n):0<=(i:Int)/\(i:Int)<(n:Int):=⟨pJ,pJ⟩
def uI {i n:Nat}(h:i<n):decide ((i:Int)<(n:Int))=true:=by simpa using h
def vZ (n:Nat): ¬decide ((n:Int)<(n:Int))=true:=by simp
def aHu {α:Type}{p:α->Bool}: ∀{l:List α},(l.findIdx? p).isSome=l.any p
 |[]=>rfl
 |x::l=>by
  rw[aWd,List.any_cons];cases p x with
  |true=>rfl
  |false=>simp [aHu (l:=l)]
def K6 {α β:Type}{p:α->Bool}{l:List α}{f:Nat->β}{b:β}:vG f b (l.findIdx? p)=if l.any p=true then f ((l.findIdx? p).getD 0) else b:=by
 rw[<-aHu];cases l.findIdx? p with
 |none=>rfl
 |some k=>rfl
def M8 (c:Int):Bool:=(((!((decide ((97:Int)<=c))&&(decide (c<=(122:Int)))))&&(!((decide ((48:Int)<=c))&&(decide (c<=(57:Int))))))&&(!decide (c=(45:Int))))&&((decide (c<(65:Int)))||(decide ((90:Int)<c)))
def uM (s:pG):Bool:= !(s.any fun b=>M8 b.toNat)&&((decide ((1:Int)<=(s.length:Int)))&&(decide ((s.length:Int)<=(40:Int))))
def M9 (s:pG) (hs:r8 s):I6 s=some (uM s):=by
 unfold r8 at hs;have h:=CN (f:=X6 s) (l:=s) (fun b=>M8 b.toNat) (fun _=>false) (fun i h=>by
  unfold X6;rw[aU8 (uI h),aU8 (sN h),zL h,aU8 (tN pJ)];rfl) (by
  unfold X6;rw[aVa (vZ _)])
 unfold I6;rw[h,K6];unfold uM;cases s.any fun b=>M8 b.toNat<;>rfl
def XO (c:Int):Bool:=((((decide (c<(97:Int)))||(decide ((122:Int)<c)))&&((decide (c<(65:Int)))||(decide ((90:Int)<c))))&&((decide (c<(48:Int)))||(decide ((57:Int)<c))))&&(!decide (c=(45:Int)))
def aOS (c:Int):XO c=M8 c:=by
 unfold XO M8;rw[aWk];simp;omega
def a9f (s:pG):HY s=some (uM s):=by
 have h:=aDJ (f:=RM s) (s:=s) (fun c=>XO c) (fun _=>false) (fun c h=>by unfold XO;simp;omega) (fun i h=>by
  unfold RM;rw[aU8 (by simpa using h),aU8 (by simpa using h)];rfl) (by
  unfold RM;rw[aVa pL])
 unfold HY;rw[h,K6];simp only[aOS];unfold uM;cases s.any fun b=>M8 b.toNat<;>rfl
def yI (c:Int):Bool:=((((!((decide ((97:Int)<=c))&&(decide (c<=(122:Int)))))&&(!((decide ((48:Int)<=c))&&(decide (c<=(57:Int))))))&&(!decide (c=(45:Int))))&&(!decide (c=(95:Int))))&&(!decide (c=(46:Int)))
def zQ (c:Int):Bool:=(decide ((97:Int)<=c))&&(decide (c<=(122:Int)))
def sS:pG->Bool
 |[]=>false
 |b::t=>(!decide (40<t.length+1)&&zQ b.toNat)&& !(t.any fun b=>yI b.toNat)
def XP (s:pG) (hs:r8 s):GN s=some (sS s):=by
 unfold r8 at hs;unfold GN;cases s with
 |nil=>simp [sS]
 |cons b t=>
  have hb0:r7 (b::t) (0:Int)=(b.toNat:Int):=zL (i:=0) pL;rw[aU8 (fun _=>⟨aVW 0,by simp only[aVd];omega⟩),hb0];unfold sS;by_cases hl:(40:Int)<((b::t).length:Int)
  .have hl2:40<t.length+1:=by simp only[aVd] at hl;omega
   rw[aU8 (by simp only[hl,decide_true,Bool.or_true,Bool.true_or])];simp [hl2]
  .have hl2: ¬40<t.length+1:=by simp only[aVd] at hl;omega
   have hl3: ¬((b::t).length:Int)<1:=by simp;omega
   by_cases hb:zQ b.toNat=true
   .rw[aVa (by unfold zQ at hb;simp only[hl,hl3,hb];simp)];have h:=a1N (f:=S1 (b::t)) (l:=b::t) (fun b=>yI b.toNat) (fun _=>false) (fun i h=>by
     unfold S1;rw[aU8 (uI h),aU8 (sN h),zL h,aU8 (tN pJ)];rfl) (by
     unfold S1;rw[aVa (vZ _)]) t.length 1 pM
    rw[show ((1:Nat):Int)=1 from rfl] at h;rw[h,K6];simp only[aWS,aWf,hb,hl2,decide_false,Bool.not_false,Bool.true_and];cases t.any fun b=>yI b.toNat<;>rfl
   .rw[aU8 (by unfold zQ at hb;simp only[hb];simp)];simp [hb]
def aHv (s:pG): ∀(n j:Nat),j+n=s.length->rE (O9 s) j=some (if (s.drop j).any (fun b=>yI b.toNat)=true\/(j=0/\s≠[]/\zQ (s.getD 0 0).toNat=false) then .inr false else .inl ())
 |0,j,hj=>by
  have:j=s.length:=by omega
  subst this;rw[aVR,yZ];unfold O9;rw[aVa pL];by_cases h0:s=[]
  .subst h0;simp
  .have:s.length≠0:=by simpa using h0
   simp [this]
 |n+1,j,hj=>by
  have hlt:j<s.length:=by omega
  have ih:=aHv s n (j+1) pJ;rw[yZ,aVA hlt,List.any_cons];have hstep:O9 s j=if (yI (s[j].toNat:Int)=true\/(j=0/\zQ (s[j].toNat:Int)=false)) then some (.inr (.inr false)) else some (.inl (j+1)):=by
   unfold O9;rw[aU8 (by simpa using hlt),aU8 (by simpa using hlt),aU8 (by simpa using hlt)];by_cases ha:s[j].toNat<128
   .obtain⟨e1,e2⟩:=aDG hlt ha;rw[e1,e2];by_cases h1:zQ (s[j].toNat:Int)=true
    .rw[aU8 (by unfold zQ at h1;exact h1),aVa];unfold zQ at h1;simp only[aVg,aVf] at h1;simp [yI,zQ];omega
    .have h1':zQ (s[j].toNat:Int)=false:=by simpa using h1
     rw[aVa (by unfold zQ at h1;exact h1)];have h2: ¬(97<=(s[j].toNat:Int)/\(s[j].toNat:Int)<=122):=by
      unfold zQ at h1;simpa using h1
     by_cases h3:yI (s[j].toNat:Int)=true\/j=0
     .rw[aVa,aU8]
      .rcases h3 with h3|h3
       .exact .inl h3
       .exact .inr ⟨h3,h1'⟩
      .simp [yI] at h3|-;omega
     .rw[aU8,aVa]
      .intro h;rcases h with h|⟨h,_⟩
       .exact h3 (.inl h)
       .exact h3 (.inr h)
      .simp [yI] at h3|-;omega
   .have hb:=aDH hlt pJ;rw[aVa pM,aVa pM,aU8 (.inl (by simp [yI];omega))]
  rw[hstep];have hd:s.getD 0 0=s[0]'pJ:=by simp [aVy,aVj (show 0<s.length by omega)]
  have hne:s≠[]:=by intro h;subst h;simp at hlt
  by_cases hp:yI (s[j].toNat:Int)=true\/(j=0/\zQ (s[j].toNat:Int)=false)
  .rw[aU8 hp,aU8]
   .rfl
   .rcases hp with hp|⟨rfl,hp⟩
    .left;simp [hp]
    .right;exact⟨rfl,hne,by rw[hd];exact hp⟩
  .rw[aVa hp];show rE _ (j+1)=_;rw[ih];have hnb:yI (s[j].toNat:Int)=false:=by
    cases h:yI (s[j].toNat:Int) with
    |true=>exact absurd (.inl h) hp
    |false=>rfl
   simp only[hnb,Bool.false_or];congr 2;apply propext;constructor
   .rintro(h|⟨h,_⟩)
    .exact .inl h
    .omega
   .rintro(h|⟨rfl,_,h⟩)
    .exact .inl h
    .rw[hd] at h;exact absurd (.inr ⟨rfl,h⟩) hp
def XQ (s:pG):EF s=some (sS s):=by
 have h:=aHv s s.length 0 pJ;unfold EF;rw[h,aWf];cases s with
 |nil=>simp [sS,sZ]
 |cons b t=>
  simp only[List.any_cons,List.getD_cons_zero,ne_eq,reduceCtorEq,not_false_eq_true,true_and,sS];cases hs:zQ b.toNat with
  |false=>simp [sZ]
  |true=>
   have hn:yI b.toNat=false:=by
    unfold zQ at hs;simp only[aVg,aVf] at hs;simp [yI];omega
   simp only[hn,Bool.false_or];cases t.any (fun b=>yI b.toNat) with
   |true=>simp [sZ]
   |false=>
    simp only[aWx,false_or,and_false,aXn];show some (decide ((1:Int)<=((b::t).length:Int))&&decide (((b::t).length:Int)<=40))=_;congr 1;rw[aWk];simp only[aVd,aVg,aVf,aVG,aVO,Bool.not_false,and_true];omega
def a9g {α:Type}{p:α->Bool}{l:List α}:vG (fun _=>true) false (l.findIdx? p)=l.any p:=by
 rw[K6];cases l.any p<;>rfl
def GS {β:Type}{f:Nat->β}{b:β}{o:pS}:sZ (some (vG (fun k=> .inr (f k)) (.inl ()) o)) (fun _=>some b)=some (vG f b o):=by
 cases o<;>rfl
def aOT (l:pH) (s:pG) (hl:r8 l):X1 l s=some (l.any fun x=>decide (x=s)):=by
 unfold r8 at hl;have h:=CN (f:=X0 l s) (l:=l) (fun x=>decide (x=s)) (fun _=>true) (fun i h=>by
  unfold X0;rw[aU8 (uI h),aU8 (sN h),z6 (t:= .str) h,aU8 (tN pJ)]) (by
  unfold X0;rw[aVa (vZ _)])
 unfold X1;rw[h,GS,a9g]
def aHw (l:pH) (s:pG) (hl:r8 l):DF l s=some (vG (fun k=>(k:Int)) (-1) (l.findIdx? fun x=>decide (s=x))):=by
 unfold r8 at hl;have h:=CN (f:=RP l s) (l:=l) (fun x=>decide (s=x)) (fun k=>(k:Int)) (fun i h=>by
  unfold RP;rw[aU8 (uI h),aU8 (sN h),z6 (t:= .str) h,aU8 (tN pJ)]) (by
  unfold RP;rw[aVa (vZ _)])
 unfold DF;rw[h,GS]
def aHx {α:Type}{p:α->Bool}{l:List α}:decide ((0:Int)<=vG (fun k=>(k:Int)) (-1) (l.findIdx? p))=l.any p:=by
 rw[K6];cases l.any p
 .rfl
 .simp only[aWQ,aVf];omega
def aOU (l:pH) (s:pG) (hl:r8 l):I7 l s=some (l.any fun x=>decide (x=s)):=by
 unfold I7;rw[aHw l s hl];show some (decide _)=_;rw[aHx];simp only[eq_comm]
def xU:pH:=[[110,101,119],[102,117,122,122,121],[116,114,97,110,115,108,97,116,101,100],[114,101,118,105,101,119,101,100],[111,98,115,111,108,101,116,101]]
def uJ (s:pG):Int:=vG (fun k=>(k:Int)) (-1) (xU.findIdx? fun x=>decide (x=s))
def aHy (s:pG):O7 s=some (uJ s):=by
 have h:=CN (f:=WR s) (l:=xU) (fun x=>decide (x=s)) (fun k=>(k:Int)) (fun i h=>by
  have h5:i<5:=h;unfold WR a2u;rw[aU8 pM,aU8 (⟨pJ,by simp;omega⟩)];show (if decide (rC .str xU (i:Int)=s)=true then _ else _)=_;rw[z6 (t:= .str) h,aU8 (tN pJ)]) (by
  unfold WR;rw[aVa (by simp [xU])])
 unfold O7;rw[h,GS];rfl
def XR (s:pG):JT s=some (decide (0<=uJ s))/\DF xU s=some (uJ s):=by
 have hi:DF xU s=some (uJ s):=by
  rw[aHw xU s (by unfold r8;decide)];unfold uJ;simp only[eq_comm]
 refine⟨?_,hi⟩;unfold JT I7;show ((DF xU s).bind _).bind _=_;rw[hi];rfl
abbrev s7:=pG×pG×Unit
abbrev tF:Ty:= .pair .str (.pair .str .unit)
def AI (l:List s7) (n:pG):pS:=l.findIdx? fun x=>decide (x.1=n)
def SS (l:List s7) (n:pG):pG×Bool:=vG (fun k=>((l.getD k ([],[],())).2.1,true)) ([],false) (AI l n)
def aHz (l:List s7) (n:pG):(SS l n).2=l.any fun x=>decide (x.1=n):=by
 unfold SS AI;rw[K6];cases l.any fun x=>decide (x.1=n)<;>rfl
def aOV (l:List s7) (n:pG) (hl:r8 l):WT l n=some (SS l n):=by
 unfold r8 at hl;have h:=CN (f:=WS l n) (l:=l) (fun x=>decide (x.1=n)) (fun k=>((l.getD k ([],[],())).2.1,true)) (fun i h=>by
  unfold WS;rw[aU8 (uI h),aU8 (sN h),z6 (t:=tF) h,aU8 (sN h),aU8 (tN pJ),aVy,aVj h];rfl) (by
  unfold WS;rw[aVa (vZ _)])
 unfold WT;rw[h,GS];rfl
def aHA (l:List s7) (n:pG) (hl:r8 l):I9 l n=some (vG (fun k=>(k:Int)) (-1) (AI l n)):=by
 unfold r8 at hl;have h:=CN (f:=RU l n) (l:=l) (fun x=>decide (x.1=n)) (fun k=>(k:Int)) (fun i h=>by
  unfold RU;rw[aU8 (uI h),aU8 (sN h),z6 (t:=tF) h,aU8 (tN pJ)]) (by
  unfold RU;rw[aVa (vZ _)])
 unfold I9 OG;rw[h,GS];rfl
def a9h {l:List s7}{n:pG}{k:Nat}(h:AI l n=some k):k<l.length:=by
 unfold AI at h;exact(aVM.1 h).1
def aOW (l:List s7) (n:pG) (hl:r8 l):JS l n=some (SS l n):=by
 unfold JS;rw[aHA l n hl];unfold SS;cases h:AI l n with
 |none=>rfl
 |some k=>
  have hk:=a9h h;simp only[vG,aU7];rw[aVa pL,aU8 (sN hk),z6 (t:=tF) hk];simp only[vG,aVy,aVj hk];rfl
def FR (l:List s7) (n:pG):Nat:=(l.findIdx? fun x=> !(Op.bytesLess x.1 n||decide (x.1=n))).getD l.length
def BG (l:List s7) (n v:pG):List s7:=vG (fun k=>l.set k (n,v,())) (l.take (FR l n)++[(n,v,())]++l.drop (FR l n)) (AI l n)
def aHB (l:List s7) (n:pG):FR l n<=l.length:=by
 unfold FR;cases h:l.findIdx? fun x=> !(Op.bytesLess x.1 n||decide (x.1=n)) with
 |none=>exact aVp _
 |some k=>exact Nat.le_of_lt (aVM.1 h).1
def aOX (l:List s7) (n v:pG):(BG l n v).length<=l.length+1:=by
 have:=aHB l n;unfold BG;cases AI l n with
 |none=>simp [vG];omega
 |some k=>simp [vG]
def aHC {l:List s7}{n:pG}{k:Nat}(h:AI l n=some k) (hk:k<l.length):l[k].1=n:=by
 unfold AI at h;have:=(aVM.1 h).2.1;simpa using this
def aHD (l:List s7) (n v:pG) (hl:r8 l):JV l n v=some (BG l n v):=by
 have hl':=hl;unfold r8 at hl';unfold JV JN;rw[aU8 pJ];show (I9 ([]++l) n).bind _=_;rw[List.nil_append,aHA l n hl];unfold BG;cases h:AI l n with
 |some k=>
  have hk:=a9h h;simp only[vG,aU7];rw[aU8 pL,aU8 (sN hk),z6 (t:=tF) hk,aVN];congr 2;exact Prod.ext (aHC h hk) rfl
 |none=>
  simp only[vG,aU7];rw[aVa pK];have h2:=CN (f:=RV l n) (l:=l) (fun x=> !(Op.bytesLess x.1 n||decide (x.1=n))) (fun k=>(k:Int)) (fun i h=>by
   unfold RV;rw[aU8 (uI h),aU8 (sN h),z6 (t:=tF) h,aU8 (tN pJ)]) (by
   unfold RV;rw[aVa (vZ _)])
  unfold OH;rw[h2,GS];unfold FR;cases h3:l.findIdx? fun x=> !(Op.bytesLess x.1 n||decide (x.1=n)) with
  |none=>
   simp only[vG,aU7];rw[aU8 pK,aU8 ⟨pJ,aVW _⟩,aU8 pM];simp [CJ,vG]
  |some k=>
   have hk:k<l.length:=(aVM.1 h3).1;simp only[vG,aU7];rw[aVa pL,aU8 ⟨pJ,pJ⟩,aU8 pM];simp [CJ,vG]
def XS {α:Type}{f:Int->Option (Int⊕Int)}{l:List α}(p:α->Bool)
  (hf: ∀(i:Nat) (h:i<l.length),f i=if p l[i]=true then some (.inl (i+1)) else some (.inr i)) (he:f l.length=some (.inr l.length)):
  ∀(n j:Nat),j+n=l.length->rE f j=some (((j+((l.drop j).findIdx? fun x=> !p x).getD n:Nat)):Int)
 |0,j,hj=>by
  have:j=l.length:=by omega
  subst this;rw[aVR,yZ,he];simp
 |n+1,j,hj=>by
  have hlt:j<l.length:=by omega
  rw[yZ,hf j hlt,aVA hlt,aWd];by_cases hp:p l[j]=true
  .rw[aU8 hp,aVa (by simp [hp])];show rE f ((j:Int)+1)=_;rw[show ((j:Int)+1)=((j+1:Nat):Int) by omega,XS p hf he n (j+1) pJ];cases(l.drop (j+1)).findIdx? fun x=> !p x with
   |none=>simp;omega
   |some k=>simp;omega
  .rw[aVa hp,aU8 (by simpa using hp)];simp
def aHE {α:Type}{f:Int->Option (Int⊕Int)}{l:List α}(p:α->Bool)
  (hf: ∀(i:Nat) (h:i<l.length),f i=if p l[i]=true then some (.inl (i+1)) else some (.inr i)) (he:f l.length=some (.inr l.length)):
  rE f 0=some (((l.findIdx? fun x=> !p x).getD l.length:Nat):Int):=by
 have:=XS p hf he l.length 0 pJ;simpa using this
def XT {α:Type}{l:List α}{k:Nat}:qV l 0 (k:Int)=l.take k:=by unfold qV;simp
def GT {α:Type}{l:List α}{k:Nat}:qV l (k:Int) (l.length:Int)=l.drop k:=by
 unfold qV;rw[aVN,aVN,List.take_of_length_le];rw[aVh];exact aVp _
def aHF (l:List s7) (n v:pG) (hl:r8 l):WV l n v=some (BG l n v):=by
 have hl':=hl;unfold r8 at hl';unfold WV;rw[aU8 pJ];have h1:=CN (f:=WU l n v) (l:=l) (fun x=>decide (x.1=n)) (fun k=>l.set k ((l.getD k ([],[],())).1,(v,(l.getD k ([],[],())).2.2))) (fun i h=>by
  unfold WU;rw[List.nil_append,aU8 (uI h),aU8 (sN h),z6 (t:=tF) h,aU8 (sN h),aU8 (tN pJ),aVy,aVj h,aVN];rfl) (by
  unfold WU;rw[List.nil_append,aVa (vZ _)])
 rw[h1];unfold BG;show sZ (some (vG _ _ (AI l n))) _=_;cases h:AI l n with
 |some k=>
  have hk:=a9h h;simp only[vG,aVy,aVj hk];show some (l.set k _)=_;congr 2;exact Prod.ext (aHC h hk) rfl
 |none=>
  show sB (rE (O8 l n) 0) _=_;have h2:=aHE (f:=O8 l n) (l:=l) (fun x=>Op.bytesLess x.1 n||decide (x.1=n)) (fun i h=>by
   unfold O8;rw[aU8 (fun _=>sN h),z6 (t:=tF) h,uI h,Bool.true_and,aU8 (tN pJ)]) (by
   unfold O8;have hF:decide ((l.length:Int)<(l.length:Int))=false:=by simp
   rw[hF,aU8 (fun h=>by simp at h),aW6,aVa pK])
  rw[show rE (O8 l n) 0=some ((FR l n:Nat):Int) from h2];have hk:=aHB l n;unfold sB;rw[aU7,aU8 ⟨aVW _,pJ,pJ⟩,XT,GT,aU8 pM,aU8 pM,aU8 ⟨pJ,pJ,aVW _⟩,aU8 pM];simp [vG]
end Go.Proofs.YtbbpilohihldiaaGreatDoor
