/- Packed by a program of mine (wip/tools/pack.py): the same texts with short names and few blanks. -/
import Derived.KernelRfl
import Derived.Laws.BitsLemmas
import Derived.Lib.Index
import Derived.Lib.IndexAny
import Derived.Sort.Walk0
import Derived.Test.YtbbpilohihldiaaGreatDoorZ02
set_option linter.unusedVariables false
set_option linter.unusedSimpArgs false
set_option linter.unusedSectionVars false
set_option maxRecDepth 100000
set_option maxHeartbeats 4000000
namespace Go.Proofs.YtbbpilohihldiaaGreatDoor
open Vc
noncomputable section
def aA0 (O:Int) (Z:(List UInt8)):(Int×(List Int))→Option ((Int×(List Int))⊕((List Int)⊕((List UInt8)×Int×Int))):=fun(aA,aB)=>if (decide (aA<(Z.length:Int)))=true then if 0≤aA∧aA<(Z.length:Int) then if (decide ((pI Z aA)=(38:Int)))=true then if 0≤aA∧aA≤(Z.length:Int)∧(Z.length:Int)≤(Z.length:Int) then (L5 (pE Z aA (Z.length:Int))).bind fun aC=>if (decide (aC.2=(0:Int)))=true then some (.inr (.inr ((([]:List UInt8),aA,(3:Int))))) else (EY (aB,()) aC.1).bind fun aD=>if p8 (aA+aC.2) then some (.inl ((aA+aC.2),(aB++sP aC.1))) else none else none else if 0≤aA∧aA<(Z.length:Int) then if (IA O (pI Z aA))=true then some (.inr (.inr ((([]:List UInt8),aA,(3:Int))))) else if 0≤aA∧aA<(Z.length:Int) then (IB (aB,()) (pI Z aA)).bind fun aE=>if p8 (aA+(1:Int)) then some (.inl ((aA+(1:Int)),(aB++([(pI Z aA)]:List Int)))) else none else none else none else none else some (.inr (.inl aB))
def L6 (O:Int) (Z:(List UInt8)):(Int×(List Int))→Option ((Int×(List Int))⊕((List Int)⊕((List UInt8)×Int×Int))):=fun(aA,aB)=>if (decide (aA<(Z.length:Int)))=true then if 0≤aA∧aA<(Z.length:Int) then if (decide ((pI Z aA)=(92:Int)))=true then if 0≤aA∧aA≤(Z.length:Int)∧(Z.length:Int)≤(Z.length:Int) then (F8 (pE Z aA (Z.length:Int))).bind fun aC=>if (decide (aC.2=(0:Int)))=true then some (.inr (.inr ((([]:List UInt8),aA,(3:Int))))) else (EY (aB,()) aC.1).bind fun aD=>if p8 (aA+aC.2) then some (.inl ((aA+aC.2),(aB++sP aC.1))) else none else none else if 0≤aA∧aA<(Z.length:Int) then if (IA O (pI Z aA))=true then some (.inr (.inr ((([]:List UInt8),aA,(3:Int))))) else if 0≤aA∧aA<(Z.length:Int) then (IB (aB,()) (pI Z aA)).bind fun aE=>if p8 (aA+(1:Int)) then some (.inl ((aA+(1:Int)),(aB++([(pI Z aA)]:List Int)))) else none else none else none else none else some (.inr (.inl aB))
def DS (O:Int) (Z:(List UInt8)):Option ((List UInt8)×Int×Int):=if (!((decide ((1:Int)≤O))&&(decide (O≤(4:Int)))))=true then some ((([]:List UInt8),(0:Int),(1:Int))) else if (decide (O=(4:Int)))=true then s5 (pR (aA0 O Z) ((0:Int),([]:List Int))) fun aA=>some (((sD aA),(0:Int),(0:Int))) else s5 (pR (L6 O Z) ((0:Int),([]:List Int))) fun aB=>some (((sD aB),(0:Int),(0:Int)))
section
variable (O:Int) (Z:(List UInt8))
abbrev a2P:List oZ:=[(.val (.int .i64) O,none),(.val .str Z,none)]
abbrev a2Q:List oX:=[]
@[go_sem] def a2R:pD:=⟨[((DS O Z)).isSome=true],[(.val .str ((val (DS O Z)).1),none),(.val (.int .i64) ((val (DS O Z)).2.1),none),(.val (.int .i64) ((val (DS O Z)).2.2),none)],[]⟩
def aA1:List oZ→List oX→Option pD:=qM (V:=(Int×(List UInt8))) (fun x=>a2P x.1 x.2) (fun x=>a2Q) fun x=>a2R x.1 x.2
@[go_sem] theorem aMh:aA1 (no_index (a2P O Z)) (no_index a2Q)=some (a2R O Z):=qQ (fun⟨a0,a1⟩ ⟨b0,b1⟩ h1 h2=>by cases h1;cases h2;rfl) (O,Z)
end
@[go_sem] abbrev aA2:Nat×pY:=(174,⟨[.v,.v],aA1,[],[],none⟩)
theorem tD:qB Tryz.prog [s7,G9] (pZ [ZJ,aAZ,Y9,a9G,a9I,RR,aAX]):=⟨⟨sB,⟨K9,trivial⟩⟩,pK a9o (pK aHo (pK a8W (pK aGP (pK aGQ (pK XY (pK aHn qS)))))),qD⟩
theorem aHp:qH Tryz.prog aA2:=by
 refine qR tD Tryz.func174 (c:=_) rfl (N:=58) (by kernel_rfl) (ts:=[(4,none),(5,none),(6,none)]) rfl (fun _ _=>rfl) ?_;intro⟨O,Z⟩ hs hrow;dsimp only[a2P,a2Q,a2R,qI,pG,pN,qE,qK,Nat.reduceAdd] at hs hrow⊢;have hz:=hs;obtain⟨z0,hC0⟩:=aMM.1 hz
 try rw[rG hC0]
 clear hz hs;unfold DS at hC0;refine oY tD ?_;refine pX ?_;refine oY tD ?_;refine pP hC0 (fun hC0 hc1=> ?_) (fun hC0 hc1=> ?_)
 ·refine oY tD ?_;refine pH (rI ?_);cases hC0;exact⟨[],by rfl,by rfl,by rfl⟩
 ·refine qJ (pM ?_);refine oY tD ?_;refine pX ?_;refine oY tD ?_;refine pP hC0 (fun hC0 hc2=> ?_) (fun hC0 hc2=> ?_)
  ·refine qY tD ?_;refine pM ?_;refine oY tD ?_;refine pX ?_;refine oY tD ?_;refine rR ?_;obtain⟨y1,hy1,hC0⟩:=yW hC0;refine wN 0 (fun s=> ∃v,y1= .inl v∧s=(fun x=>⟨[(9,(.val .ref (some (0,0)),none))],[(0,.cells wO ((some (0,0)),(x,())) [(1,1)]),(1,.grow 5 1 (x.length))],2,58,0⟩) v) ?_ ?_
   ·refine wM hy1 (fun x=>⟨[(0,(.val (.int .i64) O,none)),(1,(.val .str Z,none)),(7,(.val (.int .u8) (38:Int),none)),(8,(.val .clo (some (210,[])),none)),(9,(.val .ref (some (0,0)),none)),(10,(.val (.int .i64) x.1,none))],[(0,.cells wO ((some (0,0)),(x.2,())) [(1,1)]),(1,.grow 5 1 (x.2.length))],2,58,0⟩) ⟨[0,1,7,8,9,10],[(0,384),(1,385)]⟩ (by rfl) ?_;intro x1 w1 n1 hC1 hN1;obtain⟨aA,aB⟩:=x1;unfold aA0 at hC1;dsimp only at hC1⊢;refine pX ?_;refine oY tD ?_;refine pP hC1 (fun hC1 hc3=> ?_) (fun hC1 hc3=> ?_)
    ·refine qJ (pM (rR (rR ?_)));obtain⟨hg1,hC1⟩:=pJ hC1;refine oY tD ?_ (hp:=by exact hg1);refine pP hC1 (fun hC1 hc4=> ?_) (fun hC1 hc4=> ?_)
     ·obtain⟨hg2,hC1⟩:=pJ hC1;obtain⟨aC,hv3,hw3,hC1⟩:=pV hC1
      try simp only[go_sem] at hw3
      refine oY tD ?_ (hp:=by exact⟨hg2,(pU hv3)⟩) (h:=by simp only[go_sem,hw3];rfl);refine pX ?_;refine oY tD ?_;refine pP hC1 (fun hC1 hc5=> ?_) (fun hC1 hc5=> ?_)
      ·refine oY tD ?_;refine pH (rI (rS (rS (yV (yU (rS (rI ?_)))))));cases hC1;cases hN1;dsimp only at hC0;cases hC0;exact⟨[],by rfl,by rfl,by rfl⟩
      ·refine qJ (pM ?_);obtain⟨aD,hv4,hw4,hC1⟩:=pV hC1
       try simp only[go_sem] at hw4
       refine oY tD ?_ (hp:=by exact⟨by first|rfl|trivial,(pU hv4)⟩) (h:=by simp only[go_sem,hw4];rfl)
       obtain⟨hg5,hC1⟩:=pJ hC1;refine qY tD ?_ (hp:=by exact hg5);refine qV (qV ?_);cases hC1;exact tO ⟨⟨[0,1,7,8,9,10],[(0,0),(1,1)]⟩,_,by rfl,hN1⟩
     ·obtain⟨hg6,hC1⟩:=pJ hC1;refine oY tD ?_ (hp:=by exact hg6);refine pP hC1 (fun hC1 hc6=> ?_) (fun hC1 hc6=> ?_)
      ·refine oY tD ?_;refine pH (rS (rS (yV (yU (rS (rI ?_))))));cases hC1;cases hN1;dsimp only at hC0;cases hC0;exact⟨[],by rfl,by rfl,by rfl⟩
      ·obtain⟨hg7,hC1⟩:=pJ hC1;obtain⟨aE,hv8,hw8,hC1⟩:=pV hC1
       try simp only[go_sem] at hw8
       refine oY tD ?_ (hp:=by exact⟨hg7,by first|rfl|trivial,(pU hv8)⟩) (h:=by simp only[go_sem,hw8];rfl)
       obtain⟨hg9,hC1⟩:=pJ hC1;refine qY tD ?_ (hp:=by exact hg9);refine qV (qV ?_);cases hC1;exact tO ⟨⟨[0,1,7,8,9,10],[(0,0),(1,1)]⟩,_,by rfl,hN1⟩
    ·refine vW (wC (vY ?_));cases hC1;cases hN1;exact vX ⟨⟨[9],[(0,0),(1,1)]⟩,_,rfl,by rfl⟩
   ·rintro _ ⟨aF,rfl,rfl⟩;dsimp only at hC0⊢;refine wL (pM ?_);refine oY tD ?_ (hp:=by first|rfl|trivial)
    refine pH ?_;cases hC0;exact⟨[],by rfl,by rfl,by rfl⟩
  ·refine qJ (pM ?_);refine oY tD ?_;refine pX ?_;refine oY tD ?_;refine rR ?_;obtain⟨y1,hy1,hC0⟩:=yW hC0;refine wN 0 (fun s=> ∃v,y1= .inl v∧s=(fun x=>⟨[(9,(.val .ref (some (0,0)),none))],[(0,.cells wO ((some (0,0)),(x,())) [(1,1)]),(1,.grow 5 1 (x.length))],2,58,0⟩) v) ?_ ?_
   ·refine wM hy1 (fun x=>⟨[(0,(.val (.int .i64) O,none)),(1,(.val .str Z,none)),(7,(.val (.int .u8) (92:Int),none)),(8,(.val .clo (some (209,[])),none)),(9,(.val .ref (some (0,0)),none)),(10,(.val (.int .i64) x.1,none))],[(0,.cells wO ((some (0,0)),(x.2,())) [(1,1)]),(1,.grow 5 1 (x.2.length))],2,58,0⟩) ⟨[0,1,7,8,9,10],[(0,320),(1,321)]⟩ (by rfl) ?_;intro x1 w1 n1 hC1 hN1;obtain⟨aG,aH⟩:=x1;unfold L6 at hC1;dsimp only at hC1⊢;refine pX ?_;refine oY tD ?_;refine pP hC1 (fun hC1 hc7=> ?_) (fun hC1 hc7=> ?_)
    ·refine qJ (pM (rR (rR ?_)));obtain⟨hg10,hC1⟩:=pJ hC1;refine oY tD ?_ (hp:=by exact hg10);refine pP hC1 (fun hC1 hc8=> ?_) (fun hC1 hc8=> ?_)
     ·obtain⟨hg11,hC1⟩:=pJ hC1;obtain⟨aI,hv12,hw12,hC1⟩:=pV hC1
      try simp only[go_sem] at hw12
      refine oY tD ?_ (hp:=by exact⟨hg11,(pU hv12)⟩) (h:=by simp only[go_sem,hw12];rfl);refine pX ?_;refine oY tD ?_;refine pP hC1 (fun hC1 hc9=> ?_) (fun hC1 hc9=> ?_)
      ·refine oY tD ?_;refine pH (rI (rS (rS (yV (yU (rS (rI ?_)))))));cases hC1;cases hN1;dsimp only at hC0;cases hC0;exact⟨[],by rfl,by rfl,by rfl⟩
      ·refine qJ (pM ?_);obtain⟨aJ,hv13,hw13,hC1⟩:=pV hC1
       try simp only[go_sem] at hw13
       refine oY tD ?_ (hp:=by exact⟨by first|rfl|trivial,(pU hv13)⟩) (h:=by simp only[go_sem,hw13];rfl)
       obtain⟨hg14,hC1⟩:=pJ hC1;refine qY tD ?_ (hp:=by exact hg14);refine qV (qV ?_);cases hC1;exact tO ⟨⟨[0,1,7,8,9,10],[(0,0),(1,1)]⟩,_,by rfl,hN1⟩
     ·obtain⟨hg15,hC1⟩:=pJ hC1;refine oY tD ?_ (hp:=by exact hg15);refine pP hC1 (fun hC1 hc10=> ?_) (fun hC1 hc10=> ?_)
      ·refine oY tD ?_;refine pH (rS (rS (yV (yU (rS (rI ?_))))));cases hC1;cases hN1;dsimp only at hC0;cases hC0;exact⟨[],by rfl,by rfl,by rfl⟩
      ·obtain⟨hg16,hC1⟩:=pJ hC1;obtain⟨aK,hv17,hw17,hC1⟩:=pV hC1
       try simp only[go_sem] at hw17
       refine oY tD ?_ (hp:=by exact⟨hg16,by first|rfl|trivial,(pU hv17)⟩) (h:=by simp only[go_sem,hw17];rfl)
       obtain⟨hg18,hC1⟩:=pJ hC1;refine qY tD ?_ (hp:=by exact hg18);refine qV (qV ?_);cases hC1;exact tO ⟨⟨[0,1,7,8,9,10],[(0,0),(1,1)]⟩,_,by rfl,hN1⟩
    ·refine vW (wC (vY ?_));cases hC1;cases hN1;exact vX ⟨⟨[9],[(0,0),(1,1)]⟩,_,rfl,by rfl⟩
   ·rintro _ ⟨aL,rfl,rfl⟩;dsimp only at hC0⊢;refine wL (pM ?_);refine oY tD ?_ (hp:=by first|rfl|trivial)
    refine pH ?_;cases hC0;exact⟨[],by rfl,by rfl,by rfl⟩
attribute [irreducible] DS
def F9 (O:(List UInt8)) (Z:Int):Option (Int×(List UInt8)×Int):=if 0≤(1:Int)∧(1:Int)≤(O.length:Int)∧(O.length:Int)≤(O.length:Int) then (IJ (3:Int) (pE O (1:Int) (O.length:Int)) (34:Int)).bind fun aA=>if (decide (aA<(0:Int)))=true then some (((0:Int),([]:List UInt8),Z)) else if p8 (aA+(1:Int)) then if 0≤(1:Int)∧(1:Int)≤(aA+(1:Int))∧(aA+(1:Int))≤(O.length:Int) then (DS (3:Int) (pE O (1:Int) (aA+(1:Int)))).bind fun aB=>if (((!decide (aB.2.2=(0:Int)))==false)=true→((KW aB.1)).isSome=true) then if ((!decide (aB.2.2=(0:Int)))||(!((decide ((aB.1.length:Int)≤(4000:Int)))&&(Lib.validD aB.1))))=true then some (((0:Int),([]:List UInt8),Z)) else if p8 (Z+aA) then if p8 ((Z+aA)+(2:Int)) then some (((1:Int),aB.1,((Z+aA)+(2:Int)))) else none else none else none else none else none else none
section
variable (O:(List UInt8)) (Z:Int)
abbrev a2S:List oZ:=[(.val .str O,none),(.val (.int .i64) Z,none)]
abbrev a2T:List oX:=[]
@[go_sem] def a2U:pD:=⟨[((F9 O Z)).isSome=true],[(.val K6 ((val (F9 O Z)).1,((val (F9 O Z)).2.1,(Z,((val (F9 O Z)).2.2,())))),none)],[]⟩
def aA3:List oZ→List oX→Option pD:=qM (V:=((List UInt8)×Int)) (fun x=>a2S x.1 x.2) (fun x=>a2T) fun x=>a2U x.1 x.2
@[go_sem] theorem aMi:aA3 (no_index (a2S O Z)) (no_index a2T)=some (a2U O Z):=qQ (fun⟨a0,a1⟩ ⟨b0,b1⟩ h1 h2=>by cases h1;cases h2;rfl) (O,Z)
end
@[go_sem] abbrev aA4:Nat×pY:=(119,⟨[.v,.v],aA3,[],[],none⟩)
theorem FA:qB Tryz.prog [s7,yY] (pZ [aAt,aA2,aAv]):=⟨⟨sB,⟨AL,trivial⟩⟩,pK aHa (pK aHp (pK aHb qS)),qD⟩
theorem aHq:qH Tryz.prog aA4:=by
 refine qR FA Tryz.func119 (c:=_) rfl (N:=43) (by kernel_rfl) (ts:=[(4,some 65)]) rfl (fun _ _=>rfl) ?_;intro⟨O,Z⟩ hs hrow;dsimp only[a2S,a2T,a2U,qI,pG,pN,qE,qK,Nat.reduceAdd] at hs hrow⊢;have hz:=hs;obtain⟨z0,hC0⟩:=aMM.1 hz
 try rw[rG hC0]
 clear hz hs;unfold F9 at hC0;refine oY FA ?_;obtain⟨hg1,hC0⟩:=pJ hC0;obtain⟨aA,hv2,hw2,hC0⟩:=pV hC0
 try simp only[go_sem] at hw2
 refine oY FA ?_ (hp:=by exact⟨hg1,(pU hv2)⟩) (h:=by simp only[go_sem,hw2];rfl);refine pX ?_;refine oY FA ?_;refine pP hC0 (fun hC0 hc1=> ?_) (fun hC0 hc1=> ?_)
 ·refine oY FA ?_;refine pH (rI ?_);cases hC0;exact⟨[],by rfl,by rfl,by rfl⟩
 ·refine qJ (pM ?_);obtain⟨hg3,hC0⟩:=pJ hC0;obtain⟨hg4,hC0⟩:=pJ hC0;obtain⟨aB,hv5,hw5,hC0⟩:=pV hC0
  try simp only[go_sem] at hw5
  refine oY FA ?_ (hp:=by exact⟨hg3,hg4,(pU hv5)⟩) (h:=by simp only[go_sem,hw5];rfl);refine pX ?_;obtain⟨hg6,hC0⟩:=pJ hC0;refine oY FA ?_ (hp:=by exact⟨fun hh=>hh,hg6,fun hh=>hh,(fun hh=>xX hh)⟩);refine pP hC0 (fun hC0 hc2=> ?_) (fun hC0 hc2=> ?_)
  ·refine oY FA ?_;refine pH (rI ?_);cases hC0;exact⟨[],by rfl,by rfl,by rfl⟩
  ·refine qJ (pM ?_);obtain⟨hg7,hC0⟩:=pJ hC0;obtain⟨hg8,hC0⟩:=pJ hC0;refine oY FA ?_ (hp:=by exact⟨hg7,hg8⟩);refine pH ?_;cases hC0;exact⟨[],by rfl,by rfl,by rfl⟩
attribute [irreducible] F9
end
noncomputable section
def zS (O:ER) (Z:qT) (aA:(Bool×(Bool×(Bool×Unit)))) (aB:rJ) (aC:Bool):Option (Int×Int×Int×(List UInt8)×(List UInt8)×(List (List UInt8))×(List (List UInt8))×Int×(List pL)×Bool×Bool×Bool):=if (decide (aB.2.1=([99,111,109,109,101,110,116]:List UInt8)))=true then if (decide ((20:Int)≤(Z.2.2.2.1.length:Int)))=true then qW (wR O aB (6:Int)) fun aD=>some ((O.2.1,aD.1,aD.2,Z.2.1,Z.2.2.1,Z.2.2.2.1,Z.2.2.2.2.1,Z.2.2.2.2.2.1,Z.2.2.2.2.2.2.1,aA.1,aA.2.1,aA.2.2.1)) else (uN O (1:Int) ([]:List UInt8)).bind fun aE=>if (([]:List (List UInt8)).length+Z.2.2.2.1.length)*16≤140737488355328 then if ((([]:List (List UInt8))++Z.2.2.2.1).length+([aE.2.2.2.2.1]:List (List UInt8)).length)*16≤140737488355328 then some ((aE.1,aE.2.1,aE.2.2.1,Z.2.1,Z.2.2.1,((([]:List (List UInt8))++Z.2.2.2.1)++([aE.2.2.2.2.1]:List (List UInt8))),Z.2.2.2.2.1,Z.2.2.2.2.2.1,Z.2.2.2.2.2.2.1,aA.1,aA.2.1,aA.2.2.1)) else none else none else if (decide (aB.2.1=([102,105,101,108,100]:List UInt8)))=true then (SK O Z).bind fun aF=>some ((aF.1,aF.2.1,aF.2.2.1,Z.2.1,Z.2.2.1,Z.2.2.2.1,Z.2.2.2.2.1,Z.2.2.2.2.2.1,aF.2.2.2,aA.1,aA.2.1,aA.2.2.1)) else if aC=true then qW (wR O aB (3:Int)) fun aG=>some ((O.2.1,aG.1,aG.2,Z.2.1,Z.2.2.1,Z.2.2.2.1,Z.2.2.2.2.1,Z.2.2.2.2.2.1,Z.2.2.2.2.2.2.1,aA.1,aA.2.1,aA.2.2.1)) else if (decide (aB.2.1=([102,108,97,103]:List UInt8)))=true then (SM O Z).bind fun aH=>some ((aH.1,aH.2.1,aH.2.2.1,Z.2.1,Z.2.2.1,Z.2.2.2.1,aH.2.2.2,Z.2.2.2.2.2.1,Z.2.2.2.2.2.2.1,aA.1,aA.2.1,aA.2.2.1)) else rE (σ:=Bool) (if ((decide (aB.2.1=([115,111,117,114,99,101]:List UInt8)))&&aA.1)=true then some (((decide (aB.2.1=([115,111,117,114,99,101]:List UInt8)))&&aA.1)) else if ((decide (aB.2.1=([116,97,114,103,101,116]:List UInt8)))&&aA.2.1)=true then some (((decide (aB.2.1=([116,97,114,103,101,116]:List UInt8)))&&aA.2.1)) else some (((decide (aB.2.1=([115,116,97,116,101]:List UInt8)))&&aA.2.2.1)) ) fun aI=>if aI=true then qW (wR O aB (9:Int)) fun aJ=>some ((O.2.1,aJ.1,aJ.2,Z.2.1,Z.2.2.1,Z.2.2.2.1,Z.2.2.2.2.1,Z.2.2.2.2.2.1,Z.2.2.2.2.2.2.1,aA.1,aA.2.1,aA.2.2.1)) else if (decide (aB.2.1=([115,111,117,114,99,101]:List UInt8)))=true then (uN O (1:Int) ([]:List UInt8)).bind fun aK=>some ((aK.1,aK.2.1,aK.2.2.1,aK.2.2.2.2.1,Z.2.2.1,Z.2.2.2.1,Z.2.2.2.2.1,Z.2.2.2.2.2.1,Z.2.2.2.2.2.2.1,true,aA.2.1,aA.2.2.1)) else if (decide (aB.2.1=([116,97,114,103,101,116]:List UInt8)))=true then (uN O (1:Int) ([]:List UInt8)).bind fun aL=>some ((aL.1,aL.2.1,aL.2.2.1,Z.2.1,aL.2.2.2.2.1,Z.2.2.2.1,Z.2.2.2.2.1,Z.2.2.2.2.2.1,Z.2.2.2.2.2.2.1,aA.1,true,aA.2.2.1)) else if (decide (aB.2.1=([115,116,97,116,101]:List UInt8)))=true then (uN O (2:Int) ([]:List UInt8)).bind fun aM=>if (((decide (aM.2.2.1=(0:Int)))==true)=true→((KG aM.2.2.2.2.1)).isSome=true) then rE (σ:=(Int×Int)) (if ((decide (aM.2.2.1=(0:Int)))&&(decide ((val (KG aM.2.2.2.2.1))<(0:Int))))=true then qW (wR (O.1,(aM.1,(aM.2.1,(aM.2.2.1,((O.2.2.2.2.1.1,(O.2.2.2.2.1.2.1,(O.2.2.2.2.1.2.2.1,(O.2.2.2.2.1.2.2.2.1,())))),(O.2.2.2.2.2.1,())))))) (aM.2.2.2.1,(aM.2.2.2.2.1,(aM.2.2.2.2.2.1,(aM.2.2.2.2.2.2,())))) (3:Int)) fun aN=>some ((aN.1,aN.2)) else some ((aM.2.1,aM.2.2.1)) ) fun(aO,aP)=>(KG aM.2.2.2.2.1).bind fun aQ=>some ((aM.1,aO,aP,Z.2.1,Z.2.2.1,Z.2.2.2.1,Z.2.2.2.2.1,aQ,Z.2.2.2.2.2.2.1,aA.1,aA.2.1,true)) else none else qW (wR O aB (3:Int)) fun aR=>some ((O.2.1,aR.1,aR.2,Z.2.1,Z.2.2.1,Z.2.2.2.1,Z.2.2.2.2.1,Z.2.2.2.2.2.1,Z.2.2.2.2.2.2.1,aA.1,aA.2.1,aA.2.2.1))
attribute [irreducible] zS
end
noncomputable section
def AN (O:((List UInt8)×(Int×Unit))):Option (Int×(List UInt8)×Int×Int×Int):=(GM O).bind fun Z=>if (!Z.1)=true then some (((0:Int),([]:List UInt8),Z.2,Z.2,Z.2)) else if (decide (Z.2=(O.1.length:Int)))=true then some (((4:Int),([]:List UInt8),Z.2,Z.2,Z.2)) else if 0≤Z.2∧Z.2≤(O.1.length:Int)∧(O.1.length:Int)≤(O.1.length:Int) then if 0≤(0:Int)∧(0:Int)<((pE O.1 Z.2 (O.1.length:Int)).length:Int) then if ((decide ((pI (pE O.1 Z.2 (O.1.length:Int)) (0:Int))=(123:Int)))||(decide ((pI (pE O.1 Z.2 (O.1.length:Int)) (0:Int))=(125:Int))))=true then if 0≤(0:Int)∧(0:Int)≤(1:Int)∧(1:Int)≤((pE O.1 Z.2 (O.1.length:Int)).length:Int) then if p8 (Z.2+(1:Int)) then some (((3:Int),(pE (pE O.1 Z.2 (O.1.length:Int)) (0:Int) (1:Int)),Z.2,(Z.2+(1:Int)),(Z.2+(1:Int)))) else none else none else if (decide ((pI (pE O.1 Z.2 (O.1.length:Int)) (0:Int))=(34:Int)))=true then (F9 (pE O.1 Z.2 (O.1.length:Int)) Z.2).bind fun aA=>some ((aA.1,aA.2.1,Z.2,aA.2.2,aA.2.2)) else if (((decide ((97:Int)≤(pI (pE O.1 Z.2 (O.1.length:Int)) (0:Int))))&&(decide ((pI (pE O.1 Z.2 (O.1.length:Int)) (0:Int))≤(122:Int))))||((decide ((65:Int)≤(pI (pE O.1 Z.2 (O.1.length:Int)) (0:Int))))&&(decide ((pI (pE O.1 Z.2 (O.1.length:Int)) (0:Int))≤(90:Int)))))=true then (ID (pE O.1 Z.2 (O.1.length:Int))).bind fun aB=>rE (σ:=Int) (if (decide (aB<(0:Int)))=true then some (((pE O.1 Z.2 (O.1.length:Int)).length:Int)) else some (aB) ) fun aC=>if 0≤(0:Int)∧(0:Int)≤aC∧aC≤((pE O.1 Z.2 (O.1.length:Int)).length:Int) then if p8 (Z.2+aC) then some (((2:Int),(pE (pE O.1 Z.2 (O.1.length:Int)) (0:Int) aC),Z.2,(Z.2+aC),(Z.2+aC))) else none else none else some (((0:Int),([]:List UInt8),Z.2,Z.2,Z.2)) else none else none
section
variable (O:((List UInt8)×(Int×Unit)))
abbrev a2V:List oZ:=[(.val .ref (some (0,0)),none)]
abbrev a2W:List oX:=[.cells CO O []]
@[go_sem] def a2X:pD:=⟨[((AN O)).isSome=true],[(.val K6 ((val (AN O)).1,((val (AN O)).2.1,((val (AN O)).2.2.1,((val (AN O)).2.2.2.1,())))),none)],[.cells CO (O.1,((val (AN O)).2.2.2.2,())) []]⟩
def aA5:List oZ→List oX→Option pD:=qM (V:=((List UInt8)×(Int×Unit))) (fun x=>a2V) (fun x=>a2W x) fun x=>a2X x
@[go_sem] theorem aMj:aA5 (no_index a2V) (no_index (a2W O))=some (a2X O):=qQ (fun a0 b0 h1 h2=>by cases h1;cases h2;rfl) O
end
@[go_sem] abbrev a2Y:Nat×pY:=(81,⟨[.p CO []],aA5,[],[],none⟩)
theorem uK:qB Tryz.prog [v6,s7,N6,yY] (pZ [aAM,aA4,YX,a98]):=⟨⟨vM,⟨sB,⟨XV,⟨AL,trivial⟩⟩⟩⟩,pK aHi (pK aHq (pK a9a (pK aG0 qS))),qD⟩
theorem aA6:qH Tryz.prog a2Y:=by
 refine qR uK Tryz.func81 (c:=_) rfl (N:=87) (by kernel_rfl) (ts:=[(2,some 65)]) rfl (fun _ _=>rfl) ?_;intro O hs hrow;dsimp only[a2V,a2W,a2X,qI,pG,pN,qE,qK,Nat.reduceAdd] at hs hrow⊢;have hz:=hs;obtain⟨z0,hC0⟩:=aMM.1 hz
 try rw[rG hC0]
 clear hz hs;unfold AN at hC0;refine oY uK ?_;refine pX ?_;obtain⟨Z,hv1,hw1,hC0⟩:=pV hC0
 try simp only[go_sem] at hw1
 refine oY uK ?_ (hp:=by exact(pU hv1)) (h:=by simp only[go_sem,hw1];rfl);refine pP hC0 (fun hC0 hc1=> ?_) (fun hC0 hc1=> ?_)
 ·refine AH uK ?_;refine pH (rI ?_);cases hC0;exact⟨[(0,0)],by rfl,by rfl,by rfl⟩
 ·refine qJ (pM ?_);refine oY uK ?_;refine pX ?_;refine oY uK ?_;refine pP hC0 (fun hC0 hc2=> ?_) (fun hC0 hc2=> ?_)
  ·refine oY uK ?_;refine pH (rI ?_);cases hC0;exact⟨[(0,0)],by rfl,by rfl,by rfl⟩
  ·refine qJ (pM ?_);obtain⟨hg2,hC0⟩:=pJ hC0;refine oY uK ?_ (hp:=by exact hg2);refine oY uK ?_;refine pX ?_;obtain⟨hg3,hC0⟩:=pJ hC0;refine oY uK ?_ (hp:=by exact hg3);refine rR ?_;refine oY uK ?_ (hp:=by exact⟨fun hh=>hh,(fun hh=>xX hh)⟩);refine pP hC0 (fun hC0 hc3=> ?_) (fun hC0 hc3=> ?_)
   ·obtain⟨hg4,hC0⟩:=pJ hC0;obtain⟨hg5,hC0⟩:=pJ hC0;refine qY uK ?_ (hp:=by exact⟨hg4,hg5⟩);refine qV (pM ?_);refine oY uK ?_;refine oY uK ?_;refine pH ?_;cases hC0;exact⟨[(0,0)],by rfl,by rfl,by rfl⟩
   ·refine oY uK ?_;refine pP hC0 (fun hC0 hc4=> ?_) (fun hC0 hc4=> ?_)
    ·obtain⟨aA,hv6,hw6,hC0⟩:=pV hC0
     try simp only[go_sem] at hw6
     refine qY uK ?_ (hp:=by exact(pU hv6)) (h:=by simp only[go_sem,hw6];rfl);refine qV (pM ?_);refine oY uK ?_;refine oY uK ?_;refine pH ?_;cases hC0;exact⟨[(0,0)],by rfl,by rfl,by rfl⟩
    ·refine oY uK ?_;refine pP hC0 (fun hC0 hc5=> ?_) (fun hC0 hc5=> ?_)
     ·obtain⟨aB,hv7,hw7,hC0⟩:=pV hC0
      try simp only[go_sem] at hw7
      refine oY uK ?_ (hp:=by exact(pU hv7)) (h:=by simp only[go_sem,hw7];rfl);refine pX ?_;refine oY uK ?_;obtain⟨aC,hC1,hC0⟩:=pA hC0;refine I1 (fun s=>s=(fun x=>⟨[(0,(.val .ref (some (0,0)),none)),(2,(.val .ref (some (1,0)),none)),(3,(.val (.int .i64) Z.2,none)),(4,(.val .str (pE O.1 Z.2 (O.1.length:Int)),none)),(5,(.val .ref (some (2,0)),none)),(7,(.val (.int .i64) x,none))],[(0,.cells CO (O.1,(Z.2,())) []),(1,.cells K6 ((0:Int),(([]:List UInt8),((0:Int),((0:Int),())))) []),(2,.cells K6 ((0:Int),(([]:List UInt8),(Z.2,(Z.2,())))) [])],3,87,1⟩) aC) ?_ ?_
      ·refine pP hC1 (fun hC1 hc6=> ?_) (fun hC1 hc6=> ?_)
       ·refine qY uK ?_;cases hC1;exact AG ⟨⟨[0,2,3,4,5,7],[(0,0),(1,1),(2,833)]⟩,by rfl⟩
       ·refine qJ ?_;cases hC1;exact AG ⟨⟨[0,2,3,4,5,7],[(0,0),(1,1),(2,833)]⟩,by rfl⟩
      ·rintro _ rfl;dsimp only at hC0⊢;refine pM ?_;obtain⟨hg8,hC0⟩:=pJ hC0;obtain⟨hg9,hC0⟩:=pJ hC0;refine qY uK ?_ (hp:=by exact⟨hg8,hg9⟩);refine qV (pM ?_);refine oY uK ?_;refine oY uK ?_;refine pH ?_;cases hC0;exact⟨[(0,0)],by rfl,by rfl,by rfl⟩
     ·refine qJ (qV (pM ?_));refine oY uK ?_;refine oY uK ?_;refine pH ?_;cases hC0;exact⟨[(0,0)],by rfl,by rfl,by rfl⟩
attribute [irreducible] AN
def w4 (O:ER) (Z:qT) (aA:Bool):(Int×Int×Int×(List UInt8)×(List UInt8)×(List (List UInt8))×(List (List UInt8))×Int×(List pL)×Bool×Bool×Bool)→Option ((Int×Int×Int×(List UInt8)×(List UInt8)×(List (List UInt8))×(List (List UInt8))×Int×(List pL)×Bool×Bool×Bool)⊕((Int×Int×Int×(List UInt8)×(List UInt8)×(List (List UInt8))×(List (List UInt8))×Int×(List pL))⊕(Int×Int×Int×(List Int)×(List UInt8)×(List UInt8)×(List (List UInt8))×(List (List UInt8))×Int×(List pL)))):=fun(aB,aC,aD,aE,aF,aG,aH,aI,aJ,aK,aL,aM)=>if (decide (aD=(0:Int)))=true then (L4 O.1 aB).bind fun aN=>if ((decide (aN.1=(3:Int)))&&(decide (aN.2.1=([125]:List UInt8))))=true then if (([]:List Int).length+O.2.2.2.2.2.1.length)*8≤140737488355328 then if ((([]:List Int)++O.2.2.2.2.2.1).length+([aN.2.2.2]:List Int).length)*8≤140737488355328 then some (.inr (.inr ((aN.2.2.2,aC,aD,((([]:List Int)++O.2.2.2.2.2.1)++([aN.2.2.2]:List Int)),aE,aF,aG,aH,aI,aJ)))) else none else none else if (!decide (aN.1=(2:Int)))=true then qW (wR (O.1,(aB,(aC,(aD,((O.2.2.2.2.1.1,(O.2.2.2.2.1.2.1,(O.2.2.2.2.1.2.2.1,(O.2.2.2.2.1.2.2.2.1,())))),(O.2.2.2.2.2.1,())))))) (aN.1,(aN.2.1,(aN.2.2.1,(aN.2.2.2,())))) (3:Int)) fun aO=>some (.inr (.inr ((aB,aO.1,aO.2,O.2.2.2.2.2.1,aE,aF,aG,aH,aI,aJ)))) else (zS (O.1,(aN.2.2.2,(aC,(aD,((O.2.2.2.2.1.1,(O.2.2.2.2.1.2.1,(O.2.2.2.2.1.2.2.1,(O.2.2.2.2.1.2.2.2.1,())))),(O.2.2.2.2.2.1,())))))) (Z.1,(aE,(aF,(aG,(aH,(aI,(aJ,()))))))) (aK,(aL,(aM,()))) (aN.1,(aN.2.1,(aN.2.2.1,(aN.2.2.2,())))) aA).bind fun aP=>some (.inl (aP.1,aP.2.1,aP.2.2.1,aP.2.2.2.1,aP.2.2.2.2.1,aP.2.2.2.2.2.1,aP.2.2.2.2.2.2.1,aP.2.2.2.2.2.2.2.1,aP.2.2.2.2.2.2.2.2.1,aP.2.2.2.2.2.2.2.2.2.1,aP.2.2.2.2.2.2.2.2.2.2.1,aP.2.2.2.2.2.2.2.2.2.2.2)) else some (.inr (.inl (aB,aC,aD,aE,aF,aG,aH,aI,aJ)))
def uE (O:ER) (Z:qT) (aA:Bool):Option (Int×Int×Int×(List Int)×(List UInt8)×(List UInt8)×(List (List UInt8))×(List (List UInt8))×Int×(List pL)):=(uN O (3:Int) ([123]:List UInt8)).bind fun aB=>s5 (pR (w4 O Z aA) (aB.1,aB.2.1,aB.2.2.1,Z.2.1,Z.2.2.1,Z.2.2.2.1,Z.2.2.2.2.1,Z.2.2.2.2.2.1,Z.2.2.2.2.2.2.1,false,false,false)) fun(aC,aD,aE,aF,aG,aH,aI,aJ,aK)=>some ((aC,aD,aE,O.2.2.2.2.2.1,aF,aG,aH,aI,aJ,aK))
attribute [irreducible] uE
end
noncomputable section
def s9 (O:((List UInt8)×(Int×Unit))) (Z:rJ) (aA:Int) (aB:Int) (aC:qZ) (aD:((List Int)×(Int×Unit))) (aE:(List ((List UInt8)×Bool))):Option (Int×Int×(List UInt8)×Int×Int×Int):=if (decide (aB=(0:Int)))=true then (AN O).bind fun aF=>some ((aF.2.2.2.2,aF.1,aF.2.1,aF.2.2.1,aF.2.2.2.1,Z.2.2.2.1)) else some ((O.2.1,Z.1,Z.2.1,Z.2.2.1,Z.2.2.2.1,aD.2.1))
section
variable (O:((List UInt8)×(Int×Unit))) (Z:rJ) (aA:Int) (aB:Int) (aC:qZ) (aD:((List Int)×(Int×Unit))) (aE:Nat) (aF:Nat) (aG:(List ((List UInt8)×Bool)))
abbrev a2Z:List oZ:=[(.val .ref (some (0,0)),none)]
abbrev a23:List oX:=[.cells rF (O,(Z,(aA,(aB,(aC,((some 3),aD)))))) [(11,1),(13,2)],.grow 55 7 aE,.grow 3 1 aF,.map .str .bool aG]
@[go_sem] def a24:pD:=⟨[aE=(aC.2.2.2.1.length),aF=(aD.1.length),((s9 O Z aA aB aC aD aG)).isSome=true],[],[.cells rF ((O.1,((val (s9 O Z aA aB aC aD aG)).1,())),(((val (s9 O Z aA aB aC aD aG)).2.1,((val (s9 O Z aA aB aC aD aG)).2.2.1,((val (s9 O Z aA aB aC aD aG)).2.2.2.1,((val (s9 O Z aA aB aC aD aG)).2.2.2.2.1,())))),(aA,(aB,((aC.1,(aC.2.1,(aC.2.2.1,(aC.2.2.2.1,())))),((some 3),(aD.1,((val (s9 O Z aA aB aC aD aG)).2.2.2.2.2,())))))))) [(11,1),(13,2)],.grow 55 7 (aC.2.2.2.1.length),.grow 3 1 (aD.1.length),.map .str .bool aG]⟩
def aA7:List oZ→List oX→Option pD:=qM (V:=(((List UInt8)×(Int×Unit))×rJ×Int×Int×qZ×((List Int)×(Int×Unit))×Nat×Nat×(List ((List UInt8)×Bool)))) (fun x=>a2Z) (fun x=>a23 x.1 x.2.1 x.2.2.1 x.2.2.2.1 x.2.2.2.2.1 x.2.2.2.2.2.1 x.2.2.2.2.2.2.1 x.2.2.2.2.2.2.2.1 x.2.2.2.2.2.2.2.2) fun x=>a24 x.1 x.2.1 x.2.2.1 x.2.2.2.1 x.2.2.2.2.1 x.2.2.2.2.2.1 x.2.2.2.2.2.2.1 x.2.2.2.2.2.2.2.1 x.2.2.2.2.2.2.2.2
@[go_sem] theorem aMk:aA7 (no_index a2Z) (no_index (a23 O Z aA aB aC aD aE aF aG))=some (a24 O Z aA aB aC aD aE aF aG):=qQ (fun⟨a0,a1,a2,a3,a4,a5,a6,a7,a8⟩ ⟨b0,b1,b2,b3,b4,b5,b6,b7,b8⟩ h1 h2=>by cases h1;cases h2;rfl) (O,Z,aA,aB,aC,aD,aE,aF,aG)
end
@[go_sem] abbrev xD:Nat×pY:=(178,⟨[.p rF [11,13]],aA7,[(0,12,.m)],[1,2,3],none⟩)
theorem SN:qB Tryz.prog [v6,EW,yY,wP] (pZ [a2Y]):=⟨⟨vM,⟨I9,⟨AL,⟨xZ,trivial⟩⟩⟩⟩,pK aA6 qS,qD⟩
theorem CX:qH Tryz.prog xD:=by
 refine qR SN Tryz.func178 (c:=_) rfl (N:=22) (by kernel_rfl) (ts:=[]) rfl (fun _ _=>rfl) ?_;intro⟨O,Z,aA,aB,aC,aD,aE,aF,aG⟩ hs hrow;dsimp only[a2Z,a23,a24,qI,pG,pN,qE,qK,Nat.reduceAdd] at hs hrow⊢;obtain⟨rfl,rfl,hz⟩:=hs;obtain⟨z0,hC0⟩:=aMM.1 hz
 try rw[rG hC0]
 clear hz;unfold s9 at hC0;refine oY SN ?_;refine pP hC0 (fun hC0 hc1=> ?_) (fun hC0 hc1=> ?_)
 ·refine oY SN ?_;obtain⟨aH,hv1,hw1,hC0⟩:=pV hC0
  try simp only[go_sem] at hw1
  refine qY SN ?_ (hp:=by exact(pU hv1)) (h:=by simp only[go_sem,hw1];rfl);cases hC0;exact⟨[(0,0),(1,1),(2,2),(3,3)],by rfl,by rfl,by rfl⟩
 ·refine qJ ?_;cases hC0;exact⟨[(0,0),(1,1),(2,2),(3,3)],by rfl,by rfl,by rfl⟩
attribute [irreducible] s9
def z6 (O:((List UInt8)×(Int×Unit))) (Z:rJ) (aA:Int) (aB:Int) (aC:qZ) (aD:((List Int)×(Int×Unit))) (aE:(List UInt8)) (aF:(List UInt8)) (aG:(List UInt8)) (aH:(List (List UInt8))) (aI:(Int×((List pL)×Unit))) (aJ:Bool) (aK:(List ((List UInt8)×Bool))) (aL:(List (List UInt8))) (aM:(List ((List UInt8)×Bool))):Option (Int×Int×(List UInt8)×Int×Int×Int×Int×Int):=rE (σ:=(Int×Int)) (if (rM .str .bool aM Z.2.1)=true then qW (tP O Z aA aB aC aD (9:Int) aK) fun aN=>some ((aN.1,aN.2)) else some ((aA,aB)) ) fun(aO,aP)=>(s9 (O.1,(O.2.1,())) (Z.1,(Z.2.1,(Z.2.2.1,(Z.2.2.2.1,())))) aO aP (aC.1,(aC.2.1,(aC.2.2.1,(aC.2.2.2.1,())))) (aD.1,(aD.2.1,())) aK).bind fun aQ=>some ((aQ.1,aQ.2.1,aQ.2.2.1,aQ.2.2.2.1,aQ.2.2.2.2.1,aO,aP,aQ.2.2.2.2.2))
section
variable (O:((List UInt8)×(Int×Unit))) (Z:rJ) (aA:Int) (aB:Int) (aC:qZ) (aD:((List Int)×(Int×Unit))) (aE:Nat) (aF:Nat) (aG:(List UInt8)) (aH:(List UInt8)) (aI:(List UInt8)) (aJ:(List (List UInt8))) (aK:Nat) (aL:(Int×((List pL)×Unit))) (aM:Bool) (aN:Nat) (aO:Nat) (aP:(List ((List UInt8)×Bool))) (aQ:(List (List UInt8))) (aR:Nat) (aS:(List ((List UInt8)×Bool)))
abbrev a25:List oZ:=[(.val .ref (some (0,0)),none),(.val .ref (some (3,0)),none)]
abbrev a26:List oX:=[.cells rF (O,(Z,(aA,(aB,(aC,((some 6),aD)))))) [(11,1),(13,2)],.grow 55 7 aE,.grow 3 1 aF,.cells sH ((aG,(aH,(aI,(aJ,((some (7,aK)),aL))))),(aM,((some 8),()))) [(3,4),(6,5)],.grow 9 1 aN,.grow 149 2 aO,.map .str .bool aP,.row 9 .str aQ aR,.map .str .bool aS]
@[go_sem] def a27:pD:=⟨[aE=(aC.2.2.2.1.length),aF=(aD.1.length),aN=(aJ.length),aO=(aL.2.1.length),aK=aR,((z6 O Z aA aB aC aD aG aH aI aJ aL aM aP aQ aS)).isSome=true],[],[.cells rF ((O.1,((val (z6 O Z aA aB aC aD aG aH aI aJ aL aM aP aQ aS)).1,())),(((val (z6 O Z aA aB aC aD aG aH aI aJ aL aM aP aQ aS)).2.1,((val (z6 O Z aA aB aC aD aG aH aI aJ aL aM aP aQ aS)).2.2.1,((val (z6 O Z aA aB aC aD aG aH aI aJ aL aM aP aQ aS)).2.2.2.1,((val (z6 O Z aA aB aC aD aG aH aI aJ aL aM aP aQ aS)).2.2.2.2.1,())))),((val (z6 O Z aA aB aC aD aG aH aI aJ aL aM aP aQ aS)).2.2.2.2.2.1,((val (z6 O Z aA aB aC aD aG aH aI aJ aL aM aP aQ aS)).2.2.2.2.2.2.1,((aC.1,(aC.2.1,(aC.2.2.1,(aC.2.2.2.1,())))),((some 6),(aD.1,((val (z6 O Z aA aB aC aD aG aH aI aJ aL aM aP aQ aS)).2.2.2.2.2.2.2,())))))))) [(11,1),(13,2)],.grow 55 7 (aC.2.2.2.1.length),.grow 3 1 (aD.1.length),.cells sH ((aG,(aH,(aI,(aJ,((some (7,(aQ.length))),(aL.1,(aL.2.1,()))))))),(aM,((some 8),()))) [(3,4),(6,5)],.grow 9 1 (aJ.length),.grow 149 2 (aL.2.1.length),.map .str .bool aP,.row 9 .str aQ (aQ.length),.map .str .bool (sI .str .bool Z.2.1 true aS)]⟩
def aA8:List oZ→List oX→Option pD:=qM (V:=(((List UInt8)×(Int×Unit))×rJ×Int×Int×qZ×((List Int)×(Int×Unit))×Nat×Nat×(List UInt8)×(List UInt8)×(List UInt8)×(List (List UInt8))×Nat×(Int×((List pL)×Unit))×Bool×Nat×Nat×(List ((List UInt8)×Bool))×(List (List UInt8))×Nat×(List ((List UInt8)×Bool)))) (fun x=>a25) (fun x=>a26 x.1 x.2.1 x.2.2.1 x.2.2.2.1 x.2.2.2.2.1 x.2.2.2.2.2.1 x.2.2.2.2.2.2.1 x.2.2.2.2.2.2.2.1 x.2.2.2.2.2.2.2.2.1 x.2.2.2.2.2.2.2.2.2.1 x.2.2.2.2.2.2.2.2.2.2.1 x.2.2.2.2.2.2.2.2.2.2.2.1 x.2.2.2.2.2.2.2.2.2.2.2.2.1 x.2.2.2.2.2.2.2.2.2.2.2.2.2.1 x.2.2.2.2.2.2.2.2.2.2.2.2.2.2.1 x.2.2.2.2.2.2.2.2.2.2.2.2.2.2.2.1 x.2.2.2.2.2.2.2.2.2.2.2.2.2.2.2.2.1 x.2.2.2.2.2.2.2.2.2.2.2.2.2.2.2.2.2.1 x.2.2.2.2.2.2.2.2.2.2.2.2.2.2.2.2.2.2.1 x.2.2.2.2.2.2.2.2.2.2.2.2.2.2.2.2.2.2.2.1 x.2.2.2.2.2.2.2.2.2.2.2.2.2.2.2.2.2.2.2.2) fun x=>a27 x.1 x.2.1 x.2.2.1 x.2.2.2.1 x.2.2.2.2.1 x.2.2.2.2.2.1 x.2.2.2.2.2.2.1 x.2.2.2.2.2.2.2.1 x.2.2.2.2.2.2.2.2.1 x.2.2.2.2.2.2.2.2.2.1 x.2.2.2.2.2.2.2.2.2.2.1 x.2.2.2.2.2.2.2.2.2.2.2.1 x.2.2.2.2.2.2.2.2.2.2.2.2.1 x.2.2.2.2.2.2.2.2.2.2.2.2.2.1 x.2.2.2.2.2.2.2.2.2.2.2.2.2.2.1 x.2.2.2.2.2.2.2.2.2.2.2.2.2.2.2.1 x.2.2.2.2.2.2.2.2.2.2.2.2.2.2.2.2.1 x.2.2.2.2.2.2.2.2.2.2.2.2.2.2.2.2.2.1 x.2.2.2.2.2.2.2.2.2.2.2.2.2.2.2.2.2.2.1 x.2.2.2.2.2.2.2.2.2.2.2.2.2.2.2.2.2.2.2.1 x.2.2.2.2.2.2.2.2.2.2.2.2.2.2.2.2.2.2.2.2
@[go_sem] theorem aMl:aA8 (no_index a25) (no_index (a26 O Z aA aB aC aD aE aF aG aH aI aJ aK aL aM aN aO aP aQ aR aS))=some (a27 O Z aA aB aC aD aE aF aG aH aI aJ aK aL aM aN aO aP aQ aR aS):=qQ (fun⟨a0,a1,a2,a3,a4,a5,a6,a7,a8,a9,a10,a11,a12,a13,a14,a15,a16,a17,a18,a19,a20⟩ ⟨b0,b1,b2,b3,b4,b5,b6,b7,b8,b9,b10,b11,b12,b13,b14,rV,b16,b17,b18,b19,b20⟩ h1 h2=>by cases h1;cases h2;rfl) (O,Z,aA,aB,aC,aD,aE,aF,aG,aH,aI,aJ,aK,aL,aM,aN,aO,aP,aQ,aR,aS)
end
@[go_sem] abbrev IM:Nat×pY:=(256,⟨[.p rF [11,13],.p sH [3,6]],aA8,[(0,12,.m),(3,4,.r),(3,8,.m)],[1,2,3,4,5,6,7],none⟩)
theorem aA9:qB Tryz.prog [] (pZ [yZ,xD]):=⟨trivial,pK DN (pK CX qS),qD⟩
theorem SO:qB Tryz.prog [DI,s7,yY,I8,wP,B9] (pZ [yZ,xD]):=⟨⟨GB,⟨sB,⟨AL,⟨N5,⟨xZ,⟨CQ,trivial⟩⟩⟩⟩⟩⟩,aA9.Γ,qD⟩
theorem a28:qH Tryz.prog IM:=by
 refine qR aA9 Tryz.func256 (c:=_) rfl (N:=27) (by kernel_rfl) (ts:=[]) rfl (fun _ _=>rfl) ?_;intro⟨O,Z,aA,aB,aC,aD,aE,aF,aG,aH,aI,aJ,aK,aL,aM,aN,aO,aP,aQ,aR,aS⟩ hs hrow;dsimp only[a25,a26,a27,qI,pG,pN,qE,qK,Nat.reduceAdd] at hs hrow⊢;obtain⟨rfl,rfl,rfl,rfl,rfl,hz⟩:=hs;obtain⟨rfl,_⟩:=hrow;obtain⟨z0,hC0⟩:=aMM.1 hz
 try rw[rG hC0]
 clear hz;unfold z6 at hC0;refine pX ?_;refine AH SO ?_;obtain⟨y1,hC1,hC0⟩:=pA hC0;refine I1 (fun s=>s=(fun x=>⟨[(0,(.val .ref (some (0,0)),none)),(1,(.val .ref (some (3,0)),none))],[(0,.cells rF ((O.1,(O.2.1,())),((Z.1,(Z.2.1,(Z.2.2.1,(Z.2.2.2.1,())))),(x.1,(x.2,((aC.1,(aC.2.1,(aC.2.2.1,(aC.2.2.2.1,())))),((some 6),(aD.1,(aD.2.1,())))))))) [(11,1),(13,2)]),(1,.grow 55 7 (aC.2.2.2.1.length)),(2,.grow 3 1 (aD.1.length)),(3,.cells sH ((aG,(aH,(aI,(aJ,((some (7,(aQ.length))),(aL.1,(aL.2.1,()))))))),(aM,((some 8),()))) [(3,4),(6,5)]),(4,.grow 9 1 (aJ.length)),(5,.grow 149 2 (aL.2.1.length)),(6,.map .str .bool aP),(7,.row 9 .str aQ (aQ.length)),(8,.map .str .bool aS)],9,27,9⟩) y1) ?_ ?_
 ·refine pP hC1 (fun hC1 hc1=> ?_) (fun hC1 hc1=> ?_)
  ·obtain⟨aT,hw_38,hC1⟩:=vE hC1
   try simp only[go_sem] at hw_38
   refine qY SO ?_ (hp:=by exact⟨by first|rfl|trivial,by first|rfl|trivial,by first|rfl|trivial,by first|rfl|trivial,(by first|rfl|trivial)⟩) (h:=by simp only[go_sem,hw_38];rfl)
   cases hC1;exact AG ⟨⟨[0,1],[(0,0),(1,1),(2,2),(3,3),(4,4),(5,5),(6,6),(7,7),(8,8)]⟩,by rfl⟩
  ·refine qJ ?_;cases hC1;exact AG ⟨⟨[0,1],[(0,0),(1,1),(2,2),(3,3),(4,4),(5,5),(6,6),(7,7),(8,8)]⟩,by rfl⟩
 ·rintro _ rfl;obtain⟨aU,aV⟩:=y1;dsimp only at hC0⊢;refine pM ?_;refine AH SO ?_;obtain⟨aW,hv1,hw1,hC0⟩:=pV hC0
  try simp only[go_sem] at hw1
  refine qY SO ?_ (hp:=by exact⟨by first|rfl|trivial,by first|rfl|trivial,by first|rfl|trivial,by first|rfl|trivial,by first|rfl|trivial,(pU hv1)⟩) (h:=by simp only[go_sem,hw1];rfl)
  cases hC0;exact⟨[(0,0),(1,1),(2,2),(3,3),(4,4),(5,5),(6,6),(7,7),(8,8)],by rfl,by rfl,by rfl⟩
attribute [irreducible] z6
def BZ (O:ER):Option (Int×Int×Int×(List UInt8)×(List (List UInt8))×(List pL)×(List Int)):=(uN O (2:Int) ([99,97,116,97,108,111,103]:List UInt8)).bind fun Z=>(uN (O.1,(Z.1,(Z.2.1,(Z.2.2.1,((O.2.2.2.2.1.1,(O.2.2.2.2.1.2.1,(O.2.2.2.2.1.2.2.1,(O.2.2.2.2.1.2.2.2.1,())))),(O.2.2.2.2.2.1,())))))) (1:Int) ([]:List UInt8)).bind fun aA=>if (((decide (aA.2.2.1=(0:Int)))==true)=true→((F4 aA.2.2.2.2.1)).isSome=true) then rE (σ:=(Int×Int)) (if ((decide (aA.2.2.1=(0:Int)))&&(!(val (F4 aA.2.2.2.2.1))))=true then qW (wR (O.1,(aA.1,(aA.2.1,(aA.2.2.1,((O.2.2.2.2.1.1,(O.2.2.2.2.1.2.1,(O.2.2.2.2.1.2.2.1,(O.2.2.2.2.1.2.2.2.1,())))),(O.2.2.2.2.2.1,())))))) (aA.2.2.2.1,(aA.2.2.2.2.1,(aA.2.2.2.2.2.1,(aA.2.2.2.2.2.2,())))) (3:Int)) fun aB=>some ((aB.1,aB.2)) else some ((aA.2.1,aA.2.2.1)) ) fun(aC,aD)=>(uE (O.1,(aA.1,(aC,(aD,((O.2.2.2.2.1.1,(O.2.2.2.2.1.2.1,(O.2.2.2.2.1.2.2.1,(O.2.2.2.2.1.2.2.2.1,())))),(O.2.2.2.2.2.1,())))))) (([]:List UInt8),(([]:List UInt8),(([]:List UInt8),(([]:List (List UInt8)),(([]:List (List UInt8)),((0:Int),(([]:List pL),()))))))) true).bind fun aE=>some ((aE.1,aE.2.1,aE.2.2.1,aA.2.2.2.2.1,aE.2.2.2.2.2.2.1,aE.2.2.2.2.2.2.2.2.2,aE.2.2.2.1)) else none
attribute [irreducible] BZ
end
noncomputable section
def z7 (O:((List UInt8)×(Int×Unit))) (Z:rJ) (aA:Int) (aB:Int) (aC:qZ) (aD:((List Int)×(Int×Unit))) (aE:Int) (aF:Bool) (aG:(List ((List UInt8)×Bool))):Option (Int×Int×(List UInt8)×Int×Int×Int×Int×Int):=if ((!decide (Z.1=aE))||(!true))=true then qW (tP O Z aA aB aC aD (3:Int) aG) fun aH=>(s9 (O.1,(O.2.1,())) (Z.1,(Z.2.1,(Z.2.2.1,(Z.2.2.2.1,())))) aH.1 aH.2 (aC.1,(aC.2.1,(aC.2.2.1,(aC.2.2.2.1,())))) (aD.1,(aD.2.1,())) aG).bind fun aI=>some ((aI.1,aI.2.1,aI.2.2.1,aI.2.2.2.1,aI.2.2.2.2.1,aH.1,aH.2,aI.2.2.2.2.2)) else if false=true then qW (tP O Z aA aB aC aD (9:Int) aG) fun aJ=>(s9 (O.1,(O.2.1,())) (Z.1,(Z.2.1,(Z.2.2.1,(Z.2.2.2.1,())))) aJ.1 aJ.2 (aC.1,(aC.2.1,(aC.2.2.1,(aC.2.2.2.1,())))) (aD.1,(aD.2.1,())) aG).bind fun aK=>some ((aK.1,aK.2.1,aK.2.2.1,aK.2.2.2.1,aK.2.2.2.2.1,aJ.1,aJ.2,aK.2.2.2.2.2)) else if aF=true then qW (tP O Z aA aB aC aD (6:Int) aG) fun aL=>(s9 (O.1,(O.2.1,())) (Z.1,(Z.2.1,(Z.2.2.1,(Z.2.2.2.1,())))) aL.1 aL.2 (aC.1,(aC.2.1,(aC.2.2.1,(aC.2.2.2.1,())))) (aD.1,(aD.2.1,())) aG).bind fun aM=>some ((aM.1,aM.2.1,aM.2.2.1,aM.2.2.2.1,aM.2.2.2.2.1,aL.1,aL.2,aM.2.2.2.2.2)) else (s9 O Z aA aB aC aD aG).bind fun aN=>some ((aN.1,aN.2.1,aN.2.2.1,aN.2.2.2.1,aN.2.2.2.2.1,aA,aB,aN.2.2.2.2.2))
section
variable (O:Int) (Z:Bool) (aA:((List UInt8)×(Int×Unit))) (aB:rJ) (aC:Int) (aD:Int) (aE:qZ) (aF:((List Int)×(Int×Unit))) (aG:Nat) (aH:Nat) (aI:(List ((List UInt8)×Bool)))
abbrev a29:List oZ:=[(.val .ref (some (0,0)),none),(.val (.int .i64) O,none),(.val .clo (some (278,[])),none),(.val .clo (some (125,[])),none),(.val .bool Z,none)]
abbrev a3a:List oX:=[.cells rF (aA,(aB,(aC,(aD,(aE,((some 3),aF)))))) [(11,1),(13,2)],.grow 55 7 aG,.grow 3 1 aH,.map .str .bool aI]
@[go_sem] def a3b:pD:=⟨[aG=(aE.2.2.2.1.length),aH=(aF.1.length),((z7 aA aB aC aD aE aF O Z aI)).isSome=true],[(.val .str aB.2.1,none)],[.cells rF ((aA.1,((val (z7 aA aB aC aD aE aF O Z aI)).1,())),(((val (z7 aA aB aC aD aE aF O Z aI)).2.1,((val (z7 aA aB aC aD aE aF O Z aI)).2.2.1,((val (z7 aA aB aC aD aE aF O Z aI)).2.2.2.1,((val (z7 aA aB aC aD aE aF O Z aI)).2.2.2.2.1,())))),((val (z7 aA aB aC aD aE aF O Z aI)).2.2.2.2.2.1,((val (z7 aA aB aC aD aE aF O Z aI)).2.2.2.2.2.2.1,((aE.1,(aE.2.1,(aE.2.2.1,(aE.2.2.2.1,())))),((some 3),(aF.1,((val (z7 aA aB aC aD aE aF O Z aI)).2.2.2.2.2.2.2,())))))))) [(11,1),(13,2)],.grow 55 7 (aE.2.2.2.1.length),.grow 3 1 (aF.1.length),.map .str .bool aI]⟩
def aBa:List oZ→List oX→Option pD:=qM (V:=(Int×Bool×((List UInt8)×(Int×Unit))×rJ×Int×Int×qZ×((List Int)×(Int×Unit))×Nat×Nat×(List ((List UInt8)×Bool)))) (fun x=>a29 x.1 x.2.1) (fun x=>a3a x.2.2.1 x.2.2.2.1 x.2.2.2.2.1 x.2.2.2.2.2.1 x.2.2.2.2.2.2.1 x.2.2.2.2.2.2.2.1 x.2.2.2.2.2.2.2.2.1 x.2.2.2.2.2.2.2.2.2.1 x.2.2.2.2.2.2.2.2.2.2) fun x=>a3b x.1 x.2.1 x.2.2.1 x.2.2.2.1 x.2.2.2.2.1 x.2.2.2.2.2.1 x.2.2.2.2.2.2.1 x.2.2.2.2.2.2.2.1 x.2.2.2.2.2.2.2.2.1 x.2.2.2.2.2.2.2.2.2.1 x.2.2.2.2.2.2.2.2.2.2
@[go_sem] theorem aMm:aBa (no_index (a29 O Z)) (no_index (a3a aA aB aC aD aE aF aG aH aI))=some (a3b O Z aA aB aC aD aE aF aG aH aI):=qQ (fun⟨a0,a1,a2,a3,a4,a5,a6,a7,a8,a9,a10⟩ ⟨b0,b1,b2,b3,b4,b5,b6,b7,b8,b9,b10⟩ h1 h2=>by cases h1;cases h2;rfl) (O,Z,aA,aB,aC,aD,aE,aF,aG,aH,aI)
end
@[go_sem] abbrev aBb:Nat×pY:=(124,⟨[.p rF [11,13],.v,.v,.v,.v],aBa,[(0,12,.m)],[1,2,3],none⟩)
theorem y5:qB Tryz.prog [v6,s7,yY,wP] (pZ [a9T,yZ,xD,RX]):=⟨⟨vM,⟨sB,⟨AL,⟨xZ,trivial⟩⟩⟩⟩,pK aGT (pK DN (pK CX (pK Z7 qS))),qD⟩
theorem aHr:qH Tryz.prog aBb:=by
 refine qR y5 Tryz.func124 (c:=_) rfl (N:=46) (by kernel_rfl) (ts:=[(10,none)]) rfl (fun _ _=>rfl) ?_;intro⟨O,Z,aA,aB,aC,aD,aE,aF,aG,aH,aI⟩ hs hrow;dsimp only[a29,a3a,a3b,qI,pG,pN,qE,qK,Nat.reduceAdd] at hs hrow⊢;obtain⟨rfl,rfl,hz⟩:=hs;obtain⟨z0,hC0⟩:=aMM.1 hz
 try rw[rG hC0]
 clear hz;unfold z7 at hC0;refine oY y5 ?_;refine oY y5 ?_;refine pX (rR ?_);refine oY y5 ?_ (hp:=by exact⟨fun hh=>hh,fun hh=>hh,fun hh=>hh,(fun hh=>xX hh)⟩);refine pP hC0 (fun hC0 hc1=> ?_) (fun hC0 hc1=> ?_)
 ·obtain⟨aJ,hw_27,hC0⟩:=vE hC0
  try simp only[go_sem] at hw_27
  refine qY y5 ?_ (hp:=by exact⟨by first|rfl|trivial,by first|rfl|trivial,by first|rfl|trivial,by first|rfl|trivial,(by first|rfl|trivial)⟩) (h:=by simp only[go_sem,hw_27];rfl)
  refine qV (pM ?_);obtain⟨aK,hv1,hw1,hC0⟩:=pV hC0
  try simp only[go_sem] at hw1
  refine oY y5 ?_ (hp:=by exact⟨by first|rfl|trivial,by first|rfl|trivial,by first|rfl|trivial,by first|rfl|trivial,by first|rfl|trivial,(pU hv1)⟩) (h:=by simp only[go_sem,hw1];rfl)
  refine oY y5 ?_;refine pH ?_;cases hC0;exact⟨[(0,0),(1,1),(2,2),(3,3)],by rfl,by rfl,by rfl⟩
 ·refine oY y5 ?_;refine pP hC0 (fun hC0 hc2=> ?_) (fun hC0 hc2=> ?_)
  ·obtain⟨aL,hw_29,hC0⟩:=vE hC0
   try simp only[go_sem] at hw_29
   refine qY y5 ?_ (hp:=by exact⟨by first|rfl|trivial,by first|rfl|trivial,by first|rfl|trivial,by first|rfl|trivial,(by first|rfl|trivial)⟩) (h:=by simp only[go_sem,hw_29];rfl)
   refine qV (pM ?_);obtain⟨aM,hv2,hw2,hC0⟩:=pV hC0
   try simp only[go_sem] at hw2
   refine oY y5 ?_ (hp:=by exact⟨by first|rfl|trivial,by first|rfl|trivial,by first|rfl|trivial,by first|rfl|trivial,by first|rfl|trivial,(pU hv2)⟩) (h:=by simp only[go_sem,hw2];rfl)
   refine oY y5 ?_;refine pH ?_;cases hC0;exact⟨[(0,0),(1,1),(2,2),(3,3)],by rfl,by rfl,by rfl⟩
  ·refine oY y5 ?_;refine pP hC0 (fun hC0 hc3=> ?_) (fun hC0 hc3=> ?_)
   ·obtain⟨aN,hw_31,hC0⟩:=vE hC0
    try simp only[go_sem] at hw_31
    refine qY y5 ?_ (hp:=by exact⟨by first|rfl|trivial,by first|rfl|trivial,by first|rfl|trivial,by first|rfl|trivial,(by first|rfl|trivial)⟩) (h:=by simp only[go_sem,hw_31];rfl)
    refine qV (pM ?_);obtain⟨aO,hv3,hw3,hC0⟩:=pV hC0
    try simp only[go_sem] at hw3
    refine oY y5 ?_ (hp:=by exact⟨by first|rfl|trivial,by first|rfl|trivial,by first|rfl|trivial,by first|rfl|trivial,by first|rfl|trivial,(pU hv3)⟩) (h:=by simp only[go_sem,hw3];rfl)
    refine oY y5 ?_;refine pH ?_;cases hC0;exact⟨[(0,0),(1,1),(2,2),(3,3)],by rfl,by rfl,by rfl⟩
   ·refine qJ (qV (pM ?_));obtain⟨aP,hv4,hw4,hC0⟩:=pV hC0
    try simp only[go_sem] at hw4
    refine oY y5 ?_ (hp:=by exact⟨by first|rfl|trivial,by first|rfl|trivial,by first|rfl|trivial,by first|rfl|trivial,by first|rfl|trivial,(pU hv4)⟩) (h:=by simp only[go_sem,hw4];rfl)
    refine oY y5 ?_;refine pH ?_;cases hC0;exact⟨[(0,0),(1,1),(2,2),(3,3)],by rfl,by rfl,by rfl⟩
attribute [irreducible] z7
def z8 (O:((List UInt8)×(Int×Unit))) (Z:rJ) (aA:Int) (aB:Int) (aC:qZ) (aD:((List Int)×(Int×Unit))) (aE:Int) (aF:Bool) (aG:(List ((List UInt8)×Bool))):Option (Int×Int×(List UInt8)×Int×Int×Int×Int×Int):=if (((!decide (Z.1=aE))==false)=true→((GC Z.2.1)).isSome=true) then if ((!decide (Z.1=aE))||(!(val (GC Z.2.1))))=true then qW (tP O Z aA aB aC aD (3:Int) aG) fun aH=>(s9 (O.1,(O.2.1,())) (Z.1,(Z.2.1,(Z.2.2.1,(Z.2.2.2.1,())))) aH.1 aH.2 (aC.1,(aC.2.1,(aC.2.2.1,(aC.2.2.2.1,())))) (aD.1,(aD.2.1,())) aG).bind fun aI=>some ((aI.1,aI.2.1,aI.2.2.1,aI.2.2.2.1,aI.2.2.2.2.1,aH.1,aH.2,aI.2.2.2.2.2)) else if false=true then qW (tP O Z aA aB aC aD (9:Int) aG) fun aJ=>(s9 (O.1,(O.2.1,())) (Z.1,(Z.2.1,(Z.2.2.1,(Z.2.2.2.1,())))) aJ.1 aJ.2 (aC.1,(aC.2.1,(aC.2.2.1,(aC.2.2.2.1,())))) (aD.1,(aD.2.1,())) aG).bind fun aK=>some ((aK.1,aK.2.1,aK.2.2.1,aK.2.2.2.1,aK.2.2.2.2.1,aJ.1,aJ.2,aK.2.2.2.2.2)) else if aF=true then qW (tP O Z aA aB aC aD (6:Int) aG) fun aL=>(s9 (O.1,(O.2.1,())) (Z.1,(Z.2.1,(Z.2.2.1,(Z.2.2.2.1,())))) aL.1 aL.2 (aC.1,(aC.2.1,(aC.2.2.1,(aC.2.2.2.1,())))) (aD.1,(aD.2.1,())) aG).bind fun aM=>some ((aM.1,aM.2.1,aM.2.2.1,aM.2.2.2.1,aM.2.2.2.2.1,aL.1,aL.2,aM.2.2.2.2.2)) else (s9 O Z aA aB aC aD aG).bind fun aN=>some ((aN.1,aN.2.1,aN.2.2.1,aN.2.2.2.1,aN.2.2.2.2.1,aA,aB,aN.2.2.2.2.2)) else none
section
variable (O:Int) (Z:Bool) (aA:((List UInt8)×(Int×Unit))) (aB:rJ) (aC:Int) (aD:Int) (aE:qZ) (aF:((List Int)×(Int×Unit))) (aG:Nat) (aH:Nat) (aI:(List ((List UInt8)×Bool)))
abbrev a3c:List oZ:=[(.val .ref (some (0,0)),none),(.val (.int .i64) O,none),(.val .clo (some (106,[])),none),(.val .clo (some (125,[])),none),(.val .bool Z,none)]
abbrev a3d:List oX:=[.cells rF (aA,(aB,(aC,(aD,(aE,((some 3),aF)))))) [(11,1),(13,2)],.grow 55 7 aG,.grow 3 1 aH,.map .str .bool aI]
@[go_sem] def a3e:pD:=⟨[aG=(aE.2.2.2.1.length),aH=(aF.1.length),((z8 aA aB aC aD aE aF O Z aI)).isSome=true],[(.val .str aB.2.1,none)],[.cells rF ((aA.1,((val (z8 aA aB aC aD aE aF O Z aI)).1,())),(((val (z8 aA aB aC aD aE aF O Z aI)).2.1,((val (z8 aA aB aC aD aE aF O Z aI)).2.2.1,((val (z8 aA aB aC aD aE aF O Z aI)).2.2.2.1,((val (z8 aA aB aC aD aE aF O Z aI)).2.2.2.2.1,())))),((val (z8 aA aB aC aD aE aF O Z aI)).2.2.2.2.2.1,((val (z8 aA aB aC aD aE aF O Z aI)).2.2.2.2.2.2.1,((aE.1,(aE.2.1,(aE.2.2.1,(aE.2.2.2.1,())))),((some 3),(aF.1,((val (z8 aA aB aC aD aE aF O Z aI)).2.2.2.2.2.2.2,())))))))) [(11,1),(13,2)],.grow 55 7 (aE.2.2.2.1.length),.grow 3 1 (aF.1.length),.map .str .bool aI]⟩
def aBc:List oZ→List oX→Option pD:=qM (V:=(Int×Bool×((List UInt8)×(Int×Unit))×rJ×Int×Int×qZ×((List Int)×(Int×Unit))×Nat×Nat×(List ((List UInt8)×Bool)))) (fun x=>a3c x.1 x.2.1) (fun x=>a3d x.2.2.1 x.2.2.2.1 x.2.2.2.2.1 x.2.2.2.2.2.1 x.2.2.2.2.2.2.1 x.2.2.2.2.2.2.2.1 x.2.2.2.2.2.2.2.2.1 x.2.2.2.2.2.2.2.2.2.1 x.2.2.2.2.2.2.2.2.2.2) fun x=>a3e x.1 x.2.1 x.2.2.1 x.2.2.2.1 x.2.2.2.2.1 x.2.2.2.2.2.1 x.2.2.2.2.2.2.1 x.2.2.2.2.2.2.2.1 x.2.2.2.2.2.2.2.2.1 x.2.2.2.2.2.2.2.2.2.1 x.2.2.2.2.2.2.2.2.2.2
@[go_sem] theorem aMn:aBc (no_index (a3c O Z)) (no_index (a3d aA aB aC aD aE aF aG aH aI))=some (a3e O Z aA aB aC aD aE aF aG aH aI):=qQ (fun⟨a0,a1,a2,a3,a4,a5,a6,a7,a8,a9,a10⟩ ⟨b0,b1,b2,b3,b4,b5,b6,b7,b8,b9,b10⟩ h1 h2=>by cases h1;cases h2;rfl) (O,Z,aA,aB,aC,aD,aE,aF,aG,aH,aI)
end
@[go_sem] abbrev aBd:Nat×pY:=(124,⟨[.p rF [11,13],.v,.v,.v,.v],aBc,[(0,12,.m)],[1,2,3],none⟩)
theorem y6:qB Tryz.prog [v6,s7,yY,wP] (pZ [a84,yZ,xD,RX]):=⟨⟨vM,⟨sB,⟨AL,⟨xZ,trivial⟩⟩⟩⟩,pK aGH (pK DN (pK CX (pK Z7 qS))),qD⟩
theorem aHs:qH Tryz.prog aBd:=by
 refine qR y6 Tryz.func124 (c:=_) rfl (N:=46) (by kernel_rfl) (ts:=[(10,none)]) rfl (fun _ _=>rfl) ?_;intro⟨O,Z,aA,aB,aC,aD,aE,aF,aG,aH,aI⟩ hs hrow;dsimp only[a3c,a3d,a3e,qI,pG,pN,qE,qK,Nat.reduceAdd] at hs hrow⊢;obtain⟨rfl,rfl,hz⟩:=hs;obtain⟨z0,hC0⟩:=aMM.1 hz
 try rw[rG hC0]
 clear hz;unfold z8 at hC0;refine oY y6 ?_;refine oY y6 ?_;refine pX (rR ?_);obtain⟨hg1,hC0⟩:=pJ hC0;refine oY y6 ?_ (hp:=by exact⟨fun hh=>hh,fun hh=>hh,hg1,fun hh=>hh,(fun hh=>xX hh)⟩);refine pP hC0 (fun hC0 hc1=> ?_) (fun hC0 hc1=> ?_)
 ·obtain⟨aJ,hw_27,hC0⟩:=vE hC0
  try simp only[go_sem] at hw_27
  refine qY y6 ?_ (hp:=by exact⟨by first|rfl|trivial,by first|rfl|trivial,by first|rfl|trivial,by first|rfl|trivial,(by first|rfl|trivial)⟩) (h:=by simp only[go_sem,hw_27];rfl)
  refine qV (pM ?_);obtain⟨aK,hv2,hw2,hC0⟩:=pV hC0
  try simp only[go_sem] at hw2
  refine oY y6 ?_ (hp:=by exact⟨by first|rfl|trivial,by first|rfl|trivial,by first|rfl|trivial,by first|rfl|trivial,by first|rfl|trivial,(pU hv2)⟩) (h:=by simp only[go_sem,hw2];rfl)
  refine oY y6 ?_;refine pH ?_;cases hC0;exact⟨[(0,0),(1,1),(2,2),(3,3)],by rfl,by rfl,by rfl⟩
 ·refine oY y6 ?_;refine pP hC0 (fun hC0 hc2=> ?_) (fun hC0 hc2=> ?_)
  ·obtain⟨aL,hw_29,hC0⟩:=vE hC0
   try simp only[go_sem] at hw_29
   refine qY y6 ?_ (hp:=by exact⟨by first|rfl|trivial,by first|rfl|trivial,by first|rfl|trivial,by first|rfl|trivial,(by first|rfl|trivial)⟩) (h:=by simp only[go_sem,hw_29];rfl)
   refine qV (pM ?_);obtain⟨aM,hv3,hw3,hC0⟩:=pV hC0
   try simp only[go_sem] at hw3
   refine oY y6 ?_ (hp:=by exact⟨by first|rfl|trivial,by first|rfl|trivial,by first|rfl|trivial,by first|rfl|trivial,by first|rfl|trivial,(pU hv3)⟩) (h:=by simp only[go_sem,hw3];rfl)
   refine oY y6 ?_;refine pH ?_;cases hC0;exact⟨[(0,0),(1,1),(2,2),(3,3)],by rfl,by rfl,by rfl⟩
  ·refine oY y6 ?_;refine pP hC0 (fun hC0 hc3=> ?_) (fun hC0 hc3=> ?_)
   ·obtain⟨aN,hw_31,hC0⟩:=vE hC0
    try simp only[go_sem] at hw_31
    refine qY y6 ?_ (hp:=by exact⟨by first|rfl|trivial,by first|rfl|trivial,by first|rfl|trivial,by first|rfl|trivial,(by first|rfl|trivial)⟩) (h:=by simp only[go_sem,hw_31];rfl)
    refine qV (pM ?_);obtain⟨aO,hv4,hw4,hC0⟩:=pV hC0
    try simp only[go_sem] at hw4
    refine oY y6 ?_ (hp:=by exact⟨by first|rfl|trivial,by first|rfl|trivial,by first|rfl|trivial,by first|rfl|trivial,by first|rfl|trivial,(pU hv4)⟩) (h:=by simp only[go_sem,hw4];rfl)
    refine oY y6 ?_;refine pH ?_;cases hC0;exact⟨[(0,0),(1,1),(2,2),(3,3)],by rfl,by rfl,by rfl⟩
   ·refine qJ (qV (pM ?_));obtain⟨aP,hv5,hw5,hC0⟩:=pV hC0
    try simp only[go_sem] at hw5
    refine oY y6 ?_ (hp:=by exact⟨by first|rfl|trivial,by first|rfl|trivial,by first|rfl|trivial,by first|rfl|trivial,by first|rfl|trivial,(pU hv5)⟩) (h:=by simp only[go_sem,hw5];rfl)
    refine oY y6 ?_;refine pH ?_;cases hC0;exact⟨[(0,0),(1,1),(2,2),(3,3)],by rfl,by rfl,by rfl⟩
attribute [irreducible] z8
end
noncomputable section
def zA (O:((List UInt8)×(Int×Unit))) (Z:rJ) (aA:Int) (aB:Int) (aC:qZ) (aD:((List Int)×(Int×Unit))) (aE:Int) (aF:Bool) (aG:(List ((List UInt8)×Bool))):Option (Int×Int×(List UInt8)×Int×Int×Int×Int×Int):=if (((!decide (Z.1=aE))==false)=true→((GJ Z.2.1)).isSome=true) then if ((!decide (Z.1=aE))||(!(val (GJ Z.2.1))))=true then qW (tP O Z aA aB aC aD (3:Int) aG) fun aH=>(s9 (O.1,(O.2.1,())) (Z.1,(Z.2.1,(Z.2.2.1,(Z.2.2.2.1,())))) aH.1 aH.2 (aC.1,(aC.2.1,(aC.2.2.1,(aC.2.2.2.1,())))) (aD.1,(aD.2.1,())) aG).bind fun aI=>some ((aI.1,aI.2.1,aI.2.2.1,aI.2.2.2.1,aI.2.2.2.2.1,aH.1,aH.2,aI.2.2.2.2.2)) else if false=true then qW (tP O Z aA aB aC aD (9:Int) aG) fun aJ=>(s9 (O.1,(O.2.1,())) (Z.1,(Z.2.1,(Z.2.2.1,(Z.2.2.2.1,())))) aJ.1 aJ.2 (aC.1,(aC.2.1,(aC.2.2.1,(aC.2.2.2.1,())))) (aD.1,(aD.2.1,())) aG).bind fun aK=>some ((aK.1,aK.2.1,aK.2.2.1,aK.2.2.2.1,aK.2.2.2.2.1,aJ.1,aJ.2,aK.2.2.2.2.2)) else if aF=true then qW (tP O Z aA aB aC aD (6:Int) aG) fun aL=>(s9 (O.1,(O.2.1,())) (Z.1,(Z.2.1,(Z.2.2.1,(Z.2.2.2.1,())))) aL.1 aL.2 (aC.1,(aC.2.1,(aC.2.2.1,(aC.2.2.2.1,())))) (aD.1,(aD.2.1,())) aG).bind fun aM=>some ((aM.1,aM.2.1,aM.2.2.1,aM.2.2.2.1,aM.2.2.2.2.1,aL.1,aL.2,aM.2.2.2.2.2)) else (s9 O Z aA aB aC aD aG).bind fun aN=>some ((aN.1,aN.2.1,aN.2.2.1,aN.2.2.2.1,aN.2.2.2.2.1,aA,aB,aN.2.2.2.2.2)) else none
section
variable (O:Int) (Z:Bool) (aA:((List UInt8)×(Int×Unit))) (aB:rJ) (aC:Int) (aD:Int) (aE:qZ) (aF:((List Int)×(Int×Unit))) (aG:Nat) (aH:Nat) (aI:(List ((List UInt8)×Bool)))
abbrev a3f:List oZ:=[(.val .ref (some (0,0)),none),(.val (.int .i64) O,none),(.val .clo (some (257,[])),none),(.val .clo (some (125,[])),none),(.val .bool Z,none)]
abbrev a3g:List oX:=[.cells rF (aA,(aB,(aC,(aD,(aE,((some 3),aF)))))) [(11,1),(13,2)],.grow 55 7 aG,.grow 3 1 aH,.map .str .bool aI]
@[go_sem] def a3h:pD:=⟨[aG=(aE.2.2.2.1.length),aH=(aF.1.length),((zA aA aB aC aD aE aF O Z aI)).isSome=true],[(.val .str aB.2.1,none)],[.cells rF ((aA.1,((val (zA aA aB aC aD aE aF O Z aI)).1,())),(((val (zA aA aB aC aD aE aF O Z aI)).2.1,((val (zA aA aB aC aD aE aF O Z aI)).2.2.1,((val (zA aA aB aC aD aE aF O Z aI)).2.2.2.1,((val (zA aA aB aC aD aE aF O Z aI)).2.2.2.2.1,())))),((val (zA aA aB aC aD aE aF O Z aI)).2.2.2.2.2.1,((val (zA aA aB aC aD aE aF O Z aI)).2.2.2.2.2.2.1,((aE.1,(aE.2.1,(aE.2.2.1,(aE.2.2.2.1,())))),((some 3),(aF.1,((val (zA aA aB aC aD aE aF O Z aI)).2.2.2.2.2.2.2,())))))))) [(11,1),(13,2)],.grow 55 7 (aE.2.2.2.1.length),.grow 3 1 (aF.1.length),.map .str .bool aI]⟩
def aBe:List oZ→List oX→Option pD:=qM (V:=(Int×Bool×((List UInt8)×(Int×Unit))×rJ×Int×Int×qZ×((List Int)×(Int×Unit))×Nat×Nat×(List ((List UInt8)×Bool)))) (fun x=>a3f x.1 x.2.1) (fun x=>a3g x.2.2.1 x.2.2.2.1 x.2.2.2.2.1 x.2.2.2.2.2.1 x.2.2.2.2.2.2.1 x.2.2.2.2.2.2.2.1 x.2.2.2.2.2.2.2.2.1 x.2.2.2.2.2.2.2.2.2.1 x.2.2.2.2.2.2.2.2.2.2) fun x=>a3h x.1 x.2.1 x.2.2.1 x.2.2.2.1 x.2.2.2.2.1 x.2.2.2.2.2.1 x.2.2.2.2.2.2.1 x.2.2.2.2.2.2.2.1 x.2.2.2.2.2.2.2.2.1 x.2.2.2.2.2.2.2.2.2.1 x.2.2.2.2.2.2.2.2.2.2
@[go_sem] theorem aMo:aBe (no_index (a3f O Z)) (no_index (a3g aA aB aC aD aE aF aG aH aI))=some (a3h O Z aA aB aC aD aE aF aG aH aI):=qQ (fun⟨a0,a1,a2,a3,a4,a5,a6,a7,a8,a9,a10⟩ ⟨b0,b1,b2,b3,b4,b5,b6,b7,b8,b9,b10⟩ h1 h2=>by cases h1;cases h2;rfl) (O,Z,aA,aB,aC,aD,aE,aF,aG,aH,aI)
end
@[go_sem] abbrev a3i:Nat×pY:=(124,⟨[.p rF [11,13],.v,.v,.v,.v],aBe,[(0,12,.m)],[1,2,3],none⟩)
theorem y7:qB Tryz.prog [v6,s7,yY,wP] (pZ [aAC,yZ,xD,RX]):=⟨⟨vM,⟨sB,⟨AL,⟨xZ,trivial⟩⟩⟩⟩,pK aHd (pK DN (pK CX (pK Z7 qS))),qD⟩
theorem aHt:qH Tryz.prog a3i:=by
 refine qR y7 Tryz.func124 (c:=_) rfl (N:=46) (by kernel_rfl) (ts:=[(10,none)]) rfl (fun _ _=>rfl) ?_;intro⟨O,Z,aA,aB,aC,aD,aE,aF,aG,aH,aI⟩ hs hrow;dsimp only[a3f,a3g,a3h,qI,pG,pN,qE,qK,Nat.reduceAdd] at hs hrow⊢;obtain⟨rfl,rfl,hz⟩:=hs;obtain⟨z0,hC0⟩:=aMM.1 hz
 try rw[rG hC0]
 clear hz;unfold zA at hC0;refine oY y7 ?_;refine oY y7 ?_;refine pX (rR ?_);obtain⟨hg1,hC0⟩:=pJ hC0;refine oY y7 ?_ (hp:=by exact⟨fun hh=>hh,fun hh=>hh,hg1,fun hh=>hh,(fun hh=>xX hh)⟩);refine pP hC0 (fun hC0 hc1=> ?_) (fun hC0 hc1=> ?_)
 ·obtain⟨aJ,hw_27,hC0⟩:=vE hC0
  try simp only[go_sem] at hw_27
  refine qY y7 ?_ (hp:=by exact⟨by first|rfl|trivial,by first|rfl|trivial,by first|rfl|trivial,by first|rfl|trivial,(by first|rfl|trivial)⟩) (h:=by simp only[go_sem,hw_27];rfl)
  refine qV (pM ?_);obtain⟨aK,hv2,hw2,hC0⟩:=pV hC0
  try simp only[go_sem] at hw2
  refine oY y7 ?_ (hp:=by exact⟨by first|rfl|trivial,by first|rfl|trivial,by first|rfl|trivial,by first|rfl|trivial,by first|rfl|trivial,(pU hv2)⟩) (h:=by simp only[go_sem,hw2];rfl)
  refine oY y7 ?_;refine pH ?_;cases hC0;exact⟨[(0,0),(1,1),(2,2),(3,3)],by rfl,by rfl,by rfl⟩
 ·refine oY y7 ?_;refine pP hC0 (fun hC0 hc2=> ?_) (fun hC0 hc2=> ?_)
  ·obtain⟨aL,hw_29,hC0⟩:=vE hC0
   try simp only[go_sem] at hw_29
   refine qY y7 ?_ (hp:=by exact⟨by first|rfl|trivial,by first|rfl|trivial,by first|rfl|trivial,by first|rfl|trivial,(by first|rfl|trivial)⟩) (h:=by simp only[go_sem,hw_29];rfl)
   refine qV (pM ?_);obtain⟨aM,hv3,hw3,hC0⟩:=pV hC0
   try simp only[go_sem] at hw3
   refine oY y7 ?_ (hp:=by exact⟨by first|rfl|trivial,by first|rfl|trivial,by first|rfl|trivial,by first|rfl|trivial,by first|rfl|trivial,(pU hv3)⟩) (h:=by simp only[go_sem,hw3];rfl)
   refine oY y7 ?_;refine pH ?_;cases hC0;exact⟨[(0,0),(1,1),(2,2),(3,3)],by rfl,by rfl,by rfl⟩
  ·refine oY y7 ?_;refine pP hC0 (fun hC0 hc3=> ?_) (fun hC0 hc3=> ?_)
   ·obtain⟨aN,hw_31,hC0⟩:=vE hC0
    try simp only[go_sem] at hw_31
    refine qY y7 ?_ (hp:=by exact⟨by first|rfl|trivial,by first|rfl|trivial,by first|rfl|trivial,by first|rfl|trivial,(by first|rfl|trivial)⟩) (h:=by simp only[go_sem,hw_31];rfl)
    refine qV (pM ?_);obtain⟨aO,hv4,hw4,hC0⟩:=pV hC0
    try simp only[go_sem] at hw4
    refine oY y7 ?_ (hp:=by exact⟨by first|rfl|trivial,by first|rfl|trivial,by first|rfl|trivial,by first|rfl|trivial,by first|rfl|trivial,(pU hv4)⟩) (h:=by simp only[go_sem,hw4];rfl)
    refine oY y7 ?_;refine pH ?_;cases hC0;exact⟨[(0,0),(1,1),(2,2),(3,3)],by rfl,by rfl,by rfl⟩
   ·refine qJ (qV (pM ?_));obtain⟨aP,hv5,hw5,hC0⟩:=pV hC0
    try simp only[go_sem] at hw5
    refine oY y7 ?_ (hp:=by exact⟨by first|rfl|trivial,by first|rfl|trivial,by first|rfl|trivial,by first|rfl|trivial,by first|rfl|trivial,(pU hv5)⟩) (h:=by simp only[go_sem,hw5];rfl)
    refine oY y7 ?_;refine pH ?_;cases hC0;exact⟨[(0,0),(1,1),(2,2),(3,3)],by rfl,by rfl,by rfl⟩
attribute [irreducible] zA
def zB (O:ER):Option (Int×Int×Int×(List qT)×(List Int)):=(uN O (2:Int) ([101,110,116,114,121]:List UInt8)).bind fun Z=>(uN (O.1,(Z.1,(Z.2.1,(Z.2.2.1,((O.2.2.2.2.1.1,(O.2.2.2.2.1.2.1,(O.2.2.2.2.1.2.2.1,(O.2.2.2.2.1.2.2.2.1,())))),(O.2.2.2.2.2.1,())))))) (1:Int) ([]:List UInt8)).bind fun aA=>if (!decide (aA.2.2.1=(0:Int)))=true then some ((aA.1,aA.2.1,aA.2.2.1,O.2.2.2.2.1.2.2.2.1,O.2.2.2.2.2.1)) else (RT (O.2.2.2.2.1.1,(O.2.2.2.2.1.2.1,(O.2.2.2.2.1.2.2.1,(O.2.2.2.2.1.2.2.2.1,())))) aA.2.2.2.2.1).bind fun aB=>if ((decide (aA.2.2.2.2.1=([]:List UInt8)))||(decide ((200:Int)<(aA.2.2.2.2.1.length:Int))))=true then qW (wR (O.1,(aA.1,(aA.2.1,(aA.2.2.1,((O.2.2.2.2.1.1,(O.2.2.2.2.1.2.1,(O.2.2.2.2.1.2.2.1,(O.2.2.2.2.1.2.2.2.1,())))),(O.2.2.2.2.2.1,())))))) (aA.2.2.2.1,(aA.2.2.2.2.1,(aA.2.2.2.2.2.1,(aA.2.2.2.2.2.2,())))) (3:Int)) fun aC=>some ((aA.1,aC.1,aC.2,O.2.2.2.2.1.2.2.2.1,O.2.2.2.2.2.1)) else if aB.2=true then qW (wR (O.1,(aA.1,(aA.2.1,(aA.2.2.1,((O.2.2.2.2.1.1,(O.2.2.2.2.1.2.1,(O.2.2.2.2.1.2.2.1,(O.2.2.2.2.1.2.2.2.1,())))),(O.2.2.2.2.2.1,())))))) (aA.2.2.2.1,(aA.2.2.2.2.1,(aA.2.2.2.2.2.1,(aA.2.2.2.2.2.2,())))) (9:Int)) fun aD=>some ((aA.1,aD.1,aD.2,O.2.2.2.2.1.2.2.2.1,O.2.2.2.2.2.1)) else if (decide ((1000:Int)≤(O.2.2.2.2.1.2.2.2.1.length:Int)))=true then qW (wR (O.1,(aA.1,(aA.2.1,(aA.2.2.1,((O.2.2.2.2.1.1,(O.2.2.2.2.1.2.1,(O.2.2.2.2.1.2.2.1,(O.2.2.2.2.1.2.2.2.1,())))),(O.2.2.2.2.2.1,())))))) (aA.2.2.2.1,(aA.2.2.2.2.1,(aA.2.2.2.2.2.1,(aA.2.2.2.2.2.2,())))) (6:Int)) fun aE=>some ((aA.1,aE.1,aE.2,O.2.2.2.2.1.2.2.2.1,O.2.2.2.2.2.1)) else (uE (O.1,(aA.1,(aA.2.1,(aA.2.2.1,((O.2.2.2.2.1.1,(O.2.2.2.2.1.2.1,(O.2.2.2.2.1.2.2.1,(O.2.2.2.2.1.2.2.2.1,())))),(O.2.2.2.2.2.1,())))))) (aA.2.2.2.2.1,(([]:List UInt8),(([]:List UInt8),(([]:List (List UInt8)),(([]:List (List UInt8)),((0:Int),(([]:List pL),()))))))) false).bind fun aF=>if (([]:List qT).length+O.2.2.2.2.1.2.2.2.1.length)*128≤140737488355328 then if ((([]:List qT)++O.2.2.2.2.1.2.2.2.1).length+([(aA.2.2.2.2.1,(aF.2.2.2.2.1,(aF.2.2.2.2.2.1,(aF.2.2.2.2.2.2.1,(aF.2.2.2.2.2.2.2.1,(aF.2.2.2.2.2.2.2.2.1,(aF.2.2.2.2.2.2.2.2.2,())))))))]:List qT).length)*128≤140737488355328 then some ((aF.1,aF.2.1,aF.2.2.1,((([]:List qT)++O.2.2.2.2.1.2.2.2.1)++([(aA.2.2.2.2.1,(aF.2.2.2.2.1,(aF.2.2.2.2.2.1,(aF.2.2.2.2.2.2.1,(aF.2.2.2.2.2.2.2.1,(aF.2.2.2.2.2.2.2.2.1,(aF.2.2.2.2.2.2.2.2.2,())))))))]:List qT)),aF.2.2.2.1)) else none else none
attribute [irreducible] zB
def wS (O:((List UInt8)×(Int×Unit))) (Z:rJ) (aA:Int) (aB:Int) (aC:qZ) (aD:((List Int)×(Int×Unit))) (aE:(List ((List UInt8)×Bool))):Option (Int×Int×(List UInt8)×Int×Int×Int×Int×Int):=(z7 O Z aA aB aC aD (1:Int) false aE).bind fun aF=>some ((aF.1,aF.2.1,aF.2.2.1,aF.2.2.2.1,aF.2.2.2.2.1,aF.2.2.2.2.2.1,aF.2.2.2.2.2.2.1,aF.2.2.2.2.2.2.2))
section
variable (O:((List UInt8)×(Int×Unit))) (Z:rJ) (aA:Int) (aB:Int) (aC:qZ) (aD:((List Int)×(Int×Unit))) (aE:Nat) (aF:Nat) (aG:(List ((List UInt8)×Bool)))
abbrev a3j:List oZ:=[(.val .ref (some (0,0)),none)]
abbrev a3k:List oX:=[.cells rF (O,(Z,(aA,(aB,(aC,((some 3),aD)))))) [(11,1),(13,2)],.grow 55 7 aE,.grow 3 1 aF,.map .str .bool aG]
@[go_sem] def a3l:pD:=⟨[aE=(aC.2.2.2.1.length),aF=(aD.1.length),((wS O Z aA aB aC aD aG)).isSome=true],[(.val .str Z.2.1,none)],[.cells rF ((O.1,((val (wS O Z aA aB aC aD aG)).1,())),(((val (wS O Z aA aB aC aD aG)).2.1,((val (wS O Z aA aB aC aD aG)).2.2.1,((val (wS O Z aA aB aC aD aG)).2.2.2.1,((val (wS O Z aA aB aC aD aG)).2.2.2.2.1,())))),((val (wS O Z aA aB aC aD aG)).2.2.2.2.2.1,((val (wS O Z aA aB aC aD aG)).2.2.2.2.2.2.1,((aC.1,(aC.2.1,(aC.2.2.1,(aC.2.2.2.1,())))),((some 3),(aD.1,((val (wS O Z aA aB aC aD aG)).2.2.2.2.2.2.2,())))))))) [(11,1),(13,2)],.grow 55 7 (aC.2.2.2.1.length),.grow 3 1 (aD.1.length),.map .str .bool aG]⟩
def aBf:List oZ→List oX→Option pD:=qM (V:=(((List UInt8)×(Int×Unit))×rJ×Int×Int×qZ×((List Int)×(Int×Unit))×Nat×Nat×(List ((List UInt8)×Bool)))) (fun x=>a3j) (fun x=>a3k x.1 x.2.1 x.2.2.1 x.2.2.2.1 x.2.2.2.2.1 x.2.2.2.2.2.1 x.2.2.2.2.2.2.1 x.2.2.2.2.2.2.2.1 x.2.2.2.2.2.2.2.2) fun x=>a3l x.1 x.2.1 x.2.2.1 x.2.2.2.1 x.2.2.2.2.1 x.2.2.2.2.2.1 x.2.2.2.2.2.2.1 x.2.2.2.2.2.2.2.1 x.2.2.2.2.2.2.2.2
@[go_sem] theorem aMp:aBf (no_index a3j) (no_index (a3k O Z aA aB aC aD aE aF aG))=some (a3l O Z aA aB aC aD aE aF aG):=qQ (fun⟨a0,a1,a2,a3,a4,a5,a6,a7,a8⟩ ⟨b0,b1,b2,b3,b4,b5,b6,b7,b8⟩ h1 h2=>by cases h1;cases h2;rfl) (O,Z,aA,aB,aC,aD,aE,aF,aG)
end
@[go_sem] abbrev FB:Nat×pY:=(253,⟨[.p rF [11,13]],aBf,[(0,12,.m)],[1,2,3],none⟩)
theorem a3m:qB Tryz.prog [] (pZ [aBb]):=⟨trivial,pK aHr qS,qD⟩
theorem SP:qH Tryz.prog FB:=by
 refine qR a3m Tryz.func253 (c:=_) rfl (N:=5) (by kernel_rfl) (ts:=[(2,none)]) rfl (fun _ _=>rfl) ?_;intro⟨O,Z,aA,aB,aC,aD,aE,aF,aG⟩ hs hrow;dsimp only[a3j,a3k,a3l,qI,pG,pN,qE,qK,Nat.reduceAdd] at hs hrow⊢;obtain⟨rfl,rfl,hz⟩:=hs;obtain⟨z0,hC0⟩:=aMM.1 hz
 try rw[rG hC0]
 clear hz;unfold wS at hC0;refine oY a3m ?_;obtain⟨aH,hv1,hw1,hC0⟩:=pV hC0
 try simp only[go_sem] at hw1
 refine oY a3m ?_ (hp:=by exact⟨by first|rfl|trivial,by first|rfl|trivial,by first|rfl|trivial,by first|rfl|trivial,by first|rfl|trivial,(pU hv1)⟩) (h:=by simp only[go_sem,hw1];rfl)
 refine pH ?_;cases hC0;exact⟨[(0,0),(1,1),(2,2),(3,3)],by rfl,by rfl,by rfl⟩
attribute [irreducible] wS
end
noncomputable section
def AO (O:((List UInt8)×(Int×Unit))) (Z:rJ) (aA:Int) (aB:Int) (aC:qZ) (aD:((List Int)×(Int×Unit))) (aE:Int) (aF:Bool) (aG:(List ((List UInt8)×Bool))) (aH:(List UInt8)) (aI:(List UInt8)) (aJ:(List UInt8)) (aK:(List (List UInt8))) (aL:(Int×((List pL)×Unit))) (aM:Bool) (aN:(List (List UInt8))) (aO:(List ((List UInt8)×Bool))):Option (Int×Int×(List UInt8)×Int×Int×Int×Int×Int):=if (((!decide (Z.1=aE))==false)=true→((DL Z.2.1)).isSome=true) then if ((!decide (Z.1=aE))||(!(val (DL Z.2.1))))=true then qW (tP O Z aA aB aC aD (3:Int) aG) fun aP=>(s9 (O.1,(O.2.1,())) (Z.1,(Z.2.1,(Z.2.2.1,(Z.2.2.2.1,())))) aP.1 aP.2 (aC.1,(aC.2.1,(aC.2.2.1,(aC.2.2.2.1,())))) (aD.1,(aD.2.1,())) aG).bind fun aQ=>some ((aQ.1,aQ.2.1,aQ.2.2.1,aQ.2.2.2.1,aQ.2.2.2.2.1,aP.1,aP.2,aQ.2.2.2.2.2)) else (L2 Z.2.1 aH aI aJ aK aL aM aN aO).bind fun aR=>if aR=true then qW (tP O Z aA aB aC aD (9:Int) aG) fun aS=>(s9 (O.1,(O.2.1,())) (Z.1,(Z.2.1,(Z.2.2.1,(Z.2.2.2.1,())))) aS.1 aS.2 (aC.1,(aC.2.1,(aC.2.2.1,(aC.2.2.2.1,())))) (aD.1,(aD.2.1,())) aG).bind fun aT=>some ((aT.1,aT.2.1,aT.2.2.1,aT.2.2.2.1,aT.2.2.2.2.1,aS.1,aS.2,aT.2.2.2.2.2)) else if aF=true then qW (tP O Z aA aB aC aD (6:Int) aG) fun aU=>(s9 (O.1,(O.2.1,())) (Z.1,(Z.2.1,(Z.2.2.1,(Z.2.2.2.1,())))) aU.1 aU.2 (aC.1,(aC.2.1,(aC.2.2.1,(aC.2.2.2.1,())))) (aD.1,(aD.2.1,())) aG).bind fun aV=>some ((aV.1,aV.2.1,aV.2.2.1,aV.2.2.2.1,aV.2.2.2.2.1,aU.1,aU.2,aV.2.2.2.2.2)) else (s9 O Z aA aB aC aD aG).bind fun aW=>some ((aW.1,aW.2.1,aW.2.2.1,aW.2.2.2.1,aW.2.2.2.2.1,aA,aB,aW.2.2.2.2.2)) else none
section
variable (O:Int) (Z:Bool) (aA:((List UInt8)×(Int×Unit))) (aB:rJ) (aC:Int) (aD:Int) (aE:qZ) (aF:((List Int)×(Int×Unit))) (aG:Nat) (aH:Nat) (aI:(List ((List UInt8)×Bool))) (aJ:(List UInt8)) (aK:(List UInt8)) (aL:(List UInt8)) (aM:(List (List UInt8))) (aN:Nat) (aO:(Int×((List pL)×Unit))) (aP:Bool) (aQ:Nat) (aR:Nat) (aS:(List (List UInt8))) (aT:Nat) (aU:(List ((List UInt8)×Bool)))
abbrev a3n:List oZ:=[(.val .ref (some (0,0)),none),(.val (.int .i64) O,none),(.val .clo (some (162,[])),none),(.val .clo (some (254,[(3,0)])),none),(.val .bool Z,none)]
abbrev a3o:List oX:=[.cells rF (aA,(aB,(aC,(aD,(aE,((some 4),aF)))))) [(11,1),(13,2)],.grow 55 7 aG,.grow 3 1 aH,.cells .ref (some (5,0)) [],.map .str .bool aI,.cells sH ((aJ,(aK,(aL,(aM,((some (8,aN)),aO))))),(aP,((some 9),()))) [(3,6),(6,7)],.grow 9 1 aQ,.grow 149 2 aR,.row 9 .str aS aT,.map .str .bool aU]
@[go_sem] def a3p:pD:=⟨[aG=(aE.2.2.2.1.length),aH=(aF.1.length),aQ=(aM.length),aR=(aO.2.1.length),aN=aT,((AO aA aB aC aD aE aF O Z aI aJ aK aL aM aO aP aS aU)).isSome=true],[(.val .str aB.2.1,none)],[.cells rF ((aA.1,((val (AO aA aB aC aD aE aF O Z aI aJ aK aL aM aO aP aS aU)).1,())),(((val (AO aA aB aC aD aE aF O Z aI aJ aK aL aM aO aP aS aU)).2.1,((val (AO aA aB aC aD aE aF O Z aI aJ aK aL aM aO aP aS aU)).2.2.1,((val (AO aA aB aC aD aE aF O Z aI aJ aK aL aM aO aP aS aU)).2.2.2.1,((val (AO aA aB aC aD aE aF O Z aI aJ aK aL aM aO aP aS aU)).2.2.2.2.1,())))),((val (AO aA aB aC aD aE aF O Z aI aJ aK aL aM aO aP aS aU)).2.2.2.2.2.1,((val (AO aA aB aC aD aE aF O Z aI aJ aK aL aM aO aP aS aU)).2.2.2.2.2.2.1,((aE.1,(aE.2.1,(aE.2.2.1,(aE.2.2.2.1,())))),((some 4),(aF.1,((val (AO aA aB aC aD aE aF O Z aI aJ aK aL aM aO aP aS aU)).2.2.2.2.2.2.2,())))))))) [(11,1),(13,2)],.grow 55 7 (aE.2.2.2.1.length),.grow 3 1 (aF.1.length),.cells .ref (some (5,0)) [],.map .str .bool aI,.cells sH ((aJ,(aK,(aL,(aM,((some (8,(aS.length))),(aO.1,(aO.2.1,()))))))),(aP,((some 9),()))) [(3,6),(6,7)],.grow 9 1 (aM.length),.grow 149 2 (aO.2.1.length),.row 9 .str aS (aS.length),.map .str .bool aU]⟩
def aBg:List oZ→List oX→Option pD:=qM (V:=(Int×Bool×((List UInt8)×(Int×Unit))×rJ×Int×Int×qZ×((List Int)×(Int×Unit))×Nat×Nat×(List ((List UInt8)×Bool))×(List UInt8)×(List UInt8)×(List UInt8)×(List (List UInt8))×Nat×(Int×((List pL)×Unit))×Bool×Nat×Nat×(List (List UInt8))×Nat×(List ((List UInt8)×Bool)))) (fun x=>a3n x.1 x.2.1) (fun x=>a3o x.2.2.1 x.2.2.2.1 x.2.2.2.2.1 x.2.2.2.2.2.1 x.2.2.2.2.2.2.1 x.2.2.2.2.2.2.2.1 x.2.2.2.2.2.2.2.2.1 x.2.2.2.2.2.2.2.2.2.1 x.2.2.2.2.2.2.2.2.2.2.1 x.2.2.2.2.2.2.2.2.2.2.2.1 x.2.2.2.2.2.2.2.2.2.2.2.2.1 x.2.2.2.2.2.2.2.2.2.2.2.2.2.1 x.2.2.2.2.2.2.2.2.2.2.2.2.2.2.1 x.2.2.2.2.2.2.2.2.2.2.2.2.2.2.2.1 x.2.2.2.2.2.2.2.2.2.2.2.2.2.2.2.2.1 x.2.2.2.2.2.2.2.2.2.2.2.2.2.2.2.2.2.1 x.2.2.2.2.2.2.2.2.2.2.2.2.2.2.2.2.2.2.1 x.2.2.2.2.2.2.2.2.2.2.2.2.2.2.2.2.2.2.2.1 x.2.2.2.2.2.2.2.2.2.2.2.2.2.2.2.2.2.2.2.2.1 x.2.2.2.2.2.2.2.2.2.2.2.2.2.2.2.2.2.2.2.2.2.1 x.2.2.2.2.2.2.2.2.2.2.2.2.2.2.2.2.2.2.2.2.2.2) fun x=>a3p x.1 x.2.1 x.2.2.1 x.2.2.2.1 x.2.2.2.2.1 x.2.2.2.2.2.1 x.2.2.2.2.2.2.1 x.2.2.2.2.2.2.2.1 x.2.2.2.2.2.2.2.2.1 x.2.2.2.2.2.2.2.2.2.1 x.2.2.2.2.2.2.2.2.2.2.1 x.2.2.2.2.2.2.2.2.2.2.2.1 x.2.2.2.2.2.2.2.2.2.2.2.2.1 x.2.2.2.2.2.2.2.2.2.2.2.2.2.1 x.2.2.2.2.2.2.2.2.2.2.2.2.2.2.1 x.2.2.2.2.2.2.2.2.2.2.2.2.2.2.2.1 x.2.2.2.2.2.2.2.2.2.2.2.2.2.2.2.2.1 x.2.2.2.2.2.2.2.2.2.2.2.2.2.2.2.2.2.1 x.2.2.2.2.2.2.2.2.2.2.2.2.2.2.2.2.2.2.1 x.2.2.2.2.2.2.2.2.2.2.2.2.2.2.2.2.2.2.2.1 x.2.2.2.2.2.2.2.2.2.2.2.2.2.2.2.2.2.2.2.2.1 x.2.2.2.2.2.2.2.2.2.2.2.2.2.2.2.2.2.2.2.2.2.1 x.2.2.2.2.2.2.2.2.2.2.2.2.2.2.2.2.2.2.2.2.2.2
@[go_sem] theorem aMq:aBg (no_index (a3n O Z)) (no_index (a3o aA aB aC aD aE aF aG aH aI aJ aK aL aM aN aO aP aQ aR aS aT aU))=some (a3p O Z aA aB aC aD aE aF aG aH aI aJ aK aL aM aN aO aP aQ aR aS aT aU):=qQ (fun⟨a0,a1,a2,a3,a4,a5,a6,a7,a8,a9,a10,a11,a12,a13,a14,a15,a16,a17,a18,a19,a20,a21,a22⟩ ⟨b0,b1,b2,b3,b4,b5,b6,b7,b8,b9,b10,b11,b12,b13,b14,rV,b16,b17,b18,b19,b20,b21,b22⟩ h1 h2=>by cases h1;cases h2;rfl) (O,Z,aA,aB,aC,aD,aE,aF,aG,aH,aI,aJ,aK,aL,aM,aN,aO,aP,aQ,aR,aS,aT,aU)
end
@[go_sem] abbrev a3q:Nat×pY:=(124,⟨[.p rF [11,13],.v,.v,.f [(.ref,[])],.v],aBg,[(0,12,.m),(3,0,.p sH [3,6]),(5,4,.r),(5,8,.m)],[1,2,3,4,5,6,7,8,9],none⟩)
theorem aBh:qB Tryz.prog [] (pZ [NA,yZ,xD,a2A]):=⟨trivial,pK a9q (pK DN (pK CX (pK aHl qS))),qD⟩
theorem zC:qB Tryz.prog [v6,s7,yY,wP] (pZ [NA,yZ,xD,a2A]):=⟨⟨vM,⟨sB,⟨AL,⟨xZ,trivial⟩⟩⟩⟩,aBh.Γ,qD⟩
theorem aHu:qH Tryz.prog a3q:=by
 refine qR aBh Tryz.func124 (c:=_) rfl (N:=46) (by kernel_rfl) (ts:=[(10,none)]) rfl (fun _ _=>rfl) ?_;intro⟨O,Z,aA,aB,aC,aD,aE,aF,aG,aH,aI,aJ,aK,aL,aM,aN,aO,aP,aQ,aR,aS,aT,aU⟩ hs hrow;dsimp only[a3n,a3o,a3p,qI,pG,pN,qE,qK,Nat.reduceAdd] at hs hrow⊢;obtain⟨rfl,rfl,rfl,rfl,rfl,hz⟩:=hs;obtain⟨rfl,_⟩:=hrow;obtain⟨z0,hC0⟩:=aMM.1 hz
 try rw[rG hC0]
 clear hz;unfold AO at hC0;refine oY zC ?_;refine oY zC ?_;refine pX (rR ?_);obtain⟨hg1,hC0⟩:=pJ hC0;refine oY zC ?_ (hp:=by exact⟨fun hh=>hh,fun hh=>hh,hg1,fun hh=>hh,(fun hh=>xX hh)⟩);refine pP hC0 (fun hC0 hc1=> ?_) (fun hC0 hc1=> ?_)
 ·obtain⟨aV,hw_40,hC0⟩:=vE hC0
  try simp only[go_sem] at hw_40
  refine qY zC ?_ (hp:=by exact⟨by first|rfl|trivial,by first|rfl|trivial,by first|rfl|trivial,by first|rfl|trivial,(by first|rfl|trivial)⟩) (h:=by simp only[go_sem,hw_40];rfl)
  refine qV (pM ?_);obtain⟨aW,hv2,hw2,hC0⟩:=pV hC0
  try simp only[go_sem] at hw2
  refine oY zC ?_ (hp:=by exact⟨by first|rfl|trivial,by first|rfl|trivial,by first|rfl|trivial,by first|rfl|trivial,by first|rfl|trivial,(pU hv2)⟩) (h:=by simp only[go_sem,hw2];rfl)
  refine oY zC ?_;refine pH ?_;cases hC0;exact⟨[(0,0),(1,1),(2,2),(3,3),(4,4),(5,5),(6,6),(7,7),(8,8),(9,9)],by rfl,by rfl,by rfl⟩
 ·obtain⟨aX,hv3,hw3,hC0⟩:=pV hC0
  try simp only[go_sem] at hw3
  refine oY zC ?_ (hp:=by exact⟨by first|rfl|trivial,by first|rfl|trivial,by first|rfl|trivial,by first|rfl|trivial,by first|rfl|trivial,by first|rfl|trivial,by first|rfl|trivial,by first|rfl|trivial,by first|rfl|trivial,(pU hv3)⟩) (h:=by simp only[go_sem,hw3];rfl)
  refine pP hC0 (fun hC0 hc2=> ?_) (fun hC0 hc2=> ?_)
  ·obtain⟨aY,hw_43,hC0⟩:=vE hC0
   try simp only[go_sem] at hw_43
   refine qY zC ?_ (hp:=by exact⟨by first|rfl|trivial,by first|rfl|trivial,by first|rfl|trivial,by first|rfl|trivial,(by first|rfl|trivial)⟩) (h:=by simp only[go_sem,hw_43];rfl)
   refine qV (pM ?_);obtain⟨aZ,hv4,hw4,hC0⟩:=pV hC0
   try simp only[go_sem] at hw4
   refine oY zC ?_ (hp:=by exact⟨by first|rfl|trivial,by first|rfl|trivial,by first|rfl|trivial,by first|rfl|trivial,by first|rfl|trivial,(pU hv4)⟩) (h:=by simp only[go_sem,hw4];rfl)
   refine oY zC ?_;refine pH ?_;cases hC0;exact⟨[(0,0),(1,1),(2,2),(3,3),(4,4),(5,5),(6,6),(7,7),(8,8),(9,9)],by rfl,by rfl,by rfl⟩
  ·refine oY zC ?_;refine pP hC0 (fun hC0 hc3=> ?_) (fun hC0 hc3=> ?_)
   ·obtain⟨bA,hw_45,hC0⟩:=vE hC0
    try simp only[go_sem] at hw_45
    refine qY zC ?_ (hp:=by exact⟨by first|rfl|trivial,by first|rfl|trivial,by first|rfl|trivial,by first|rfl|trivial,(by first|rfl|trivial)⟩) (h:=by simp only[go_sem,hw_45];rfl)
    refine qV (pM ?_);obtain⟨bB,hv5,hw5,hC0⟩:=pV hC0
    try simp only[go_sem] at hw5
    refine oY zC ?_ (hp:=by exact⟨by first|rfl|trivial,by first|rfl|trivial,by first|rfl|trivial,by first|rfl|trivial,by first|rfl|trivial,(pU hv5)⟩) (h:=by simp only[go_sem,hw5];rfl)
    refine oY zC ?_;refine pH ?_;cases hC0;exact⟨[(0,0),(1,1),(2,2),(3,3),(4,4),(5,5),(6,6),(7,7),(8,8),(9,9)],by rfl,by rfl,by rfl⟩
   ·refine qJ (qV (pM ?_));obtain⟨bC,hv6,hw6,hC0⟩:=pV hC0
    try simp only[go_sem] at hw6
    refine oY zC ?_ (hp:=by exact⟨by first|rfl|trivial,by first|rfl|trivial,by first|rfl|trivial,by first|rfl|trivial,by first|rfl|trivial,(pU hv6)⟩) (h:=by simp only[go_sem,hw6];rfl)
    refine oY zC ?_;refine pH ?_;cases hC0;exact⟨[(0,0),(1,1),(2,2),(3,3),(4,4),(5,5),(6,6),(7,7),(8,8),(9,9)],by rfl,by rfl,by rfl⟩
attribute [irreducible] AO
def wT (O:((List UInt8)×(Int×Unit))) (Z:rJ) (aA:Int) (aB:Int) (aC:qZ) (aD:((List Int)×(Int×Unit))) (aE:Int) (aF:(List UInt8)) (aG:(List ((List UInt8)×Bool))):Option (Int×Int×(List UInt8)×Int×Int×Int×Int×Int):=if (!(((decide (aB=(0:Int)))&&(decide (Z.1=aE)))&&(decide (Z.2.1=aF))))=true then qW (tP O Z aA aB aC aD (3:Int) aG) fun aH=>(s9 (O.1,(O.2.1,())) (Z.1,(Z.2.1,(Z.2.2.1,(Z.2.2.2.1,())))) aH.1 aH.2 (aC.1,(aC.2.1,(aC.2.2.1,(aC.2.2.2.1,())))) (aD.1,(aD.2.1,())) aG).bind fun aI=>some ((aI.1,aI.2.1,aI.2.2.1,aI.2.2.2.1,aI.2.2.2.2.1,aH.1,aH.2,aI.2.2.2.2.2)) else (s9 O Z aA aB aC aD aG).bind fun aJ=>some ((aJ.1,aJ.2.1,aJ.2.2.1,aJ.2.2.2.1,aJ.2.2.2.2.1,aA,aB,aJ.2.2.2.2.2))
section
variable (O:Int) (Z:(List UInt8)) (aA:((List UInt8)×(Int×Unit))) (aB:rJ) (aC:Int) (aD:Int) (aE:qZ) (aF:((List Int)×(Int×Unit))) (aG:Nat) (aH:Nat) (aI:(List ((List UInt8)×Bool)))
abbrev a3r:List oZ:=[(.val .ref (some (0,0)),none),(.val (.int .i64) O,none),(.val .str Z,none)]
abbrev a3s:List oX:=[.cells rF (aA,(aB,(aC,(aD,(aE,((some 3),aF)))))) [(11,1),(13,2)],.grow 55 7 aG,.grow 3 1 aH,.map .str .bool aI]
@[go_sem] def a3t:pD:=⟨[aG=(aE.2.2.2.1.length),aH=(aF.1.length),((wT aA aB aC aD aE aF O Z aI)).isSome=true],[],[.cells rF ((aA.1,((val (wT aA aB aC aD aE aF O Z aI)).1,())),(((val (wT aA aB aC aD aE aF O Z aI)).2.1,((val (wT aA aB aC aD aE aF O Z aI)).2.2.1,((val (wT aA aB aC aD aE aF O Z aI)).2.2.2.1,((val (wT aA aB aC aD aE aF O Z aI)).2.2.2.2.1,())))),((val (wT aA aB aC aD aE aF O Z aI)).2.2.2.2.2.1,((val (wT aA aB aC aD aE aF O Z aI)).2.2.2.2.2.2.1,((aE.1,(aE.2.1,(aE.2.2.1,(aE.2.2.2.1,())))),((some 3),(aF.1,((val (wT aA aB aC aD aE aF O Z aI)).2.2.2.2.2.2.2,())))))))) [(11,1),(13,2)],.grow 55 7 (aE.2.2.2.1.length),.grow 3 1 (aF.1.length),.map .str .bool aI]⟩
def aBi:List oZ→List oX→Option pD:=qM (V:=(Int×(List UInt8)×((List UInt8)×(Int×Unit))×rJ×Int×Int×qZ×((List Int)×(Int×Unit))×Nat×Nat×(List ((List UInt8)×Bool)))) (fun x=>a3r x.1 x.2.1) (fun x=>a3s x.2.2.1 x.2.2.2.1 x.2.2.2.2.1 x.2.2.2.2.2.1 x.2.2.2.2.2.2.1 x.2.2.2.2.2.2.2.1 x.2.2.2.2.2.2.2.2.1 x.2.2.2.2.2.2.2.2.2.1 x.2.2.2.2.2.2.2.2.2.2) fun x=>a3t x.1 x.2.1 x.2.2.1 x.2.2.2.1 x.2.2.2.2.1 x.2.2.2.2.2.1 x.2.2.2.2.2.2.1 x.2.2.2.2.2.2.2.1 x.2.2.2.2.2.2.2.2.1 x.2.2.2.2.2.2.2.2.2.1 x.2.2.2.2.2.2.2.2.2.2
@[go_sem] theorem aMr:aBi (no_index (a3r O Z)) (no_index (a3s aA aB aC aD aE aF aG aH aI))=some (a3t O Z aA aB aC aD aE aF aG aH aI):=qQ (fun⟨a0,a1,a2,a3,a4,a5,a6,a7,a8,a9,a10⟩ ⟨b0,b1,b2,b3,b4,b5,b6,b7,b8,b9,b10⟩ h1 h2=>by cases h1;cases h2;rfl) (O,Z,aA,aB,aC,aD,aE,aF,aG,aH,aI)
end
@[go_sem] abbrev NY:Nat×pY:=(123,⟨[.p rF [11,13],.v,.v],aBi,[(0,12,.m)],[1,2,3],none⟩)
theorem NZ:qB Tryz.prog [] (pZ [a9t,yZ,xD]):=⟨trivial,pK aGL (pK DN (pK CX qS)),qD⟩
theorem a3u:qH Tryz.prog NY:=by
 refine qR NZ Tryz.func123 (c:=_) rfl (N:=15) (by kernel_rfl) (ts:=[]) rfl (fun _ _=>rfl) ?_;intro⟨O,Z,aA,aB,aC,aD,aE,aF,aG,aH,aI⟩ hs hrow;dsimp only[a3r,a3s,a3t,qI,pG,pN,qE,qK,Nat.reduceAdd] at hs hrow⊢;obtain⟨rfl,rfl,hz⟩:=hs;obtain⟨z0,hC0⟩:=aMM.1 hz
 try rw[rG hC0]
 clear hz;unfold wT at hC0;refine pX ?_;refine oY NZ ?_ (hp:=by exact⟨by first|rfl|trivial,by first|rfl|trivial,by first|rfl|trivial,by first|rfl|trivial,by first|rfl|trivial,(by first|rfl|trivial)⟩)
 refine pP hC0 (fun hC0 hc1=> ?_) (fun hC0 hc1=> ?_)
 ·obtain⟨aJ,hw_23,hC0⟩:=vE hC0
  try simp only[go_sem] at hw_23
  refine qY NZ ?_ (hp:=by exact⟨by first|rfl|trivial,by first|rfl|trivial,by first|rfl|trivial,by first|rfl|trivial,(by first|rfl|trivial)⟩) (h:=by simp only[go_sem,hw_23];rfl)
  refine pM ?_;obtain⟨aK,hv1,hw1,hC0⟩:=pV hC0
  try simp only[go_sem] at hw1
  refine qY NZ ?_ (hp:=by exact⟨by first|rfl|trivial,by first|rfl|trivial,by first|rfl|trivial,by first|rfl|trivial,by first|rfl|trivial,(pU hv1)⟩) (h:=by simp only[go_sem,hw1];rfl)
  cases hC0;exact⟨[(0,0),(1,1),(2,2),(3,3)],by rfl,by rfl,by rfl⟩
 ·refine qJ (pM ?_);obtain⟨aL,hv2,hw2,hC0⟩:=pV hC0
  try simp only[go_sem] at hw2
  refine qY NZ ?_ (hp:=by exact⟨by first|rfl|trivial,by first|rfl|trivial,by first|rfl|trivial,by first|rfl|trivial,by first|rfl|trivial,(pU hv2)⟩) (h:=by simp only[go_sem,hw2];rfl)
  cases hC0;exact⟨[(0,0),(1,1),(2,2),(3,3)],by rfl,by rfl,by rfl⟩
attribute [irreducible] wT
end
noncomputable section
def AP (O:((List UInt8)×(Int×Unit))) (Z:rJ) (aA:Int) (aB:Int) (aC:qZ) (aD:((List Int)×(Int×Unit))) (aE:Int) (aF:Bool) (aG:(List ((List UInt8)×Bool))) (aH:(List UInt8)) (aI:(List UInt8)) (aJ:(List UInt8)) (aK:(List (List UInt8))) (aL:(Int×((List pL)×Unit))) (aM:Bool) (aN:(List (List UInt8))) (aO:(List ((List UInt8)×Bool))):Option (Int×Int×(List UInt8)×Int×Int×Int×Int×Int):=if (((!decide (Z.1=aE))==false)=true→((DL Z.2.1)).isSome=true) then if ((!decide (Z.1=aE))||(!(val (DL Z.2.1))))=true then qW (tP O Z aA aB aC aD (3:Int) aG) fun aP=>(s9 (O.1,(O.2.1,())) (Z.1,(Z.2.1,(Z.2.2.1,(Z.2.2.2.1,())))) aP.1 aP.2 (aC.1,(aC.2.1,(aC.2.2.1,(aC.2.2.2.1,())))) (aD.1,(aD.2.1,())) aG).bind fun aQ=>some ((aQ.1,aQ.2.1,aQ.2.2.1,aQ.2.2.2.1,aQ.2.2.2.2.1,aP.1,aP.2,aQ.2.2.2.2.2)) else (KY Z.2.1 aH aI aJ aK aL aM aN aO).bind fun aR=>if aR=true then qW (tP O Z aA aB aC aD (9:Int) aG) fun aS=>(s9 (O.1,(O.2.1,())) (Z.1,(Z.2.1,(Z.2.2.1,(Z.2.2.2.1,())))) aS.1 aS.2 (aC.1,(aC.2.1,(aC.2.2.1,(aC.2.2.2.1,())))) (aD.1,(aD.2.1,())) aG).bind fun aT=>some ((aT.1,aT.2.1,aT.2.2.1,aT.2.2.2.1,aT.2.2.2.2.1,aS.1,aS.2,aT.2.2.2.2.2)) else if aF=true then qW (tP O Z aA aB aC aD (6:Int) aG) fun aU=>(s9 (O.1,(O.2.1,())) (Z.1,(Z.2.1,(Z.2.2.1,(Z.2.2.2.1,())))) aU.1 aU.2 (aC.1,(aC.2.1,(aC.2.2.1,(aC.2.2.2.1,())))) (aD.1,(aD.2.1,())) aG).bind fun aV=>some ((aV.1,aV.2.1,aV.2.2.1,aV.2.2.2.1,aV.2.2.2.2.1,aU.1,aU.2,aV.2.2.2.2.2)) else (s9 O Z aA aB aC aD aG).bind fun aW=>some ((aW.1,aW.2.1,aW.2.2.1,aW.2.2.2.1,aW.2.2.2.2.1,aA,aB,aW.2.2.2.2.2)) else none
section
variable (O:Int) (Z:Bool) (aA:((List UInt8)×(Int×Unit))) (aB:rJ) (aC:Int) (aD:Int) (aE:qZ) (aF:((List Int)×(Int×Unit))) (aG:Nat) (aH:Nat) (aI:(List ((List UInt8)×Bool))) (aJ:(List UInt8)) (aK:(List UInt8)) (aL:(List UInt8)) (aM:(List (List UInt8))) (aN:Nat) (aO:(Int×((List pL)×Unit))) (aP:Bool) (aQ:Nat) (aR:Nat) (aS:(List (List UInt8))) (aT:Nat) (aU:(List ((List UInt8)×Bool)))
abbrev a3v:List oZ:=[(.val .ref (some (0,0)),none),(.val (.int .i64) O,none),(.val .clo (some (162,[])),none),(.val .clo (some (258,[(3,0)])),none),(.val .bool Z,none)]
abbrev a3w:List oX:=[.cells rF (aA,(aB,(aC,(aD,(aE,((some 4),aF)))))) [(11,1),(13,2)],.grow 55 7 aG,.grow 3 1 aH,.cells .ref (some (5,0)) [],.map .str .bool aI,.cells sH ((aJ,(aK,(aL,(aM,((some (8,aN)),aO))))),(aP,((some 9),()))) [(3,6),(6,7)],.grow 9 1 aQ,.grow 149 2 aR,.row 9 .str aS aT,.map .str .bool aU]
@[go_sem] def a3x:pD:=⟨[aG=(aE.2.2.2.1.length),aH=(aF.1.length),aQ=(aM.length),aR=(aO.2.1.length),aN=aT,((AP aA aB aC aD aE aF O Z aI aJ aK aL aM aO aP aS aU)).isSome=true],[(.val .str aB.2.1,none)],[.cells rF ((aA.1,((val (AP aA aB aC aD aE aF O Z aI aJ aK aL aM aO aP aS aU)).1,())),(((val (AP aA aB aC aD aE aF O Z aI aJ aK aL aM aO aP aS aU)).2.1,((val (AP aA aB aC aD aE aF O Z aI aJ aK aL aM aO aP aS aU)).2.2.1,((val (AP aA aB aC aD aE aF O Z aI aJ aK aL aM aO aP aS aU)).2.2.2.1,((val (AP aA aB aC aD aE aF O Z aI aJ aK aL aM aO aP aS aU)).2.2.2.2.1,())))),((val (AP aA aB aC aD aE aF O Z aI aJ aK aL aM aO aP aS aU)).2.2.2.2.2.1,((val (AP aA aB aC aD aE aF O Z aI aJ aK aL aM aO aP aS aU)).2.2.2.2.2.2.1,((aE.1,(aE.2.1,(aE.2.2.1,(aE.2.2.2.1,())))),((some 4),(aF.1,((val (AP aA aB aC aD aE aF O Z aI aJ aK aL aM aO aP aS aU)).2.2.2.2.2.2.2,())))))))) [(11,1),(13,2)],.grow 55 7 (aE.2.2.2.1.length),.grow 3 1 (aF.1.length),.cells .ref (some (5,0)) [],.map .str .bool aI,.cells sH ((aJ,(aK,(aL,(aM,((some (8,(aS.length))),(aO.1,(aO.2.1,()))))))),(aP,((some 9),()))) [(3,6),(6,7)],.grow 9 1 (aM.length),.grow 149 2 (aO.2.1.length),.row 9 .str aS (aS.length),.map .str .bool aU]⟩
def aBj:List oZ→List oX→Option pD:=qM (V:=(Int×Bool×((List UInt8)×(Int×Unit))×rJ×Int×Int×qZ×((List Int)×(Int×Unit))×Nat×Nat×(List ((List UInt8)×Bool))×(List UInt8)×(List UInt8)×(List UInt8)×(List (List UInt8))×Nat×(Int×((List pL)×Unit))×Bool×Nat×Nat×(List (List UInt8))×Nat×(List ((List UInt8)×Bool)))) (fun x=>a3v x.1 x.2.1) (fun x=>a3w x.2.2.1 x.2.2.2.1 x.2.2.2.2.1 x.2.2.2.2.2.1 x.2.2.2.2.2.2.1 x.2.2.2.2.2.2.2.1 x.2.2.2.2.2.2.2.2.1 x.2.2.2.2.2.2.2.2.2.1 x.2.2.2.2.2.2.2.2.2.2.1 x.2.2.2.2.2.2.2.2.2.2.2.1 x.2.2.2.2.2.2.2.2.2.2.2.2.1 x.2.2.2.2.2.2.2.2.2.2.2.2.2.1 x.2.2.2.2.2.2.2.2.2.2.2.2.2.2.1 x.2.2.2.2.2.2.2.2.2.2.2.2.2.2.2.1 x.2.2.2.2.2.2.2.2.2.2.2.2.2.2.2.2.1 x.2.2.2.2.2.2.2.2.2.2.2.2.2.2.2.2.2.1 x.2.2.2.2.2.2.2.2.2.2.2.2.2.2.2.2.2.2.1 x.2.2.2.2.2.2.2.2.2.2.2.2.2.2.2.2.2.2.2.1 x.2.2.2.2.2.2.2.2.2.2.2.2.2.2.2.2.2.2.2.2.1 x.2.2.2.2.2.2.2.2.2.2.2.2.2.2.2.2.2.2.2.2.2.1 x.2.2.2.2.2.2.2.2.2.2.2.2.2.2.2.2.2.2.2.2.2.2) fun x=>a3x x.1 x.2.1 x.2.2.1 x.2.2.2.1 x.2.2.2.2.1 x.2.2.2.2.2.1 x.2.2.2.2.2.2.1 x.2.2.2.2.2.2.2.1 x.2.2.2.2.2.2.2.2.1 x.2.2.2.2.2.2.2.2.2.1 x.2.2.2.2.2.2.2.2.2.2.1 x.2.2.2.2.2.2.2.2.2.2.2.1 x.2.2.2.2.2.2.2.2.2.2.2.2.1 x.2.2.2.2.2.2.2.2.2.2.2.2.2.1 x.2.2.2.2.2.2.2.2.2.2.2.2.2.2.1 x.2.2.2.2.2.2.2.2.2.2.2.2.2.2.2.1 x.2.2.2.2.2.2.2.2.2.2.2.2.2.2.2.2.1 x.2.2.2.2.2.2.2.2.2.2.2.2.2.2.2.2.2.1 x.2.2.2.2.2.2.2.2.2.2.2.2.2.2.2.2.2.2.1 x.2.2.2.2.2.2.2.2.2.2.2.2.2.2.2.2.2.2.2.1 x.2.2.2.2.2.2.2.2.2.2.2.2.2.2.2.2.2.2.2.2.1 x.2.2.2.2.2.2.2.2.2.2.2.2.2.2.2.2.2.2.2.2.2.1 x.2.2.2.2.2.2.2.2.2.2.2.2.2.2.2.2.2.2.2.2.2.2
@[go_sem] theorem aMs:aBj (no_index (a3v O Z)) (no_index (a3w aA aB aC aD aE aF aG aH aI aJ aK aL aM aN aO aP aQ aR aS aT aU))=some (a3x O Z aA aB aC aD aE aF aG aH aI aJ aK aL aM aN aO aP aQ aR aS aT aU):=qQ (fun⟨a0,a1,a2,a3,a4,a5,a6,a7,a8,a9,a10,a11,a12,a13,a14,a15,a16,a17,a18,a19,a20,a21,a22⟩ ⟨b0,b1,b2,b3,b4,b5,b6,b7,b8,b9,b10,b11,b12,b13,b14,rV,b16,b17,b18,b19,b20,b21,b22⟩ h1 h2=>by cases h1;cases h2;rfl) (O,Z,aA,aB,aC,aD,aE,aF,aG,aH,aI,aJ,aK,aL,aM,aN,aO,aP,aQ,aR,aS,aT,aU)
end
@[go_sem] abbrev a3y:Nat×pY:=(124,⟨[.p rF [11,13],.v,.v,.f [(.ref,[])],.v],aBj,[(0,12,.m),(3,0,.p sH [3,6]),(5,4,.r),(5,8,.m)],[1,2,3,4,5,6,7,8,9],none⟩)
theorem aBk:qB Tryz.prog [] (pZ [NA,yZ,xD,a2f]):=⟨trivial,pK a9q (pK DN (pK CX (pK aHe qS))),qD⟩
theorem zD:qB Tryz.prog [v6,s7,yY,wP] (pZ [NA,yZ,xD,a2f]):=⟨⟨vM,⟨sB,⟨AL,⟨xZ,trivial⟩⟩⟩⟩,aBk.Γ,qD⟩
theorem aHv:qH Tryz.prog a3y:=by
 refine qR aBk Tryz.func124 (c:=_) rfl (N:=46) (by kernel_rfl) (ts:=[(10,none)]) rfl (fun _ _=>rfl) ?_;intro⟨O,Z,aA,aB,aC,aD,aE,aF,aG,aH,aI,aJ,aK,aL,aM,aN,aO,aP,aQ,aR,aS,aT,aU⟩ hs hrow;dsimp only[a3v,a3w,a3x,qI,pG,pN,qE,qK,Nat.reduceAdd] at hs hrow⊢;obtain⟨rfl,rfl,rfl,rfl,rfl,hz⟩:=hs;obtain⟨rfl,_⟩:=hrow;obtain⟨z0,hC0⟩:=aMM.1 hz
 try rw[rG hC0]
 clear hz;unfold AP at hC0;refine oY zD ?_;refine oY zD ?_;refine pX (rR ?_);obtain⟨hg1,hC0⟩:=pJ hC0;refine oY zD ?_ (hp:=by exact⟨fun hh=>hh,fun hh=>hh,hg1,fun hh=>hh,(fun hh=>xX hh)⟩);refine pP hC0 (fun hC0 hc1=> ?_) (fun hC0 hc1=> ?_)
 ·obtain⟨aV,hw_40,hC0⟩:=vE hC0
  try simp only[go_sem] at hw_40
  refine qY zD ?_ (hp:=by exact⟨by first|rfl|trivial,by first|rfl|trivial,by first|rfl|trivial,by first|rfl|trivial,(by first|rfl|trivial)⟩) (h:=by simp only[go_sem,hw_40];rfl)
  refine qV (pM ?_);obtain⟨aW,hv2,hw2,hC0⟩:=pV hC0
  try simp only[go_sem] at hw2
  refine oY zD ?_ (hp:=by exact⟨by first|rfl|trivial,by first|rfl|trivial,by first|rfl|trivial,by first|rfl|trivial,by first|rfl|trivial,(pU hv2)⟩) (h:=by simp only[go_sem,hw2];rfl)
  refine oY zD ?_;refine pH ?_;cases hC0;exact⟨[(0,0),(1,1),(2,2),(3,3),(4,4),(5,5),(6,6),(7,7),(8,8),(9,9)],by rfl,by rfl,by rfl⟩
 ·obtain⟨aX,hv3,hw3,hC0⟩:=pV hC0
  try simp only[go_sem] at hw3
  refine oY zD ?_ (hp:=by exact⟨by first|rfl|trivial,by first|rfl|trivial,by first|rfl|trivial,by first|rfl|trivial,by first|rfl|trivial,by first|rfl|trivial,by first|rfl|trivial,by first|rfl|trivial,by first|rfl|trivial,(pU hv3)⟩) (h:=by simp only[go_sem,hw3];rfl)
  refine pP hC0 (fun hC0 hc2=> ?_) (fun hC0 hc2=> ?_)
  ·obtain⟨aY,hw_43,hC0⟩:=vE hC0
   try simp only[go_sem] at hw_43
   refine qY zD ?_ (hp:=by exact⟨by first|rfl|trivial,by first|rfl|trivial,by first|rfl|trivial,by first|rfl|trivial,(by first|rfl|trivial)⟩) (h:=by simp only[go_sem,hw_43];rfl)
   refine qV (pM ?_);obtain⟨aZ,hv4,hw4,hC0⟩:=pV hC0
   try simp only[go_sem] at hw4
   refine oY zD ?_ (hp:=by exact⟨by first|rfl|trivial,by first|rfl|trivial,by first|rfl|trivial,by first|rfl|trivial,by first|rfl|trivial,(pU hv4)⟩) (h:=by simp only[go_sem,hw4];rfl)
   refine oY zD ?_;refine pH ?_;cases hC0;exact⟨[(0,0),(1,1),(2,2),(3,3),(4,4),(5,5),(6,6),(7,7),(8,8),(9,9)],by rfl,by rfl,by rfl⟩
  ·refine oY zD ?_;refine pP hC0 (fun hC0 hc3=> ?_) (fun hC0 hc3=> ?_)
   ·obtain⟨bA,hw_45,hC0⟩:=vE hC0
    try simp only[go_sem] at hw_45
    refine qY zD ?_ (hp:=by exact⟨by first|rfl|trivial,by first|rfl|trivial,by first|rfl|trivial,by first|rfl|trivial,(by first|rfl|trivial)⟩) (h:=by simp only[go_sem,hw_45];rfl)
    refine qV (pM ?_);obtain⟨bB,hv5,hw5,hC0⟩:=pV hC0
    try simp only[go_sem] at hw5
    refine oY zD ?_ (hp:=by exact⟨by first|rfl|trivial,by first|rfl|trivial,by first|rfl|trivial,by first|rfl|trivial,by first|rfl|trivial,(pU hv5)⟩) (h:=by simp only[go_sem,hw5];rfl)
    refine oY zD ?_;refine pH ?_;cases hC0;exact⟨[(0,0),(1,1),(2,2),(3,3),(4,4),(5,5),(6,6),(7,7),(8,8),(9,9)],by rfl,by rfl,by rfl⟩
   ·refine qJ (qV (pM ?_));obtain⟨bC,hv6,hw6,hC0⟩:=pV hC0
    try simp only[go_sem] at hw6
    refine oY zD ?_ (hp:=by exact⟨by first|rfl|trivial,by first|rfl|trivial,by first|rfl|trivial,by first|rfl|trivial,by first|rfl|trivial,(pU hv6)⟩) (h:=by simp only[go_sem,hw6];rfl)
    refine oY zD ?_;refine pH ?_;cases hC0;exact⟨[(0,0),(1,1),(2,2),(3,3),(4,4),(5,5),(6,6),(7,7),(8,8),(9,9)],by rfl,by rfl,by rfl⟩
attribute [irreducible] AP
def tI (O:(List UInt8)) (Z:(Int×Int×Int×(List UInt8)×(List (List UInt8))×(List pL)×(List Int))):(Int×Int×Int×(List qT)×(List Int))→Option ((Int×Int×Int×(List qT)×(List Int))⊕(Int×Int×Int×(List qT)×(List Int))):=fun(aA,aB,aC,aD,aE)=>if (((decide (aC=(0:Int)))==true)=true→((KV O aA)).isSome=true) then if ((decide (aC=(0:Int)))&&(decide ((val (KV O aA))<(O.length:Int))))=true then (zB (O,(aA,(aB,(aC,((Z.2.2.2.1,(Z.2.2.2.2.1,(Z.2.2.2.2.2.1,(aD,())))),(aE,()))))))).bind fun aF=>some (.inl (aF.1,aF.2.1,aF.2.2.1,aF.2.2.2.1,aF.2.2.2.2)) else some (.inr (aA,aB,aC,aD,aE)) else none
def C1 (O:(List UInt8)):Option ((List UInt8)×(List (List UInt8))×(List pL)×(List qT)×(List Int)×Int×Int):=(BZ (O,((0:Int),((0:Int),((0:Int),((([]:List UInt8),(([]:List (List UInt8)),(([]:List pL),(([]:List qT),())))),(([]:List Int),()))))))).bind fun Z=>rE (pR (tI O Z) (Z.1,Z.2.1,Z.2.2.1,([]:List qT),Z.2.2.2.2.2.2)) fun(aA,aB,aC,aD,aE)=>if (!decide (aC=(0:Int)))=true then some ((([]:List UInt8),([]:List (List UInt8)),([]:List pL),([]:List qT),([]:List Int),aB,aC)) else some ((Z.2.2.2.1,Z.2.2.2.2.1,Z.2.2.2.2.2.1,aD,aE,(0:Int),(0:Int)))
attribute [irreducible] C1
end
noncomputable section
def zE (O:((List UInt8)×(Int×Unit))) (Z:rJ) (aA:Int) (aB:Int) (aC:qZ) (aD:((List Int)×(Int×Unit))) (aE:Int) (aF:Bool) (aG:(List ((List UInt8)×Bool))):Option (Int×Int×(List UInt8)×Int×Int×Int×Int×Int):=if ((!decide (Z.1=aE))||(!((!decide (Z.2.1=([]:List UInt8)))&&(decide ((Z.2.1.length:Int)≤(200:Int))))))=true then qW (tP O Z aA aB aC aD (3:Int) aG) fun aH=>(s9 (O.1,(O.2.1,())) (Z.1,(Z.2.1,(Z.2.2.1,(Z.2.2.2.1,())))) aH.1 aH.2 (aC.1,(aC.2.1,(aC.2.2.1,(aC.2.2.2.1,())))) (aD.1,(aD.2.1,())) aG).bind fun aI=>some ((aI.1,aI.2.1,aI.2.2.1,aI.2.2.2.1,aI.2.2.2.2.1,aH.1,aH.2,aI.2.2.2.2.2)) else if (rM .str .bool aG Z.2.1)=true then qW (tP O Z aA aB aC aD (9:Int) aG) fun aJ=>(s9 (O.1,(O.2.1,())) (Z.1,(Z.2.1,(Z.2.2.1,(Z.2.2.2.1,())))) aJ.1 aJ.2 (aC.1,(aC.2.1,(aC.2.2.1,(aC.2.2.2.1,())))) (aD.1,(aD.2.1,())) aG).bind fun aK=>some ((aK.1,aK.2.1,aK.2.2.1,aK.2.2.2.1,aK.2.2.2.2.1,aJ.1,aJ.2,aK.2.2.2.2.2)) else if aF=true then qW (tP O Z aA aB aC aD (6:Int) aG) fun aL=>(s9 (O.1,(O.2.1,())) (Z.1,(Z.2.1,(Z.2.2.1,(Z.2.2.2.1,())))) aL.1 aL.2 (aC.1,(aC.2.1,(aC.2.2.1,(aC.2.2.2.1,())))) (aD.1,(aD.2.1,())) aG).bind fun aM=>some ((aM.1,aM.2.1,aM.2.2.1,aM.2.2.2.1,aM.2.2.2.2.1,aL.1,aL.2,aM.2.2.2.2.2)) else (s9 O Z aA aB aC aD aG).bind fun aN=>some ((aN.1,aN.2.1,aN.2.2.1,aN.2.2.2.1,aN.2.2.2.2.1,aA,aB,aN.2.2.2.2.2))
section
variable (O:Int) (Z:Bool) (aA:((List UInt8)×(Int×Unit))) (aB:rJ) (aC:Int) (aD:Int) (aE:qZ) (aF:((List Int)×(Int×Unit))) (aG:Nat) (aH:Nat) (aI:(List ((List UInt8)×Bool)))
abbrev a3z:List oZ:=[(.val .ref (some (0,0)),none),(.val (.int .i64) O,none),(.val .clo (some (127,[])),none),(.val .clo (some (128,[(3,0)])),none),(.val .bool Z,none)]
abbrev a3A:List oX:=[.cells rF (aA,(aB,(aC,(aD,(aE,((some 4),aF)))))) [(11,1),(13,2)],.grow 55 7 aG,.grow 3 1 aH,.cells .ref (some (0,0)) [],.map .str .bool aI]
@[go_sem] def a3B:pD:=⟨[aG=(aE.2.2.2.1.length),aH=(aF.1.length),((zE aA aB aC aD aE aF O Z aI)).isSome=true],[(.val .str aB.2.1,none)],[.cells rF ((aA.1,((val (zE aA aB aC aD aE aF O Z aI)).1,())),(((val (zE aA aB aC aD aE aF O Z aI)).2.1,((val (zE aA aB aC aD aE aF O Z aI)).2.2.1,((val (zE aA aB aC aD aE aF O Z aI)).2.2.2.1,((val (zE aA aB aC aD aE aF O Z aI)).2.2.2.2.1,())))),((val (zE aA aB aC aD aE aF O Z aI)).2.2.2.2.2.1,((val (zE aA aB aC aD aE aF O Z aI)).2.2.2.2.2.2.1,((aE.1,(aE.2.1,(aE.2.2.1,(aE.2.2.2.1,())))),((some 4),(aF.1,((val (zE aA aB aC aD aE aF O Z aI)).2.2.2.2.2.2.2,())))))))) [(11,1),(13,2)],.grow 55 7 (aE.2.2.2.1.length),.grow 3 1 (aF.1.length),.cells .ref (some (0,0)) [],.map .str .bool aI]⟩
def aBl:List oZ→List oX→Option pD:=qM (V:=(Int×Bool×((List UInt8)×(Int×Unit))×rJ×Int×Int×qZ×((List Int)×(Int×Unit))×Nat×Nat×(List ((List UInt8)×Bool)))) (fun x=>a3z x.1 x.2.1) (fun x=>a3A x.2.2.1 x.2.2.2.1 x.2.2.2.2.1 x.2.2.2.2.2.1 x.2.2.2.2.2.2.1 x.2.2.2.2.2.2.2.1 x.2.2.2.2.2.2.2.2.1 x.2.2.2.2.2.2.2.2.2.1 x.2.2.2.2.2.2.2.2.2.2) fun x=>a3B x.1 x.2.1 x.2.2.1 x.2.2.2.1 x.2.2.2.2.1 x.2.2.2.2.2.1 x.2.2.2.2.2.2.1 x.2.2.2.2.2.2.2.1 x.2.2.2.2.2.2.2.2.1 x.2.2.2.2.2.2.2.2.2.1 x.2.2.2.2.2.2.2.2.2.2
@[go_sem] theorem aMt:aBl (no_index (a3z O Z)) (no_index (a3A aA aB aC aD aE aF aG aH aI))=some (a3B O Z aA aB aC aD aE aF aG aH aI):=qQ (fun⟨a0,a1,a2,a3,a4,a5,a6,a7,a8,a9,a10⟩ ⟨b0,b1,b2,b3,b4,b5,b6,b7,b8,b9,b10⟩ h1 h2=>by cases h1;cases h2;rfl) (O,Z,aA,aB,aC,aD,aE,aF,aG,aH,aI)
end
@[go_sem] abbrev aBm:Nat×pY:=(124,⟨[.p rF [11,13],.v,.v,.f [(.ref,[])],.v],aBl,[(0,12,.m)],[1,2,3,4],none⟩)
theorem y8:qB Tryz.prog [v6,s7,yY,wP] (pZ [a9i,yZ,xD,a9l]):=⟨⟨vM,⟨sB,⟨AL,⟨xZ,trivial⟩⟩⟩⟩,pK aGJ (pK DN (pK CX (pK aGK qS))),qD⟩
theorem aHw:qH Tryz.prog aBm:=by
 refine qR y8 Tryz.func124 (c:=_) rfl (N:=46) (by kernel_rfl) (ts:=[(10,none)]) rfl (fun _ _=>rfl) ?_;intro⟨O,Z,aA,aB,aC,aD,aE,aF,aG,aH,aI⟩ hs hrow;dsimp only[a3z,a3A,a3B,qI,pG,pN,qE,qK,Nat.reduceAdd] at hs hrow⊢;obtain⟨rfl,rfl,hz⟩:=hs;obtain⟨z0,hC0⟩:=aMM.1 hz
 try rw[rG hC0]
 clear hz;unfold zE at hC0;refine oY y8 ?_;refine oY y8 ?_;refine pX (rR ?_);refine oY y8 ?_ (hp:=by exact⟨fun hh=>hh,fun hh=>hh,fun hh=>hh,(fun hh=>xX hh)⟩);refine pP hC0 (fun hC0 hc1=> ?_) (fun hC0 hc1=> ?_)
 ·obtain⟨aJ,hw_27,hC0⟩:=vE hC0
  try simp only[go_sem] at hw_27
  refine qY y8 ?_ (hp:=by exact⟨by first|rfl|trivial,by first|rfl|trivial,by first|rfl|trivial,by first|rfl|trivial,(by first|rfl|trivial)⟩) (h:=by simp only[go_sem,hw_27];rfl)
  refine qV (pM ?_);obtain⟨aK,hv1,hw1,hC0⟩:=pV hC0
  try simp only[go_sem] at hw1
  refine oY y8 ?_ (hp:=by exact⟨by first|rfl|trivial,by first|rfl|trivial,by first|rfl|trivial,by first|rfl|trivial,by first|rfl|trivial,(pU hv1)⟩) (h:=by simp only[go_sem,hw1];rfl)
  refine oY y8 ?_;refine pH ?_;cases hC0;exact⟨[(0,0),(1,1),(2,2),(3,3),(4,4)],by rfl,by rfl,by rfl⟩
 ·refine oY y8 ?_ (hp:=by exact⟨by first|rfl|trivial,by first|rfl|trivial,by first|rfl|trivial,by first|rfl|trivial,by first|rfl|trivial,by first|rfl|trivial,(by first|rfl|trivial)⟩)
  refine pP hC0 (fun hC0 hc2=> ?_) (fun hC0 hc2=> ?_)
  ·obtain⟨aL,hw_29,hC0⟩:=vE hC0
   try simp only[go_sem] at hw_29
   refine qY y8 ?_ (hp:=by exact⟨by first|rfl|trivial,by first|rfl|trivial,by first|rfl|trivial,by first|rfl|trivial,(by first|rfl|trivial)⟩) (h:=by simp only[go_sem,hw_29];rfl)
   refine qV (pM ?_);obtain⟨aM,hv2,hw2,hC0⟩:=pV hC0
   try simp only[go_sem] at hw2
   refine oY y8 ?_ (hp:=by exact⟨by first|rfl|trivial,by first|rfl|trivial,by first|rfl|trivial,by first|rfl|trivial,by first|rfl|trivial,(pU hv2)⟩) (h:=by simp only[go_sem,hw2];rfl)
   refine oY y8 ?_;refine pH ?_;cases hC0;exact⟨[(0,0),(1,1),(2,2),(3,3),(4,4)],by rfl,by rfl,by rfl⟩
  ·refine oY y8 ?_;refine pP hC0 (fun hC0 hc3=> ?_) (fun hC0 hc3=> ?_)
   ·obtain⟨aN,hw_31,hC0⟩:=vE hC0
    try simp only[go_sem] at hw_31
    refine qY y8 ?_ (hp:=by exact⟨by first|rfl|trivial,by first|rfl|trivial,by first|rfl|trivial,by first|rfl|trivial,(by first|rfl|trivial)⟩) (h:=by simp only[go_sem,hw_31];rfl)
    refine qV (pM ?_);obtain⟨aO,hv3,hw3,hC0⟩:=pV hC0
    try simp only[go_sem] at hw3
    refine oY y8 ?_ (hp:=by exact⟨by first|rfl|trivial,by first|rfl|trivial,by first|rfl|trivial,by first|rfl|trivial,by first|rfl|trivial,(pU hv3)⟩) (h:=by simp only[go_sem,hw3];rfl)
    refine oY y8 ?_;refine pH ?_;cases hC0;exact⟨[(0,0),(1,1),(2,2),(3,3),(4,4)],by rfl,by rfl,by rfl⟩
   ·refine qJ (qV (pM ?_));obtain⟨aP,hv4,hw4,hC0⟩:=pV hC0
    try simp only[go_sem] at hw4
    refine oY y8 ?_ (hp:=by exact⟨by first|rfl|trivial,by first|rfl|trivial,by first|rfl|trivial,by first|rfl|trivial,by first|rfl|trivial,(pU hv4)⟩) (h:=by simp only[go_sem,hw4];rfl)
    refine oY y8 ?_;refine pH ?_;cases hC0;exact⟨[(0,0),(1,1),(2,2),(3,3),(4,4)],by rfl,by rfl,by rfl⟩
attribute [irreducible] zE
def zT (O:((List UInt8)×(Int×Unit))) (Z:rJ) (aA:Int) (aB:Int) (aC:qZ) (aD:((List Int)×(Int×Unit))) (aE:(List UInt8)) (aF:(List UInt8)) (aG:(List UInt8)) (aH:(List (List UInt8))) (aI:(Int×((List pL)×Unit))) (aJ:Bool) (aK:(List ((List UInt8)×Bool))) (aL:(List (List UInt8))) (aM:(List ((List UInt8)×Bool))):Option (Int×Int×(List UInt8)×Int×Int×Int×Int×Int×Int):=(z6 O Z aA aB aC aD aE aF aG aH aI aJ aK aL aM).bind fun aN=>(zA (O.1,(aN.1,())) (aN.2.1,(aN.2.2.1,(aN.2.2.2.1,(aN.2.2.2.2.1,())))) aN.2.2.2.2.2.1 aN.2.2.2.2.2.2.1 (aC.1,(aC.2.1,(aC.2.2.1,(aC.2.2.2.1,())))) (aD.1,(aN.2.2.2.2.2.2.2,())) (2:Int) false aK).bind fun aO=>(BA ([([110,101,119]:List UInt8),([102,117,122,122,121]:List UInt8),([116,114,97,110,115,108,97,116,101,100]:List UInt8),([114,101,118,105,101,119,101,100]:List UInt8),([111,98,115,111,108,101,116,101]:List UInt8)]:List (List UInt8)) aN.2.2.1).bind fun aP=>some ((aO.1,aO.2.1,aO.2.2.1,aO.2.2.2.1,aO.2.2.2.2.1,aO.2.2.2.2.2.1,aO.2.2.2.2.2.2.1,aO.2.2.2.2.2.2.2,(max (0:Int) aP)))
section
variable (O:((List UInt8)×(Int×Unit))) (Z:rJ) (aA:Int) (aB:Int) (aC:qZ) (aD:((List Int)×(Int×Unit))) (aE:Nat) (aF:Nat) (aG:(List UInt8)) (aH:(List UInt8)) (aI:(List UInt8)) (aJ:(List (List UInt8))) (aK:Nat) (aL:(Int×((List pL)×Unit))) (aM:Bool) (aN:Nat) (aO:Nat) (aP:(List ((List UInt8)×Bool))) (aQ:(List (List UInt8))) (aR:Nat) (aS:(List ((List UInt8)×Bool)))
abbrev a3C:List oZ:=[(.val .ref (some (0,0)),none),(.val .ref (some (3,0)),none)]
abbrev a3D:List oX:=[.cells rF (O,(Z,(aA,(aB,(aC,((some 6),aD)))))) [(11,1),(13,2)],.grow 55 7 aE,.grow 3 1 aF,.cells sH ((aG,(aH,(aI,(aJ,((some (7,aK)),aL))))),(aM,((some 8),()))) [(3,4),(6,5)],.grow 9 1 aN,.grow 149 2 aO,.map .str .bool aP,.row 9 .str aQ aR,.map .str .bool aS]
@[go_sem] def a3E:pD:=⟨[aE=(aC.2.2.2.1.length),aF=(aD.1.length),aN=(aJ.length),aO=(aL.2.1.length),aK=aR,((zT O Z aA aB aC aD aG aH aI aJ aL aM aP aQ aS)).isSome=true],[],[.cells rF ((O.1,((val (zT O Z aA aB aC aD aG aH aI aJ aL aM aP aQ aS)).1,())),(((val (zT O Z aA aB aC aD aG aH aI aJ aL aM aP aQ aS)).2.1,((val (zT O Z aA aB aC aD aG aH aI aJ aL aM aP aQ aS)).2.2.1,((val (zT O Z aA aB aC aD aG aH aI aJ aL aM aP aQ aS)).2.2.2.1,((val (zT O Z aA aB aC aD aG aH aI aJ aL aM aP aQ aS)).2.2.2.2.1,())))),((val (zT O Z aA aB aC aD aG aH aI aJ aL aM aP aQ aS)).2.2.2.2.2.1,((val (zT O Z aA aB aC aD aG aH aI aJ aL aM aP aQ aS)).2.2.2.2.2.2.1,((aC.1,(aC.2.1,(aC.2.2.1,(aC.2.2.2.1,())))),((some 6),(aD.1,((val (zT O Z aA aB aC aD aG aH aI aJ aL aM aP aQ aS)).2.2.2.2.2.2.2.1,())))))))) [(11,1),(13,2)],.grow 55 7 (aC.2.2.2.1.length),.grow 3 1 (aD.1.length),.cells sH ((aG,(aH,(aI,(aJ,((some (7,(aQ.length))),((val (zT O Z aA aB aC aD aG aH aI aJ aL aM aP aQ aS)).2.2.2.2.2.2.2.2,(aL.2.1,()))))))),(aM,((some 8),()))) [(3,4),(6,5)],.grow 9 1 (aJ.length),.grow 149 2 (aL.2.1.length),.map .str .bool aP,.row 9 .str aQ (aQ.length),.map .str .bool (sI .str .bool Z.2.1 true aS)]⟩
def aBn:List oZ→List oX→Option pD:=qM (V:=(((List UInt8)×(Int×Unit))×rJ×Int×Int×qZ×((List Int)×(Int×Unit))×Nat×Nat×(List UInt8)×(List UInt8)×(List UInt8)×(List (List UInt8))×Nat×(Int×((List pL)×Unit))×Bool×Nat×Nat×(List ((List UInt8)×Bool))×(List (List UInt8))×Nat×(List ((List UInt8)×Bool)))) (fun x=>a3C) (fun x=>a3D x.1 x.2.1 x.2.2.1 x.2.2.2.1 x.2.2.2.2.1 x.2.2.2.2.2.1 x.2.2.2.2.2.2.1 x.2.2.2.2.2.2.2.1 x.2.2.2.2.2.2.2.2.1 x.2.2.2.2.2.2.2.2.2.1 x.2.2.2.2.2.2.2.2.2.2.1 x.2.2.2.2.2.2.2.2.2.2.2.1 x.2.2.2.2.2.2.2.2.2.2.2.2.1 x.2.2.2.2.2.2.2.2.2.2.2.2.2.1 x.2.2.2.2.2.2.2.2.2.2.2.2.2.2.1 x.2.2.2.2.2.2.2.2.2.2.2.2.2.2.2.1 x.2.2.2.2.2.2.2.2.2.2.2.2.2.2.2.2.1 x.2.2.2.2.2.2.2.2.2.2.2.2.2.2.2.2.2.1 x.2.2.2.2.2.2.2.2.2.2.2.2.2.2.2.2.2.2.1 x.2.2.2.2.2.2.2.2.2.2.2.2.2.2.2.2.2.2.2.1 x.2.2.2.2.2.2.2.2.2.2.2.2.2.2.2.2.2.2.2.2) fun x=>a3E x.1 x.2.1 x.2.2.1 x.2.2.2.1 x.2.2.2.2.1 x.2.2.2.2.2.1 x.2.2.2.2.2.2.1 x.2.2.2.2.2.2.2.1 x.2.2.2.2.2.2.2.2.1 x.2.2.2.2.2.2.2.2.2.1 x.2.2.2.2.2.2.2.2.2.2.1 x.2.2.2.2.2.2.2.2.2.2.2.1 x.2.2.2.2.2.2.2.2.2.2.2.2.1 x.2.2.2.2.2.2.2.2.2.2.2.2.2.1 x.2.2.2.2.2.2.2.2.2.2.2.2.2.2.1 x.2.2.2.2.2.2.2.2.2.2.2.2.2.2.2.1 x.2.2.2.2.2.2.2.2.2.2.2.2.2.2.2.2.1 x.2.2.2.2.2.2.2.2.2.2.2.2.2.2.2.2.2.1 x.2.2.2.2.2.2.2.2.2.2.2.2.2.2.2.2.2.2.1 x.2.2.2.2.2.2.2.2.2.2.2.2.2.2.2.2.2.2.2.1 x.2.2.2.2.2.2.2.2.2.2.2.2.2.2.2.2.2.2.2.2
@[go_sem] theorem aMu:aBn (no_index a3C) (no_index (a3D O Z aA aB aC aD aE aF aG aH aI aJ aK aL aM aN aO aP aQ aR aS))=some (a3E O Z aA aB aC aD aE aF aG aH aI aJ aK aL aM aN aO aP aQ aR aS):=qQ (fun⟨a0,a1,a2,a3,a4,a5,a6,a7,a8,a9,a10,a11,a12,a13,a14,a15,a16,a17,a18,a19,a20⟩ ⟨b0,b1,b2,b3,b4,b5,b6,b7,b8,b9,b10,b11,b12,b13,b14,rV,b16,b17,b18,b19,b20⟩ h1 h2=>by cases h1;cases h2;rfl) (O,Z,aA,aB,aC,aD,aE,aF,aG,aH,aI,aJ,aK,aL,aM,aN,aO,aP,aQ,aR,aS)
end
@[go_sem] abbrev a3F:Nat×pY:=(217,⟨[.p rF [11,13],.p sH [3,6]],aBn,[(0,12,.m),(3,4,.r),(3,8,.m)],[1,2,4,5,6,7],none⟩)
theorem aBo:qB Tryz.prog [] (pZ [IM,RW,a3i,S3]):=⟨trivial,pK a28 (pK a87 (pK aHt (pK a9E qS))),qD⟩
theorem a3G:qB Tryz.prog [v6,CR,B9] (pZ [IM,RW,a3i,S3]):=⟨⟨vM,⟨EX,⟨CQ,trivial⟩⟩⟩,aBo.Γ,qD⟩
theorem aHx:qH Tryz.prog a3F:=by
 refine qR aBo Tryz.func217 (c:=_) rfl (N:=18) (by kernel_rfl) (ts:=[]) rfl (fun _ _=>rfl) ?_;intro⟨O,Z,aA,aB,aC,aD,aE,aF,aG,aH,aI,aJ,aK,aL,aM,aN,aO,aP,aQ,aR,aS⟩ hs hrow;dsimp only[a3C,a3D,a3E,qI,pG,pN,qE,qK,Nat.reduceAdd] at hs hrow⊢;obtain⟨rfl,rfl,rfl,rfl,rfl,hz⟩:=hs;obtain⟨rfl,_⟩:=hrow;obtain⟨z0,hC0⟩:=aMM.1 hz
 try rw[rG hC0]
 clear hz;unfold zT at hC0;obtain⟨aT,hv1,hw1,hC0⟩:=pV hC0
 try simp only[go_sem] at hw1
 refine oY a3G ?_ (hp:=by exact⟨by first|rfl|trivial,by first|rfl|trivial,by first|rfl|trivial,by first|rfl|trivial,by first|rfl|trivial,by first|rfl|trivial,by first|rfl|trivial,by first|rfl|trivial,by first|rfl|trivial,by first|rfl|trivial,by first|rfl|trivial,by first|rfl|trivial,(pU hv1)⟩) (h:=by simp only[go_sem,hw1];rfl)
 refine oY a3G ?_;obtain⟨aU,hv2,hw2,hC0⟩:=pV hC0
 try simp only[go_sem] at hw2
 obtain⟨aV,hv3,hw3,hC0⟩:=pV hC0
 try simp only[go_sem] at hw3
 refine qY a3G ?_ (hp:=by exact⟨by first|rfl|trivial,by first|rfl|trivial,by first|rfl|trivial,by first|rfl|trivial,by first|rfl|trivial,pU hv2,(pU hv3)⟩) (h:=by simp only[go_sem,hw2,hw3];rfl)
 cases hC0;exact⟨[(0,0),(1,1),(2,2),(3,3),(4,4),(5,5),(6,6),(7,7),(8,8)],by rfl,by rfl,by rfl⟩
attribute [irreducible] zT
end
noncomputable section
def y9 (O:((List UInt8)×(Int×Unit))) (Z:rJ) (aA:Int) (aB:Int) (aC:qZ) (aD:((List Int)×(Int×Unit))) (aE:(List UInt8)) (aF:(List UInt8)) (aG:(List UInt8)) (aH:(List (List UInt8))) (aI:(Int×((List pL)×Unit))) (aJ:Bool) (aK:(List ((List UInt8)×Bool))) (aL:(List (List UInt8))) (aM:(List ((List UInt8)×Bool))):Option (Int×Int×(List UInt8)×Int×Int×Int×Int×Int×(List (List UInt8))):=(s9 O Z aA aB aC aD aK).bind fun aN=>(AP (O.1,(aN.1,())) (aN.2.1,(aN.2.2.1,(aN.2.2.2.1,(aN.2.2.2.2.1,())))) aA aB (aC.1,(aC.2.1,(aC.2.2.1,(aC.2.2.2.1,())))) (aD.1,(aN.2.2.2.2.2,())) (2:Int) (decide ((((aL.length):Nat):Int)=(20:Int))) aK aE aF aG aH aI aJ aL aM).bind fun aO=>if ((aL.length)+([aN.2.2.1]:List (List UInt8)).length)*16≤140737488355328 then some ((aO.1,aO.2.1,aO.2.2.1,aO.2.2.2.1,aO.2.2.2.2.1,aO.2.2.2.2.2.1,aO.2.2.2.2.2.2.1,aO.2.2.2.2.2.2.2,(aL++([aN.2.2.1]:List (List UInt8))))) else none
section
variable (O:((List UInt8)×(Int×Unit))) (Z:rJ) (aA:Int) (aB:Int) (aC:qZ) (aD:((List Int)×(Int×Unit))) (aE:Nat) (aF:Nat) (aG:(List UInt8)) (aH:(List UInt8)) (aI:(List UInt8)) (aJ:(List (List UInt8))) (aK:Nat) (aL:(Int×((List pL)×Unit))) (aM:Bool) (aN:Nat) (aO:Nat) (aP:(List ((List UInt8)×Bool))) (aQ:(List (List UInt8))) (aR:Nat) (aS:(List ((List UInt8)×Bool)))
abbrev a3H:List oZ:=[(.val .ref (some (0,0)),none),(.val .ref (some (3,0)),none)]
abbrev a3I:List oX:=[.cells rF (O,(Z,(aA,(aB,(aC,((some 6),aD)))))) [(11,1),(13,2)],.grow 55 7 aE,.grow 3 1 aF,.cells sH ((aG,(aH,(aI,(aJ,((some (7,aK)),aL))))),(aM,((some 8),()))) [(3,4),(6,5)],.grow 9 1 aN,.grow 149 2 aO,.map .str .bool aP,.row 9 .str aQ aR,.map .str .bool aS]
@[go_sem] def a3J:pD:=⟨[aE=(aC.2.2.2.1.length),aF=(aD.1.length),aN=(aJ.length),aO=(aL.2.1.length),aK=aR,((y9 O Z aA aB aC aD aG aH aI aJ aL aM aP aQ aS)).isSome=true],[],[.cells rF ((O.1,((val (y9 O Z aA aB aC aD aG aH aI aJ aL aM aP aQ aS)).1,())),(((val (y9 O Z aA aB aC aD aG aH aI aJ aL aM aP aQ aS)).2.1,((val (y9 O Z aA aB aC aD aG aH aI aJ aL aM aP aQ aS)).2.2.1,((val (y9 O Z aA aB aC aD aG aH aI aJ aL aM aP aQ aS)).2.2.2.1,((val (y9 O Z aA aB aC aD aG aH aI aJ aL aM aP aQ aS)).2.2.2.2.1,())))),((val (y9 O Z aA aB aC aD aG aH aI aJ aL aM aP aQ aS)).2.2.2.2.2.1,((val (y9 O Z aA aB aC aD aG aH aI aJ aL aM aP aQ aS)).2.2.2.2.2.2.1,((aC.1,(aC.2.1,(aC.2.2.1,(aC.2.2.2.1,())))),((some 6),(aD.1,((val (y9 O Z aA aB aC aD aG aH aI aJ aL aM aP aQ aS)).2.2.2.2.2.2.2.1,())))))))) [(11,1),(13,2)],.grow 55 7 (aC.2.2.2.1.length),.grow 3 1 (aD.1.length),.cells sH ((aG,(aH,(aI,(aJ,((some (7,(((val (y9 O Z aA aB aC aD aG aH aI aJ aL aM aP aQ aS)).2.2.2.2.2.2.2.2).length))),(aL.1,(aL.2.1,()))))))),(aM,((some 8),()))) [(3,4),(6,5)],.grow 9 1 (aJ.length),.grow 149 2 (aL.2.1.length),.map .str .bool aP,.row 9 .str ((val (y9 O Z aA aB aC aD aG aH aI aJ aL aM aP aQ aS)).2.2.2.2.2.2.2.2) (((val (y9 O Z aA aB aC aD aG aH aI aJ aL aM aP aQ aS)).2.2.2.2.2.2.2.2).length),.map .str .bool aS]⟩
def aBp:List oZ→List oX→Option pD:=qM (V:=(((List UInt8)×(Int×Unit))×rJ×Int×Int×qZ×((List Int)×(Int×Unit))×Nat×Nat×(List UInt8)×(List UInt8)×(List UInt8)×(List (List UInt8))×Nat×(Int×((List pL)×Unit))×Bool×Nat×Nat×(List ((List UInt8)×Bool))×(List (List UInt8))×Nat×(List ((List UInt8)×Bool)))) (fun x=>a3H) (fun x=>a3I x.1 x.2.1 x.2.2.1 x.2.2.2.1 x.2.2.2.2.1 x.2.2.2.2.2.1 x.2.2.2.2.2.2.1 x.2.2.2.2.2.2.2.1 x.2.2.2.2.2.2.2.2.1 x.2.2.2.2.2.2.2.2.2.1 x.2.2.2.2.2.2.2.2.2.2.1 x.2.2.2.2.2.2.2.2.2.2.2.1 x.2.2.2.2.2.2.2.2.2.2.2.2.1 x.2.2.2.2.2.2.2.2.2.2.2.2.2.1 x.2.2.2.2.2.2.2.2.2.2.2.2.2.2.1 x.2.2.2.2.2.2.2.2.2.2.2.2.2.2.2.1 x.2.2.2.2.2.2.2.2.2.2.2.2.2.2.2.2.1 x.2.2.2.2.2.2.2.2.2.2.2.2.2.2.2.2.2.1 x.2.2.2.2.2.2.2.2.2.2.2.2.2.2.2.2.2.2.1 x.2.2.2.2.2.2.2.2.2.2.2.2.2.2.2.2.2.2.2.1 x.2.2.2.2.2.2.2.2.2.2.2.2.2.2.2.2.2.2.2.2) fun x=>a3J x.1 x.2.1 x.2.2.1 x.2.2.2.1 x.2.2.2.2.1 x.2.2.2.2.2.1 x.2.2.2.2.2.2.1 x.2.2.2.2.2.2.2.1 x.2.2.2.2.2.2.2.2.1 x.2.2.2.2.2.2.2.2.2.1 x.2.2.2.2.2.2.2.2.2.2.1 x.2.2.2.2.2.2.2.2.2.2.2.1 x.2.2.2.2.2.2.2.2.2.2.2.2.1 x.2.2.2.2.2.2.2.2.2.2.2.2.2.1 x.2.2.2.2.2.2.2.2.2.2.2.2.2.2.1 x.2.2.2.2.2.2.2.2.2.2.2.2.2.2.2.1 x.2.2.2.2.2.2.2.2.2.2.2.2.2.2.2.2.1 x.2.2.2.2.2.2.2.2.2.2.2.2.2.2.2.2.2.1 x.2.2.2.2.2.2.2.2.2.2.2.2.2.2.2.2.2.2.1 x.2.2.2.2.2.2.2.2.2.2.2.2.2.2.2.2.2.2.2.1 x.2.2.2.2.2.2.2.2.2.2.2.2.2.2.2.2.2.2.2.2
@[go_sem] theorem aMv:aBp (no_index a3H) (no_index (a3I O Z aA aB aC aD aE aF aG aH aI aJ aK aL aM aN aO aP aQ aR aS))=some (a3J O Z aA aB aC aD aE aF aG aH aI aJ aK aL aM aN aO aP aQ aR aS):=qQ (fun⟨a0,a1,a2,a3,a4,a5,a6,a7,a8,a9,a10,a11,a12,a13,a14,a15,a16,a17,a18,a19,a20⟩ ⟨b0,b1,b2,b3,b4,b5,b6,b7,b8,b9,b10,b11,b12,b13,b14,rV,b16,b17,b18,b19,b20⟩ h1 h2=>by cases h1;cases h2;rfl) (O,Z,aA,aB,aC,aD,aE,aF,aG,aH,aI,aJ,aK,aL,aM,aN,aO,aP,aQ,aR,aS)
end
@[go_sem] abbrev a3K:Nat×pY:=(218,⟨[.p rF [11,13],.p sH [3,6]],aBp,[(0,12,.m),(3,4,.r),(3,8,.m)],[1,2,4,5,6,8],none⟩)
theorem aBq:qB Tryz.prog [] (pZ [xD,a3y]):=⟨trivial,pK CX (pK aHv qS),qD⟩
theorem SQ:qB Tryz.prog [zR,CR,KD,B9] (pZ [xD,a3y]):=⟨⟨B8,⟨EX,⟨RO,⟨CQ,trivial⟩⟩⟩⟩,aBq.Γ,qD⟩
theorem aHy:qH Tryz.prog a3K:=by
 refine qR aBq Tryz.func218 (c:=_) rfl (N:=29) (by kernel_rfl) (ts:=[]) rfl (fun _ _=>rfl) ?_;intro⟨O,Z,aA,aB,aC,aD,aE,aF,aG,aH,aI,aJ,aK,aL,aM,aN,aO,aP,aQ,aR,aS⟩ hs hrow;dsimp only[a3H,a3I,a3J,qI,pG,pN,qE,qK,Nat.reduceAdd] at hs hrow⊢;obtain⟨rfl,rfl,rfl,rfl,rfl,hz⟩:=hs;obtain⟨rfl,_⟩:=hrow;obtain⟨z0,hC0⟩:=aMM.1 hz
 try rw[rG hC0]
 clear hz;unfold y9 at hC0;refine oY SQ ?_;obtain⟨aT,hv1,hw1,hC0⟩:=pV hC0
 try simp only[go_sem] at hw1
 refine oY SQ ?_ (hp:=by exact⟨by first|rfl|trivial,by first|rfl|trivial,by first|rfl|trivial,by first|rfl|trivial,by first|rfl|trivial,(pU hv1)⟩) (h:=by simp only[go_sem,hw1];rfl)
 refine oY SQ ?_;obtain⟨aU,hv2,hw2,hC0⟩:=pV hC0
 try simp only[go_sem] at hw2
 obtain⟨hg3,hC0⟩:=pJ hC0;refine K2 SQ ?_ (hp:=by exact⟨by first|rfl|trivial,by first|rfl|trivial,by first|rfl|trivial,by first|rfl|trivial,by first|rfl|trivial,by first|rfl|trivial,by first|rfl|trivial,by first|rfl|trivial,by first|rfl|trivial,by first|rfl|trivial,by first|rfl|trivial,by first|rfl|trivial,by first|rfl|trivial,by first|rfl|trivial,pU hv2,by first|rfl|trivial,hg3⟩) (h:=by simp only[go_sem,hw2];rfl)
 cases hC0;exact⟨[(0,0),(1,1),(2,2),(3,3),(4,4),(5,5),(6,6),(7,7),(8,8)],by rfl,by rfl,by rfl⟩
attribute [irreducible] y9
def xE (O:((List UInt8)×(Int×Unit))) (Z:rJ) (aA:Int) (aB:Int) (aC:qZ) (aD:((List Int)×(Int×Unit))) (aE:(List UInt8)) (aF:(List UInt8)) (aG:(List UInt8)) (aH:(List (List UInt8))) (aI:(Int×((List pL)×Unit))) (aJ:Bool) (aK:(List ((List UInt8)×Bool))) (aL:(List (List UInt8))) (aM:(List ((List UInt8)×Bool))):Option (Int×Int×(List UInt8)×Int×Int×Int×Int×Int×(List (List UInt8))):=rE (σ:=(Int×Int)) (if (decide ((aH.length:Int)=(20:Int)))=true then qW (tP O Z aA aB aC aD (6:Int) aK) fun aN=>some ((aN.1,aN.2)) else some ((aA,aB)) ) fun(aO,aP)=>(s9 (O.1,(O.2.1,())) (Z.1,(Z.2.1,(Z.2.2.1,(Z.2.2.2.1,())))) aO aP (aC.1,(aC.2.1,(aC.2.2.1,(aC.2.2.2.1,())))) (aD.1,(aD.2.1,())) aK).bind fun aQ=>(wS (O.1,(aQ.1,())) (aQ.2.1,(aQ.2.2.1,(aQ.2.2.2.1,(aQ.2.2.2.2.1,())))) aO aP (aC.1,(aC.2.1,(aC.2.2.1,(aC.2.2.2.1,())))) (aD.1,(aQ.2.2.2.2.2,())) aK).bind fun aR=>if (aH.length+([aQ.2.2.1]:List (List UInt8)).length)*16≤140737488355328 then some ((aR.1,aR.2.1,aR.2.2.1,aR.2.2.2.1,aR.2.2.2.2.1,aR.2.2.2.2.2.1,aR.2.2.2.2.2.2.1,aR.2.2.2.2.2.2.2,(aH++([aQ.2.2.1]:List (List UInt8))))) else none
section
variable (O:((List UInt8)×(Int×Unit))) (Z:rJ) (aA:Int) (aB:Int) (aC:qZ) (aD:((List Int)×(Int×Unit))) (aE:Nat) (aF:Nat) (aG:(List UInt8)) (aH:(List UInt8)) (aI:(List UInt8)) (aJ:(List (List UInt8))) (aK:Nat) (aL:(Int×((List pL)×Unit))) (aM:Bool) (aN:Nat) (aO:Nat) (aP:(List ((List UInt8)×Bool))) (aQ:(List (List UInt8))) (aR:Nat) (aS:(List ((List UInt8)×Bool)))
abbrev a3L:List oZ:=[(.val .ref (some (0,0)),none),(.val .ref (some (3,0)),none)]
abbrev a3M:List oX:=[.cells rF (O,(Z,(aA,(aB,(aC,((some 6),aD)))))) [(11,1),(13,2)],.grow 55 7 aE,.grow 3 1 aF,.cells sH ((aG,(aH,(aI,(aJ,((some (7,aK)),aL))))),(aM,((some 8),()))) [(3,4),(6,5)],.grow 9 1 aN,.grow 149 2 aO,.map .str .bool aP,.row 9 .str aQ aR,.map .str .bool aS]
@[go_sem] def a3N:pD:=⟨[aE=(aC.2.2.2.1.length),aF=(aD.1.length),aN=(aJ.length),aO=(aL.2.1.length),aK=aR,((xE O Z aA aB aC aD aG aH aI aJ aL aM aP aQ aS)).isSome=true],[],[.cells rF ((O.1,((val (xE O Z aA aB aC aD aG aH aI aJ aL aM aP aQ aS)).1,())),(((val (xE O Z aA aB aC aD aG aH aI aJ aL aM aP aQ aS)).2.1,((val (xE O Z aA aB aC aD aG aH aI aJ aL aM aP aQ aS)).2.2.1,((val (xE O Z aA aB aC aD aG aH aI aJ aL aM aP aQ aS)).2.2.2.1,((val (xE O Z aA aB aC aD aG aH aI aJ aL aM aP aQ aS)).2.2.2.2.1,())))),((val (xE O Z aA aB aC aD aG aH aI aJ aL aM aP aQ aS)).2.2.2.2.2.1,((val (xE O Z aA aB aC aD aG aH aI aJ aL aM aP aQ aS)).2.2.2.2.2.2.1,((aC.1,(aC.2.1,(aC.2.2.1,(aC.2.2.2.1,())))),((some 6),(aD.1,((val (xE O Z aA aB aC aD aG aH aI aJ aL aM aP aQ aS)).2.2.2.2.2.2.2.1,())))))))) [(11,1),(13,2)],.grow 55 7 (aC.2.2.2.1.length),.grow 3 1 (aD.1.length),.cells sH ((aG,(aH,(aI,((val (xE O Z aA aB aC aD aG aH aI aJ aL aM aP aQ aS)).2.2.2.2.2.2.2.2,((some (7,(aQ.length))),(aL.1,(aL.2.1,()))))))),(aM,((some 8),()))) [(3,4),(6,5)],.grow 9 1 (((val (xE O Z aA aB aC aD aG aH aI aJ aL aM aP aQ aS)).2.2.2.2.2.2.2.2).length),.grow 149 2 (aL.2.1.length),.map .str .bool aP,.row 9 .str aQ (aQ.length),.map .str .bool aS]⟩
def aBr:List oZ→List oX→Option pD:=qM (V:=(((List UInt8)×(Int×Unit))×rJ×Int×Int×qZ×((List Int)×(Int×Unit))×Nat×Nat×(List UInt8)×(List UInt8)×(List UInt8)×(List (List UInt8))×Nat×(Int×((List pL)×Unit))×Bool×Nat×Nat×(List ((List UInt8)×Bool))×(List (List UInt8))×Nat×(List ((List UInt8)×Bool)))) (fun x=>a3L) (fun x=>a3M x.1 x.2.1 x.2.2.1 x.2.2.2.1 x.2.2.2.2.1 x.2.2.2.2.2.1 x.2.2.2.2.2.2.1 x.2.2.2.2.2.2.2.1 x.2.2.2.2.2.2.2.2.1 x.2.2.2.2.2.2.2.2.2.1 x.2.2.2.2.2.2.2.2.2.2.1 x.2.2.2.2.2.2.2.2.2.2.2.1 x.2.2.2.2.2.2.2.2.2.2.2.2.1 x.2.2.2.2.2.2.2.2.2.2.2.2.2.1 x.2.2.2.2.2.2.2.2.2.2.2.2.2.2.1 x.2.2.2.2.2.2.2.2.2.2.2.2.2.2.2.1 x.2.2.2.2.2.2.2.2.2.2.2.2.2.2.2.2.1 x.2.2.2.2.2.2.2.2.2.2.2.2.2.2.2.2.2.1 x.2.2.2.2.2.2.2.2.2.2.2.2.2.2.2.2.2.2.1 x.2.2.2.2.2.2.2.2.2.2.2.2.2.2.2.2.2.2.2.1 x.2.2.2.2.2.2.2.2.2.2.2.2.2.2.2.2.2.2.2.2) fun x=>a3N x.1 x.2.1 x.2.2.1 x.2.2.2.1 x.2.2.2.2.1 x.2.2.2.2.2.1 x.2.2.2.2.2.2.1 x.2.2.2.2.2.2.2.1 x.2.2.2.2.2.2.2.2.1 x.2.2.2.2.2.2.2.2.2.1 x.2.2.2.2.2.2.2.2.2.2.1 x.2.2.2.2.2.2.2.2.2.2.2.1 x.2.2.2.2.2.2.2.2.2.2.2.2.1 x.2.2.2.2.2.2.2.2.2.2.2.2.2.1 x.2.2.2.2.2.2.2.2.2.2.2.2.2.2.1 x.2.2.2.2.2.2.2.2.2.2.2.2.2.2.2.1 x.2.2.2.2.2.2.2.2.2.2.2.2.2.2.2.2.1 x.2.2.2.2.2.2.2.2.2.2.2.2.2.2.2.2.2.1 x.2.2.2.2.2.2.2.2.2.2.2.2.2.2.2.2.2.2.1 x.2.2.2.2.2.2.2.2.2.2.2.2.2.2.2.2.2.2.2.1 x.2.2.2.2.2.2.2.2.2.2.2.2.2.2.2.2.2.2.2.2
@[go_sem] theorem aMw:aBr (no_index a3L) (no_index (a3M O Z aA aB aC aD aE aF aG aH aI aJ aK aL aM aN aO aP aQ aR aS))=some (a3N O Z aA aB aC aD aE aF aG aH aI aJ aK aL aM aN aO aP aQ aR aS):=qQ (fun⟨a0,a1,a2,a3,a4,a5,a6,a7,a8,a9,a10,a11,a12,a13,a14,a15,a16,a17,a18,a19,a20⟩ ⟨b0,b1,b2,b3,b4,b5,b6,b7,b8,b9,b10,b11,b12,b13,b14,rV,b16,b17,b18,b19,b20⟩ h1 h2=>by cases h1;cases h2;rfl) (O,Z,aA,aB,aC,aD,aE,aF,aG,aH,aI,aJ,aK,aL,aM,aN,aO,aP,aQ,aR,aS)
end
@[go_sem] abbrev a3O:Nat×pY:=(213,⟨[.p rF [11,13],.p sH [3,6]],aBr,[(0,12,.m),(3,4,.r),(3,8,.m)],[1,2,5,6,7,8],none⟩)
theorem aBs:qB Tryz.prog [] (pZ [yZ,xD,FB]):=⟨trivial,pK DN (pK CX (pK SP qS)),qD⟩
theorem SR:qB Tryz.prog [zR,CR,B9] (pZ [yZ,xD,FB]):=⟨⟨B8,⟨EX,⟨CQ,trivial⟩⟩⟩,aBs.Γ,qD⟩
theorem aHz:qH Tryz.prog a3O:=by
 refine qR aBs Tryz.func213 (c:=_) rfl (N:=28) (by kernel_rfl) (ts:=[]) rfl (fun _ _=>rfl) ?_;intro⟨O,Z,aA,aB,aC,aD,aE,aF,aG,aH,aI,aJ,aK,aL,aM,aN,aO,aP,aQ,aR,aS⟩ hs hrow;dsimp only[a3L,a3M,a3N,qI,pG,pN,qE,qK,Nat.reduceAdd] at hs hrow⊢;obtain⟨rfl,rfl,rfl,rfl,rfl,hz⟩:=hs;obtain⟨rfl,_⟩:=hrow;obtain⟨z0,hC0⟩:=aMM.1 hz
 try rw[rG hC0]
 clear hz;unfold xE at hC0;refine pX ?_;refine oY SR ?_;obtain⟨y1,hC1,hC0⟩:=pA hC0;refine I1 (fun s=>s=(fun x=>⟨[(0,(.val .ref (some (0,0)),none)),(1,(.val .ref (some (3,0)),none))],[(0,.cells rF ((O.1,(O.2.1,())),((Z.1,(Z.2.1,(Z.2.2.1,(Z.2.2.2.1,())))),(x.1,(x.2,((aC.1,(aC.2.1,(aC.2.2.1,(aC.2.2.2.1,())))),((some 6),(aD.1,(aD.2.1,())))))))) [(11,1),(13,2)]),(1,.grow 55 7 (aC.2.2.2.1.length)),(2,.grow 3 1 (aD.1.length)),(3,.cells sH ((aG,(aH,(aI,(aJ,((some (7,(aQ.length))),(aL.1,(aL.2.1,()))))))),(aM,((some 8),()))) [(3,4),(6,5)]),(4,.grow 9 1 (aJ.length)),(5,.grow 149 2 (aL.2.1.length)),(6,.map .str .bool aP),(7,.row 9 .str aQ (aQ.length)),(8,.map .str .bool aS)],9,28,9⟩) y1) ?_ ?_
 ·refine pP hC1 (fun hC1 hc1=> ?_) (fun hC1 hc1=> ?_)
  ·obtain⟨aT,hw_40,hC1⟩:=vE hC1
   try simp only[go_sem] at hw_40
   refine qY SR ?_ (hp:=by exact⟨by first|rfl|trivial,by first|rfl|trivial,by first|rfl|trivial,by first|rfl|trivial,(by first|rfl|trivial)⟩) (h:=by simp only[go_sem,hw_40];rfl)
   cases hC1;exact AG ⟨⟨[0,1],[(0,0),(1,1),(2,2),(3,3),(4,4),(5,5),(6,6),(7,7),(8,8)]⟩,by rfl⟩
  ·refine qJ ?_;cases hC1;exact AG ⟨⟨[0,1],[(0,0),(1,1),(2,2),(3,3),(4,4),(5,5),(6,6),(7,7),(8,8)]⟩,by rfl⟩
 ·rintro _ rfl;obtain⟨aU,aV⟩:=y1;dsimp only at hC0⊢;refine pM ?_;obtain⟨aW,hv1,hw1,hC0⟩:=pV hC0
  try simp only[go_sem] at hw1
  refine oY SR ?_ (hp:=by exact⟨by first|rfl|trivial,by first|rfl|trivial,by first|rfl|trivial,by first|rfl|trivial,by first|rfl|trivial,(pU hv1)⟩) (h:=by simp only[go_sem,hw1];rfl)
  obtain⟨aX,hv2,hw2,hC0⟩:=pV hC0
  try simp only[go_sem] at hw2
  obtain⟨hg3,hC0⟩:=pJ hC0;refine K2 SR ?_ (hp:=by exact⟨by first|rfl|trivial,by first|rfl|trivial,by first|rfl|trivial,by first|rfl|trivial,by first|rfl|trivial,pU hv2,by first|rfl|trivial,hg3⟩) (h:=by simp only[go_sem,hw2];rfl)
  cases hC0;exact⟨[(0,0),(1,1),(2,2),(3,3),(4,4),(5,5),(6,6),(7,7),(8,8)],by rfl,by rfl,by rfl⟩
attribute [irreducible] xE
def L7 (O:(List UInt8)):Option ((List UInt8)×(List (List UInt8))×(List pL)×(List qT)×Int×Int):=(C1 O).bind fun Z=>some ((Z.1,Z.2.1,Z.2.2.1,Z.2.2.2.1,Z.2.2.2.2.2.1,Z.2.2.2.2.2.2))
attribute [irreducible] L7
end
noncomputable section
def zF (O:((List UInt8)×(Int×Unit))) (Z:rJ) (aA:Int) (aB:Int) (aC:qZ) (aD:((List Int)×(Int×Unit))) (aE:(List UInt8)) (aF:(List UInt8)) (aG:(List UInt8)) (aH:(List (List UInt8))) (aI:(Int×((List pL)×Unit))) (aJ:Bool) (aK:(List ((List UInt8)×Bool))) (aL:(List (List UInt8))) (aM:(List ((List UInt8)×Bool))):Option (Int×Int×(List UInt8)×Int×Int×Int×Int×Int×(List pL)):=(s9 O Z aA aB aC aD aK).bind fun aN=>(AO (O.1,(aN.1,())) (aN.2.1,(aN.2.2.1,(aN.2.2.2.1,(aN.2.2.2.2.1,())))) aA aB (aC.1,(aC.2.1,(aC.2.2.1,(aC.2.2.2.1,())))) (aD.1,(aN.2.2.2.2.2,())) (1:Int) (decide ((aI.2.1.length:Int)=(20:Int))) aK aE aF aG aH aI aJ aL aM).bind fun aO=>(wS (O.1,(aO.1,())) (aO.2.1,(aO.2.2.1,(aO.2.2.2.1,(aO.2.2.2.2.1,())))) aO.2.2.2.2.2.1 aO.2.2.2.2.2.2.1 (aC.1,(aC.2.1,(aC.2.2.1,(aC.2.2.2.1,())))) (aD.1,(aO.2.2.2.2.2.2.2,())) aK).bind fun aP=>(GL aI.2.1 aN.2.2.1 aO.2.2.1).bind fun aQ=>some ((aP.1,aP.2.1,aP.2.2.1,aP.2.2.2.1,aP.2.2.2.2.1,aP.2.2.2.2.2.1,aP.2.2.2.2.2.2.1,aP.2.2.2.2.2.2.2,aQ))
section
variable (O:((List UInt8)×(Int×Unit))) (Z:rJ) (aA:Int) (aB:Int) (aC:qZ) (aD:((List Int)×(Int×Unit))) (aE:Nat) (aF:Nat) (aG:(List UInt8)) (aH:(List UInt8)) (aI:(List UInt8)) (aJ:(List (List UInt8))) (aK:Nat) (aL:(Int×((List pL)×Unit))) (aM:Bool) (aN:Nat) (aO:Nat) (aP:(List ((List UInt8)×Bool))) (aQ:(List (List UInt8))) (aR:Nat) (aS:(List ((List UInt8)×Bool)))
abbrev a3P:List oZ:=[(.val .ref (some (0,0)),none),(.val .ref (some (3,0)),none)]
abbrev a3Q:List oX:=[.cells rF (O,(Z,(aA,(aB,(aC,((some 6),aD)))))) [(11,1),(13,2)],.grow 55 7 aE,.grow 3 1 aF,.cells sH ((aG,(aH,(aI,(aJ,((some (7,aK)),aL))))),(aM,((some 8),()))) [(3,4),(6,5)],.grow 9 1 aN,.grow 149 2 aO,.map .str .bool aP,.row 9 .str aQ aR,.map .str .bool aS]
@[go_sem] def a3R:pD:=⟨[aE=(aC.2.2.2.1.length),aF=(aD.1.length),aN=(aJ.length),aO=(aL.2.1.length),aK=aR,((zF O Z aA aB aC aD aG aH aI aJ aL aM aP aQ aS)).isSome=true],[],[.cells rF ((O.1,((val (zF O Z aA aB aC aD aG aH aI aJ aL aM aP aQ aS)).1,())),(((val (zF O Z aA aB aC aD aG aH aI aJ aL aM aP aQ aS)).2.1,((val (zF O Z aA aB aC aD aG aH aI aJ aL aM aP aQ aS)).2.2.1,((val (zF O Z aA aB aC aD aG aH aI aJ aL aM aP aQ aS)).2.2.2.1,((val (zF O Z aA aB aC aD aG aH aI aJ aL aM aP aQ aS)).2.2.2.2.1,())))),((val (zF O Z aA aB aC aD aG aH aI aJ aL aM aP aQ aS)).2.2.2.2.2.1,((val (zF O Z aA aB aC aD aG aH aI aJ aL aM aP aQ aS)).2.2.2.2.2.2.1,((aC.1,(aC.2.1,(aC.2.2.1,(aC.2.2.2.1,())))),((some 6),(aD.1,((val (zF O Z aA aB aC aD aG aH aI aJ aL aM aP aQ aS)).2.2.2.2.2.2.2.1,())))))))) [(11,1),(13,2)],.grow 55 7 (aC.2.2.2.1.length),.grow 3 1 (aD.1.length),.cells sH ((aG,(aH,(aI,(aJ,((some (7,(aQ.length))),(aL.1,((val (zF O Z aA aB aC aD aG aH aI aJ aL aM aP aQ aS)).2.2.2.2.2.2.2.2,()))))))),(aM,((some 8),()))) [(3,4),(6,9)],.grow 9 1 (aJ.length),.grow 149 2 (aL.2.1.length),.map .str .bool aP,.row 9 .str aQ (aQ.length),.map .str .bool aS,.grow 149 2 (((val (zF O Z aA aB aC aD aG aH aI aJ aL aM aP aQ aS)).2.2.2.2.2.2.2.2).length)]⟩
def aBt:List oZ→List oX→Option pD:=qM (V:=(((List UInt8)×(Int×Unit))×rJ×Int×Int×qZ×((List Int)×(Int×Unit))×Nat×Nat×(List UInt8)×(List UInt8)×(List UInt8)×(List (List UInt8))×Nat×(Int×((List pL)×Unit))×Bool×Nat×Nat×(List ((List UInt8)×Bool))×(List (List UInt8))×Nat×(List ((List UInt8)×Bool)))) (fun x=>a3P) (fun x=>a3Q x.1 x.2.1 x.2.2.1 x.2.2.2.1 x.2.2.2.2.1 x.2.2.2.2.2.1 x.2.2.2.2.2.2.1 x.2.2.2.2.2.2.2.1 x.2.2.2.2.2.2.2.2.1 x.2.2.2.2.2.2.2.2.2.1 x.2.2.2.2.2.2.2.2.2.2.1 x.2.2.2.2.2.2.2.2.2.2.2.1 x.2.2.2.2.2.2.2.2.2.2.2.2.1 x.2.2.2.2.2.2.2.2.2.2.2.2.2.1 x.2.2.2.2.2.2.2.2.2.2.2.2.2.2.1 x.2.2.2.2.2.2.2.2.2.2.2.2.2.2.2.1 x.2.2.2.2.2.2.2.2.2.2.2.2.2.2.2.2.1 x.2.2.2.2.2.2.2.2.2.2.2.2.2.2.2.2.2.1 x.2.2.2.2.2.2.2.2.2.2.2.2.2.2.2.2.2.2.1 x.2.2.2.2.2.2.2.2.2.2.2.2.2.2.2.2.2.2.2.1 x.2.2.2.2.2.2.2.2.2.2.2.2.2.2.2.2.2.2.2.2) fun x=>a3R x.1 x.2.1 x.2.2.1 x.2.2.2.1 x.2.2.2.2.1 x.2.2.2.2.2.1 x.2.2.2.2.2.2.1 x.2.2.2.2.2.2.2.1 x.2.2.2.2.2.2.2.2.1 x.2.2.2.2.2.2.2.2.2.1 x.2.2.2.2.2.2.2.2.2.2.1 x.2.2.2.2.2.2.2.2.2.2.2.1 x.2.2.2.2.2.2.2.2.2.2.2.2.1 x.2.2.2.2.2.2.2.2.2.2.2.2.2.1 x.2.2.2.2.2.2.2.2.2.2.2.2.2.2.1 x.2.2.2.2.2.2.2.2.2.2.2.2.2.2.2.1 x.2.2.2.2.2.2.2.2.2.2.2.2.2.2.2.2.1 x.2.2.2.2.2.2.2.2.2.2.2.2.2.2.2.2.2.1 x.2.2.2.2.2.2.2.2.2.2.2.2.2.2.2.2.2.2.1 x.2.2.2.2.2.2.2.2.2.2.2.2.2.2.2.2.2.2.2.1 x.2.2.2.2.2.2.2.2.2.2.2.2.2.2.2.2.2.2.2.2
@[go_sem] theorem aMx:aBt (no_index a3P) (no_index (a3Q O Z aA aB aC aD aE aF aG aH aI aJ aK aL aM aN aO aP aQ aR aS))=some (a3R O Z aA aB aC aD aE aF aG aH aI aJ aK aL aM aN aO aP aQ aR aS):=qQ (fun⟨a0,a1,a2,a3,a4,a5,a6,a7,a8,a9,a10,a11,a12,a13,a14,a15,a16,a17,a18,a19,a20⟩ ⟨b0,b1,b2,b3,b4,b5,b6,b7,b8,b9,b10,b11,b12,b13,b14,rV,b16,b17,b18,b19,b20⟩ h1 h2=>by cases h1;cases h2;rfl) (O,Z,aA,aB,aC,aD,aE,aF,aG,aH,aI,aJ,aK,aL,aM,aN,aO,aP,aQ,aR,aS)
end
@[go_sem] abbrev a3S:Nat×pY:=(214,⟨[.p rF [11,13],.p sH [3,6]],aBt,[(0,12,.m),(3,4,.r),(3,8,.m)],[1,2,4,5,6,7,8],none⟩)
theorem aBu:qB Tryz.prog [] (pZ [xD,a3q,FB,a2m]):=⟨trivial,pK CX (pK aHu (pK SP (pK aHg qS))),qD⟩
theorem O0:qB Tryz.prog [CP,CR,KD,B9] (pZ [xD,a3q,FB,a2m]):=⟨⟨EU,⟨EX,⟨RO,⟨CQ,trivial⟩⟩⟩⟩,aBu.Γ,qD⟩
theorem aHA:qH Tryz.prog a3S:=by
 refine qR aBu Tryz.func214 (c:=_) rfl (N:=32) (by kernel_rfl) (ts:=[]) rfl (fun _ _=>rfl) ?_;intro⟨O,Z,aA,aB,aC,aD,aE,aF,aG,aH,aI,aJ,aK,aL,aM,aN,aO,aP,aQ,aR,aS⟩ hs hrow;dsimp only[a3P,a3Q,a3R,qI,pG,pN,qE,qK,Nat.reduceAdd] at hs hrow⊢;obtain⟨rfl,rfl,rfl,rfl,rfl,hz⟩:=hs;obtain⟨rfl,_⟩:=hrow;obtain⟨z0,hC0⟩:=aMM.1 hz
 try rw[rG hC0]
 clear hz;unfold zF at hC0;refine oY O0 ?_;obtain⟨aT,hv1,hw1,hC0⟩:=pV hC0
 try simp only[go_sem] at hw1
 refine oY O0 ?_ (hp:=by exact⟨by first|rfl|trivial,by first|rfl|trivial,by first|rfl|trivial,by first|rfl|trivial,by first|rfl|trivial,(pU hv1)⟩) (h:=by simp only[go_sem,hw1];rfl)
 refine oY O0 ?_;obtain⟨aU,hv2,hw2,hC0⟩:=pV hC0
 try simp only[go_sem] at hw2
 refine oY O0 ?_ (hp:=by exact⟨by first|rfl|trivial,by first|rfl|trivial,by first|rfl|trivial,by first|rfl|trivial,by first|rfl|trivial,by first|rfl|trivial,by first|rfl|trivial,by first|rfl|trivial,by first|rfl|trivial,by first|rfl|trivial,by first|rfl|trivial,by first|rfl|trivial,by first|rfl|trivial,by first|rfl|trivial,(pU hv2)⟩) (h:=by simp only[go_sem,hw2];rfl)
 obtain⟨aV,hv3,hw3,hC0⟩:=pV hC0
 try simp only[go_sem] at hw3
 obtain⟨aW,hv4,hw4,hC0⟩:=pV hC0
 try simp only[go_sem] at hw4
 refine K2 O0 ?_ (hp:=by exact⟨by first|rfl|trivial,by first|rfl|trivial,by first|rfl|trivial,by first|rfl|trivial,by first|rfl|trivial,pU hv3,(pU hv4)⟩) (h:=by simp only[go_sem,hw3,hw4];rfl)
 cases hC0;exact⟨[(0,0),(1,1),(2,2),(3,3),(4,4),(5,5),(6,6),(7,7),(8,8),(9,809)],by rfl,by rfl,by rfl⟩
attribute [irreducible] zF
def zU (O:((List UInt8)×(Int×Unit))) (Z:rJ) (aA:Int) (aB:Int) (aC:qZ) (aD:((List Int)×(Int×Unit))) (aE:(List UInt8)) (aF:(List UInt8)) (aG:(List UInt8)) (aH:(List (List UInt8))) (aI:(Int×((List pL)×Unit))) (aJ:Bool) (aK:(List ((List UInt8)×Bool))) (aL:(List (List UInt8))) (aM:(List ((List UInt8)×Bool))):Option (Int×Int×(List UInt8)×Int×Int×Int×Int×Int×(List UInt8)):=(z6 O Z aA aB aC aD aE aF aG aH aI aJ aK aL aM).bind fun aN=>(wS (O.1,(aN.1,())) (aN.2.1,(aN.2.2.1,(aN.2.2.2.1,(aN.2.2.2.2.1,())))) aN.2.2.2.2.2.1 aN.2.2.2.2.2.2.1 (aC.1,(aC.2.1,(aC.2.2.1,(aC.2.2.2.1,())))) (aD.1,(aN.2.2.2.2.2.2.2,())) aK).bind fun aO=>some ((aO.1,aO.2.1,aO.2.2.1,aO.2.2.2.1,aO.2.2.2.2.1,aO.2.2.2.2.2.1,aO.2.2.2.2.2.2.1,aO.2.2.2.2.2.2.2,aN.2.2.1))
section
variable (O:((List UInt8)×(Int×Unit))) (Z:rJ) (aA:Int) (aB:Int) (aC:qZ) (aD:((List Int)×(Int×Unit))) (aE:Nat) (aF:Nat) (aG:(List UInt8)) (aH:(List UInt8)) (aI:(List UInt8)) (aJ:(List (List UInt8))) (aK:Nat) (aL:(Int×((List pL)×Unit))) (aM:Bool) (aN:Nat) (aO:Nat) (aP:(List ((List UInt8)×Bool))) (aQ:(List (List UInt8))) (aR:Nat) (aS:(List ((List UInt8)×Bool)))
abbrev a3T:List oZ:=[(.val .ref (some (0,0)),none),(.val .ref (some (3,0)),none)]
abbrev a3U:List oX:=[.cells rF (O,(Z,(aA,(aB,(aC,((some 6),aD)))))) [(11,1),(13,2)],.grow 55 7 aE,.grow 3 1 aF,.cells sH ((aG,(aH,(aI,(aJ,((some (7,aK)),aL))))),(aM,((some 8),()))) [(3,4),(6,5)],.grow 9 1 aN,.grow 149 2 aO,.map .str .bool aP,.row 9 .str aQ aR,.map .str .bool aS]
@[go_sem] def a3V:pD:=⟨[aE=(aC.2.2.2.1.length),aF=(aD.1.length),aN=(aJ.length),aO=(aL.2.1.length),aK=aR,((zU O Z aA aB aC aD aG aH aI aJ aL aM aP aQ aS)).isSome=true],[],[.cells rF ((O.1,((val (zU O Z aA aB aC aD aG aH aI aJ aL aM aP aQ aS)).1,())),(((val (zU O Z aA aB aC aD aG aH aI aJ aL aM aP aQ aS)).2.1,((val (zU O Z aA aB aC aD aG aH aI aJ aL aM aP aQ aS)).2.2.1,((val (zU O Z aA aB aC aD aG aH aI aJ aL aM aP aQ aS)).2.2.2.1,((val (zU O Z aA aB aC aD aG aH aI aJ aL aM aP aQ aS)).2.2.2.2.1,())))),((val (zU O Z aA aB aC aD aG aH aI aJ aL aM aP aQ aS)).2.2.2.2.2.1,((val (zU O Z aA aB aC aD aG aH aI aJ aL aM aP aQ aS)).2.2.2.2.2.2.1,((aC.1,(aC.2.1,(aC.2.2.1,(aC.2.2.2.1,())))),((some 6),(aD.1,((val (zU O Z aA aB aC aD aG aH aI aJ aL aM aP aQ aS)).2.2.2.2.2.2.2.1,())))))))) [(11,1),(13,2)],.grow 55 7 (aC.2.2.2.1.length),.grow 3 1 (aD.1.length),.cells sH ((aG,((val (zU O Z aA aB aC aD aG aH aI aJ aL aM aP aQ aS)).2.2.2.2.2.2.2.2,(aI,(aJ,((some (7,(aQ.length))),(aL.1,(aL.2.1,()))))))),(aM,((some 8),()))) [(3,4),(6,5)],.grow 9 1 (aJ.length),.grow 149 2 (aL.2.1.length),.map .str .bool aP,.row 9 .str aQ (aQ.length),.map .str .bool (sI .str .bool Z.2.1 true aS)]⟩
def aBv:List oZ→List oX→Option pD:=qM (V:=(((List UInt8)×(Int×Unit))×rJ×Int×Int×qZ×((List Int)×(Int×Unit))×Nat×Nat×(List UInt8)×(List UInt8)×(List UInt8)×(List (List UInt8))×Nat×(Int×((List pL)×Unit))×Bool×Nat×Nat×(List ((List UInt8)×Bool))×(List (List UInt8))×Nat×(List ((List UInt8)×Bool)))) (fun x=>a3T) (fun x=>a3U x.1 x.2.1 x.2.2.1 x.2.2.2.1 x.2.2.2.2.1 x.2.2.2.2.2.1 x.2.2.2.2.2.2.1 x.2.2.2.2.2.2.2.1 x.2.2.2.2.2.2.2.2.1 x.2.2.2.2.2.2.2.2.2.1 x.2.2.2.2.2.2.2.2.2.2.1 x.2.2.2.2.2.2.2.2.2.2.2.1 x.2.2.2.2.2.2.2.2.2.2.2.2.1 x.2.2.2.2.2.2.2.2.2.2.2.2.2.1 x.2.2.2.2.2.2.2.2.2.2.2.2.2.2.1 x.2.2.2.2.2.2.2.2.2.2.2.2.2.2.2.1 x.2.2.2.2.2.2.2.2.2.2.2.2.2.2.2.2.1 x.2.2.2.2.2.2.2.2.2.2.2.2.2.2.2.2.2.1 x.2.2.2.2.2.2.2.2.2.2.2.2.2.2.2.2.2.2.1 x.2.2.2.2.2.2.2.2.2.2.2.2.2.2.2.2.2.2.2.1 x.2.2.2.2.2.2.2.2.2.2.2.2.2.2.2.2.2.2.2.2) fun x=>a3V x.1 x.2.1 x.2.2.1 x.2.2.2.1 x.2.2.2.2.1 x.2.2.2.2.2.1 x.2.2.2.2.2.2.1 x.2.2.2.2.2.2.2.1 x.2.2.2.2.2.2.2.2.1 x.2.2.2.2.2.2.2.2.2.1 x.2.2.2.2.2.2.2.2.2.2.1 x.2.2.2.2.2.2.2.2.2.2.2.1 x.2.2.2.2.2.2.2.2.2.2.2.2.1 x.2.2.2.2.2.2.2.2.2.2.2.2.2.1 x.2.2.2.2.2.2.2.2.2.2.2.2.2.2.1 x.2.2.2.2.2.2.2.2.2.2.2.2.2.2.2.1 x.2.2.2.2.2.2.2.2.2.2.2.2.2.2.2.2.1 x.2.2.2.2.2.2.2.2.2.2.2.2.2.2.2.2.2.1 x.2.2.2.2.2.2.2.2.2.2.2.2.2.2.2.2.2.2.1 x.2.2.2.2.2.2.2.2.2.2.2.2.2.2.2.2.2.2.2.1 x.2.2.2.2.2.2.2.2.2.2.2.2.2.2.2.2.2.2.2.2
@[go_sem] theorem aMy:aBv (no_index a3T) (no_index (a3U O Z aA aB aC aD aE aF aG aH aI aJ aK aL aM aN aO aP aQ aR aS))=some (a3V O Z aA aB aC aD aE aF aG aH aI aJ aK aL aM aN aO aP aQ aR aS):=qQ (fun⟨a0,a1,a2,a3,a4,a5,a6,a7,a8,a9,a10,a11,a12,a13,a14,a15,a16,a17,a18,a19,a20⟩ ⟨b0,b1,b2,b3,b4,b5,b6,b7,b8,b9,b10,b11,b12,b13,b14,rV,b16,b17,b18,b19,b20⟩ h1 h2=>by cases h1;cases h2;rfl) (O,Z,aA,aB,aC,aD,aE,aF,aG,aH,aI,aJ,aK,aL,aM,aN,aO,aP,aQ,aR,aS)
end
@[go_sem] abbrev a3W:Nat×pY:=(215,⟨[.p rF [11,13],.p sH [3,6]],aBv,[(0,12,.m),(3,4,.r),(3,8,.m)],[1,2,4,5,6,7],none⟩)
theorem aBw:qB Tryz.prog [] (pZ [IM,FB]):=⟨trivial,pK a28 (pK SP qS),qD⟩
theorem aBx:qB Tryz.prog [s7,CR,B9] (pZ [IM,FB]):=⟨⟨sB,⟨EX,⟨CQ,trivial⟩⟩⟩,aBw.Γ,qD⟩
theorem aHB:qH Tryz.prog a3W:=by
 refine qR aBw Tryz.func215 (c:=_) rfl (N:=13) (by kernel_rfl) (ts:=[]) rfl (fun _ _=>rfl) ?_;intro⟨O,Z,aA,aB,aC,aD,aE,aF,aG,aH,aI,aJ,aK,aL,aM,aN,aO,aP,aQ,aR,aS⟩ hs hrow;dsimp only[a3T,a3U,a3V,qI,pG,pN,qE,qK,Nat.reduceAdd] at hs hrow⊢;obtain⟨rfl,rfl,rfl,rfl,rfl,hz⟩:=hs;obtain⟨rfl,_⟩:=hrow;obtain⟨z0,hC0⟩:=aMM.1 hz
 try rw[rG hC0]
 clear hz;unfold zU at hC0;obtain⟨aT,hv1,hw1,hC0⟩:=pV hC0
 try simp only[go_sem] at hw1
 refine oY aBx ?_ (hp:=by exact⟨by first|rfl|trivial,by first|rfl|trivial,by first|rfl|trivial,by first|rfl|trivial,by first|rfl|trivial,by first|rfl|trivial,by first|rfl|trivial,by first|rfl|trivial,by first|rfl|trivial,by first|rfl|trivial,by first|rfl|trivial,by first|rfl|trivial,(pU hv1)⟩) (h:=by simp only[go_sem,hw1];rfl)
 obtain⟨aU,hv2,hw2,hC0⟩:=pV hC0
 try simp only[go_sem] at hw2
 refine qY aBx ?_ (hp:=by exact⟨by first|rfl|trivial,by first|rfl|trivial,by first|rfl|trivial,by first|rfl|trivial,by first|rfl|trivial,(pU hv2)⟩) (h:=by simp only[go_sem,hw2];rfl)
 cases hC0;exact⟨[(0,0),(1,1),(2,2),(3,3),(4,4),(5,5),(6,6),(7,7),(8,8)],by rfl,by rfl,by rfl⟩
attribute [irreducible] zU
end
noncomputable section
def zV (O:((List UInt8)×(Int×Unit))) (Z:rJ) (aA:Int) (aB:Int) (aC:qZ) (aD:((List Int)×(Int×Unit))) (aE:(List UInt8)) (aF:(List UInt8)) (aG:(List UInt8)) (aH:(List (List UInt8))) (aI:(Int×((List pL)×Unit))) (aJ:Bool) (aK:(List ((List UInt8)×Bool))) (aL:(List (List UInt8))) (aM:(List ((List UInt8)×Bool))):Option (Int×Int×(List UInt8)×Int×Int×Int×Int×Int×(List UInt8)):=(z6 O Z aA aB aC aD aE aF aG aH aI aJ aK aL aM).bind fun aN=>(wS (O.1,(aN.1,())) (aN.2.1,(aN.2.2.1,(aN.2.2.2.1,(aN.2.2.2.2.1,())))) aN.2.2.2.2.2.1 aN.2.2.2.2.2.2.1 (aC.1,(aC.2.1,(aC.2.2.1,(aC.2.2.2.1,())))) (aD.1,(aN.2.2.2.2.2.2.2,())) aK).bind fun aO=>some ((aO.1,aO.2.1,aO.2.2.1,aO.2.2.2.1,aO.2.2.2.2.1,aO.2.2.2.2.2.1,aO.2.2.2.2.2.2.1,aO.2.2.2.2.2.2.2,aN.2.2.1))
section
variable (O:((List UInt8)×(Int×Unit))) (Z:rJ) (aA:Int) (aB:Int) (aC:qZ) (aD:((List Int)×(Int×Unit))) (aE:Nat) (aF:Nat) (aG:(List UInt8)) (aH:(List UInt8)) (aI:(List UInt8)) (aJ:(List (List UInt8))) (aK:Nat) (aL:(Int×((List pL)×Unit))) (aM:Bool) (aN:Nat) (aO:Nat) (aP:(List ((List UInt8)×Bool))) (aQ:(List (List UInt8))) (aR:Nat) (aS:(List ((List UInt8)×Bool)))
abbrev a3X:List oZ:=[(.val .ref (some (0,0)),none),(.val .ref (some (3,0)),none)]
abbrev a3Y:List oX:=[.cells rF (O,(Z,(aA,(aB,(aC,((some 6),aD)))))) [(11,1),(13,2)],.grow 55 7 aE,.grow 3 1 aF,.cells sH ((aG,(aH,(aI,(aJ,((some (7,aK)),aL))))),(aM,((some 8),()))) [(3,4),(6,5)],.grow 9 1 aN,.grow 149 2 aO,.map .str .bool aP,.row 9 .str aQ aR,.map .str .bool aS]
@[go_sem] def a3Z:pD:=⟨[aE=(aC.2.2.2.1.length),aF=(aD.1.length),aN=(aJ.length),aO=(aL.2.1.length),aK=aR,((zV O Z aA aB aC aD aG aH aI aJ aL aM aP aQ aS)).isSome=true],[],[.cells rF ((O.1,((val (zV O Z aA aB aC aD aG aH aI aJ aL aM aP aQ aS)).1,())),(((val (zV O Z aA aB aC aD aG aH aI aJ aL aM aP aQ aS)).2.1,((val (zV O Z aA aB aC aD aG aH aI aJ aL aM aP aQ aS)).2.2.1,((val (zV O Z aA aB aC aD aG aH aI aJ aL aM aP aQ aS)).2.2.2.1,((val (zV O Z aA aB aC aD aG aH aI aJ aL aM aP aQ aS)).2.2.2.2.1,())))),((val (zV O Z aA aB aC aD aG aH aI aJ aL aM aP aQ aS)).2.2.2.2.2.1,((val (zV O Z aA aB aC aD aG aH aI aJ aL aM aP aQ aS)).2.2.2.2.2.2.1,((aC.1,(aC.2.1,(aC.2.2.1,(aC.2.2.2.1,())))),((some 6),(aD.1,((val (zV O Z aA aB aC aD aG aH aI aJ aL aM aP aQ aS)).2.2.2.2.2.2.2.1,())))))))) [(11,1),(13,2)],.grow 55 7 (aC.2.2.2.1.length),.grow 3 1 (aD.1.length),.cells sH ((aG,(aH,((val (zV O Z aA aB aC aD aG aH aI aJ aL aM aP aQ aS)).2.2.2.2.2.2.2.2,(aJ,((some (7,(aQ.length))),(aL.1,(aL.2.1,()))))))),(aM,((some 8),()))) [(3,4),(6,5)],.grow 9 1 (aJ.length),.grow 149 2 (aL.2.1.length),.map .str .bool aP,.row 9 .str aQ (aQ.length),.map .str .bool (sI .str .bool Z.2.1 true aS)]⟩
def aBy:List oZ→List oX→Option pD:=qM (V:=(((List UInt8)×(Int×Unit))×rJ×Int×Int×qZ×((List Int)×(Int×Unit))×Nat×Nat×(List UInt8)×(List UInt8)×(List UInt8)×(List (List UInt8))×Nat×(Int×((List pL)×Unit))×Bool×Nat×Nat×(List ((List UInt8)×Bool))×(List (List UInt8))×Nat×(List ((List UInt8)×Bool)))) (fun x=>a3X) (fun x=>a3Y x.1 x.2.1 x.2.2.1 x.2.2.2.1 x.2.2.2.2.1 x.2.2.2.2.2.1 x.2.2.2.2.2.2.1 x.2.2.2.2.2.2.2.1 x.2.2.2.2.2.2.2.2.1 x.2.2.2.2.2.2.2.2.2.1 x.2.2.2.2.2.2.2.2.2.2.1 x.2.2.2.2.2.2.2.2.2.2.2.1 x.2.2.2.2.2.2.2.2.2.2.2.2.1 x.2.2.2.2.2.2.2.2.2.2.2.2.2.1 x.2.2.2.2.2.2.2.2.2.2.2.2.2.2.1 x.2.2.2.2.2.2.2.2.2.2.2.2.2.2.2.1 x.2.2.2.2.2.2.2.2.2.2.2.2.2.2.2.2.1 x.2.2.2.2.2.2.2.2.2.2.2.2.2.2.2.2.2.1 x.2.2.2.2.2.2.2.2.2.2.2.2.2.2.2.2.2.2.1 x.2.2.2.2.2.2.2.2.2.2.2.2.2.2.2.2.2.2.2.1 x.2.2.2.2.2.2.2.2.2.2.2.2.2.2.2.2.2.2.2.2) fun x=>a3Z x.1 x.2.1 x.2.2.1 x.2.2.2.1 x.2.2.2.2.1 x.2.2.2.2.2.1 x.2.2.2.2.2.2.1 x.2.2.2.2.2.2.2.1 x.2.2.2.2.2.2.2.2.1 x.2.2.2.2.2.2.2.2.2.1 x.2.2.2.2.2.2.2.2.2.2.1 x.2.2.2.2.2.2.2.2.2.2.2.1 x.2.2.2.2.2.2.2.2.2.2.2.2.1 x.2.2.2.2.2.2.2.2.2.2.2.2.2.1 x.2.2.2.2.2.2.2.2.2.2.2.2.2.2.1 x.2.2.2.2.2.2.2.2.2.2.2.2.2.2.2.1 x.2.2.2.2.2.2.2.2.2.2.2.2.2.2.2.2.1 x.2.2.2.2.2.2.2.2.2.2.2.2.2.2.2.2.2.1 x.2.2.2.2.2.2.2.2.2.2.2.2.2.2.2.2.2.2.1 x.2.2.2.2.2.2.2.2.2.2.2.2.2.2.2.2.2.2.2.1 x.2.2.2.2.2.2.2.2.2.2.2.2.2.2.2.2.2.2.2.2
@[go_sem] theorem aMz:aBy (no_index a3X) (no_index (a3Y O Z aA aB aC aD aE aF aG aH aI aJ aK aL aM aN aO aP aQ aR aS))=some (a3Z O Z aA aB aC aD aE aF aG aH aI aJ aK aL aM aN aO aP aQ aR aS):=qQ (fun⟨a0,a1,a2,a3,a4,a5,a6,a7,a8,a9,a10,a11,a12,a13,a14,a15,a16,a17,a18,a19,a20⟩ ⟨b0,b1,b2,b3,b4,b5,b6,b7,b8,b9,b10,b11,b12,b13,b14,rV,b16,b17,b18,b19,b20⟩ h1 h2=>by cases h1;cases h2;rfl) (O,Z,aA,aB,aC,aD,aE,aF,aG,aH,aI,aJ,aK,aL,aM,aN,aO,aP,aQ,aR,aS)
end
@[go_sem] abbrev a30:Nat×pY:=(216,⟨[.p rF [11,13],.p sH [3,6]],aBy,[(0,12,.m),(3,4,.r),(3,8,.m)],[1,2,4,5,6,7],none⟩)
theorem aBz:qB Tryz.prog [] (pZ [IM,FB]):=⟨trivial,pK a28 (pK SP qS),qD⟩
theorem aBA:qB Tryz.prog [s7,CR,B9] (pZ [IM,FB]):=⟨⟨sB,⟨EX,⟨CQ,trivial⟩⟩⟩,aBz.Γ,qD⟩
theorem aHC:qH Tryz.prog a30:=by
 refine qR aBz Tryz.func216 (c:=_) rfl (N:=13) (by kernel_rfl) (ts:=[]) rfl (fun _ _=>rfl) ?_;intro⟨O,Z,aA,aB,aC,aD,aE,aF,aG,aH,aI,aJ,aK,aL,aM,aN,aO,aP,aQ,aR,aS⟩ hs hrow;dsimp only[a3X,a3Y,a3Z,qI,pG,pN,qE,qK,Nat.reduceAdd] at hs hrow⊢;obtain⟨rfl,rfl,rfl,rfl,rfl,hz⟩:=hs;obtain⟨rfl,_⟩:=hrow;obtain⟨z0,hC0⟩:=aMM.1 hz
 try rw[rG hC0]
 clear hz;unfold zV at hC0;obtain⟨aT,hv1,hw1,hC0⟩:=pV hC0
 try simp only[go_sem] at hw1
 refine oY aBA ?_ (hp:=by exact⟨by first|rfl|trivial,by first|rfl|trivial,by first|rfl|trivial,by first|rfl|trivial,by first|rfl|trivial,by first|rfl|trivial,by first|rfl|trivial,by first|rfl|trivial,by first|rfl|trivial,by first|rfl|trivial,by first|rfl|trivial,by first|rfl|trivial,(pU hv1)⟩) (h:=by simp only[go_sem,hw1];rfl)
 obtain⟨aU,hv2,hw2,hC0⟩:=pV hC0
 try simp only[go_sem] at hw2
 refine qY aBA ?_ (hp:=by exact⟨by first|rfl|trivial,by first|rfl|trivial,by first|rfl|trivial,by first|rfl|trivial,by first|rfl|trivial,(pU hv2)⟩) (h:=by simp only[go_sem,hw2];rfl)
 cases hC0;exact⟨[(0,0),(1,1),(2,2),(3,3),(4,4),(5,5),(6,6),(7,7),(8,8)],by rfl,by rfl,by rfl⟩
attribute [irreducible] zV
end
noncomputable section
def v8 (O:((List UInt8)×(Int×Unit))) (Z:qZ) (aA:((List Int)×(Int×Unit))) (aB:Bool) (aC:(List ((List UInt8)×Bool))):(Int×Int×(List UInt8)×Int×Int×Int×Int×Int×(List UInt8)×(List UInt8)×(List (List UInt8))×Int×(List pL)×(List (List UInt8))×(List ((List UInt8)×Bool)))→Option ((Int×Int×(List UInt8)×Int×Int×Int×Int×Int×(List UInt8)×(List UInt8)×(List (List UInt8))×Int×(List pL)×(List (List UInt8))×(List ((List UInt8)×Bool)))⊕(Int×Int×(List UInt8)×Int×Int×Int×Int×Int×(List UInt8)×(List UInt8)×(List (List UInt8))×Int×(List pL)×(List (List UInt8))×(List ((List UInt8)×Bool)))):=fun(aD,aE,aF,aG,aH,aI,aJ,aK,aL,aM,aN,aO,aP,aQ,aR)=>if ((decide (aJ=(0:Int)))&&(decide (aE=(2:Int))))=true then if (!(w9 .str .fn (vZ ([]:List UInt8) aL aM aN (aO,(aP,())) aB aQ aR) aF))=true then qW (tP (O.1,(aD,())) (aE,(aF,(aG,(aH,())))) aI aJ (Z.1,(Z.2.1,(Z.2.2.1,(Z.2.2.2.1,())))) (aA.1,(aK,())) (3:Int) aC) fun aS=>some (.inr (aD,aE,aF,aG,aH,aS.1,aS.2,aK,aL,aM,aN,aO,aP,aQ,aR)) else qW (rM .str .fn (vZ ([]:List UInt8) aL aM aN (aO,(aP,())) aB aQ aR) aF) fun aT=>if aT=some 213 then (xE (O.1,(aD,())) (aE,(aF,(aG,(aH,())))) aI aJ (Z.1,(Z.2.1,(Z.2.2.1,(Z.2.2.2.1,())))) (aA.1,(aK,())) ([]:List UInt8) aL aM aN (aO,(aP,())) aB aC aQ aR).bind fun aU=>some (.inl (aU.1,aU.2.1,aU.2.2.1,aU.2.2.2.1,aU.2.2.2.2.1,aU.2.2.2.2.2.1,aU.2.2.2.2.2.2.1,aU.2.2.2.2.2.2.2.1,aL,aM,aU.2.2.2.2.2.2.2.2,aO,aP,aQ,aR)) else if aT=some 214 then (zF (O.1,(aD,())) (aE,(aF,(aG,(aH,())))) aI aJ (Z.1,(Z.2.1,(Z.2.2.1,(Z.2.2.2.1,())))) (aA.1,(aK,())) ([]:List UInt8) aL aM aN (aO,(aP,())) aB aC aQ aR).bind fun aV=>some (.inl (aV.1,aV.2.1,aV.2.2.1,aV.2.2.2.1,aV.2.2.2.2.1,aV.2.2.2.2.2.1,aV.2.2.2.2.2.2.1,aV.2.2.2.2.2.2.2.1,aL,aM,aN,aO,aV.2.2.2.2.2.2.2.2,aQ,aR)) else if aT=some 215 then (zU (O.1,(aD,())) (aE,(aF,(aG,(aH,())))) aI aJ (Z.1,(Z.2.1,(Z.2.2.1,(Z.2.2.2.1,())))) (aA.1,(aK,())) ([]:List UInt8) aL aM aN (aO,(aP,())) aB aC aQ aR).bind fun aW=>some (.inl (aW.1,aW.2.1,aW.2.2.1,aW.2.2.2.1,aW.2.2.2.2.1,aW.2.2.2.2.2.1,aW.2.2.2.2.2.2.1,aW.2.2.2.2.2.2.2.1,aW.2.2.2.2.2.2.2.2,aM,aN,aO,aP,aQ,(sI .str .bool aF true aR))) else if aT=some 216 then (zV (O.1,(aD,())) (aE,(aF,(aG,(aH,())))) aI aJ (Z.1,(Z.2.1,(Z.2.2.1,(Z.2.2.2.1,())))) (aA.1,(aK,())) ([]:List UInt8) aL aM aN (aO,(aP,())) aB aC aQ aR).bind fun aX=>some (.inl (aX.1,aX.2.1,aX.2.2.1,aX.2.2.2.1,aX.2.2.2.2.1,aX.2.2.2.2.2.1,aX.2.2.2.2.2.2.1,aX.2.2.2.2.2.2.2.1,aL,aX.2.2.2.2.2.2.2.2,aN,aO,aP,aQ,(sI .str .bool aF true aR))) else if aT=some 217 then (zT (O.1,(aD,())) (aE,(aF,(aG,(aH,())))) aI aJ (Z.1,(Z.2.1,(Z.2.2.1,(Z.2.2.2.1,())))) (aA.1,(aK,())) ([]:List UInt8) aL aM aN (aO,(aP,())) aB aC aQ aR).bind fun aY=>some (.inl (aY.1,aY.2.1,aY.2.2.1,aY.2.2.2.1,aY.2.2.2.2.1,aY.2.2.2.2.2.1,aY.2.2.2.2.2.2.1,aY.2.2.2.2.2.2.2.1,aL,aM,aN,aY.2.2.2.2.2.2.2.2,aP,aQ,(sI .str .bool aF true aR))) else if aT=some 218 then (y9 (O.1,(aD,())) (aE,(aF,(aG,(aH,())))) aI aJ (Z.1,(Z.2.1,(Z.2.2.1,(Z.2.2.2.1,())))) (aA.1,(aK,())) ([]:List UInt8) aL aM aN (aO,(aP,())) aB aC aQ aR).bind fun aZ=>some (.inl (aZ.1,aZ.2.1,aZ.2.2.1,aZ.2.2.2.1,aZ.2.2.2.2.1,aZ.2.2.2.2.2.1,aZ.2.2.2.2.2.2.1,aZ.2.2.2.2.2.2.2.1,aL,aM,aN,aO,aP,aZ.2.2.2.2.2.2.2.2,aR)) else none else some (.inr (aD,aE,aF,aG,aH,aI,aJ,aK,aL,aM,aN,aO,aP,aQ,aR))
def uS (O:((List UInt8)×(Int×Unit))) (Z:rJ) (aA:Int) (aB:Int) (aC:qZ) (aD:((List Int)×(Int×Unit))) (aE:Bool) (aF:(List ((List UInt8)×Bool))):Option ((List UInt8)×(List UInt8)×(List (List UInt8))×(List (List UInt8))×Int×(List pL)×Int×Int×(List UInt8)×Int×Int×Int×Int×(List Int)×Int):=(wT O Z aA aB aC aD (3:Int) ([123]:List UInt8) aF).bind fun aG=>rE (pR (v8 O aC aD aE aF) (aG.1,aG.2.1,aG.2.2.1,aG.2.2.2.1,aG.2.2.2.2.1,aG.2.2.2.2.2.1,aG.2.2.2.2.2.2.1,aG.2.2.2.2.2.2.2,([]:List UInt8),([]:List UInt8),([]:List (List UInt8)),(0:Int),([]:List pL),([]:List (List UInt8)),([]:List ((List UInt8)×Bool)))) fun(aH,aI,aJ,aK,aL,aM,aN,aO,aP,aQ,aR,aS,aT,aU,aV)=>(wT (O.1,(aH,())) (aI,(aJ,(aK,(aL,())))) aM aN (aC.1,(aC.2.1,(aC.2.2.1,(aC.2.2.2.1,())))) (aD.1,(aO,())) (3:Int) ([125]:List UInt8) aF).bind fun aW=>if (aU.length)<4611686018427387904 then if (aD.1.length+([aW.2.2.2.2.2.2.2]:List Int).length)*8≤140737488355328 then some ((aP,aQ,aR,(vF aU),aS,aT,aW.1,aW.2.1,aW.2.2.1,aW.2.2.2.1,aW.2.2.2.2.1,aW.2.2.2.2.2.1,aW.2.2.2.2.2.2.1,(aD.1++([aW.2.2.2.2.2.2.2]:List Int)),aW.2.2.2.2.2.2.2)) else none else none
section
variable (O:Bool) (Z:((List UInt8)×(Int×Unit))) (aA:rJ) (aB:Int) (aC:Int) (aD:qZ) (aE:((List Int)×(Int×Unit))) (aF:Nat) (aG:Nat) (aH:(List ((List UInt8)×Bool)))
abbrev a32:List oZ:=[(.val .ref (some (0,0)),none),(.val .bool O,none)]
abbrev a33:List oX:=[.cells rF (Z,(aA,(aB,(aC,(aD,((some 3),aE)))))) [(11,1),(13,2)],.grow 55 7 aF,.grow 3 1 aG,.map .str .bool aH]
@[go_sem] def a34:pD:=⟨[aF=(aD.2.2.2.1.length),aG=(aE.1.length),((uS Z aA aB aC aD aE O aH)).isSome=true],[(.val tC (([]:List UInt8),((val (uS Z aA aB aC aD aE O aH)).1,((val (uS Z aA aB aC aD aE O aH)).2.1,((val (uS Z aA aB aC aD aE O aH)).2.2.1,((val (uS Z aA aB aC aD aE O aH)).2.2.2.1,((val (uS Z aA aB aC aD aE O aH)).2.2.2.2.1,((val (uS Z aA aB aC aD aE O aH)).2.2.2.2.2.1,()))))))),none)],[.cells rF ((Z.1,((val (uS Z aA aB aC aD aE O aH)).2.2.2.2.2.2.1,())),(((val (uS Z aA aB aC aD aE O aH)).2.2.2.2.2.2.2.1,((val (uS Z aA aB aC aD aE O aH)).2.2.2.2.2.2.2.2.1,((val (uS Z aA aB aC aD aE O aH)).2.2.2.2.2.2.2.2.2.1,((val (uS Z aA aB aC aD aE O aH)).2.2.2.2.2.2.2.2.2.2.1,())))),((val (uS Z aA aB aC aD aE O aH)).2.2.2.2.2.2.2.2.2.2.2.1,((val (uS Z aA aB aC aD aE O aH)).2.2.2.2.2.2.2.2.2.2.2.2.1,((aD.1,(aD.2.1,(aD.2.2.1,(aD.2.2.2.1,())))),((some 3),((val (uS Z aA aB aC aD aE O aH)).2.2.2.2.2.2.2.2.2.2.2.2.2.1,((val (uS Z aA aB aC aD aE O aH)).2.2.2.2.2.2.2.2.2.2.2.2.2.2,())))))))) [(11,1),(13,2)],.grow 55 7 (aD.2.2.2.1.length),.grow 3 1 (((val (uS Z aA aB aC aD aE O aH)).2.2.2.2.2.2.2.2.2.2.2.2.2.1).length),.map .str .bool aH]⟩
def aBB:List oZ→List oX→Option pD:=qM (V:=(Bool×((List UInt8)×(Int×Unit))×rJ×Int×Int×qZ×((List Int)×(Int×Unit))×Nat×Nat×(List ((List UInt8)×Bool)))) (fun x=>a32 x.1) (fun x=>a33 x.2.1 x.2.2.1 x.2.2.2.1 x.2.2.2.2.1 x.2.2.2.2.2.1 x.2.2.2.2.2.2.1 x.2.2.2.2.2.2.2.1 x.2.2.2.2.2.2.2.2.1 x.2.2.2.2.2.2.2.2.2) fun x=>a34 x.1 x.2.1 x.2.2.1 x.2.2.2.1 x.2.2.2.2.1 x.2.2.2.2.2.1 x.2.2.2.2.2.2.1 x.2.2.2.2.2.2.2.1 x.2.2.2.2.2.2.2.2.1 x.2.2.2.2.2.2.2.2.2
@[go_sem] theorem aMA:aBB (no_index (a32 O)) (no_index (a33 Z aA aB aC aD aE aF aG aH))=some (a34 O Z aA aB aC aD aE aF aG aH):=qQ (fun⟨a0,a1,a2,a3,a4,a5,a6,a7,a8,a9⟩ ⟨b0,b1,b2,b3,b4,b5,b6,b7,b8,b9⟩ h1 h2=>by cases h1;cases h2;rfl) (O,Z,aA,aB,aC,aD,aE,aF,aG,aH)
end
@[go_sem] abbrev a35:Nat×pY:=(126,⟨[.p rF [11,13],.v],aBB,[(0,12,.m)],[1,3],none⟩)
theorem SS:qB Tryz.prog [G8,XW] (pZ [NY,ZZ,yZ,a3O,a3S,a3W,a30,a3F,a3K,XZ]):=⟨⟨K8,⟨aGA,trivial⟩⟩,pK a3u (pK aGM (pK DN (pK aHz (pK aHA (pK aHB (pK aHC (pK aHx (pK aHy (pK aGE qS))))))))),qD⟩
theorem zW:qB Tryz.prog [v6,DI,s7,zR,EW,CR,yY,I8,KC,wP,B9,RJ,RK] (pZ [NY,ZZ,yZ,a3O,a3S,a3W,a30,a3F,a3K,XZ]):=⟨⟨vM,⟨GB,⟨sB,⟨B8,⟨I9,⟨EX,⟨AL,⟨N5,⟨RN,⟨xZ,⟨CQ,⟨a8H,⟨a8I,trivial⟩⟩⟩⟩⟩⟩⟩⟩⟩⟩⟩⟩⟩,SS.Γ,qD⟩
theorem aBC:qH Tryz.prog a35:=by
 refine qR SS Tryz.func126 (c:=_) rfl (N:=71) (by kernel_rfl) (ts:=[(4,some 55)]) rfl (fun _ _=>rfl) ?_;intro⟨O,Z,aA,aB,aC,aD,aE,aF,aG,aH⟩ hs hrow;dsimp only[a32,a33,a34,qI,pG,pN,qE,qK,Nat.reduceAdd] at hs hrow⊢;obtain⟨rfl,rfl,hz⟩:=hs;obtain⟨z0,hC0⟩:=aMM.1 hz
 try rw[rG hC0]
 clear hz;unfold uS at hC0;refine oY SS ?_;refine oY zW ?_;obtain⟨aI,hv1,hw1,hC0⟩:=pV hC0
 try simp only[go_sem] at hw1
 refine oY zW ?_ (hp:=by exact⟨by first|rfl|trivial,by first|rfl|trivial,by first|rfl|trivial,by first|rfl|trivial,by first|rfl|trivial,(pU hv1)⟩) (h:=by simp only[go_sem,hw1];rfl)
 refine pX (rR ?_);obtain⟨y1,hy1,hC0⟩:=pA hC0;refine wN 0 (fun s=>s=(fun x=>⟨[(0,(.val .ref (some (0,0)),none)),(4,(.val .ref (some (4,0)),none)),(5,(.val .ref (some (5,0)),none))],[(0,.cells rF ((Z.1,(x.1,())),((x.2.1,(x.2.2.1,(x.2.2.2.1,(x.2.2.2.2.1,())))),(x.2.2.2.2.2.1,(x.2.2.2.2.2.2.1,((aD.1,(aD.2.1,(aD.2.2.1,(aD.2.2.2.1,())))),((some 3),(aE.1,(x.2.2.2.2.2.2.2.1,())))))))) [(11,1),(13,2)]),(1,.grow 55 7 (aD.2.2.2.1.length)),(2,.grow 3 1 (aE.1.length)),(3,.map .str .bool aH),(4,.cells tC (([]:List UInt8),(([]:List UInt8),(([]:List UInt8),(([]:List (List UInt8)),(([]:List (List UInt8)),((0:Int),(([]:List pL),()))))))) [(3,6),(4,7),(6,8)]),(5,.cells sH ((([]:List UInt8),(x.2.2.2.2.2.2.2.2.1,(x.2.2.2.2.2.2.2.2.2.1,(x.2.2.2.2.2.2.2.2.2.2.1,((some (9,(x.2.2.2.2.2.2.2.2.2.2.2.2.2.1.length))),(x.2.2.2.2.2.2.2.2.2.2.2.1,(x.2.2.2.2.2.2.2.2.2.2.2.2.1,()))))))),(O,((some 10),()))) [(3,11),(6,12)]),(6,.grow 9 1 (([]:List (List UInt8)).length)),(7,.grow 9 1 (([]:List (List UInt8)).length)),(8,.grow 149 2 (([]:List pL).length)),(9,.row 9 .str x.2.2.2.2.2.2.2.2.2.2.2.2.2.1 (x.2.2.2.2.2.2.2.2.2.2.2.2.2.1.length)),(10,.map .str .bool x.2.2.2.2.2.2.2.2.2.2.2.2.2.2),(11,.grow 9 1 (x.2.2.2.2.2.2.2.2.2.2.1.length)),(12,.grow 149 2 (x.2.2.2.2.2.2.2.2.2.2.2.2.1.length))],13,71,4⟩) y1) ?_ ?_
 ·refine wM hy1 (fun x=>⟨[(0,(.val .ref (some (0,0)),none)),(4,(.val .ref (some (4,0)),none)),(5,(.val .ref (some (5,0)),none))],[(0,.cells rF ((Z.1,(x.1,())),((x.2.1,(x.2.2.1,(x.2.2.2.1,(x.2.2.2.2.1,())))),(x.2.2.2.2.2.1,(x.2.2.2.2.2.2.1,((aD.1,(aD.2.1,(aD.2.2.1,(aD.2.2.2.1,())))),((some 3),(aE.1,(x.2.2.2.2.2.2.2.1,())))))))) [(11,1),(13,2)]),(1,.grow 55 7 (aD.2.2.2.1.length)),(2,.grow 3 1 (aE.1.length)),(3,.map .str .bool aH),(4,.cells tC (([]:List UInt8),(([]:List UInt8),(([]:List UInt8),(([]:List (List UInt8)),(([]:List (List UInt8)),((0:Int),(([]:List pL),()))))))) [(3,6),(4,7),(6,8)]),(5,.cells sH ((([]:List UInt8),(x.2.2.2.2.2.2.2.2.1,(x.2.2.2.2.2.2.2.2.2.1,(x.2.2.2.2.2.2.2.2.2.2.1,((some (9,(x.2.2.2.2.2.2.2.2.2.2.2.2.2.1.length))),(x.2.2.2.2.2.2.2.2.2.2.2.1,(x.2.2.2.2.2.2.2.2.2.2.2.2.1,()))))))),(O,((some 10),()))) [(3,11),(6,12)]),(6,.grow 9 1 (([]:List (List UInt8)).length)),(7,.grow 9 1 (([]:List (List UInt8)).length)),(8,.grow 149 2 (([]:List pL).length)),(9,.row 9 .str x.2.2.2.2.2.2.2.2.2.2.2.2.2.1 (x.2.2.2.2.2.2.2.2.2.2.2.2.2.1.length)),(10,.map .str .bool x.2.2.2.2.2.2.2.2.2.2.2.2.2.2),(11,.grow 9 1 (x.2.2.2.2.2.2.2.2.2.2.1.length)),(12,.grow 149 2 (x.2.2.2.2.2.2.2.2.2.2.2.2.1.length))],13,71,4⟩) ⟨[0,4,5],[(0,0),(1,1),(2,2),(3,3),(4,4),(5,132),(6,5),(7,6),(8,7),(9,135),(10,68),(11,133),(12,134)]⟩ (by rfl) ?_;intro x1 w1 n1 hC1 hN1;obtain⟨aJ,aK,aL,aM,aN,aO,aP,aQ,aR,aS,aT,aU,aV,aW,aX⟩:=x1;unfold v8 at hC1;dsimp only at hC1⊢;refine pX ?_;refine oY zW ?_ (hp:=by exact⟨fun hh=>hh,fun hh=>hh,fun hh=>hh,fun hh=>hh,fun hh=>hh,(fun hh=>sG hh)⟩);refine pP hC1 (fun hC1 hc1=> ?_) (fun hC1 hc1=> ?_)
  ·refine qJ (pM (rR ?_));refine AH zW ?_ (hp:=by exact⟨by first|rfl|trivial,by first|rfl|trivial,by first|rfl|trivial,by first|rfl|trivial,by first|rfl|trivial,by first|rfl|trivial,by first|rfl|trivial,(by first|rfl|trivial)⟩)
   refine pX ?_;refine oY zW ?_;refine pP hC1 (fun hC1 hc2=> ?_) (fun hC1 hc2=> ?_)
   ·obtain⟨aY,hw_357,hC1⟩:=vE hC1
    try simp only[go_sem] at hw_357
    refine oY zW ?_ (hp:=by exact⟨by first|rfl|trivial,by first|rfl|trivial,by first|rfl|trivial,by first|rfl|trivial,(by first|rfl|trivial)⟩) (h:=by simp only[go_sem,hw_357];rfl)
    refine vW (wC (X8 (by decide) (vY ?_)));cases hC1;cases hN1;exact vX ⟨⟨[0,4,5],[(0,0),(1,1),(2,2),(3,3),(4,4),(5,5),(6,6),(7,7),(8,8),(9,9),(10,10),(11,11),(12,12)]⟩,by rfl⟩
   ·refine qJ (pM ?_);replace hC1:=aF0 hC1;generalize (rM .str .fn (vZ ([]:List UInt8) aR aS aT (aU,(aV,())) O aW aX) aL)=aZ at hC1⊢;by_cases hfn:aZ=some 213
    ·subst hfn;rw[aMI rfl] at hC1;obtain⟨bA,hv2,hw2,hC1⟩:=pV hC1
     try simp only[go_sem] at hw2
     refine qY zW ?_ (hp:=by exact⟨by first|rfl|trivial,by first|rfl|trivial,by first|rfl|trivial,by first|rfl|trivial,by first|rfl|trivial,by first|rfl|trivial,by first|rfl|trivial,by first|rfl|trivial,by first|rfl|trivial,by first|rfl|trivial,by first|rfl|trivial,(pU hv2)⟩) (h:=by simp only[go_sem,hw2];rfl)
     refine qV ?_;cases hC1;exact tO ⟨⟨[0,4,5],[(0,0),(1,1),(2,2),(3,3),(4,4),(5,5),(6,6),(7,7),(8,8),(9,9),(10,10),(11,11),(12,12)]⟩,_,by rfl,hN1⟩
    rw[aMK hfn] at hC1;clear hfn;by_cases hfn:aZ=some 214
    ·subst hfn;rw[aMI rfl] at hC1;obtain⟨bB,hv3,hw3,hC1⟩:=pV hC1
     try simp only[go_sem] at hw3
     refine qY zW ?_ (hp:=by exact⟨by first|rfl|trivial,by first|rfl|trivial,by first|rfl|trivial,by first|rfl|trivial,by first|rfl|trivial,by first|rfl|trivial,by first|rfl|trivial,by first|rfl|trivial,by first|rfl|trivial,by first|rfl|trivial,by first|rfl|trivial,by first|rfl|trivial,(pU hv3)⟩) (h:=by simp only[go_sem,hw3];rfl)
     refine qV ?_;cases hC1;exact tO ⟨⟨[0,4,5],[(0,0),(1,1),(2,2),(3,3),(4,4),(5,5),(6,6),(7,7),(8,8),(9,9),(10,10),(11,11),(12,1014)]⟩,_,by rfl,hN1⟩
    rw[aMK hfn] at hC1;clear hfn;by_cases hfn:aZ=some 215
    ·subst hfn;rw[aMI rfl] at hC1;obtain⟨bC,hv4,hw4,hC1⟩:=pV hC1
     try simp only[go_sem] at hw4
     refine qY zW ?_ (hp:=by exact⟨by first|rfl|trivial,by first|rfl|trivial,by first|rfl|trivial,by first|rfl|trivial,by first|rfl|trivial,by first|rfl|trivial,by first|rfl|trivial,by first|rfl|trivial,by first|rfl|trivial,by first|rfl|trivial,by first|rfl|trivial,(pU hv4)⟩) (h:=by simp only[go_sem,hw4];rfl)
     refine qV ?_;cases hC1;exact tO ⟨⟨[0,4,5],[(0,0),(1,1),(2,2),(3,3),(4,4),(5,5),(6,6),(7,7),(8,8),(9,9),(10,10),(11,11),(12,12)]⟩,_,by rfl,hN1⟩
    rw[aMK hfn] at hC1;clear hfn;by_cases hfn:aZ=some 216
    ·subst hfn;rw[aMI rfl] at hC1;obtain⟨bD,hv5,hw5,hC1⟩:=pV hC1
     try simp only[go_sem] at hw5
     refine qY zW ?_ (hp:=by exact⟨by first|rfl|trivial,by first|rfl|trivial,by first|rfl|trivial,by first|rfl|trivial,by first|rfl|trivial,by first|rfl|trivial,by first|rfl|trivial,by first|rfl|trivial,by first|rfl|trivial,by first|rfl|trivial,by first|rfl|trivial,(pU hv5)⟩) (h:=by simp only[go_sem,hw5];rfl)
     refine qV ?_;cases hC1;exact tO ⟨⟨[0,4,5],[(0,0),(1,1),(2,2),(3,3),(4,4),(5,5),(6,6),(7,7),(8,8),(9,9),(10,10),(11,11),(12,12)]⟩,_,by rfl,hN1⟩
    rw[aMK hfn] at hC1;clear hfn;by_cases hfn:aZ=some 217
    ·subst hfn;rw[aMI rfl] at hC1;obtain⟨bE,hv6,hw6,hC1⟩:=pV hC1
     try simp only[go_sem] at hw6
     refine qY zW ?_ (hp:=by exact⟨by first|rfl|trivial,by first|rfl|trivial,by first|rfl|trivial,by first|rfl|trivial,by first|rfl|trivial,by first|rfl|trivial,by first|rfl|trivial,by first|rfl|trivial,by first|rfl|trivial,by first|rfl|trivial,by first|rfl|trivial,(pU hv6)⟩) (h:=by simp only[go_sem,hw6];rfl)
     refine qV ?_;cases hC1;exact tO ⟨⟨[0,4,5],[(0,0),(1,1),(2,2),(3,3),(4,4),(5,5),(6,6),(7,7),(8,8),(9,9),(10,10),(11,11),(12,12)]⟩,_,by rfl,hN1⟩
    rw[aMK hfn] at hC1;clear hfn;by_cases hfn:aZ=some 218
    ·subst hfn;rw[aMI rfl] at hC1;obtain⟨bF,hv7,hw7,hC1⟩:=pV hC1
     try simp only[go_sem] at hw7
     refine qY zW ?_ (hp:=by exact⟨by first|rfl|trivial,by first|rfl|trivial,by first|rfl|trivial,by first|rfl|trivial,by first|rfl|trivial,by first|rfl|trivial,by first|rfl|trivial,by first|rfl|trivial,by first|rfl|trivial,by first|rfl|trivial,by first|rfl|trivial,(pU hv7)⟩) (h:=by simp only[go_sem,hw7];rfl)
     refine qV ?_;cases hC1;exact tO ⟨⟨[0,4,5],[(0,0),(1,1),(2,2),(3,3),(4,4),(5,5),(6,6),(7,7),(8,8),(9,9),(10,10),(11,11),(12,12)]⟩,_,by rfl,hN1⟩
    rw[aMK hfn] at hC1;clear hfn;cases hC1
  ·refine vW (wC (vY ?_));cases hC1;cases hN1;exact vX ⟨⟨[0,4,5],[(0,0),(1,1),(2,2),(3,3),(4,4),(5,5),(6,6),(7,7),(8,8),(9,9),(10,10),(11,11),(12,12)]⟩,by rfl⟩
 ·rintro _ rfl;obtain⟨bG,bH,bI,bJ,bK,bM,bN,bO,bP,bQ,bR,bS,bT,bU,bV⟩:=y1;dsimp only at hC0⊢;refine wL (pM ?_);obtain⟨bW,hv8,hw8,hC0⟩:=pV hC0
  try simp only[go_sem] at hw8
  refine oY zW ?_ (hp:=by exact⟨by first|rfl|trivial,by first|rfl|trivial,by first|rfl|trivial,by first|rfl|trivial,by first|rfl|trivial,(pU hv8)⟩) (h:=by simp only[go_sem,hw8];rfl)
  obtain⟨hg9,hC0⟩:=pJ hC0;refine oY zW ?_ (hp:=by exact⟨by first|rfl|trivial,hg9⟩)
  obtain⟨hg10,hC0⟩:=pJ hC0;refine AH zW ?_ (hp:=by exact⟨by first|rfl|trivial,hg10⟩)
  refine pX ?_;refine aFT 9 5 rfl rfl (aN5 rfl) (by repeat' (first|exact trivial|apply And.intro|exact(fun _=>rfl) |exact(fun h=>absurd h (by decide)))) (by repeat' (first|exact trivial|apply And.intro|exact(fun _=>rfl) |exact(fun h=>absurd h (by decide)))) (u':=a8E) (y':=((([]:List UInt8),(bP,(bQ,(bR,((vF bU),(bS,(bT,()))))))),(O,((some 10),())))) (by first|rfl|kernel_rfl) ?_
  refine qY SS ?_;refine pM (pH ?_);cases hC0;exact⟨[(0,0),(1,1),(2,2),(3,3)],by rfl,by rfl,by rfl⟩
attribute [irreducible] uS
end
noncomputable section
def wU (O:((List UInt8)×(Int×Unit))) (Z:rJ) (aA:Int) (aB:Int) (aC:qZ) (aD:((List Int)×(Int×Unit))) (aE:(List ((List UInt8)×Bool))):Option (Int×Int×(List UInt8)×Int×Int×Int×Int×(List UInt8)×(List (List UInt8))×(List pL)×(List Int)×Int):=(wT O Z aA aB aC aD (2:Int) ([99,97,116,97,108,111,103]:List UInt8) aE).bind fun aF=>(z8 (O.1,(aF.1,())) (aF.2.1,(aF.2.2.1,(aF.2.2.2.1,(aF.2.2.2.2.1,())))) aF.2.2.2.2.2.1 aF.2.2.2.2.2.2.1 (aC.1,(aC.2.1,(aC.2.2.1,(aC.2.2.2.1,())))) (aD.1,(aF.2.2.2.2.2.2.2,())) (1:Int) false aE).bind fun aG=>(uS (O.1,(aG.1,())) (aG.2.1,(aG.2.2.1,(aG.2.2.2.1,(aG.2.2.2.2.1,())))) aG.2.2.2.2.2.1 aG.2.2.2.2.2.2.1 (aF.2.2.1,(aC.2.1,(aC.2.2.1,(aC.2.2.2.1,())))) (aD.1,(aG.2.2.2.2.2.2.2,())) false aE).bind fun aH=>some ((aH.2.2.2.2.2.2.1,aH.2.2.2.2.2.2.2.1,aH.2.2.2.2.2.2.2.2.1,aH.2.2.2.2.2.2.2.2.2.1,aH.2.2.2.2.2.2.2.2.2.2.1,aH.2.2.2.2.2.2.2.2.2.2.2.1,aH.2.2.2.2.2.2.2.2.2.2.2.2.1,aF.2.2.1,aH.2.2.1,aH.2.2.2.2.2.1,aH.2.2.2.2.2.2.2.2.2.2.2.2.2.1,aH.2.2.2.2.2.2.2.2.2.2.2.2.2.2))
section
variable (O:((List UInt8)×(Int×Unit))) (Z:rJ) (aA:Int) (aB:Int) (aC:qZ) (aD:((List Int)×(Int×Unit))) (aE:Nat) (aF:Nat) (aG:(List ((List UInt8)×Bool)))
abbrev a36:List oZ:=[(.val .ref (some (0,0)),none)]
abbrev a38:List oX:=[.cells rF (O,(Z,(aA,(aB,(aC,((some 3),aD)))))) [(11,1),(13,2)],.grow 55 7 aE,.grow 3 1 aF,.map .str .bool aG]
@[go_sem] def a39:pD:=⟨[aE=(aC.2.2.2.1.length),aF=(aD.1.length),((wU O Z aA aB aC aD aG)).isSome=true],[],[.cells rF ((O.1,((val (wU O Z aA aB aC aD aG)).1,())),(((val (wU O Z aA aB aC aD aG)).2.1,((val (wU O Z aA aB aC aD aG)).2.2.1,((val (wU O Z aA aB aC aD aG)).2.2.2.1,((val (wU O Z aA aB aC aD aG)).2.2.2.2.1,())))),((val (wU O Z aA aB aC aD aG)).2.2.2.2.2.1,((val (wU O Z aA aB aC aD aG)).2.2.2.2.2.2.1,(((val (wU O Z aA aB aC aD aG)).2.2.2.2.2.2.2.1,((val (wU O Z aA aB aC aD aG)).2.2.2.2.2.2.2.2.1,((val (wU O Z aA aB aC aD aG)).2.2.2.2.2.2.2.2.2.1,(aC.2.2.2.1,())))),((some 3),((val (wU O Z aA aB aC aD aG)).2.2.2.2.2.2.2.2.2.2.1,((val (wU O Z aA aB aC aD aG)).2.2.2.2.2.2.2.2.2.2.2,())))))))) [(11,1),(13,2)],.grow 55 7 (aC.2.2.2.1.length),.grow 3 1 (((val (wU O Z aA aB aC aD aG)).2.2.2.2.2.2.2.2.2.2.1).length),.map .str .bool aG]⟩
def aBD:List oZ→List oX→Option pD:=qM (V:=(((List UInt8)×(Int×Unit))×rJ×Int×Int×qZ×((List Int)×(Int×Unit))×Nat×Nat×(List ((List UInt8)×Bool)))) (fun x=>a36) (fun x=>a38 x.1 x.2.1 x.2.2.1 x.2.2.2.1 x.2.2.2.2.1 x.2.2.2.2.2.1 x.2.2.2.2.2.2.1 x.2.2.2.2.2.2.2.1 x.2.2.2.2.2.2.2.2) fun x=>a39 x.1 x.2.1 x.2.2.1 x.2.2.2.1 x.2.2.2.2.1 x.2.2.2.2.2.1 x.2.2.2.2.2.2.1 x.2.2.2.2.2.2.2.1 x.2.2.2.2.2.2.2.2
@[go_sem] theorem aMB:aBD (no_index a36) (no_index (a38 O Z aA aB aC aD aE aF aG))=some (a39 O Z aA aB aC aD aE aF aG):=qQ (fun⟨a0,a1,a2,a3,a4,a5,a6,a7,a8⟩ ⟨b0,b1,b2,b3,b4,b5,b6,b7,b8⟩ h1 h2=>by cases h1;cases h2;rfl) (O,Z,aA,aB,aC,aD,aE,aF,aG)
end
@[go_sem] abbrev aBE:Nat×pY:=(82,⟨[.p rF [11,13]],aBD,[(0,12,.m)],[1,3],none⟩)
theorem O1:qB Tryz.prog [s7,zR,CP,ES,G8,wP] (pZ [NY,aBd,a35]):=⟨⟨sB,⟨B8,⟨EU,⟨I5,⟨K8,⟨xZ,trivial⟩⟩⟩⟩⟩⟩,pK a3u (pK aHs (pK aBC qS)),qD⟩
theorem aHD:qH Tryz.prog aBE:=by
 refine qR O1 Tryz.func82 (c:=_) rfl (N:=25) (by kernel_rfl) (ts:=[]) rfl (fun _ _=>rfl) ?_;intro⟨O,Z,aA,aB,aC,aD,aE,aF,aG⟩ hs hrow;dsimp only[a36,a38,a39,qI,pG,pN,qE,qK,Nat.reduceAdd] at hs hrow⊢;obtain⟨rfl,rfl,hz⟩:=hs;obtain⟨z0,hC0⟩:=aMM.1 hz
 try rw[rG hC0]
 clear hz;unfold wU at hC0;obtain⟨aH,hv1,hw1,hC0⟩:=pV hC0
 try simp only[go_sem] at hw1
 refine oY O1 ?_ (hp:=by exact⟨by first|rfl|trivial,by first|rfl|trivial,by first|rfl|trivial,by first|rfl|trivial,by first|rfl|trivial,(pU hv1)⟩) (h:=by simp only[go_sem,hw1];rfl)
 obtain⟨aI,hv2,hw2,hC0⟩:=pV hC0
 try simp only[go_sem] at hw2
 refine oY O1 ?_ (hp:=by exact⟨by first|rfl|trivial,by first|rfl|trivial,by first|rfl|trivial,by first|rfl|trivial,by first|rfl|trivial,(pU hv2)⟩) (h:=by simp only[go_sem,hw2];rfl)
 obtain⟨aJ,hv3,hw3,hC0⟩:=pV hC0
 try simp only[go_sem] at hw3
 refine oY O1 ?_ (hp:=by exact⟨by first|rfl|trivial,by first|rfl|trivial,by first|rfl|trivial,by first|rfl|trivial,(pU hv3)⟩) (h:=by simp only[go_sem,hw3];rfl)
 refine K2 O1 ?_;cases hC0;exact⟨[(0,0),(1,1),(2,2),(3,3)],by rfl,by rfl,by rfl⟩
attribute [irreducible] wU
def wV (O:((List UInt8)×(Int×Unit))) (Z:rJ) (aA:Int) (aB:Int) (aC:qZ) (aD:((List Int)×(Int×Unit))) (aE:(List ((List UInt8)×Bool))):Option (Int×Int×(List UInt8)×Int×Int×Int×Int×(List qT)×(List Int)×Int×(List ((List UInt8)×Bool))):=(wT O Z aA aB aC aD (2:Int) ([101,110,116,114,121]:List UInt8) aE).bind fun aF=>(zE (O.1,(aF.1,())) (aF.2.1,(aF.2.2.1,(aF.2.2.2.1,(aF.2.2.2.2.1,())))) aF.2.2.2.2.2.1 aF.2.2.2.2.2.2.1 (aC.1,(aC.2.1,(aC.2.2.1,(aC.2.2.2.1,())))) (aD.1,(aF.2.2.2.2.2.2.2,())) (1:Int) (decide ((aC.2.2.2.1.length:Int)=(1000:Int))) aE).bind fun aG=>(uS (O.1,(aG.1,())) (aG.2.1,(aG.2.2.1,(aG.2.2.2.1,(aG.2.2.2.2.1,())))) aG.2.2.2.2.2.1 aG.2.2.2.2.2.2.1 (aC.1,(aC.2.1,(aC.2.2.1,(aC.2.2.2.1,())))) (aD.1,(aG.2.2.2.2.2.2.2,())) true (sI .str .bool aF.2.2.1 true aE)).bind fun aH=>if (aC.2.2.2.1.length+([(aF.2.2.1,(aH.1,(aH.2.1,(aH.2.2.1,(aH.2.2.2.1,(aH.2.2.2.2.1,(aH.2.2.2.2.2.1,())))))))]:List qT).length)*128≤140737488355328 then some ((aH.2.2.2.2.2.2.1,aH.2.2.2.2.2.2.2.1,aH.2.2.2.2.2.2.2.2.1,aH.2.2.2.2.2.2.2.2.2.1,aH.2.2.2.2.2.2.2.2.2.2.1,aH.2.2.2.2.2.2.2.2.2.2.2.1,aH.2.2.2.2.2.2.2.2.2.2.2.2.1,(aC.2.2.2.1++([(aF.2.2.1,(aH.1,(aH.2.1,(aH.2.2.1,(aH.2.2.2.1,(aH.2.2.2.2.1,(aH.2.2.2.2.2.1,())))))))]:List qT)),aH.2.2.2.2.2.2.2.2.2.2.2.2.2.1,aH.2.2.2.2.2.2.2.2.2.2.2.2.2.2,(sI .str .bool aF.2.2.1 true aE))) else none
section
variable (O:((List UInt8)×(Int×Unit))) (Z:rJ) (aA:Int) (aB:Int) (aC:qZ) (aD:((List Int)×(Int×Unit))) (aE:Nat) (aF:Nat) (aG:(List ((List UInt8)×Bool)))
abbrev a4a:List oZ:=[(.val .ref (some (0,0)),none)]
abbrev a4b:List oX:=[.cells rF (O,(Z,(aA,(aB,(aC,((some 3),aD)))))) [(11,1),(13,2)],.grow 55 7 aE,.grow 3 1 aF,.map .str .bool aG]
@[go_sem] def a4c:pD:=⟨[aE=(aC.2.2.2.1.length),aF=(aD.1.length),((wV O Z aA aB aC aD aG)).isSome=true],[],[.cells rF ((O.1,((val (wV O Z aA aB aC aD aG)).1,())),(((val (wV O Z aA aB aC aD aG)).2.1,((val (wV O Z aA aB aC aD aG)).2.2.1,((val (wV O Z aA aB aC aD aG)).2.2.2.1,((val (wV O Z aA aB aC aD aG)).2.2.2.2.1,())))),((val (wV O Z aA aB aC aD aG)).2.2.2.2.2.1,((val (wV O Z aA aB aC aD aG)).2.2.2.2.2.2.1,((aC.1,(aC.2.1,(aC.2.2.1,((val (wV O Z aA aB aC aD aG)).2.2.2.2.2.2.2.1,())))),((some 3),((val (wV O Z aA aB aC aD aG)).2.2.2.2.2.2.2.2.1,((val (wV O Z aA aB aC aD aG)).2.2.2.2.2.2.2.2.2.1,())))))))) [(11,1),(13,2)],.grow 55 7 (((val (wV O Z aA aB aC aD aG)).2.2.2.2.2.2.2.1).length),.grow 3 1 (((val (wV O Z aA aB aC aD aG)).2.2.2.2.2.2.2.2.1).length),.map .str .bool ((val (wV O Z aA aB aC aD aG)).2.2.2.2.2.2.2.2.2.2)]⟩
def aBF:List oZ→List oX→Option pD:=qM (V:=(((List UInt8)×(Int×Unit))×rJ×Int×Int×qZ×((List Int)×(Int×Unit))×Nat×Nat×(List ((List UInt8)×Bool)))) (fun x=>a4a) (fun x=>a4b x.1 x.2.1 x.2.2.1 x.2.2.2.1 x.2.2.2.2.1 x.2.2.2.2.2.1 x.2.2.2.2.2.2.1 x.2.2.2.2.2.2.2.1 x.2.2.2.2.2.2.2.2) fun x=>a4c x.1 x.2.1 x.2.2.1 x.2.2.2.1 x.2.2.2.2.1 x.2.2.2.2.2.1 x.2.2.2.2.2.2.1 x.2.2.2.2.2.2.2.1 x.2.2.2.2.2.2.2.2
@[go_sem] theorem aMC:aBF (no_index a4a) (no_index (a4b O Z aA aB aC aD aE aF aG))=some (a4c O Z aA aB aC aD aE aF aG):=qQ (fun⟨a0,a1,a2,a3,a4,a5,a6,a7,a8⟩ ⟨b0,b1,b2,b3,b4,b5,b6,b7,b8⟩ h1 h2=>by cases h1;cases h2;rfl) (O,Z,aA,aB,aC,aD,aE,aF,aG)
end
@[go_sem] abbrev aBG:Nat×pY:=(83,⟨[.p rF [11,13]],aBF,[(0,12,.m)],[],none⟩)
theorem FC:qB Tryz.prog [DI,s7,K7,ES,G8,RH,I8,wP] (pZ [NY,aBm,a35]):=⟨⟨GB,⟨sB,⟨RF,⟨I5,⟨K8,⟨a8F,⟨N5,⟨xZ,trivial⟩⟩⟩⟩⟩⟩⟩⟩,pK a3u (pK aHw (pK aBC qS)),qD⟩
theorem aHE:qH Tryz.prog aBG:=by
 refine qR FC Tryz.func83 (c:=_) rfl (N:=39) (by kernel_rfl) (ts:=[]) rfl (fun _ _=>rfl) ?_;intro⟨O,Z,aA,aB,aC,aD,aE,aF,aG⟩ hs hrow;dsimp only[a4a,a4b,a4c,qI,pG,pN,qE,qK,Nat.reduceAdd] at hs hrow⊢;obtain⟨rfl,rfl,hz⟩:=hs;obtain⟨z0,hC0⟩:=aMM.1 hz
 try rw[rG hC0]
 clear hz;unfold wV at hC0;refine oY FC ?_;obtain⟨aH,hv1,hw1,hC0⟩:=pV hC0
 try simp only[go_sem] at hw1
 refine oY FC ?_ (hp:=by exact⟨by first|rfl|trivial,by first|rfl|trivial,by first|rfl|trivial,by first|rfl|trivial,by first|rfl|trivial,(pU hv1)⟩) (h:=by simp only[go_sem,hw1];rfl)
 refine oY FC ?_;obtain⟨aI,hv2,hw2,hC0⟩:=pV hC0
 try simp only[go_sem] at hw2
 refine AH FC ?_ (hp:=by exact⟨by first|rfl|trivial,by first|rfl|trivial,by first|rfl|trivial,by first|rfl|trivial,by first|rfl|trivial,by first|rfl|trivial,(pU hv2)⟩) (h:=by simp only[go_sem,hw2];rfl)
 refine oY FC ?_;obtain⟨aJ,hv3,hw3,hC0⟩:=pV hC0
 try simp only[go_sem] at hw3
 refine oY FC ?_ (hp:=by exact⟨by first|rfl|trivial,by first|rfl|trivial,by first|rfl|trivial,by first|rfl|trivial,(pU hv3)⟩) (h:=by simp only[go_sem,hw3];rfl)
 refine oY FC ?_;obtain⟨hg4,hC0⟩:=pJ hC0;refine K2 FC ?_ (hp:=by exact⟨by first|rfl|trivial,hg4⟩)
 cases hC0;exact⟨[(0,0),(1,1),(2,2),(3,3)],by rfl,by rfl,by rfl⟩
attribute [irreducible] wV
def BD (O:(List UInt8)) (Z:(Int×Int×(List UInt8)×Int×Int×Int×Int×(List UInt8)×(List (List UInt8))×(List pL)×(List Int)×Int)):(Int×Int×(List UInt8)×Int×Int×Int×Int×(List qT)×(List Int)×Int×(List ((List UInt8)×Bool)))→Option ((Int×Int×(List UInt8)×Int×Int×Int×Int×(List qT)×(List Int)×Int×(List ((List UInt8)×Bool)))⊕(Int×Int×(List UInt8)×Int×Int×Int×Int×(List qT)×(List Int)×Int×(List ((List UInt8)×Bool)))):=fun(aA,aB,aC,aD,aE,aF,aG,aH,aI,aJ,aK)=>if ((decide (aG=(0:Int)))&&(!decide (aB=(4:Int))))=true then (wV (O,(aA,())) (aB,(aC,(aD,(aE,())))) aF aG (Z.2.2.2.2.2.2.2.1,(Z.2.2.2.2.2.2.2.2.1,(Z.2.2.2.2.2.2.2.2.2.1,(aH,())))) (aI,(aJ,())) aK).bind fun aL=>some (.inl (aL.1,aL.2.1,aL.2.2.1,aL.2.2.2.1,aL.2.2.2.2.1,aL.2.2.2.2.2.1,aL.2.2.2.2.2.2.1,aL.2.2.2.2.2.2.2.1,aL.2.2.2.2.2.2.2.2.1,aL.2.2.2.2.2.2.2.2.2.1,aL.2.2.2.2.2.2.2.2.2.2)) else some (.inr (aA,aB,aC,aD,aE,aF,aG,aH,aI,aJ,aK))
def uT (O:(List UInt8)):Option (Int×Int×(List UInt8)×Int×Int×Int×Int×(List UInt8)×(List (List UInt8))×(List pL)×(List qT)×(List Int)×Int×(List ((List UInt8)×Bool))):=(AN (O,((0:Int),()))).bind fun Z=>(wU (O,(Z.2.2.2.2,())) (Z.1,(Z.2.1,(Z.2.2.1,(Z.2.2.2.1,())))) (0:Int) (0:Int) (([]:List UInt8),(([]:List (List UInt8)),(([]:List pL),(([]:List qT),())))) (([]:List Int),((0:Int),())) ([]:List ((List UInt8)×Bool))).bind fun aA=>rE (pR (BD O aA) (aA.1,aA.2.1,aA.2.2.1,aA.2.2.2.1,aA.2.2.2.2.1,aA.2.2.2.2.2.1,aA.2.2.2.2.2.2.1,([]:List qT),aA.2.2.2.2.2.2.2.2.2.2.1,aA.2.2.2.2.2.2.2.2.2.2.2,([]:List ((List UInt8)×Bool)))) fun(aB,aC,aD,aE,aF,aG,aH,aI,aJ,aK,aL)=>some ((aB,aC,aD,aE,aF,aG,aH,aA.2.2.2.2.2.2.2.1,aA.2.2.2.2.2.2.2.2.1,aA.2.2.2.2.2.2.2.2.2.1,aI,aJ,aK,aL))
section
variable (O:(List UInt8))
abbrev a4d:List oZ:=[(.val .str O,none)]
abbrev a4e:List oX:=[]
@[go_sem] def a4f:pD:=⟨[((uT O)).isSome=true],[(.val .ref (some (0,0)),none)],[.cells rF ((O,((val (uT O)).1,())),(((val (uT O)).2.1,((val (uT O)).2.2.1,((val (uT O)).2.2.2.1,((val (uT O)).2.2.2.2.1,())))),((val (uT O)).2.2.2.2.2.1,((val (uT O)).2.2.2.2.2.2.1,(((val (uT O)).2.2.2.2.2.2.2.1,((val (uT O)).2.2.2.2.2.2.2.2.1,((val (uT O)).2.2.2.2.2.2.2.2.2.1,((val (uT O)).2.2.2.2.2.2.2.2.2.2.1,())))),((some 1),((val (uT O)).2.2.2.2.2.2.2.2.2.2.2.1,((val (uT O)).2.2.2.2.2.2.2.2.2.2.2.2.1,())))))))) [(11,2),(13,3)],.map .str .bool ((val (uT O)).2.2.2.2.2.2.2.2.2.2.2.2.2),.grow 55 7 (((val (uT O)).2.2.2.2.2.2.2.2.2.2.1).length),.grow 3 1 (((val (uT O)).2.2.2.2.2.2.2.2.2.2.2.1).length)]⟩
def aBH:List oZ→List oX→Option pD:=qM (V:=(List UInt8)) (fun x=>a4d x) (fun x=>a4e) fun x=>a4f x
@[go_sem] theorem aMD:aBH (no_index (a4d O)) (no_index a4e)=some (a4f O):=qQ (fun a0 b0 h1 h2=>by cases h1;cases h2;rfl) O
end
@[go_sem] abbrev a4g:Nat×pY:=(44,⟨[.v],aBH,[],[],none⟩)
theorem GO:qB Tryz.prog [v6,DI,s7,EW,N6,yY,I8,wP] (pZ [a2Y,aBE,aBG]):=⟨⟨vM,⟨GB,⟨sB,⟨I9,⟨XV,⟨AL,⟨N5,⟨xZ,trivial⟩⟩⟩⟩⟩⟩⟩⟩,pK aA6 (pK aHD (pK aHE qS)),qD⟩
theorem aBI:qH Tryz.prog a4g:=by
 refine qR GO Tryz.func44 (c:=_) rfl (N:=34) (by kernel_rfl) (ts:=[(2,none)]) rfl (fun _ _=>rfl) ?_;intro O hs hrow;dsimp only[a4d,a4e,a4f,qI,pG,pN,qE,qK,Nat.reduceAdd] at hs hrow⊢;have hz:=hs;obtain⟨z0,hC0⟩:=aMM.1 hz
 try rw[rG hC0]
 clear hz hs;unfold uT at hC0;refine oY GO ?_;refine oY GO ?_;obtain⟨Z,hv1,hw1,hC0⟩:=pV hC0
 try simp only[go_sem] at hw1
 refine oY GO ?_ (hp:=by exact(pU hv1)) (h:=by simp only[go_sem,hw1];rfl);obtain⟨aA,hv2,hw2,hC0⟩:=pV hC0
 try simp only[go_sem] at hw2
 refine oY GO ?_ (hp:=by exact⟨by first|rfl|trivial,by first|rfl|trivial,by first|rfl|trivial,by first|rfl|trivial,(pU hv2)⟩) (h:=by simp only[go_sem,hw2];rfl)
 refine pX (rR ?_);obtain⟨y1,hy1,hC0⟩:=pA hC0;refine wN 0 (fun s=>s=(fun x=>⟨[(3,(.val .ref (some (0,0)),none))],[(0,.cells rF ((O,(x.1,())),((x.2.1,(x.2.2.1,(x.2.2.2.1,(x.2.2.2.2.1,())))),(x.2.2.2.2.2.1,(x.2.2.2.2.2.2.1,((aA.2.2.2.2.2.2.2.1,(aA.2.2.2.2.2.2.2.2.1,(aA.2.2.2.2.2.2.2.2.2.1,(x.2.2.2.2.2.2.2.1,())))),((some 1),(x.2.2.2.2.2.2.2.2.1,(x.2.2.2.2.2.2.2.2.2.1,())))))))) [(11,2),(13,3)]),(1,.map .str .bool x.2.2.2.2.2.2.2.2.2.2),(2,.grow 55 7 (x.2.2.2.2.2.2.2.1.length)),(3,.grow 3 1 (x.2.2.2.2.2.2.2.2.1.length))],4,34,0⟩) y1) ?_ ?_
 ·refine wM hy1 (fun x=>⟨[(3,(.val .ref (some (0,0)),none))],[(0,.cells rF ((O,(x.1,())),((x.2.1,(x.2.2.1,(x.2.2.2.1,(x.2.2.2.2.1,())))),(x.2.2.2.2.2.1,(x.2.2.2.2.2.2.1,((aA.2.2.2.2.2.2.2.1,(aA.2.2.2.2.2.2.2.2.1,(aA.2.2.2.2.2.2.2.2.2.1,(x.2.2.2.2.2.2.2.1,())))),((some 1),(x.2.2.2.2.2.2.2.2.1,(x.2.2.2.2.2.2.2.2.2.1,())))))))) [(11,2),(13,3)]),(1,.map .str .bool x.2.2.2.2.2.2.2.2.2.2),(2,.grow 55 7 (x.2.2.2.2.2.2.2.1.length)),(3,.grow 3 1 (x.2.2.2.2.2.2.2.2.1.length))],4,34,0⟩) ⟨[3],[(0,160),(1,96),(2,163),(3,164)]⟩ (by rfl) ?_;intro x1 w1 n1 hC1 hN1;obtain⟨aB,aC,aD,aE,aF,aG,aH,aI,aJ,aK,aL⟩:=x1;unfold BD at hC1;dsimp only at hC1⊢;refine pX ?_;refine oY GO ?_ (hp:=by exact⟨fun hh=>hh,fun hh=>hh,fun hh=>hh,fun hh=>hh,fun hh=>hh,(fun hh=>sG hh)⟩);refine pP hC1 (fun hC1 hc1=> ?_) (fun hC1 hc1=> ?_)
  ·refine qJ (pM (rR ?_));obtain⟨aM,hv3,hw3,hC1⟩:=pV hC1
   try simp only[go_sem] at hw3
   refine qY GO ?_ (hp:=by exact⟨by first|rfl|trivial,by first|rfl|trivial,(pU hv3)⟩) (h:=by simp only[go_sem,hw3];rfl)
   refine qV ?_;cases hC1;exact tO ⟨⟨[3],[(0,0),(1,1),(2,2),(3,3)]⟩,_,by rfl,hN1⟩
  ·refine vW (wC (vY ?_));cases hC1;cases hN1;exact vX ⟨⟨[3],[(0,0),(1,1),(2,2),(3,3)]⟩,by rfl⟩
 ·rintro _ rfl;obtain⟨aN,aO,aP,aQ,aR,aS,aT,aU,aV,aW,aX⟩:=y1;dsimp only at hC0⊢;refine wL (pM ?_);refine oY GO ?_;refine pH ?_;cases hC0;exact⟨[(0,0),(1,1),(2,2),(3,3)],by rfl,by rfl,by rfl⟩
attribute [irreducible] uT
end
noncomputable section
def wW (O:(List UInt8)):Option ((List UInt8)×(List (List UInt8))×(List pL)×(List qT)×Int×Int):=(uT O).bind fun Z=>if (!decide (Z.2.2.2.2.2.2.1=(0:Int)))=true then some ((([]:List UInt8),([]:List (List UInt8)),([]:List pL),([]:List qT),Z.2.2.2.2.2.1,Z.2.2.2.2.2.2.1)) else some ((Z.2.2.2.2.2.2.2.1,Z.2.2.2.2.2.2.2.2.1,Z.2.2.2.2.2.2.2.2.2.1,Z.2.2.2.2.2.2.2.2.2.2.1,(0:Int),(0:Int)))
section
variable (O:(List UInt8))
abbrev a4h:List oZ:=[(.val .str O,none)]
abbrev a4i:List oX:=[]
@[go_sem] def a4j:pD:=⟨[((wW O)).isSome=true],[(.val I4 ((val (wW O)).1,((val (wW O)).2.1,((val (wW O)).2.2.1,((val (wW O)).2.2.2.1,())))),none),(.val (.int .i64) ((val (wW O)).2.2.2.2.1),none),(.val (.int .i64) ((val (wW O)).2.2.2.2.2),none)],[]⟩
def aBJ:List oZ→List oX→Option pD:=qM (V:=(List UInt8)) (fun x=>a4h x) (fun x=>a4i) fun x=>a4j x
@[go_sem] theorem aME:aBJ (no_index (a4h O)) (no_index a4i)=some (a4j O):=qQ (fun a0 b0 h1 h2=>by cases h1;cases h2;rfl) O
end
@[go_sem] abbrev a4k:Nat×pY:=(16,⟨[.v],aBJ,[],[],none⟩)
theorem L8:qB Tryz.prog [v6,ES,EW,wP] (pZ [a4g]):=⟨⟨vM,⟨I5,⟨I9,⟨xZ,trivial⟩⟩⟩⟩,pK aBI qS,qD⟩
theorem aBK:qH Tryz.prog a4k:=by
 refine qR L8 Tryz.func16 (c:=_) rfl (N:=26) (by kernel_rfl) (ts:=[(2,some 27),(3,none),(4,none)]) rfl (fun _ _=>rfl) ?_;intro O hs hrow;dsimp only[a4h,a4i,a4j,qI,pG,pN,qE,qK,Nat.reduceAdd] at hs hrow⊢;have hz:=hs;obtain⟨z0,hC0⟩:=aMM.1 hz
 try rw[rG hC0]
 clear hz hs;unfold wW at hC0;refine oY L8 ?_;obtain⟨Z,hv1,hw1,hC0⟩:=pV hC0
 try simp only[go_sem] at hw1
 refine oY L8 ?_ (hp:=by exact(pU hv1)) (h:=by simp only[go_sem,hw1];rfl);refine pX ?_;refine oY L8 ?_;refine pP hC0 (fun hC0 hc1=> ?_) (fun hC0 hc1=> ?_)
 ·refine AH L8 ?_;refine pH (rI ?_);cases hC0;exact⟨[],by rfl,by rfl,by rfl⟩
 ·refine qJ (pM ?_);refine oY L8 ?_;refine pH ?_;cases hC0;exact⟨[],by rfl,by rfl,by rfl⟩
attribute [irreducible] wW
def L9 (O:(List UInt8)) (Z:(Int×Int×(List UInt8)×Int×Int×Int×Int×(List UInt8)×(List (List UInt8))×(List pL)×(List qT)×(List Int)×Int×(List ((List UInt8)×Bool)))):(Int×(List (List UInt8)))→Option ((Int×(List (List UInt8)))⊕(List (List UInt8))):=fun(aA,aB)=>if (decide (aA<(Z.2.2.2.2.2.2.2.2.2.2.2.1.length:Int)))=true then if p8 (aA- (1:Int)) then if 0≤(aA- (1:Int))∧(aA- (1:Int))<(Z.2.2.2.2.2.2.2.2.2.2.2.1.length:Int) then if 0≤aA∧aA<(Z.2.2.2.2.2.2.2.2.2.2.2.1.length:Int) then if 0≤(qG (.int .i64) Z.2.2.2.2.2.2.2.2.2.2.2.1 (aA- (1:Int)))∧(qG (.int .i64) Z.2.2.2.2.2.2.2.2.2.2.2.1 (aA- (1:Int)))≤(qG (.int .i64) Z.2.2.2.2.2.2.2.2.2.2.2.1 aA)∧(qG (.int .i64) Z.2.2.2.2.2.2.2.2.2.2.2.1 aA)≤(O.length:Int) then if (aB.length+([(pE O (qG (.int .i64) Z.2.2.2.2.2.2.2.2.2.2.2.1 (aA- (1:Int))) (qG (.int .i64) Z.2.2.2.2.2.2.2.2.2.2.2.1 aA))]:List (List UInt8)).length)*16≤140737488355328 then if p8 (aA+(1:Int)) then some (.inl ((aA+(1:Int)),(aB++([(pE O (qG (.int .i64) Z.2.2.2.2.2.2.2.2.2.2.2.1 (aA- (1:Int))) (qG (.int .i64) Z.2.2.2.2.2.2.2.2.2.2.2.1 aA))]:List (List UInt8))))) else none else none else none else none else none else none else some (.inr aB)
def BE (O:(List UInt8)):Option ((List UInt8)×(List (List UInt8))×(List UInt8)×Int):=(uT O).bind fun Z=>if (!decide (Z.2.2.2.2.2.2.1=(0:Int)))=true then some ((([]:List UInt8),([]:List (List UInt8)),([]:List UInt8),Z.2.2.2.2.2.2.1)) else if 0≤(0:Int)∧(0:Int)<(Z.2.2.2.2.2.2.2.2.2.2.2.1.length:Int) then if 0≤(0:Int)∧(0:Int)≤(qG (.int .i64) Z.2.2.2.2.2.2.2.2.2.2.2.1 (0:Int))∧(qG (.int .i64) Z.2.2.2.2.2.2.2.2.2.2.2.1 (0:Int))≤(O.length:Int) then if p8 ((Z.2.2.2.2.2.2.2.2.2.2.2.1.length:Int)- (1:Int)) then if 0≤((Z.2.2.2.2.2.2.2.2.2.2.2.1.length:Int)- (1:Int))∧((Z.2.2.2.2.2.2.2.2.2.2.2.1.length:Int)- (1:Int))<(Z.2.2.2.2.2.2.2.2.2.2.2.1.length:Int) then if 0≤(qG (.int .i64) Z.2.2.2.2.2.2.2.2.2.2.2.1 ((Z.2.2.2.2.2.2.2.2.2.2.2.1.length:Int)- (1:Int)))∧(qG (.int .i64) Z.2.2.2.2.2.2.2.2.2.2.2.1 ((Z.2.2.2.2.2.2.2.2.2.2.2.1.length:Int)- (1:Int)))≤(O.length:Int)∧(O.length:Int)≤(O.length:Int) then rE (pR (L9 O Z) ((1:Int),([]:List (List UInt8)))) fun aA=>some (((pE O (0:Int) (qG (.int .i64) Z.2.2.2.2.2.2.2.2.2.2.2.1 (0:Int))),aA,(pE O (qG (.int .i64) Z.2.2.2.2.2.2.2.2.2.2.2.1 ((Z.2.2.2.2.2.2.2.2.2.2.2.1.length:Int)- (1:Int))) (O.length:Int)),(0:Int))) else none else none else none else none else none
section
variable (O:(List UInt8))
abbrev a4l:List oZ:=[(.val .str O,none)]
abbrev a4m:List oX:=[]
@[go_sem] def a4n:pD:=⟨[((BE O)).isSome=true],[(.val AK ((val (BE O)).1,((val (BE O)).2.1,((val (BE O)).2.2.1,()))),none),(.val (.int .i64) ((val (BE O)).2.2.2),none)],[]⟩
def aBL:List oZ→List oX→Option pD:=qM (V:=(List UInt8)) (fun x=>a4l x) (fun x=>a4m) fun x=>a4n x
@[go_sem] theorem aMF:aBL (no_index (a4l O)) (no_index a4m)=some (a4n O):=qQ (fun a0 b0 h1 h2=>by cases h1;cases h2;rfl) O
end
@[go_sem] abbrev aBM:Nat×pY:=(19,⟨[.v],aBL,[],[],none⟩)
theorem CY:qB Tryz.prog [v6,s7,zR,EW,DH,KC,wP] (pZ [a4g]):=⟨⟨vM,⟨sB,⟨B8,⟨I9,⟨G7,⟨RN,⟨xZ,trivial⟩⟩⟩⟩⟩⟩⟩,pK aBI qS,qD⟩
theorem aHF:qH Tryz.prog aBM:=by
 refine qR CY Tryz.func19 (c:=_) rfl (N:=74) (by kernel_rfl) (ts:=[(2,some 34),(3,none)]) rfl (fun _ _=>rfl) ?_;intro O hs hrow;dsimp only[a4l,a4m,a4n,qI,pG,pN,qE,qK,Nat.reduceAdd] at hs hrow⊢;have hz:=hs;obtain⟨z0,hC0⟩:=aMM.1 hz
 try rw[rG hC0]
 clear hz hs;unfold BE at hC0;refine oY CY ?_;obtain⟨Z,hv1,hw1,hC0⟩:=pV hC0
 try simp only[go_sem] at hw1
 refine oY CY ?_ (hp:=by exact(pU hv1)) (h:=by simp only[go_sem,hw1];rfl);refine pX ?_;refine oY CY ?_;refine pP hC0 (fun hC0 hc1=> ?_) (fun hC0 hc1=> ?_)
 ·refine AH CY ?_;refine pH (rI ?_);cases hC0;exact⟨[],by rfl,by rfl,by rfl⟩
 ·refine qJ (pM ?_);obtain⟨hg2,hC0⟩:=pJ hC0;obtain⟨hg3,hC0⟩:=pJ hC0;obtain⟨hg4,hC0⟩:=pJ hC0;obtain⟨hg5,hC0⟩:=pJ hC0;obtain⟨hg6,hC0⟩:=pJ hC0;refine AH CY ?_ (hp:=by exact⟨hg2,hg3,hg4,hg5,hg6⟩);refine pX ?_;refine oY CY ?_;refine rR ?_;obtain⟨aA,hy1,hC0⟩:=pA hC0;refine wN 0 (fun s=>s=(fun x=>⟨[(2,(.val .ref (some (0,0)),none)),(5,(.val .ref (some (1,0)),none))],[(0,.cells AK (([]:List UInt8),(([]:List (List UInt8)),(([]:List UInt8),()))) [(1,2)]),(1,.cells AK ((pE O (0:Int) (qG (.int .i64) Z.2.2.2.2.2.2.2.2.2.2.2.1 (0:Int))),(x,((pE O (qG (.int .i64) Z.2.2.2.2.2.2.2.2.2.2.2.1 ((Z.2.2.2.2.2.2.2.2.2.2.2.1.length:Int)- (1:Int))) (O.length:Int)),()))) [(1,3)]),(2,.grow 9 1 (([]:List (List UInt8)).length)),(3,.grow 9 1 (x.length))],4,74,0⟩) aA) ?_ ?_
  ·refine wM hy1 (fun x=>⟨[(0,(.val .str O,none)),(2,(.val .ref (some (0,0)),none)),(4,(.val .ref (some (1,0)),none)),(5,(.val .ref (some (2,0)),none)),(6,(.val (.int .i64) x.1,none))],[(0,.cells AK (([]:List UInt8),(([]:List (List UInt8)),(([]:List UInt8),()))) [(1,3)]),(1,.cells rF ((O,(Z.1,())),((Z.2.1,(Z.2.2.1,(Z.2.2.2.1,(Z.2.2.2.2.1,())))),(Z.2.2.2.2.2.1,(Z.2.2.2.2.2.2.1,((Z.2.2.2.2.2.2.2.1,(Z.2.2.2.2.2.2.2.2.1,(Z.2.2.2.2.2.2.2.2.2.1,(Z.2.2.2.2.2.2.2.2.2.2.1,())))),((some 4),(Z.2.2.2.2.2.2.2.2.2.2.2.1,(Z.2.2.2.2.2.2.2.2.2.2.2.2.1,())))))))) [(11,5),(13,6)]),(2,.cells AK ((pE O (0:Int) (qG (.int .i64) Z.2.2.2.2.2.2.2.2.2.2.2.1 (0:Int))),(x.2,((pE O (qG (.int .i64) Z.2.2.2.2.2.2.2.2.2.2.2.1 ((Z.2.2.2.2.2.2.2.2.2.2.2.1.length:Int)- (1:Int))) (O.length:Int)),()))) [(1,7)]),(3,.grow 9 1 (([]:List (List UInt8)).length)),(4,.map .str .bool Z.2.2.2.2.2.2.2.2.2.2.2.2.2),(5,.grow 55 7 (Z.2.2.2.2.2.2.2.2.2.2.1.length)),(6,.grow 3 1 (Z.2.2.2.2.2.2.2.2.2.2.2.1.length)),(7,.grow 9 1 (x.2.length))],8,74,0⟩) ⟨[0,2,4,5,6],[(0,0),(1,96),(2,1056),(3,1),(4,97),(5,98),(6,99),(7,1088)]⟩ (by rfl) ?_;intro x1 w1 n1 hC1 hN1;obtain⟨aB,aC⟩:=x1;unfold L9 at hC1;dsimp only at hC1⊢;refine pX ?_;refine oY CY ?_;refine pP hC1 (fun hC1 hc2=> ?_) (fun hC1 hc2=> ?_)
   ·refine qJ (pM (pX (rR ?_)));obtain⟨hg7,hC1⟩:=pJ hC1;obtain⟨hg8,hC1⟩:=pJ hC1;obtain⟨hg9,hC1⟩:=pJ hC1;obtain⟨hg10,hC1⟩:=pJ hC1;obtain⟨hg11,hC1⟩:=pJ hC1;refine K2 CY ?_ (hp:=by exact⟨hg7,hg8,hg9,hg10,by first|rfl|trivial,hg11⟩)
    refine qV (pM ?_);obtain⟨hg12,hC1⟩:=pJ hC1;refine qY CY ?_ (hp:=by exact hg12);cases hC1;exact tO ⟨⟨[0,2,4,5,6],[(0,0),(1,1),(2,2),(3,3),(4,4),(5,5),(6,6),(7,7)]⟩,_,by rfl,hN1⟩
   ·refine vW (wC (vY ?_));cases hC1;cases hN1;exact vX ⟨⟨[2,5],[(0,0),(1,2),(2,3),(3,7)]⟩,by rfl⟩
  ·rintro _ rfl;dsimp only at hC0⊢;refine wL (pM ?_);refine oY CY ?_;refine pH ?_;cases hC0;exact⟨[],by rfl,by rfl,by rfl⟩
attribute [irreducible] BE
def LA:Option Bool:=(wW ([99,97,116,97,108,111,103,34,100,101,34,123,125,47,42,32,120,32,42,47,101,110,116,114,121,34,97,34,123,116,97,114,103,101,116,34,120,34,125,47,47]:List UInt8)).bind fun O=>if (((((decide (O.2.2.2.2.2=(0:Int)))&&(decide (O.1=([100,101]:List UInt8))))&&(decide ((O.2.2.2.1.length:Int)=(1:Int))))==true)=true→0≤(0:Int)∧(0:Int)<(O.2.2.2.1.length:Int)) then if ((((((decide (O.2.2.2.2.2=(0:Int)))&&(decide (O.1=([100,101]:List UInt8))))&&(decide ((O.2.2.2.1.length:Int)=(1:Int))))&&(decide ((qG tC O.2.2.2.1 (0:Int)).1=([97]:List UInt8))))==true)=true→0≤(0:Int)∧(0:Int)<(O.2.2.2.1.length:Int)) then some ((((((decide (O.2.2.2.2.2=(0:Int)))&&(decide (O.1=([100,101]:List UInt8))))&&(decide ((O.2.2.2.1.length:Int)=(1:Int))))&&(decide ((qG tC O.2.2.2.1 (0:Int)).1=([97]:List UInt8))))&&(decide ((qG tC O.2.2.2.1 (0:Int)).2.2.1=([120]:List UInt8))))) else none else none
section
abbrev a4o:List oZ:=[]
abbrev a4p:List oX:=[]
@[go_sem] def a4q:pD:=⟨[(LA).isSome=true],[(.val .bool (val LA),none)],[]⟩
def aBN:List oZ→List oX→Option pD:=qM (V:=Unit) (fun x=>a4o) (fun x=>a4p) fun x=>a4q
@[go_sem] theorem aMG:aBN (no_index a4o) (no_index a4p)=some a4q:=qQ (fun _ _ h1 h2=>by cases h1;cases h2;rfl) ()
end
@[go_sem] abbrev aBO:Nat×pY:=(15,⟨[],aBN,[],[],none⟩)
theorem ST:qB Tryz.prog [s7,K7,ES,G8] (pZ [a4k]):=⟨⟨sB,⟨RF,⟨I5,⟨K8,trivial⟩⟩⟩⟩,pK aBK qS,qD⟩
theorem aHG:qH Tryz.prog aBO:=by
 refine qR ST Tryz.func15 (c:=_) rfl (N:=38) (by kernel_rfl) (ts:=[(0,none)]) rfl (fun _ _=>rfl) ?_;intro⟨⟩ hs hrow;dsimp only[a4o,a4p,a4q,qI,pG,pN,qE,qK,Nat.reduceAdd] at hs hrow⊢;have hz:=hs;obtain⟨z0,hC0⟩:=aMM.1 hz
 try rw[rG hC0]
 clear hz hs;unfold LA at hC0;refine oY ST ?_;obtain⟨O,hv1,hw1,hC0⟩:=pV hC0
 try simp only[go_sem] at hw1
 refine oY ST ?_ (hp:=by exact(pU hv1)) (h:=by simp only[go_sem,hw1];rfl);obtain⟨hg2,hC0⟩:=pJ hC0;obtain⟨hg3,hC0⟩:=pJ hC0;refine oY ST ?_ (hp:=by exact⟨fun hh=>hh,fun hh=>hh,fun hh=>sG hh,fun hh=>hh,fun hh=>hh,fun hh=>hh,fun hh=>sG hh,fun hh=>hh,fun hh=>hh,hg2,fun hh=>hh,fun hh=>hh,fun hh=>hh,fun hh=>sG hh,fun hh=>hh,fun hh=>hh,hg3,fun hh=>hh,fun hh=>hh,fun hh=>hh,(fun hh=>sG hh)⟩);refine pH ?_;cases hC0;exact⟨[],by rfl,by rfl,by rfl⟩
attribute [irreducible] LA
end
noncomputable section
def IN (O:(List Int)):((List UInt8)×Int)→Option (((List UInt8)×Int)⊕(List UInt8)):=fun(Z,aA)=>if (decide (aA<(O.length:Int)))=true then if 0≤aA∧aA<(O.length:Int) then if (([([32]:List UInt8),([10]:List UInt8),([9]:List UInt8),([13]:List UInt8),([47,42,32,97,32,123,32,34,32,42,47]:List UInt8),([47,47,32,98,32,125,32,34,10]:List UInt8),([47,42,42,42,47]:List UInt8),([47,47,10]:List UInt8)]:List (List UInt8)).length:Int)≠0 then if 0≤(Int.tmod (IntKind.wrap .i64 (qG (.int .u8) O aA)) (([([32]:List UInt8),([10]:List UInt8),([9]:List UInt8),([13]:List UInt8),([47,42,32,97,32,123,32,34,32,42,47]:List UInt8),([47,47,32,98,32,125,32,34,10]:List UInt8),([47,42,42,42,47]:List UInt8),([47,47,10]:List UInt8)]:List (List UInt8)).length:Int))∧(Int.tmod (IntKind.wrap .i64 (qG (.int .u8) O aA)) (([([32]:List UInt8),([10]:List UInt8),([9]:List UInt8),([13]:List UInt8),([47,42,32,97,32,123,32,34,32,42,47]:List UInt8),([47,47,32,98,32,125,32,34,10]:List UInt8),([47,42,42,42,47]:List UInt8),([47,47,10]:List UInt8)]:List (List UInt8)).length:Int))<(([([32]:List UInt8),([10]:List UInt8),([9]:List UInt8),([13]:List UInt8),([47,42,32,97,32,123,32,34,32,42,47]:List UInt8),([47,47,32,98,32,125,32,34,10]:List UInt8),([47,42,42,42,47]:List UInt8),([47,47,10]:List UInt8)]:List (List UInt8)).length:Int) then if ((Z++(qG .str ([([32]:List UInt8),([10]:List UInt8),([9]:List UInt8),([13]:List UInt8),([47,42,32,97,32,123,32,34,32,42,47]:List UInt8),([47,47,32,98,32,125,32,34,10]:List UInt8),([47,42,42,42,47]:List UInt8),([47,47,10]:List UInt8)]:List (List UInt8)) (Int.tmod (IntKind.wrap .i64 (qG (.int .u8) O aA)) (([([32]:List UInt8),([10]:List UInt8),([9]:List UInt8),([13]:List UInt8),([47,42,32,97,32,123,32,34,32,42,47]:List UInt8),([47,47,32,98,32,125,32,34,10]:List UInt8),([47,42,42,42,47]:List UInt8),([47,47,10]:List UInt8)]:List (List UInt8)).length:Int)))).length:Int)≤9223372036854775807 then if p8 (aA+(1:Int)) then some (.inl ((Z++(qG .str ([([32]:List UInt8),([10]:List UInt8),([9]:List UInt8),([13]:List UInt8),([47,42,32,97,32,123,32,34,32,42,47]:List UInt8),([47,47,32,98,32,125,32,34,10]:List UInt8),([47,42,42,42,47]:List UInt8),([47,47,10]:List UInt8)]:List (List UInt8)) (Int.tmod (IntKind.wrap .i64 (qG (.int .u8) O aA)) (([([32]:List UInt8),([10]:List UInt8),([9]:List UInt8),([13]:List UInt8),([47,42,32,97,32,123,32,34,32,42,47]:List UInt8),([47,47,32,98,32,125,32,34,10]:List UInt8),([47,42,42,42,47]:List UInt8),([47,47,10]:List UInt8)]:List (List UInt8)).length:Int)))),(aA+(1:Int)))) else none else none else none else none else none else some (.inr Z)
def IP (O:(List UInt8)) (Z:Int) (aA:(List Int)):Option Bool:=LA.bind fun aB=>if (!aB)=true then some (false) else if ((decide ((4000:Int)<(O.length:Int)))||(decide ((10:Int)<(aA.length:Int))))=true then some (true) else (BE O).bind fun aC=>if (!decide (aC.2.2.2=(0:Int)))=true then some (true) else rE (pR (IN aA) (([]:List UInt8),(0:Int))) fun aD=>if p8 ((aC.2.1.length:Int)+(2:Int)) then if ((aC.2.1.length:Int)+(2:Int))≠0 then (F3 (aC.1,(aC.2.1,(aC.2.2.1,()))) (Int.tmod (IntKind.wrap .i64 Z) ((aC.2.1.length:Int)+(2:Int)))).bind fun aE=>if ((aD++aE.1).length:Int)≤9223372036854775807 then (CW (aC.1,(aC.2.1,(aC.2.2.1,()))) (Int.tmod (IntKind.wrap .i64 Z) ((aC.2.1.length:Int)+(2:Int))) (aD++aE.1)).bind fun aF=>(wW O).bind fun aG=>(IE (aF.1,(aF.2.1,(aF.2.2.1,())))).bind fun aH=>(wW aH).bind fun aI=>if ((O++([10]:List UInt8)).length:Int)≤9223372036854775807 then if (((O++([10]:List UInt8))++aD).length:Int)≤9223372036854775807 then (wW ((O++([10]:List UInt8))++aD)).bind fun aJ=>if ((((((decide (aF.2.2.2=(0:Int)))&&(decide (aG.2.2.2.2.2=(0:Int))))&&(decide (aI.2.2.2.2.2=(0:Int))))&&(decide (aJ.2.2.2.2.2=(0:Int))))==true)=true→((IL (aG.1,(aG.2.1,(aG.2.2.1,(aG.2.2.2.1,())))) (aI.1,(aI.2.1,(aI.2.2.1,(aI.2.2.2.1,())))))).isSome=true) then if (((((((decide (aF.2.2.2=(0:Int)))&&(decide (aG.2.2.2.2.2=(0:Int))))&&(decide (aI.2.2.2.2.2=(0:Int))))&&(decide (aJ.2.2.2.2.2=(0:Int))))&&((((decide (aG.1=aI.1))&&(val (v7 aG.2.1 aI.2.1)))&&(val (y4 aG.2.2.1 aI.2.2.1)))&&(val (BX aG.2.2.2.1 aI.2.2.2.1))))==true)=true→((IL (aG.1,(aG.2.1,(aG.2.2.1,(aG.2.2.2.1,())))) (aJ.1,(aJ.2.1,(aJ.2.2.1,(aJ.2.2.2.1,())))))).isSome=true) then some (((((((decide (aF.2.2.2=(0:Int)))&&(decide (aG.2.2.2.2.2=(0:Int))))&&(decide (aI.2.2.2.2.2=(0:Int))))&&(decide (aJ.2.2.2.2.2=(0:Int))))&&((((decide (aG.1=aI.1))&&(val (v7 aG.2.1 aI.2.1)))&&(val (y4 aG.2.2.1 aI.2.2.1)))&&(val (BX aG.2.2.2.1 aI.2.2.2.1))))&&((((decide (aG.1=aJ.1))&&(val (v7 aG.2.1 aJ.2.1)))&&(val (y4 aG.2.2.1 aJ.2.2.1)))&&(val (BX aG.2.2.2.1 aJ.2.2.2.1))))) else none else none else none else none else none else none else none
section
variable (O:(List UInt8)) (Z:Int) (aA:(List Int))
abbrev O2:List oZ:=[(.val .str O,none),(.val (.int .u8) Z,none),(.val (.list (.int .u8)) aA,none)]
abbrev SU:List oX:=[]
@[go_sem] def LB:pD:=⟨[((IP O Z aA)).isSome=true],[(.val .bool (val (IP O Z aA)),none)],[]⟩
def a4r:List oZ→List oX→Option pD:=qM (V:=((List UInt8)×Int×(List Int))) (fun x=>O2 x.1 x.2.1 x.2.2) (fun x=>SU) fun x=>LB x.1 x.2.1 x.2.2
@[go_sem] theorem aHH:a4r (no_index (O2 O Z aA)) (no_index SU)=some (LB O Z aA):=qQ (fun⟨a0,a1,a2⟩ ⟨b0,b1,b2⟩ h1 h2=>by cases h1;cases h2;rfl) (O,Z,aA)
end
@[go_sem] abbrev aHI:Nat×pY:=(5,⟨[.v,.v,.v],a4r,[],[],none⟩)
theorem vN:qB Tryz.prog [v6,GA,s7,zR,ES,DH,ET] (pZ [aBO,aBM,aAf,aAh,a4k,aAb,aAK]):=⟨⟨vM,⟨KA,⟨sB,⟨B8,⟨I5,⟨G7,⟨I6,trivial⟩⟩⟩⟩⟩⟩⟩,pK aHG (pK aHF (pK aG4 (pK aG5 (pK aBK (pK aG2 (pK aHh qS)))))),qD⟩
theorem aHJ:qH Tryz.prog aHI:=by
 refine qR vN Tryz.func5 (c:=_) rfl (N:=131) (by kernel_rfl) (ts:=[(6,none)]) rfl (fun _ _=>rfl) ?_;intro⟨O,Z,aA⟩ hs hrow;dsimp only[O2,SU,LB,qI,pG,pN,qE,qK,Nat.reduceAdd] at hs hrow⊢;have hz:=hs;obtain⟨z0,hC0⟩:=aMM.1 hz
 try rw[rG hC0]
 clear hz hs;unfold IP at hC0;refine oY vN ?_;refine pX ?_;obtain⟨aB,hv1,hw1,hC0⟩:=pV hC0
 try simp only[go_sem] at hw1
 refine oY vN ?_ (hp:=by exact(pU hv1)) (h:=by simp (maxSteps:=2000000) only[go_sem,hw1];rfl);refine pP hC0 (fun hC0 hc1=> ?_) (fun hC0 hc1=> ?_)
 ·refine oY vN ?_;refine pH (rI ?_);cases hC0;exact⟨[],by rfl,by rfl,by rfl⟩
 ·refine qJ (pM (pX ?_));refine oY vN ?_ (hp:=by exact⟨fun hh=>hh,fun hh=>hh,(fun hh=>xX hh)⟩);refine pP hC0 (fun hC0 hc2=> ?_) (fun hC0 hc2=> ?_)
  ·refine oY vN ?_;refine pH (rI ?_);cases hC0;exact⟨[],by rfl,by rfl,by rfl⟩
  ·refine qJ (pM ?_);obtain⟨aC,hv2,hw2,hC0⟩:=pV hC0
   try simp only[go_sem] at hw2
   refine oY vN ?_ (hp:=by exact(pU hv2)) (h:=by simp (maxSteps:=2000000) only[go_sem,hw2];rfl);refine pX ?_;refine oY vN ?_;refine pP hC0 (fun hC0 hc3=> ?_) (fun hC0 hc3=> ?_)
   ·refine oY vN ?_;refine pH (rI ?_);cases hC0;exact⟨[],by rfl,by rfl,by rfl⟩
   ·refine qJ (pM ?_);refine oY vN ?_;refine oY vN ?_;refine pX ?_;refine oY vN ?_;refine rR ?_;obtain⟨aD,hy1,hC0⟩:=pA hC0;refine wN 0 (fun s=>s=(fun x=>⟨[(0,(.val .str O,none)),(1,(.val (.int .u8) Z,none)),(7,(.val .ref (some (0,0)),none)),(10,(.val .str x,none))],[(0,.cells AK (aC.1,(aC.2.1,(aC.2.2.1,()))) [])],1,131,0⟩) aD) ?_ ?_
    ·refine wM hy1 (fun x=>⟨[(0,(.val .str O,none)),(1,(.val (.int .u8) Z,none)),(2,(.val (.list (.int .u8)) aA,none)),(7,(.val .ref (some (0,0)),none)),(9,(.val (.list .str) ([([32]:List UInt8),([10]:List UInt8),([9]:List UInt8),([13]:List UInt8),([47,42,32,97,32,123,32,34,32,42,47]:List UInt8),([47,47,32,98,32,125,32,34,10]:List UInt8),([47,42,42,42,47]:List UInt8),([47,47,10]:List UInt8)]:List (List UInt8)),some 1)),(10,(.val .str x.1,none)),(11,(.val (.int .i64) x.2,none))],[(0,.cells AK (aC.1,(aC.2.1,(aC.2.2.1,()))) []),(1,.grow 9 1 (([([32]:List UInt8),([10]:List UInt8),([9]:List UInt8),([13]:List UInt8),([47,42,32,97,32,123,32,34,32,42,47]:List UInt8),([47,47,32,98,32,125,32,34,10]:List UInt8),([47,42,42,42,47]:List UInt8),([47,47,10]:List UInt8)]:List (List UInt8)).length))],2,131,0⟩) ⟨[0,1,2,7,9,10,11],[(0,512),(1,672)]⟩ (by rfl) ?_;intro x1 w1 n1 hC1 hN1;obtain⟨aE,aF⟩:=x1;unfold IN at hC1;dsimp only at hC1⊢;refine pX ?_;refine oY vN ?_;refine pP hC1 (fun hC1 hc4=> ?_) (fun hC1 hc4=> ?_)
     ·refine qJ (pM (pX (rR ?_)));obtain⟨hg3,hC1⟩:=pJ hC1;obtain⟨hg4,hC1⟩:=pJ hC1;obtain⟨hg5,hC1⟩:=pJ hC1;obtain⟨hg6,hC1⟩:=pJ hC1;refine qY vN ?_ (hp:=by exact⟨hg3,hg4,hg5,hg6⟩);refine qV (pM ?_);obtain⟨hg7,hC1⟩:=pJ hC1;refine qY vN ?_ (hp:=by exact hg7);cases hC1;exact tO ⟨⟨[0,1,2,7,9,10,11],[(0,0),(1,1)]⟩,_,by rfl,hN1⟩
     ·refine vW (wC (vY ?_));cases hC1;cases hN1;exact vX ⟨⟨[0,1,7,10],[(0,0)]⟩,by rfl⟩
    ·rintro _ rfl;dsimp only at hC0⊢;refine wL (pM ?_);obtain⟨hg8,hC0⟩:=pJ hC0;obtain⟨hg9,hC0⟩:=pJ hC0;refine oY vN ?_ (hp:=by exact⟨hg8,hg9⟩);obtain⟨aG,hv10,hw10,hC0⟩:=pV hC0
     try simp only[go_sem] at hw10
     refine oY vN ?_ (hp:=by exact(pU hv10)) (h:=by simp (maxSteps:=2000000) only[go_sem,hw10];rfl);obtain⟨hg11,hC0⟩:=pJ hC0;obtain⟨aH,hv12,hw12,hC0⟩:=pV hC0
     try simp only[go_sem] at hw12
     refine oY vN ?_ (hp:=by exact⟨hg11,(pU hv12)⟩) (h:=by simp (maxSteps:=2000000) only[go_sem,hw12];rfl);obtain⟨aI,hv13,hw13,hC0⟩:=pV hC0
     try simp only[go_sem] at hw13
     refine oY vN ?_ (hp:=by exact(pU hv13)) (h:=by simp (maxSteps:=2000000) only[go_sem,hw13];rfl);obtain⟨aJ,hv14,hw14,hC0⟩:=pV hC0
     try simp only[go_sem] at hw14
     obtain⟨aK,hv15,hw15,hC0⟩:=pV hC0
     try simp only[go_sem] at hw15
     refine oY vN ?_ (hp:=by exact⟨pU hv14,(pU hv15)⟩) (h:=by simp (maxSteps:=2000000) only[go_sem,hw14,hw15];rfl);obtain⟨hg16,hC0⟩:=pJ hC0;obtain⟨hg17,hC0⟩:=pJ hC0;obtain⟨aL,hv18,hw18,hC0⟩:=pV hC0
     try simp only[go_sem] at hw18
     refine oY vN ?_ (hp:=by exact⟨hg16,hg17,(pU hv18)⟩) (h:=by simp (maxSteps:=2000000) only[go_sem,hw18];rfl);obtain⟨hg19,hC0⟩:=pJ hC0;obtain⟨hg20,hC0⟩:=pJ hC0;refine oY vN ?_ (hp:=by exact⟨fun hh=>hh,fun hh=>sG hh,fun hh=>hh,fun hh=>sG hh,fun hh=>hh,fun hh=>sG hh,fun hh=>hh,fun hh=>hh,hg19,fun hh=>sG hh,fun hh=>hh,fun hh=>hh,hg20,(fun hh=>sG hh)⟩);refine pH ?_;cases hC0;exact⟨[],by rfl,by rfl,by rfl⟩
attribute [irreducible] IP
end
end Go.Proofs.YtbbpilohihldiaaGreatDoor
section
end
namespace Go.Proofs.YtbbpilohihldiaaGreatDoor
open Vc
theorem sR {i:Nat}(h:i<=4000000000):p8 ((i:Int)+1):=by unfold p8;omega
theorem rX {i n:Nat}(h:i<n):0<=(i:Int)/\(i:Int)<(n:Int):=⟨by omega,by omega⟩
theorem uF {i n:Nat}(h:i<n):decide ((i:Int)<(n:Int))=true:=by simpa using h
theorem zG (n:Nat): ¬decide ((n:Int)<(n:Int))=true:=by simp
theorem aBP {α:Type}{p:α->Bool}: ∀{l:List α},(l.findIdx? p).isSome=l.any p
 |[]=>rfl
 |x::l=>by
  rw[aND,List.any_cons];cases p x with
  |true=>rfl
  |false=>simp [aBP (l:=l)]
theorem LC {α β:Type}{p:α->Bool}{l:List α}{f:Nat->β}{b:β}:tZ f b (l.findIdx? p)=if l.any p=true then f ((l.findIdx? p).getD 0) else b:=by
 rw[<-aBP];cases l.findIdx? p with
 |none=>rfl
 |some k=>rfl
def LD (c:Int):Bool:=(((!((decide ((97:Int)<=c))&&(decide (c<=(122:Int)))))&&(!((decide ((48:Int)<=c))&&(decide (c<=(57:Int))))))&&(!decide (c=(45:Int))))&&((decide (c<(65:Int)))||(decide ((90:Int)<c)))
def tW (s:List UInt8):Bool:= !(s.any fun b=>LD b.toNat)&&((decide ((1:Int)<=(s.length:Int)))&&(decide ((s.length:Int)<=(40:Int))))
theorem LE (s:List UInt8) (hs:pQ s):F4 s=some (tW s):=by
 unfold pQ at hs;have h:=CS (f:=SD s) (l:=s) (fun b=>LD b.toNat) (fun _=>false) (fun i h=>by
  unfold SD;rw[aMI (uF h),aMI (rX h),xB h,aMI (sR (by omega))];rfl) (by
  unfold SD;rw[aMK (zG _)])
 unfold F4;rw[h,LC];unfold tW;cases s.any fun b=>LD b.toNat<;>rfl
def SV (c:Int):Bool:=((((decide (c<(97:Int)))||(decide ((122:Int)<c)))&&((decide (c<(65:Int)))||(decide ((90:Int)<c))))&&((decide (c<(48:Int)))||(decide ((57:Int)<c))))&&(!decide (c=(45:Int)))
theorem aHK (c:Int):SV c=LD c:=by
 unfold SV LD;rw[aNM];simp;omega
theorem aBQ (s:List UInt8):GC s=some (tW s):=by
 have h:=a8R (f:=N9 s) (s:=s) (fun c=>SV c) (fun _=>false) (fun c h=>by unfold SV;simp;omega) (fun i h=>by
  unfold N9;rw[aMI (by simpa using h),aMI (by simpa using h)];rfl) (by
  unfold N9;rw[aMK (by simp)])
 unfold GC;rw[h,LC];simp only[aHK];unfold tW;cases s.any fun b=>LD b.toNat<;>rfl
def xF (c:Int):Bool:=((((!((decide ((97:Int)<=c))&&(decide (c<=(122:Int)))))&&(!((decide ((48:Int)<=c))&&(decide (c<=(57:Int))))))&&(!decide (c=(45:Int))))&&(!decide (c=(95:Int))))&&(!decide (c=(46:Int)))
def yA (c:Int):Bool:=(decide ((97:Int)<=c))&&(decide (c<=(122:Int)))
def rT:List UInt8->Bool
 |[]=>false
 |b::t=>(!decide (40<t.length+1)&&yA b.toNat)&& !(t.any fun b=>xF b.toNat)
theorem aBR (s:List UInt8) (hs:pQ s):NO s=some (rT s):=by
 unfold pQ at hs;unfold NO;cases s with
 |nil=>simp [rT]
 |cons b t=>
  have hb0:pI (b::t) (0:Int)=(b.toNat:Int):=xB (i:=0) (by simp);rw[aMI (fun _=>⟨aNy 0,by simp only[aMO];omega⟩),hb0];unfold rT;by_cases hl:(40:Int)<((b::t).length:Int)
  ·have hl2:40<t.length+1:=by simp only[aMO] at hl;omega
   rw[aMI (by simp only[hl,decide_true,Bool.or_true,Bool.true_or])];simp [hl2]
  ·have hl2: ¬40<t.length+1:=by simp only[aMO] at hl;omega
   have hl3: ¬((b::t).length:Int)<1:=by simp;omega
   by_cases hb:yA b.toNat=true
   ·rw[aMK (by unfold yA at hb;simp only[hl,hl3,hb];simp)];have h:=Y0 (f:=SE (b::t)) (l:=b::t) (fun b=>xF b.toNat) (fun _=>false) (fun i h=>by
     unfold SE;rw[aMI (uF h),aMI (rX h),xB h,aMI (sR (by omega))];rfl) (by
     unfold SE;rw[aMK (zG _)]) t.length 1 (by simp;omega)
    rw[show ((1:Nat):Int)=1 from rfl] at h;rw[h,LC];simp only[aOF,aNY,hb,hl2,decide_false,Bool.not_false,Bool.true_and];cases t.any fun b=>xF b.toNat<;>rfl
   ·rw[aMI (by unfold yA at hb;simp only[hb];simp)];simp [hb]
theorem aBS (s:List UInt8): ∀(n j:Nat),j+n=s.length->pR (KI s) j=some (if (s.drop j).any (fun b=>xF b.toNat)=true\/(j=0/\s≠[]/\yA (s.getD 0 0).toNat=false) then .inr false else .inl ())
 |0,j,hj=>by
  have:j=s.length:=by omega
  subst this;rw[aNu,wQ];unfold KI;rw[aMK (by simp)];by_cases h0:s=[]
  ·subst h0;simp
  ·have:s.length≠0:=by simpa using h0
   simp [this]
 |n+1,j,hj=>by
  have hlt:j<s.length:=by omega
  have ih:=aBS s n (j+1) (by omega);rw[wQ,aM8 hlt,List.any_cons];have hstep:KI s j=if (xF (s[j].toNat:Int)=true\/(j=0/\yA (s[j].toNat:Int)=false)) then some (.inr (.inr false)) else some (.inl (j+1)):=by
   unfold KI;rw[aMI (by simpa using hlt),aMI (by simpa using hlt),aMI (by simpa using hlt)];by_cases ha:s[j].toNat<128
   ·obtain⟨e1,e2⟩:=a8O hlt ha;rw[e1,e2];by_cases h1:yA (s[j].toNat:Int)=true
    ·rw[aMI (by unfold yA at h1;exact h1),aMK];unfold yA at h1;simp only[aMS,aMQ] at h1;simp [xF,yA];omega
    ·have h1':yA (s[j].toNat:Int)=false:=by simpa using h1
     rw[aMK (by unfold yA at h1;exact h1)];have h2: ¬(97<=(s[j].toNat:Int)/\(s[j].toNat:Int)<=122):=by
      unfold yA at h1;simpa using h1
     by_cases h3:xF (s[j].toNat:Int)=true\/j=0
     ·rw[aMK,aMI]
      ·rcases h3 with h3|h3
       ·exact .inl h3
       ·exact .inr ⟨h3,h1'⟩
      ·simp [xF] at h3⊢;omega
     ·rw[aMI,aMK]
      ·intro h;rcases h with h|⟨h,_⟩
       ·exact h3 (.inl h)
       ·exact h3 (.inr h)
      ·simp [xF] at h3⊢;omega
   ·have hb:=a8P hlt (by omega);rw[aMK (by simp;omega),aMK (by simp;omega),aMI (.inl (by simp [xF];omega))]
  rw[hstep];have hd:s.getD 0 0=s[0]'(by omega):=by simp [aNa,aMR (show 0<s.length by omega)]
  have hne:s≠[]:=by intro h;subst h;simp at hlt
  by_cases hp:xF (s[j].toNat:Int)=true\/(j=0/\yA (s[j].toNat:Int)=false)
  ·rw[aMI hp,aMI]
   ·rfl
   ·rcases hp with hp|⟨rfl,hp⟩
    ·left;simp [hp]
    ·right;exact⟨rfl,hne,by rw[hd];exact hp⟩
  ·rw[aMK hp];show pR _ (j+1)=_;rw[ih];have hnb:xF (s[j].toNat:Int)=false:=by
    cases h:xF (s[j].toNat:Int) with
    |true=>exact absurd (.inl h) hp
    |false=>rfl
   simp only[hnb,Bool.false_or];congr 2;apply propext;constructor
   ·rintro(h|⟨h,_⟩)
    ·exact .inl h
    ·omega
   ·rintro(h|⟨rfl,_,h⟩)
    ·exact .inl h
    ·rw[hd] at h;exact absurd (.inr ⟨rfl,h⟩) hp
theorem aBT (s:List UInt8):DL s=some (rT s):=by
 have h:=aBS s s.length 0 (by omega);unfold DL;rw[h,aNY];cases s with
 |nil=>simp [rT,s5]
 |cons b t=>
  simp only[List.any_cons,List.getD_cons_zero,ne_eq,reduceCtorEq,not_false_eq_true,true_and,rT];cases hs:yA b.toNat with
  |false=>simp [s5]
  |true=>
   have hn:xF b.toNat=false:=by
    unfold yA at hs;simp only[aMS,aMQ] at hs;simp [xF];omega
   simp only[hn,Bool.false_or];cases t.any (fun b=>xF b.toNat) with
   |true=>simp [s5]
   |false=>
    simp only[aN9,false_or,and_false,aOS];show some (decide ((1:Int)<=((b::t).length:Int))&&decide (((b::t).length:Int)<=40))=_;congr 1;rw[aNM];simp only[aMO,aMS,aMQ,aNh,aNr,Bool.not_false,and_true];omega
theorem a4s {α:Type}{p:α->Bool}{l:List α}:tZ (fun _=>true) false (l.findIdx? p)=l.any p:=by
 rw[LC];cases l.any p<;>rfl
theorem FD {β:Type}{f:Nat->β}{b:β}{o:Option Nat}:s5 (some (tZ (fun k=> .inr (f k)) (.inl ()) o)) (fun _=>some b)=some (tZ f b o):=by
 cases o<;>rfl
theorem aHL (l:List (List UInt8)) (s:List UInt8) (hl:pQ l):S7 l s=some (l.any fun x=>decide (x=s)):=by
 unfold pQ at hl;have h:=CS (f:=S6 l s) (l:=l) (fun x=>decide (x=s)) (fun _=>true) (fun i h=>by
  unfold S6;rw[aMI (uF h),aMI (rX h),y3 (t:= .str) h,aMI (sR (by omega))]) (by
  unfold S6;rw[aMK (zG _)])
 unfold S7;rw[h,FD,a4s]
theorem aBU (l:List (List UInt8)) (s:List UInt8) (hl:pQ l):BA l s=some (tZ (fun k=>(k:Int)) (-1) (l.findIdx? fun x=>decide (s=x))):=by
 unfold pQ at hl;have h:=CS (f:=ND l s) (l:=l) (fun x=>decide (s=x)) (fun k=>(k:Int)) (fun i h=>by
  unfold ND;rw[aMI (uF h),aMI (rX h),y3 (t:= .str) h,aMI (sR (by omega))]) (by
  unfold ND;rw[aMK (zG _)])
 unfold BA;rw[h,FD]
theorem aHM {α:Type}{p:α->Bool}{l:List α}:decide ((0:Int)<=tZ (fun k=>(k:Int)) (-1) (l.findIdx? p))=l.any p:=by
 rw[LC];cases l.any p
 ·rfl
 ·simp only[aOk,aMQ];omega
theorem aHN (l:List (List UInt8)) (s:List UInt8) (hl:pQ l):F5 l s=some (l.any fun x=>decide (x=s)):=by
 unfold F5;rw[aBU l s hl];show some (decide _)=_;rw[aHM];simp only[eq_comm]
def BF:List (List UInt8):=[[110,101,119],[102,117,122,122,121],[116,114,97,110,115,108,97,116,101,100],[114,101,118,105,101,119,101,100],[111,98,115,111,108,101,116,101]]
def sS (s:List UInt8):Int:=tZ (fun k=>(k:Int)) (-1) (BF.findIdx? fun x=>decide (x=s))
theorem aBV (s:List UInt8):KG s=some (sS s):=by
 have h:=CS (f:=RY s) (l:=BF) (fun x=>decide (x=s)) (fun k=>(k:Int)) (fun i h=>by
  have h5:i<5:=h;unfold RY YT;rw[aMI (by simp;omega),aMI (⟨by omega,by simp;omega⟩)];show (if decide (qG .str BF (i:Int)=s)=true then _ else _)=_;rw[y3 (t:= .str) h,aMI (sR (by omega))]) (by
  unfold RY;rw[aMK (by simp [BF])])
 unfold KG;rw[h,FD];rfl
theorem SW (s:List UInt8):GJ s=some (decide (0<=sS s))/\BA BF s=some (sS s):=by
 have hi:BA BF s=some (sS s):=by
  rw[aBU BF s (by unfold pQ;decide)];unfold sS;simp only[eq_comm]
 refine⟨?_,hi⟩;unfold GJ F5;show ((BA BF s).bind _).bind _=_;rw[hi];rfl
abbrev rC:=List UInt8×List UInt8×Unit
abbrev tF:Ty:= .pair .str (.pair .str .unit)
def zX (l:List rC) (n:List UInt8):Option Nat:=l.findIdx? fun x=>decide (x.1=n)
def O3 (l:List rC) (n:List UInt8):List UInt8×Bool:=tZ (fun k=>((l.getD k ([],[],())).2.1,true)) ([],false) (zX l n)
theorem aBW (l:List rC) (n:List UInt8):(O3 l n).2=l.any fun x=>decide (x.1=n):=by
 unfold O3 zX;rw[LC];cases l.any fun x=>decide (x.1=n)<;>rfl
theorem aHO (l:List rC) (n:List UInt8) (hl:pQ l):S0 l n=some (O3 l n):=by
 unfold pQ at hl;have h:=CS (f:=RZ l n) (l:=l) (fun x=>decide (x.1=n)) (fun k=>((l.getD k ([],[],())).2.1,true)) (fun i h=>by
  unfold RZ;rw[aMI (uF h),aMI (rX h),y3 (t:=tF) h,aMI (rX h),aMI (sR (by omega)),aNa,aMR h];rfl) (by
  unfold RZ;rw[aMK (zG _)])
 unfold S0;rw[h,FD];rfl
theorem aBX (l:List rC) (n:List UInt8) (hl:pQ l):F6 l n=some (tZ (fun k=>(k:Int)) (-1) (zX l n)):=by
 unfold pQ at hl;have h:=CS (f:=NH l n) (l:=l) (fun x=>decide (x.1=n)) (fun k=>(k:Int)) (fun i h=>by
  unfold NH;rw[aMI (uF h),aMI (rX h),y3 (t:=tF) h,aMI (sR (by omega))]) (by
  unfold NH;rw[aMK (zG _)])
 unfold F6 KQ;rw[h,FD];rfl
theorem a4t {l:List rC}{n:List UInt8}{k:Nat}(h:zX l n=some k):k<l.length:=by
 unfold zX at h;exact(aNl.1 h).1
theorem aHP (l:List rC) (n:List UInt8) (hl:pQ l):GI l n=some (O3 l n):=by
 unfold GI;rw[aBX l n hl];unfold O3;cases h:zX l n with
 |none=>rfl
 |some k=>
  have hk:=a4t h;simp only[tZ,aMH];rw[aMK (by simp),aMI (rX hk),y3 (t:=tF) hk];simp only[tZ,aNa,aMR hk];rfl
def FE (l:List rC) (n:List UInt8):Nat:=(l.findIdx? fun x=> !(Op.bytesLess x.1 n||decide (x.1=n))).getD l.length
def AQ (l:List rC) (n v:List UInt8):List rC:=tZ (fun k=>l.set k (n,v,())) (l.take (FE l n)++[(n,v,())]++l.drop (FE l n)) (zX l n)
theorem aBY (l:List rC) (n:List UInt8):FE l n<=l.length:=by
 unfold FE;cases h:l.findIdx? fun x=> !(Op.bytesLess x.1 n||decide (x.1=n)) with
 |none=>exact aM2 _
 |some k=>exact Nat.le_of_lt (aNl.1 h).1
theorem aHQ (l:List rC) (n v:List UInt8):(AQ l n v).length<=l.length+1:=by
 have:=aBY l n;unfold AQ;cases zX l n with
 |none=>simp [tZ];omega
 |some k=>simp [tZ]
theorem aBZ {l:List rC}{n:List UInt8}{k:Nat}(h:zX l n=some k) (hk:k<l.length):l[k].1=n:=by
 unfold zX at h;have:=(aNl.1 h).2.1;simpa using this
theorem aB0 (l:List rC) (n v:List UInt8) (hl:pQ l):GL l n v=some (AQ l n v):=by
 have hl':=hl;unfold pQ at hl';unfold GL GE;rw[aMI (by omega)];show (F6 ([]++l) n).bind _=_;rw[List.nil_append,aBX l n hl];unfold AQ;cases h:zX l n with
 |some k=>
  have hk:=a4t h;simp only[tZ,aMH];rw[aMI (by simp),aMI (rX hk),y3 (t:=tF) hk,aNp];congr 2;exact Prod.ext (aBZ h hk) rfl
 |none=>
  simp only[tZ,aMH];rw[aMK (by decide)];have h2:=CS (f:=NI l n) (l:=l) (fun x=> !(Op.bytesLess x.1 n||decide (x.1=n))) (fun k=>(k:Int)) (fun i h=>by
   unfold NI;rw[aMI (uF h),aMI (rX h),y3 (t:=tF) h,aMI (sR (by omega))]) (by
   unfold NI;rw[aMK (zG _)])
  unfold KR;rw[h2,FD];unfold FE;cases h3:l.findIdx? fun x=> !(Op.bytesLess x.1 n||decide (x.1=n)) with
  |none=>
   simp only[tZ,aMH];rw[aMI (by decide),aMI ⟨by omega,aNy _⟩,aMI (by simp;omega)];simp [AI,tZ]
  |some k=>
   have hk:k<l.length:=(aNl.1 h3).1;simp only[tZ,aMH];rw[aMK (by simp),aMI ⟨by omega,by omega⟩,aMI (by simp;omega)];simp [AI,tZ]
theorem SX {α:Type}{f:Int->Option (Int⊕Int)}{l:List α}(p:α->Bool)
  (hf: ∀(i:Nat) (h:i<l.length),f i=if p l[i]=true then some (.inl (i+1)) else some (.inr i)) (he:f l.length=some (.inr l.length)):
  ∀(n j:Nat),j+n=l.length->pR f j=some (((j+((l.drop j).findIdx? fun x=> !p x).getD n:Nat)):Int)
 |0,j,hj=>by
  have:j=l.length:=by omega
  subst this;rw[aNu,wQ,he];simp
 |n+1,j,hj=>by
  have hlt:j<l.length:=by omega
  rw[wQ,hf j hlt,aM8 hlt,aND];by_cases hp:p l[j]=true
  ·rw[aMI hp,aMK (by simp [hp])];show pR f ((j:Int)+1)=_;rw[show ((j:Int)+1)=((j+1:Nat):Int) by omega,SX p hf he n (j+1) (by omega)];cases(l.drop (j+1)).findIdx? fun x=> !p x with
   |none=>simp;omega
   |some k=>simp;omega
  ·rw[aMK hp,aMI (by simpa using hp)];simp
theorem aB1 {α:Type}{f:Int->Option (Int⊕Int)}{l:List α}(p:α->Bool)
  (hf: ∀(i:Nat) (h:i<l.length),f i=if p l[i]=true then some (.inl (i+1)) else some (.inr i)) (he:f l.length=some (.inr l.length)):
  pR f 0=some (((l.findIdx? fun x=> !p x).getD l.length:Nat):Int):=by
 have:=SX p hf he l.length 0 (by omega);simpa using this
theorem SY {α:Type}{l:List α}{k:Nat}:pE l 0 (k:Int)=l.take k:=by unfold pE;simp
theorem DT {α:Type}{l:List α}{k:Nat}:pE l (k:Int) (l.length:Int)=l.drop k:=by
 unfold pE;rw[aNp,aNp,List.take_of_length_le];rw[aMP];exact aM2 _
theorem aB2 (l:List rC) (n v:List UInt8) (hl:pQ l):S2 l n v=some (AQ l n v):=by
 have hl':=hl;unfold pQ at hl';unfold S2;rw[aMI (by omega)];have h1:=CS (f:=S1 l n v) (l:=l) (fun x=>decide (x.1=n)) (fun k=>l.set k ((l.getD k ([],[],())).1,(v,(l.getD k ([],[],())).2.2))) (fun i h=>by
  unfold S1;rw[List.nil_append,aMI (uF h),aMI (rX h),y3 (t:=tF) h,aMI (rX h),aMI (sR (by omega)),aNa,aMR h,aNp];rfl) (by
  unfold S1;rw[List.nil_append,aMK (zG _)])
 rw[h1];unfold AQ;show s5 (some (tZ _ _ (zX l n))) _=_;cases h:zX l n with
 |some k=>
  have hk:=a4t h;simp only[tZ,aNa,aMR hk];show some (l.set k _)=_;congr 2;exact Prod.ext (aBZ h hk) rfl
 |none=>
  show rE (pR (KH l n) 0) _=_;have h2:=aB1 (f:=KH l n) (l:=l) (fun x=>Op.bytesLess x.1 n||decide (x.1=n)) (fun i h=>by
   unfold KH;rw[aMI (fun _=>rX h),y3 (t:=tF) h,uF h,Bool.true_and,aMI (sR (by omega))]) (by
   unfold KH;have hF:decide ((l.length:Int)<(l.length:Int))=false:=by simp
   rw[hF,aMI (fun h=>by simp at h),aOA,aMK (by decide)])
  rw[show pR (KH l n) 0=some ((FE l n:Nat):Int) from h2];have hk:=aBY l n;unfold rE;rw[aMH,aMI ⟨aNy _,by omega,by omega⟩,SY,DT,aMI (by simp;omega),aMI (by simp;omega),aMI ⟨by omega,by omega,aNy _⟩,aMI (by simp;omega)];simp [tZ]
def zH (n:Int):Prop:=0≤n∧n≤1114111∧(n<55296∨57343<n)
def vG (n:Int):Bool:=(((decide ((0:Int)≤n))&&(decide (n≤(1114111:Int))))&&((decide (n<(55296:Int)))||(decide ((57343:Int)<n))))
theorem FF (n:Int):vG n=true↔zH n:=by
  unfold vG zH;simp;omega
theorem SZ {n:Int}(h0:0≤n) (h1:n≤127):Lib.encodeRune n=sD [n]:=by
  unfold Lib.encodeRune;rw[Lib.encodeRuneZ_one h0 h1];rfl
theorem T0 {n:Int}(h0:128≤n) (h1:n≤2047):Lib.encodeRune n=sD [192+n/64,128+n%64]:=by
  unfold Lib.encodeRune;rw[Lib.encodeRuneZ_two h0 h1];rfl
theorem a4u {n:Int}(h:(2048≤n∧n<55296)∨(57343<n∧n≤65535)):Lib.encodeRune n=sD [224+n/4096,128+n/64%64,128+n%64]:=by
  unfold Lib.encodeRune;rw[Lib.encodeRuneZ_three h];rfl
theorem aB3 {n:Int}(h0:65536≤n) (h1:n≤1114111):Lib.encodeRune n=sD [240+n/262144,128+n/4096%64,128+n/64%64,128+n%64]:=by
  unfold Lib.encodeRune;rw[Lib.encodeRuneZ_four h0 h1];rfl
theorem a4v {n:Int}(h:zH n):CT n=some (Lib.encodeRune n):=by
  obtain⟨h0,h1,hs⟩:=h;have w1:IntKind.i64.wrap (n/64)=n/64:=by rw[aNH];omega
  have w2:IntKind.i64.wrap (n/4096)=n/4096:=by rw[aNH];omega
  have w3:IntKind.i64.wrap (n/262144)=n/262144:=by rw[aNH];omega
  have m1:Int.tmod n 64=n%64:=aOy h0;have m2:Int.tmod (n/64) 64=n/64%64:=aOy (by omega);have m3:Int.tmod (n/4096) 64=n/4096%64:=aOy (by omega);unfold CT;simp only[Int.tdiv_eq_ediv_of_nonneg h0,w1,w2,w3,m1,m2,m3,aN0];by_cases c1:n<128
  ·rw[aMI (by simpa using c1),SZ h0 (by omega),show n%256=n by omega]
  · rw[aMK (by simpa using c1)]
    by_cases c2:n<2048
    ·rw[aMI (by simpa using c2),aMI (by unfold p8;omega),aMI (by unfold p8;omega),T0 (by omega) (by omega),show (192+n/64) %256=192+n/64 by omega,show (128+n%64) %256=128+n%64 by omega]
    · rw[aMK (by simpa using c2)]
      by_cases c3:n<65536
      ·rw[aMI (by simpa using c3),aMI (by unfold p8;omega),aMI (by unfold p8;omega),aMI (by unfold p8;omega),a4u (by omega),show (224+n/4096) %256=224+n/4096 by omega,show (128+n/64%64) %256=128+n/64%64 by omega,show (128+n%64) %256=128+n%64 by omega]
      ·rw[aMK (by simpa using c3),aMI (by unfold p8;omega),aMI (by unfold p8;omega),aMI (by unfold p8;omega),aMI (by unfold p8;omega),aB3 (by omega) (by omega),show (240+n/262144) %256=240+n/262144 by omega,show (128+n/4096%64) %256=128+n/4096%64 by omega,show (128+n/64%64) %256=128+n/64%64 by omega,show (128+n%64) %256=128+n%64 by omega]
theorem a4w {n:Int}{k:Int}{j:Nat}(hj:k.toNat=j) (h32:j≤32):w6 .i32 n k=n/2^j:=by
  unfold w6;rw[hj,show min j IntKind.i32.bits=j from Nat.min_eq_left h32,Int.fdiv_eq_ediv_of_nonneg];exact Int.pow_nonneg (by decide)
theorem aHR {n:Int}(p:List Int) (h:zH n) (hp:pQ p):GK p n=some (p++Lib.encodeRuneZ n):=by
  obtain⟨h0,h1,hs⟩:=h;unfold pQ at hp;have u:IntKind.u32.wrap n=n:=by rw[IntKind.wrap_u32];omega
  have s6:w6 .i32 n 6=n/64:=a4w (j:=6) rfl (by decide);have s12:w6 .i32 n 12=n/4096:=a4w (j:=12) rfl (by decide);have s18:w6 .i32 n 18=n/262144:=a4w (j:=18) rfl (by decide)
  have b0:bits .or .u8 128 (bits .and .u8 (n%256) 63)=128+n%64:=by
    rw[u8_and63 (x:=n%256) (by omega) (by omega),show n%256%64=n%64 by omega,u8_or128 (y:=n%64) (by omega) (by omega)]
  have b1:bits .or .u8 128 (bits .and .u8 (n/64%256) 63)=128+n/64%64:=by
    rw[u8_and63 (x:=n/64%256) (by omega) (by omega),show n/64%256%64=n/64%64 by omega,u8_or128 (y:=n/64%64) (by omega) (by omega)]
  have b2:bits .or .u8 128 (bits .and .u8 (n/4096%256) 63)=128+n/4096%64:=by
    rw[u8_and63 (x:=n/4096%256) (by omega) (by omega),show n/4096%256%64=n/4096%64 by omega,u8_or128 (y:=n/4096%64) (by omega) (by omega)]
  unfold GK;rw[u];by_cases c1:n≤127
  ·rw[aMI (by simpa using c1),aMI (by simp;omega),Lib.encodeRuneZ_one h0 c1,aN0,show n%256=n by omega]
  · rw[aMK (by simpa using c1)]
    unfold IC;simp only[u,s6,s12,s18,aN0,b0,b1,b2];by_cases c2:n≤2047
    · rw[aMI (by simpa using c2),aMI (by simp;omega),Lib.encodeRuneZ_two (by omega) c2,show n/64%256=n/64 by omega,u8_or192 (y:=n/64) (by omega) (by omega)]
      rfl
    · rw[aMK (by simpa using c2)]
      by_cases c3:n≤65535
      · have hx:(if decide (n<55296)=true then some (decide (n<55296)) else some ((decide (57343<n))&&(decide (n≤65535))))=some true:=by
          by_cases c:n<55296
          ·rw[aMI (by simpa using c)];simp [c]
          ·rw[aMK (by simpa using c)];simp;omega
        rw[hx];simp only[rE,aMH];rw[aMI trivial,aMI (by simp;omega),Lib.encodeRuneZ_three (by omega),show n/4096%256=n/4096 by omega,u8_or224 (y:=n/4096) (by omega) (by omega)];rfl
      · have hx:(if decide (n<55296)=true then some (decide (n<55296)) else some ((decide (57343<n))&&(decide (n≤65535))))=some false:=by
          rw[aMK (by simp;omega)];simp;omega
        rw[hx];simp only[rE,aMH];rw[aMK (by decide),aMI (by simp;omega),aMI (by simp;omega),Lib.encodeRuneZ_four (by omega) h1,show n/262144%256=n/262144 by omega,u8_or240 (y:=n/262144) (by omega) (by omega)];rfl
theorem aB4 (n:Int):(Lib.encodeRuneZ n).length≤4:=by
  unfold Lib.encodeRuneZ
  repeat' split
  all_goals simp
theorem aB5 {n:Int}(p:List Int) (h:zH n) (hp:pQ p): ∃k,DR (p,()) n=some (k,p++Lib.encodeRuneZ n):=by
  have h4:=aB4 n;unfold pQ at hp;unfold DR;rw[aHR p h hp];simp only[aMH];rw[aMI (by unfold p8;simp;omega)];exact⟨_,rfl⟩
theorem aHS (n:Int):NW [n] (0,[])=some (.inl (1,if vG n=true then Lib.encodeRuneZ n else Lib.encodeRuneZ 65533)):=by
  unfold NW;have hn:qG (.int .i64) [n] 0=n:=rfl;dsimp only;rw[aMI (by simp),aMI ⟨aNy _,by simp⟩];simp only[hn];by_cases hs:vG n=true
  · have hsc:=(FF n).1 hs
    obtain⟨k,hk⟩:=aB5 (n:=n) [] hsc (by unfold pQ;simp)
    have wn:IntKind.i32.wrap n=n:=by
      obtain⟨a,b,c⟩:=hsc;rw[IntKind.wrap_i32];omega
    rw[aMI hs];unfold vG at hs;rw[aMK (by rw[hs];decide),wn,hk];simp only[aMH,List.nil_append];rw[aMI (by unfold p8;omega)];rfl
  · rw[aMK hs]
    unfold vG at hs;obtain⟨k,hk⟩:=aB5 (n:=65533) [] (by unfold zH;omega) (by unfold pQ;simp);rw[aMI (by simp only[aNh] at hs⊢;simpa using hs),show IntKind.i32.wrap 65533=65533 from rfl,hk];simp only[aMH,List.nil_append];rw[aMI (by unfold p8;omega)];rfl
theorem aHT (n:Int):GN n=some (if vG n=true then Lib.encodeRune n else Lib.encodeRune 65533):=by
  unfold GN L3;rw[JZ (aHS n),xA (r:=if vG n=true then Lib.encodeRuneZ n else Lib.encodeRuneZ 65533) (by unfold NW;simp)];simp only[rE,aMH];by_cases hs:vG n=true
  ·rw[aMI hs,aMI hs];rfl
  ·rw[aMK hs,aMK hs];rfl
theorem aB6 {l:List UInt8}{i:Nat}(h:i<l.length):pI l (i:Int)=((l.getD i 0).toNat:Int):=by
  rw[xB h,aNa,aMR h];rfl
theorem aHU {s:List UInt8}{x n:Int}{i:Nat}(h:i<s.length) (hn:(i:Int)<n) (hx:0≤x) (hx1:x≤1000000) (hi:i≤10):DO s n (x,(i:Int))=
    if (s.getD i 0).toNat/64=2 then some (.inl (64*x+(s.getD i 0).toNat-128,((i+1:Nat):Int))) else some (.inr (.inr (65533,1))):=by
  have hb:=(s.getD i 0).toNat_lt;have hy:=aB6 h;generalize (s.getD i 0).toNat=B at hb hy⊢;unfold DO;dsimp only;rw[aMI (by simpa using hn),aMI (rX h),aMI (fun _=>rX h),hy];by_cases hc:B/64=2
  · rw[aMK (by simp;omega),aMI hc,aMI (by unfold p8;omega),aMI (rX h),show IntKind.i64.wrap (B:Int)=(B:Int) by rw[aNH];omega,
      aMI (by unfold p8;omega),aMI (by unfold p8;omega),aMI (by unfold p8;omega)]
    rfl
  ·rw[aMI (by simp;omega),aMK hc]
theorem a4x {s:List UInt8}{x n i:Int}(h:n≤i):DO s n (x,i)=some (.inr (.inl x)):=by
  unfold DO;dsimp only;rw[aMK (by simpa using h)]
def sU (s:List UInt8) (i:Nat):Bool:=decide ((s.getD i 0).toNat/64=2)
def wD (s:List UInt8) (i:Nat) (x:Int):Int:=64*x+(s.getD i 0).toNat-128
theorem a4y {s:List UInt8}{i:Nat}{x m:Int}(h0:0≤x) (hm:x≤m) (hc:sU s i=true):0≤wD s i x∧wD s i x≤64*m+63:=by
  have hb:=(s.getD i 0).toNat_lt;unfold sU at hc;unfold wD;simp only[aMQ] at hc;omega
theorem LF {s:List UInt8}{x n:Int}{i:Nat}(h:i<s.length) (hn:(i:Int)<n) (hx:0≤x) (hx1:x≤1000000) (hi:i≤10):
    pR (DO s n) (x,(i:Int))=if sU s i=true then pR (DO s n) (wD s i x,((i+1:Nat):Int)) else some (.inr (65533,1)):=by
  rw[wQ,aHU h hn hx hx1 hi];unfold sU wD;simp only[aMQ];by_cases hc:(s.getD i 0).toNat/64=2
  ·rw[aMI hc,aMI hc];rfl
  ·rw[aMK hc,aMK hc];rfl
theorem aHV {s:List UInt8}{x:Int}(h:1<s.length) (hx:0≤x) (hx1:x≤31):pR (DO s 2) (x,1)=some (if sU s 1=true then .inl (wD s 1 x) else .inr (65533,1)):=by
  show pR _ (x,((1:Nat):Int))=_;rw[LF h (by decide) hx (by omega) (by decide)];by_cases c1:sU s 1=true
  ·rw[aMI c1,aMI c1,xA (a4x (by decide))]
  ·rw[aMK c1,aMK c1]
theorem aHW {s:List UInt8}{x:Int}(h:2<s.length) (hx:0≤x) (hx1:x≤15):pR (DO s 3) (x,1)=some (if (sU s 1&&sU s 2)=true then .inl (wD s 2 (wD s 1 x)) else .inr (65533,1)):=by
  show pR _ (x,((1:Nat):Int))=_;rw[LF (by omega) (by decide) hx (by omega) (by decide)];by_cases c1:sU s 1=true
  · have b1:=a4y hx hx1 c1
    rw[aMI c1,LF h (by decide) b1.1 (by omega) (by decide),c1,Bool.true_and];by_cases c2:sU s 2=true
    ·rw[aMI c2,aMI c2,xA (a4x (by decide))]
    ·rw[aMK c2,aMK c2]
  ·rw[aMK c1,aMK (by simp [c1])]
theorem aHX {s:List UInt8}{x:Int}(h:3<s.length) (hx:0≤x) (hx1:x≤7):pR (DO s 4) (x,1)=some (if (sU s 1&&sU s 2&&sU s 3)=true then .inl (wD s 3 (wD s 2 (wD s 1 x))) else .inr (65533,1)):=by
  show pR _ (x,((1:Nat):Int))=_;rw[LF (by omega) (by decide) hx (by omega) (by decide)];by_cases c1:sU s 1=true
  · have b1:=a4y hx hx1 c1
    rw[aMI c1,LF (by omega) (by decide) b1.1 (by omega) (by decide),c1,Bool.true_and];by_cases c2:sU s 2=true
    · have b2:=a4y b1.1 b1.2 c2
      rw[aMI c2,LF h (by decide) b2.1 (by omega) (by decide),c2,Bool.true_and];by_cases c3:sU s 3=true
      ·rw[aMI c3,aMI c3,xA (a4x (by decide))]
      ·rw[aMK c3,aMK c3]
    ·rw[aMK c2,aMK (by simp [c2])]
  ·rw[aMK c1,aMK (by simp [c1])]
def tX (s:List UInt8) (x:Int) (n:Nat):Int×Int:=if vG x=true∧Lib.encodeRune x=s.take n then(x,n) else(65533,1)
theorem a4z {s:List UInt8}{x:Int}{n:Nat}(hn:n≤s.length):
    (if (((!(((decide ((0:Int)≤x))&&(decide (x≤(1114111:Int))))&&((decide (x<(55296:Int)))||(decide ((57343:Int)<x)))))==false)=true→((CT x)).isSome=true) then
    if (((!(((decide ((0:Int)≤x))&&(decide (x≤(1114111:Int))))&&((decide (x<(55296:Int)))||(decide ((57343:Int)<x)))))==false)=true→0≤(0:Int)∧(0:Int)≤(n:Int)∧(n:Int)≤(s.length:Int)) then
     if ((!(((decide ((0:Int)≤x))&&(decide (x≤(1114111:Int))))&&((decide (x<(55296:Int)))||(decide ((57343:Int)<x)))))||(!decide ((val (CT x))=(pE s (0:Int) (n:Int)))))=true then
      some (((65533:Int),(1:Int)))
     else
      some ((x,(n:Int)))
    else none
   else none)=some (tX s x n):=by
  rw[SY];simp only[show (((decide ((0:Int)≤x))&&(decide (x≤(1114111:Int))))&&((decide (x<(55296:Int)))||(decide ((57343:Int)<x))))=vG x from rfl]
  unfold tX;by_cases hs:vG x=true
  · have ho:=a4v ((FF x).1 hs)
    rw[aMI (fun _=>by rw[ho];rfl),aMI (fun _=>⟨aNy _,by omega,by omega⟩),ho,hs];by_cases he:Lib.encodeRune x=s.take n
    ·rw[aMK (by simp [val,he]),aMI ⟨rfl,he⟩]
    ·rw[aMI (by simp [val,he]),aMK (fun h=>he h.2)]
  · have hs':vG x=false:=by simpa using hs
    rw[aMI (fun h=>by simp [hs'] at h),aMI (fun h=>by simp [hs'] at h),aMI (by simp [hs']),aMK (fun h=>hs h.1)]
theorem FG (z:Int) (l:List Int) (x:UInt8) (h:z=(x.toNat:Int)):sD (z::l)=x::sD l:=by
  show UInt8.ofNat z.toNat::sD l=_;rw[h];simp
theorem a4A:sD []=[]:=rfl
theorem LG (l:List Int):(sD l).length=l.length:=by simp [sD]
theorem aHY {s:List UInt8}(hl:1<s.length) (h0:192≤(s.getD 0 0).toNat) (h0':(s.getD 0 0).toNat<224) (hc:sU s 1=true):
    tX s (wD s 1 ((s.getD 0 0).toNat-192)) 2=(((Lib.decodeL s).1:Int),((Lib.decodeL s).2:Int)):=by
  unfold sU at hc;simp only[aMQ] at hc;have k0:=(s.getD 0 0).toNat_lt;have k1:=(s.getD 1 0).toNat_lt
  have hd:Lib.decodeL s=if (s.getD 0 0).toNat%32*64+(s.getD 1 0).toNat%64≥128 then((s.getD 0 0).toNat%32*64+(s.getD 1 0).toNat%64,2) else(65533,1):=by
    rw[Lib.decodeL_N];unfold Lib.decodeN;rw[aMK (by omega),aMI ⟨by omega,by omega,hc⟩]
  rw[hd];unfold tX wD;rw[Lib.takeB s hl];have hx:vG (64*((s.getD 0 0).toNat-192)+(s.getD 1 0).toNat-128)=true:=(FF _).2 (by unfold zH;omega);rw[hx];by_cases hv:(s.getD 0 0).toNat%32*64+(s.getD 1 0).toNat%64≥128
  · rw[aMI hv,aMI ⟨rfl,by
      rw[T0 (by omega) (by omega),FG _ _ (s.getD 0 0) (by omega),FG _ _ (s.getD 1 0) (by omega),a4A]⟩]
    exact Prod.ext (by show _=(((_:Nat)):Int);omega) rfl
  · rw[aMK hv,aMK (fun h=>by
      have h2:=aNs List.length h.2;rw[SZ (by omega) (by omega),LG] at h2;simp at h2)]
    rfl
theorem aHZ {s:List UInt8}(hl:2<s.length) (h0:224≤(s.getD 0 0).toNat) (h0':(s.getD 0 0).toNat<240) (hc:sU s 1=true) (hc2:sU s 2=true):
    tX s (wD s 2 (wD s 1 ((s.getD 0 0).toNat-224))) 3=(((Lib.decodeL s).1:Int),((Lib.decodeL s).2:Int)):=by
  unfold sU at hc hc2;simp only[aMQ] at hc hc2;have k0:=(s.getD 0 0).toNat_lt;have k1:=(s.getD 1 0).toNat_lt;have k2:=(s.getD 2 0).toNat_lt;obtain⟨V,hV⟩: ∃V,(s.getD 0 0).toNat%16*4096+(s.getD 1 0).toNat%64*64+(s.getD 2 0).toNat%64=V:=⟨_,rfl⟩
  have hd:Lib.decodeL s=if V≥2048∧(V<55296∨(57344≤V∧V≤1114111)) then(V,3) else(65533,1):=by
    rw[Lib.decodeL_N];unfold Lib.decodeN;rw[aMK (by omega),aMK (by omega),aMI ⟨by omega,⟨by omega,hc⟩,by omega,hc2⟩,hV]
  rw[hd];unfold tX wD;rw[Lib.takeC s hl];generalize hX:64*(64*(((s.getD 0 0).toNat:Int)-224)+(s.getD 1 0).toNat-128)+(s.getD 2 0).toNat-128=X;have hXV:X=(V:Int):=by omega
  by_cases hv:V≥2048∧(V<55296∨(57344≤V∧V≤1114111))
  · rw[aMI hv,aMI ⟨(FF _).2 (by unfold zH;omega),by
      rw[a4u (by omega),FG _ _ (s.getD 0 0) (by omega),FG _ _ (s.getD 1 0) (by omega),FG _ _ (s.getD 2 0) (by omega),a4A]⟩]
    exact Prod.ext hXV rfl
  · rw[aMK hv,aMK (fun h=>by
      have hs:=(FF _).1 h.1;unfold zH at hs;have hlt:X<2048:=by omega
      have h2:=aNs List.length h.2;by_cases h7:X≤127
      ·rw[SZ (by omega) h7,LG] at h2;simp at h2
      ·rw[T0 (by omega) (by omega),LG] at h2;simp at h2)]
    rfl
theorem aH0 {s:List UInt8}(hl:3<s.length) (h0:240≤(s.getD 0 0).toNat) (h0':(s.getD 0 0).toNat<248) (hc:sU s 1=true) (hc2:sU s 2=true) (hc3:sU s 3=true):
    tX s (wD s 3 (wD s 2 (wD s 1 ((s.getD 0 0).toNat-240)))) 4=(((Lib.decodeL s).1:Int),((Lib.decodeL s).2:Int)):=by
  unfold sU at hc hc2 hc3;simp only[aMQ] at hc hc2 hc3;have k0:=(s.getD 0 0).toNat_lt;have k1:=(s.getD 1 0).toNat_lt;have k2:=(s.getD 2 0).toNat_lt;have k3:=(s.getD 3 0).toNat_lt;obtain⟨V,hV⟩: ∃V,(s.getD 0 0).toNat%8*262144+(s.getD 1 0).toNat%64*4096+(s.getD 2 0).toNat%64*64+(s.getD 3 0).toNat%64=V:=⟨_,rfl⟩
  have hd:Lib.decodeL s=if V≥65536∧(V<55296∨(57344≤V∧V≤1114111)) then(V,4) else(65533,1):=by
    rw[Lib.decodeL_N];unfold Lib.decodeN;rw[aMK (by omega),aMK (by omega),aMK (by omega),aMI ⟨by omega,⟨by omega,hc⟩,⟨by omega,hc2⟩,by omega,hc3⟩,hV]
  rw[hd];unfold tX wD;rw[Lib.takeD s hl];generalize hX:64*(64*(64*(((s.getD 0 0).toNat:Int)-240)+(s.getD 1 0).toNat-128)+(s.getD 2 0).toNat-128)+(s.getD 3 0).toNat-128=X;have hXV:X=(V:Int):=by omega
  by_cases hv:V≥65536∧(V<55296∨(57344≤V∧V≤1114111))
  · rw[aMI hv,aMI ⟨(FF _).2 (by unfold zH;omega),by
      rw[aB3 (by omega) (by omega),FG _ _ (s.getD 0 0) (by omega),FG _ _ (s.getD 1 0) (by omega),FG _ _ (s.getD 2 0) (by omega),FG _ _ (s.getD 3 0) (by omega),a4A]⟩]
    exact Prod.ext hXV rfl
  · rw[aMK hv,aMK (fun h=>by
      have hs:=(FF _).1 h.1;unfold zH at hs;have hlt:X<65536:=by omega
      have h2:=aNs List.length h.2;by_cases h7:X≤127
      ·rw[SZ (by omega) h7,LG] at h2;simp at h2
      · by_cases h8:X≤2047
        ·rw[T0 (by omega) (by omega),LG] at h2;simp at h2
        ·rw[a4u (by omega),LG] at h2;simp at h2)]
    rfl
theorem IQ {s:List UInt8}(h: ¬(s.getD 0 0).toNat<128) (h2: ¬((s.getD 0 0).toNat/32=6∧1<s.length∧sU s 1=true)) (h3: ¬((s.getD 0 0).toNat/16=14∧2<s.length∧(sU s 1&&sU s 2)=true))
    (h4: ¬((s.getD 0 0).toNat/8=30∧3<s.length∧(sU s 1&&sU s 2&&sU s 3)=true)):Lib.decodeL s=(65533,1):=by
  unfold sU at h2 h3 h4;simp only[aMS,aMQ] at h2 h3 h4;rw[Lib.decodeL_N];unfold Lib.decodeN;rw[aMK h,aMK (fun⟨a,b,c⟩=>h2 ⟨a,b,c⟩),aMK (fun⟨a,⟨b,c⟩,d,e⟩=>h3 ⟨a,d,c,e⟩),aMK (fun⟨a,⟨b,c⟩,⟨d,e⟩,f,g⟩=>h4 ⟨a,f,⟨c,e⟩,g⟩)]
theorem aH1 {s:List UInt8}(hne:s≠[]):S5 s=some (((Lib.decodeL s).1:Int),((Lib.decodeL s).2:Int)):=by
  have hl:0<s.length:=aOm.2 hne;have hy:pI s 0=((s.getD 0 0).toNat:Int):=aB6 (i:=0) hl;have k0:=(s.getD 0 0).toNat_lt;have hw:IntKind.i64.wrap ((s.getD 0 0).toNat:Int)=((s.getD 0 0).toNat:Int):=by rw[aNH];omega
  unfold S5;rw[aMI ⟨aNy _,by omega⟩,hy,hw];by_cases c1:(s.getD 0 0).toNat<128
  · rw[aMI (by simp only[aMQ];omega)]
    rw[Lib.decodeL_N];unfold Lib.decodeN;rw[aMI c1];rfl
  · rw[aMK (by simp only[aMQ];omega)]
    by_cases c2:192≤(s.getD 0 0).toNat∧(s.getD 0 0).toNat<224
    · rw[aMI (by simp only[aMS,aMQ];omega),aMI (by unfold p8;omega)]
      show (if decide ((s.length:Int)<2)=true then _ else _)=_;by_cases l2:1<s.length
      · rw[aMK (by simp only[aMQ];omega),aHV l2 (by omega) (by omega)]
        by_cases hc:sU s 1=true
        · rw[aMI hc,←aHY l2 c2.1 c2.2 hc,←a4z (s:=s) (n:=2) (by omega)]
          rfl
        · rw[aMK hc,IQ c1 (fun h=>hc h.2.2) (fun h=>by omega) (fun h=>by omega)]
          rfl
      · rw[aMI (by simp only[aMQ];omega),IQ c1 (fun h=>l2 h.2.1) (fun h=>by omega) (fun h=>by omega)]
        rfl
    · rw[aMK (by simp only[aMS,aMQ];omega)]
      by_cases c3:224≤(s.getD 0 0).toNat∧(s.getD 0 0).toNat<240
      · rw[aMI (by simp only[aMS,aMQ];omega),aMI (by unfold p8;omega)]
        show (if decide ((s.length:Int)<3)=true then _ else _)=_;by_cases l2:2<s.length
        · rw[aMK (by simp only[aMQ];omega),aHW l2 (by omega) (by omega)]
          by_cases hc:(sU s 1&&sU s 2)=true
          · have hc':=aMS _ _▸hc
            rw[aMI hc,←aHZ l2 c3.1 c3.2 hc'.1 hc'.2,←a4z (s:=s) (n:=3) (by omega)];rfl
          · rw[aMK hc,IQ c1 (fun h=>by omega) (fun h=>hc h.2.2) (fun h=>by omega)]
            rfl
        · rw[aMI (by simp only[aMQ];omega),IQ c1 (fun h=>by omega) (fun h=>l2 h.2.1) (fun h=>by omega)]
          rfl
      · rw[aMK (by simp only[aMS,aMQ];omega)]
        by_cases c4:240≤(s.getD 0 0).toNat∧(s.getD 0 0).toNat<248
        · rw[aMI (by simp only[aMS,aMQ];omega),aMI (by unfold p8;omega)]
          show (if decide ((s.length:Int)<4)=true then _ else _)=_;by_cases l2:3<s.length
          · rw[aMK (by simp only[aMQ];omega),aHX l2 (by omega) (by omega)]
            by_cases hc:(sU s 1&&sU s 2&&sU s 3)=true
            · have hc':=aMS _ _▸hc
              have hc'':=aMS _ _▸hc'.1;rw[aMI hc,←aH0 l2 c4.1 c4.2 hc''.1 hc''.2 hc'.2,←a4z (s:=s) (n:=4) (by omega)];rfl
            · rw[aMK hc,IQ c1 (fun h=>by omega) (fun h=>by omega) (fun h=>hc h.2.2)]
              rfl
          · rw[aMI (by simp only[aMQ];omega),IQ c1 (fun h=>by omega) (fun h=>by omega) (fun h=>l2 h.2.1)]
            rfl
        · rw[aMK (by simp only[aMS,aMQ];omega),IQ c1 (fun h=>by omega) (fun h=>by omega) (fun h=>by omega)]
          rfl
def xG:Nat->List UInt8->List Int
 |0,_=>[]
 |n+1,s=>if s=[] then[] else((Lib.decodeL s).1:Int)::xG n (s.drop (Lib.decodeL s).2)
theorem aB7: ∀(n:Nat) (s:List UInt8),(xG n s).length<=n
 |0,_=>aM2 _
 |n+1,s=>by
  unfold xG;split
  ·simp
  ·simp only[aMO];have:=aB7 n (s.drop (Lib.decodeL s).2);omega
theorem aH2 (s:List UInt8):zH ((Lib.decodeL s).1:Int):=by
 have k0:=(s.getD 0 0).toNat_lt;rw[Lib.decodeL_N];rcases Lib.decodeN_shape s.length (s.getD 0 0).toNat (s.getD 1 0).toNat (s.getD 2 0).toNat (s.getD 3 0).toNat with⟨c,e⟩ |⟨c1,c2,c3,cv,e⟩ |⟨c1,c2,c3,c4,cv,cs,e⟩ |⟨c1,c2,c3,c4,c5,cv,cw,e⟩ |e
 all_goals (rw[e];unfold zH;dsimp only;omega)
theorem aB8: ∀(n:Nat) (s:List UInt8) (out:List Int),s.length<=n->out.length+s.length<=4000000000->pR NQ (s,out)=some (out++xG n s)
 |n,[],out,_,_=>by
  rw[xA (r:=out) (by unfold NQ;simp)];cases n<;>simp [xG]
 |0,b::t,_,h,_=>by simp at h
 |n+1,b::t,out,h,ho=>by
  have hne:(b::t)≠[]:=by simp
  have hle:=Lib.decodeL_le (b::t) hne;have hw:=Lib.decodeL_width (b::t);have hstep:NQ (b::t,out)=some (.inl ((b::t).drop (Lib.decodeL (b::t)).2,out++[((Lib.decodeL (b::t)).1:Int)])):=by
   unfold NQ;dsimp only;rw[aMI (by simp),aH1 hne];simp only[aMH];rw[aMI (by simp only[aMO,aNw] at ho⊢;omega),aMI ⟨by omega,by omega,aNy _⟩,DT]
  rw[JZ hstep,aB8 n _ _ (by rw[aMP];simp only[aMO] at h hle⊢;omega) (by rw[aMP,aMN];simp only[aMO,aNw] at ho hle⊢;omega)];rw[show xG (n+1) (b::t)=((Lib.decodeL (b::t)).1:Int)::xG n ((b::t).drop (Lib.decodeL (b::t)).2) by rw[xG,aMK hne],aMU];rfl
def T1 (s:List UInt8):List Int:=xG s.length s
theorem aH3 (s:List UInt8) (hs:pQ s):SH s=some (T1 s):=by
 unfold pQ at hs;unfold SH;rw[aB8 s.length s [] (aM2 _) (by simpa using hs)];rfl
theorem aB9: ∀(n:Nat) (s:List UInt8),∀x∈xG n s,zH x
 |0,_,_,h=>by cases h
 |n+1,s,x,h=>by
  unfold xG at h;split at h
  ·cases h
  ·rcases aM1.1 h with h|h
   ·rw[h];exact aH2 s
   ·exact aB9 n _ x h
def GP (l:List Int):List UInt8:=(l.map Lib.encodeRune).flatten
theorem a4B (n:Int):(Lib.encodeRune n).length<=4:=by
 unfold Lib.encodeRune;rw[aN7];exact aB4 n
theorem aCa (l:List Int) (hsc: ∀x∈l,zH x) (hl:pQ l): ∀(n j:Nat) (s:List UInt8),j+n=l.length->s.length+4*n<=10000000000000->pR (NP l) (s,(j:Int))=some (s++GP (l.drop j))
 |0,j,s,hj,_=>by
  have:j=l.length:=by omega
  subst this;rw[xA (r:=s) (by unfold NP;simp),aNu];simp [GP]
 |n+1,j,s,hj,hs=>by
  have hlt:j<l.length:=by omega
  unfold pQ at hl;have hx:=hsc l[j] (aNR hlt);have h4:=a4B l[j];have hstep:NP l (s,(j:Int))=some (.inl (s++Lib.encodeRune l[j],((j+1:Nat):Int))):=by
   unfold NP;dsimp only;rw[aMI (uF hlt),aMI (rX hlt),y3 (t:= .int .i64) hlt];have hb:=(FF l[j]).2 hx;unfold vG at hb;rw[aMI hb,aMI (rX hlt),a4v hx];simp only[aMH];rw[aMI (by rw[aMN];omega),aMI (sR (by omega))];rfl
  rw[JZ hstep,aCa l hsc hl n (j+1) _ (by omega) (by rw[aMN];omega),aM8 hlt,aMU];rfl
theorem aH4 (l:List Int) (hsc: ∀x∈l,zH x) (hl:pQ l):SF l=some (GP l):=by
 have hl':=hl;unfold pQ at hl';unfold SF;rw[show ((0:Int))=((0:Nat):Int) from rfl,aCa l hsc hl l.length 0 [] (by omega) (by simp;omega)];rfl
theorem aCb: ∀(n:Nat) (s:List UInt8),s.length<=n->s.length<=(GP (xG n s)).length/\(GP (xG n s)=s↔Lib.validD s=true)
 |n,[],_=>by
  have:xG n []=[]:=by cases n<;>simp [xG]
  rw[this];simp [GP,Lib.validD_nil]
 |0,b::t,h=>by simp at h
 |n+1,b::t,h=>by
  have hne:(b::t)≠[]:=by simp
  have hle:=Lib.decodeL_le (b::t) hne;have hw:=Lib.decodeL_width (b::t);obtain⟨ih1,ih2⟩:=aCb n ((b::t).drop (Lib.decodeL (b::t)).2) (by rw[aMP];simp only[aMO] at h⊢;omega);have hr:GP (xG (n+1) (b::t))=Lib.encodeRune ((Lib.decodeL (b::t)).1:Int)++GP (xG n ((b::t).drop (Lib.decodeL (b::t)).2)):=by
   rw[xG,aMK hne];rfl
  rw[hr,Lib.validD_step _ hne];rw[aMP] at ih1;by_cases hv:(Lib.decodeL (b::t)).1=65533/\(Lib.decodeL (b::t)).2=1
  ·rw[aMI hv,hv.1];have e3:(Lib.encodeRune ((65533:Nat):Int)).length=3:=rfl;rw[hv.2] at ih1⊢;refine⟨by rw[aMN,e3];omega,fun he=> ?_,fun he=>by cases he⟩;have:=aNs List.length he;rw[aMN,e3] at this;omega
  ·have he:=Lib.encode_decode (b::t) hne hv;rw[aMK hv,he];refine⟨by rw[aMN,aM5];omega,?_⟩;rw[<-ih2];constructor
   ·intro h1;exact List.append_cancel_left (h1.trans (aNO _ _).symm)
   ·intro h1;rw[h1,aNO]
theorem aH5 (s:List UInt8) (hs:pQ s):KZ s=some (Lib.validD s):=by
 have hl:pQ (T1 s):=by
  have:=aB7 s.length s;unfold pQ T1 at*;omega
 unfold KZ;rw[aH3 s hs];simp only[aMH];rw[aH4 (T1 s) (fun x hx=>aB9 _ _ x hx) hl];simp only[aMH];congr 1;have:=(aCb s.length s (aM2 _)).2;rw[aNM,aMQ];exact this
def tK (s:List UInt8):Bool:=decide ((s.length:Int)<=4000)&&Lib.validD s
theorem aH6 (s:List UInt8) (hs:pQ s):SI s=some ()/\((decide ((s.length:Int)<=4000))&&val (KZ s))=tK s:=by
 unfold SI;rw[aH5 s hs];exact⟨aMI (fun _=>rfl),rfl⟩
theorem aH7 (s:List UInt8) (hs:pQ s):KW s=some ():=by
 unfold pQ at hs;unfold KW NB;rw[aMI (fun _=>by rw[aMI (by omega)];rfl)]
theorem aCc {p:Prop}{α:Type}{v:α}:p->(some v).isSome=true:=fun _=>rfl
theorem aH8 (a b:List UInt8):(!Op.bytesLess a b)=(Op.bytesLess b a||decide (b=a)):=by
 rw[bytesLess_eq,bytesLess_eq,aNM];simp only[aNh,aNr,aNz,aMQ];constructor
 ·intro h;exact(List.le_iff_lt_or_eq.1 (List.not_lt.1 h))
 ·rintro(h|h)
  ·exact List.lt_asymm h
  ·rw[h];exact List.lt_irrefl _
def C2 (l:List (List UInt8)):Bool:=decide ((l.length:Int)<=20)&& !(l.any fun x=> !tK x)
def a4C (l:List (List UInt8)) (i:Nat):Bool:=(!rT (l.getD i []))||(decide (0<i)&& !Op.bytesLess (l.getD (i-1) []) (l.getD i []))
def GQ (l:List (List UInt8)):Bool:= !((List.range l.length).any (a4C l))&&decide ((l.length:Int)<=20)
abbrev fD:rC:=([],([],()))
def a4D (l:List rC) (i:Nat):Bool:=((!rT (l.getD i fD).1)||(!tK (l.getD i fD).2.1))||(decide (0<i)&& !Op.bytesLess (l.getD (i-1) fD).1 (l.getD i fD).1)
def BG (l:List rC):Bool:= !((List.range l.length).any (a4D l))&&decide ((l.length:Int)<=20)
abbrev tY:=qT
def GR (x:tY):Bool:=
 (((((((!decide (x.1=[]))&&decide ((x.1.length:Int)<=200))&&tK x.1)&&tK x.2.1)&&tK x.2.2.1)&&C2 x.2.2.2.1)&&GQ x.2.2.2.2.1)&&(decide (0<=x.2.2.2.2.2.1)&&decide (x.2.2.2.2.2.1<=4))&&BG x.2.2.2.2.2.2.1
theorem sib (l:List UInt8) (b:UInt8):tH l (b.toNat:Int)=Lib.indexByte l b:=by
 unfold tH;rw[aNp];congr 1;simp
def s8 (d:UInt8):List UInt8->Option Nat
 |[]=>none
 |[b]=>if b=d then some 0 else none
 |b::c::t=>if b=d then some 0 else if b=92 then(s8 d t).map (· +2) else(s8 d (c::t)).map (· +1)
def CZ:Option Nat->Int
 |some k=>k
 |none=> -1
theorem O4 {d:UInt8}:s8 d []=none:=by unfold s8;rfl
theorem O5 {d b:UInt8}{t:List UInt8}(h:b=d):s8 d (b::t)=some 0:=by
 subst h;cases t<;>(unfold s8;simp)
theorem O6 {d b:UInt8}{t:List UInt8}(h:b≠d) (hb:b=92):s8 d (b::t)=(s8 d (t.drop 1)).map (· +2):=by
 cases t with
 |nil=>unfold s8;rw[aMK h];simp [s8]
 |cons c t=>rw[s8,aMK h,aMI hb];rfl
theorem O7 {d b:UInt8}{t:List UInt8}(h:b≠d) (hb:b≠92):s8 d (b::t)=(s8 d t).map (· +1):=by
 cases t with
 |nil=>unfold s8;rw[aMK h];simp [s8]
 |cons c t=>rw[s8,aMK h,aMK hb]
theorem LH {d:UInt8}: ∀(n:Nat) (l:List UInt8) (k:Nat),l.length<=n->s8 d l=some k->k<l.length
 |_,[],_,_,h=>by rw[O4] at h;cases h
 |0,_::_,_,hn,_=>by simp at hn
 |n+1,b::t,k,hn,h=>by
  simp only[aMO] at hn⊢;by_cases h1:b=d
  ·rw[O5 h1] at h;cases h;omega
  ·by_cases h2:b=92
   ·rw[O6 h1 h2] at h;cases h3:s8 d (t.drop 1) with
    |none=>rw[h3] at h;cases h
    |some j=>
     rw[h3] at h;obtain rfl:j+2=k:=aML h;have:=LH n (t.drop 1) j (by rw[aMP];omega) h3;rw[aMP] at this;omega
   ·rw[O7 h1 h2] at h;cases h3:s8 d t with
    |none=>rw[h3] at h;cases h
    |some j=>
     rw[h3] at h;obtain rfl:j+1=k:=aML h;have:=LH n t j (by omega) h3;omega
theorem T2 {a b:UInt8}:((a.toNat:Int)=(b.toNat:Int))↔a=b:=by
 rw[Int.ofNat_inj];exact UInt8.toNat_inj
theorem a4F (n:Int) (hn:n≠4) (s:List UInt8) (d:UInt8) (hs:pQ s): ∀(k i:Nat),s.length+1<=i+k->pR (KM n s (d.toNat:Int)) (i:Int)=some (tZ (fun k=> .inr ((i+k:Nat):Int)) (.inl ()) (s8 d (s.drop i)))
 |0,i,h=>by
  rw[List.drop_eq_nil_of_le (by omega),O4,xA (r:= .inl ()) (by unfold KM;rw[aMK (by simp;omega)])];rfl
 |k+1,i,h=>by
  by_cases hlt:i<s.length
  ·have hs':=hs;unfold pQ at hs';have hstep:KM n s (d.toNat:Int) (i:Int)=if s[i]=d then some (.inr (.inr (i:Int))) else if s[i]=92 then some (.inl ((i+2:Nat):Int)) else some (.inl ((i+1:Nat):Int)):=by
    unfold KM;rw[aMI (uF hlt),aMI (rX hlt),xB hlt];by_cases h1:s[i]=d
    ·rw[aMI (by simp [h1]),aMI h1]
    ·rw[aMK (by simpa[T2] using h1),aMK h1,aMI (fun _=>rX hlt)];have h92:((92:Int))=((92:UInt8).toNat:Int):=rfl;by_cases h2:s[i]=92
     ·rw[aMI (by rw[h2];simp [hn]),aMI h2,aMI (sR (by omega)),aMI (by unfold p8;omega)];congr 3
     ·rw[aMK (fun h=>by
       simp only[aMS,aMQ] at h;exact h2 (T2.1 (h.2.trans h92))),aMK h2,aMI (sR (by omega))]
      rfl
   rw[wQ,hstep,aM8 hlt];by_cases h1:s[i]=d
   ·rw[aMI h1,O5 h1];rfl
   ·rw[aMK h1];by_cases h2:s[i]=92
    ·rw[aMI h2,O6 h1 h2];show pR _ ((i+2:Nat):Int)=_;rw[a4F n hn s d hs k (i+2) (by omega),aNo];cases s8 d (s.drop (i+2)) with
     |none=>rfl
     |some j=>
      show some (Sum.inr ((i+2+j:Nat):Int))=some (Sum.inr ((i+(j+2):Nat):Int));rw[show i+2+j=i+(j+2) by omega]
    ·rw[aMK h2,O7 h1 h2];show pR _ ((i+1:Nat):Int)=_;rw[a4F n hn s d hs k (i+1) (by omega)];cases s8 d (s.drop (i+1)) with
     |none=>rfl
     |some j=>
      show some (Sum.inr ((i+1+j:Nat):Int))=some (Sum.inr ((i+(j+1):Nat):Int));rw[show i+1+j=i+(j+1) by omega]
  ·rw[List.drop_eq_nil_of_le (by omega),O4,xA (r:= .inl ()) (by unfold KM;rw[aMK (by simp;omega)])];rfl
theorem aCd {n:Int}(h1:1<=n) (h3:n<=3) (s:List UInt8) (d:UInt8) (hs:pQ s):KN n s (d.toNat:Int)=some (CZ (s8 d s)):=by
 unfold KN;have h:=a4F n (by omega) s d hs (s.length+1) 0 (by omega);rw[aMK (by simp;omega),show ((0:Int))=((0:Nat):Int) from rfl,h,aNY];cases s8 d s with
 |none=>rfl
 |some k=>
  show some (((0+k:Nat)):Int)=some (k:Int);rw[aNd]
theorem aH9 (n:Int) (s:List UInt8) (c:Int):IJ n s c=KN n s c:=by
 unfold IJ KN;rfl
def zY (c base:Int):Int:=
 let n:=if 48<=c/\c<=57 then c-48 else if 97<=c/\c<=102 then c-87 else if 65<=c/\c<=70 then c-55 else-1
 if base<=n then-1 else n
theorem aIa {c:Int}(base:Int) (h0:0<=c) (h1:c<=255):S8 c base=some (zY c base):=by
 unfold S8 zY;by_cases a:48<=c/\c<=57
 ·rw[aMI (by simpa using a),aMI a,show IntKind.i64.wrap (IntKind.u8.wrap (c-48))=c-48 by rw[aN0,aNH];omega];simp only[rE,aMH,aMQ];split<;>rfl
 ·rw[aMK (by simpa using a),aMK a];by_cases b:97<=c/\c<=102
  ·rw[aMI (by simpa using b),aMI b,show IntKind.i64.wrap (IntKind.u8.wrap (c-97))=c-97 by rw[aN0,aNH];omega,aMI (by unfold p8;omega),show c-97+10=c-87 by omega];simp only[rE,aMH,aMQ];split<;>rfl
  ·rw[aMK (by simpa using b),aMK b];by_cases d:65<=c/\c<=70
   ·rw[aMI (by simpa using d),aMI d,show IntKind.i64.wrap (IntKind.u8.wrap (c-65))=c-65 by rw[aN0,aNH];omega,aMI (by unfold p8;omega),show c-65+10=c-55 by omega];simp only[rE,aMH,aMQ];split<;>rfl
   ·rw[aMK (by simpa using d),aMK d];simp only[rE,aMH,aMQ];split<;>rfl
def T3:List UInt8:=[48,49,50,51,52,53,54,55,56,57,97,98,99,100,101,102]
theorem aIb: ∀n:Fin 256,Lib.indexByte T3 (UInt8.ofNat n)=if 48<=(n.val:Int)/\(n.val:Int)<=57 then(n.val:Int)-48 else if 97<=(n.val:Int)/\(n.val:Int)<=102 then(n.val:Int)-87 else-1:=by decide
theorem aIc (b:UInt8):Lib.indexByte T3 b=if 48<=(b.toNat:Int)/\(b.toNat:Int)<=57 then(b.toNat:Int)-48 else if 97<=(b.toNat:Int)/\(b.toNat:Int)<=102 then(b.toNat:Int)-87 else-1:=by
 have:=aIb ⟨b.toNat,b.toNat_lt⟩;simpa using this
def xH (base:Int):Int->List UInt8->Option Int
 |acc,[]=>some acc
 |acc,b::t=>if zY b.toNat base<0 then none else xH base (base*acc+zY b.toNat base) t
theorem aCe {c base:Int}(hb:0<base): -1<=zY c base/\zY c base<base:=by
 unfold zY;dsimp only
 repeat' split
 all_goals omega
theorem aCf (s:List UInt8) (base:Int) (hb:0<base) (hb16:base<=16) (hs:s.length<=8): ∀(k j:Nat) (acc:Int),j+k=s.length->0<=acc->acc<16^j->
  pR (NR s base) (acc,(j:Int))=some (match xH base acc (s.drop j) with|some n=> .inl n|none=> .inr (-1))
 |0,j,acc,hj,_,_=>by
  have:j=s.length:=by omega
  subst this;rw[aNu,xA (r:= .inl acc) (by unfold NR;simp)];rfl
 |k+1,j,acc,hj,h0,h1=>by
  have hlt:j<s.length:=by omega
  have hc:=s[j].toNat_lt;have hd:=aCe (c:=(s[j].toNat:Int)) hb;have hp:(16:Int) ^j<=16^8:=by
   have:(16:Nat) ^j<=16^8:=Nat.pow_le_pow_right (by decide) (by omega)
   exact_mod_cast this
  have h8:(16:Int) ^8=4294967296:=by decide
  have hm:base*acc<=16*acc:=Int.mul_le_mul_of_nonneg_right hb16 h0;have hm0:0<=base*acc:=Int.mul_nonneg (by omega) h0;have hstep:NR s base (acc,(j:Int))=if zY s[j].toNat base<0 then some (.inr (.inr (-1))) else some (.inl (base*acc+zY s[j].toNat base,((j+1:Nat):Int))):=by
   unfold NR;dsimp only;rw[aMI (uF hlt),aMI (rX hlt),xB hlt,aIa base (by omega) (by omega)];simp only[aMH,aMQ];by_cases hn:zY s[j].toNat base<0
   ·rw[aMI hn,aMI hn]
   ·rw[aMK hn,aMK hn,aMI (by unfold p8;omega),aMI (by unfold p8;omega),aMI (sR (by omega))];rfl
  rw[wQ,hstep,aM8 hlt,xH];by_cases hn:zY s[j].toNat base<0
  ·rw[aMI hn,aMI hn];rfl
  ·rw[aMK hn,aMK hn];show pR _ (_,((j+1:Nat):Int))=_;exact aCf s base hb hb16 hs k (j+1) _ (by omega) (by omega) (by rw[Int.pow_succ];omega)
theorem aCg (s:List UInt8) (base:Int) (hb:0<base) (hb16:base<=16) (hs:s.length<=8):IK s base=some (if s=[] then-1 else(xH base 0 s).getD (-1)):=by
 unfold IK;rw[show ((0:Int),(0:Int))=((0:Int),((0:Nat):Int)) from rfl,aCf s base hb hb16 hs s.length 0 0 (by omega) (by omega) (by decide),aNY];cases h:xH base 0 s with
 |none=>
  have:s≠[]:=by intro hn;subst hn;simp [xH] at h
  rw[aMK this];rfl
 |some n=>
  show (if decide (s=[])=true then _ else _)=_;by_cases he:s=[]
  ·rw[aMI (by simpa using he),aMI he]
  ·rw[aMK (by simpa using he),aMK he];rfl
theorem aCh (s:List UInt8) (base:Int) (hb:0<base) (hb16:base<=16) (hs:s.length<=8): ∀(k j:Nat) (acc:Int),j+k=s.length->0<=acc->acc<16^j->
  pR (KP s base) (acc,(j:Int))=some (match xH base acc (s.drop j) with|some n=> .inl n|none=> .inr (0,false))
 |0,j,acc,hj,_,_=>by
  have:j=s.length:=by omega
  subst this;rw[aNu,xA (r:= .inl acc) (by unfold KP;simp)];rfl
 |k+1,j,acc,hj,h0,h1=>by
  have hlt:j<s.length:=by omega
  have hc:=s[j].toNat_lt;have hd:=aCe (c:=(s[j].toNat:Int)) hb;have hp:(16:Int) ^j<=16^8:=by
   have:(16:Nat) ^j<=16^8:=Nat.pow_le_pow_right (by decide) (by omega)
   exact_mod_cast this
  have h8:(16:Int) ^8=4294967296:=by decide
  have hm:acc*base<=acc*16:=Int.mul_le_mul_of_nonneg_left hb16 h0;have hm0:0<=acc*base:=Int.mul_nonneg h0 (by omega);have hcm:acc*base=base*acc:=Int.mul_comm _ _;have hstep:KP s base (acc,(j:Int))=if zY s[j].toNat base<0 then some (.inr (.inr (0,false))) else some (.inl (base*acc+zY s[j].toNat base,((j+1:Nat):Int))):=by
   unfold KP;dsimp only;rw[aMI (uF hlt),aMI (rX hlt),aMI (rX hlt),aMI (fun _=>rX hlt),xB hlt,aMI (rX hlt),sib];have hidx:=aIc s[j];have hval:(if ((decide ((65:Int)<=(s[j].toNat:Int)))&&(decide ((s[j].toNat:Int)<=(70:Int))))=true then(if p8 ((IntKind.wrap .i64 (IntKind.wrap .u8 ((s[j].toNat:Int)- (65:Int))))+(10:Int)) then some (((IntKind.wrap .i64 (IntKind.wrap .u8 ((s[j].toNat:Int)- (65:Int))))+(10:Int))) else none) else some (Lib.indexByte T3 s[j]))=some (if 48<=(s[j].toNat:Int)/\(s[j].toNat:Int)<=57 then(s[j].toNat:Int)-48 else if 97<=(s[j].toNat:Int)/\(s[j].toNat:Int)<=102 then(s[j].toNat:Int)-87 else if 65<=(s[j].toNat:Int)/\(s[j].toNat:Int)<=70 then(s[j].toNat:Int)-55 else-1):=by
    by_cases c:65<=(s[j].toNat:Int)/\(s[j].toNat:Int)<=70
    ·rw[aMI (by simpa using c),show IntKind.i64.wrap (IntKind.u8.wrap ((s[j].toNat:Int)-65))=(s[j].toNat:Int)-65 by rw[aN0,aNH];omega,aMI (by unfold p8;omega),aMK (by omega),aMK (by omega),aMI c];congr 1;omega
    ·rw[aMK (by simpa using c),hidx,aMK c]
   unfold rE;rw[show ([48,49,50,51,52,53,54,55,56,57,97,98,99,100,101,102]:List UInt8)=T3 from rfl,hval];simp only[aMH];unfold zY;dsimp only;generalize (if 48<=(s[j].toNat:Int)/\(s[j].toNat:Int)<=57 then(s[j].toNat:Int)-48 else if 97<=(s[j].toNat:Int)/\(s[j].toNat:Int)<=102 then(s[j].toNat:Int)-87 else if 65<=(s[j].toNat:Int)/\(s[j].toNat:Int)<=70 then(s[j].toNat:Int)-55 else-1)=D;by_cases hn:D<0\/base<=D
   ·rw[aMI (by simpa using hn)];by_cases hbD:base<=D
    ·rw[aMI hbD,aMI (by decide)]
    ·rw[aMK hbD,aMI (by omega)]
   ·rw[aMK (by simpa using hn)];have hbD: ¬base<=D:=fun h=>hn (.inr h);have hD0: ¬D<0:=fun h=>hn (.inl h);rw[aMK hbD,aMK hD0,aMI (by unfold p8;omega),aMI (by unfold p8;omega),aMI (sR (by omega)),hcm];rfl
  rw[wQ,hstep,aM8 hlt,xH];by_cases hn:zY s[j].toNat base<0
  ·rw[aMI hn,aMI hn];rfl
  ·rw[aMK hn,aMK hn];show pR _ (_,((j+1:Nat):Int))=_;exact aCh s base hb hb16 hs k (j+1) _ (by omega) (by omega) (by rw[Int.pow_succ];omega)
theorem aCi (s:List UInt8) (base:Int) (hb:0<base) (hb16:base<=16) (hs:s.length<=8):DP s base=some (match xH base 0 s with|some n=>(n,!decide (s=[])) |none=>(0,false)):=by
 unfold DP;rw[show ((0:Int),(0:Int))=((0:Int),((0:Nat):Int)) from rfl,aCh s base hb hb16 hs s.length 0 0 (by omega) (by omega) (by decide),aNY];cases h:xH base 0 s with
 |none=>rfl
 |some n=>rfl
theorem O8 {base:Int}(hb:0<base): ∀{s:List UInt8}{acc n:Int},0<=acc->xH base acc s=some n->0<=n
 |[],acc,n,h0,h=>by cases h;exact h0
 |b::t,acc,n,h0,h=>by
  rw[xH] at h;split at h
  ·cases h
  ·exact O8 hb (by have:=Int.mul_nonneg (Int.le_of_lt hb) h0;omega) h
theorem aId (b:UInt8) (l:List UInt8) (hl:pQ l):KO (b.toNat:Int) l=some (l.contains b):=by
 unfold pQ at hl;have h:=CS (f:=S4 (b.toNat:Int) l) (l:=l) (fun x=>decide (x=b)) (fun _=>true) (fun i h=>by
  unfold S4;rw[aMI (uF h),aMI (rX h),xB h,aMI (sR (by omega))];simp only[T2,aMQ]) (by
  unfold S4;rw[aMK (zG _)])
 unfold KO;rw[h,FD,a4s];congr 1;rw[aNM];simp
def IR:List UInt8:=[92,34,61,58,35,33,123,125,32]
def DU (l:List UInt8) (k:Nat) (ok:Int->Bool) (f:Int->List UInt8):List UInt8×Nat:=
 match xH 16 0 l with
 |some n=>if ok n=true then(f n,k) else([],0)
 |none=>([],0)
def AR (l:List UInt8):List UInt8×Nat:=
 match l with
 |_::c::t=>
  if c=110 then([10],2) else if c=114 then([13],2) else if c=116 then([9],2)
  else if IR.contains c=true then([c],2)
  else if c=120/\2<=t.length then DU (t.take 2) 4 (fun n=>decide (n<=127)) (fun n=>sD [n])
  else if c=117/\4<=t.length then DU (t.take 4) 6 vG Lib.encodeRune
  else([],0)
 |_=>([],0)
theorem uG {a:UInt8}{n:Int}(b:UInt8) (hb:n=(b.toNat:Int)):decide ((a.toNat:Int)=n)=decide (a=b):=by
 rw[hb];simp only[T2]
theorem aCj (a c:UInt8) (t:List UInt8):pE (a::c::t) 2 4=t.take 2:=rfl
theorem aCk (a c:UInt8) (t:List UInt8):pE (a::c::t) 2 6=t.take 4:=rfl
theorem aCl (a c:UInt8) (t:List UInt8):pE (a::c::t) 1 2=[c]:=rfl
theorem aIe (a:UInt8) (t:List UInt8):NT (a::t)=some ((AR (a::t)).1,((AR (a::t)).2:Int)):=by
 cases t with
 |nil=>unfold NT;rw[aMI (by simp)];rfl
 |cons c t=>
  have hy:pI (a::c::t) (1:Int)=(c.toNat:Int):=xB (i:=1) (by simp);unfold NT;rw[aMK (by simp;omega),aMI (⟨by decide,by simp;omega⟩),hy,uG (n:=110) 110 rfl,uG (n:=114) 114 rfl,uG (n:=116) 116 rfl,uG (n:=120) 120 rfl,uG (n:=117) 117 rfl,aId c _ (by unfold pQ;decide),aCj,aCk,aCl];show _=some ((if c=110 then(([10],2):List UInt8×Nat) else _).1,((if c=110 then(([10],2):List UInt8×Nat) else _).2:Int));by_cases h1:c=110
  ·rw[aMI (by simpa using h1),aMI h1];rfl
  rw[aMK (by simpa using h1),aMK h1];by_cases h2:c=114
  ·rw[aMI (by simpa using h2),aMI h2];rfl
  rw[aMK (by simpa using h2),aMK h2];by_cases h3:c=116
  ·rw[aMI (by simpa using h3),aMI h3];rfl
  rw[aMK (by simpa using h3),aMK h3,aMH];show (if IR.contains c=true then _ else _)=_;by_cases h4:IR.contains c=true
  ·rw[aMI h4,aMI h4,aMI ⟨by decide,by decide,by simp;omega⟩];rfl
  rw[aMK h4,aMK h4];have hlen:((a::c::t).length:Int)=(t.length:Int)+2:=by simp;omega
  rw[hlen];by_cases h5:c=120/\2<=t.length
  ·rw[aMI (by simp [h5.1];omega),aMI h5,aMI ⟨by decide,by decide,by omega⟩,aCg _ 16 (by decide) (by decide) (by rw[aM5];omega),aMK (by intro h;have:=aNs List.length h;rw[aM5,aNw] at this;omega),aMH];unfold DU;cases hn:xH 16 0 (t.take 2) with
   |none=>rfl
   |some n=>
    have h0:=O8 (by decide) (aNy 0) hn;simp only[aN1];by_cases h7:n<=127
    ·rw[aMI (by simp;omega),aMI (by simpa using h7),aN0,show n%256=n by omega];rfl
    ·rw[aMK (by simp;omega),aMK (by simpa using h7)];rfl
  rw[aMK (by simp only[aMS,aMQ];intro h;exact h5 ⟨h.1,by omega⟩),aMK h5];by_cases h6:c=117/\4<=t.length
  ·rw[aMI (by simp [h6.1];omega),aMI h6,aMI ⟨by decide,by decide,by omega⟩,aCg _ 16 (by decide) (by decide) (by rw[aM5];omega),aMK (by intro h;have:=aNs List.length h;rw[aM5,aNw] at this;omega),aMH];unfold DU;cases hn:xH 16 0 (t.take 4) with
   |none=>rfl
   |some n=>
    have h0:=O8 (by decide) (aNy 0) hn;simp only[aN1];show (if (decide (0<=n)&&vG n)=true then _ else _)=_;by_cases h7:vG n=true
    ·rw[aMI (by simp [h7,h0]),aMI h7,a4v ((FF n).1 h7)];rfl
    ·rw[aMK (by simp [h7]),aMK h7];rfl
  rw[aMK (by simp only[aMS,aMQ];intro h;exact h6 ⟨h.1,by omega⟩),aMK h6];rfl
theorem aIf (a:UInt8) (t:List UInt8):F8 (a::t)=some ((AR (a::t)).1,((AR (a::t)).2:Int)):=by
 cases t with
 |nil=>unfold F8;rw[aMI (by simp)];rfl
 |cons c t=>
  have hy:pI (a::c::t) (1:Int)=(c.toNat:Int):=xB (i:=1) (by simp);have hlen:((a::c::t).length:Int)=(t.length:Int)+2:=by simp;omega
  unfold F8;rw[aMK (by simp;omega),aMI (⟨by decide,by simp;omega⟩),hy,uG (n:=110) 110 rfl,uG (n:=114) 114 rfl,uG (n:=116) 116 rfl,uG (n:=120) 120 rfl,uG (n:=117) 117 rfl,sib,aCj,aCk,aCl,hlen,<-Lib.contains_iff_indexByte];show _=some ((if c=110 then(([10],2):List UInt8×Nat) else _).1,((if c=110 then(([10],2):List UInt8×Nat) else _).2:Int));by_cases h1:c=110
  ·rw[aMI (by simpa using h1),aMI h1];rfl
  rw[aMK (by simpa using h1),aMK h1];by_cases h2:c=114
  ·rw[aMI (by simpa using h2),aMI h2];rfl
  rw[aMK (by simpa using h2),aMK h2];by_cases h3:c=116
  ·rw[aMI (by simpa using h3),aMI h3];rfl
  rw[aMK (by simpa using h3),aMK h3];by_cases hx:c=120
  ·subst hx;rw[aMI (show decide ((120:UInt8)=120)=true from rfl),aMK (show¬IR.contains 120=true by decide)];by_cases h5:2<=t.length
   ·rw[aMI (by simp;omega),aMI ⟨by decide,by decide,by omega⟩,aMI (show _/\_ from⟨rfl,h5⟩),aCi _ 16 (by decide) (by decide) (by rw[aM5];omega),aMH];unfold DU;cases hn:xH 16 0 (t.take 2) with
    |none=>rfl
    |some n=>
     have h0:=O8 (by decide) (aNy 0) hn;have hne:t.take 2≠[]:=by intro h;have:=aNs List.length h;rw[aM5,aNw] at this;omega
     simp only[hne,decide_false,Bool.not_false,Bool.true_and];by_cases h7:n<=127
     ·rw[aMI (by simpa using h7),aMI (by simpa using h7),aN0,show n%256=n by omega];rfl
     ·rw[aMK (by simpa using h7),aMK (by simpa using h7)];rfl
   ·rw[aMK (by simp;omega),aMK (fun h=>h5 h.2),aMK (show¬((120:UInt8)=117/\4<=t.length) from fun h=>by cases h.1)];rfl
  rw[aMK (by simpa using hx)];by_cases hu:c=117
  ·subst hu;rw[aMI (show decide ((117:UInt8)=117)=true from rfl),aMK (show¬IR.contains 117=true by decide),aMK (show¬((117:UInt8)=120/\2<=t.length) from fun h=>by cases h.1)];by_cases h5:4<=t.length
   ·rw[aMI (by simp;omega),aMI ⟨by decide,by decide,by omega⟩,aMI (show _/\_ from⟨rfl,h5⟩),aCi _ 16 (by decide) (by decide) (by rw[aM5];omega),aMH];unfold DU;cases hn:xH 16 0 (t.take 4) with
    |none=>rfl
    |some n=>
     have h0:=O8 (by decide) (aNy 0) hn;have hne:t.take 4≠[]:=by intro h;have:=aNs List.length h;rw[aM5,aNw] at this;omega
     simp only[hne,decide_false,Bool.not_false];rw[aMI trivial,aHT,aMH];have hb:vG n=(decide (n<=1114111)&&(decide (n<55296)||decide (57343<n))):=by
      unfold vG;rw[show decide ((0:Int)<=n)=true by simpa using h0,Bool.true_and]
     rw[<-hb];by_cases h7:vG n=true
     ·rw[aMI h7,aMI h7,aMI h7];rfl
     ·rw[aMK h7,aMK h7];rfl
   ·rw[aMK (by simp;omega),aMK (fun h=>h5 h.2)];rfl
  rw[aMK (by simpa using hu)];show (if IR.contains c=true then _ else _)=_;by_cases h4:IR.contains c=true
  ·rw[aMI h4,aMI h4,aMI ⟨by decide,by decide,by omega⟩];rfl
  ·rw[aMK h4,aMK h4,aMK (fun h=>hx h.1),aMK (fun h=>hu h.1)];rfl
def zZ (n:Int) (b:UInt8):Bool:=decide (b=10)||((decide (n=2)||decide (n=3))&&decide (b=34))
def tE (n:Int):List UInt8->List UInt8×Nat
 |[]=>([],0)
 |b::t=>if b=92 then AR (b::t) else if zZ n b=true then([b],0) else([b],1)
theorem T4 {l:List UInt8}{k:Nat}{ok:Int->Bool}{f:Int->List UInt8}(hf: ∀n,(f n).length<=4):(DU l k ok f).1.length<=4/\((DU l k ok f).2=0\/(DU l k ok f).2=k):=by
 unfold DU;cases xH 16 0 l with
 |none=>exact⟨by simp,.inl rfl⟩
 |some n=>
  dsimp only;split
  ·exact⟨hf n,.inr rfl⟩
  ·exact⟨by simp,.inl rfl⟩
theorem aIg (l:List UInt8):(AR l).1.length<=4/\(AR l).2<=l.length:=by
 unfold AR;split
 ·rename_i a c t;have h1:=T4 (l:=t.take 2) (k:=4) (ok:=fun n=>decide (n<=127)) (f:=fun n=>sD [n]) (fun n=>by simp [sD]);have h2:=T4 (l:=t.take 4) (k:=6) (ok:=vG) (f:=Lib.encodeRune) a4B
  repeat' split
  all_goals first
   |exact⟨by simp,by simp⟩
   |(rename_i h;exact⟨h1.1,by rcases h1.2 with e|e<;>rw[e]<;>simp<;>omega⟩)
   |(rename_i h;exact⟨h2.1,by rcases h2.2 with e|e<;>rw[e]<;>simp<;>omega⟩)
 ·exact⟨by simp,by simp⟩
theorem T5 {n:Int}{b:UInt8}{t:List UInt8}(h:b=92):tE n (b::t)=AR (b::t):=aMI h
theorem O9 {n:Int}{b:UInt8}{t:List UInt8}(h:b≠92) (hb:zZ n b=true):tE n (b::t)=([b],0):=(aMK h).trans (aMI hb)
theorem T6 {n:Int}{b:UInt8}{t:List UInt8}(h:b≠92) (hb: ¬zZ n b=true):tE n (b::t)=([b],1):=(aMK h).trans (aMK hb)
theorem OA (n:Int) (l:List UInt8):(tE n l).1.length<=4/\(tE n l).2<=l.length:=by
 cases l with
 |nil=>exact⟨by simp [tE],by simp [tE]⟩
 |cons b t=>
  by_cases h:b=92
  ·rw[T5 h];exact aIg _
  ·by_cases hb:zZ n b=true
   ·rw[O9 h hb];exact⟨by simp,by simp⟩
   ·rw[T6 h hb];exact⟨by simp,by simp⟩
def wE (n:Int):Nat->List UInt8->List UInt8⊕Nat
 |0,_=> .inl []
 |_+1,[]=> .inl []
 |k+1,b::t=>if (tE n (b::t)).2=0 then .inr 0 else match wE n k ((b::t).drop (tE n (b::t)).2) with
  | .inl r=> .inl ((tE n (b::t)).1++r)
  | .inr e=> .inr ((tE n (b::t)).2+e)
def yB (n:Int) (s:List UInt8):List UInt8×Int×Int:=match wE n s.length s with
 | .inl r=>(r,0,0)
 | .inr e=>([],e,3)
theorem a4G (a b:List UInt8):sP (a++b)=sP a++sP b:=by simp [sP]
theorem a4H (a:List UInt8):sD (sP a)=a:=by
 unfold sD sP;rw[List.map_map]
 conv=>rhs;rw[<-List.map_id a]
 congr 1;funext b;simp
theorem aCm {s:List UInt8}{i:Nat}(h:i<s.length):pE s (i:Int) ((i:Int)+1)=[s[i]]:=by
 unfold pE;rw[aNp,show ((i:Int)+1).toNat-i=1 by omega,aM8 h];rfl
theorem aIh {n:Int}(h1:1<=n) (h3:n<=3) {s:List UInt8}(hs:pQ s) {x:List Int}{i:Nat}(hi:i<s.length) (hx:x.length<=10000000000000):
  NU n s (x,(i:Int))=if (tE n (s.drop i)).2=0 then some (.inr (.inr ([],(i:Int),3))) else some (.inl (x++sP (tE n (s.drop i)).1,((i+(tE n (s.drop i)).2:Nat):Int))):=by
 have hs':=hs;unfold pQ at hs';have hn4:decide (n=4)=false:=by simp;omega
 have hp:=OA n (s.drop i);rw[aMP] at hp;unfold NU;dsimp only;rw[aMI (uF hi),aMI (rX hi),aMI (sR (by omega)),aMI ⟨by omega,by omega,by omega⟩,xB hi,aCm hi,DT,uG (n:=92) 92 rfl,uG (n:=38) 38 rfl,uG (n:=10) 10 rfl,uG (n:=34) 34 rfl,hn4];have hb: ∀v:List UInt8×Nat,v.1.length<=4->v.2<=s.length-i->
   ((if decide ((v.2:Int)=0)=true then(some (.inr (.inr (([]:List UInt8),(i:Int),(3:Int)))):Option ((List Int×Int)⊕(List Int⊕(List UInt8×Int×Int)))) else if x.length+v.1.length<=140737488355328 then if p8 ((i:Int)+(v.2:Int)) then some (.inl ((x++sP v.1),((i:Int)+(v.2:Int)))) else none else none)=if v.2=0 then some (.inr (.inr ([],(i:Int),3))) else some (.inl (x++sP v.1,((i+v.2:Nat):Int)))):=fun v hv1 hv2=>by
  by_cases h0:v.2=0
  ·rw[aMI (by simp [h0]),aMI h0]
  ·rw[aMK (by simpa using h0),aMK h0,aMI (by omega),aMI (by unfold p8;omega)];rfl
 rw[aM8 hi] at hp⊢;simp only[Bool.not_false,Bool.true_and,aOA,aN9,aOS];by_cases c1:s[i]=92
 ·rw[T5 c1] at hp⊢;rw[aMI (by simpa using c1),aMI ⟨by omega,by omega,aNy _⟩,aIe];unfold rE;simp only[aMH];exact hb _ hp.1 hp.2
 ·rw[aMK (by simpa using c1)];by_cases c2:s[i]=10
  ·rw[aMI (by simpa using c2),aMI (by simpa using c2),O9 c1 (show zZ n s[i]=true by simp [zZ,c2])];unfold rE;simp only[aMH];exact hb ([s[i]],0) (by simp) (by simp)
  ·rw[aMK (by simpa using c2)];by_cases c3:((decide (n=2)||decide (n=3))&&decide (s[i]=34))=true
   ·rw[aMI c3,aMI c3,O9 c1 (show zZ n s[i]=true by unfold zZ;rw[c3];simp)];unfold rE;simp only[aMH];exact hb ([s[i]],0) (by simp) (by simp)
   ·have hbad:zZ n s[i]=false:=by
     have c3':((decide (n=2)||decide (n=3))&&decide (s[i]=34))=false:=by simpa using c3
     unfold zZ;rw[c3'];simp [c2]
    have hbad': ¬zZ n s[i]=true:=by simp [hbad]
    rw[T6 c1 hbad'] at hp⊢;rw[aMK c3,aMI (fun h=>by simp at h)];unfold rE;simp only[aMH];exact hb ([s[i]],1) (by simp) hp.2
theorem aIi {n:Int}(h1:1<=n) (h3:n<=3) (b:UInt8):IA n (b.toNat:Int)=zZ n b:=by
 unfold IA zZ qW;rw[uG (n:=10) 10 rfl,uG (n:=34) 34 rfl];by_cases c1:n=1
 ·subst c1;simp
 ·have h23:n=2\/n=3:=by omega
  rcases h23 with rfl|rfl<;>simp
theorem aIj {x:List Int}{c:Int}(hx:x.length<=10000000000000):IB (x,()) c=some ():=by
 unfold IB;exact aMI (by simp only[aNI,aON];omega)
theorem aIk {x:List Int}{t:List UInt8}(hx:x.length<=10000000000000) (ht:t.length<=4000000000):EY (x,()) t=some ():=by
 unfold EY;exact aMI (by dsimp only;omega)
theorem aIl {n:Int}(h1:1<=n) (h3:n<=3) {s:List UInt8}(hs:pQ s) {x:List Int}{i:Nat}(hi:i<s.length) (hx:x.length<=10000000000000):
  L6 n s ((i:Int),x)=if (tE n (s.drop i)).2=0 then some (.inr (.inr ([],(i:Int),3))) else some (.inl (((i+(tE n (s.drop i)).2:Nat):Int),x++sP (tE n (s.drop i)).1)):=by
 have hs':=hs;unfold pQ at hs';have hp:=OA n (s.drop i);rw[aMP] at hp;unfold L6;dsimp only;rw[aMI (uF hi),aMI (rX hi),xB hi,DT,uG (n:=92) 92 rfl,aIi h1 h3];rw[aM8 hi] at hp⊢;by_cases c1:s[i]=92
 ·rw[T5 c1] at hp⊢;rw[aMI (by simpa using c1),aMI ⟨by omega,by omega,aNy _⟩,aIf];simp only[aMH];by_cases h0:(AR (s[i]::s.drop (i+1))).2=0
  ·rw[aMI (by rw[h0];rfl),aMI h0]
  ·rw[aMK (by rw[aMQ];omega),aMK h0,aIk hx (by omega)];simp only[aMH];rw[aMI (by unfold p8;omega)];rfl
 ·rw[aMK (by simpa using c1),aMI (rX hi)];by_cases hb:zZ n s[i]=true
  ·rw[aMI hb,O9 c1 hb];rfl
  ·rw[aMK hb,T6 c1 hb,aMI (rX hi),aIj hx,aMH];rw[aMI (sR (by omega))];rfl
theorem aCn {n:Int}(h1:1<=n) (h3:n<=3) {s:List UInt8}(hs:pQ s): ∀(k i:Nat) (x:List Int),i<=s.length->s.length-i<=k->x.length+4*(s.length-i)<=5000000000000->
  pR (NU n s) (x,(i:Int))=some (match wE n k (s.drop i) with| .inl r=> .inl (x++sP r) | .inr e=> .inr ([],((i+e:Nat):Int),3))
 |k,i,x,hi,hk,hx=>by
  by_cases hlt:i<s.length
  ·cases k with
   |zero=>omega
   |succ k=>
    have hp:=OA n (s.drop i);rw[wQ,aIh h1 h3 hs hlt (by omega)];rw[aMP] at hp;have hu:wE n (k+1) (s.drop i)=if (tE n (s.drop i)).2=0 then .inr 0 else match wE n k ((s.drop i).drop (tE n (s.drop i)).2) with
      | .inl r=> .inl ((tE n (s.drop i)).1++r)
      | .inr e=> .inr ((tE n (s.drop i)).2+e):=by
     rw[aM8 hlt,wE]
    rw[hu];by_cases h0:(tE n (s.drop i)).2=0
    ·rw[aMI h0,aMI h0];rfl
    ·rw[aMK h0,aMK h0];show pR _ (_,((i+(tE n (s.drop i)).2:Nat):Int))=_;rw[aCn h1 h3 hs k _ _ (by omega) (by omega) (by rw[aMN];simp only[sP,aN7];omega),aNo];cases wE n k (s.drop (i+(tE n (s.drop i)).2)) with
     |inl r=>dsimp only;rw[a4G,aMU]
     |inr e=>dsimp only;rw[aNn]
  ·have:i=s.length:=by omega
   subst this;rw[xA (r:= .inl x) (by unfold NU;simp),aNu];cases k<;>simp [wE,sP]
theorem aCo {n:Int}(h1:1<=n) (h3:n<=3) {s:List UInt8}(hs:pQ s): ∀(k i:Nat) (x:List Int),i<=s.length->s.length-i<=k->x.length+4*(s.length-i)<=5000000000000->
  pR (L6 n s) ((i:Int),x)=some (match wE n k (s.drop i) with| .inl r=> .inl (x++sP r) | .inr e=> .inr ([],((i+e:Nat):Int),3))
 |k,i,x,hi,hk,hx=>by
  by_cases hlt:i<s.length
  ·cases k with
   |zero=>omega
   |succ k=>
    have hp:=OA n (s.drop i);rw[wQ,aIl h1 h3 hs hlt (by omega)];rw[aMP] at hp;have hu:wE n (k+1) (s.drop i)=if (tE n (s.drop i)).2=0 then .inr 0 else match wE n k ((s.drop i).drop (tE n (s.drop i)).2) with
      | .inl r=> .inl ((tE n (s.drop i)).1++r)
      | .inr e=> .inr ((tE n (s.drop i)).2+e):=by
     rw[aM8 hlt,wE]
    rw[hu];by_cases h0:(tE n (s.drop i)).2=0
    ·rw[aMI h0,aMI h0];rfl
    ·rw[aMK h0,aMK h0];show pR _ (((i+(tE n (s.drop i)).2:Nat):Int),_)=_;rw[aCo h1 h3 hs k _ _ (by omega) (by omega) (by rw[aMN];simp only[sP,aN7];omega),aNo];cases wE n k (s.drop (i+(tE n (s.drop i)).2)) with
     |inl r=>dsimp only;rw[a4G,aMU]
     |inr e=>dsimp only;rw[aNn]
  ·have:i=s.length:=by omega
   subst this;rw[xA (r:= .inl x) (by unfold L6;simp),aNu];cases k<;>simp [wE,sP]
theorem aIm {n:Int}(h1:1<=n) (h3:n<=3) {s:List UInt8}(hs:pQ s):NV n s=some (yB n s):=by
 unfold NV;have hs':=hs;unfold pQ at hs';rw[aMK (by simp;omega),show (([]:List Int),(0:Int))=(([]:List Int),((0:Nat):Int)) from rfl,aCn h1 h3 hs s.length 0 [] (by omega) (by omega) (by simp;omega),aNY];unfold yB;cases wE n s.length s with
 |inl r=>
  show some (sD ([]++sP r),(0:Int),(0:Int))=_;rw[List.nil_append,a4H]
 |inr e=>
  show some (([]:List UInt8),((0+e:Nat):Int),(3:Int))=_;rw[aNd]
theorem aIn {n:Int}(h1:1<=n) (h3:n<=3) {s:List UInt8}(hs:pQ s):DS n s=some (yB n s):=by
 unfold DS;have hs':=hs;unfold pQ at hs';rw[aMK (by simp;omega),aMK (by simp;omega),show ((0:Int),([]:List Int))=(((0:Nat):Int),([]:List Int)) from rfl,aCo h1 h3 hs s.length 0 [] (by omega) (by omega) (by simp;omega),aNY];unfold yB;cases wE n s.length s with
 |inl r=>
  show some (sD ([]++sP r),(0:Int),(0:Int))=_;rw[List.nil_append,a4H]
 |inr e=>
  show some (([]:List UInt8),((0+e:Nat):Int),(3:Int))=_;rw[aNd]
def yC (b:UInt8):Bool:=((decide (b=32)||decide (b=9))||decide (b=10))||decide (b=13)
def rL (x y:UInt8):List UInt8->Bool
 |b::c::_=>decide (b=x)&&decide (c=y)
 |_=>false
def sA (l:List UInt8):Nat:=(l.findIdx? fun b=>decide (b=10)).getD l.length
def sK:List UInt8->Option Nat
 |[]=>none
 |b::t=>if rL 42 47 (b::t)=true then some 0 else(sK t).map (· +1)
def yD (n:Nat) (g:Nat×Bool):Nat×Bool:=(n+g.1,g.2)
def xI:Nat->List UInt8->Nat×Bool
 |0,_=>(0,true)
 |_+1,[]=>(0,true)
 |k+1,b::t=>
  if yC b=true then yD 1 (xI k t)
  else if rL 47 47 (b::t)=true then yD (sA (b::t)) (xI k ((b::t).drop (sA (b::t))))
  else if rL 47 42 (b::t)=true then match sK ((b::t).drop 2) with
   |none=>(0,false)
   |some e=>yD (e+4) (xI k ((b::t).drop (e+4)))
  else(0,true)
def G (l:List UInt8):Nat×Bool:=xI l.length l
theorem GS {l:List UInt8}(h:rL 47 47 l=true):2<=sA l/\sA l<=l.length:=by
 unfold rL at h;split at h
 ·rename_i b c t;simp only[aMS,aMQ] at h;obtain⟨rfl,rfl⟩:=h;unfold sA;rw[aND,aMK (by decide),aND,aMK (by decide)];cases h:t.findIdx? fun b=>decide (b=10) with
  |none=>simp
  |some k=>
   have:=(aNl.1 h).1;simp;omega
 ·cases h
theorem LI: ∀{l:List UInt8}{e:Nat},sK l=some e->e+2<=l.length
 |[],_,h=>by cases h
 |b::t,e,h=>by
  unfold sK at h;split at h
  ·rename_i hb;cases h;cases t with
   |nil=>simp [rL] at hb
   |cons c t=>simp
  ·cases hc:sK t with
   |none=>rw[hc] at h;cases h
   |some e'=>
    rw[hc] at h;obtain rfl:e'+1=e:=aML h;have:=LI hc;simp only[aMO];omega
theorem T7: ∀(n k k':Nat) (l:List UInt8),l.length<=n->l.length<=k->l.length<=k'->xI k l=xI k' l
 |n,k,k',[],_,_,_=>by cases k<;>cases k'<;>rfl
 |0,_,_,b::t,h,_,_=>by simp at h
 |n+1,0,_,b::t,_,h,_=>by simp at h
 |n+1,_,0,b::t,_,_,h=>by simp at h
 |n+1,k+1,k'+1,b::t,h,h1,h2=>by
  simp only[aMO] at h h1 h2;unfold xI;split
  ·rw[T7 n k k' t (by omega) (by omega) (by omega)]
  ·split
   ·rename_i hb;have:=GS hb;rw[T7 n k k' _ (by rw[aMP];simp only[aMO];omega) (by rw[aMP];simp only[aMO];omega) (by rw[aMP];simp only[aMO];omega)]
   ·split
    ·cases hc:sK ((b::t).drop 2) with
     |none=>rfl
     |some e=>
      dsimp only;rw[T7 n k k' _ (by rw[aMP];simp only[aMO];omega) (by rw[aMP];simp only[aMO];omega) (by rw[aMP];simp only[aMO];omega)]
    ·rfl
theorem aCp {k:Nat}{l:List UInt8}(h:l.length<=k):xI k l=G l:=T7 l.length k l.length l (aM2 _) h (aM2 _)
theorem aIo:G []=(0,true):=rfl
theorem zI {b:UInt8}{t:List UInt8}(h:yC b=true):G (b::t)=yD 1 (G t):=by
 show xI (t.length+1) (b::t)=_;unfold xI;rw[aMI h];rfl
theorem BH {b:UInt8}{t:List UInt8}(h: ¬yC b=true) (h1:rL 47 47 (b::t)=true):G (b::t)=yD (sA (b::t)) (G ((b::t).drop (sA (b::t)))):=by
 have:=GS h1;show xI (t.length+1) (b::t)=_;unfold xI;rw[aMK h,aMI h1,aCp (by rw[aMP];simp only[aMO];omega)]
theorem IS {b:UInt8}{t:List UInt8}(h: ¬yC b=true) (h1: ¬rL 47 47 (b::t)=true) (h2:rL 47 42 (b::t)=true) (hc:sK ((b::t).drop 2)=none):G (b::t)=(0,false):=by
 show xI (t.length+1) (b::t)=_;unfold xI;rw[aMK h,aMK h1,aMI h2,hc]
theorem BI {b:UInt8}{t:List UInt8}{e:Nat}(h: ¬yC b=true) (h1: ¬rL 47 47 (b::t)=true) (h2:rL 47 42 (b::t)=true) (hc:sK ((b::t).drop 2)=some e):G (b::t)=yD (e+4) (G ((b::t).drop (e+4))):=by
 show xI (t.length+1) (b::t)=_;unfold xI;rw[aMK h,aMK h1,aMI h2,hc];dsimp only;rw[aCp (by rw[aMP];simp only[aMO];omega)]
theorem FH {b:UInt8}{t:List UInt8}(h: ¬yC b=true) (h1: ¬rL 47 47 (b::t)=true) (h2: ¬rL 47 42 (b::t)=true):G (b::t)=(0,true):=by
 show xI (t.length+1) (b::t)=_;unfold xI;rw[aMK h,aMK h1,aMK h2]
theorem IT: ∀(n:Nat) (l:List UInt8),l.length<=n->(G l).1<=l.length
 |_,[],_=>aM2 _
 |0,_::_,h=>by simp at h
 |n+1,b::t,h=>by
  simp only[aMO] at h⊢;by_cases h0:yC b=true
  ·rw[zI h0];have:=IT n t (by omega);show 1+_<=_;omega
  ·by_cases h1:rL 47 47 (b::t)=true
   ·rw[BH h0 h1];have hl:=GS h1;have:=IT n ((b::t).drop (sA (b::t))) (by rw[aMP];simp only[aMO] at hl⊢;omega);rw[aMP] at this;simp only[aMO] at this hl;show sA _+_<=_;omega
   ·by_cases h2:rL 47 42 (b::t)=true
    ·cases hc:sK ((b::t).drop 2) with
     |none=>rw[IS h0 h1 h2 hc];exact aNt _
     |some e=>
      rw[BI h0 h1 h2 hc];have he:=LI hc;have:=IT n ((b::t).drop (e+4)) (by rw[aMP];simp only[aMO];omega);rw[aMP] at this he;simp only[aMO] at this he;show e+4+_<=_;omega
    ·rw[FH h0 h1 h2];exact aNt _
theorem T8 {s:List UInt8}{i:Nat}(hi:i<=s.length) (x y:UInt8):((decide ((([x,y]:List UInt8).length:Int)<=((s.length:Int)- (i:Int))))&&(decide ((pE s (i:Int) ((i:Int)+(([x,y]:List UInt8).length:Int)))=([x,y]:List UInt8))))=rL x y (s.drop i):=by
 have hc:pE s (i:Int) ((i:Int)+(([x,y]:List UInt8).length:Int))=(s.drop i).take 2:=by
  unfold pE;rw[aNp];congr 1;show ((i:Int)+2).toNat-i=2;omega
 have hl:(s.drop i).length=s.length-i:=aMP;rw[hc];generalize s.drop i=r at hl
 match r,hl with
 |[],hl=>simp only[aNw] at hl;rw[show decide ((([x,y]:List UInt8).length:Int)<=((s.length:Int)- (i:Int)))=false by simp only[aMO,aNw,aNr];omega];rfl
 |[b],hl=>simp only[aMO,aNw] at hl;rw[show decide ((([x,y]:List UInt8).length:Int)<=((s.length:Int)- (i:Int)))=false by simp only[aMO,aNw,aNr];omega];rfl
 |b::c::t,hl=>
  simp only[aMO] at hl;rw[show decide ((([x,y]:List UInt8).length:Int)<=((s.length:Int)- (i:Int)))=true by simp;omega,Bool.true_and];show decide ([b,c]=[x,y])=_;unfold rL;rw[aNM];simp
theorem a4I {s:List UInt8}(hs:pQ s) {i:Nat}(hi:i<=s.length) (x y:UInt8):KF s (i:Int) [x,y]=some ():=by
 unfold pQ at hs;have h2:((([x,y]:List UInt8).length:Nat):Int)=2:=rfl;unfold KF;rw[h2,aMI (by unfold p8;omega),aMI (fun _=>by unfold p8;omega),aMI];intro h;simp only[beq_iff_eq,aMQ] at h;omega
theorem aCq (r:List UInt8) (x y:UInt8):((decide ((([x,y]:List UInt8).length:Int)<=(r.length:Int)))&&(decide ((pE r (0:Int) (([x,y]:List UInt8).length:Int))=([x,y]:List UInt8))))=rL x y r:=by
 have:=T8 (s:=r) (i:=0) (aNt _) x y;rw[aNY,show ((0:Nat):Int)=0 from rfl,Int.sub_zero,Int.zero_add] at this;exact this
theorem aCr (r:List UInt8) (x y:UInt8):IH r [x,y]=some ():=by
 have h2:((([x,y]:List UInt8).length:Nat):Int)=2:=rfl;unfold IH KK;rw[h2,aMI]
 ·rfl
 ·intro h;simp only[beq_iff_eq,aMQ] at h;exact⟨aNy _,by decide,h⟩
theorem aCs (x y:UInt8):(x==y)=decide (y=x):=by
 by_cases h:y=x
 ·subst h;rw[beq_self_eq_true,aNK rfl]
 ·rw[decide_eq_false h,beq_eq_false_iff_ne];exact fun e=>h e.symm
theorem aCt {o:Option Nat}:(if (CZ o== -1)=true then(-1:Int) else CZ o+1)=CZ (o.map (· +1)):=by
 cases o with
 |none=>rfl
 |some k=>
  show (if ((k:Int)== -1)=true then(-1:Int) else(k:Int)+1)=((k+1:Nat):Int);rw[aMK (by rw[beq_iff_eq];omega)];rfl
theorem aCu: ∀(l:List UInt8),Lib.indexByte l 10=CZ (l.findIdx? fun b=>decide (b=10))
 |[]=>rfl
 |b::t=>by
  rw[Lib.indexByte,aND,aCu t,aCs,aCt];by_cases h:b=10
  ·subst h;rfl
  ·rw[aMK (by simpa using fun e=>h (Eq.symm e)),aMK (by simpa using h)]
theorem aCv: ∀(l:List UInt8),Lib.index l [42,47]=CZ (sK l)
 |[]=>rfl
 |b::t=>by
  rw[Lib.index,sK,aCv t,aCt];have hp:([42,47]:List UInt8).isPrefixOf (b::t)=rL 42 47 (b::t):=by
   cases t with
   |nil=>simp only[List.isPrefixOf,Bool.and_false,rL]
   |cons c t=>simp only[List.isPrefixOf,Bool.and_true,rL,aCs]
  rw[hp];by_cases h:rL 42 47 (b::t)=true
  ·rw[aMI h,aMI h];rfl
  ·rw[aMK h,aMK h]
theorem aIp {s:List UInt8}(hs:pQ s) {i:Nat}(hi:i<=s.length):pR (NM s) (i:Int)=some ((i+sA (s.drop i):Nat):Int):=by
 have hs':=hs;unfold pQ at hs';have h:=SX (f:=NM s) (l:=s) (fun b=> !decide (b=10)) (fun i h=>by
  unfold NM;rw[aMI (fun _=>rX h),uF h,Bool.true_and,xB h,uG (n:=10) 10 rfl,aMI (sR (by omega))]) (by
  unfold NM;have hF:decide ((s.length:Int)<(s.length:Int))=false:=by simp
  rw[hF,aMI (fun h=>by simp at h),aOA,aMK (by decide)]) (s.length-i) i (by omega)
 rw[h];unfold sA;simp only[Bool.not_not,aMP]
theorem aIq {s:List UInt8}{i:Nat}(h:i<s.length):sK (s.drop i)=if rL 42 47 (s.drop i)=true then some 0 else(sK (s.drop (i+1))).map (· +1):=by
 rw[aM8 h,sK]
def a4J (i n:Nat):Option Nat->Int
 |some e=>(i:Int)+(e:Int)
 |none=>(n:Int)
theorem aCw {s:List UInt8}(hs:pQ s): ∀(n i:Nat),i+n=s.length->pR (NN s) (i:Int)=some (a4J i s.length (sK (s.drop i)))
 |0,i,h=>by
  have:i=s.length:=by omega
  subst this;have hF:decide ((s.length:Int)<(s.length:Int))=false:=by simp
  rw[xA (r:=(s.length:Int)) (by unfold NN;rw[hF,aMI (fun h=>by simp at h),aOA,aMK (by decide)]),aNu];rfl
 |n+1,i,h=>by
  have hlt:i<s.length:=by omega
  have hs':=hs;unfold pQ at hs';rw[wQ,aIq hlt];unfold NN;rw[a4I hs (by omega),T8 (by omega),uF hlt,Bool.true_and,aMI (show ((true==true)=true->(some ()).isSome=true) from fun _=>rfl)];by_cases hb:rL 42 47 (s.drop i)=true
  ·rw[aMK (by rw[hb];decide),aMI hb];show some ((i:Int))=some ((i:Int)+((0:Nat):Int));rw[show ((i:Int)+((0:Nat):Int))=(i:Int) by omega]
  ·rw[aMI (by simpa using hb),aMI (sR (by omega)),aMK hb];show pR (NN s) ((i+1:Nat):Int)=_;rw[aCw hs n (i+1) (by omega)];cases sK (s.drop (i+1)) with
   |none=>rfl
   |some e=>
    show some ((((i+1:Nat)):Int)+(e:Int))=some ((i:Int)+(((e+1:Nat)):Int));rw[show (((i+1:Nat)):Int)+(e:Int)=(i:Int)+(((e+1:Nat)):Int) by omega]
theorem wsE (b:UInt8):((((decide ((b.toNat:Int)=(32:Int)))||(decide ((b.toNat:Int)=(9:Int))))||(decide ((b.toNat:Int)=(10:Int))))||(decide ((b.toNat:Int)=(13:Int))))=yC b:=by
 rw[uG (n:=32) 32 rfl,uG (n:=9) 9 rfl,uG (n:=10) 10 rfl,uG (n:=13) 13 rfl];rfl
theorem aCx {s:List UInt8}{i:Nat}(h:rL 47 42 (s.drop i)=true):i+2<=s.length:=by
 have hl:(s.drop i).length=s.length-i:=aMP;unfold rL at h;split at h
 ·rename_i b c t he;rw[he] at hl;simp only[aMO] at hl;omega
 ·cases h
theorem T9 {s:List UInt8}(hs:pQ s): ∀(n i:Nat),i<=s.length->s.length-i<=n->s5 (pR (IG s) (i:Int)) (fun x=>some x)=some ((i+(G (s.drop i)).1:Nat):Int)
 |n,i,hi,hn=>by
  have hs':=hs;unfold pQ at hs';by_cases hlt:i<s.length
  ·cases n with
   |zero=>omega
   |succ n=>
    have hd:=aM8 hlt;rw[wQ];unfold IG;rw[aMI (uF hlt),aMI (rX hlt),aMI (fun _=>rX hlt),aMI (fun _=>rX hlt),aMI (fun _=>rX hlt),xB hlt,wsE];by_cases h0:yC s[i]=true
    ·rw[aMI h0,aMI (sR (by omega)),hd,zI h0];show s5 (pR (IG s) ((i+1:Nat):Int)) _=_;rw[T9 hs n (i+1) (by omega) (by omega)];show _=some (((i+(1+(G (s.drop (i+1))).1):Nat)):Int);rw[show i+1+(G (s.drop (i+1))).1=i+(1+(G (s.drop (i+1))).1) by omega]
    ·rw[aMK h0,a4I hs hi,aMH,T8 hi];by_cases h1:rL 47 47 (s.drop i)=true
     ·have hl:=GS h1;rw[aMP] at hl;rw[aMI h1,aIp hs hi];unfold rE;rw[aMH];show s5 (pR (IG s) ((i+sA (s.drop i):Nat):Int)) _=_;rw[T9 hs n (i+sA (s.drop i)) (by omega) (by omega)];have hg:G (s.drop i)=yD (sA (s.drop i)) (G ((s.drop i).drop (sA (s.drop i)))):=by
       rw[hd] at h1⊢;exact BH h0 h1
      rw[hg,aNo];show _=some (((i+(sA (s.drop i)+(G (s.drop (i+sA (s.drop i)))).1):Nat)):Int);rw[aNn]
     ·rw[aMK h1,a4I hs hi,aMH,T8 hi];by_cases h2:rL 47 42 (s.drop i)=true
      ·have h2l:=aCx h2;rw[aMI h2,aMI (by unfold p8;omega),show ((i:Int)+2)=((i+2:Nat):Int) by omega,aCw hs (s.length- (i+2)) (i+2) (by omega)];unfold rE;rw[aMH];cases hc:sK (s.drop (i+2)) with
       |none=>
        rw[show a4J (i+2) s.length none=(s.length:Int) from rfl,aMI (by simp)];have hg:G (s.drop i)=(0,false):=by
         rw[hd] at h1 h2⊢;exact IS h0 h1 h2 (by rw[<-hd,aNo];exact hc)
        rw[hg];rfl
       |some e=>
        have he:=LI hc;rw[aMP] at he;have hz:a4J (i+2) s.length (some e)=(i:Int)+2+(e:Int):=by
         show (((i+2:Nat)):Int)+(e:Int)=_;omega
        rw[hz,aMK (by rw[aMQ];omega),aMI (by unfold p8;omega)];have hg:G (s.drop i)=yD (e+4) (G ((s.drop i).drop (e+4))):=by
         rw[hd] at h1 h2⊢;exact BI h0 h1 h2 (by rw[<-hd,aNo];exact hc)
        show s5 (pR (IG s) ((i:Int)+2+(e:Int)+2)) _=_;rw[show ((i:Int)+2+(e:Int)+2)=((i+(e+4):Nat):Int) by omega,T9 hs n (i+(e+4)) (by omega) (by omega),hg,aNo];show _=some (((i+(e+4+(G (s.drop (i+(e+4)))).1):Nat)):Int);rw[show i+(e+4+(G (s.drop (i+(e+4)))).1)=i+(e+4)+(G (s.drop (i+(e+4)))).1 by omega]
      ·rw[aMK h2];have hg:G (s.drop i)=(0,true):=by
        rw[hd] at h1 h2⊢;exact FH h0 h1 h2
       rw[hg];rfl
  ·have:i=s.length:=by omega
   subst this;rw[xA (r:= .inl (s.length:Int)) (by unfold IG;rw[aMK (zG _)]),aNu];rfl
theorem LJ {s:List UInt8}(hs:pQ s) {i:Nat}(hi:i<=s.length):KV s (i:Int)=some ((i+(G (s.drop i)).1:Nat):Int):=by
 unfold KV;exact T9 hs (s.length-i) i hi (aM2 _)
theorem wsI (b:UInt8):decide ((0:Int)<=tH ([32,9,10,13]:List UInt8) (b.toNat:Int))=yC b:=by
 rw[sib,<-Lib.contains_iff_indexByte];unfold yC;rw[aNM];simp [or_assoc]
theorem aIt {t:List UInt8}:G (10::t)=yD 1 (G t):=zI rfl
theorem aIu {l:List UInt8}{k:Nat}(h:l.findIdx? (fun b=>decide (b=10))=some k):sA l=k/\k<l.length/\l.drop k=10::l.drop (k+1):=by
 obtain⟨hk,hp,_⟩:=aNl.1 h;refine⟨by unfold sA;rw[h];rfl,hk,?_⟩;rw[aM8 hk];simp only[aMQ] at hp;rw[hp]
theorem aIv {l:List UInt8}(h:l.findIdx? (fun b=>decide (b=10))=none):sA l=l.length:=by unfold sA;rw[h];rfl
theorem OB {s:List UInt8}(hs:pQ s) (j0:Int): ∀(n i:Nat),i<=s.length->s.length-i<=n->s5 (pR (F7 (s,(j0,()))) (i:Int)) (fun x=>some (true,x))=some ((G (s.drop i)).2,((i+(G (s.drop i)).1:Nat):Int))
 |n,i,hi,hn=>by
  have hs':=hs;unfold pQ at hs';by_cases hlt:i<s.length
  ·cases n with
   |zero=>omega
   |succ n=>
    have hd:=aM8 hlt;have hl:(s.drop i).length=s.length-i:=aMP;rw[wQ];unfold F7;dsimp only;rw[aMI (uF hlt),aMI ⟨by omega,by omega,aNy _⟩,DT,aMI ⟨aNy _,by omega⟩];have hb:pI (s.drop i) 0=(s[i].toNat:Int):=by
     rw[hd];exact xB (i:=0) (by simp only[aMO];omega)
    rw[hb,wsI];by_cases h0:yC s[i]=true
    ·rw[aMI h0,aMI (sR (by omega)),hd,zI h0];show s5 (pR (F7 (s,(j0,()))) ((i+1:Nat):Int)) _=_;rw[OB hs j0 n (i+1) (by omega) (by omega)];show _=some ((G (s.drop (i+1))).2,(((i+(1+(G (s.drop (i+1))).1):Nat)):Int));rw[show i+1+(G (s.drop (i+1))).1=i+(1+(G (s.drop (i+1))).1) by omega]
    ·rw[aMK h0,aCr,aMH,aCq];by_cases h1:rL 47 47 (s.drop i)=true
     ·have hg:G (s.drop i)=yD (sA (s.drop i)) (G ((s.drop i).drop (sA (s.drop i)))):=by
       rw[hd] at h1⊢;exact BH h0 h1
      have hx:tH (s.drop i) 10=CZ ((s.drop i).findIdx? fun b=>decide (b=10)):=aCu _;rw[aMI h1,hx];cases hf:(s.drop i).findIdx? fun b=>decide (b=10) with
      |none=>
       have hln:=aIv hf;rw[aMI (by decide),aMI (by unfold p8;omega),aMI (by unfold p8;omega),aMI (by unfold p8;omega),hl];show s5 (pR (F7 (s,(j0,()))) _) _=_;rw[show ((i:Int)+(((s.length-i:Nat):Int)-1+1))=((s.length:Nat):Int) by omega,OB hs j0 n s.length (aM2 _) (by omega),hg,hln,aNu,aNu,hl];show some (true,((s.length+0:Nat):Int))=some (true,((i+(s.length-i+0):Nat):Int));rw[show s.length+0=i+(s.length-i+0) by omega]
      |some k=>
       obtain⟨hln,hk,hdk⟩:=aIu hf;rw[hl] at hk;show s5 (Option.bind (if decide ((k:Int)<0)=true then _ else if p8 ((k:Int)+1) then if p8 ((i:Int)+((k:Int)+1)) then _ else _ else _) _) _=_;rw[aMK (by simp),aMI (sR (by omega)),aMI (by unfold p8;omega)];show s5 (pR (F7 (s,(j0,()))) ((i:Int)+((k:Int)+1))) _=_;rw[show ((i:Int)+((k:Int)+1))=((i+(k+1):Nat):Int) by omega,OB hs j0 n (i+(k+1)) (by omega) (by omega),hg,hln,hdk,aIt,aNo];show some ((G (s.drop (i+(k+1)))).2,_)=some ((G (s.drop (i+(k+1)))).2,(((i+(k+(1+(G (s.drop (i+(k+1)))).1)):Nat)):Int));rw[show i+(k+(1+(G (s.drop (i+(k+1)))).1))=i+(k+1)+(G (s.drop (i+(k+1)))).1 by omega]
     ·rw[aMK h1,aCr,aMH,aCq];by_cases h2:rL 47 42 (s.drop i)=true
      ·have h2l:=aCx h2;have hcut:pE (s.drop i) 2 ((s.drop i).length:Int)=s.drop (i+2):=by
        rw[show ((2:Int))=((2:Nat):Int) from rfl,DT,aNo]
       rw[aMI h2,aMI ⟨by decide,by omega,aNy _⟩,hcut,aMI (by rw[aMP];omega),show K3 (s.drop (i+2)) [42,47]=CZ (sK (s.drop (i+2))) from aCv _];cases hc:sK (s.drop (i+2)) with
       |none=>
        rw[aMI (by decide)];have hg:G (s.drop i)=(0,false):=by
         rw[hd] at h1 h2⊢;exact IS h0 h1 h2 (by rw[<-hd,aNo];exact hc)
        rw[hg];rfl
       |some e=>
        have he:=LI hc;rw[aMP] at he;have hg:G (s.drop i)=yD (e+4) (G ((s.drop i).drop (e+4))):=by
         rw[hd] at h1 h2⊢;exact BI h0 h1 h2 (by rw[<-hd,aNo];exact hc)
        show s5 (Option.bind (if decide ((e:Int)<0)=true then _ else if p8 ((e:Int)+4) then if p8 ((i:Int)+((e:Int)+4)) then _ else _ else _) _) _=_;rw[aMK (by simp),aMI (by unfold p8;omega),aMI (by unfold p8;omega)];show s5 (pR (F7 (s,(j0,()))) ((i:Int)+((e:Int)+4))) _=_;rw[show ((i:Int)+((e:Int)+4))=((i+(e+4):Nat):Int) by omega,OB hs j0 n (i+(e+4)) (by omega) (by omega),hg,aNo];show _=some ((G (s.drop (i+(e+4)))).2,(((i+(e+4+(G (s.drop (i+(e+4)))).1):Nat)):Int));rw[show i+(e+4+(G (s.drop (i+(e+4)))).1)=i+(e+4)+(G (s.drop (i+(e+4)))).1 by omega]
      ·rw[aMK h2];have hg:G (s.drop i)=(0,true):=by
        rw[hd] at h1 h2⊢;exact FH h0 h1 h2
       rw[hg];rfl
  ·have:i=s.length:=by omega
   subst this;rw[xA (r:= .inl (s.length:Int)) (by unfold F7;rw[aMK (zG _)]),aNu];rfl
theorem aIw {s:List UInt8}(hs:pQ s) {i:Nat}(hi:i<=s.length):GM (s,((i:Int),()))=some ((G (s.drop i)).2,((i+(G (s.drop i)).1:Nat):Int)):=by
 unfold GM;exact OB hs _ (s.length-i) i hi (aM2 _)
def A0 (c:Int):Bool:=((decide ((97:Int)≤c))&&(decide (c≤(122:Int))))||((decide ((65:Int)≤c))&&(decide (c≤(90:Int))))
def a4K (c:Int):Bool:=((((A0 c)||((decide ((48:Int)≤c))&&(decide (c≤(57:Int)))))||(decide (c=(45:Int))))||(decide (c=(95:Int))))||(decide (c=(46:Int)))
def AS (b:UInt8):Bool:=a4K b.toNat
def uU (l:List UInt8):Nat:=(l.findIdx? fun b=> !AS b).getD l.length
theorem a4L (l:List UInt8):uU l≤l.length:=by
  unfold uU;cases h:l.findIdx? fun b=> !AS b with
  |none=>exact aM2 _
  |some k=>exact Nat.le_of_lt (aNl.1 h).1
def vH (t:List UInt8):Int×List UInt8×Nat:=
  match s8 34 t with
  |none=>(0,[],0)
  |some n=>if (yB 3 (t.take n)).2.2≠0∨tK (yB 3 (t.take n)).1=false then(0,[],0) else(1,(yB 3 (t.take n)).1,n+2)
def sL (r:List UInt8):Int×List UInt8×Nat:=
  match r with
  |[]=>(4,[],0)
  |b::t=>if b=123∨b=125 then(3,[b],1) else if b=34 then vH t else if A0 b.toNat=true then(2,(b::t).take (uU (b::t)),uU (b::t)) else(0,[],0)
theorem DW {b:UInt8}{t:List UInt8}(h:b=123∨b=125):sL (b::t)=(3,[b],1):=aMI h
theorem C3 {b:UInt8}{t:List UInt8}(h: ¬(b=123∨b=125)) (h2:b=34):sL (b::t)=vH t:=(aMK h).trans (aMI h2)
theorem C5 {b:UInt8}{t:List UInt8}(h: ¬(b=123∨b=125)) (h2: ¬b=34) (h3:A0 b.toNat=true):sL (b::t)=(2,(b::t).take (uU (b::t)),uU (b::t)):=(aMK h).trans ((aMK h2).trans (aMI h3))
theorem GT {b:UInt8}{t:List UInt8}(h: ¬(b=123∨b=125)) (h2: ¬b=34) (h3: ¬A0 b.toNat=true):sL (b::t)=(0,[],0):=(aMK h).trans ((aMK h2).trans (aMK h3))
def rY (l:List UInt8):Int×List UInt8×Nat×Nat:=
  if (G l).2=true then((sL (l.drop (G l).1)).1,(sL (l.drop (G l).1)).2.1,(G l).1,(G l).1+(sL (l.drop (G l).1)).2.2) else(0,[],(G l).1,(G l).1)
theorem OC: ∀(n:Nat) (l:List UInt8),l.length≤n→(G l).2=false→∃t,l.drop (G l).1=47::t
  |_,[],_,h=>by cases h
  |0,_::_,h,_=>by simp at h
  | n+1,b::t,hl,h=>by
    simp only[aMO] at hl;by_cases h0:yC b=true
    · rw[zI h0] at h⊢
      obtain⟨u,hu⟩:=OC n t (by omega) h;refine⟨u,?_⟩;show (b::t).drop (1+(G t).1)=_;rw[Nat.add_comm,aOF];exact hu
    · by_cases h1:rL 47 47 (b::t)=true
      · rw[BH h0 h1] at h⊢
        have hp:=GS h1;obtain⟨u,hu⟩:=OC n ((b::t).drop (sA (b::t))) (by rw[aMP];simp only[aMO] at hp⊢;omega) h;refine⟨u,?_⟩;rw[aNo] at hu;exact hu
      · by_cases h2:rL 47 42 (b::t)=true
        · cases hc:sK ((b::t).drop 2) with
          | none=>
            rw[IS h0 h1 h2 hc];unfold rL at h2;split at h2
            · rename_i b' c' t' he
              simp only[aMS,aMQ] at h2;exact⟨c'::t',by rw[he,h2.1];rfl⟩
            ·cases h2
          | some e=>
            rw[BI h0 h1 h2 hc] at h⊢;obtain⟨u,hu⟩:=OC n ((b::t).drop (e+4)) (by rw[aMP];simp only[aMO];omega) h;refine⟨u,?_⟩;rw[aNo] at hu;exact hu
        ·rw[FH h0 h1 h2] at h;cases h
theorem aCy (t:List UInt8):sL (47::t)=(0,[],0):=by
  exact GT (by decide) (by decide) (by decide)
theorem aIx (t:List UInt8):(vH t).2.2≤t.length+1:=by
  unfold vH;cases h:s8 34 t with
  |none=>exact aNt _
  | some n=>
    have:=LH t.length t n (aM2 _) h;dsimp only;split
    ·exact aNt _
    ·show n+2≤_;omega
theorem aIy (r:List UInt8):(sL r).2.2≤r.length:=by
  unfold sL;split
  ·exact aNt _
  · rename_i b t
    split
    ·simp
    · split
      ·exact aIx t
      · split
        ·exact a4L _
        ·exact aNt _
theorem aIz (l:List UInt8):(rY l).2.2.1≤(rY l).2.2.2∧(rY l).2.2.2≤l.length:=by
  have h1:=IT l.length l (aM2 _);have h2:=aIy (l.drop (G l).1);rw[aMP] at h2;unfold rY;split
  ·dsimp only;omega
  ·dsimp only;omega
theorem aCz {s:List UInt8}(hs:pQ s) (n:Nat):pQ (s.drop n):=by unfold pQ at*;rw[aMP];omega
theorem aCA {s:List UInt8}(hs:pQ s) (n:Nat):pQ (s.take n):=by unfold pQ at*;rw[aM5];omega
def kR (k:Int):Int:=if k=4 then 0 else k
theorem aCB {α:Type}{l:List α}{a n:Nat}:pE l (a:Int) ((a:Int)+(n:Int))=(l.drop a).take n:=by
  unfold pE;rw[aNp];congr 1;omega
theorem aIA {s:List UInt8}(hs:pQ s) {p:Nat}(hp:p≤s.length):pR (NX s) (p:Int)=some ((p+uU (s.drop p):Nat):Int):=by
  have hs':=hs;unfold pQ at hs'
  have h:=SX (f:=NX s) (l:=s) (fun b=>AS b) (fun i h=>by
    unfold NX;rw[aMI (fun _=>rX h),aMI (fun _=>rX h),aMI (fun _=>rX h),aMI (fun _=>rX h),aMI (fun _=>rX h),aMI (fun _=>rX h),uF h,Bool.true_and,xB h,aMI (sR (by omega))];rfl) (by
    unfold NX;have hF:decide ((s.length:Int)<(s.length:Int))=false:=by simp
    rw[hF];simp only[aOA,show (false==true)=false from rfl,aN9,false_implies,aOk,aOS]) (s.length-p) p (by omega)
  rw[h];unfold uU;rw[aMP]
theorem aIB (l:List UInt8):(AR l).2=0∨(AR l).1.length≤(AR l).2:=by
  unfold AR;split
  · rename_i a c t
    have h1:=T4 (l:=t.take 2) (k:=4) (ok:=fun n=>decide (n≤127)) (f:=fun n=>sD [n]) (fun n=>by simp [sD]);have h2:=T4 (l:=t.take 4) (k:=6) (ok:=vG) (f:=Lib.encodeRune) a4B
    repeat' split
    all_goals first
      |exact .inl rfl
      |exact .inr (by simp)
      | (rcases h1.2 with e|e
         ·exact .inl e
         ·exact .inr (by rw[e];exact h1.1))
      | (rcases h2.2 with e|e
         ·exact .inl e
         ·exact .inr (by rw[e];have:=h2.1;omega))
  ·exact .inl rfl
theorem aIC (n:Int) (l:List UInt8):(tE n l).2=0∨(tE n l).1.length≤(tE n l).2:=by
  cases l with
  |nil=>exact .inl rfl
  | cons b t=>
    by_cases h:b=92
    ·rw[T5 h];exact aIB _
    · by_cases hb:zZ n b=true
      ·rw[O9 h hb];exact .inl rfl
      ·rw[T6 h hb];exact .inr (by simp)
theorem aCC (n:Int): ∀(k:Nat) (l r:List UInt8),wE n k l= .inl r→r.length≤l.length
  |0,_,_,h=>by cases h;simp
  |_+1,[],_,h=>by cases h;simp
  | k+1,b::t,r,h=>by
    rw[wE] at h;split at h
    ·cases h
    · rename_i hz
      have hp:=(aIC n (b::t)).resolve_left hz;have hq:=(OA n (b::t)).2;cases hu:wE n k ((b::t).drop (tE n (b::t)).2) with
      | inl r'=>
        rw[hu] at h;cases h;have:=aCC n k _ r' hu;rw[aMP] at this;rw[aMN];omega
      |inr e=>rw[hu] at h;cases h
theorem a4M (n:Int) (s:List UInt8):(yB n s).1.length≤s.length:=by
  unfold yB;cases h:wE n s.length s with
  |inl r=>exact aCC n _ _ _ h
  |inr e=>simp
theorem GU {s:List UInt8}(h:s.length≤4000000000):pQ s:=by unfold pQ;omega
theorem aID {s:List UInt8}(hsm:s.length≤4000000000) {i:Nat}(hi:i≤s.length):
    L4 s (i:Int)=some (kR (rY (s.drop i)).1,(rY (s.drop i)).2.1,((i+(rY (s.drop i)).2.2.1:Nat):Int),((i+(rY (s.drop i)).2.2.2:Nat):Int)):=by
  have hs:=GU hsm;have hgl:=IT (s.drop i).length (s.drop i) (aM2 _);rw[aMP] at hgl;unfold L4;rw[LJ hs hi,aMH];obtain⟨p,hp⟩: ∃p,i+(G (s.drop i)).1=p:=⟨_,rfl⟩;have hdp:(s.drop i).drop (G (s.drop i)).1=s.drop p:=by rw[aNo,hp]
  have hpl:p≤s.length:=by omega
  have hspec: ∀k t n,sL (s.drop p)=(k,t,n)→(kR (rY (s.drop i)).1,(rY (s.drop i)).2.1,((i+(rY (s.drop i)).2.2.1:Nat):Int),((i+(rY (s.drop i)).2.2.2:Nat):Int))=(kR k,t,(p:Int),((p+n:Nat):Int)):=by
    intro k t n hk;unfold rY;by_cases hg:(G (s.drop i)).2=true
    · rw[aMI hg,hdp,hk]
      dsimp only;rw[←aNn,hp]
    · rw[aMK hg]
      obtain⟨u,hu⟩:=OC _ (s.drop i) (aM2 _) (by simpa using hg);rw[hdp] at hu;rw[hu,aCy] at hk;cases hk;dsimp only;rw[hp];rfl
  rw[hp];by_cases hend:p=s.length
  · have hnil:s.drop p=[]:=by rw[hend,aNu]
    rw[aMI (by rw[hend];simp),hspec 4 [] 0 (by rw[hnil];rfl)];rfl
  · have hlt:p<s.length:=by omega
    have hd:=aM8 hlt;rw[aMK (by simp;omega),aMI (rX hlt),xB hlt,uG (n:=123) 123 rfl,uG (n:=125) 125 rfl,uG (n:=34) 34 rfl];by_cases h1:s[p]=123∨s[p]=125
    · have hz:pE s (p:Int) ((p:Int)+1)=[s[p]]:=aCm hlt
      rw[aMI (by simpa using h1),aMI (sR (by omega)),aMI ⟨by omega,by omega,by omega⟩,aMI (sR (by omega)),hz,hspec 3 [s[p]] 1 (by rw[hd];exact DW h1)];rfl
    · rw[aMK (by simpa using h1)]
      by_cases h2:s[p]=34
      · have hct:pE s ((p:Int)+1) (s.length:Int)=s.drop (p+1):=by
          rw[show ((p:Int)+1)=((p+1:Nat):Int) by omega,DT]
        have hA:sL (s.drop p)=vH (s.drop (p+1)):=by rw[hd];exact C3 h1 h2
        rw[aMI (by simpa using h2),aMI (sR (by omega)),aMI ⟨by omega,by omega,aNy _⟩,hct,show ((34:Int))=((34:UInt8).toNat:Int) from rfl,aCd (by decide) (by decide) _ _ (aCz hs _),aMH];unfold vH at hA;cases he:s8 34 (s.drop (p+1)) with
        | none=>
          rw[he] at hA;rw[aMI (by decide),hspec 0 [] 0 hA];rfl
        | some k=>
          rw[he] at hA;dsimp only at hA;have hk:=LH _ _ _ (aM2 _) he;rw[aMP] at hk
          have hcm:pE s ((p:Int)+1) ((p:Int)+1+(k:Int))=(s.drop (p+1)).take k:=by
            rw[show ((p:Int)+1)=((p+1:Nat):Int) by omega,aCB]
          have hft:pQ ((s.drop (p+1)).take k):=aCA (aCz hs _) _;show (if decide ((k:Int)<0)=true then _ else if p8 ((p:Int)+1) then if p8 ((p:Int)+1) then if p8 ((p:Int)+1+(k:Int)) then if 0≤(p:Int)+1∧(p:Int)+1≤(p:Int)+1+(k:Int)∧(p:Int)+1+(k:Int)≤(s.length:Int) then(NV 3 (pE s ((p:Int)+1) ((p:Int)+1+(k:Int)))).bind _ else _ else _ else _ else _)=_;rw[aMK (by simp),aMI (sR (by omega)),aMI (sR (by omega)),aMI (by unfold p8;omega),aMI ⟨by omega,by omega,by omega⟩,hcm,aIm (by decide) (by decide) hft,aMH];generalize hu:yB 3 ((s.drop (p+1)).take k)=u at hA⊢
          have hul:pQ u.1:=by
            have:=a4M 3 ((s.drop (p+1)).take k);rw[hu,aM5,aMP] at this;unfold pQ;omega
          obtain⟨ht1,ht2⟩:=aH6 u.1 hul;rw[aMI (fun _=>by rw[ht1];rfl),ht2];by_cases hb:u.2.2≠0∨tK u.1=false
          · rw[aMI hb] at hA
            rw[aMI (by
              rcases hb with hb|hb
              ·simp [hb]
              ·simp [hb]),hspec 0 [] 0 hA]
            rfl
          · rw[aMK hb] at hA
            have hb1:u.2.2=0:=by
              by_cases h:u.2.2=0
              ·exact h
              ·exact absurd (.inl h) hb
            have hb2:tK u.1=true:=by
              cases h:tK u.1 with
              |true=>rfl
              |false=>exact absurd (.inr h) hb
            rw[aMK (by simp [hb1,hb2])];show (if p8 ((p:Int)+(k:Int)) then if p8 ((p:Int)+(k:Int)+2) then _ else _ else _)=_;rw[aMI (by unfold p8;omega),aMI (by unfold p8;omega),hspec 1 u.1 (k+2) hA];show some ((1:Int),u.1,(p:Int),(p:Int)+(k:Int)+2)=some (kR 1,u.1,(p:Int),((p+(k+2):Nat):Int));rw[show (p:Int)+(k:Int)+2=((p+(k+2):Nat):Int) by omega];rfl
      · rw[aMK (by simpa using h2)]
        show (if A0 (s[p].toNat:Int)=true then _ else _)=_;by_cases h3:A0 (s[p].toNat:Int)=true
        · have hw:=a4L (s.drop p)
          rw[aMP] at hw;rw[aMI h3,aIA hs hpl];unfold rE;rw[aMH,aMI ⟨by omega,by omega,by omega⟩,hspec 2 ((s.drop p).take (uU (s.drop p))) (uU (s.drop p)) (by rw[hd];exact C5 h1 h2 h3)];rw[show ((p+uU (s.drop p):Nat):Int)=(p:Int)+(uU (s.drop p):Int) by omega,aCB];rfl
        · rw[aMK h3,hspec 0 [] 0 (by rw[hd];exact GT h1 h2 h3)]
          rfl
end Go.Proofs.YtbbpilohihldiaaGreatDoor
