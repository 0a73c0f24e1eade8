/- Packed by a program of mine (wip/tools/pack.py): the same texts with short names and few blanks. -/
import Derived.KernelRfl
import Derived.Test.YtcpbaddnmpeipaaGreatDoorC03
set_option linter.defProp false
set_option linter.unusedVariables false
set_option linter.unusedSimpArgs false
set_option linter.unusedSectionVars false
set_option maxRecDepth 100000
set_option maxHeartbeats 4000000
namespace Go.Proofs.YtcpbaddnmpeipaaGreatDoor
open Vc
open Tryz
noncomputable section
def OK (O:pM):Option (pM×Int):=if (decide ((vJ O (59:Int))<(0:Int)))=true then some ((([]:pM),(0:Int))) else if 0≤(1:Int)∧(1:Int)≤(vJ O (59:Int))∧(vJ O (59:Int))≤(O.length:Int) then if (decide ((rV O (1:Int) (vJ O (59:Int)))=([97,109,112]:pM)))=true then if qP ((vJ O (59:Int))+(1:Int)) then some ((([38]:pM),((vJ O (59:Int))+(1:Int)))) else none else if (decide ((rV O (1:Int) (vJ O (59:Int)))=([108,116]:pM)))=true then if qP ((vJ O (59:Int))+(1:Int)) then some ((([60]:pM),((vJ O (59:Int))+(1:Int)))) else none else if (decide ((rV O (1:Int) (vJ O (59:Int)))=([103,116]:pM)))=true then if qP ((vJ O (59:Int))+(1:Int)) then some ((([62]:pM),((vJ O (59:Int))+(1:Int)))) else none else if (decide ((rV O (1:Int) (vJ O (59:Int)))=([113,117,111,116]:pM)))=true then if qP ((vJ O (59:Int))+(1:Int)) then some ((([34]:pM),((vJ O (59:Int))+(1:Int)))) else none else if (decide ((rV O (1:Int) (vJ O (59:Int)))=([97,112,111,115]:pM)))=true then if qP ((vJ O (59:Int))+(1:Int)) then some ((([39]:pM),((vJ O (59:Int))+(1:Int)))) else none else (M3 (rV O (1:Int) (vJ O (59:Int))) ([35]:pM)).bind fun Z=>if (!Z.2)=true then some ((([]:pM),(0:Int))) else (M3 Z.1 ([120]:pM)).bind fun aA=>uA (σ:=(pM×Int×Int)) (if aA.2=true then some ((aA.1,(16:Int),(6:Int))) else some ((Z.1,(10:Int),(7:Int))) ) fun(aB,aC,aD)=>(FJ aB aC).bind fun aE=>if ((!aE.2)||(decide (aD<(aB.length:Int))))=true then some ((([]:pM),(0:Int))) else (JK aE.1).bind fun aF=>if (!((decide (aE.1≤(1114111:Int)))&&((decide (aE.1<(55296:Int)))||(decide ((57343:Int)<aE.1)))))=true then some ((([]:pM),(0:Int))) else if qP ((vJ O (59:Int))+(1:Int)) then some ((aF,((vJ O (59:Int))+(1:Int)))) else none else none
section
variable (O:pM)
abbrev a64:List qM:=[(.val .str O,none)]
abbrev a65:List qJ:=[]
@[go_sem] def a67:qY:=⟨[((OK O)).isSome=true],[(.val .str ((val (OK O)).1),none),(.val (.int .i64) ((val (OK O)).2),none)],[]⟩
def aFh:List qM→List qJ→Option qY:=s5 (V:=pM) (a64) (fun x=>a65) fun x=>a67 x
@[go_sem] def aSb:aFh (no_index (a64 O)) (no_index a65)=some (a67 O):=sA (fun a0 b0 h1 h2=>by cases h1;cases h2;rfl) O
end
@[go_sem] abbrev aFi:Nat×rK:=(181,⟨[.v],aFh,[],[],none⟩)
def uU:rI prog [sT] (rJ [LJ,aEr,a3U,a6X]):=⟨⟨sW,trivial⟩,qW QW (qW aMr (qW aDE (qW aFc rX))),rM⟩
def aMJ:rT prog aFi:=by
 refine sB uU func181 (c:=_) rfl (N:=80) qD (ts:=[(2,none),(3,none)]) rfl (fun _ _=>rfl) ?_;intro O hs hrow;dsimp only[a64,a65,a67,rY,r8,rG,rN,rZ,Nat.reduceAdd] at hs hrow|-;have hz:=hs;obtain⟨z0,d⟩:=aSs.1 hz
 try rw[sG d]
 clear hz hs;unfold OK at d;refine qK uU ?_;refine qK uU ?_;refine qZ (qK uU ?_);refine r7 d ?_ ?_<;>intro d Y
 .refine qK uU ?_;refine qV (rF ?_);cases d;exact pO []
 refine rD (qU ?_);obtain⟨X,d⟩:=qR d;refine qK uU ?_ (hp:=by exact X);refine qZ (qK uU ?_);refine sJ (qK uU ?_);refine r7 d ?_ ?_<;>intro d Y
 .obtain⟨W,d⟩:=qR d;refine qK uU ?_ (hp:=by exact W);refine qV (sD (rF ?_));cases d;exact pO []
 refine qK uU ?_;refine r7 d ?_ ?_<;>intro d Y
 .obtain⟨V,d⟩:=qR d;refine qK uU ?_ (hp:=by exact V);refine qV (sD (rF ?_));cases d;exact pO []
 refine qK uU ?_;refine r7 d ?_ ?_<;>intro d Y
 .obtain⟨U,d⟩:=qR d;refine qK uU ?_ (hp:=by exact U);refine qV (sD (rF ?_));cases d;exact pO []
 refine qK uU ?_;refine r7 d ?_ ?_<;>intro d Y
 .obtain⟨T,d⟩:=qR d;refine qK uU ?_ (hp:=by exact T);refine qV (sD (rF ?_));cases d;exact pO []
 refine qK uU ?_;refine r7 d ?_ ?_<;>intro d Y
 .obtain⟨S,d⟩:=qR d;refine qK uU ?_ (hp:=by exact S);refine qV (sD (rF ?_));cases d;exact pO []
 refine rD (sI (qU ?_));obtain⟨Z,hv7,hw7,d⟩:=rU d
 try simp only[go_sem] at hw7
 refine qK uU ?_ (hp:=by exact(rS hv7)) (h:=by simp only[go_sem,hw7];rfl);refine qZ (qK uU ?_);refine r7 d ?_ ?_<;>intro d Y
 .refine qK uU ?_;refine qV (rF ?_);cases d;exact pO []
 refine rD (qU (qK uU ?_));refine qZ ?_;obtain⟨aA,hv8,hw8,d⟩:=rU d
 try simp only[go_sem] at hw8
 refine qK uU ?_ (hp:=by exact(rS hv8)) (h:=by simp only[go_sem,hw8];rfl);refine qK uU ?_;obtain⟨y1,e,d⟩:=rC d;refine CJ (fun s=>s=(fun x=>⟨[(4,.val (.int .i64) (vJ O (59:Int)),none),(6,.val .str x.1,none),(8,.val (.int .i64) x.2.1,none),(9,.val (.int .i64) x.2.2,none)],[],0,80,0⟩) y1) ?_ ?_
 .refine r7 e ?_ ?_<;>intro e Y
  .refine rQ uU ?_;cases e;exact vI ⟨⟨[4,6,8,9],[]⟩,by rfl⟩
  refine rD ?_;cases e;exact vI ⟨⟨[4,6,8,9],[]⟩,by rfl⟩
 rintro _ rfl;obtain⟨aB,aC,aD⟩:=y1;dsimp only at d|-;refine qU ?_;obtain⟨aE,hv9,hw9,d⟩:=rU d
 try simp only[go_sem] at hw9
 refine qK uU ?_ (hp:=by exact(rS hv9)) (h:=by simp only[go_sem,hw9];rfl);refine qZ (qK uU ?_ (hp:=by exact⟨id,id,id,tG⟩));refine r7 d ?_ ?_<;>intro d Y
 .refine qK uU ?_;refine qV (rF ?_);cases d;exact pO []
 refine rD (qU ?_);obtain⟨aF,hv10,hw10,d⟩:=rU d
 try simp only[go_sem] at hw10
 refine qK uU ?_ (hp:=by exact(rS hv10)) (h:=by simp only[go_sem,hw10];rfl);refine qZ (qK uU ?_);refine r7 d ?_ ?_<;>intro d Y
 .refine qK uU ?_;refine qV (rF ?_);cases d;exact pO []
 refine rD (qU ?_);obtain⟨R,d⟩:=qR d;refine qK uU ?_ (hp:=by exact R);refine qV ?_;cases d;exact pO []
def aFj (O:Int) (Z:pM):(Int×pW)→Option ((Int×pW)⊕(pW⊕(pM×Int×Int))):=fun(aA,aB)=>if (decide (aA<(Z.length:Int)))=true then if 0≤aA∧aA<(Z.length:Int) then if (decide ((sH Z aA)=(38:Int)))=true then if 0≤aA∧aA≤(Z.length:Int)∧(Z.length:Int)≤(Z.length:Int) then (OK (rV Z aA (Z.length:Int))).bind fun aC=>if (decide (aC.2=(0:Int)))=true then some (.inr (.inr ((([]:pM),aA,(3:Int))))) else (FH (aB,()) aC.1).bind fun aD=>if qP (aA+aC.2) then some (.inl ((aA+aC.2),(aB++uP aC.1))) else none else none else if 0≤aA∧aA<(Z.length:Int) then if (LQ O (sH Z aA))=true then some (.inr (.inr ((([]:pM),aA,(3:Int))))) else if 0≤aA∧aA<(Z.length:Int) then (LR (aB,()) (sH Z aA)).bind fun aE=>if qP (aA+(1:Int)) then some (.inl ((aA+(1:Int)),(aB++([(sH Z aA)]:pW)))) else none else none else none else none else some (.inr (.inl aB))
def OL (O:Int) (Z:pM):(Int×pW)→Option ((Int×pW)⊕(pW⊕(pM×Int×Int))):=fun(aA,aB)=>if (decide (aA<(Z.length:Int)))=true then if 0≤aA∧aA<(Z.length:Int) then if (decide ((sH Z aA)=(92:Int)))=true then if 0≤aA∧aA≤(Z.length:Int)∧(Z.length:Int)≤(Z.length:Int) then (HL (rV Z aA (Z.length:Int))).bind fun aC=>if (decide (aC.2=(0:Int)))=true then some (.inr (.inr ((([]:pM),aA,(3:Int))))) else (FH (aB,()) aC.1).bind fun aD=>if qP (aA+aC.2) then some (.inl ((aA+aC.2),(aB++uP aC.1))) else none else none else if 0≤aA∧aA<(Z.length:Int) then if (LQ O (sH Z aA))=true then some (.inr (.inr ((([]:pM),aA,(3:Int))))) else if 0≤aA∧aA<(Z.length:Int) then (LR (aB,()) (sH Z aA)).bind fun aE=>if qP (aA+(1:Int)) then some (.inl ((aA+(1:Int)),(aB++([(sH Z aA)]:pW)))) else none else none else none else none else some (.inr (.inl aB))
def HO (O:Int) (Z:pM):Option (pM×Int×Int):=if (!((decide ((1:Int)≤O))&&(decide (O≤(4:Int)))))=true then some ((([]:pM),(0:Int),(1:Int))) else if (decide (O=(4:Int)))=true then uS (sC (aFj O Z) ((0:Int),([]:pW))) fun aA=>some (((tD aA),(0:Int),(0:Int))) else uS (sC (OL O Z) ((0:Int),([]:pW))) fun aB=>some (((tD aB),(0:Int),(0:Int)))
section
variable (O:Int) (Z:pM)
abbrev a68:List qM:=[(.val (.int .i64) O,none),(.val .str Z,none)]
abbrev a69:List qJ:=[]
@[go_sem] def a7a:qY:=⟨[((HO O Z)).isSome=true],[(.val .str ((val (HO O Z)).1),none),(.val (.int .i64) ((val (HO O Z)).2.1),none),(.val (.int .i64) ((val (HO O Z)).2.2),none)],[]⟩
def aFk:List qM→List qJ→Option qY:=s5 (V:=(Int×pM)) (fun x=>a68 x.1 x.2) (fun x=>a69) fun x=>a7a x.1 x.2
@[go_sem] def aSc:aFk (no_index (a68 O Z)) (no_index a69)=some (a7a O Z):=sA (fun⟨a0,a1⟩ ⟨b0,b1⟩ h1 h2=>by cases h1;cases h2;rfl) (O,Z)
end
@[go_sem] abbrev aFl:Nat×rK:=(149,⟨[.v,.v],aFk,[],[],none⟩)
def uC:rI prog [sT,J0] (rJ [WT,aFi,a2C,aDA,aDC,NU,aFg]):=⟨⟨sW,⟨NY,trivial⟩⟩,qW a2Z (qW aMJ (qW aCZ (qW aL4 (qW aL5 (qW WH (qW aMI rX)))))),rM⟩
def aMK:rT prog aFl:=by
 refine sB uC func149 (c:=_) rfl (N:=58) qD (ts:=[(4,none),(5,none),(6,none)]) rfl (fun _ _=>rfl) ?_;intro⟨O,Z⟩ hs hrow;dsimp only[a68,a69,a7a,rY,r8,rG,rN,rZ,Nat.reduceAdd] at hs hrow|-;have hz:=hs;obtain⟨z0,d⟩:=aSs.1 hz
 try rw[sG d]
 clear hz hs;unfold HO at d;refine qK uC ?_;refine qZ (qK uC ?_);refine r7 d ?_ ?_<;>intro d Y
 .refine qK uC ?_;refine qV (rF ?_);cases d;exact pO []
 refine rD (qU (qK uC ?_));refine qZ (qK uC ?_);refine r7 d ?_ ?_<;>intro d Y
 .refine rQ uC ?_;refine qU (qK uC ?_);refine qZ (qK uC ?_);refine sJ ?_;obtain⟨y1,hy1,d⟩:=yR d;refine w4 0 (fun s=> ∃v,y1= .inl v∧s=(fun x=>⟨[(9,.val .ref (some (0,0)),none)],[(0,.cells wR ((some (0,0)),(x,())) [(1,1)]),(1,.grow 5 1 (x.length))],2,58,0⟩) v) ?_ ?_
  .refine vP hy1 (fun x=>⟨[(0,.val (.int .i64) O,none),(1,.val .str Z,none),(7,.val (.int .u8) (38:Int),none),(8,.val .clo (some (181,[])),none),(9,.val .ref (some (0,0)),none),(10,.val (.int .i64) x.1,none)],[(0,.cells wR ((some (0,0)),(x.2,())) [(1,1)]),(1,.grow 5 1 (x.2.length))],2,58,0⟩) ⟨[0,1,7,8,9,10],[(0,384),(1,385)]⟩ qE ?_;intro x1 w1 n1 e f;obtain⟨aA,aB⟩:=x1;unfold aFj at e;dsimp only at e|-;refine qZ (qK uC ?_);refine r7 e ?_ ?_<;>intro e Y
   .refine rD (qU (sJ (sJ ?_)));obtain⟨X,e⟩:=qR e;refine qK uC ?_ (hp:=by exact X);refine r7 e ?_ ?_<;>intro e Y
    .obtain⟨W,e⟩:=qR e;obtain⟨aC,hv3,hw3,e⟩:=rU e
     try simp only[go_sem] at hw3
     refine qK uC ?_ (hp:=by exact⟨W,(rS hv3)⟩) (h:=by simp only[go_sem,hw3];rfl);refine qZ (qK uC ?_);refine r7 e ?_ ?_<;>intro e Y
     .refine qK uC ?_;refine qV (rF (sD (sD (xE (yQ (sD (rF ?_)))))));cases e;cases f;dsimp only at d;cases d;exact pO []
     refine rD (qU ?_);obtain⟨aD,hv4,hw4,e⟩:=rU e
     try simp only[go_sem] at hw4
     refine qK uC ?_ (hp:=by exact⟨qC,(rS hv4)⟩) (h:=by simp only[go_sem,hw4];rfl)
     obtain⟨V,e⟩:=qR e;refine rQ uC ?_ (hp:=by exact V);refine sI (sI ?_);cases e;exact tP ⟨⟨[0,1,7,8,9,10],[(0,0),(1,1)]⟩,_,by rfl,f⟩
    obtain⟨U,e⟩:=qR e;refine qK uC ?_ (hp:=by exact U);refine r7 e ?_ ?_<;>intro e Y
    .refine qK uC ?_;refine qV (sD (sD (xE (yQ (sD (rF ?_))))));cases e;cases f;dsimp only at d;cases d;exact pO []
    obtain⟨T,e⟩:=qR e;obtain⟨aE,hv8,hw8,e⟩:=rU e
    try simp only[go_sem] at hw8
    refine qK uC ?_ (hp:=by exact⟨T,qC,(rS hv8)⟩) (h:=by simp only[go_sem,hw8];rfl)
    obtain⟨S,e⟩:=qR e;refine rQ uC ?_ (hp:=by exact S);refine sI (sI ?_);cases e;exact tP ⟨⟨[0,1,7,8,9,10],[(0,0),(1,1)]⟩,_,by rfl,f⟩
   refine v8 (v6 (vA ?_));cases e;cases f;exact w5 ⟨⟨[9],[(0,0),(1,1)]⟩,_,rfl,by rfl⟩
  rintro _ ⟨aF,rfl,rfl⟩;dsimp only at d|-;refine v7 (qU ?_);refine qK uC ?_ (hp:=by first|rfl|trivial)
  refine qV ?_;cases d;exact pO []
 refine rD (qU (qK uC ?_));refine qZ (qK uC ?_);refine sJ ?_;obtain⟨y1,hy1,d⟩:=yR d;refine w4 0 (fun s=> ∃v,y1= .inl v∧s=(fun x=>⟨[(9,.val .ref (some (0,0)),none)],[(0,.cells wR ((some (0,0)),(x,())) [(1,1)]),(1,.grow 5 1 (x.length))],2,58,0⟩) v) ?_ ?_
 .refine vP hy1 (fun x=>⟨[(0,.val (.int .i64) O,none),(1,.val .str Z,none),(7,.val (.int .u8) (92:Int),none),(8,.val .clo (some (180,[])),none),(9,.val .ref (some (0,0)),none),(10,.val (.int .i64) x.1,none)],[(0,.cells wR ((some (0,0)),(x.2,())) [(1,1)]),(1,.grow 5 1 (x.2.length))],2,58,0⟩) ⟨[0,1,7,8,9,10],[(0,320),(1,321)]⟩ qE ?_;intro x1 w1 n1 e f;obtain⟨aG,aH⟩:=x1;unfold OL at e;dsimp only at e|-;refine qZ (qK uC ?_);refine r7 e ?_ ?_<;>intro e Y
  .refine rD (qU (sJ (sJ ?_)));obtain⟨R,e⟩:=qR e;refine qK uC ?_ (hp:=by exact R);refine r7 e ?_ ?_<;>intro e Y
   .obtain⟨Q,e⟩:=qR e;obtain⟨aI,hv12,hw12,e⟩:=rU e
    try simp only[go_sem] at hw12
    refine qK uC ?_ (hp:=by exact⟨Q,(rS hv12)⟩) (h:=by simp only[go_sem,hw12];rfl);refine qZ (qK uC ?_);refine r7 e ?_ ?_<;>intro e Y
    .refine qK uC ?_;refine qV (rF (sD (sD (xE (yQ (sD (rF ?_)))))));cases e;cases f;dsimp only at d;cases d;exact pO []
    refine rD (qU ?_);obtain⟨aJ,hv13,hw13,e⟩:=rU e
    try simp only[go_sem] at hw13
    refine qK uC ?_ (hp:=by exact⟨qC,(rS hv13)⟩) (h:=by simp only[go_sem,hw13];rfl)
    obtain⟨P,e⟩:=qR e;refine rQ uC ?_ (hp:=by exact P);refine sI (sI ?_);cases e;exact tP ⟨⟨[0,1,7,8,9,10],[(0,0),(1,1)]⟩,_,by rfl,f⟩
   obtain⟨M,e⟩:=qR e;refine qK uC ?_ (hp:=by exact M);refine r7 e ?_ ?_<;>intro e Y
   .refine qK uC ?_;refine qV (sD (sD (xE (yQ (sD (rF ?_))))));cases e;cases f;dsimp only at d;cases d;exact pO []
   obtain⟨L,e⟩:=qR e;obtain⟨aK,hv17,hw17,e⟩:=rU e
   try simp only[go_sem] at hw17
   refine qK uC ?_ (hp:=by exact⟨L,qC,(rS hv17)⟩) (h:=by simp only[go_sem,hw17];rfl)
   obtain⟨K,e⟩:=qR e;refine rQ uC ?_ (hp:=by exact K);refine sI (sI ?_);cases e;exact tP ⟨⟨[0,1,7,8,9,10],[(0,0),(1,1)]⟩,_,by rfl,f⟩
  refine v8 (v6 (vA ?_));cases e;cases f;exact w5 ⟨⟨[9],[(0,0),(1,1)]⟩,_,rfl,by rfl⟩
 rintro _ ⟨aL,rfl,rfl⟩;dsimp only at d|-;refine v7 (qU ?_);refine qK uC ?_ (hp:=by first|rfl|trivial)
 refine qV ?_;cases d;exact pO []
attribute [irreducible] OK HO
end
noncomputable section
def D2 (O:(pM×(Bool×Unit))):Option (Bool×pM×Bool×pM×Bool):=if ((decide ((Lib.trimLeftS O.1 ([32,9]:pM))=([]:pM)))||O.2.1)=true then some ((false,([]:pM),false,(Lib.trimLeftS O.1 ([32,9]:pM)),O.2.1)) else if 0≤(0:Int)∧(0:Int)<((Lib.trimLeftS O.1 ([32,9]:pM)).length:Int) then if (!decide ((sH (Lib.trimLeftS O.1 ([32,9]:pM)) (0:Int))=(34:Int)))=true then if List.length (Lib.trimLeftS O.1 ([32,9]:pM))<4294967281 then uA (σ:=Int) (if (decide ((NW (Lib.trimLeftS O.1 ([32,9]:pM)) ([32,9,34]:pM))<(0:Int)))=true then some (((Lib.trimLeftS O.1 ([32,9]:pM)).length:Int)) else some ((NW (Lib.trimLeftS O.1 ([32,9]:pM)) ([32,9,34]:pM))) ) fun Z=>if 0≤(0:Int)∧(0:Int)≤Z∧Z≤((Lib.trimLeftS O.1 ([32,9]:pM)).length:Int) then if 0≤Z∧Z≤((Lib.trimLeftS O.1 ([32,9]:pM)).length:Int)∧((Lib.trimLeftS O.1 ([32,9]:pM)).length:Int)≤((Lib.trimLeftS O.1 ([32,9]:pM)).length:Int) then (OB (rV (Lib.trimLeftS O.1 ([32,9]:pM)) Z ((Lib.trimLeftS O.1 ([32,9]:pM)).length:Int)) ([34]:pM)).bind fun aA=>some ((false,(rV (Lib.trimLeftS O.1 ([32,9]:pM)) (0:Int) Z),(!((decide ((([34]:pM).length:Int)≤((rV (Lib.trimLeftS O.1 ([32,9]:pM)) Z ((Lib.trimLeftS O.1 ([32,9]:pM)).length:Int)).length:Int)))&&(decide ((rV (rV (Lib.trimLeftS O.1 ([32,9]:pM)) Z ((Lib.trimLeftS O.1 ([32,9]:pM)).length:Int)) (0:Int) (([34]:pM).length:Int))=([34]:pM))))),(rV (Lib.trimLeftS O.1 ([32,9]:pM)) Z ((Lib.trimLeftS O.1 ([32,9]:pM)).length:Int)),((decide ((([34]:pM).length:Int)≤((rV (Lib.trimLeftS O.1 ([32,9]:pM)) Z ((Lib.trimLeftS O.1 ([32,9]:pM)).length:Int)).length:Int)))&&(decide ((rV (rV (Lib.trimLeftS O.1 ([32,9]:pM)) Z ((Lib.trimLeftS O.1 ([32,9]:pM)).length:Int)) (0:Int) (([34]:pM).length:Int))=([34]:pM)))))) else none else none else none else if 0≤(1:Int)∧(1:Int)≤((Lib.trimLeftS O.1 ([32,9]:pM)).length:Int)∧((Lib.trimLeftS O.1 ([32,9]:pM)).length:Int)≤((Lib.trimLeftS O.1 ([32,9]:pM)).length:Int) then (LP (2:Int) (rV (Lib.trimLeftS O.1 ([32,9]:pM)) (1:Int) ((Lib.trimLeftS O.1 ([32,9]:pM)).length:Int)) (34:Int)).bind fun aB=>if (decide (aB<(0:Int)))=true then some ((false,([]:pM),false,(Lib.trimLeftS O.1 ([32,9]:pM)),true)) else if qP (aB+(1:Int)) then if 0≤(1:Int)∧(1:Int)≤(aB+(1:Int))∧(aB+(1:Int))≤((Lib.trimLeftS O.1 ([32,9]:pM)).length:Int) then (HO (2:Int) (rV (Lib.trimLeftS O.1 ([32,9]:pM)) (1:Int) (aB+(1:Int)))).bind fun aC=>if qP (aB+(2:Int)) then if 0≤(aB+(2:Int))∧(aB+(2:Int))≤((Lib.trimLeftS O.1 ([32,9]:pM)).length:Int)∧((Lib.trimLeftS O.1 ([32,9]:pM)).length:Int)≤((Lib.trimLeftS O.1 ([32,9]:pM)).length:Int) then if (((!decide (aC.2.2=(0:Int)))==false)=true→((DI aC.1)).isSome=true) then if (((((!decide (aC.2.2=(0:Int)))||(!((decide ((aC.1.length:Int)≤(4000:Int)))&&(Lib.validD aC.1))))==false)&&((!decide ((rV (Lib.trimLeftS O.1 ([32,9]:pM)) (aB+(2:Int)) ((Lib.trimLeftS O.1 ([32,9]:pM)).length:Int))=([]:pM)))==true))=true→0≤(0:Int)∧(0:Int)<((rV (Lib.trimLeftS O.1 ([32,9]:pM)) (aB+(2:Int)) ((Lib.trimLeftS O.1 ([32,9]:pM)).length:Int)).length:Int)) then if (((((!decide (aC.2.2=(0:Int)))||(!((decide ((aC.1.length:Int)≤(4000:Int)))&&(Lib.validD aC.1))))==false)&&(((!decide ((rV (Lib.trimLeftS O.1 ([32,9]:pM)) (aB+(2:Int)) ((Lib.trimLeftS O.1 ([32,9]:pM)).length:Int))=([]:pM)))&&(!decide ((sH (rV (Lib.trimLeftS O.1 ([32,9]:pM)) (aB+(2:Int)) ((Lib.trimLeftS O.1 ([32,9]:pM)).length:Int)) (0:Int))=(32:Int))))==true))=true→0≤(0:Int)∧(0:Int)<((rV (Lib.trimLeftS O.1 ([32,9]:pM)) (aB+(2:Int)) ((Lib.trimLeftS O.1 ([32,9]:pM)).length:Int)).length:Int)) then some ((true,aC.1,(!(((!decide (aC.2.2=(0:Int)))||(!((decide ((aC.1.length:Int)≤(4000:Int)))&&(Lib.validD aC.1))))||(((!decide ((rV (Lib.trimLeftS O.1 ([32,9]:pM)) (aB+(2:Int)) ((Lib.trimLeftS O.1 ([32,9]:pM)).length:Int))=([]:pM)))&&(!decide ((sH (rV (Lib.trimLeftS O.1 ([32,9]:pM)) (aB+(2:Int)) ((Lib.trimLeftS O.1 ([32,9]:pM)).length:Int)) (0:Int))=(32:Int))))&&(!decide ((sH (rV (Lib.trimLeftS O.1 ([32,9]:pM)) (aB+(2:Int)) ((Lib.trimLeftS O.1 ([32,9]:pM)).length:Int)) (0:Int))=(9:Int)))))),(rV (Lib.trimLeftS O.1 ([32,9]:pM)) (aB+(2:Int)) ((Lib.trimLeftS O.1 ([32,9]:pM)).length:Int)),(((!decide (aC.2.2=(0:Int)))||(!((decide ((aC.1.length:Int)≤(4000:Int)))&&(Lib.validD aC.1))))||(((!decide ((rV (Lib.trimLeftS O.1 ([32,9]:pM)) (aB+(2:Int)) ((Lib.trimLeftS O.1 ([32,9]:pM)).length:Int))=([]:pM)))&&(!decide ((sH (rV (Lib.trimLeftS O.1 ([32,9]:pM)) (aB+(2:Int)) ((Lib.trimLeftS O.1 ([32,9]:pM)).length:Int)) (0:Int))=(32:Int))))&&(!decide ((sH (rV (Lib.trimLeftS O.1 ([32,9]:pM)) (aB+(2:Int)) ((Lib.trimLeftS O.1 ([32,9]:pM)).length:Int)) (0:Int))=(9:Int))))))) else none else none else none else none else none else none else none else none else none
section
variable (O:(pM×(Bool×Unit)))
abbrev a7b:List qM:=[(.val .ref (some (0,0)),none)]
abbrev a7c:List qJ:=[.cells (.pair .str (.pair .bool .unit)) O []]
@[go_sem] def a7d:qY:=⟨[((D2 O)).isSome=true],[(.val rE ((val (D2 O)).1,((val (D2 O)).2.1,())),none),(.val .bool ((val (D2 O)).2.2.1),none)],[.cells (.pair .str (.pair .bool .unit)) ((val (D2 O)).2.2.2.1,((val (D2 O)).2.2.2.2,())) []]⟩
def aFm:List qM→List qJ→Option qY:=s5 (V:=(pM×(Bool×Unit))) (fun x=>a7b) (a7c) fun x=>a7d x
@[go_sem] def aSd:aFm (no_index a7b) (no_index (a7c O))=some (a7d O):=sA (fun a0 b0 h1 h2=>by cases h1;cases h2;rfl) O
end
@[go_sem] abbrev aFn:Nat×rK:=(115,⟨[.p (.pair .str (.pair .bool .unit)) []],aFm,[],[],none⟩)
def xZ:rI prog [w7,sT,wG,WP] (rJ [QX,aCT,aEb,aDr,aFl,LX]):=⟨⟨wJ,⟨sW,⟨wT,⟨aCS,trivial⟩⟩⟩⟩,qW a1P (qW aLQ (qW aMg (qW aL2 (qW aMK (qW RH rX))))),rM⟩
def aML:rT prog aFn:=by
 refine sB xZ func115 (c:=_) rfl (N:=152) qD (ts:=[(2,some 121),(3,none)]) rfl (fun _ _=>rfl) ?_;intro O hs hrow;dsimp only[a7b,a7c,a7d,rY,r8,rG,rN,rZ,Nat.reduceAdd] at hs hrow|-;have hz:=hs;obtain⟨z0,e⟩:=aSs.1 hz
 try rw[sG e]
 clear hz hs;unfold D2 at e;refine qK xZ ?_;refine qK xZ ?_ (hp:=by exact⟨pR,pR⟩);refine qZ (qK xZ ?_ (hp:=by exact⟨id,id,id,tG⟩));refine r7 e ?_ ?_<;>intro e Y
 .refine qK xZ ?_;refine qV (rF ?_);cases e;exact pO [(0,0)]
 refine rD (qU (qZ ?_));obtain⟨X,e⟩:=qR e;refine qK xZ ?_ (hp:=by exact X);refine r7 e ?_ ?_<;>intro e Y
 .obtain⟨W,e⟩:=qR e;refine qK xZ ?_ (hp:=by exact W);refine qZ (qK xZ ?_);obtain⟨Z,f,e⟩:=rC e;refine CJ (fun s=>s=(fun x=>⟨[(0,.val .ref (some (0,0)),none),(2,.val .ref (some (1,0)),none),(4,.val (.int .i64) x,none)],[(0,.cells (.pair .str (.pair .bool .unit)) ((Lib.trimLeftS O.1 ([32,9]:pM)),O.2) []),(1,.cells rE (false,(([]:pM),())) [])],2,152,1⟩) Z) ?_ ?_
  .refine r7 f ?_ ?_<;>intro f Y
   .refine rQ xZ ?_;cases f;exact vI ⟨⟨[0,2,4],[(0,0),(1,1)]⟩,by rfl⟩
   refine rD ?_;cases f;exact vI ⟨⟨[0,2,4],[(0,0),(1,1)]⟩,by rfl⟩
  rintro _ rfl;dsimp only at e|-;refine qU ?_;obtain⟨V,e⟩:=qR e;refine qK xZ ?_ (hp:=by exact V);obtain⟨U,e⟩:=qR e;refine qK xZ ?_ (hp:=by exact U);obtain⟨aA,hv5,hw5,e⟩:=rU e
  try simp only[go_sem] at hw5
  refine qK xZ ?_ (hp:=by exact(rS hv5)) (h:=by simp only[go_sem,hw5];rfl);refine zV xZ ?_;refine qV (rF ?_);cases e;exact pO [(0,0)]
 refine rD (qU ?_);obtain⟨T,e⟩:=qR e;obtain⟨aB,hv7,hw7,e⟩:=rU e
 try simp only[go_sem] at hw7
 refine qK xZ ?_ (hp:=by exact⟨T,(rS hv7)⟩) (h:=by simp only[go_sem,hw7];rfl);refine qZ (qK xZ ?_);refine r7 e ?_ ?_<;>intro e Y
 .refine qK xZ ?_;refine qK xZ ?_;refine qV (rF ?_);cases e;exact pO [(0,0)]
 refine rD (qU ?_);obtain⟨S,R,e⟩:=pL e;obtain⟨aC,hv10,hw10,e⟩:=rU e
 try simp only[go_sem] at hw10
 refine qK xZ ?_ (hp:=by exact⟨S,R,(rS hv10)⟩) (h:=by simp only[go_sem,hw10];rfl);obtain⟨Q,P,e⟩:=pL e;refine qK xZ ?_ (hp:=by exact⟨Q,P⟩);obtain⟨M,L,e⟩:=pL e;obtain⟨K,e⟩:=qR e;refine qK xZ ?_ (hp:=by exact⟨id,M,id,tG,id,id,id,id,id,id,id,id,id,L,id,id,fun hG d=>IR hG d,id,id,id,id,id,K,id,id,fun hG d=>IR hG d,tG⟩);refine zV xZ ?_;refine qV ?_;cases e;exact pO [(0,0)]
attribute [irreducible] D2
end
noncomputable section
def OM:((List (Bool×(pM×Unit)))×Bool×pM×Bool×Bool×pM)→Option (((List (Bool×(pM×Unit)))×Bool×pM×Bool×Bool×pM)⊕((List (Bool×(pM×Unit)))×pM×Bool)):=fun(O,Z,aA,aB,aC,aD)=>if Z=true then if (O.length+([(aC,(aD,()))]:List (Bool×(pM×Unit))).length)*24≤140737488355328 then (D2 (aA,(aB,()))).bind fun aE=>some (.inl ((O++([(aC,(aD,()))]:List (Bool×(pM×Unit)))),aE.2.2.1,aE.2.2.2.1,aE.2.2.2.2,aE.1,aE.2.1)) else none else some (.inr (O,aA,aB))
def EM (O:pM):Option ((List (Bool×(pM×Unit)))×Bool):=(D2 (O,(false,()))).bind fun Z=>uA (sC OM (([]:List (Bool×(pM×Unit))),Z.2.2.1,Z.2.2.2.1,Z.2.2.2.2,Z.1,Z.2.1)) fun(aA,aB,aC)=>some ((aA,(!aC)))
section
variable (O:pM)
abbrev a7e:List qM:=[(.val .str O,none)]
abbrev a7f:List qJ:=[]
@[go_sem] def a7g:qY:=⟨[((EM O)).isSome=true],[(.val (.list rE) ((val (EM O)).1),some 0),(.val .bool ((val (EM O)).2),none)],[.grow 121 2 (((val (EM O)).1).length)]⟩
def aFo:List qM→List qJ→Option qY:=s5 (V:=pM) (a7e) (fun x=>a7f) fun x=>a7g x
@[go_sem] def aSe:aFo (no_index (a7e O)) (no_index a7f)=some (a7g O):=sA (fun a0 b0 h1 h2=>by cases h1;cases h2;rfl) O
end
@[go_sem] abbrev BA:Nat×rK:=(81,⟨[.v],aFo,[],[],none⟩)
def EN:rI prog [w7,wK,wG,WP] (rJ [aFn]):=⟨⟨wJ,⟨xF,⟨wT,⟨aCS,trivial⟩⟩⟩⟩,qW aML rX,rM⟩
def MC:rT prog BA:=by
 refine sB EN func81 (c:=_) rfl (N:=33) qD (ts:=[(2,none),(3,none)]) rfl (fun _ _=>rfl) ?_;intro O hs hrow;dsimp only[a7e,a7f,a7g,rY,r8,rG,rN,rZ,Nat.reduceAdd] at hs hrow|-;have hz:=hs;obtain⟨z0,e⟩:=aSs.1 hz
 try rw[sG e]
 clear hz hs;unfold EM at e;refine qK EN ?_;refine qK EN ?_;refine qK EN ?_;refine qZ ?_;obtain⟨Z,hv1,hw1,e⟩:=rU e
 try simp only[go_sem] at hw1
 refine qK EN ?_ (hp:=by exact(rS hv1)) (h:=by simp only[go_sem,hw1];rfl);refine sJ ?_;obtain⟨y1,hy1,e⟩:=rC e;refine w4 0 (fun s=>s=(fun x=>⟨[(4,.val .ref (some (0,0)),none),(5,(.val (.list rE) x.1,some 1))],[(0,.cells (.pair .str (.pair .bool .unit)) (x.2.1,(x.2.2,())) []),(1,.grow 121 2 (x.1.length))],2,33,0⟩) y1) ?_ ?_
 .refine vP hy1 (fun x=>⟨[(4,.val .ref (some (0,0)),none),(5,(.val (.list rE) x.1,some 1)),(6,(.val .ref (some (2,0)),none)),(7,.val .bool x.2.1,none)],[(0,.cells (.pair .str (.pair .bool .unit)) (x.2.2.1,(x.2.2.2.1,())) []),(1,.grow 121 2 (x.1.length)),(2,.cells rE (x.2.2.2.2.1,(x.2.2.2.2.2,())) [])],3,33,0⟩) ⟨[4,5,6,7],[(0,128),(1,192),(2,384)]⟩ qE ?_;intro x1 w1 n1 d f;obtain⟨aA,aB,aC,aD,aE,aF⟩:=x1;unfold OM at d;dsimp only at d|-;refine qZ (qK EN ?_);refine r7 d ?_ ?_<;>intro d Y
  .refine rD (qU (qZ (sJ ?_)));obtain⟨X,d⟩:=qR d;refine rQ EN ?_ (hp:=by exact⟨qC,X⟩)
   refine sI (qU (qZ (qK EN ?_)));refine rQ EN ?_;refine qU ?_;obtain⟨aG,hv3,hw3,d⟩:=rU d
   try simp only[go_sem] at hw3
   refine rQ EN ?_ (hp:=by exact(rS hv3)) (h:=by simp only[go_sem,hw3];rfl);cases d;exact tP ⟨⟨[4,5,6,7],[(0,0),(1,1),(2,227)]⟩,_,by rfl,f⟩
  refine v8 (v6 (vA ?_));cases d;cases f;exact w5 ⟨⟨[4,5],[(0,0),(1,1)]⟩,by rfl⟩
 rintro _ rfl;obtain⟨aH,aI,aJ⟩:=y1;dsimp only at e|-;refine v7 (qU ?_);refine zV EN ?_;refine qV ?_;cases e;exact pO [(0,1)]
attribute [irreducible] EM
end
noncomputable section
def uH (O:sQ) (Z:Int) (aA:pM) (aB:pM) (aC:pM) (aD:pN) (aE:Int) (aF:Nat) (aG:(pW×Unit)) (aH:pM) (aI:Int) (aJ:(Option pN)) (aK:Nat) (aL:(Option (List r5))) (aM:Nat) (aN:pU) (aO:pU):Option (Int×pM×pN×(List r5)×(List t7)×Int×pM×pM×pM×pN×Int×Nat×pW×pU×(Option pN)×Nat×(Option (List r5))×Nat×pU):=(EM aH).bind fun aP=>if (!aP.2)=true then some (((3:Int),O.1,O.2.1,O.2.2.1,O.2.2.2.1,Z,aA,aB,aC,aD,aE,aF,aG.1,aO,aJ,aK,aL,aM,aN)) else if 0≤(0:Int)∧(0:Int)<(aP.1.length:Int) then if (qT rE aP.1 (0:Int)).1=true then (zX O Z aA aB aC aD aE aF aG aP.1 aJ aK aL aM aN aO).bind fun aQ=>some ((aQ.1,O.1,O.2.1,O.2.2.1,O.2.2.2.1,Z,aA,aQ.2.1,aQ.2.2.1,aD,aE,aF,aG.1,aO,aQ.2.2.2.1,aQ.2.2.2.2.1,aQ.2.2.2.2.2.1,aQ.2.2.2.2.2.2,aN)) else if ((decide (Z=(0:Int)))||(decide (Z=(2:Int))))=true then (wL O Z aA aB aC aD aE aG aP.1 aJ aK aL aM aN aO).bind fun aR=>some ((aR.1,aR.2.1,O.2.1,O.2.2.1,O.2.2.2.1,aR.2.2.1,aR.2.2.2.1,aR.2.2.2.2.1,aR.2.2.2.2.2.1,aR.2.2.2.2.2.2.1,aR.2.2.2.2.2.2.2.1,0,aG.1,aR.2.2.2.2.2.2.2.2.1,aR.2.2.2.2.2.2.2.2.2.1,aR.2.2.2.2.2.2.2.2.2.2.1,aR.2.2.2.2.2.2.2.2.2.2.2.1,aR.2.2.2.2.2.2.2.2.2.2.2.2.1,aR.2.2.2.2.2.2.2.2.2.2.2.2.2)) else if 0≤(0:Int)∧(0:Int)<(aP.1.length:Int) then if (decide ((qT rE aP.1 (0:Int)).2.1=([101,110,100]:pM)))=true then aJ.bind fun aS=>aL.bind fun aT=>if 0≤(1:Int)∧(1:Int)≤(aP.1.length:Int)∧(aP.1.length:Int)≤(aP.1.length:Int) then (yS O Z aA aB aC aD aE aG (rV aP.1 (1:Int) (aP.1.length:Int)) aI aS aT aN aO).bind fun aU=>some ((aU.1,O.1,aU.2.1,aU.2.2.1,aU.2.2.2.1,aU.2.2.2.2.1,aA,aB,aC,aD,aE,0,aU.2.2.2.2.2.1,aO,aU.2.2.2.2.2.2.1,(aS.length),aU.2.2.2.2.2.2.2.1,aU.2.2.2.2.2.2.2.2,aN)) else none else if 0≤(0:Int)∧(0:Int)<(aP.1.length:Int) then AT (FK ((qT rE aP.1 (0:Int)).2.1)) fun aV=>if ((yW aV.1)||((decide (Z=(1:Int)))&&(!aV.2)))=true then some (((3:Int),O.1,O.2.1,O.2.2.1,O.2.2.2.1,Z,aA,aB,aC,aD,aE,0,aG.1,aO,aJ,aK,aL,aM,aN)) else AT aV.1 fun aW=>if aW=some 117 then aJ.bind fun aX=>aL.bind fun aY=>if 0≤(1:Int)∧(1:Int)≤(aP.1.length:Int)∧(aP.1.length:Int)≤(aP.1.length:Int) then (CV O Z aA aB aC aD aE aG (rV aP.1 (1:Int) (aP.1.length:Int)) aX aY aN aO).bind fun aZ=>some ((aZ.1,O.1,O.2.1,O.2.2.1,O.2.2.2.1,Z,aA,aB,aC,aD,aE,aZ.2.1,aG.1,aO,(some aZ.2.2),(aZ.2.2.length),(some aY),(aY.length),aN)) else none else if aW=some 118 then aJ.bind fun bA=>aL.bind fun bB=>if 0≤(1:Int)∧(1:Int)≤(aP.1.length:Int)∧(aP.1.length:Int)≤(aP.1.length:Int) then (CY O Z aA aB aC aD aE aG (rV aP.1 (1:Int) (aP.1.length:Int)) bA bB aN aO).bind fun bC=>some ((bC.1,O.1,O.2.1,O.2.2.1,O.2.2.2.1,Z,aA,aB,aC,aD,aE,bC.2.1,aG.1,aO,(some bA),(bA.length),(some bC.2.2),(bC.2.2.length),aN)) else none else if aW=some 119 then aJ.bind fun bD=>aL.bind fun bE=>if 0≤(1:Int)∧(1:Int)≤(aP.1.length:Int)∧(aP.1.length:Int)≤(aP.1.length:Int) then (EG O Z aA aB aC aD aE aG (rV aP.1 (1:Int) (aP.1.length:Int)) bD bE aN aO).bind fun bF=>some ((bF.1,O.1,O.2.1,O.2.2.1,O.2.2.2.1,Z,aA,bF.2.1,aC,aD,aE,bF.2.2.1,aG.1,aO,(some bD),(bD.length),(some bE),(bE.length),bF.2.2.2)) else none else if aW=some 120 then aJ.bind fun bG=>aL.bind fun bH=>if 0≤(1:Int)∧(1:Int)≤(aP.1.length:Int)∧(aP.1.length:Int)≤(aP.1.length:Int) then (EH O Z aA aB aC aD aE aG (rV aP.1 (1:Int) (aP.1.length:Int)) bG bH aN aO).bind fun bI=>some ((bI.1,O.1,O.2.1,O.2.2.1,O.2.2.2.1,Z,aA,aB,bI.2.1,aD,aE,bI.2.2.1,aG.1,aO,(some bG),(bG.length),(some bH),(bH.length),bI.2.2.2)) else none else if aW=some 121 then aJ.bind fun bJ=>aL.bind fun bK=>if 0≤(1:Int)∧(1:Int)≤(aP.1.length:Int)∧(aP.1.length:Int)≤(aP.1.length:Int) then (FN O Z aA aB aC aD aE aG (rV aP.1 (1:Int) (aP.1.length:Int)) bJ bK aN aO).bind fun bM=>some ((bM.1,O.1,O.2.1,O.2.2.1,O.2.2.2.1,Z,aA,aB,aC,aD,bM.2.1,0,aG.1,aO,(some bJ),(bJ.length),(some bK),(bK.length),bM.2.2)) else none else if aW=some 122 then aJ.bind fun bN=>aL.bind fun bO=>if 0≤(1:Int)∧(1:Int)≤(aP.1.length:Int)∧(aP.1.length:Int)≤(aP.1.length:Int) then (FL O Z aA aB aC aD aE aG (rV aP.1 (1:Int) (aP.1.length:Int)) bN bO aN aO).bind fun bP=>some ((bP.1,O.1,O.2.1,O.2.2.1,O.2.2.2.1,Z,aA,aB,aC,bP.2.1,aE,0,aG.1,aO,(some bN),(bN.length),(some bO),(bO.length),bP.2.2)) else none else none else none else none else none
section
variable (O:pM) (Z:Int) (aA:sQ) (aB:Int) (aC:pM) (aD:pM) (aE:pM) (aF:Nat) (aG:pN) (aH:Int) (aI:Nat) (aJ:Nat) (aK:Nat) (aL:Nat) (aM:(pW×Unit)) (aN:Nat) (aO:Nat) (aP:(Option pN)) (aQ:Nat) (aR:(Option (List r5))) (aS:Nat) (aT:pU) (aU:pU)
abbrev XD:List qM:=[(.val .ref (some (0,0)),none),(.val .str O,none),(.val (.int .i64) Z,none)]
abbrev a7h:List qJ:=[.cells sN (aA,(aB,((aC,(aD,(aE,((some (3,aF)),(aG,(aH,((some (4,aI)),()))))))),((some 5),((some 6),((aJ,0,(3,aK),(4,aL)),aM)))))) [(3,1),(15,2)],.grow 45 7 aN,.grow 3 1 aO,s8 9 .str aP aQ,s8 110 rW aR aS,.map .str .bool aT,.map .str .bool aU]
@[go_sem] def XE:qY:=⟨[aN=(aA.2.2.2.1.length),aO=(aM.1.length),aF=aQ,aI=aS,aK=aQ,aL=aS,((uH aA aB aC aD aE aG aH aJ aM O Z aP aQ aR aS aT aU)).isSome=true],[(.val (.int .i64) ((val (uH aA aB aC aD aE aG aH aJ aM O Z aP aQ aR aS aT aU)).1),none)],[.cells sN (((val (uH aA aB aC aD aE aG aH aJ aM O Z aP aQ aR aS aT aU)).2.1,((val (uH aA aB aC aD aE aG aH aJ aM O Z aP aQ aR aS aT aU)).2.2.1,((val (uH aA aB aC aD aE aG aH aJ aM O Z aP aQ aR aS aT aU)).2.2.2.1,((val (uH aA aB aC aD aE aG aH aJ aM O Z aP aQ aR aS aT aU)).2.2.2.2.1,())))),((val (uH aA aB aC aD aE aG aH aJ aM O Z aP aQ aR aS aT aU)).2.2.2.2.2.1,(((val (uH aA aB aC aD aE aG aH aJ aM O Z aP aQ aR aS aT aU)).2.2.2.2.2.2.1,((val (uH aA aB aC aD aE aG aH aJ aM O Z aP aQ aR aS aT aU)).2.2.2.2.2.2.2.1,((val (uH aA aB aC aD aE aG aH aJ aM O Z aP aQ aR aS aT aU)).2.2.2.2.2.2.2.2.1,((some (7,(val (uH aA aB aC aD aE aG aH aJ aM O Z aP aQ aR aS aT aU)).2.2.2.2.2.2.2.2.2.2.2.2.2.2.2.1)),((val (uH aA aB aC aD aE aG aH aJ aM O Z aP aQ aR aS aT aU)).2.2.2.2.2.2.2.2.2.1,((val (uH aA aB aC aD aE aG aH aJ aM O Z aP aQ aR aS aT aU)).2.2.2.2.2.2.2.2.2.2.1,((some (8,(val (uH aA aB aC aD aE aG aH aJ aM O Z aP aQ aR aS aT aU)).2.2.2.2.2.2.2.2.2.2.2.2.2.2.2.2.2.1)),()))))))),((some 9),((some 6),(((val (uH aA aB aC aD aE aG aH aJ aM O Z aP aQ aR aS aT aU)).2.2.2.2.2.2.2.2.2.2.2.1,0,(7,(val (uH aA aB aC aD aE aG aH aJ aM O Z aP aQ aR aS aT aU)).2.2.2.2.2.2.2.2.2.2.2.2.2.2.2.1),(8,(val (uH aA aB aC aD aE aG aH aJ aM O Z aP aQ aR aS aT aU)).2.2.2.2.2.2.2.2.2.2.2.2.2.2.2.2.2.1)),((val (uH aA aB aC aD aE aG aH aJ aM O Z aP aQ aR aS aT aU)).2.2.2.2.2.2.2.2.2.2.2.2.1,()))))))) [(3,1),(15,2)],.grow 45 7 (((val (uH aA aB aC aD aE aG aH aJ aM O Z aP aQ aR aS aT aU)).2.2.2.2.1).length),.grow 3 1 (((val (uH aA aB aC aD aE aG aH aJ aM O Z aP aQ aR aS aT aU)).2.2.2.2.2.2.2.2.2.2.2.2.1).length),.dead,.dead,.dead,.map .str .bool ((val (uH aA aB aC aD aE aG aH aJ aM O Z aP aQ aR aS aT aU)).2.2.2.2.2.2.2.2.2.2.2.2.2.1),s8 9 .str ((val (uH aA aB aC aD aE aG aH aJ aM O Z aP aQ aR aS aT aU)).2.2.2.2.2.2.2.2.2.2.2.2.2.2.1) ((val (uH aA aB aC aD aE aG aH aJ aM O Z aP aQ aR aS aT aU)).2.2.2.2.2.2.2.2.2.2.2.2.2.2.2.1),s8 110 rW ((val (uH aA aB aC aD aE aG aH aJ aM O Z aP aQ aR aS aT aU)).2.2.2.2.2.2.2.2.2.2.2.2.2.2.2.2.1) ((val (uH aA aB aC aD aE aG aH aJ aM O Z aP aQ aR aS aT aU)).2.2.2.2.2.2.2.2.2.2.2.2.2.2.2.2.2.1),.map .str .bool ((val (uH aA aB aC aD aE aG aH aJ aM O Z aP aQ aR aS aT aU)).2.2.2.2.2.2.2.2.2.2.2.2.2.2.2.2.2.2)]⟩
def a7i:List qM→List qJ→Option qY:=s5 (V:=(pM×Int×sQ×Int×pM×pM×pM×Nat×pN×Int×Nat×Nat×Nat×Nat×(pW×Unit)×Nat×Nat×(Option pN)×Nat×(Option (List r5))×Nat×pU×pU)) (fun x=>XD x.1 x.2.1) (fun x=>a7h x.2.2.1 x.2.2.2.1 x.2.2.2.2.1 x.2.2.2.2.2.1 x.2.2.2.2.2.2.1 x.2.2.2.2.2.2.2.1 x.2.2.2.2.2.2.2.2.1 x.2.2.2.2.2.2.2.2.2.1 x.2.2.2.2.2.2.2.2.2.2.1 x.2.2.2.2.2.2.2.2.2.2.2.1 x.2.2.2.2.2.2.2.2.2.2.2.2.1 x.2.2.2.2.2.2.2.2.2.2.2.2.2.1 x.2.2.2.2.2.2.2.2.2.2.2.2.2.2.1 x.2.2.2.2.2.2.2.2.2.2.2.2.2.2.2.1 x.2.2.2.2.2.2.2.2.2.2.2.2.2.2.2.2.1 x.2.2.2.2.2.2.2.2.2.2.2.2.2.2.2.2.2.1 x.2.2.2.2.2.2.2.2.2.2.2.2.2.2.2.2.2.2.1 x.2.2.2.2.2.2.2.2.2.2.2.2.2.2.2.2.2.2.2.1 x.2.2.2.2.2.2.2.2.2.2.2.2.2.2.2.2.2.2.2.2.1 x.2.2.2.2.2.2.2.2.2.2.2.2.2.2.2.2.2.2.2.2.2.1 x.2.2.2.2.2.2.2.2.2.2.2.2.2.2.2.2.2.2.2.2.2.2) fun x=>XE x.1 x.2.1 x.2.2.1 x.2.2.2.1 x.2.2.2.2.1 x.2.2.2.2.2.1 x.2.2.2.2.2.2.1 x.2.2.2.2.2.2.2.1 x.2.2.2.2.2.2.2.2.1 x.2.2.2.2.2.2.2.2.2.1 x.2.2.2.2.2.2.2.2.2.2.1 x.2.2.2.2.2.2.2.2.2.2.2.1 x.2.2.2.2.2.2.2.2.2.2.2.2.1 x.2.2.2.2.2.2.2.2.2.2.2.2.2.1 x.2.2.2.2.2.2.2.2.2.2.2.2.2.2.1 x.2.2.2.2.2.2.2.2.2.2.2.2.2.2.2.1 x.2.2.2.2.2.2.2.2.2.2.2.2.2.2.2.2.1 x.2.2.2.2.2.2.2.2.2.2.2.2.2.2.2.2.2.1 x.2.2.2.2.2.2.2.2.2.2.2.2.2.2.2.2.2.2.1 x.2.2.2.2.2.2.2.2.2.2.2.2.2.2.2.2.2.2.2.1 x.2.2.2.2.2.2.2.2.2.2.2.2.2.2.2.2.2.2.2.2.1 x.2.2.2.2.2.2.2.2.2.2.2.2.2.2.2.2.2.2.2.2.2.1 x.2.2.2.2.2.2.2.2.2.2.2.2.2.2.2.2.2.2.2.2.2.2
@[go_sem] def aMM:a7i (no_index (XD O Z)) (no_index (a7h aA aB aC aD aE aF aG aH aI aJ aK aL aM aN aO aP aQ aR aS aT aU))=some (XE O Z aA aB aC aD aE aF aG aH aI aJ aK aL aM aN aO aP aQ aR aS aT aU):=sA (fun⟨a0,a1,a2,a3,a4,a5,a6,a7,a8,a9,a10,a11,a12,a13,a14,a15,a16,a17,a18,a19,a20,a21,a22⟩ ⟨b0,b1,b2,b3,b4,b5,b6,b7,b8,b9,b10,b11,b12,b13,b14,b15,b16,b17,b18,b19,b20,b21,b22⟩ h1 h2=>by cases h1;injection h2 with p0 h2;injection h2 with p1 h2;injection h2 with p2 h2;injection h2 with p3 h2;injection h2 with p4 h2;injection h2 with p5 h2;injection h2 with p6 h2;obtain⟨q3,r3⟩:=A6 p3;cases q3;cases r3;obtain⟨q4,r4⟩:=A6 p4;cases q4;cases r4;cases p0;cases p1;cases p2;cases p5;cases p6;rfl) (O,Z,aA,aB,aC,aD,aE,aF,aG,aH,aI,aJ,aK,aL,aM,aN,aO,aP,aQ,aR,aS,aT,aU)
end
@[go_sem] def aSf (O:pM) (Z:Int) (aA:sQ) (aB:Int) (aC:pM) (aD:pM) (aE:pM) (aF:Nat) (aG:pN) (aH:Int) (aI:Nat) (aJ:Nat) (aK:Nat) (aL:Nat) (aM:(pW×Unit)) (aN:Nat) (aO:Nat) (aP:pN) (aQ:Nat) (aR:List r5) (aS:Nat) (aT:pU) (aU:pU):a7i (no_index (XD O Z)) (no_index ([.cells sN (aA,(aB,((aC,(aD,(aE,((some (3,aF)),(aG,(aH,((some (4,aI)),()))))))),((some 5),((some 6),((aJ,0,(3,aK),(4,aL)),aM)))))) [(3,1),(15,2)],.grow 45 7 aN,.grow 3 1 aO,.row 9 .str aP aQ,.row 110 rW aR aS,.map .str .bool aT,.map .str .bool aU]:List qJ))=some (XE O Z aA aB aC aD aE aF aG aH aI aJ aK aL aM aN aO (some aP) aQ (some aR) aS aT aU):=aMM O Z aA aB aC aD aE aF aG aH aI aJ aK aL aM aN aO (some aP) aQ (some aR) aS aT aU
@[go_sem] abbrev RU:Nat×rK:=(56,⟨[.p sN [3,15],.v,.v],a7i,[(0,8,.r),(0,11,.r),(0,12,.m),(0,13,.m)],[],none⟩)
def aFp:rI prog [] (rJ [BA,a5Q,a42,AZ,AW,AX,B8,B4,B5,B6,AY]):=⟨trivial,qW MC (qW aMv (qW aMi (qW LY (qW LT (qW LU (qW M7 (qW M4 (qW M5 (qW M6 (qW LW rX)))))))))),rM⟩
def yG:rI prog [vL,w7,sT,AV,vC,wK,wG,GY] (rJ [BA,a5Q,a42,AZ,AW,AX,B8,B4,B5,B6,AY]):=⟨⟨vY,⟨wJ,⟨sW,⟨CN,⟨vQ,⟨xF,⟨wT,⟨LN,trivial⟩⟩⟩⟩⟩⟩⟩⟩,aFp.Γ,rM⟩
def aFq:rT prog RU:=by
 refine sB aFp func56 (c:=_) rfl (N:=81) qD (ts:=[(6,none)]) rfl (fun _ _=>rfl) ?_ (h3:=by intro _;repeat (first|exact trivial|refine IW rfl ?_ |refine ⟨rfl,?_⟩))
 intro⟨O,Z,aA,aB,aC,aD,aE,aF,aG,aH,aI,aJ,aK,aL,aM,aN,aO,aP,aQ,aR,aS,aT,aU⟩ hs hrow;dsimp only[XD,a7h,XE,rY,r8,rG,rN,rZ,Nat.reduceAdd] at hs hrow|-;obtain⟨rfl,rfl,hps2,hps3,hps4,hps5,hz⟩:=hs;obtain rfl:=hps2.symm;obtain rfl:=hps3.symm;obtain rfl:=hps4.symm;obtain rfl:=hps5.symm;obtain⟨z0,d⟩:=aSs.1 hz
 try rw[sG d]
 clear hz;unfold uH at d;refine qK yG ?_;obtain⟨aV,hv1,hw1,d⟩:=rU d
 try simp only[go_sem] at hw1
 refine qK yG ?_ (hp:=by exact(rS hv1)) (h:=by simp only[go_sem,hw1];rfl);refine qZ (sJ (qK yG ?_));refine r7 d ?_ ?_<;>intro d Y
 .refine qK yG ?_;refine qV (sD (rF ?_));cases d;exact pP [(0,0),(1,1),(2,2),(6,6),(7,3),(8,4),(9,5)]
 obtain⟨X,d⟩:=qR d;refine qK yG ?_ (hp:=by exact X);refine r7 d ?_ ?_<;>intro d Y
 .obtain⟨aW,hv3,hw3,d⟩:=rU d
  try simp only[go_sem] at hw3
  refine qK yG ?_ (hp:=by exact⟨qC,qC,qC,qC,qC,qC,qC,qC,qC,qC,(rS hv3)⟩) (h:=by simp only[go_sem,hw3];rfl)
  refine qV (sD (rF ?_));cases d;exact pP [(0,0),(1,1),(2,2),(6,6),(7,3),(8,4),(9,5)]
 refine rD (sI (qU (qK yG ?_)));refine qZ (qK yG ?_ (hp:=by exact⟨id,id,id,id,tG⟩));refine r7 d ?_ ?_<;>intro d Y
 .refine qZ (zB 0 (0,(3,aQ),(4,aS)) (x2:=(aA,(aB,((aC,(aD,(aE,((some (3,aQ)),(aG,(aH,((some (4,aS)),()))))))),((some 5),((some 6),((0,0,(3,aQ),(4,aS)),aM))))))) rfl qG ?_)
  obtain⟨aX,hv4,hw4,d⟩:=rU d
  try simp only[go_sem] at hw4
  refine rQ yG ?_ (hp:=by exact⟨qC,qC,qC,qC,qC,qC,qC,qC,(rS hv4)⟩) (h:=by simp only[go_sem,hw4];rfl)
  refine qU (qV (rF ?_));cases d;exact pP [(0,0),(1,1),(2,2),(6,6),(7,1102),(8,1103),(9,1104)]
 refine rD (qU (qZ ?_));obtain⟨W,d⟩:=qR d;refine qK yG ?_ (hp:=by exact W);refine r7 d ?_ ?_<;>intro d Y
 .refine qZ (zB 0 (0,(3,aQ),(4,aS)) (x2:=(aA,(aB,((aC,(aD,(aE,((some (3,aQ)),(aG,(aH,((some (4,aS)),()))))))),((some 5),((some 6),((0,0,(3,aQ),(4,aS)),aM))))))) rfl qG ?_)
  obtain⟨aY,hal6,hAhal6⟩:=A7 d;subst hal6;obtain⟨aZ,hal7,hAhal7⟩:=A7 hAhal6;subst hal7;rw[show s8 9 .str (some aY:Option pN) aQ= .row 9 .str aY aQ from rfl];rw[show s8 110 rW (some aZ:Option (List r5)) aS= .row 110 rW aZ aS from rfl];refine A8 3 rfl fun hln=>?_;subst hln;refine A8 4 rfl fun hln=>?_;subst hln;have d:=hAhal7;obtain⟨V,d⟩:=qR d;obtain⟨bA,hv9,hw9,d⟩:=rU d
  try simp only[go_sem] at hw9
  refine rQ yG ?_ (hp:=by exact⟨V,qC,qC,qC,qC,qC,qC,qC,qC,(rS hv9)⟩) (h:=by simp only[go_sem,hw9];rfl)
  refine qU (qV (rF ?_));cases d;exact pP [(0,0),(1,1),(2,2),(6,6),(7,3),(8,1326),(9,5)]
 refine rD (qU ?_);obtain⟨U,d⟩:=qR d;obtain⟨bB,hw_89,d⟩:=QT d
 try simp only[go_sem] at hw_89
 refine qK yG ?_ (hp:=by exact U) (h:=by simp only[go_sem,hw_89];rfl);refine qZ (qK yG ?_ (hp:=by exact⟨id,id,id,id,id,id,id,fun hG e=>IR hG e,tG⟩));refine r7 d ?_ ?_<;>intro d Y
 .refine qK yG ?_;refine zB 0 (0,(3,aQ),(4,aS)) (x2:=(aA,(aB,((aC,(aD,(aE,((some (3,aQ)),(aG,(aH,((some (4,aS)),()))))))),((some 5),((some 6),((0,0,(3,aQ),(4,aS)),aM))))))) rfl qG ?_
  refine qV (rF ?_);cases d;exact pP [(0,0),(1,1),(2,2),(6,6),(7,3),(8,4),(9,5)]
 refine rD (qU (qZ ?_));replace d:=a1C d;generalize bB.1=bC at d|-;by_cases hfn:bC=some 117
 .subst hfn;rw[aSn rfl] at d;refine zB 0 (0,(3,aQ),(4,aS)) (x2:=(aA,(aB,((aC,(aD,(aE,((some (3,aQ)),(aG,(aH,((some (4,aS)),()))))))),((some 5),((some 6),((0,0,(3,aQ),(4,aS)),aM))))))) rfl qG ?_
  obtain⟨bD,hal11,hAhal11⟩:=A7 d;subst hal11;obtain⟨bE,hal12,hAhal12⟩:=A7 hAhal11;subst hal12;rw[show s8 9 .str (some bD:Option pN) aQ= .row 9 .str bD aQ from rfl];rw[show s8 110 rW (some bE:Option (List r5)) aS= .row 110 rW bE aS from rfl];refine A8 3 rfl fun hln=>?_;subst hln;refine A8 4 rfl fun hln=>?_;subst hln;have d:=hAhal12;obtain⟨T,d⟩:=qR d;obtain⟨bF,hv14,hw14,d⟩:=rU d
  try simp only[go_sem] at hw14
  refine rQ yG ?_ (hp:=by exact⟨T,qC,qC,qC,qC,qC,qC,qC,qC,qC,qC,qC,(rS hv14)⟩) (h:=by simp only[go_sem,hw14];rfl)
  refine qU (qV ?_);cases d;exact pP [(0,0),(1,1),(2,2),(6,6),(7,3),(8,4),(9,5)]
 rw[aSo hfn] at d;clear hfn;by_cases hfn:bC=some 118
 .subst hfn;rw[aSn rfl] at d;refine zB 0 (0,(3,aQ),(4,aS)) (x2:=(aA,(aB,((aC,(aD,(aE,((some (3,aQ)),(aG,(aH,((some (4,aS)),()))))))),((some 5),((some 6),((0,0,(3,aQ),(4,aS)),aM))))))) rfl qG ?_
  obtain⟨bG,hal15,hAhal15⟩:=A7 d;subst hal15;obtain⟨bH,hal16,hAhal16⟩:=A7 hAhal15;subst hal16;rw[show s8 9 .str (some bG:Option pN) aQ= .row 9 .str bG aQ from rfl];rw[show s8 110 rW (some bH:Option (List r5)) aS= .row 110 rW bH aS from rfl];refine A8 3 rfl fun hln=>?_;subst hln;refine A8 4 rfl fun hln=>?_;subst hln;have d:=hAhal16;obtain⟨S,d⟩:=qR d;obtain⟨bI,hv18,hw18,d⟩:=rU d
  try simp only[go_sem] at hw18
  refine rQ yG ?_ (hp:=by exact⟨S,qC,qC,qC,qC,qC,qC,qC,qC,qC,qC,qC,(rS hv18)⟩) (h:=by simp only[go_sem,hw18];rfl)
  refine qU (qV ?_);cases d;exact pP [(0,0),(1,1),(2,2),(6,6),(7,3),(8,4),(9,5)]
 rw[aSo hfn] at d;clear hfn;by_cases hfn:bC=some 119
 .subst hfn;rw[aSn rfl] at d;refine zB 0 (0,(3,aQ),(4,aS)) (x2:=(aA,(aB,((aC,(aD,(aE,((some (3,aQ)),(aG,(aH,((some (4,aS)),()))))))),((some 5),((some 6),((0,0,(3,aQ),(4,aS)),aM))))))) rfl qG ?_
  obtain⟨bJ,hal19,hAhal19⟩:=A7 d;subst hal19;obtain⟨bK,hal20,hAhal20⟩:=A7 hAhal19;subst hal20;rw[show s8 9 .str (some bJ:Option pN) aQ= .row 9 .str bJ aQ from rfl];rw[show s8 110 rW (some bK:Option (List r5)) aS= .row 110 rW bK aS from rfl];refine A8 3 rfl fun hln=>?_;subst hln;refine A8 4 rfl fun hln=>?_;subst hln;have d:=hAhal20;obtain⟨R,d⟩:=qR d;obtain⟨bM,hv22,hw22,d⟩:=rU d
  try simp only[go_sem] at hw22
  refine rQ yG ?_ (hp:=by exact⟨R,qC,qC,qC,qC,qC,qC,qC,qC,qC,qC,qC,(rS hv22)⟩) (h:=by simp only[go_sem,hw22];rfl)
  refine qU (qV ?_);cases d;exact pP [(0,0),(1,1),(2,2),(6,6),(7,3),(8,4),(9,5)]
 rw[aSo hfn] at d;clear hfn;by_cases hfn:bC=some 120
 .subst hfn;rw[aSn rfl] at d;refine zB 0 (0,(3,aQ),(4,aS)) (x2:=(aA,(aB,((aC,(aD,(aE,((some (3,aQ)),(aG,(aH,((some (4,aS)),()))))))),((some 5),((some 6),((0,0,(3,aQ),(4,aS)),aM))))))) rfl qG ?_
  obtain⟨bN,hal23,hAhal23⟩:=A7 d;subst hal23;obtain⟨bO,hal24,hAhal24⟩:=A7 hAhal23;subst hal24;rw[show s8 9 .str (some bN:Option pN) aQ= .row 9 .str bN aQ from rfl];rw[show s8 110 rW (some bO:Option (List r5)) aS= .row 110 rW bO aS from rfl];refine A8 3 rfl fun hln=>?_;subst hln;refine A8 4 rfl fun hln=>?_;subst hln;have d:=hAhal24;obtain⟨Q,d⟩:=qR d;obtain⟨bP,hv26,hw26,d⟩:=rU d
  try simp only[go_sem] at hw26
  refine rQ yG ?_ (hp:=by exact⟨Q,qC,qC,qC,qC,qC,qC,qC,qC,qC,qC,qC,(rS hv26)⟩) (h:=by simp only[go_sem,hw26];rfl)
  refine qU (qV ?_);cases d;exact pP [(0,0),(1,1),(2,2),(6,6),(7,3),(8,4),(9,5)]
 rw[aSo hfn] at d;clear hfn;by_cases hfn:bC=some 121
 .subst hfn;rw[aSn rfl] at d;refine zB 0 (0,(3,aQ),(4,aS)) (x2:=(aA,(aB,((aC,(aD,(aE,((some (3,aQ)),(aG,(aH,((some (4,aS)),()))))))),((some 5),((some 6),((0,0,(3,aQ),(4,aS)),aM))))))) rfl qG ?_
  obtain⟨bQ,hal27,hAhal27⟩:=A7 d;subst hal27;obtain⟨bR,hal28,hAhal28⟩:=A7 hAhal27;subst hal28;rw[show s8 9 .str (some bQ:Option pN) aQ= .row 9 .str bQ aQ from rfl];rw[show s8 110 rW (some bR:Option (List r5)) aS= .row 110 rW bR aS from rfl];refine A8 3 rfl fun hln=>?_;subst hln;refine A8 4 rfl fun hln=>?_;subst hln;have d:=hAhal28;obtain⟨P,d⟩:=qR d;obtain⟨bS,hv30,hw30,d⟩:=rU d
  try simp only[go_sem] at hw30
  refine rQ yG ?_ (hp:=by exact⟨P,qC,qC,qC,qC,qC,qC,qC,qC,qC,qC,qC,(rS hv30)⟩) (h:=by simp only[go_sem,hw30];rfl)
  refine qU (qV ?_);cases d;exact pP [(0,0),(1,1),(2,2),(6,6),(7,3),(8,4),(9,5)]
 rw[aSo hfn] at d;clear hfn;by_cases hfn:bC=some 122
 .subst hfn;rw[aSn rfl] at d;refine zB 0 (0,(3,aQ),(4,aS)) (x2:=(aA,(aB,((aC,(aD,(aE,((some (3,aQ)),(aG,(aH,((some (4,aS)),()))))))),((some 5),((some 6),((0,0,(3,aQ),(4,aS)),aM))))))) rfl qG ?_
  obtain⟨bT,hal31,hAhal31⟩:=A7 d;subst hal31;obtain⟨bU,hal32,hAhal32⟩:=A7 hAhal31;subst hal32;rw[show s8 9 .str (some bT:Option pN) aQ= .row 9 .str bT aQ from rfl];rw[show s8 110 rW (some bU:Option (List r5)) aS= .row 110 rW bU aS from rfl];refine A8 3 rfl fun hln=>?_;subst hln;refine A8 4 rfl fun hln=>?_;subst hln;have d:=hAhal32;obtain⟨M,d⟩:=qR d;obtain⟨bV,hv34,hw34,d⟩:=rU d
  try simp only[go_sem] at hw34
  refine rQ yG ?_ (hp:=by exact⟨M,qC,qC,qC,qC,qC,qC,qC,qC,qC,qC,qC,(rS hv34)⟩) (h:=by simp only[go_sem,hw34];rfl)
  refine qU (qV ?_);cases d;exact pP [(0,0),(1,1),(2,2),(6,6),(7,3),(8,4),(9,5)]
 rw[aSo hfn] at d;clear hfn;cases d
attribute [irreducible] uH
end
noncomputable section
def zF (O:sQ) (Z:Int) (aA:pM) (aB:pM) (aC:pM) (aD:pN) (aE:Int) (aF:(pW×Unit)) (aG:pM) (aH:Int) (aI:(Option pN)) (aJ:Nat) (aK:(Option (List r5))) (aL:Nat) (aM:pU):Option (pM×Int×pM×pU):=(EM aG).bind fun aN=>if (!aN.2)=true then none else if 0≤(0:Int)∧(0:Int)<(aN.1.length:Int) then if (qT rE aN.1 (0:Int)).1=true then (M1 O Z aA aB aC aD aE aF aN.1 aI aJ aK aL aM).bind fun aO=>none else if ((decide (Z=(0:Int)))||(decide (Z=(2:Int))))=true then if ((B3 O Z aA aB aC aD aE aF aN.1 aI aJ aK aL aM)).isSome=true then (B3 O Z aA aB aC aD aE aF aN.1 aI aJ aK aL aM).bind fun aP=>some ((aP.1,aP.2.1,aP.2.2.1,aP.2.2.2)) else (JB O Z aA aB aC aD aE aF aN.1 aI aJ aK aL aM).bind fun aQ=>none else if 0≤(0:Int)∧(0:Int)<(aN.1.length:Int) then if (decide ((qT rE aN.1 (0:Int)).2.1=([101,110,100]:pM)))=true then none else if 0≤(0:Int)∧(0:Int)<(aN.1.length:Int) then AT (FK ((qT rE aN.1 (0:Int)).2.1)) fun aR=>if ((yW aR.1)||((decide (Z=(1:Int)))&&(!aR.2)))=true then none else AT aR.1 fun aS=>if aS=some 117 then none else if aS=some 118 then none else if aS=some 119 then none else if aS=some 120 then none else if aS=some 121 then none else if aS=some 122 then none else none else none else none else none
section
variable (O:pM) (Z:Int) (aA:sQ) (aB:Int) (aC:pM) (aD:pM) (aE:pM) (aF:Nat) (aG:pN) (aH:Int) (aI:Nat) (aJ:Nat) (aK:Nat) (aL:(pW×Unit)) (aM:Nat) (aN:Nat) (aO:(Option pN)) (aP:Nat) (aQ:(Option (List r5))) (aR:Nat) (aS:pU)
abbrev XF:List qM:=[(.val .ref (some (0,0)),none),(.val .str O,none),(.val (.int .i64) Z,none)]
abbrev a7j:List qJ:=[.cells sN (aA,(aB,((aC,(aD,(aE,((some (3,aF)),(aG,(aH,((some (4,aI)),()))))))),(none,((some 5),((0,0,(3,aJ),(4,aK)),aL)))))) [(3,1),(15,2)],.grow 45 7 aM,.grow 3 1 aN,s8 9 .str aO aP,s8 110 rW aQ aR,.map .str .bool aS]
@[go_sem] def XG:qY:=⟨[aM=(aA.2.2.2.1.length),aN=(aL.1.length),aF=aP,aI=aR,aJ=aP,aK=aR,((zF aA aB aC aD aE aG aH aL O Z aO aP aQ aR aS)).isSome=true],[(.val (.int .i64) (0:Int),none)],[.cells sN (((val (zF aA aB aC aD aE aG aH aL O Z aO aP aQ aR aS)).1,(aA.2.1,(aA.2.2.1,(aA.2.2.2.1,())))),((val (zF aA aB aC aD aE aG aH aL O Z aO aP aQ aR aS)).2.1,(((val (zF aA aB aC aD aE aG aH aL O Z aO aP aQ aR aS)).2.2.1,(([]:pM),(([]:pM),((some (6,0)),(([]:pN),((0:Int),((some (7,0)),()))))))),((some 8),((some 5),((0,0,(6,0),(7,0)),(aL.1,()))))))) [(3,1),(9,9),(15,2)],.grow 45 7 (aA.2.2.2.1.length),.grow 3 1 (aL.1.length),s8 9 .str aO aP,s8 110 rW aQ aR,.map .str .bool ((val (zF aA aB aC aD aE aG aH aL O Z aO aP aQ aR aS)).2.2.2),.row 9 .str ([]:pN) 0,.row 110 rW ([]:List r5) 0,.map .str .bool ([]:pU),.grow 9 1 (([]:pN).length)]⟩
def a7k:List qM→List qJ→Option qY:=s5 (V:=(pM×Int×sQ×Int×pM×pM×pM×Nat×pN×Int×Nat×Nat×Nat×(pW×Unit)×Nat×Nat×(Option pN)×Nat×(Option (List r5))×Nat×pU)) (fun x=>XF x.1 x.2.1) (fun x=>a7j x.2.2.1 x.2.2.2.1 x.2.2.2.2.1 x.2.2.2.2.2.1 x.2.2.2.2.2.2.1 x.2.2.2.2.2.2.2.1 x.2.2.2.2.2.2.2.2.1 x.2.2.2.2.2.2.2.2.2.1 x.2.2.2.2.2.2.2.2.2.2.1 x.2.2.2.2.2.2.2.2.2.2.2.1 x.2.2.2.2.2.2.2.2.2.2.2.2.1 x.2.2.2.2.2.2.2.2.2.2.2.2.2.1 x.2.2.2.2.2.2.2.2.2.2.2.2.2.2.1 x.2.2.2.2.2.2.2.2.2.2.2.2.2.2.2.1 x.2.2.2.2.2.2.2.2.2.2.2.2.2.2.2.2.1 x.2.2.2.2.2.2.2.2.2.2.2.2.2.2.2.2.2.1 x.2.2.2.2.2.2.2.2.2.2.2.2.2.2.2.2.2.2.1 x.2.2.2.2.2.2.2.2.2.2.2.2.2.2.2.2.2.2.2.1 x.2.2.2.2.2.2.2.2.2.2.2.2.2.2.2.2.2.2.2.2) fun x=>XG x.1 x.2.1 x.2.2.1 x.2.2.2.1 x.2.2.2.2.1 x.2.2.2.2.2.1 x.2.2.2.2.2.2.1 x.2.2.2.2.2.2.2.1 x.2.2.2.2.2.2.2.2.1 x.2.2.2.2.2.2.2.2.2.1 x.2.2.2.2.2.2.2.2.2.2.1 x.2.2.2.2.2.2.2.2.2.2.2.1 x.2.2.2.2.2.2.2.2.2.2.2.2.1 x.2.2.2.2.2.2.2.2.2.2.2.2.2.1 x.2.2.2.2.2.2.2.2.2.2.2.2.2.2.1 x.2.2.2.2.2.2.2.2.2.2.2.2.2.2.2.1 x.2.2.2.2.2.2.2.2.2.2.2.2.2.2.2.2.1 x.2.2.2.2.2.2.2.2.2.2.2.2.2.2.2.2.2.1 x.2.2.2.2.2.2.2.2.2.2.2.2.2.2.2.2.2.2.1 x.2.2.2.2.2.2.2.2.2.2.2.2.2.2.2.2.2.2.2.1 x.2.2.2.2.2.2.2.2.2.2.2.2.2.2.2.2.2.2.2.2
@[go_sem] def aMN:a7k (no_index (XF O Z)) (no_index (a7j aA aB aC aD aE aF aG aH aI aJ aK aL aM aN aO aP aQ aR aS))=some (XG O Z aA aB aC aD aE aF aG aH aI aJ aK aL aM aN aO aP aQ aR aS):=sA (fun⟨a0,a1,a2,a3,a4,a5,a6,a7,a8,a9,a10,a11,a12,a13,a14,a15,a16,a17,a18,a19,a20⟩ ⟨b0,b1,b2,b3,b4,b5,b6,b7,b8,b9,b10,b11,b12,b13,b14,b15,b16,b17,b18,b19,b20⟩ h1 h2=>by cases h1;injection h2 with p0 h2;injection h2 with p1 h2;injection h2 with p2 h2;injection h2 with p3 h2;injection h2 with p4 h2;injection h2 with p5 h2;obtain⟨q3,r3⟩:=A6 p3;cases q3;cases r3;obtain⟨q4,r4⟩:=A6 p4;cases q4;cases r4;cases p0;cases p1;cases p2;cases p5;rfl) (O,Z,aA,aB,aC,aD,aE,aF,aG,aH,aI,aJ,aK,aL,aM,aN,aO,aP,aQ,aR,aS)
end
@[go_sem] def aSg (O:pM) (Z:Int) (aA:sQ) (aB:Int) (aC:pM) (aD:pM) (aE:pM) (aF:Nat) (aG:pN) (aH:Int) (aI:Nat) (aJ:Nat) (aK:Nat) (aL:(pW×Unit)) (aM:Nat) (aN:Nat) (aO:pN) (aP:Nat) (aQ:List r5) (aR:Nat) (aS:pU):a7k (no_index (XF O Z)) (no_index ([.cells sN (aA,(aB,((aC,(aD,(aE,((some (3,aF)),(aG,(aH,((some (4,aI)),()))))))),(none,((some 5),((0,0,(3,aJ),(4,aK)),aL)))))) [(3,1),(15,2)],.grow 45 7 aM,.grow 3 1 aN,.row 9 .str aO aP,.row 110 rW aQ aR,.map .str .bool aS]:List qJ))=some (XG O Z aA aB aC aD aE aF aG aH aI aJ aK aL aM aN (some aO) aP (some aQ) aR aS):=aMN O Z aA aB aC aD aE aF aG aH aI aJ aK aL aM aN (some aO) aP (some aQ) aR aS
@[go_sem] abbrev RV:Nat×rK:=(56,⟨[.p sN [3,15],.v,.v],a7k,[(0,8,.r),(0,11,.r),(0,13,.m)],[1,2,3,4],none⟩)
def aFr:rI prog [] (rJ [BA,CW,HF,AZ,AW,AX,B8,B4,B5,B6,AY]):=⟨trivial,qW MC (qW OD (qW X4 (qW LY (qW LT (qW LU (qW M7 (qW M4 (qW M5 (qW M6 (qW LW rX)))))))))),rM⟩
def EO:rI prog [vL,w7,sT,AV,vC,wK,wG,GY] (rJ [BA,CW,HF,AZ,AW,AX,B8,B4,B5,B6,AY]):=⟨⟨vY,⟨wJ,⟨sW,⟨CN,⟨vQ,⟨xF,⟨wT,⟨LN,trivial⟩⟩⟩⟩⟩⟩⟩⟩,aFr.Γ,rM⟩
def aMO:rI prog [] (rJ [BA,CW,HF,AZ,AW,AX,B8,B4,B5,B6,AY]):=⟨trivial,qW MC (qW OD (qW X4 (qW LY (qW LT (qW LU (qW M7 (qW M4 (qW M5 (qW M6 (qW LW rX)))))))))),rM⟩
def aFs:rI prog [vL,w7,sT,AV,vC,wK,wG,GY] (rJ [BA,CW,HF,AZ,AW,AX,B8,B4,B5,B6,AY]):=⟨⟨vY,⟨wJ,⟨sW,⟨CN,⟨vQ,⟨xF,⟨wT,⟨LN,trivial⟩⟩⟩⟩⟩⟩⟩⟩,aMO.Γ,rM⟩
def aMP:rI prog [] (rJ [BA,CW,RI,AZ,AW,AX,B8,B4,B5,B6,AY]):=⟨trivial,qW MC (qW OD (qW aEg (qW LY (qW LT (qW LU (qW M7 (qW M4 (qW M5 (qW M6 (qW LW rX)))))))))),rM⟩
def aMQ:rI prog [vL,w7,sT,AV,vC,wK,wG,GY] (rJ [BA,CW,RI,AZ,AW,AX,B8,B4,B5,B6,AY]):=⟨⟨vY,⟨wJ,⟨sW,⟨CN,⟨vQ,⟨xF,⟨wT,⟨LN,trivial⟩⟩⟩⟩⟩⟩⟩⟩,aMP.Γ,rM⟩
def aFt:rT prog RV:=by
 refine sB aFr func56 (c:=_) rfl (N:=81) qD (ts:=[(6,none)]) rfl (fun _ _=>rfl) ?_ (h3:=by intro _;repeat (first|exact trivial|refine IW rfl ?_ |refine ⟨rfl,?_⟩))
 intro⟨O,Z,aA,aB,aC,aD,aE,aF,aG,aH,aI,aJ,aK,aL,aM,aN,aO,aP,aQ,aR,aS⟩ hs hrow;dsimp only[XF,a7j,XG,rY,r8,rG,rN,rZ,Nat.reduceAdd] at hs hrow|-;obtain⟨rfl,rfl,hps2,hps3,hps4,hps5,hz⟩:=hs;obtain rfl:=hps2.symm;obtain rfl:=hps3.symm;obtain rfl:=hps4.symm;obtain rfl:=hps5.symm;obtain⟨z0,d⟩:=aSs.1 hz
 try rw[sG d]
 clear hz;unfold zF at d;refine qK EO ?_;obtain⟨aT,hv1,hw1,d⟩:=rU d
 try simp only[go_sem] at hw1
 refine qK EO ?_ (hp:=by exact(rS hv1)) (h:=by simp only[go_sem,hw1];rfl);refine qZ (sJ (qK EO ?_));refine r7 d ?_ ?_<;>intro d Y
 .refine qZ (rQ EO ?_);cases d
 obtain⟨X,d⟩:=qR d;refine qK EO ?_ (hp:=by exact X);refine r7 d ?_ ?_<;>intro d Y
 .refine qZ ?_;obtain⟨aU,hv3,hw3,d⟩:=rU d
  try simp only[go_sem] at hw3
  refine rQ aFs ?_ (hp:=by exact⟨qC,qC,qC,qC,qC,qC,qC,qC,qC,qC,qC,(rS hv3)⟩) (h:=by simp only[go_sem,hw3];rfl)
  cases d
 refine rD (sI (qU (qK EO ?_)));refine qZ (qK EO ?_ (hp:=by exact⟨id,id,id,id,tG⟩));refine r7 d ?_ ?_<;>intro d Y
 .refine qZ (zB 0 (0,(3,aP),(4,aR)) (x2:=(aA,(aB,((aC,(aD,(aE,((some (3,aP)),(aG,(aH,((some (4,aR)),()))))))),(none,((some 5),((0,0,(3,aP),(4,aR)),aL))))))) rfl qG ?_)
  by_cases hva4:((B3 aA aB aC aD aE aG aH aL aT.1 aO aP aQ aR aS)).isSome=true
  .rw[aSn hva4] at d;obtain⟨aV,hv4,hw4,d⟩:=rU d
   try simp only[go_sem] at hw4
   refine rQ aFs ?_ (hp:=by exact⟨qC,qC,qC,qC,qC,qC,qC,qC,qC,qC,(rS hv4)⟩) (h:=by simp only[go_sem,hw4];rfl)
   refine qU (qV (rF ?_));cases d;exact pP [(0,0),(1,1),(2,2),(3,3),(4,4),(5,5),(6,1100),(7,1101),(8,1102),(9,1103)]
  rw[aSo hva4] at d;obtain⟨aW,hv5,hw5,d⟩:=rU d
  try simp only[go_sem] at hw5
  refine rQ aMQ ?_ (hp:=by exact⟨qC,qC,qC,qC,qC,qC,qC,qC,qC,qC,qC,(rS hv5)⟩) (h:=by simp only[go_sem,hw5];rfl)
  cases d
 refine rD (qU (qZ ?_));obtain⟨W,d⟩:=qR d;refine qK EO ?_ (hp:=by exact W);refine r7 d ?_ ?_<;>intro d Y
 .cases d
 refine rD (qU ?_);obtain⟨V,d⟩:=qR d;obtain⟨aX,hw_46,d⟩:=QT d
 try simp only[go_sem] at hw_46
 refine qK EO ?_ (hp:=by exact V) (h:=by simp only[go_sem,hw_46];rfl);refine qZ (qK EO ?_ (hp:=by exact⟨id,id,id,id,id,id,id,fun hG e=>IR hG e,tG⟩));refine r7 d ?_ ?_<;>intro d Y
 .refine qZ (rQ EO ?_);cases d
 refine rD (qU (qZ ?_));replace d:=a1C d;generalize aX.1=aY at d|-;by_cases hfn:aY=some 117
 .subst hfn;rw[aSn rfl] at d;cases d
 rw[aSo hfn] at d;clear hfn;by_cases hfn:aY=some 118
 .subst hfn;rw[aSn rfl] at d;cases d
 rw[aSo hfn] at d;clear hfn;by_cases hfn:aY=some 119
 .subst hfn;rw[aSn rfl] at d;cases d
 rw[aSo hfn] at d;clear hfn;by_cases hfn:aY=some 120
 .subst hfn;rw[aSn rfl] at d;cases d
 rw[aSo hfn] at d;clear hfn;by_cases hfn:aY=some 121
 .subst hfn;rw[aSn rfl] at d;cases d
 rw[aSo hfn] at d;clear hfn;by_cases hfn:aY=some 122
 .subst hfn;rw[aSn rfl] at d;cases d
 rw[aSo hfn] at d;clear hfn;cases d
attribute [irreducible] zF
end
noncomputable section
def FQ (O:sQ) (Z:Int) (aA:pM) (aB:pM) (aC:pM) (aD:pN) (aE:Int) (aF:(pW×Unit)) (aG:pM) (aH:Int) (aI:(Option pN)) (aJ:Nat) (aK:(Option (List r5))) (aL:Nat) (aM:pU):Option Int:=(EM aG).bind fun aN=>if (!aN.2)=true then some ((3:Int)) else if 0≤(0:Int)∧(0:Int)<(aN.1.length:Int) then if (qT rE aN.1 (0:Int)).1=true then (M1 O Z aA aB aC aD aE aF aN.1 aI aJ aK aL aM).bind fun aO=>some (aO) else if ((decide (Z=(0:Int)))||(decide (Z=(2:Int))))=true then if ((B3 O Z aA aB aC aD aE aF aN.1 aI aJ aK aL aM)).isSome=true then (B3 O Z aA aB aC aD aE aF aN.1 aI aJ aK aL aM).bind fun aP=>none else (JB O Z aA aB aC aD aE aF aN.1 aI aJ aK aL aM).bind fun aQ=>some (aQ) else if 0≤(0:Int)∧(0:Int)<(aN.1.length:Int) then if (decide ((qT rE aN.1 (0:Int)).2.1=([101,110,100]:pM)))=true then none else if 0≤(0:Int)∧(0:Int)<(aN.1.length:Int) then AT (FK ((qT rE aN.1 (0:Int)).2.1)) fun aR=>if ((yW aR.1)||((decide (Z=(1:Int)))&&(!aR.2)))=true then some ((3:Int)) else AT aR.1 fun aS=>if aS=some 117 then none else if aS=some 118 then none else if aS=some 119 then none else if aS=some 120 then none else if aS=some 121 then none else if aS=some 122 then none else none else none else none else none
section
variable (O:pM) (Z:Int) (aA:sQ) (aB:Int) (aC:pM) (aD:pM) (aE:pM) (aF:Nat) (aG:pN) (aH:Int) (aI:Nat) (aJ:Nat) (aK:Nat) (aL:(pW×Unit)) (aM:Nat) (aN:Nat) (aO:(Option pN)) (aP:Nat) (aQ:(Option (List r5))) (aR:Nat) (aS:pU)
abbrev XH:List qM:=[(.val .ref (some (0,0)),none),(.val .str O,none),(.val (.int .i64) Z,none)]
abbrev a7l:List qJ:=[.cells sN (aA,(aB,((aC,(aD,(aE,((some (3,aF)),(aG,(aH,((some (4,aI)),()))))))),(none,((some 5),((0,0,(3,aJ),(4,aK)),aL)))))) [(3,1),(15,2)],.grow 45 7 aM,.grow 3 1 aN,s8 9 .str aO aP,s8 110 rW aQ aR,.map .str .bool aS]
@[go_sem] def XI:qY:=⟨[aM=(aA.2.2.2.1.length),aN=(aL.1.length),aF=aP,aI=aR,aJ=aP,aK=aR,((FQ aA aB aC aD aE aG aH aL O Z aO aP aQ aR aS)).isSome=true],[(.val (.int .i64) (val (FQ aA aB aC aD aE aG aH aL O Z aO aP aQ aR aS)),none)],[.cells sN ((aA.1,(aA.2.1,(aA.2.2.1,(aA.2.2.2.1,())))),(aB,((aC,(aD,(aE,((some (3,aP)),(aG,(aH,((some (4,aR)),()))))))),(none,((some 5),((0,0,(3,aP),(4,aR)),(aL.1,()))))))) [(3,1),(15,2)],.grow 45 7 (aA.2.2.2.1.length),.grow 3 1 (aL.1.length),s8 9 .str aO aP,s8 110 rW aQ aR,.map .str .bool aS]⟩
def a7m:List qM→List qJ→Option qY:=s5 (V:=(pM×Int×sQ×Int×pM×pM×pM×Nat×pN×Int×Nat×Nat×Nat×(pW×Unit)×Nat×Nat×(Option pN)×Nat×(Option (List r5))×Nat×pU)) (fun x=>XH x.1 x.2.1) (fun x=>a7l x.2.2.1 x.2.2.2.1 x.2.2.2.2.1 x.2.2.2.2.2.1 x.2.2.2.2.2.2.1 x.2.2.2.2.2.2.2.1 x.2.2.2.2.2.2.2.2.1 x.2.2.2.2.2.2.2.2.2.1 x.2.2.2.2.2.2.2.2.2.2.1 x.2.2.2.2.2.2.2.2.2.2.2.1 x.2.2.2.2.2.2.2.2.2.2.2.2.1 x.2.2.2.2.2.2.2.2.2.2.2.2.2.1 x.2.2.2.2.2.2.2.2.2.2.2.2.2.2.1 x.2.2.2.2.2.2.2.2.2.2.2.2.2.2.2.1 x.2.2.2.2.2.2.2.2.2.2.2.2.2.2.2.2.1 x.2.2.2.2.2.2.2.2.2.2.2.2.2.2.2.2.2.1 x.2.2.2.2.2.2.2.2.2.2.2.2.2.2.2.2.2.2.1 x.2.2.2.2.2.2.2.2.2.2.2.2.2.2.2.2.2.2.2.1 x.2.2.2.2.2.2.2.2.2.2.2.2.2.2.2.2.2.2.2.2) fun x=>XI x.1 x.2.1 x.2.2.1 x.2.2.2.1 x.2.2.2.2.1 x.2.2.2.2.2.1 x.2.2.2.2.2.2.1 x.2.2.2.2.2.2.2.1 x.2.2.2.2.2.2.2.2.1 x.2.2.2.2.2.2.2.2.2.1 x.2.2.2.2.2.2.2.2.2.2.1 x.2.2.2.2.2.2.2.2.2.2.2.1 x.2.2.2.2.2.2.2.2.2.2.2.2.1 x.2.2.2.2.2.2.2.2.2.2.2.2.2.1 x.2.2.2.2.2.2.2.2.2.2.2.2.2.2.1 x.2.2.2.2.2.2.2.2.2.2.2.2.2.2.2.1 x.2.2.2.2.2.2.2.2.2.2.2.2.2.2.2.2.1 x.2.2.2.2.2.2.2.2.2.2.2.2.2.2.2.2.2.1 x.2.2.2.2.2.2.2.2.2.2.2.2.2.2.2.2.2.2.1 x.2.2.2.2.2.2.2.2.2.2.2.2.2.2.2.2.2.2.2.1 x.2.2.2.2.2.2.2.2.2.2.2.2.2.2.2.2.2.2.2.2
@[go_sem] def aMR:a7m (no_index (XH O Z)) (no_index (a7l aA aB aC aD aE aF aG aH aI aJ aK aL aM aN aO aP aQ aR aS))=some (XI O Z aA aB aC aD aE aF aG aH aI aJ aK aL aM aN aO aP aQ aR aS):=sA (fun⟨a0,a1,a2,a3,a4,a5,a6,a7,a8,a9,a10,a11,a12,a13,a14,a15,a16,a17,a18,a19,a20⟩ ⟨b0,b1,b2,b3,b4,b5,b6,b7,b8,b9,b10,b11,b12,b13,b14,b15,b16,b17,b18,b19,b20⟩ h1 h2=>by cases h1;injection h2 with p0 h2;injection h2 with p1 h2;injection h2 with p2 h2;injection h2 with p3 h2;injection h2 with p4 h2;injection h2 with p5 h2;obtain⟨q3,r3⟩:=A6 p3;cases q3;cases r3;obtain⟨q4,r4⟩:=A6 p4;cases q4;cases r4;cases p0;cases p1;cases p2;cases p5;rfl) (O,Z,aA,aB,aC,aD,aE,aF,aG,aH,aI,aJ,aK,aL,aM,aN,aO,aP,aQ,aR,aS)
end
@[go_sem] def aSh (O:pM) (Z:Int) (aA:sQ) (aB:Int) (aC:pM) (aD:pM) (aE:pM) (aF:Nat) (aG:pN) (aH:Int) (aI:Nat) (aJ:Nat) (aK:Nat) (aL:(pW×Unit)) (aM:Nat) (aN:Nat) (aO:pN) (aP:Nat) (aQ:List r5) (aR:Nat) (aS:pU):a7m (no_index (XH O Z)) (no_index ([.cells sN (aA,(aB,((aC,(aD,(aE,((some (3,aF)),(aG,(aH,((some (4,aI)),()))))))),(none,((some 5),((0,0,(3,aJ),(4,aK)),aL)))))) [(3,1),(15,2)],.grow 45 7 aM,.grow 3 1 aN,.row 9 .str aO aP,.row 110 rW aQ aR,.map .str .bool aS]:List qJ))=some (XI O Z aA aB aC aD aE aF aG aH aI aJ aK aL aM aN (some aO) aP (some aQ) aR aS):=aMR O Z aA aB aC aD aE aF aG aH aI aJ aK aL aM aN (some aO) aP (some aQ) aR aS
@[go_sem] abbrev RW:Nat×rK:=(56,⟨[.p sN [3,15],.v,.v],a7m,[(0,8,.r),(0,11,.r),(0,13,.m)],[1,2,3,4,5],none⟩)
def aFu:rI prog [] (rJ [BA,CW,HF,AZ,AW,AX,B8,B4,B5,B6,AY]):=⟨trivial,qW MC (qW OD (qW X4 (qW LY (qW LT (qW LU (qW M7 (qW M4 (qW M5 (qW M6 (qW LW rX)))))))))),rM⟩
def EP:rI prog [vL,w7,sT,AV,vC,wK,wG,GY] (rJ [BA,CW,HF,AZ,AW,AX,B8,B4,B5,B6,AY]):=⟨⟨vY,⟨wJ,⟨sW,⟨CN,⟨vQ,⟨xF,⟨wT,⟨LN,trivial⟩⟩⟩⟩⟩⟩⟩⟩,aFu.Γ,rM⟩
def aMS:rI prog [] (rJ [BA,CW,HF,AZ,AW,AX,B8,B4,B5,B6,AY]):=⟨trivial,qW MC (qW OD (qW X4 (qW LY (qW LT (qW LU (qW M7 (qW M4 (qW M5 (qW M6 (qW LW rX)))))))))),rM⟩
def aFv:rI prog [vL,w7,sT,AV,vC,wK,wG,GY] (rJ [BA,CW,HF,AZ,AW,AX,B8,B4,B5,B6,AY]):=⟨⟨vY,⟨wJ,⟨sW,⟨CN,⟨vQ,⟨xF,⟨wT,⟨LN,trivial⟩⟩⟩⟩⟩⟩⟩⟩,aMS.Γ,rM⟩
def aMT:rI prog [] (rJ [BA,CW,RI,AZ,AW,AX,B8,B4,B5,B6,AY]):=⟨trivial,qW MC (qW OD (qW aEg (qW LY (qW LT (qW LU (qW M7 (qW M4 (qW M5 (qW M6 (qW LW rX)))))))))),rM⟩
def aMU:rI prog [vL,w7,sT,AV,vC,wK,wG,GY] (rJ [BA,CW,RI,AZ,AW,AX,B8,B4,B5,B6,AY]):=⟨⟨vY,⟨wJ,⟨sW,⟨CN,⟨vQ,⟨xF,⟨wT,⟨LN,trivial⟩⟩⟩⟩⟩⟩⟩⟩,aMT.Γ,rM⟩
def aFw:rT prog RW:=by
 refine sB aFu func56 (c:=_) rfl (N:=81) qD (ts:=[(6,none)]) rfl (fun _ _=>rfl) ?_ (h3:=by intro _;repeat (first|exact trivial|refine IW rfl ?_ |refine ⟨rfl,?_⟩))
 intro⟨O,Z,aA,aB,aC,aD,aE,aF,aG,aH,aI,aJ,aK,aL,aM,aN,aO,aP,aQ,aR,aS⟩ hs hrow;dsimp only[XH,a7l,XI,rY,r8,rG,rN,rZ,Nat.reduceAdd] at hs hrow|-;obtain⟨rfl,rfl,hps2,hps3,hps4,hps5,hz⟩:=hs;obtain rfl:=hps2.symm;obtain rfl:=hps3.symm;obtain rfl:=hps4.symm;obtain rfl:=hps5.symm;obtain⟨z0,d⟩:=aSs.1 hz
 try rw[sG d]
 clear hz;unfold FQ at d;refine qK EP ?_;obtain⟨aT,hv1,hw1,d⟩:=rU d
 try simp only[go_sem] at hw1
 refine qK EP ?_ (hp:=by exact(rS hv1)) (h:=by simp only[go_sem,hw1];rfl);refine qZ (sJ (qK EP ?_));refine r7 d ?_ ?_<;>intro d Y
 .refine qK EP ?_;refine qV (sD (rF ?_));cases d;exact pP [(0,0),(1,1),(2,2),(3,3),(4,4),(5,5)]
 obtain⟨X,d⟩:=qR d;refine qK EP ?_ (hp:=by exact X);refine r7 d ?_ ?_<;>intro d Y
 .obtain⟨aU,hv3,hw3,d⟩:=rU d
  try simp only[go_sem] at hw3
  refine qK aFv ?_ (hp:=by exact⟨qC,qC,qC,qC,qC,qC,qC,qC,qC,qC,qC,(rS hv3)⟩) (h:=by simp only[go_sem,hw3];rfl)
  refine qV (sD (rF ?_));cases d;exact pP [(0,0),(1,1),(2,2),(3,3),(4,4),(5,5)]
 refine rD (sI (qU (qK EP ?_)));refine qZ (qK EP ?_ (hp:=by exact⟨id,id,id,id,tG⟩));refine r7 d ?_ ?_<;>intro d Y
 .refine qZ (zB 0 (0,(3,aP),(4,aR)) (x2:=(aA,(aB,((aC,(aD,(aE,((some (3,aP)),(aG,(aH,((some (4,aR)),()))))))),(none,((some 5),((0,0,(3,aP),(4,aR)),aL))))))) rfl qG ?_)
  by_cases hva4:((B3 aA aB aC aD aE aG aH aL aT.1 aO aP aQ aR aS)).isSome=true
  .rw[aSn hva4] at d;obtain⟨aV,hv4,hw4,d⟩:=rU d
   try simp only[go_sem] at hw4
   refine rQ aFv ?_ (hp:=by exact⟨qC,qC,qC,qC,qC,qC,qC,qC,qC,qC,(rS hv4)⟩) (h:=by simp only[go_sem,hw4];rfl)
   cases d
  rw[aSo hva4] at d;obtain⟨aW,hv5,hw5,d⟩:=rU d
  try simp only[go_sem] at hw5
  refine rQ aMU ?_ (hp:=by exact⟨qC,qC,qC,qC,qC,qC,qC,qC,qC,qC,qC,(rS hv5)⟩) (h:=by simp only[go_sem,hw5];rfl)
  refine qU (qV (rF ?_));cases d;exact pP [(0,0),(1,1),(2,2),(3,3),(4,4),(5,5)]
 refine rD (qU (qZ ?_));obtain⟨W,d⟩:=qR d;refine qK EP ?_ (hp:=by exact W);refine r7 d ?_ ?_<;>intro d Y
 .cases d
 refine rD (qU ?_);obtain⟨V,d⟩:=qR d;obtain⟨aX,hw_43,d⟩:=QT d
 try simp only[go_sem] at hw_43
 refine qK EP ?_ (hp:=by exact V) (h:=by simp only[go_sem,hw_43];rfl);refine qZ (qK EP ?_ (hp:=by exact⟨id,id,id,id,id,id,id,fun hG e=>IR hG e,tG⟩));refine r7 d ?_ ?_<;>intro d Y
 .refine qK EP ?_;refine zB 0 (0,(3,aP),(4,aR)) (x2:=(aA,(aB,((aC,(aD,(aE,((some (3,aP)),(aG,(aH,((some (4,aR)),()))))))),(none,((some 5),((0,0,(3,aP),(4,aR)),aL))))))) rfl qG ?_
  refine qV (rF ?_);cases d;exact pP [(0,0),(1,1),(2,2),(3,3),(4,4),(5,5)]
 refine rD (qU (qZ ?_));replace d:=a1C d;generalize aX.1=aY at d|-;by_cases hfn:aY=some 117
 .subst hfn;rw[aSn rfl] at d;cases d
 rw[aSo hfn] at d;clear hfn;by_cases hfn:aY=some 118
 .subst hfn;rw[aSn rfl] at d;cases d
 rw[aSo hfn] at d;clear hfn;by_cases hfn:aY=some 119
 .subst hfn;rw[aSn rfl] at d;cases d
 rw[aSo hfn] at d;clear hfn;by_cases hfn:aY=some 120
 .subst hfn;rw[aSn rfl] at d;cases d
 rw[aSo hfn] at d;clear hfn;by_cases hfn:aY=some 121
 .subst hfn;rw[aSn rfl] at d;cases d
 rw[aSo hfn] at d;clear hfn;by_cases hfn:aY=some 122
 .subst hfn;rw[aSn rfl] at d;cases d
 rw[aSo hfn] at d;clear hfn;cases d
attribute [irreducible] FQ
end
noncomputable section
def A9 (O:pM):(Int⊕(Int×pM×pN×(List r5)×(List t7)×Int×pM×pM×pM×pN×Int×Nat×pW×(Option pN)×Nat×(Option (List r5))×Nat×pU×pU))→Option ((Int⊕(Int×pM×pN×(List r5)×(List t7)×Int×pM×pM×pM×pN×Int×Nat×pW×(Option pN)×Nat×(Option (List r5))×Nat×pU×pU))⊕(pM×pN×(List r5)×(List t7)×Int×pM×pM×pM×pN×Int×Nat×pW×(Option pN)×Nat×(Option (List r5))×Nat×pU×pU)):=fun x=>match x with
 | .inl Z=>
  if (decide (Z<(O.length:Int)))=true then
   if 0≤Z∧Z≤(O.length:Int)∧(O.length:Int)≤(O.length:Int) then
    (CT (rV O Z (O.length:Int)) ([10]:pM)).bind fun aA=>
    if qP (Z+(aA.1.length:Int)) then
     if qP ((Z+(aA.1.length:Int))+(1:Int)) then
      (GZ aA.1).bind fun aB=>
      if (!((decide ((Lib.trimLeftS aA.1 ([32,9]:pM))=([]:pM)))||(decide ((sH (Lib.trimLeftS aA.1 ([32,9]:pM)) (0:Int))=(35:Int)))))=true then
       if ((zF (([]:pM),(([]:pN),(([]:List r5),(([]:List t7),())))) (0:Int) ([]:pM) ([]:pM) ([]:pM) ([]:pN) (0:Int) (([]:pW),()) aA.1 (min (O.length:Int) ((Z+(aA.1.length:Int))+(1:Int))) (some ([]:pN)) 0 (some ([]:List r5)) 0 ([]:pU))).isSome=true then
        (zF (([]:pM),(([]:pN),(([]:List r5),(([]:List t7),())))) (0:Int) ([]:pM) ([]:pM) ([]:pM) ([]:pN) (0:Int) (([]:pW),()) aA.1 (min (O.length:Int) ((Z+(aA.1.length:Int))+(1:Int))) (some ([]:pN)) 0 (some ([]:List r5)) 0 ([]:pU)).bind fun aC=>
        if (!decide ((0:Int)=(0:Int)))=true then
         none
        else
         some (.inl (.inr ((min (O.length:Int) ((Z+(aA.1.length:Int))+(1:Int))),aC.1,([]:pN),([]:List r5),([]:List t7),aC.2.1,aC.2.2.1,([]:pM),([]:pM),([]:pN),(0:Int),0,([]:pW),(some ([]:pN)),0,(some ([]:List r5)),0,([]:pU),aC.2.2.2)))
       else
        (FQ (([]:pM),(([]:pN),(([]:List r5),(([]:List t7),())))) (0:Int) ([]:pM) ([]:pM) ([]:pM) ([]:pN) (0:Int) (([]:pW),()) aA.1 (min (O.length:Int) ((Z+(aA.1.length:Int))+(1:Int))) (some ([]:pN)) 0 (some ([]:List r5)) 0 ([]:pU)).bind fun aD=>
        if (!decide (aD=(0:Int)))=true then
         none
        else
         some (.inl (.inl (min (O.length:Int) ((Z+(aA.1.length:Int))+(1:Int)))))
      else
       some (.inl (.inl (min (O.length:Int) ((Z+(aA.1.length:Int))+(1:Int)))))
     else none
    else none
   else none
  else
   if (!decide ((0:Int)=(2:Int)))=true then
    none
   else
    none
 | .inr (aE,aF,aG,aH,aI,aJ,aK,aL,aM,aN,aO,aP,aQ,aR,aS,aT,aU,aV,aW)=>
  if (decide (aE<(O.length:Int)))=true then
   if 0≤aE∧aE≤(O.length:Int)∧(O.length:Int)≤(O.length:Int) then
    (CT (rV O aE (O.length:Int)) ([10]:pM)).bind fun aX=>
    if qP (aE+(aX.1.length:Int)) then
     if qP ((aE+(aX.1.length:Int))+(1:Int)) then
      (GZ aX.1).bind fun aY=>
      if (!((decide ((Lib.trimLeftS aX.1 ([32,9]:pM))=([]:pM)))||(decide ((sH (Lib.trimLeftS aX.1 ([32,9]:pM)) (0:Int))=(35:Int)))))=true then
       (uH (aF,(aG,(aH,(aI,())))) aJ aK aL aM aN aO aP (aQ,()) aX.1 (min (O.length:Int) ((aE+(aX.1.length:Int))+(1:Int))) aR aS aT aU aV aW).bind fun aZ=>
       if (!decide (aZ.1=(0:Int)))=true then
        none
       else
        some (.inl (.inr ((min (O.length:Int) ((aE+(aX.1.length:Int))+(1:Int))),aZ.2.1,aZ.2.2.1,aZ.2.2.2.1,aZ.2.2.2.2.1,aZ.2.2.2.2.2.1,aZ.2.2.2.2.2.2.1,aZ.2.2.2.2.2.2.2.1,aZ.2.2.2.2.2.2.2.2.1,aZ.2.2.2.2.2.2.2.2.2.1,aZ.2.2.2.2.2.2.2.2.2.2.1,aZ.2.2.2.2.2.2.2.2.2.2.2.1,aZ.2.2.2.2.2.2.2.2.2.2.2.2.1,aZ.2.2.2.2.2.2.2.2.2.2.2.2.2.2.1,aZ.2.2.2.2.2.2.2.2.2.2.2.2.2.2.2.1,aZ.2.2.2.2.2.2.2.2.2.2.2.2.2.2.2.2.1,aZ.2.2.2.2.2.2.2.2.2.2.2.2.2.2.2.2.2.1,aZ.2.2.2.2.2.2.2.2.2.2.2.2.2.2.2.2.2.2,aZ.2.2.2.2.2.2.2.2.2.2.2.2.2.1)))
      else
       some (.inl (.inr ((min (O.length:Int) ((aE+(aX.1.length:Int))+(1:Int))),aF,aG,aH,aI,aJ,aK,aL,aM,aN,aO,aP,aQ,aR,aS,aT,aU,aV,aW)))
     else none
    else none
   else none
  else
   if (!decide (aJ=(2:Int)))=true then
    none
   else
    some (.inr ((aF,aG,aH,aI,aJ,aK,aL,aM,aN,aO,aP,aQ,aR,aS,aT,aU,aV,aW)))
def uI (O:pM):Option (pM×pN×(List r5)×(List t7)×Int×pM×pM×pM×pN×Int×Nat×pW×(Option pN)×Nat×(Option (List r5))×Nat×pU×pU):=sC (A9 O) (.inl (0:Int))
section
variable (O:pM)
abbrev a7n:List qM:=[(.val .str O,none)]
abbrev a7o:List qJ:=[]
@[go_sem] def a7p:qY:=⟨[((uI O)).isSome=true],[(.val .ref (some (0,0)),none),(.val (.int .i64) (0:Int),none),(.val (.int .i64) (0:Int),none)],[.cells sN (((val (uI O)).1,((val (uI O)).2.1,((val (uI O)).2.2.1,((val (uI O)).2.2.2.1,())))),((val (uI O)).2.2.2.2.1,(((val (uI O)).2.2.2.2.2.1,((val (uI O)).2.2.2.2.2.2.1,((val (uI O)).2.2.2.2.2.2.2.1,((some (1,(val (uI O)).2.2.2.2.2.2.2.2.2.2.2.2.2.1)),((val (uI O)).2.2.2.2.2.2.2.2.1,((val (uI O)).2.2.2.2.2.2.2.2.2.1,((some (2,(val (uI O)).2.2.2.2.2.2.2.2.2.2.2.2.2.2.2.1)),()))))))),((some 3),((some 4),(((val (uI O)).2.2.2.2.2.2.2.2.2.2.1,0,(1,(val (uI O)).2.2.2.2.2.2.2.2.2.2.2.2.2.1),(2,(val (uI O)).2.2.2.2.2.2.2.2.2.2.2.2.2.2.2.1)),((val (uI O)).2.2.2.2.2.2.2.2.2.2.2.1,()))))))) [(3,5),(15,6)],s8 9 .str ((val (uI O)).2.2.2.2.2.2.2.2.2.2.2.2.1) ((val (uI O)).2.2.2.2.2.2.2.2.2.2.2.2.2.1),s8 110 rW ((val (uI O)).2.2.2.2.2.2.2.2.2.2.2.2.2.2.1) ((val (uI O)).2.2.2.2.2.2.2.2.2.2.2.2.2.2.2.1),.map .str .bool ((val (uI O)).2.2.2.2.2.2.2.2.2.2.2.2.2.2.2.2.1),.map .str .bool ((val (uI O)).2.2.2.2.2.2.2.2.2.2.2.2.2.2.2.2.2),.grow 45 7 (((val (uI O)).2.2.2.1).length),.grow 3 1 (((val (uI O)).2.2.2.2.2.2.2.2.2.2.2.1).length)]⟩
def aFx:List qM→List qJ→Option qY:=s5 (V:=pM) (a7n) (fun x=>a7o) fun x=>a7p x
@[go_sem] def aSi:aFx (no_index (a7n O)) (no_index a7o)=some (a7p O):=sA (fun a0 b0 h1 h2=>by cases h1;cases h2;rfl) O
end
@[go_sem] abbrev a7q:Nat×rK:=(29,⟨[.v],aFx,[],[],none⟩)
def a7r:rI prog [] (rJ [CU,CP,RU]):=⟨trivial,qW O9 (qW NZ (qW aFq rX)),rM⟩
def vR:rI prog [vL,w7,sT,CO,vC] (rJ [CU,CP,RU]):=⟨⟨vY,⟨wJ,⟨sW,⟨E8,⟨vQ,trivial⟩⟩⟩⟩⟩,a7r.Γ,rM⟩
def aMV:rI prog [] (rJ [CU,CP,RV]):=⟨trivial,qW O9 (qW NZ (qW aFt rX)),rM⟩
def aMW:rI prog [vL,w7,sT,CO,vC] (rJ [CU,CP,RV]):=⟨⟨vY,⟨wJ,⟨sW,⟨E8,⟨vQ,trivial⟩⟩⟩⟩⟩,aMV.Γ,rM⟩
def aMX:rI prog [] (rJ [CU,CP,RW]):=⟨trivial,qW O9 (qW NZ (qW aFw rX)),rM⟩
def aMY:rI prog [vL,w7,sT,CO,vC] (rJ [CU,CP,RW]):=⟨⟨vY,⟨wJ,⟨sW,⟨E8,⟨vQ,trivial⟩⟩⟩⟩⟩,aMX.Γ,rM⟩
def aMZ:rT prog a7q:=by
 refine sB a7r func29 (c:=_) rfl (N:=55) qD (ts:=[(2,none),(3,none),(4,none)]) rfl (fun _ _=>rfl) ?_;intro O hs hrow;dsimp only[a7n,a7o,a7p,rY,r8,rG,rN,rZ,Nat.reduceAdd] at hs hrow|-;have hz:=hs;obtain⟨z0,f⟩:=aSs.1 hz
 try rw[sG f]
 clear hz hs;unfold uI at f;refine qK a7r ?_;refine qK vR ?_;refine qZ (qK vR ?_);refine sJ (zB 160 (160,(166,0),(167,0)) (x2:=((([]:pM),(([]:pN),(([]:List r5),(([]:List t7),())))),((0:Int),((([]:pM),(([]:pM),(([]:pM),((some (166,0)),(([]:pN),((0:Int),((some (167,0)),()))))))),(none,((some 96),((0,160,(166,0),(167,0)),(([]:pW),())))))))) rfl qG ?_)
 have hy1:=f;refine vP hy1 (fun x=>match x with| .inl x=>⟨[(0,.val .str O,none),(5,.val .ref (some (0,0)),none),(6,.val (.int .i64) x,none)],[(0,.cells sN ((([]:pM),(([]:pN),(([]:List r5),(([]:List t7),())))),((0:Int),((([]:pM),(([]:pM),(([]:pM),((some (1,0)),(([]:pN),((0:Int),((some (2,0)),()))))))),(none,((some 3),((0,0,(1,0),(2,0)),(([]:pW),()))))))) [(3,4),(15,5)]),(1,.row 9 .str ([]:pN) 0),(2,.row 110 rW ([]:List r5) 0),(3,.map .str .bool ([]:pU)),(4,.grow 45 7 (([]:List t7).length)),(5,.grow 3 1 (([]:pW).length))],6,55,0⟩ | .inr x=>⟨[(0,.val .str O,none),(5,.val .ref (some (0,0)),none),(6,.val (.int .i64) x.1,none)],[(0,.cells sN ((x.2.1,(x.2.2.1,(x.2.2.2.1,(x.2.2.2.2.1,())))),(x.2.2.2.2.2.1,((x.2.2.2.2.2.2.1,(x.2.2.2.2.2.2.2.1,(x.2.2.2.2.2.2.2.2.1,((some (1,x.2.2.2.2.2.2.2.2.2.2.2.2.2.2.1)),(x.2.2.2.2.2.2.2.2.2.1,(x.2.2.2.2.2.2.2.2.2.2.1,((some (2,x.2.2.2.2.2.2.2.2.2.2.2.2.2.2.2.2.1)),()))))))),((some 3),((some 4),((x.2.2.2.2.2.2.2.2.2.2.2.1,0,(1,x.2.2.2.2.2.2.2.2.2.2.2.2.2.2.1),(2,x.2.2.2.2.2.2.2.2.2.2.2.2.2.2.2.2.1)),(x.2.2.2.2.2.2.2.2.2.2.2.2.1,()))))))) [(3,5),(15,6)]),(1,s8 9 .str x.2.2.2.2.2.2.2.2.2.2.2.2.2.1 x.2.2.2.2.2.2.2.2.2.2.2.2.2.2.1),(2,s8 110 rW x.2.2.2.2.2.2.2.2.2.2.2.2.2.2.2.1 x.2.2.2.2.2.2.2.2.2.2.2.2.2.2.2.2.1),(3,.map .str .bool x.2.2.2.2.2.2.2.2.2.2.2.2.2.2.2.2.2.1),(4,.map .str .bool x.2.2.2.2.2.2.2.2.2.2.2.2.2.2.2.2.2.2),(5,.grow 45 7 (x.2.2.2.2.1.length)),(6,.grow 3 1 (x.2.2.2.2.2.2.2.2.2.2.2.2.1.length))],7,55,0⟩) ⟨[0,5,6],[(0,160),(1,166),(2,167),(3,96),(4,163),(5,165)]⟩ qG ?_
 intro x1 w1 n1 d e;rcases x1 with x1|x1
 .obtain⟨Z,hvx⟩: ∃v,v=x1:=⟨_,rfl⟩;subst hvx;unfold A9 at d;dsimp only at d|-;refine qZ (qK vR ?_);refine r7 d ?_ ?_<;>intro d Y
  .refine rD (qU (sJ ?_));obtain⟨X,d⟩:=qR d;obtain⟨aA,hv2,hw2,d⟩:=rU d
   try simp only[go_sem] at hw2
   refine qK vR ?_ (hp:=by exact⟨X,(rS hv2)⟩) (h:=by simp only[go_sem,hw2];rfl);obtain⟨W,V,d⟩:=pL d;refine qK vR ?_ (hp:=by exact⟨W,V⟩);refine qZ ?_;obtain⟨aB,hv5,hw5,d⟩:=rU d
   try simp only[go_sem] at hw5
   refine qK vR ?_ (hp:=by exact(rS hv5)) (h:=by simp only[go_sem,hw5];rfl);refine r7 d ?_ ?_<;>intro d Y
   .refine qZ ?_;by_cases hva3:((zF (([]:pM),(([]:pN),(([]:List r5),(([]:List t7),())))) (0:Int) ([]:pM) ([]:pM) ([]:pM) ([]:pN) (0:Int) (([]:pW),()) aA.1 (min (O.length:Int) ((Z+(aA.1.length:Int))+(1:Int))) (some ([]:pN)) 0 (some ([]:List r5)) 0 ([]:pU))).isSome=true
    .rw[aSn hva3] at d;obtain⟨aC,hv6,hw6,d⟩:=rU d
     try simp only[go_sem] at hw6
     refine rQ aMW ?_ (hp:=by exact⟨qC,qC,qC,qC,qC,qC,qC,qC,qC,qC,(rS hv6)⟩) (h:=by simp only[go_sem,hw6];rfl)
     refine qU (qK vR ?_);refine r7 d ?_ ?_<;>intro d Y
     .refine qZ (rQ vR ?_);cases d
     refine rD (qU (rQ vR ?_));refine sI ?_;cases d;exact tP ⟨⟨[0,5,6],[(0,0),(1,972),(2,973),(3,974),(4,3),(5,4),(6,5)]⟩,_,qG,e⟩
    rw[aSo hva3] at d;obtain⟨aD,hv7,hw7,d⟩:=rU d
    try simp only[go_sem] at hw7
    refine rQ aMY ?_ (hp:=by exact⟨qC,qC,qC,qC,qC,qC,qC,qC,qC,qC,qC,(rS hv7)⟩) (h:=by simp only[go_sem,hw7];rfl)
    refine qU (qK vR ?_);refine r7 d ?_ ?_<;>intro d Y
    .refine qZ (rQ vR ?_);cases d
    refine rD (qU (rQ vR ?_));refine sI ?_;cases d;exact tP ⟨⟨[0,5,6],[(0,0),(1,1),(2,2),(3,3),(4,4),(5,5)]⟩,_,qG,e⟩
   refine rD (qU (rQ vR ?_));refine sI ?_;cases d;exact tP ⟨⟨[0,5,6],[(0,0),(1,1),(2,2),(3,3),(4,4),(5,5)]⟩,_,qG,e⟩
  refine v8 (v6 (vA (v7 (qU (qZ ?_)))));refine qK vR ?_;refine r7 d ?_ ?_<;>intro d Y
  .refine qZ (rQ vR ?_);cases d
  refine rD (qU (qZ (rQ vR ?_)));cases d
 obtain⟨aE,aF,aG,aH,aI,aJ,aK,aL,aM,aN,aO,aP,aQ,aR,aS,aT,aU,aV,aW⟩:=x1;unfold A9 at d;dsimp only at d|-;refine qZ (qK vR ?_);refine r7 d ?_ ?_<;>intro d Y
 .refine rD (qU (sJ ?_));obtain⟨U,d⟩:=qR d;obtain⟨aX,hv9,hw9,d⟩:=rU d
  try simp only[go_sem] at hw9
  refine qK vR ?_ (hp:=by exact⟨U,(rS hv9)⟩) (h:=by simp only[go_sem,hw9];rfl);obtain⟨T,S,d⟩:=pL d;refine qK vR ?_ (hp:=by exact⟨T,S⟩);refine qZ ?_;obtain⟨aY,hv12,hw12,d⟩:=rU d
  try simp only[go_sem] at hw12
  refine qK vR ?_ (hp:=by exact(rS hv12)) (h:=by simp only[go_sem,hw12];rfl);refine r7 d ?_ ?_<;>intro d Y
  .obtain⟨aZ,hv13,hw13,d⟩:=rU d
   try simp only[go_sem] at hw13
   refine qK vR ?_ (hp:=by exact⟨qC,qC,qC,qC,qC,qC,(rS hv13)⟩) (h:=by simp only[go_sem,hw13];rfl)
   refine qK vR ?_;refine r7 d ?_ ?_<;>intro d Y
   .refine qZ (rQ vR ?_);cases d
   refine rD (qU (rQ vR ?_));refine sI ?_;cases d;exact tP ⟨⟨[0,5,6],[(0,0),(1,974),(2,975),(3,976),(4,4),(5,5),(6,6)]⟩,_,qG,e⟩
  refine rD (qU (rQ vR ?_));refine sI ?_;cases d;exact tP ⟨⟨[0,5,6],[(0,0),(1,1),(2,2),(3,3),(4,4),(5,5),(6,6)]⟩,_,qG,e⟩
 refine v8 (v6 (vA (v7 (qU (qZ ?_)))));refine qK vR ?_;refine r7 d ?_ ?_<;>intro d Y
 .refine qZ (rQ vR ?_);cases d
 refine rD (qU (qK vR ?_));refine qV ?_;cases d;have f:=aSM some (show _=_ from e);cases f;exact pP [(0,0),(1,1),(2,2),(3,3),(4,4),(5,5),(6,6)]
attribute [irreducible] uI
end
noncomputable section
def AA (O:pM):(Int⊕(Int×pM×pN×(List r5)×(List t7)×Int×pM×pM×pM×pN×Int×Nat×pW×(Option pN)×Nat×(Option (List r5))×Nat×pU×pU))→Option ((Int⊕(Int×pM×pN×(List r5)×(List t7)×Int×pM×pM×pM×pN×Int×Nat×pW×(Option pN)×Nat×(Option (List r5))×Nat×pU×pU))⊕(Int×Int)):=fun x=>match x with
 | .inl Z=>
  if (decide (Z<(O.length:Int)))=true then
   if 0≤Z∧Z≤(O.length:Int)∧(O.length:Int)≤(O.length:Int) then
    (CT (rV O Z (O.length:Int)) ([10]:pM)).bind fun aA=>
    if qP (Z+(aA.1.length:Int)) then
     if qP ((Z+(aA.1.length:Int))+(1:Int)) then
      (GZ aA.1).bind fun aB=>
      if (!((decide ((Lib.trimLeftS aA.1 ([32,9]:pM))=([]:pM)))||(decide ((sH (Lib.trimLeftS aA.1 ([32,9]:pM)) (0:Int))=(35:Int)))))=true then
       if ((zF (([]:pM),(([]:pN),(([]:List r5),(([]:List t7),())))) (0:Int) ([]:pM) ([]:pM) ([]:pM) ([]:pN) (0:Int) (([]:pW),()) aA.1 (min (O.length:Int) ((Z+(aA.1.length:Int))+(1:Int))) (some ([]:pN)) 0 (some ([]:List r5)) 0 ([]:pU))).isSome=true then
        (zF (([]:pM),(([]:pN),(([]:List r5),(([]:List t7),())))) (0:Int) ([]:pM) ([]:pM) ([]:pM) ([]:pN) (0:Int) (([]:pW),()) aA.1 (min (O.length:Int) ((Z+(aA.1.length:Int))+(1:Int))) (some ([]:pN)) 0 (some ([]:List r5)) 0 ([]:pU)).bind fun aC=>
        if (!decide ((0:Int)=(0:Int)))=true then
         some (.inr ((Z,(0:Int))))
        else
         some (.inl (.inr ((min (O.length:Int) ((Z+(aA.1.length:Int))+(1:Int))),aC.1,([]:pN),([]:List r5),([]:List t7),aC.2.1,aC.2.2.1,([]:pM),([]:pM),([]:pN),(0:Int),0,([]:pW),(some ([]:pN)),0,(some ([]:List r5)),0,([]:pU),aC.2.2.2)))
       else
        (FQ (([]:pM),(([]:pN),(([]:List r5),(([]:List t7),())))) (0:Int) ([]:pM) ([]:pM) ([]:pM) ([]:pN) (0:Int) (([]:pW),()) aA.1 (min (O.length:Int) ((Z+(aA.1.length:Int))+(1:Int))) (some ([]:pN)) 0 (some ([]:List r5)) 0 ([]:pU)).bind fun aD=>
        if (!decide (aD=(0:Int)))=true then
         some (.inr ((Z,aD)))
        else
         some (.inl (.inl (min (O.length:Int) ((Z+(aA.1.length:Int))+(1:Int)))))
      else
       some (.inl (.inl (min (O.length:Int) ((Z+(aA.1.length:Int))+(1:Int)))))
     else none
    else none
   else none
  else
   if (!decide ((0:Int)=(2:Int)))=true then
    some (.inr (((O.length:Int),(3:Int))))
   else
    none
 | .inr (aE,aF,aG,aH,aI,aJ,aK,aL,aM,aN,aO,aP,aQ,aR,aS,aT,aU,aV,aW)=>
  if (decide (aE<(O.length:Int)))=true then
   if 0≤aE∧aE≤(O.length:Int)∧(O.length:Int)≤(O.length:Int) then
    (CT (rV O aE (O.length:Int)) ([10]:pM)).bind fun aX=>
    if qP (aE+(aX.1.length:Int)) then
     if qP ((aE+(aX.1.length:Int))+(1:Int)) then
      (GZ aX.1).bind fun aY=>
      if (!((decide ((Lib.trimLeftS aX.1 ([32,9]:pM))=([]:pM)))||(decide ((sH (Lib.trimLeftS aX.1 ([32,9]:pM)) (0:Int))=(35:Int)))))=true then
       (uH (aF,(aG,(aH,(aI,())))) aJ aK aL aM aN aO aP (aQ,()) aX.1 (min (O.length:Int) ((aE+(aX.1.length:Int))+(1:Int))) aR aS aT aU aV aW).bind fun aZ=>
       if (!decide (aZ.1=(0:Int)))=true then
        some (.inr ((aE,aZ.1)))
       else
        some (.inl (.inr ((min (O.length:Int) ((aE+(aX.1.length:Int))+(1:Int))),aZ.2.1,aZ.2.2.1,aZ.2.2.2.1,aZ.2.2.2.2.1,aZ.2.2.2.2.2.1,aZ.2.2.2.2.2.2.1,aZ.2.2.2.2.2.2.2.1,aZ.2.2.2.2.2.2.2.2.1,aZ.2.2.2.2.2.2.2.2.2.1,aZ.2.2.2.2.2.2.2.2.2.2.1,aZ.2.2.2.2.2.2.2.2.2.2.2.1,aZ.2.2.2.2.2.2.2.2.2.2.2.2.1,aZ.2.2.2.2.2.2.2.2.2.2.2.2.2.2.1,aZ.2.2.2.2.2.2.2.2.2.2.2.2.2.2.2.1,aZ.2.2.2.2.2.2.2.2.2.2.2.2.2.2.2.2.1,aZ.2.2.2.2.2.2.2.2.2.2.2.2.2.2.2.2.2.1,aZ.2.2.2.2.2.2.2.2.2.2.2.2.2.2.2.2.2.2,aZ.2.2.2.2.2.2.2.2.2.2.2.2.2.1)))
      else
       some (.inl (.inr ((min (O.length:Int) ((aE+(aX.1.length:Int))+(1:Int))),aF,aG,aH,aI,aJ,aK,aL,aM,aN,aO,aP,aQ,aR,aS,aT,aU,aV,aW)))
     else none
    else none
   else none
  else
   if (!decide (aJ=(2:Int)))=true then
    some (.inr (((O.length:Int),(3:Int))))
   else
    none
def JL (O:pM):Option (Int×Int):=sC (AA O) (.inl (0:Int))
section
variable (O:pM)
abbrev a7s:List qM:=[(.val .str O,none)]
abbrev a7t:List qJ:=[]
@[go_sem] def a7u:qY:=⟨[((JL O)).isSome=true],[(.val .ref none,none),(.val (.int .i64) ((val (JL O)).1),none),(.val (.int .i64) ((val (JL O)).2),none)],[]⟩
def aFy:List qM→List qJ→Option qY:=s5 (V:=pM) (a7s) (fun x=>a7t) fun x=>a7u x
@[go_sem] def aSj:aFy (no_index (a7s O)) (no_index a7t)=some (a7u O):=sA (fun a0 b0 h1 h2=>by cases h1;cases h2;rfl) O
end
@[go_sem] abbrev aFz:Nat×rK:=(29,⟨[.v],aFy,[],[],none⟩)
def a7v:rI prog [] (rJ [CU,CP,RU]):=⟨trivial,qW O9 (qW NZ (qW aFq rX)),rM⟩
def vS:rI prog [vL,w7,sT,CO,vC] (rJ [CU,CP,RU]):=⟨⟨vY,⟨wJ,⟨sW,⟨E8,⟨vQ,trivial⟩⟩⟩⟩⟩,a7v.Γ,rM⟩
def aM0:rI prog [] (rJ [CU,CP,RV]):=⟨trivial,qW O9 (qW NZ (qW aFt rX)),rM⟩
def aM1:rI prog [vL,w7,sT,CO,vC] (rJ [CU,CP,RV]):=⟨⟨vY,⟨wJ,⟨sW,⟨E8,⟨vQ,trivial⟩⟩⟩⟩⟩,aM0.Γ,rM⟩
def aM2:rI prog [] (rJ [CU,CP,RW]):=⟨trivial,qW O9 (qW NZ (qW aFw rX)),rM⟩
def aM3:rI prog [vL,w7,sT,CO,vC] (rJ [CU,CP,RW]):=⟨⟨vY,⟨wJ,⟨sW,⟨E8,⟨vQ,trivial⟩⟩⟩⟩⟩,aM2.Γ,rM⟩
def aM4:rT prog aFz:=by
 refine sB a7v func29 (c:=_) rfl (N:=55) qD (ts:=[(2,none),(3,none),(4,none)]) rfl (fun _ _=>rfl) ?_;intro O hs hrow;dsimp only[a7s,a7t,a7u,rY,r8,rG,rN,rZ,Nat.reduceAdd] at hs hrow|-;have hz:=hs;obtain⟨z0,e⟩:=aSs.1 hz
 try rw[sG e]
 clear hz hs;unfold JL at e;refine qK a7v ?_;refine qK vS ?_;refine qZ (qK vS ?_);refine sJ (zB 160 (160,(166,0),(167,0)) (x2:=((([]:pM),(([]:pN),(([]:List r5),(([]:List t7),())))),((0:Int),((([]:pM),(([]:pM),(([]:pM),((some (166,0)),(([]:pN),((0:Int),((some (167,0)),()))))))),(none,((some 96),((0,160,(166,0),(167,0)),(([]:pW),())))))))) rfl qG ?_)
 have hy1:=e;refine vP hy1 (fun x=>match x with| .inl x=>⟨[(0,.val .str O,none),(5,.val .ref (some (0,0)),none),(6,.val (.int .i64) x,none)],[(0,.cells sN ((([]:pM),(([]:pN),(([]:List r5),(([]:List t7),())))),((0:Int),((([]:pM),(([]:pM),(([]:pM),((some (1,0)),(([]:pN),((0:Int),((some (2,0)),()))))))),(none,((some 3),((0,0,(1,0),(2,0)),(([]:pW),()))))))) [(3,4),(15,5)]),(1,.row 9 .str ([]:pN) 0),(2,.row 110 rW ([]:List r5) 0),(3,.map .str .bool ([]:pU)),(4,.grow 45 7 (([]:List t7).length)),(5,.grow 3 1 (([]:pW).length))],6,55,0⟩ | .inr x=>⟨[(0,.val .str O,none),(5,.val .ref (some (0,0)),none),(6,.val (.int .i64) x.1,none)],[(0,.cells sN ((x.2.1,(x.2.2.1,(x.2.2.2.1,(x.2.2.2.2.1,())))),(x.2.2.2.2.2.1,((x.2.2.2.2.2.2.1,(x.2.2.2.2.2.2.2.1,(x.2.2.2.2.2.2.2.2.1,((some (1,x.2.2.2.2.2.2.2.2.2.2.2.2.2.2.1)),(x.2.2.2.2.2.2.2.2.2.1,(x.2.2.2.2.2.2.2.2.2.2.1,((some (2,x.2.2.2.2.2.2.2.2.2.2.2.2.2.2.2.2.1)),()))))))),((some 3),((some 4),((x.2.2.2.2.2.2.2.2.2.2.2.1,0,(1,x.2.2.2.2.2.2.2.2.2.2.2.2.2.2.1),(2,x.2.2.2.2.2.2.2.2.2.2.2.2.2.2.2.2.1)),(x.2.2.2.2.2.2.2.2.2.2.2.2.1,()))))))) [(3,5),(15,6)]),(1,s8 9 .str x.2.2.2.2.2.2.2.2.2.2.2.2.2.1 x.2.2.2.2.2.2.2.2.2.2.2.2.2.2.1),(2,s8 110 rW x.2.2.2.2.2.2.2.2.2.2.2.2.2.2.2.1 x.2.2.2.2.2.2.2.2.2.2.2.2.2.2.2.2.1),(3,.map .str .bool x.2.2.2.2.2.2.2.2.2.2.2.2.2.2.2.2.2.1),(4,.map .str .bool x.2.2.2.2.2.2.2.2.2.2.2.2.2.2.2.2.2.2),(5,.grow 45 7 (x.2.2.2.2.1.length)),(6,.grow 3 1 (x.2.2.2.2.2.2.2.2.2.2.2.2.1.length))],7,55,0⟩) ⟨[0,5,6],[(0,160),(1,166),(2,167),(3,96),(4,163),(5,165)]⟩ qG ?_
 intro x1 w1 n1 d f;rcases x1 with x1|x1
 .obtain⟨Z,hvx⟩: ∃v,v=x1:=⟨_,rfl⟩;subst hvx;unfold AA at d;dsimp only at d|-;refine qZ (qK vS ?_);refine r7 d ?_ ?_<;>intro d Y
  .refine rD (qU (sJ ?_));obtain⟨X,d⟩:=qR d;obtain⟨aA,hv2,hw2,d⟩:=rU d
   try simp only[go_sem] at hw2
   refine qK vS ?_ (hp:=by exact⟨X,(rS hv2)⟩) (h:=by simp only[go_sem,hw2];rfl);obtain⟨W,V,d⟩:=pL d;refine qK vS ?_ (hp:=by exact⟨W,V⟩);refine qZ ?_;obtain⟨aB,hv5,hw5,d⟩:=rU d
   try simp only[go_sem] at hw5
   refine qK vS ?_ (hp:=by exact(rS hv5)) (h:=by simp only[go_sem,hw5];rfl);refine r7 d ?_ ?_<;>intro d Y
   .refine qZ ?_;by_cases hva3:((zF (([]:pM),(([]:pN),(([]:List r5),(([]:List t7),())))) (0:Int) ([]:pM) ([]:pM) ([]:pM) ([]:pN) (0:Int) (([]:pW),()) aA.1 (min (O.length:Int) ((Z+(aA.1.length:Int))+(1:Int))) (some ([]:pN)) 0 (some ([]:List r5)) 0 ([]:pU))).isSome=true
    .rw[aSn hva3] at d;obtain⟨aC,hv6,hw6,d⟩:=rU d
     try simp only[go_sem] at hw6
     refine rQ aM1 ?_ (hp:=by exact⟨qC,qC,qC,qC,qC,qC,qC,qC,qC,qC,(rS hv6)⟩) (h:=by simp only[go_sem,hw6];rfl)
     refine qU (qK vS ?_);refine r7 d ?_ ?_<;>intro d Y
     .refine qK vS ?_;refine qV (rF (sD (xE (sD (rF ?_)))));cases d;have e:=aSM some (show _=_ from f);cases e;exact pP []
     refine rD (qU (rQ vS ?_));refine sI ?_;cases d;exact tP ⟨⟨[0,5,6],[(0,0),(1,972),(2,973),(3,974),(4,3),(5,4),(6,5)]⟩,_,qG,f⟩
    rw[aSo hva3] at d;obtain⟨aD,hv7,hw7,d⟩:=rU d
    try simp only[go_sem] at hw7
    refine rQ aM3 ?_ (hp:=by exact⟨qC,qC,qC,qC,qC,qC,qC,qC,qC,qC,qC,(rS hv7)⟩) (h:=by simp only[go_sem,hw7];rfl)
    refine qU (qK vS ?_);refine r7 d ?_ ?_<;>intro d Y
    .refine qK vS ?_;refine qV (rF (sD (xE (sD (rF ?_)))));cases d;have e:=aSM some (show _=_ from f);cases e;exact pP []
    refine rD (qU (rQ vS ?_));refine sI ?_;cases d;exact tP ⟨⟨[0,5,6],[(0,0),(1,1),(2,2),(3,3),(4,4),(5,5)]⟩,_,qG,f⟩
   refine rD (qU (rQ vS ?_));refine sI ?_;cases d;exact tP ⟨⟨[0,5,6],[(0,0),(1,1),(2,2),(3,3),(4,4),(5,5)]⟩,_,qG,f⟩
  refine v8 (v6 (vA (v7 (qU (qZ ?_)))));refine qK vS ?_;refine r7 d ?_ ?_<;>intro d Y
  .refine qK vS ?_;refine qV (rF ?_);cases d;have e:=aSM some (show _=_ from f);cases e;exact pP []
  refine rD (qU (qZ (rQ vS ?_)));cases d
 obtain⟨aE,aF,aG,aH,aI,aJ,aK,aL,aM,aN,aO,aP,aQ,aR,aS,aT,aU,aV,aW⟩:=x1;unfold AA at d;dsimp only at d|-;refine qZ (qK vS ?_);refine r7 d ?_ ?_<;>intro d Y
 .refine rD (qU (sJ ?_));obtain⟨U,d⟩:=qR d;obtain⟨aX,hv9,hw9,d⟩:=rU d
  try simp only[go_sem] at hw9
  refine qK vS ?_ (hp:=by exact⟨U,(rS hv9)⟩) (h:=by simp only[go_sem,hw9];rfl);obtain⟨T,S,d⟩:=pL d;refine qK vS ?_ (hp:=by exact⟨T,S⟩);refine qZ ?_;obtain⟨aY,hv12,hw12,d⟩:=rU d
  try simp only[go_sem] at hw12
  refine qK vS ?_ (hp:=by exact(rS hv12)) (h:=by simp only[go_sem,hw12];rfl);refine r7 d ?_ ?_<;>intro d Y
  .obtain⟨aZ,hv13,hw13,d⟩:=rU d
   try simp only[go_sem] at hw13
   refine qK vS ?_ (hp:=by exact⟨qC,qC,qC,qC,qC,qC,(rS hv13)⟩) (h:=by simp only[go_sem,hw13];rfl)
   refine qK vS ?_;refine r7 d ?_ ?_<;>intro d Y
   .refine qK vS ?_;refine qV (rF (sD (xE (sD (rF ?_)))));cases d;have e:=aSM some (show _=_ from f);cases e;exact pP []
   refine rD (qU (rQ vS ?_));refine sI ?_;cases d;exact tP ⟨⟨[0,5,6],[(0,0),(1,974),(2,975),(3,976),(4,4),(5,5),(6,6)]⟩,_,qG,f⟩
  refine rD (qU (rQ vS ?_));refine sI ?_;cases d;exact tP ⟨⟨[0,5,6],[(0,0),(1,1),(2,2),(3,3),(4,4),(5,5),(6,6)]⟩,_,qG,f⟩
 refine v8 (v6 (vA (v7 (qU (qZ ?_)))));refine qK vS ?_;refine r7 d ?_ ?_<;>intro d Y
 .refine qK vS ?_;refine qV (rF ?_);cases d;have e:=aSM some (show _=_ from f);cases e;exact pP []
 refine rD (qU (qZ (rQ vS ?_)));cases d
attribute [irreducible] JL
end
noncomputable section
def AB (O:pM):Option (pM×pN×(List r5)×(List t7)×Int×Int):=if ((uI O)).isSome=true then (uI O).bind fun Z=>if (!decide ((0:Int)=(0:Int)))=true then some ((([]:pM),([]:pN),([]:List r5),([]:List t7),(0:Int),(0:Int))) else some ((Z.1,Z.2.1,Z.2.2.1,Z.2.2.2.1,(0:Int),(0:Int))) else (JL O).bind fun aA=>if (!decide (aA.2=(0:Int)))=true then some ((([]:pM),([]:pN),([]:List r5),([]:List t7),aA.1,aA.2)) else none
section
variable (O:pM)
abbrev a7w:List qM:=[(.val .str O,none)]
abbrev a7x:List qJ:=[]
@[go_sem] def a7y:qY:=⟨[((AB O)).isSome=true],[(.val LI ((val (AB O)).1,((val (AB O)).2.1,((val (AB O)).2.2.1,((val (AB O)).2.2.2.1,())))),none),(.val (.int .i64) ((val (AB O)).2.2.2.2.1),none),(.val (.int .i64) ((val (AB O)).2.2.2.2.2),none)],[]⟩
def aFA:List qM→List qJ→Option qY:=s5 (V:=pM) (a7w) (fun x=>a7x) fun x=>a7y x
@[go_sem] def aSk:aFA (no_index (a7w O)) (no_index a7x)=some (a7y O):=sA (fun a0 b0 h1 h2=>by cases h1;cases h2;rfl) O
end
@[go_sem] abbrev a7z:Nat×rK:=(11,⟨[.v],aFA,[],[],none⟩)
def ON:rI prog [CM] (rJ [a7q]):=⟨⟨E6,trivial⟩,qW aMZ rX,rM⟩
def a7A:rI prog [CM,vC] (rJ [a7q]):=⟨⟨E6,⟨vQ,trivial⟩⟩,ON.Γ,rM⟩
def aM5:rI prog [CM] (rJ [aFz]):=⟨⟨E6,trivial⟩,qW aM4 rX,rM⟩
def aFB:rT prog a7z:=by
 refine sB ON func11 (c:=_) rfl (N:=23) qD (ts:=[(2,some 27),(3,none),(4,none)]) rfl (fun _ _=>rfl) ?_;intro O hs hrow;dsimp only[a7w,a7x,a7y,rY,r8,rG,rN,rZ,Nat.reduceAdd] at hs hrow|-;have hz:=hs;obtain⟨z0,e⟩:=aSs.1 hz
 try rw[sG e]
 clear hz hs;unfold AB at e;refine qK ON ?_;refine qZ ?_;by_cases hva1:((uI O)).isSome=true
 .rw[aSn hva1] at e;obtain⟨Z,hv1,hw1,e⟩:=rU e
  try simp only[go_sem] at hw1
  refine rQ ON ?_ (hp:=by exact(rS hv1)) (h:=by simp only[go_sem,hw1];rfl);refine qU (qZ (qK a7A ?_));refine r7 e ?_ ?_<;>intro e Y
  .refine qK a7A ?_;refine qV (rF ?_);cases e;exact pO []
  refine rD (qU (qK a7A ?_));refine qV ?_;cases e;exact pO []
 rw[aSo hva1] at e;obtain⟨aA,hv2,hw2,e⟩:=rU e
 try simp only[go_sem] at hw2
 refine rQ aM5 ?_ (hp:=by exact(rS hv2)) (h:=by simp only[go_sem,hw2];rfl);refine qU (qZ (qK ON ?_));refine r7 e ?_ ?_<;>intro e Y
 .refine qK ON ?_;refine qV (rF ?_);cases e;exact pO []
 cases e
def OO:Option Bool:=(AB ([99,97,116,97,108,111,103,32,34,100,101,34,10,99,111,109,109,101,110,116,32,34,97,98,34,10,34,99,100,34,10,101,110,100,10,10,101,110,116,114,121,32,34,97,34,10,101,110,100]:pM)).bind fun O=>if (((((decide (O.2.2.2.2.2=(0:Int)))&&(decide (O.1=([100,101]:pM))))&&(decide ((O.2.1.length:Int)=(1:Int))))==true)=true→0≤(0:Int)∧(0:Int)<(O.2.1.length:Int)) then if (((((((decide (O.2.2.2.2.2=(0:Int)))&&(decide (O.1=([100,101]:pM))))&&(decide ((O.2.1.length:Int)=(1:Int))))&&(decide ((qT .str O.2.1 (0:Int))=([97,98,99,100]:pM))))&&(decide ((O.2.2.2.1.length:Int)=(1:Int))))==true)=true→0≤(0:Int)∧(0:Int)<(O.2.2.2.1.length:Int)) then some (((((((decide (O.2.2.2.2.2=(0:Int)))&&(decide (O.1=([100,101]:pM))))&&(decide ((O.2.1.length:Int)=(1:Int))))&&(decide ((qT .str O.2.1 (0:Int))=([97,98,99,100]:pM))))&&(decide ((O.2.2.2.1.length:Int)=(1:Int))))&&(decide ((qT vB O.2.2.2.1 (0:Int)).1=([97]:pM))))) else none else none
section
abbrev a7B:List qM:=[]
abbrev a7C:List qJ:=[]
@[go_sem] def a7D:qY:=⟨[(OO).isSome=true],[(.val .bool (val OO),none)],[]⟩
def aFC:List qM→List qJ→Option qY:=s5 (V:=Unit) (fun x=>a7B) (fun x=>a7C) fun x=>a7D
@[go_sem] def aSl:aFC (no_index a7B) (no_index a7C)=some a7D:=sA (fun _ _ h1 h2=>by cases h1;cases h2;rfl) ()
end
@[go_sem] abbrev aFD:Nat×rK:=(10,⟨[],aFC,[],[],none⟩)
def XJ:rI prog [sT,AU,FE,CM,IY] (rJ [a7z]):=⟨⟨sW,⟨CL,⟨IX,⟨E6,⟨NX,trivial⟩⟩⟩⟩⟩,qW aFB rX,rM⟩
def aM6:rT prog aFD:=by
 refine sB XJ func10 (c:=_) rfl (N:=43) qD (ts:=[(0,none)]) rfl (fun _ _=>rfl) ?_;intro⟨⟩ hs hrow;dsimp only[a7B,a7C,a7D,rY,r8,rG,rN,rZ,Nat.reduceAdd] at hs hrow|-;have hz:=hs;obtain⟨z0,e⟩:=aSs.1 hz
 try rw[sG e]
 clear hz hs;unfold OO at e;refine qK XJ ?_;obtain⟨O,hv1,hw1,e⟩:=rU e
 try simp only[go_sem] at hw1
 refine qK XJ ?_ (hp:=by exact(rS hv1)) (h:=by simp only[go_sem,hw1];rfl);obtain⟨Y,X,e⟩:=pL e;refine qK XJ ?_ (hp:=by exact⟨id,id,tA,id,id,id,tA,id,id,Y,id,id,tA,id,id,id,tA,id,id,X,id,id,id,tA⟩);refine qV ?_;cases e;exact pO []
attribute [irreducible] AB OO
end
noncomputable section
def JM (O:pM) (Z:Int) (aA:Bool):Option Bool:=OO.bind fun aB=>if (!aB)=true then some (false) else if qP ((O.length:Int)+(1:Int)) then if ((O.length:Int)+(1:Int))≠0 then (EI O).bind fun aC=>if (((!((decide ((O.length:Int)≤(4000:Int)))&&(val (yT O))))==false)=true→0≤(0:Int)∧(0:Int)≤(Int.tmod (IntKind.wrap .i64 Z) ((O.length:Int)+(1:Int)))∧(Int.tmod (IntKind.wrap .i64 Z) ((O.length:Int)+(1:Int)))≤(O.length:Int)) then if (((!((decide ((O.length:Int)≤(4000:Int)))&&(val (yT O))))==false)=true→((EI (rV O (0:Int) (Int.tmod (IntKind.wrap .i64 Z) ((O.length:Int)+(1:Int)))))).isSome=true) then if ((((!((decide ((O.length:Int)≤(4000:Int)))&&(val (yT O))))||(!((decide (((rV O (0:Int) (Int.tmod (IntKind.wrap .i64 Z) ((O.length:Int)+(1:Int)))).length:Int)≤(4000:Int)))&&(val (yT (rV O (0:Int) (Int.tmod (IntKind.wrap .i64 Z) ((O.length:Int)+(1:Int)))))))))==false)=true→0≤(Int.tmod (IntKind.wrap .i64 Z) ((O.length:Int)+(1:Int)))∧(Int.tmod (IntKind.wrap .i64 Z) ((O.length:Int)+(1:Int)))≤(O.length:Int)∧(O.length:Int)≤(O.length:Int)) then if ((((!((decide ((O.length:Int)≤(4000:Int)))&&(val (yT O))))||(!((decide (((rV O (0:Int) (Int.tmod (IntKind.wrap .i64 Z) ((O.length:Int)+(1:Int)))).length:Int)≤(4000:Int)))&&(val (yT (rV O (0:Int) (Int.tmod (IntKind.wrap .i64 Z) ((O.length:Int)+(1:Int)))))))))==false)=true→((EI (rV O (Int.tmod (IntKind.wrap .i64 Z) ((O.length:Int)+(1:Int))) (O.length:Int)))).isSome=true) then if (((!((decide ((O.length:Int)≤(4000:Int)))&&(val (yT O))))||(!((decide (((rV O (0:Int) (Int.tmod (IntKind.wrap .i64 Z) ((O.length:Int)+(1:Int)))).length:Int)≤(4000:Int)))&&(val (yT (rV O (0:Int) (Int.tmod (IntKind.wrap .i64 Z) ((O.length:Int)+(1:Int)))))))))||(!((decide (((rV O (Int.tmod (IntKind.wrap .i64 Z) ((O.length:Int)+(1:Int))) (O.length:Int)).length:Int)≤(4000:Int)))&&(val (yT (rV O (Int.tmod (IntKind.wrap .i64 Z) ((O.length:Int)+(1:Int))) (O.length:Int)))))))=true then some (true) else if 0≤(0:Int)∧(0:Int)≤(Int.tmod (IntKind.wrap .i64 Z) ((O.length:Int)+(1:Int)))∧(Int.tmod (IntKind.wrap .i64 Z) ((O.length:Int)+(1:Int)))≤(O.length:Int) then (EK (([120]:pM),(([]:pN),(([]:List r5),(([(([97]:pM),(([]:pM),(([]:pM),(([(rV O (0:Int) (Int.tmod (IntKind.wrap .i64 Z) ((O.length:Int)+(1:Int))))]:pN),(([]:pN),((0:Int),(([]:List r5),())))))))]:List t7),()))))).bind fun aD=>if 0≤(Int.tmod (IntKind.wrap .i64 Z) ((O.length:Int)+(1:Int)))∧(Int.tmod (IntKind.wrap .i64 Z) ((O.length:Int)+(1:Int)))≤(O.length:Int)∧(O.length:Int)≤(O.length:Int) then (EK (([120]:pM),(([]:pN),(([]:List r5),(([(([97]:pM),(([]:pM),(([]:pM),(([(rV O (Int.tmod (IntKind.wrap .i64 Z) ((O.length:Int)+(1:Int))) (O.length:Int))]:pN),(([]:pN),((0:Int),(([]:List r5),())))))))]:List t7),()))))).bind fun aE=>if ((((((!decide (aD.2.2=(0:Int)))||(!decide (aE.2.2=(0:Int))))||(!decide ((aD.2.1.length:Int)=(1:Int))))||(!decide ((aE.2.1.length:Int)=(1:Int))))==false)=true→0≤(0:Int)∧(0:Int)<(aD.2.1.length:Int)) then if (((((((!decide (aD.2.2=(0:Int)))||(!decide (aE.2.2=(0:Int))))||(!decide ((aD.2.1.length:Int)=(1:Int))))||(!decide ((aE.2.1.length:Int)=(1:Int))))||(decide (((qT .str aD.2.1 (0:Int)).length:Int)<(4:Int))))==false)=true→0≤(0:Int)∧(0:Int)<(aE.2.1.length:Int)) then if ((((((((!decide (aD.2.2=(0:Int)))||(!decide (aE.2.2=(0:Int))))||(!decide ((aD.2.1.length:Int)=(1:Int))))||(!decide ((aE.2.1.length:Int)=(1:Int))))||(decide (((qT .str aD.2.1 (0:Int)).length:Int)<(4:Int))))||(decide (((qT .str aE.2.1 (0:Int)).length:Int)<(21:Int))))==false)=true→0≤(0:Int)∧(0:Int)<(aE.2.1.length:Int)) then if ((((((((!decide (aD.2.2=(0:Int)))||(!decide (aE.2.2=(0:Int))))||(!decide ((aD.2.1.length:Int)=(1:Int))))||(!decide ((aE.2.1.length:Int)=(1:Int))))||(decide (((qT .str aD.2.1 (0:Int)).length:Int)<(4:Int))))||(decide (((qT .str aE.2.1 (0:Int)).length:Int)<(21:Int))))==false)=true→0≤(0:Int)∧(0:Int)≤(21:Int)∧(21:Int)≤((qT .str aE.2.1 (0:Int)).length:Int)) then if (((((((!decide (aD.2.2=(0:Int)))||(!decide (aE.2.2=(0:Int))))||(!decide ((aD.2.1.length:Int)=(1:Int))))||(!decide ((aE.2.1.length:Int)=(1:Int))))||(decide (((qT .str aD.2.1 (0:Int)).length:Int)<(4:Int))))||(decide (((qT .str aE.2.1 (0:Int)).length:Int)<(21:Int))))||(!decide ((rV (qT .str aE.2.1 (0:Int)) (0:Int) (21:Int))=([10,101,110,116,114,121,32,34,97,34,10,32,32,99,111,109,109,101,110,116,32]:pM))))=true then some (false) else uA (σ:=pM) (if aA=true then some (([32,35,32,110,111,116,101,10,10]:pM)) else some (([]:pM)) ) fun aF=>if 0≤(0:Int)∧(0:Int)<(aD.2.1.length:Int) then if 0≤(0:Int)∧(0:Int)<(aD.2.1.length:Int) then if qP (((qT .str aD.2.1 (0:Int)).length:Int)- (4:Int)) then if 0≤(0:Int)∧(0:Int)≤(((qT .str aD.2.1 (0:Int)).length:Int)- (4:Int))∧(((qT .str aD.2.1 (0:Int)).length:Int)- (4:Int))≤((qT .str aD.2.1 (0:Int)).length:Int) then if ((aD.1++(rV (qT .str aD.2.1 (0:Int)) (0:Int) (((qT .str aD.2.1 (0:Int)).length:Int)- (4:Int)))).length:Int)≤9223372036854775807 then if (((aD.1++(rV (qT .str aD.2.1 (0:Int)) (0:Int) (((qT .str aD.2.1 (0:Int)).length:Int)- (4:Int))))++aF).length:Int)≤9223372036854775807 then if 0≤(0:Int)∧(0:Int)<(aE.2.1.length:Int) then if 0≤(21:Int)∧(21:Int)≤((qT .str aE.2.1 (0:Int)).length:Int)∧((qT .str aE.2.1 (0:Int)).length:Int)≤((qT .str aE.2.1 (0:Int)).length:Int) then if ((((aD.1++(rV (qT .str aD.2.1 (0:Int)) (0:Int) (((qT .str aD.2.1 (0:Int)).length:Int)- (4:Int))))++aF)++(rV (qT .str aE.2.1 (0:Int)) (21:Int) ((qT .str aE.2.1 (0:Int)).length:Int))).length:Int)≤9223372036854775807 then (AB (((aD.1++(rV (qT .str aD.2.1 (0:Int)) (0:Int) (((qT .str aD.2.1 (0:Int)).length:Int)- (4:Int))))++aF)++(rV (qT .str aE.2.1 (0:Int)) (21:Int) ((qT .str aE.2.1 (0:Int)).length:Int)))).bind fun aG=>if ((((decide (aG.2.2.2.2.2=(0:Int)))&&(decide ((aG.2.2.2.1.length:Int)=(1:Int))))==true)=true→0≤(0:Int)∧(0:Int)<(aG.2.2.2.1.length:Int)) then if (((((decide (aG.2.2.2.2.2=(0:Int)))&&(decide ((aG.2.2.2.1.length:Int)=(1:Int))))&&(decide ((((qT vB aG.2.2.2.1 (0:Int)).2.2.2.1).length:Int)=(1:Int))))==true)=true→0≤(0:Int)∧(0:Int)<(aG.2.2.2.1.length:Int)) then if (((((decide (aG.2.2.2.2.2=(0:Int)))&&(decide ((aG.2.2.2.1.length:Int)=(1:Int))))&&(decide ((((qT vB aG.2.2.2.1 (0:Int)).2.2.2.1).length:Int)=(1:Int))))==true)=true→0≤(0:Int)∧(0:Int)<(((qT vB aG.2.2.2.1 (0:Int)).2.2.2.1).length:Int)) then some (((((decide (aG.2.2.2.2.2=(0:Int)))&&(decide ((aG.2.2.2.1.length:Int)=(1:Int))))&&(decide ((((qT vB aG.2.2.2.1 (0:Int)).2.2.2.1).length:Int)=(1:Int))))&&(decide ((qT .str ((qT vB aG.2.2.2.1 (0:Int)).2.2.2.1) (0:Int))=O)))) else none else none else none else none else none else none else none else none else none else none else none else none else none else none else none else none else none else none else none else none else none else none else none else none
section
variable (O:pM) (Z:Int) (aA:Bool)
abbrev RX:List qM:=[(.val .str O,none),(.val (.int .u16) Z,none),(.val .bool aA,none)]
abbrev XK:List qJ:=[]
@[go_sem] def OP:qY:=⟨[((JM O Z aA)).isSome=true],[(.val .bool (val (JM O Z aA)),none)],[]⟩
def a7E:List qM→List qJ→Option qY:=s5 (V:=(pM×Int×Bool)) (fun x=>RX x.1 x.2.1 x.2.2) (fun x=>XK) fun x=>OP x.1 x.2.1 x.2.2
@[go_sem] def aM7:a7E (no_index (RX O Z aA)) (no_index XK)=some (OP O Z aA):=sA (fun⟨a0,a1,a2⟩ ⟨b0,b1,b2⟩ h1 h2=>by cases h1;cases h2;rfl) (O,Z,aA)
end
@[go_sem] abbrev aM8:Nat×rK:=(5,⟨[.v,.v,.v],a7E,[],[],none⟩)
def AC:rI prog [vL,sT,AU,FE,CM,WM,a2y,IY] (rJ [aFD,aEN,aFe,a7z]):=⟨⟨vY,⟨sW,⟨CL,⟨IX,⟨E6,⟨aCP,⟨aLP,⟨NX,trivial⟩⟩⟩⟩⟩⟩⟩⟩,qW aM6 (qW aMz (qW aMH (qW aFB rX))),rM⟩
def aM9:rT prog aM8:=by
 refine sB AC func5 (c:=_) rfl (N:=161) qD (ts:=[(6,none)]) rfl (fun _ _=>rfl) ?_;intro⟨O,Z,aA⟩ hs hrow;dsimp only[RX,XK,OP,rY,r8,rG,rN,rZ,Nat.reduceAdd] at hs hrow|-;have hz:=hs;obtain⟨z0,e⟩:=aSs.1 hz
 try rw[sG e]
 clear hz hs;unfold JM at e;refine qK AC ?_;refine qZ ?_;obtain⟨aB,hv1,hw1,e⟩:=rU e
 try simp only[go_sem] at hw1
 refine qK AC ?_ (hp:=by exact(rS hv1)) (h:=by simp only[go_sem,hw1];rfl);refine r7 e ?_ ?_<;>intro e Y
 .refine qK AC ?_;refine qV (rF ?_);cases e;exact pO []
 refine rD (qU ?_);obtain⟨X,W,e⟩:=pL e;refine qK AC ?_ (hp:=by exact⟨X,W⟩);refine qZ ?_;obtain⟨aC,hv4,hw4,e⟩:=rU e
 try simp only[go_sem] at hw4
 obtain⟨V,U,e⟩:=pL e;obtain⟨T,S,e⟩:=pL e;refine qK AC ?_ (hp:=by exact⟨rS hv4,id,id,V,id,U,id,tG,id,id,T,id,S,id,tG⟩) (h:=by simp only[go_sem,hw4];rfl);refine r7 e ?_ ?_<;>intro e Y
 .refine qK AC ?_;refine qV (rF ?_);cases e;exact pO []
 refine rD (qU ?_);obtain⟨R,e⟩:=qR e;obtain⟨aD,hv10,hw10,e⟩:=rU e
 try simp only[go_sem] at hw10
 refine qK AC ?_ (hp:=by exact⟨R,(rS hv10)⟩) (h:=by simp only[go_sem,hw10];rfl);obtain⟨Q,e⟩:=qR e;obtain⟨aE,hv12,hw12,e⟩:=rU e
 try simp only[go_sem] at hw12
 refine qK AC ?_ (hp:=by exact⟨Q,(rS hv12)⟩) (h:=by simp only[go_sem,hw12];rfl);refine qZ ?_;obtain⟨P,M,e⟩:=pL e;obtain⟨L,K,e⟩:=pL e;refine qK AC ?_ (hp:=by exact⟨id,tG,id,id,id,tG,id,id,id,tG,id,id,P,id,id,id,tG,id,id,M,id,id,id,tG,id,id,L,id,id,K,id,tG⟩);refine r7 e ?_ ?_<;>intro e Y
 .refine qK AC ?_;refine qV (rF ?_);cases e;exact pO []
 refine rD (qU (qK AC ?_));refine qZ (qK AC ?_);obtain⟨aF,f,e⟩:=rC e;refine CJ (fun s=>s=(fun x=>⟨[(0,.val .str O,none),(8,.val .ref (some (0,0)),none),(10,.val .ref (some (1,0)),none),(12,.val .str x,none)],[(0,.cells GV (aD.1,(aD.2.1,(([]:pM),()))) []),(1,.cells GV (aE.1,(aE.2.1,(([]:pM),()))) [])],2,161,0⟩) aF) ?_ ?_
 .refine r7 f ?_ ?_<;>intro f Y
  .refine rQ AC ?_;cases f;exact vI ⟨⟨[0,8,10,12],[(0,1216),(1,1664)]⟩,by rfl⟩
  refine rD ?_;cases f;exact vI ⟨⟨[0,8,10,12],[(0,1216),(1,1664)]⟩,by rfl⟩
 rintro _ rfl;dsimp only at e|-;refine qU ?_;obtain⟨J,I,e⟩:=pL e;obtain⟨H,G,e⟩:=pL e;obtain⟨F,E,e⟩:=pL e;obtain⟨D,C,e⟩:=pL e;obtain⟨B,e⟩:=qR e;obtain⟨aG,hv26,hw26,e⟩:=rU e
 try simp only[go_sem] at hw26
 refine zV AC ?_ (hp:=by exact⟨J,I,H,G,F,E,D,C,B,(rS hv26)⟩) (h:=by simp only[go_sem,hw26];rfl);obtain⟨A,z,e⟩:=pL e;obtain⟨y,e⟩:=qR e;refine qK AC ?_ (hp:=by exact⟨id,id,id,tA,id,id,A,id,id,id,id,tA,id,id,z,id,id,id,y,id,id,id,tA⟩);refine qV ?_;cases e;exact pO []
attribute [irreducible] JM
end
end Go.Proofs.YtcpbaddnmpeipaaGreatDoor
namespace Go.Proofs.YtcpbaddnmpeipaaGreatDoor
open Vc
end Go.Proofs.YtcpbaddnmpeipaaGreatDoor
section
end
