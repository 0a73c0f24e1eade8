/- Packed by a program of mine (wip/tools/pack.py): the same texts with short names and few blanks. -/
import Derived.KernelRfl
import Derived.Laws.BitsLemmas
import Derived.Lib.Index
import Derived.Lib.IndexAny
import Derived.Lib.MapLaws
import Derived.Lib.TrimAscii
import Derived.Lib.TrimUEq
import Derived.Lib.ValidLaws
import Derived.Sort.Walk0
import Derived.Test.YtcpbaddnmpeipaaGreatDoorY03
set_option linter.defProp false
set_option linter.unusedVariables false
set_option linter.unusedSimpArgs false
set_option linter.unusedSectionVars false
set_option maxRecDepth 100000
set_option maxHeartbeats 4000000
namespace Go.Proofs.YtcpbaddnmpeipaaGreatDoor
open Vc
open Tryz
noncomputable section
def OT (O:pM):Option (pM×Int):=if (decide ((vK O (59:Int))<(0:Int)))=true then some ((([]:pM),(0:Int))) else if 0≤(1:Int)∧(1:Int)≤(vK O (59:Int))∧(vK O (59:Int))≤(O.length:Int) then if (decide ((s7 O (1:Int) (vK O (59:Int)))=([97,109,112]:pM)))=true then if qP ((vK O (59:Int))+(1:Int)) then some ((([38]:pM),((vK O (59:Int))+(1:Int)))) else none else if (decide ((s7 O (1:Int) (vK O (59:Int)))=([108,116]:pM)))=true then if qP ((vK O (59:Int))+(1:Int)) then some ((([60]:pM),((vK O (59:Int))+(1:Int)))) else none else if (decide ((s7 O (1:Int) (vK O (59:Int)))=([103,116]:pM)))=true then if qP ((vK O (59:Int))+(1:Int)) then some ((([62]:pM),((vK O (59:Int))+(1:Int)))) else none else if (decide ((s7 O (1:Int) (vK O (59:Int)))=([113,117,111,116]:pM)))=true then if qP ((vK O (59:Int))+(1:Int)) then some ((([34]:pM),((vK O (59:Int))+(1:Int)))) else none else if (decide ((s7 O (1:Int) (vK O (59:Int)))=([97,112,111,115]:pM)))=true then if qP ((vK O (59:Int))+(1:Int)) then some ((([39]:pM),((vK O (59:Int))+(1:Int)))) else none else (MH (s7 O (1:Int) (vK O (59:Int))) ([35]:pM)).bind fun Z=>if (!Z.2)=true then some ((([]:pM),(0:Int))) else (MH Z.1 ([120]:pM)).bind fun aA=>uM (σ:=(pM×Int×Int)) (if aA.2=true then some ((aA.1,(16:Int),(6:Int))) else some ((Z.1,(10:Int),(7:Int))) ) fun(aB,aC,aD)=>(FS aB aC).bind fun aE=>if ((!aE.2)||(decide (aD<(aB.length:Int))))=true then some ((([]:pM),(0:Int))) else (JY aE.1).bind fun aF=>if (!((decide (aE.1≤(1114111:Int)))&&((decide (aE.1<(55296:Int)))||(decide ((57343:Int)<aE.1)))))=true then some ((([]:pM),(0:Int))) else if qP ((vK O (59:Int))+(1:Int)) then some ((aF,((vK O (59:Int))+(1:Int)))) else none else none
section
variable (O:pM)
abbrev a7q:List qM:=[(.val .str O,none)]
abbrev a7r:List qJ:=[]
@[go_sem] def a7s:qW:=⟨[((OT O)).isSome=true],[(.val .str ((val (OT O)).1),none),(.val (.int .i64) ((val (OT O)).2),none)],[]⟩
def aFI:List qM→List qJ→Option qW:=s5 (V:=pM) (a7q) (fun x=>a7r) fun x=>a7s x
@[go_sem] def aTe:aFI (no_index (a7q O)) (no_index a7r)=some (a7s O):=sA (fun a0 b0 h1 h2=>by cases h1;cases h2;rfl) O
end
@[go_sem] abbrev aFJ:Nat×rL:=(181,⟨[.v],aFI,[],[],none⟩)
def v7:rG prog [sR] (rH [LT,aES,a4i,a7f]):=⟨⟨sU,trivial⟩,qU QZ (qU aNi (qU aD5 (qU aFB rX))),rM⟩
def aNz:rU prog aFJ:=by
 refine sB v7 func181 (c:=_) rfl (N:=80) qD (ts:=[(2,none),(3,none)]) rfl (fun _ _=>rfl) ?_;intro O hs hrow;dsimp only[a7q,a7r,a7s,rY,r5,rE,rO,rZ,Nat.reduceAdd] at hs hrow|-;have hz:=hs;obtain⟨z0,d⟩:=aTw.1 hz
 try rw[sG d]
 clear hz hs;unfold OT at d;refine qK v7 ?_;refine qK v7 ?_;refine qZ (qK v7 ?_);refine r8 d ?_ ?_<;>intro d Y
 .refine qK v7 ?_;refine qY (rI ?_);cases d;exact pO []
 refine rD (qT ?_);obtain⟨X,d⟩:=qR d;refine qK v7 ?_ (hp:=by exact X);refine qZ (qK v7 ?_);refine sJ (qK v7 ?_);refine r8 d ?_ ?_<;>intro d Y
 .obtain⟨W,d⟩:=qR d;refine qK v7 ?_ (hp:=by exact W);refine qY (sH (rI ?_));cases d;exact pO []
 refine qK v7 ?_;refine r8 d ?_ ?_<;>intro d Y
 .obtain⟨V,d⟩:=qR d;refine qK v7 ?_ (hp:=by exact V);refine qY (sH (rI ?_));cases d;exact pO []
 refine qK v7 ?_;refine r8 d ?_ ?_<;>intro d Y
 .obtain⟨U,d⟩:=qR d;refine qK v7 ?_ (hp:=by exact U);refine qY (sH (rI ?_));cases d;exact pO []
 refine qK v7 ?_;refine r8 d ?_ ?_<;>intro d Y
 .obtain⟨T,d⟩:=qR d;refine qK v7 ?_ (hp:=by exact T);refine qY (sH (rI ?_));cases d;exact pO []
 refine qK v7 ?_;refine r8 d ?_ ?_<;>intro d Y
 .obtain⟨S,d⟩:=qR d;refine qK v7 ?_ (hp:=by exact S);refine qY (sH (rI ?_));cases d;exact pO []
 refine rD (sM (qT ?_));obtain⟨Z,hv7,hw7,d⟩:=rS d
 try simp only[go_sem] at hw7
 refine qK v7 ?_ (hp:=by exact(rR hv7)) (h:=by simp only[go_sem,hw7];rfl);refine qZ (qK v7 ?_);refine r8 d ?_ ?_<;>intro d Y
 .refine qK v7 ?_;refine qY (rI ?_);cases d;exact pO []
 refine rD (qT (qK v7 ?_));refine qZ ?_;obtain⟨aA,hv8,hw8,d⟩:=rS d
 try simp only[go_sem] at hw8
 refine qK v7 ?_ (hp:=by exact(rR hv8)) (h:=by simp only[go_sem,hw8];rfl);refine qK v7 ?_;obtain⟨y1,e,d⟩:=r9 d;refine EG (fun s=>s=(fun x=>⟨[(4,.val (.int .i64) (vK O (59:Int)),none),(6,.val .str x.1,none),(8,.val (.int .i64) x.2.1,none),(9,.val (.int .i64) x.2.2,none)],[],0,80,0⟩) y1) ?_ ?_
 .refine r8 e ?_ ?_<;>intro e Y
  .refine rV v7 ?_;cases e;exact wL ⟨⟨[4,6,8,9],[]⟩,by rfl⟩
  refine rD ?_;cases e;exact wL ⟨⟨[4,6,8,9],[]⟩,by rfl⟩
 rintro _ rfl;obtain⟨aB,aC,aD⟩:=y1;dsimp only at d|-;refine qT ?_;obtain⟨aE,hv9,hw9,d⟩:=rS d
 try simp only[go_sem] at hw9
 refine qK v7 ?_ (hp:=by exact(rR hv9)) (h:=by simp only[go_sem,hw9];rfl);refine qZ (qK v7 ?_ (hp:=by exact⟨id,id,id,tX⟩));refine r8 d ?_ ?_<;>intro d Y
 .refine qK v7 ?_;refine qY (rI ?_);cases d;exact pO []
 refine rD (qT ?_);obtain⟨aF,hv10,hw10,d⟩:=rS d
 try simp only[go_sem] at hw10
 refine qK v7 ?_ (hp:=by exact(rR hv10)) (h:=by simp only[go_sem,hw10];rfl);refine qZ (qK v7 ?_);refine r8 d ?_ ?_<;>intro d Y
 .refine qK v7 ?_;refine qY (rI ?_);cases d;exact pO []
 refine rD (qT ?_);obtain⟨R,d⟩:=qR d;refine qK v7 ?_ (hp:=by exact R);refine qY ?_;cases d;exact pO []
def aFK (O:Int) (Z:pM):(Int×pW)→Option ((Int×pW)⊕(pW⊕(pM×Int×Int))):=fun(aA,aB)=>if (decide (aA<(Z.length:Int)))=true then if 0≤aA∧aA<(Z.length:Int) then if (decide ((sX Z aA)=(38:Int)))=true then if 0≤aA∧aA≤(Z.length:Int)∧(Z.length:Int)≤(Z.length:Int) then (OT (s7 Z aA (Z.length:Int))).bind fun aC=>if (decide (aC.2=(0:Int)))=true then some (.inr (.inr ((([]:pM),aA,(3:Int))))) else (DQ (aB,()) aC.1).bind fun aD=>if qP (aA+aC.2) then some (.inl ((aA+aC.2),(aB++uI aC.1))) else none else none else if 0≤aA∧aA<(Z.length:Int) then if (M4 O (sX Z aA))=true then some (.inr (.inr ((([]:pM),aA,(3:Int))))) else if 0≤aA∧aA<(Z.length:Int) then (M5 (aB,()) (sX Z aA)).bind fun aE=>if qP (aA+(1:Int)) then some (.inl ((aA+(1:Int)),(aB++([(sX Z aA)]:pW)))) else none else none else none else none else some (.inr (.inl aB))
def OU (O:Int) (Z:pM):(Int×pW)→Option ((Int×pW)⊕(pW⊕(pM×Int×Int))):=fun(aA,aB)=>if (decide (aA<(Z.length:Int)))=true then if 0≤aA∧aA<(Z.length:Int) then if (decide ((sX Z aA)=(92:Int)))=true then if 0≤aA∧aA≤(Z.length:Int)∧(Z.length:Int)≤(Z.length:Int) then (I1 (s7 Z aA (Z.length:Int))).bind fun aC=>if (decide (aC.2=(0:Int)))=true then some (.inr (.inr ((([]:pM),aA,(3:Int))))) else (DQ (aB,()) aC.1).bind fun aD=>if qP (aA+aC.2) then some (.inl ((aA+aC.2),(aB++uI aC.1))) else none else none else if 0≤aA∧aA<(Z.length:Int) then if (M4 O (sX Z aA))=true then some (.inr (.inr ((([]:pM),aA,(3:Int))))) else if 0≤aA∧aA<(Z.length:Int) then (M5 (aB,()) (sX Z aA)).bind fun aE=>if qP (aA+(1:Int)) then some (.inl ((aA+(1:Int)),(aB++([(sX Z aA)]:pW)))) else none else none else none else none else some (.inr (.inl aB))
def I2 (O:Int) (Z:pM):Option (pM×Int×Int):=if (!((decide ((1:Int)≤O))&&(decide (O≤(4:Int)))))=true then some ((([]:pM),(0:Int),(1:Int))) else if (decide (O=(4:Int)))=true then uY (sF (aFK O Z) ((0:Int),([]:pW))) fun aA=>some (((uA aA),(0:Int),(0:Int))) else uY (sF (OU O Z) ((0:Int),([]:pW))) fun aB=>some (((uA aB),(0:Int),(0:Int)))
section
variable (O:Int) (Z:pM)
abbrev a7t:List qM:=[(.val (.int .i64) O,none),(.val .str Z,none)]
abbrev a7u:List qJ:=[]
@[go_sem] def a7v:qW:=⟨[((I2 O Z)).isSome=true],[(.val .str ((val (I2 O Z)).1),none),(.val (.int .i64) ((val (I2 O Z)).2.1),none),(.val (.int .i64) ((val (I2 O Z)).2.2),none)],[]⟩
def aFL:List qM→List qJ→Option qW:=s5 (V:=(Int×pM)) (fun x=>a7t x.1 x.2) (fun x=>a7u) fun x=>a7v x.1 x.2
@[go_sem] def aTf:aFL (no_index (a7t O Z)) (no_index a7u)=some (a7v O Z):=sA (fun⟨a0,a1⟩ ⟨b0,b1⟩ h1 h2=>by cases h1;cases h2;rfl) (O,Z)
end
@[go_sem] abbrev aFM:Nat×rL:=(149,⟨[.v,.v],aFL,[],[],none⟩)
def uJ:rG prog [sR,HC] (rH [X7,aFJ,X3,aD1,aD3,LU,aFH]):=⟨⟨sU,⟨LZ,trivial⟩⟩,qU a3v (qU aNz (qU a29 (qU aMW (qU aMX (qU R1 (qU aNy rX)))))),rM⟩
def aNA:rU prog aFM:=by
 refine sB uJ func149 (c:=_) rfl (N:=58) qD (ts:=[(4,none),(5,none),(6,none)]) rfl (fun _ _=>rfl) ?_;intro⟨O,Z⟩ hs hrow;dsimp only[a7t,a7u,a7v,rY,r5,rE,rO,rZ,Nat.reduceAdd] at hs hrow|-;have hz:=hs;obtain⟨z0,d⟩:=aTw.1 hz
 try rw[sG d]
 clear hz hs;unfold I2 at d;refine qK uJ ?_;refine qZ (qK uJ ?_);refine r8 d ?_ ?_<;>intro d Y
 .refine qK uJ ?_;refine qY (rI ?_);cases d;exact pO []
 refine rD (qT (qK uJ ?_));refine qZ (qK uJ ?_);refine r8 d ?_ ?_<;>intro d Y
 .refine rV uJ ?_;refine qT (qK uJ ?_);refine qZ (qK uJ ?_);refine sJ ?_;obtain⟨y1,hy1,d⟩:=zH d;refine wF 0 (fun s=> ∃v,y1= .inl v∧s=(fun x=>⟨[(9,.val .ref (some (0,0)),none)],[(0,.cells wM ((some (0,0)),(x,())) [(1,1)]),(1,.grow 5 1 (x.length))],2,58,0⟩) v) ?_ ?_
  .refine vY hy1 (fun x=>⟨[(0,.val (.int .i64) O,none),(1,.val .str Z,none),(7,.val (.int .u8) (38:Int),none),(8,.val .clo (some (181,[])),none),(9,.val .ref (some (0,0)),none),(10,.val (.int .i64) x.1,none)],[(0,.cells wM ((some (0,0)),(x.2,())) [(1,1)]),(1,.grow 5 1 (x.2.length))],2,58,0⟩) ⟨[0,1,7,8,9,10],[(0,384),(1,385)]⟩ qE ?_;intro x1 w1 n1 e f;obtain⟨aA,aB⟩:=x1;unfold aFK at e;dsimp only at e|-;refine qZ (qK uJ ?_);refine r8 e ?_ ?_<;>intro e Y
   .refine rD (qT (sJ (sJ ?_)));obtain⟨X,e⟩:=qR e;refine qK uJ ?_ (hp:=by exact X);refine r8 e ?_ ?_<;>intro e Y
    .obtain⟨W,e⟩:=qR e;obtain⟨aC,hv3,hw3,e⟩:=rS e
     try simp only[go_sem] at hw3
     refine qK uJ ?_ (hp:=by exact⟨W,(rR hv3)⟩) (h:=by simp only[go_sem,hw3];rfl);refine qZ (qK uJ ?_);refine r8 e ?_ ?_<;>intro e Y
     .refine qK uJ ?_;refine qY (rI (sH (sH (yA (zG (sH (rI ?_)))))));cases e;cases f;dsimp only at d;cases d;exact pO []
     refine rD (qT ?_);obtain⟨aD,hv4,hw4,e⟩:=rS e
     try simp only[go_sem] at hw4
     refine qK uJ ?_ (hp:=by exact⟨qC,(rR hv4)⟩) (h:=by simp only[go_sem,hw4];rfl)
     obtain⟨V,e⟩:=qR e;refine rV uJ ?_ (hp:=by exact V);refine sM (sM ?_);cases e;exact tT ⟨⟨[0,1,7,8,9,10],[(0,0),(1,1)]⟩,_,by rfl,f⟩
    obtain⟨U,e⟩:=qR e;refine qK uJ ?_ (hp:=by exact U);refine r8 e ?_ ?_<;>intro e Y
    .refine qK uJ ?_;refine qY (sH (sH (yA (zG (sH (rI ?_))))));cases e;cases f;dsimp only at d;cases d;exact pO []
    obtain⟨T,e⟩:=qR e;obtain⟨aE,hv8,hw8,e⟩:=rS e
    try simp only[go_sem] at hw8
    refine qK uJ ?_ (hp:=by exact⟨T,qC,(rR hv8)⟩) (h:=by simp only[go_sem,hw8];rfl)
    obtain⟨S,e⟩:=qR e;refine rV uJ ?_ (hp:=by exact S);refine sM (sM ?_);cases e;exact tT ⟨⟨[0,1,7,8,9,10],[(0,0),(1,1)]⟩,_,by rfl,f⟩
   refine vI (vG (vJ ?_));cases e;cases f;exact wG ⟨⟨[9],[(0,0),(1,1)]⟩,_,rfl,by rfl⟩
  rintro _ ⟨aF,rfl,rfl⟩;dsimp only at d|-;refine vH (qT ?_);refine qK uJ ?_ (hp:=by first|rfl|trivial)
  refine qY ?_;cases d;exact pO []
 refine rD (qT (qK uJ ?_));refine qZ (qK uJ ?_);refine sJ ?_;obtain⟨y1,hy1,d⟩:=zH d;refine wF 0 (fun s=> ∃v,y1= .inl v∧s=(fun x=>⟨[(9,.val .ref (some (0,0)),none)],[(0,.cells wM ((some (0,0)),(x,())) [(1,1)]),(1,.grow 5 1 (x.length))],2,58,0⟩) v) ?_ ?_
 .refine vY hy1 (fun x=>⟨[(0,.val (.int .i64) O,none),(1,.val .str Z,none),(7,.val (.int .u8) (92:Int),none),(8,.val .clo (some (180,[])),none),(9,.val .ref (some (0,0)),none),(10,.val (.int .i64) x.1,none)],[(0,.cells wM ((some (0,0)),(x.2,())) [(1,1)]),(1,.grow 5 1 (x.2.length))],2,58,0⟩) ⟨[0,1,7,8,9,10],[(0,320),(1,321)]⟩ qE ?_;intro x1 w1 n1 e f;obtain⟨aG,aH⟩:=x1;unfold OU at e;dsimp only at e|-;refine qZ (qK uJ ?_);refine r8 e ?_ ?_<;>intro e Y
  .refine rD (qT (sJ (sJ ?_)));obtain⟨R,e⟩:=qR e;refine qK uJ ?_ (hp:=by exact R);refine r8 e ?_ ?_<;>intro e Y
   .obtain⟨Q,e⟩:=qR e;obtain⟨aI,hv12,hw12,e⟩:=rS e
    try simp only[go_sem] at hw12
    refine qK uJ ?_ (hp:=by exact⟨Q,(rR hv12)⟩) (h:=by simp only[go_sem,hw12];rfl);refine qZ (qK uJ ?_);refine r8 e ?_ ?_<;>intro e Y
    .refine qK uJ ?_;refine qY (rI (sH (sH (yA (zG (sH (rI ?_)))))));cases e;cases f;dsimp only at d;cases d;exact pO []
    refine rD (qT ?_);obtain⟨aJ,hv13,hw13,e⟩:=rS e
    try simp only[go_sem] at hw13
    refine qK uJ ?_ (hp:=by exact⟨qC,(rR hv13)⟩) (h:=by simp only[go_sem,hw13];rfl)
    obtain⟨P,e⟩:=qR e;refine rV uJ ?_ (hp:=by exact P);refine sM (sM ?_);cases e;exact tT ⟨⟨[0,1,7,8,9,10],[(0,0),(1,1)]⟩,_,by rfl,f⟩
   obtain⟨M,e⟩:=qR e;refine qK uJ ?_ (hp:=by exact M);refine r8 e ?_ ?_<;>intro e Y
   .refine qK uJ ?_;refine qY (sH (sH (yA (zG (sH (rI ?_))))));cases e;cases f;dsimp only at d;cases d;exact pO []
   obtain⟨L,e⟩:=qR e;obtain⟨aK,hv17,hw17,e⟩:=rS e
   try simp only[go_sem] at hw17
   refine qK uJ ?_ (hp:=by exact⟨L,qC,(rR hv17)⟩) (h:=by simp only[go_sem,hw17];rfl)
   obtain⟨K,e⟩:=qR e;refine rV uJ ?_ (hp:=by exact K);refine sM (sM ?_);cases e;exact tT ⟨⟨[0,1,7,8,9,10],[(0,0),(1,1)]⟩,_,by rfl,f⟩
  refine vI (vG (vJ ?_));cases e;cases f;exact wG ⟨⟨[9],[(0,0),(1,1)]⟩,_,rfl,by rfl⟩
 rintro _ ⟨aL,rfl,rfl⟩;dsimp only at d|-;refine vH (qT ?_);refine qK uJ ?_ (hp:=by first|rfl|trivial)
 refine qY ?_;cases d;exact pO []
attribute [irreducible] OT I2
end
noncomputable section
def DA (O:(pM×(Bool×Unit))):Option (Bool×pM×Bool×pM×Bool):=if ((decide ((Lib.trimLeftS O.1 ([32,9]:pM))=([]:pM)))||O.2.1)=true then some ((false,([]:pM),false,(Lib.trimLeftS O.1 ([32,9]:pM)),O.2.1)) else if 0≤(0:Int)∧(0:Int)<((Lib.trimLeftS O.1 ([32,9]:pM)).length:Int) then if (!decide ((sX (Lib.trimLeftS O.1 ([32,9]:pM)) (0:Int))=(34:Int)))=true then if List.length (Lib.trimLeftS O.1 ([32,9]:pM))<4294967281 then uM (σ:=Int) (if (decide ((O6 (Lib.trimLeftS O.1 ([32,9]:pM)) ([32,9,34]:pM))<(0:Int)))=true then some (((Lib.trimLeftS O.1 ([32,9]:pM)).length:Int)) else some ((O6 (Lib.trimLeftS O.1 ([32,9]:pM)) ([32,9,34]:pM))) ) fun Z=>if 0≤(0:Int)∧(0:Int)≤Z∧Z≤((Lib.trimLeftS O.1 ([32,9]:pM)).length:Int) then if 0≤Z∧Z≤((Lib.trimLeftS O.1 ([32,9]:pM)).length:Int)∧((Lib.trimLeftS O.1 ([32,9]:pM)).length:Int)≤((Lib.trimLeftS O.1 ([32,9]:pM)).length:Int) then (OM (s7 (Lib.trimLeftS O.1 ([32,9]:pM)) Z ((Lib.trimLeftS O.1 ([32,9]:pM)).length:Int)) ([34]:pM)).bind fun aA=>some ((false,(s7 (Lib.trimLeftS O.1 ([32,9]:pM)) (0:Int) Z),(!((decide ((([34]:pM).length:Int)≤((s7 (Lib.trimLeftS O.1 ([32,9]:pM)) Z ((Lib.trimLeftS O.1 ([32,9]:pM)).length:Int)).length:Int)))&&(decide ((s7 (s7 (Lib.trimLeftS O.1 ([32,9]:pM)) Z ((Lib.trimLeftS O.1 ([32,9]:pM)).length:Int)) (0:Int) (([34]:pM).length:Int))=([34]:pM))))),(s7 (Lib.trimLeftS O.1 ([32,9]:pM)) Z ((Lib.trimLeftS O.1 ([32,9]:pM)).length:Int)),((decide ((([34]:pM).length:Int)≤((s7 (Lib.trimLeftS O.1 ([32,9]:pM)) Z ((Lib.trimLeftS O.1 ([32,9]:pM)).length:Int)).length:Int)))&&(decide ((s7 (s7 (Lib.trimLeftS O.1 ([32,9]:pM)) Z ((Lib.trimLeftS O.1 ([32,9]:pM)).length:Int)) (0:Int) (([34]:pM).length:Int))=([34]:pM)))))) else none else none else none else if 0≤(1:Int)∧(1:Int)≤((Lib.trimLeftS O.1 ([32,9]:pM)).length:Int)∧((Lib.trimLeftS O.1 ([32,9]:pM)).length:Int)≤((Lib.trimLeftS O.1 ([32,9]:pM)).length:Int) then (M3 (2:Int) (s7 (Lib.trimLeftS O.1 ([32,9]:pM)) (1:Int) ((Lib.trimLeftS O.1 ([32,9]:pM)).length:Int)) (34:Int)).bind fun aB=>if (decide (aB<(0:Int)))=true then some ((false,([]:pM),false,(Lib.trimLeftS O.1 ([32,9]:pM)),true)) else if qP (aB+(1:Int)) then if 0≤(1:Int)∧(1:Int)≤(aB+(1:Int))∧(aB+(1:Int))≤((Lib.trimLeftS O.1 ([32,9]:pM)).length:Int) then (I2 (2:Int) (s7 (Lib.trimLeftS O.1 ([32,9]:pM)) (1:Int) (aB+(1:Int)))).bind fun aC=>if qP (aB+(2:Int)) then if 0≤(aB+(2:Int))∧(aB+(2:Int))≤((Lib.trimLeftS O.1 ([32,9]:pM)).length:Int)∧((Lib.trimLeftS O.1 ([32,9]:pM)).length:Int)≤((Lib.trimLeftS O.1 ([32,9]:pM)).length:Int) then if (((!decide (aC.2.2=(0:Int)))==false)=true→((DR aC.1)).isSome=true) then if (((((!decide (aC.2.2=(0:Int)))||(!((decide ((aC.1.length:Int)≤(4000:Int)))&&(Lib.validD aC.1))))==false)&&((!decide ((s7 (Lib.trimLeftS O.1 ([32,9]:pM)) (aB+(2:Int)) ((Lib.trimLeftS O.1 ([32,9]:pM)).length:Int))=([]:pM)))==true))=true→0≤(0:Int)∧(0:Int)<((s7 (Lib.trimLeftS O.1 ([32,9]:pM)) (aB+(2:Int)) ((Lib.trimLeftS O.1 ([32,9]:pM)).length:Int)).length:Int)) then if (((((!decide (aC.2.2=(0:Int)))||(!((decide ((aC.1.length:Int)≤(4000:Int)))&&(Lib.validD aC.1))))==false)&&(((!decide ((s7 (Lib.trimLeftS O.1 ([32,9]:pM)) (aB+(2:Int)) ((Lib.trimLeftS O.1 ([32,9]:pM)).length:Int))=([]:pM)))&&(!decide ((sX (s7 (Lib.trimLeftS O.1 ([32,9]:pM)) (aB+(2:Int)) ((Lib.trimLeftS O.1 ([32,9]:pM)).length:Int)) (0:Int))=(32:Int))))==true))=true→0≤(0:Int)∧(0:Int)<((s7 (Lib.trimLeftS O.1 ([32,9]:pM)) (aB+(2:Int)) ((Lib.trimLeftS O.1 ([32,9]:pM)).length:Int)).length:Int)) then some ((true,aC.1,(!(((!decide (aC.2.2=(0:Int)))||(!((decide ((aC.1.length:Int)≤(4000:Int)))&&(Lib.validD aC.1))))||(((!decide ((s7 (Lib.trimLeftS O.1 ([32,9]:pM)) (aB+(2:Int)) ((Lib.trimLeftS O.1 ([32,9]:pM)).length:Int))=([]:pM)))&&(!decide ((sX (s7 (Lib.trimLeftS O.1 ([32,9]:pM)) (aB+(2:Int)) ((Lib.trimLeftS O.1 ([32,9]:pM)).length:Int)) (0:Int))=(32:Int))))&&(!decide ((sX (s7 (Lib.trimLeftS O.1 ([32,9]:pM)) (aB+(2:Int)) ((Lib.trimLeftS O.1 ([32,9]:pM)).length:Int)) (0:Int))=(9:Int)))))),(s7 (Lib.trimLeftS O.1 ([32,9]:pM)) (aB+(2:Int)) ((Lib.trimLeftS O.1 ([32,9]:pM)).length:Int)),(((!decide (aC.2.2=(0:Int)))||(!((decide ((aC.1.length:Int)≤(4000:Int)))&&(Lib.validD aC.1))))||(((!decide ((s7 (Lib.trimLeftS O.1 ([32,9]:pM)) (aB+(2:Int)) ((Lib.trimLeftS O.1 ([32,9]:pM)).length:Int))=([]:pM)))&&(!decide ((sX (s7 (Lib.trimLeftS O.1 ([32,9]:pM)) (aB+(2:Int)) ((Lib.trimLeftS O.1 ([32,9]:pM)).length:Int)) (0:Int))=(32:Int))))&&(!decide ((sX (s7 (Lib.trimLeftS O.1 ([32,9]:pM)) (aB+(2:Int)) ((Lib.trimLeftS O.1 ([32,9]:pM)).length:Int)) (0:Int))=(9:Int))))))) else none else none else none else none else none else none else none else none else none
section
variable (O:(pM×(Bool×Unit)))
abbrev a7w:List qM:=[(.val .ref (some (0,0)),none)]
abbrev a7x:List qJ:=[.cells (.pair .str (.pair .bool .unit)) O []]
@[go_sem] def a7y:qW:=⟨[((DA O)).isSome=true],[(.val rF ((val (DA O)).1,((val (DA O)).2.1,())),none),(.val .bool ((val (DA O)).2.2.1),none)],[.cells (.pair .str (.pair .bool .unit)) ((val (DA O)).2.2.2.1,((val (DA O)).2.2.2.2,())) []]⟩
def aFN:List qM→List qJ→Option qW:=s5 (V:=(pM×(Bool×Unit))) (fun x=>a7w) (a7x) fun x=>a7y x
@[go_sem] def aTg:aFN (no_index a7w) (no_index (a7x O))=some (a7y O):=sA (fun a0 b0 h1 h2=>by cases h1;cases h2;rfl) O
end
@[go_sem] abbrev aFO:Nat×rL:=(115,⟨[.p (.pair .str (.pair .bool .unit)) []],aFN,[],[],none⟩)
def yD:rG prog [w7,sR,wH,X2] (rH [R0,aDk,aEE,aDS,aFM,MB]):=⟨⟨wO,⟨sU,⟨x7,⟨aDj,trivial⟩⟩⟩⟩,qU a2k (qU aMG (qU aM8 (qU aMU (qU aNA (qU RL rX))))),rM⟩
def aNB:rU prog aFO:=by
 refine sB yD func115 (c:=_) rfl (N:=152) qD (ts:=[(2,some 121),(3,none)]) rfl (fun _ _=>rfl) ?_;intro O hs hrow;dsimp only[a7w,a7x,a7y,rY,r5,rE,rO,rZ,Nat.reduceAdd] at hs hrow|-;have hz:=hs;obtain⟨z0,e⟩:=aTw.1 hz
 try rw[sG e]
 clear hz hs;unfold DA at e;refine qK yD ?_;refine qK yD ?_ (hp:=by exact⟨pR,pR⟩);refine qZ (qK yD ?_ (hp:=by exact⟨id,id,id,tX⟩));refine r8 e ?_ ?_<;>intro e Y
 .refine qK yD ?_;refine qY (rI ?_);cases e;exact pO [(0,0)]
 refine rD (qT (qZ ?_));obtain⟨X,e⟩:=qR e;refine qK yD ?_ (hp:=by exact X);refine r8 e ?_ ?_<;>intro e Y
 .obtain⟨W,e⟩:=qR e;refine qK yD ?_ (hp:=by exact W);refine qZ (qK yD ?_);obtain⟨Z,f,e⟩:=r9 e;refine EG (fun s=>s=(fun x=>⟨[(0,.val .ref (some (0,0)),none),(2,.val .ref (some (1,0)),none),(4,.val (.int .i64) x,none)],[(0,.cells (.pair .str (.pair .bool .unit)) ((Lib.trimLeftS O.1 ([32,9]:pM)),O.2) []),(1,.cells rF (false,(([]:pM),())) [])],2,152,1⟩) Z) ?_ ?_
  .refine r8 f ?_ ?_<;>intro f Y
   .refine rV yD ?_;cases f;exact wL ⟨⟨[0,2,4],[(0,0),(1,1)]⟩,by rfl⟩
   refine rD ?_;cases f;exact wL ⟨⟨[0,2,4],[(0,0),(1,1)]⟩,by rfl⟩
  rintro _ rfl;dsimp only at e|-;refine qT ?_;obtain⟨V,e⟩:=qR e;refine qK yD ?_ (hp:=by exact V);obtain⟨U,e⟩:=qR e;refine qK yD ?_ (hp:=by exact U);obtain⟨aA,hv5,hw5,e⟩:=rS e
  try simp only[go_sem] at hw5
  refine qK yD ?_ (hp:=by exact(rR hv5)) (h:=by simp only[go_sem,hw5];rfl);refine yP yD ?_;refine qY (rI ?_);cases e;exact pO [(0,0)]
 refine rD (qT ?_);obtain⟨T,e⟩:=qR e;obtain⟨aB,hv7,hw7,e⟩:=rS e
 try simp only[go_sem] at hw7
 refine qK yD ?_ (hp:=by exact⟨T,(rR hv7)⟩) (h:=by simp only[go_sem,hw7];rfl);refine qZ (qK yD ?_);refine r8 e ?_ ?_<;>intro e Y
 .refine qK yD ?_;refine qK yD ?_;refine qY (rI ?_);cases e;exact pO [(0,0)]
 refine rD (qT ?_);obtain⟨S,R,e⟩:=pL e;obtain⟨aC,hv10,hw10,e⟩:=rS e
 try simp only[go_sem] at hw10
 refine qK yD ?_ (hp:=by exact⟨S,R,(rR hv10)⟩) (h:=by simp only[go_sem,hw10];rfl);obtain⟨Q,P,e⟩:=pL e;refine qK yD ?_ (hp:=by exact⟨Q,P⟩);obtain⟨M,L,e⟩:=pL e;obtain⟨K,e⟩:=qR e;refine qK yD ?_ (hp:=by exact⟨id,M,id,tX,id,id,id,id,id,id,id,id,id,L,id,id,fun hG d=>J6 hG d,id,id,id,id,id,K,id,id,fun hG d=>J6 hG d,tX⟩);refine yP yD ?_;refine qY ?_;cases e;exact pO [(0,0)]
attribute [irreducible] DA
end
noncomputable section
def OV:((List (Bool×(pM×Unit)))×Bool×pM×Bool×Bool×pM)→Option (((List (Bool×(pM×Unit)))×Bool×pM×Bool×Bool×pM)⊕((List (Bool×(pM×Unit)))×pM×Bool)):=fun(O,Z,aA,aB,aC,aD)=>if Z=true then if (O.length+([(aC,(aD,()))]:List (Bool×(pM×Unit))).length)*24≤140737488355328 then (DA (aA,(aB,()))).bind fun aE=>some (.inl ((O++([(aC,(aD,()))]:List (Bool×(pM×Unit)))),aE.2.2.1,aE.2.2.2.1,aE.2.2.2.2,aE.1,aE.2.1)) else none else some (.inr (O,aA,aB))
def EV (O:pM):Option ((List (Bool×(pM×Unit)))×Bool):=(DA (O,(false,()))).bind fun Z=>uM (sF OV (([]:List (Bool×(pM×Unit))),Z.2.2.1,Z.2.2.2.1,Z.2.2.2.2,Z.1,Z.2.1)) fun(aA,aB,aC)=>some ((aA,(!aC)))
section
variable (O:pM)
abbrev a7z:List qM:=[(.val .str O,none)]
abbrev a7A:List qJ:=[]
@[go_sem] def a7B:qW:=⟨[((EV O)).isSome=true],[(.val (.list rF) ((val (EV O)).1),some 0),(.val .bool ((val (EV O)).2),none)],[.grow 121 2 (((val (EV O)).1).length)]⟩
def aFP:List qM→List qJ→Option qW:=s5 (V:=pM) (a7z) (fun x=>a7A) fun x=>a7B x
@[go_sem] def aTh:aFP (no_index (a7z O)) (no_index a7A)=some (a7B O):=sA (fun a0 b0 h1 h2=>by cases h1;cases h2;rfl) O
end
@[go_sem] abbrev BF:Nat×rL:=(81,⟨[.v],aFP,[],[],none⟩)
def EW:rG prog [w7,wP,wH,X2] (rH [aFO]):=⟨⟨wO,⟨xN,⟨x7,⟨aDj,trivial⟩⟩⟩⟩,qU aNB rX,rM⟩
def MQ:rU prog BF:=by
 refine sB EW func81 (c:=_) rfl (N:=33) qD (ts:=[(2,none),(3,none)]) rfl (fun _ _=>rfl) ?_;intro O hs hrow;dsimp only[a7z,a7A,a7B,rY,r5,rE,rO,rZ,Nat.reduceAdd] at hs hrow|-;have hz:=hs;obtain⟨z0,e⟩:=aTw.1 hz
 try rw[sG e]
 clear hz hs;unfold EV at e;refine qK EW ?_;refine qK EW ?_;refine qK EW ?_;refine qZ ?_;obtain⟨Z,hv1,hw1,e⟩:=rS e
 try simp only[go_sem] at hw1
 refine qK EW ?_ (hp:=by exact(rR hv1)) (h:=by simp only[go_sem,hw1];rfl);refine sJ ?_;obtain⟨y1,hy1,e⟩:=r9 e;refine wF 0 (fun s=>s=(fun x=>⟨[(4,.val .ref (some (0,0)),none),(5,(.val (.list rF) x.1,some 1))],[(0,.cells (.pair .str (.pair .bool .unit)) (x.2.1,(x.2.2,())) []),(1,.grow 121 2 (x.1.length))],2,33,0⟩) y1) ?_ ?_
 .refine vY hy1 (fun x=>⟨[(4,.val .ref (some (0,0)),none),(5,(.val (.list rF) x.1,some 1)),(6,(.val .ref (some (2,0)),none)),(7,.val .bool x.2.1,none)],[(0,.cells (.pair .str (.pair .bool .unit)) (x.2.2.1,(x.2.2.2.1,())) []),(1,.grow 121 2 (x.1.length)),(2,.cells rF (x.2.2.2.2.1,(x.2.2.2.2.2,())) [])],3,33,0⟩) ⟨[4,5,6,7],[(0,128),(1,192),(2,384)]⟩ qE ?_;intro x1 w1 n1 d f;obtain⟨aA,aB,aC,aD,aE,aF⟩:=x1;unfold OV at d;dsimp only at d|-;refine qZ (qK EW ?_);refine r8 d ?_ ?_<;>intro d Y
  .refine rD (qT (qZ (sJ ?_)));obtain⟨X,d⟩:=qR d;refine rV EW ?_ (hp:=by exact⟨qC,X⟩)
   refine sM (qT (qZ (qK EW ?_)));refine rV EW ?_;refine qT ?_;obtain⟨aG,hv3,hw3,d⟩:=rS d
   try simp only[go_sem] at hw3
   refine rV EW ?_ (hp:=by exact(rR hv3)) (h:=by simp only[go_sem,hw3];rfl);cases d;exact tT ⟨⟨[4,5,6,7],[(0,0),(1,1),(2,227)]⟩,_,by rfl,f⟩
  refine vI (vG (vJ ?_));cases d;cases f;exact wG ⟨⟨[4,5],[(0,0),(1,1)]⟩,by rfl⟩
 rintro _ rfl;obtain⟨aH,aI,aJ⟩:=y1;dsimp only at e|-;refine vH (qT ?_);refine yP EW ?_;refine qY ?_;cases e;exact pO [(0,1)]
attribute [irreducible] EV
end
noncomputable section
def uN (O:sK) (Z:Int) (aA:pM) (aB:pM) (aC:pM) (aD:pN) (aE:Int) (aF:Nat) (aG:(pW×Unit)) (aH:pM) (aI:Int) (aJ:(Option pN)) (aK:Nat) (aL:(Option (List r7))) (aM:Nat) (aN:pU) (aO:pU):Option (Int×pM×pN×(List r7)×(List tA)×Int×pM×pM×pM×pN×Int×Nat×pW×pU×(Option pN)×Nat×(Option (List r7))×Nat×pU):=(EV aH).bind fun aP=>if (!aP.2)=true then some (((3:Int),O.1,O.2.1,O.2.2.1,O.2.2.2.1,Z,aA,aB,aC,aD,aE,aF,aG.1,aO,aJ,aK,aL,aM,aN)) else if 0≤(0:Int)∧(0:Int)<(aP.1.length:Int) then if (qV rF aP.1 (0:Int)).1=true then (A6 O Z aA aB aC aD aE aF aG aP.1 aJ aK aL aM aN aO).bind fun aQ=>some ((aQ.1,O.1,O.2.1,O.2.2.1,O.2.2.2.1,Z,aA,aQ.2.1,aQ.2.2.1,aD,aE,aF,aG.1,aO,aQ.2.2.2.1,aQ.2.2.2.2.1,aQ.2.2.2.2.2.1,aQ.2.2.2.2.2.2,aN)) else if ((decide (Z=(0:Int)))||(decide (Z=(2:Int))))=true then (wQ O Z aA aB aC aD aE aG aP.1 aJ aK aL aM aN aO).bind fun aR=>some ((aR.1,aR.2.1,O.2.1,O.2.2.1,O.2.2.2.1,aR.2.2.1,aR.2.2.2.1,aR.2.2.2.2.1,aR.2.2.2.2.2.1,aR.2.2.2.2.2.2.1,aR.2.2.2.2.2.2.2.1,0,aG.1,aR.2.2.2.2.2.2.2.2.1,aR.2.2.2.2.2.2.2.2.2.1,aR.2.2.2.2.2.2.2.2.2.2.1,aR.2.2.2.2.2.2.2.2.2.2.2.1,aR.2.2.2.2.2.2.2.2.2.2.2.2.1,aR.2.2.2.2.2.2.2.2.2.2.2.2.2)) else if 0≤(0:Int)∧(0:Int)<(aP.1.length:Int) then if (decide ((qV rF aP.1 (0:Int)).2.1=([101,110,100]:pM)))=true then aJ.bind fun aS=>aL.bind fun aT=>if 0≤(1:Int)∧(1:Int)≤(aP.1.length:Int)∧(aP.1.length:Int)≤(aP.1.length:Int) then (yY O Z aA aB aC aD aE aG (s7 aP.1 (1:Int) (aP.1.length:Int)) aI aS aT aN aO).bind fun aU=>some ((aU.1,O.1,aU.2.1,aU.2.2.1,aU.2.2.2.1,aU.2.2.2.2.1,aA,aB,aC,aD,aE,0,aU.2.2.2.2.2.1,aO,aU.2.2.2.2.2.2.1,(aS.length),aU.2.2.2.2.2.2.2.1,aU.2.2.2.2.2.2.2.2,aN)) else none else if 0≤(0:Int)∧(0:Int)<(aP.1.length:Int) then B2 (FT ((qV rF aP.1 (0:Int)).2.1)) fun aV=>if ((z8 aV.1)||((decide (Z=(1:Int)))&&(!aV.2)))=true then some (((3:Int),O.1,O.2.1,O.2.2.1,O.2.2.2.1,Z,aA,aB,aC,aD,aE,0,aG.1,aO,aJ,aK,aL,aM,aN)) else B2 aV.1 fun aW=>if aW=some 117 then aJ.bind fun aX=>aL.bind fun aY=>if 0≤(1:Int)∧(1:Int)≤(aP.1.length:Int)∧(aP.1.length:Int)≤(aP.1.length:Int) then (D2 O Z aA aB aC aD aE aG (s7 aP.1 (1:Int) (aP.1.length:Int)) aX aY aN aO).bind fun aZ=>some ((aZ.1,O.1,O.2.1,O.2.2.1,O.2.2.2.1,Z,aA,aB,aC,aD,aE,aZ.2.1,aG.1,aO,(some aZ.2.2),(aZ.2.2.length),(some aY),(aY.length),aN)) else none else if aW=some 118 then aJ.bind fun bA=>aL.bind fun bB=>if 0≤(1:Int)∧(1:Int)≤(aP.1.length:Int)∧(aP.1.length:Int)≤(aP.1.length:Int) then (D6 O Z aA aB aC aD aE aG (s7 aP.1 (1:Int) (aP.1.length:Int)) bA bB aN aO).bind fun bC=>some ((bC.1,O.1,O.2.1,O.2.2.1,O.2.2.2.1,Z,aA,aB,aC,aD,aE,bC.2.1,aG.1,aO,(some bA),(bA.length),(some bC.2.2),(bC.2.2.length),aN)) else none else if aW=some 119 then aJ.bind fun bD=>aL.bind fun bE=>if 0≤(1:Int)∧(1:Int)≤(aP.1.length:Int)∧(aP.1.length:Int)≤(aP.1.length:Int) then (ER O Z aA aB aC aD aE aG (s7 aP.1 (1:Int) (aP.1.length:Int)) bD bE aN aO).bind fun bF=>some ((bF.1,O.1,O.2.1,O.2.2.1,O.2.2.2.1,Z,aA,bF.2.1,aC,aD,aE,bF.2.2.1,aG.1,aO,(some bD),(bD.length),(some bE),(bE.length),bF.2.2.2)) else none else if aW=some 120 then aJ.bind fun bG=>aL.bind fun bH=>if 0≤(1:Int)∧(1:Int)≤(aP.1.length:Int)∧(aP.1.length:Int)≤(aP.1.length:Int) then (ES O Z aA aB aC aD aE aG (s7 aP.1 (1:Int) (aP.1.length:Int)) bG bH aN aO).bind fun bI=>some ((bI.1,O.1,O.2.1,O.2.2.1,O.2.2.2.1,Z,aA,aB,bI.2.1,aD,aE,bI.2.2.1,aG.1,aO,(some bG),(bG.length),(some bH),(bH.length),bI.2.2.2)) else none else if aW=some 121 then aJ.bind fun bJ=>aL.bind fun bK=>if 0≤(1:Int)∧(1:Int)≤(aP.1.length:Int)∧(aP.1.length:Int)≤(aP.1.length:Int) then (FW O Z aA aB aC aD aE aG (s7 aP.1 (1:Int) (aP.1.length:Int)) bJ bK aN aO).bind fun bM=>some ((bM.1,O.1,O.2.1,O.2.2.1,O.2.2.2.1,Z,aA,aB,aC,aD,bM.2.1,0,aG.1,aO,(some bJ),(bJ.length),(some bK),(bK.length),bM.2.2)) else none else if aW=some 122 then aJ.bind fun bN=>aL.bind fun bO=>if 0≤(1:Int)∧(1:Int)≤(aP.1.length:Int)∧(aP.1.length:Int)≤(aP.1.length:Int) then (FU O Z aA aB aC aD aE aG (s7 aP.1 (1:Int) (aP.1.length:Int)) bN bO aN aO).bind fun bP=>some ((bP.1,O.1,O.2.1,O.2.2.1,O.2.2.2.1,Z,aA,aB,aC,bP.2.1,aE,0,aG.1,aO,(some bN),(bN.length),(some bO),(bO.length),bP.2.2)) else none else none else none else none else none
section
variable (O:pM) (Z:Int) (aA:sK) (aB:Int) (aC:pM) (aD:pM) (aE:pM) (aF:Nat) (aG:pN) (aH:Int) (aI:Nat) (aJ:Nat) (aK:Nat) (aL:Nat) (aM:(pW×Unit)) (aN:Nat) (aO:Nat) (aP:(Option pN)) (aQ:Nat) (aR:(Option (List r7))) (aS:Nat) (aT:pU) (aU:pU)
abbrev XU:List qM:=[(.val .ref (some (0,0)),none),(.val .str O,none),(.val (.int .i64) Z,none)]
abbrev a7C:List qJ:=[.cells sL (aA,(aB,((aC,(aD,(aE,((some (3,aF)),(aG,(aH,((some (4,aI)),()))))))),((some 5),((some 6),((aJ,0,(3,aK),(4,aL)),aM)))))) [(3,1),(15,2)],.grow 45 7 aN,.grow 3 1 aO,s8 9 .str aP aQ,s8 110 rW aR aS,.map .str .bool aT,.map .str .bool aU]
@[go_sem] def XV:qW:=⟨[aN=(aA.2.2.2.1.length),aO=(aM.1.length),aF=aQ,aI=aS,aK=aQ,aL=aS,((uN aA aB aC aD aE aG aH aJ aM O Z aP aQ aR aS aT aU)).isSome=true],[(.val (.int .i64) ((val (uN aA aB aC aD aE aG aH aJ aM O Z aP aQ aR aS aT aU)).1),none)],[.cells sL (((val (uN aA aB aC aD aE aG aH aJ aM O Z aP aQ aR aS aT aU)).2.1,((val (uN aA aB aC aD aE aG aH aJ aM O Z aP aQ aR aS aT aU)).2.2.1,((val (uN aA aB aC aD aE aG aH aJ aM O Z aP aQ aR aS aT aU)).2.2.2.1,((val (uN aA aB aC aD aE aG aH aJ aM O Z aP aQ aR aS aT aU)).2.2.2.2.1,())))),((val (uN aA aB aC aD aE aG aH aJ aM O Z aP aQ aR aS aT aU)).2.2.2.2.2.1,(((val (uN aA aB aC aD aE aG aH aJ aM O Z aP aQ aR aS aT aU)).2.2.2.2.2.2.1,((val (uN aA aB aC aD aE aG aH aJ aM O Z aP aQ aR aS aT aU)).2.2.2.2.2.2.2.1,((val (uN aA aB aC aD aE aG aH aJ aM O Z aP aQ aR aS aT aU)).2.2.2.2.2.2.2.2.1,((some (7,(val (uN aA aB aC aD aE aG aH aJ aM O Z aP aQ aR aS aT aU)).2.2.2.2.2.2.2.2.2.2.2.2.2.2.2.1)),((val (uN aA aB aC aD aE aG aH aJ aM O Z aP aQ aR aS aT aU)).2.2.2.2.2.2.2.2.2.1,((val (uN aA aB aC aD aE aG aH aJ aM O Z aP aQ aR aS aT aU)).2.2.2.2.2.2.2.2.2.2.1,((some (8,(val (uN aA aB aC aD aE aG aH aJ aM O Z aP aQ aR aS aT aU)).2.2.2.2.2.2.2.2.2.2.2.2.2.2.2.2.2.1)),()))))))),((some 9),((some 6),(((val (uN aA aB aC aD aE aG aH aJ aM O Z aP aQ aR aS aT aU)).2.2.2.2.2.2.2.2.2.2.2.1,0,(7,(val (uN aA aB aC aD aE aG aH aJ aM O Z aP aQ aR aS aT aU)).2.2.2.2.2.2.2.2.2.2.2.2.2.2.2.1),(8,(val (uN aA aB aC aD aE aG aH aJ aM O Z aP aQ aR aS aT aU)).2.2.2.2.2.2.2.2.2.2.2.2.2.2.2.2.2.1)),((val (uN aA aB aC aD aE aG aH aJ aM O Z aP aQ aR aS aT aU)).2.2.2.2.2.2.2.2.2.2.2.2.1,()))))))) [(3,1),(15,2)],.grow 45 7 (((val (uN aA aB aC aD aE aG aH aJ aM O Z aP aQ aR aS aT aU)).2.2.2.2.1).length),.grow 3 1 (((val (uN aA aB aC aD aE aG aH aJ aM O Z aP aQ aR aS aT aU)).2.2.2.2.2.2.2.2.2.2.2.2.1).length),.dead,.dead,.dead,.map .str .bool ((val (uN aA aB aC aD aE aG aH aJ aM O Z aP aQ aR aS aT aU)).2.2.2.2.2.2.2.2.2.2.2.2.2.1),s8 9 .str ((val (uN aA aB aC aD aE aG aH aJ aM O Z aP aQ aR aS aT aU)).2.2.2.2.2.2.2.2.2.2.2.2.2.2.1) ((val (uN aA aB aC aD aE aG aH aJ aM O Z aP aQ aR aS aT aU)).2.2.2.2.2.2.2.2.2.2.2.2.2.2.2.1),s8 110 rW ((val (uN aA aB aC aD aE aG aH aJ aM O Z aP aQ aR aS aT aU)).2.2.2.2.2.2.2.2.2.2.2.2.2.2.2.2.1) ((val (uN aA aB aC aD aE aG aH aJ aM O Z aP aQ aR aS aT aU)).2.2.2.2.2.2.2.2.2.2.2.2.2.2.2.2.2.1),.map .str .bool ((val (uN aA aB aC aD aE aG aH aJ aM O Z aP aQ aR aS aT aU)).2.2.2.2.2.2.2.2.2.2.2.2.2.2.2.2.2.2)]⟩
def a7D:List qM→List qJ→Option qW:=s5 (V:=(pM×Int×sK×Int×pM×pM×pM×Nat×pN×Int×Nat×Nat×Nat×Nat×(pW×Unit)×Nat×Nat×(Option pN)×Nat×(Option (List r7))×Nat×pU×pU)) (fun x=>XU x.1 x.2.1) (fun x=>a7C x.2.2.1 x.2.2.2.1 x.2.2.2.2.1 x.2.2.2.2.2.1 x.2.2.2.2.2.2.1 x.2.2.2.2.2.2.2.1 x.2.2.2.2.2.2.2.2.1 x.2.2.2.2.2.2.2.2.2.1 x.2.2.2.2.2.2.2.2.2.2.1 x.2.2.2.2.2.2.2.2.2.2.2.1 x.2.2.2.2.2.2.2.2.2.2.2.2.1 x.2.2.2.2.2.2.2.2.2.2.2.2.2.1 x.2.2.2.2.2.2.2.2.2.2.2.2.2.2.1 x.2.2.2.2.2.2.2.2.2.2.2.2.2.2.2.1 x.2.2.2.2.2.2.2.2.2.2.2.2.2.2.2.2.1 x.2.2.2.2.2.2.2.2.2.2.2.2.2.2.2.2.2.1 x.2.2.2.2.2.2.2.2.2.2.2.2.2.2.2.2.2.2.1 x.2.2.2.2.2.2.2.2.2.2.2.2.2.2.2.2.2.2.2.1 x.2.2.2.2.2.2.2.2.2.2.2.2.2.2.2.2.2.2.2.2.1 x.2.2.2.2.2.2.2.2.2.2.2.2.2.2.2.2.2.2.2.2.2.1 x.2.2.2.2.2.2.2.2.2.2.2.2.2.2.2.2.2.2.2.2.2.2) fun x=>XV x.1 x.2.1 x.2.2.1 x.2.2.2.1 x.2.2.2.2.1 x.2.2.2.2.2.1 x.2.2.2.2.2.2.1 x.2.2.2.2.2.2.2.1 x.2.2.2.2.2.2.2.2.1 x.2.2.2.2.2.2.2.2.2.1 x.2.2.2.2.2.2.2.2.2.2.1 x.2.2.2.2.2.2.2.2.2.2.2.1 x.2.2.2.2.2.2.2.2.2.2.2.2.1 x.2.2.2.2.2.2.2.2.2.2.2.2.2.1 x.2.2.2.2.2.2.2.2.2.2.2.2.2.2.1 x.2.2.2.2.2.2.2.2.2.2.2.2.2.2.2.1 x.2.2.2.2.2.2.2.2.2.2.2.2.2.2.2.2.1 x.2.2.2.2.2.2.2.2.2.2.2.2.2.2.2.2.2.1 x.2.2.2.2.2.2.2.2.2.2.2.2.2.2.2.2.2.2.1 x.2.2.2.2.2.2.2.2.2.2.2.2.2.2.2.2.2.2.2.1 x.2.2.2.2.2.2.2.2.2.2.2.2.2.2.2.2.2.2.2.2.1 x.2.2.2.2.2.2.2.2.2.2.2.2.2.2.2.2.2.2.2.2.2.1 x.2.2.2.2.2.2.2.2.2.2.2.2.2.2.2.2.2.2.2.2.2.2
@[go_sem] def aNC:a7D (no_index (XU O Z)) (no_index (a7C aA aB aC aD aE aF aG aH aI aJ aK aL aM aN aO aP aQ aR aS aT aU))=some (XV O Z aA aB aC aD aE aF aG aH aI aJ aK aL aM aN aO aP aQ aR aS aT aU):=sA (fun⟨a0,a1,a2,a3,a4,a5,a6,a7,a8,a9,a10,a11,a12,a13,a14,a15,a16,a17,a18,a19,a20,a21,a22⟩ ⟨b0,b1,b2,b3,b4,b5,b6,b7,b8,b9,b10,b11,b12,b13,b14,b15,b16,b17,b18,b19,b20,b21,b22⟩ h1 h2=>by cases h1;injection h2 with p0 h2;injection h2 with p1 h2;injection h2 with p2 h2;injection h2 with p3 h2;injection h2 with p4 h2;injection h2 with p5 h2;injection h2 with p6 h2;obtain⟨q3,r3⟩:=AK p3;cases q3;cases r3;obtain⟨q4,r4⟩:=AK p4;cases q4;cases r4;cases p0;cases p1;cases p2;cases p5;cases p6;rfl) (O,Z,aA,aB,aC,aD,aE,aF,aG,aH,aI,aJ,aK,aL,aM,aN,aO,aP,aQ,aR,aS,aT,aU)
end
@[go_sem] def aTi (O:pM) (Z:Int) (aA:sK) (aB:Int) (aC:pM) (aD:pM) (aE:pM) (aF:Nat) (aG:pN) (aH:Int) (aI:Nat) (aJ:Nat) (aK:Nat) (aL:Nat) (aM:(pW×Unit)) (aN:Nat) (aO:Nat) (aP:pN) (aQ:Nat) (aR:List r7) (aS:Nat) (aT:pU) (aU:pU):a7D (no_index (XU O Z)) (no_index ([.cells sL (aA,(aB,((aC,(aD,(aE,((some (3,aF)),(aG,(aH,((some (4,aI)),()))))))),((some 5),((some 6),((aJ,0,(3,aK),(4,aL)),aM)))))) [(3,1),(15,2)],.grow 45 7 aN,.grow 3 1 aO,.row 9 .str aP aQ,.row 110 rW aR aS,.map .str .bool aT,.map .str .bool aU]:List qJ))=some (XV O Z aA aB aC aD aE aF aG aH aI aJ aK aL aM aN aO (some aP) aQ (some aR) aS aT aU):=aNC O Z aA aB aC aD aE aF aG aH aI aJ aK aL aM aN aO (some aP) aQ (some aR) aS aT aU
@[go_sem] abbrev RZ:Nat×rL:=(56,⟨[.p sL [3,15],.v,.v],a7D,[(0,8,.r),(0,11,.r),(0,12,.m),(0,13,.m)],[],none⟩)
def aFQ:rG prog [] (rH [BF,a6f,a5t,B7,B4,B5,BD,B9,BA,BB,B6]):=⟨trivial,qU MQ (qU aNm (qU aNa (qU MC (qU M7 (qU M8 (qU ML (qU MI (qU MJ (qU MK (qU MA rX)))))))))),rM⟩
def yR:rG prog [w6,w7,sR,B3,v6,wP,wH,HE] (rH [BF,a6f,a5t,B7,B4,B5,BD,B9,BA,BB,B6]):=⟨⟨wN,⟨wO,⟨sU,⟨CU,⟨vM,⟨xN,⟨x7,⟨M0,trivial⟩⟩⟩⟩⟩⟩⟩⟩,aFQ.Γ,rM⟩
def aFR:rU prog RZ:=by
 refine sB aFQ func56 (c:=_) rfl (N:=81) qD (ts:=[(6,none)]) rfl (fun _ _=>rfl) ?_ (h3:=by intro _;repeat (first|exact trivial|refine JE rfl ?_ |refine ⟨rfl,?_⟩))
 intro⟨O,Z,aA,aB,aC,aD,aE,aF,aG,aH,aI,aJ,aK,aL,aM,aN,aO,aP,aQ,aR,aS,aT,aU⟩ hs hrow;dsimp only[XU,a7C,XV,rY,r5,rE,rO,rZ,Nat.reduceAdd] at hs hrow|-;obtain⟨rfl,rfl,hps2,hps3,hps4,hps5,hz⟩:=hs;obtain rfl:=hps2.symm;obtain rfl:=hps3.symm;obtain rfl:=hps4.symm;obtain rfl:=hps5.symm;obtain⟨z0,d⟩:=aTw.1 hz
 try rw[sG d]
 clear hz;unfold uN at d;refine qK yR ?_;obtain⟨aV,hv1,hw1,d⟩:=rS d
 try simp only[go_sem] at hw1
 refine qK yR ?_ (hp:=by exact(rR hv1)) (h:=by simp only[go_sem,hw1];rfl);refine qZ (sJ (qK yR ?_));refine r8 d ?_ ?_<;>intro d Y
 .refine qK yR ?_;refine qY (sH (rI ?_));cases d;exact pP [(0,0),(1,1),(2,2),(6,6),(7,3),(8,4),(9,5)]
 obtain⟨X,d⟩:=qR d;refine qK yR ?_ (hp:=by exact X);refine r8 d ?_ ?_<;>intro d Y
 .obtain⟨aW,hv3,hw3,d⟩:=rS d
  try simp only[go_sem] at hw3
  refine qK yR ?_ (hp:=by exact⟨qC,qC,qC,qC,qC,qC,qC,qC,qC,qC,(rR hv3)⟩) (h:=by simp only[go_sem,hw3];rfl)
  refine qY (sH (rI ?_));cases d;exact pP [(0,0),(1,1),(2,2),(6,6),(7,3),(8,4),(9,5)]
 refine rD (sM (qT (qK yR ?_)));refine qZ (qK yR ?_ (hp:=by exact⟨id,id,id,id,tX⟩));refine r8 d ?_ ?_<;>intro d Y
 .refine qZ (zJ 0 (0,(3,aQ),(4,aS)) (x2:=(aA,(aB,((aC,(aD,(aE,((some (3,aQ)),(aG,(aH,((some (4,aS)),()))))))),((some 5),((some 6),((0,0,(3,aQ),(4,aS)),aM))))))) rfl qG ?_)
  obtain⟨aX,hv4,hw4,d⟩:=rS d
  try simp only[go_sem] at hw4
  refine rV yR ?_ (hp:=by exact⟨qC,qC,qC,qC,qC,qC,qC,qC,(rR hv4)⟩) (h:=by simp only[go_sem,hw4];rfl)
  refine qT (qY (rI ?_));cases d;exact pP [(0,0),(1,1),(2,2),(6,6),(7,1102),(8,1103),(9,1104)]
 refine rD (qT (qZ ?_));obtain⟨W,d⟩:=qR d;refine qK yR ?_ (hp:=by exact W);refine r8 d ?_ ?_<;>intro d Y
 .refine qZ (zJ 0 (0,(3,aQ),(4,aS)) (x2:=(aA,(aB,((aC,(aD,(aE,((some (3,aQ)),(aG,(aH,((some (4,aS)),()))))))),((some 5),((some 6),((0,0,(3,aQ),(4,aS)),aM))))))) rfl qG ?_)
  obtain⟨aY,hal6,hAhal6⟩:=AL d;subst hal6;obtain⟨aZ,hal7,hAhal7⟩:=AL hAhal6;subst hal7;rw[show s8 9 .str (some aY:Option pN) aQ= .row 9 .str aY aQ from rfl];rw[show s8 110 rW (some aZ:Option (List r7)) aS= .row 110 rW aZ aS from rfl];refine AM 3 rfl fun hln=>?_;subst hln;refine AM 4 rfl fun hln=>?_;subst hln;have d:=hAhal7;obtain⟨V,d⟩:=qR d;obtain⟨bA,hv9,hw9,d⟩:=rS d
  try simp only[go_sem] at hw9
  refine rV yR ?_ (hp:=by exact⟨V,qC,qC,qC,qC,qC,qC,qC,qC,(rR hv9)⟩) (h:=by simp only[go_sem,hw9];rfl)
  refine qT (qY (rI ?_));cases d;exact pP [(0,0),(1,1),(2,2),(6,6),(7,3),(8,1326),(9,5)]
 refine rD (qT ?_);obtain⟨U,d⟩:=qR d;obtain⟨bB,hw_89,d⟩:=QV d
 try simp only[go_sem] at hw_89
 refine qK yR ?_ (hp:=by exact U) (h:=by simp only[go_sem,hw_89];rfl);refine qZ (qK yR ?_ (hp:=by exact⟨id,id,id,id,id,id,id,fun hG e=>J6 hG e,tX⟩));refine r8 d ?_ ?_<;>intro d Y
 .refine qK yR ?_;refine zJ 0 (0,(3,aQ),(4,aS)) (x2:=(aA,(aB,((aC,(aD,(aE,((some (3,aQ)),(aG,(aH,((some (4,aS)),()))))))),((some 5),((some 6),((0,0,(3,aQ),(4,aS)),aM))))))) rfl qG ?_
  refine qY (rI ?_);cases d;exact pP [(0,0),(1,1),(2,2),(6,6),(7,3),(8,4),(9,5)]
 refine rD (qT (qZ ?_));replace d:=a1X d;generalize bB.1=bC at d|-;by_cases hfn:bC=some 117
 .subst hfn;rw[aTr rfl] at d;refine zJ 0 (0,(3,aQ),(4,aS)) (x2:=(aA,(aB,((aC,(aD,(aE,((some (3,aQ)),(aG,(aH,((some (4,aS)),()))))))),((some 5),((some 6),((0,0,(3,aQ),(4,aS)),aM))))))) rfl qG ?_
  obtain⟨bD,hal11,hAhal11⟩:=AL d;subst hal11;obtain⟨bE,hal12,hAhal12⟩:=AL hAhal11;subst hal12;rw[show s8 9 .str (some bD:Option pN) aQ= .row 9 .str bD aQ from rfl];rw[show s8 110 rW (some bE:Option (List r7)) aS= .row 110 rW bE aS from rfl];refine AM 3 rfl fun hln=>?_;subst hln;refine AM 4 rfl fun hln=>?_;subst hln;have d:=hAhal12;obtain⟨T,d⟩:=qR d;obtain⟨bF,hv14,hw14,d⟩:=rS d
  try simp only[go_sem] at hw14
  refine rV yR ?_ (hp:=by exact⟨T,qC,qC,qC,qC,qC,qC,qC,qC,qC,qC,qC,(rR hv14)⟩) (h:=by simp only[go_sem,hw14];rfl)
  refine qT (qY ?_);cases d;exact pP [(0,0),(1,1),(2,2),(6,6),(7,3),(8,4),(9,5)]
 rw[aTs hfn] at d;clear hfn;by_cases hfn:bC=some 118
 .subst hfn;rw[aTr rfl] at d;refine zJ 0 (0,(3,aQ),(4,aS)) (x2:=(aA,(aB,((aC,(aD,(aE,((some (3,aQ)),(aG,(aH,((some (4,aS)),()))))))),((some 5),((some 6),((0,0,(3,aQ),(4,aS)),aM))))))) rfl qG ?_
  obtain⟨bG,hal15,hAhal15⟩:=AL d;subst hal15;obtain⟨bH,hal16,hAhal16⟩:=AL hAhal15;subst hal16;rw[show s8 9 .str (some bG:Option pN) aQ= .row 9 .str bG aQ from rfl];rw[show s8 110 rW (some bH:Option (List r7)) aS= .row 110 rW bH aS from rfl];refine AM 3 rfl fun hln=>?_;subst hln;refine AM 4 rfl fun hln=>?_;subst hln;have d:=hAhal16;obtain⟨S,d⟩:=qR d;obtain⟨bI,hv18,hw18,d⟩:=rS d
  try simp only[go_sem] at hw18
  refine rV yR ?_ (hp:=by exact⟨S,qC,qC,qC,qC,qC,qC,qC,qC,qC,qC,qC,(rR hv18)⟩) (h:=by simp only[go_sem,hw18];rfl)
  refine qT (qY ?_);cases d;exact pP [(0,0),(1,1),(2,2),(6,6),(7,3),(8,4),(9,5)]
 rw[aTs hfn] at d;clear hfn;by_cases hfn:bC=some 119
 .subst hfn;rw[aTr rfl] at d;refine zJ 0 (0,(3,aQ),(4,aS)) (x2:=(aA,(aB,((aC,(aD,(aE,((some (3,aQ)),(aG,(aH,((some (4,aS)),()))))))),((some 5),((some 6),((0,0,(3,aQ),(4,aS)),aM))))))) rfl qG ?_
  obtain⟨bJ,hal19,hAhal19⟩:=AL d;subst hal19;obtain⟨bK,hal20,hAhal20⟩:=AL hAhal19;subst hal20;rw[show s8 9 .str (some bJ:Option pN) aQ= .row 9 .str bJ aQ from rfl];rw[show s8 110 rW (some bK:Option (List r7)) aS= .row 110 rW bK aS from rfl];refine AM 3 rfl fun hln=>?_;subst hln;refine AM 4 rfl fun hln=>?_;subst hln;have d:=hAhal20;obtain⟨R,d⟩:=qR d;obtain⟨bM,hv22,hw22,d⟩:=rS d
  try simp only[go_sem] at hw22
  refine rV yR ?_ (hp:=by exact⟨R,qC,qC,qC,qC,qC,qC,qC,qC,qC,qC,qC,(rR hv22)⟩) (h:=by simp only[go_sem,hw22];rfl)
  refine qT (qY ?_);cases d;exact pP [(0,0),(1,1),(2,2),(6,6),(7,3),(8,4),(9,5)]
 rw[aTs hfn] at d;clear hfn;by_cases hfn:bC=some 120
 .subst hfn;rw[aTr rfl] at d;refine zJ 0 (0,(3,aQ),(4,aS)) (x2:=(aA,(aB,((aC,(aD,(aE,((some (3,aQ)),(aG,(aH,((some (4,aS)),()))))))),((some 5),((some 6),((0,0,(3,aQ),(4,aS)),aM))))))) rfl qG ?_
  obtain⟨bN,hal23,hAhal23⟩:=AL d;subst hal23;obtain⟨bO,hal24,hAhal24⟩:=AL hAhal23;subst hal24;rw[show s8 9 .str (some bN:Option pN) aQ= .row 9 .str bN aQ from rfl];rw[show s8 110 rW (some bO:Option (List r7)) aS= .row 110 rW bO aS from rfl];refine AM 3 rfl fun hln=>?_;subst hln;refine AM 4 rfl fun hln=>?_;subst hln;have d:=hAhal24;obtain⟨Q,d⟩:=qR d;obtain⟨bP,hv26,hw26,d⟩:=rS d
  try simp only[go_sem] at hw26
  refine rV yR ?_ (hp:=by exact⟨Q,qC,qC,qC,qC,qC,qC,qC,qC,qC,qC,qC,(rR hv26)⟩) (h:=by simp only[go_sem,hw26];rfl)
  refine qT (qY ?_);cases d;exact pP [(0,0),(1,1),(2,2),(6,6),(7,3),(8,4),(9,5)]
 rw[aTs hfn] at d;clear hfn;by_cases hfn:bC=some 121
 .subst hfn;rw[aTr rfl] at d;refine zJ 0 (0,(3,aQ),(4,aS)) (x2:=(aA,(aB,((aC,(aD,(aE,((some (3,aQ)),(aG,(aH,((some (4,aS)),()))))))),((some 5),((some 6),((0,0,(3,aQ),(4,aS)),aM))))))) rfl qG ?_
  obtain⟨bQ,hal27,hAhal27⟩:=AL d;subst hal27;obtain⟨bR,hal28,hAhal28⟩:=AL hAhal27;subst hal28;rw[show s8 9 .str (some bQ:Option pN) aQ= .row 9 .str bQ aQ from rfl];rw[show s8 110 rW (some bR:Option (List r7)) aS= .row 110 rW bR aS from rfl];refine AM 3 rfl fun hln=>?_;subst hln;refine AM 4 rfl fun hln=>?_;subst hln;have d:=hAhal28;obtain⟨P,d⟩:=qR d;obtain⟨bS,hv30,hw30,d⟩:=rS d
  try simp only[go_sem] at hw30
  refine rV yR ?_ (hp:=by exact⟨P,qC,qC,qC,qC,qC,qC,qC,qC,qC,qC,qC,(rR hv30)⟩) (h:=by simp only[go_sem,hw30];rfl)
  refine qT (qY ?_);cases d;exact pP [(0,0),(1,1),(2,2),(6,6),(7,3),(8,4),(9,5)]
 rw[aTs hfn] at d;clear hfn;by_cases hfn:bC=some 122
 .subst hfn;rw[aTr rfl] at d;refine zJ 0 (0,(3,aQ),(4,aS)) (x2:=(aA,(aB,((aC,(aD,(aE,((some (3,aQ)),(aG,(aH,((some (4,aS)),()))))))),((some 5),((some 6),((0,0,(3,aQ),(4,aS)),aM))))))) rfl qG ?_
  obtain⟨bT,hal31,hAhal31⟩:=AL d;subst hal31;obtain⟨bU,hal32,hAhal32⟩:=AL hAhal31;subst hal32;rw[show s8 9 .str (some bT:Option pN) aQ= .row 9 .str bT aQ from rfl];rw[show s8 110 rW (some bU:Option (List r7)) aS= .row 110 rW bU aS from rfl];refine AM 3 rfl fun hln=>?_;subst hln;refine AM 4 rfl fun hln=>?_;subst hln;have d:=hAhal32;obtain⟨M,d⟩:=qR d;obtain⟨bV,hv34,hw34,d⟩:=rS d
  try simp only[go_sem] at hw34
  refine rV yR ?_ (hp:=by exact⟨M,qC,qC,qC,qC,qC,qC,qC,qC,qC,qC,qC,(rR hv34)⟩) (h:=by simp only[go_sem,hw34];rfl)
  refine qT (qY ?_);cases d;exact pP [(0,0),(1,1),(2,2),(6,6),(7,3),(8,4),(9,5)]
 rw[aTs hfn] at d;clear hfn;cases d
attribute [irreducible] uN
end
noncomputable section
def zN (O:sK) (Z:Int) (aA:pM) (aB:pM) (aC:pM) (aD:pN) (aE:Int) (aF:(pW×Unit)) (aG:pM) (aH:Int) (aI:(Option pN)) (aJ:Nat) (aK:(Option (List r7))) (aL:Nat) (aM:pU):Option (pM×Int×pM×pU):=(EV aG).bind fun aN=>if (!aN.2)=true then none else if 0≤(0:Int)∧(0:Int)<(aN.1.length:Int) then if (qV rF aN.1 (0:Int)).1=true then (MF O Z aA aB aC aD aE aF aN.1 aI aJ aK aL aM).bind fun aO=>none else if ((decide (Z=(0:Int)))||(decide (Z=(2:Int))))=true then if ((B8 O Z aA aB aC aD aE aF aN.1 aI aJ aK aL aM)).isSome=true then (B8 O Z aA aB aC aD aE aF aN.1 aI aJ aK aL aM).bind fun aP=>some ((aP.1,aP.2.1,aP.2.2.1,aP.2.2.2)) else (JQ O Z aA aB aC aD aE aF aN.1 aI aJ aK aL aM).bind fun aQ=>none else if 0≤(0:Int)∧(0:Int)<(aN.1.length:Int) then if (decide ((qV rF aN.1 (0:Int)).2.1=([101,110,100]:pM)))=true then none else if 0≤(0:Int)∧(0:Int)<(aN.1.length:Int) then B2 (FT ((qV rF aN.1 (0:Int)).2.1)) fun aR=>if ((z8 aR.1)||((decide (Z=(1:Int)))&&(!aR.2)))=true then none else B2 aR.1 fun aS=>if aS=some 117 then none else if aS=some 118 then none else if aS=some 119 then none else if aS=some 120 then none else if aS=some 121 then none else if aS=some 122 then none else none else none else none else none
section
variable (O:pM) (Z:Int) (aA:sK) (aB:Int) (aC:pM) (aD:pM) (aE:pM) (aF:Nat) (aG:pN) (aH:Int) (aI:Nat) (aJ:Nat) (aK:Nat) (aL:(pW×Unit)) (aM:Nat) (aN:Nat) (aO:(Option pN)) (aP:Nat) (aQ:(Option (List r7))) (aR:Nat) (aS:pU)
abbrev XW:List qM:=[(.val .ref (some (0,0)),none),(.val .str O,none),(.val (.int .i64) Z,none)]
abbrev a7E:List qJ:=[.cells sL (aA,(aB,((aC,(aD,(aE,((some (3,aF)),(aG,(aH,((some (4,aI)),()))))))),(none,((some 5),((0,0,(3,aJ),(4,aK)),aL)))))) [(3,1),(15,2)],.grow 45 7 aM,.grow 3 1 aN,s8 9 .str aO aP,s8 110 rW aQ aR,.map .str .bool aS]
@[go_sem] def XX:qW:=⟨[aM=(aA.2.2.2.1.length),aN=(aL.1.length),aF=aP,aI=aR,aJ=aP,aK=aR,((zN aA aB aC aD aE aG aH aL O Z aO aP aQ aR aS)).isSome=true],[(.val (.int .i64) (0:Int),none)],[.cells sL (((val (zN aA aB aC aD aE aG aH aL O Z aO aP aQ aR aS)).1,(aA.2.1,(aA.2.2.1,(aA.2.2.2.1,())))),((val (zN aA aB aC aD aE aG aH aL O Z aO aP aQ aR aS)).2.1,(((val (zN aA aB aC aD aE aG aH aL O Z aO aP aQ aR aS)).2.2.1,(([]:pM),(([]:pM),((some (6,0)),(([]:pN),((0:Int),((some (7,0)),()))))))),((some 8),((some 5),((0,0,(6,0),(7,0)),(aL.1,()))))))) [(3,1),(9,9),(15,2)],.grow 45 7 (aA.2.2.2.1.length),.grow 3 1 (aL.1.length),s8 9 .str aO aP,s8 110 rW aQ aR,.map .str .bool ((val (zN aA aB aC aD aE aG aH aL O Z aO aP aQ aR aS)).2.2.2),.row 9 .str ([]:pN) 0,.row 110 rW ([]:List r7) 0,.map .str .bool ([]:pU),.grow 9 1 (([]:pN).length)]⟩
def a7F:List qM→List qJ→Option qW:=s5 (V:=(pM×Int×sK×Int×pM×pM×pM×Nat×pN×Int×Nat×Nat×Nat×(pW×Unit)×Nat×Nat×(Option pN)×Nat×(Option (List r7))×Nat×pU)) (fun x=>XW x.1 x.2.1) (fun x=>a7E x.2.2.1 x.2.2.2.1 x.2.2.2.2.1 x.2.2.2.2.2.1 x.2.2.2.2.2.2.1 x.2.2.2.2.2.2.2.1 x.2.2.2.2.2.2.2.2.1 x.2.2.2.2.2.2.2.2.2.1 x.2.2.2.2.2.2.2.2.2.2.1 x.2.2.2.2.2.2.2.2.2.2.2.1 x.2.2.2.2.2.2.2.2.2.2.2.2.1 x.2.2.2.2.2.2.2.2.2.2.2.2.2.1 x.2.2.2.2.2.2.2.2.2.2.2.2.2.2.1 x.2.2.2.2.2.2.2.2.2.2.2.2.2.2.2.1 x.2.2.2.2.2.2.2.2.2.2.2.2.2.2.2.2.1 x.2.2.2.2.2.2.2.2.2.2.2.2.2.2.2.2.2.1 x.2.2.2.2.2.2.2.2.2.2.2.2.2.2.2.2.2.2.1 x.2.2.2.2.2.2.2.2.2.2.2.2.2.2.2.2.2.2.2.1 x.2.2.2.2.2.2.2.2.2.2.2.2.2.2.2.2.2.2.2.2) fun x=>XX x.1 x.2.1 x.2.2.1 x.2.2.2.1 x.2.2.2.2.1 x.2.2.2.2.2.1 x.2.2.2.2.2.2.1 x.2.2.2.2.2.2.2.1 x.2.2.2.2.2.2.2.2.1 x.2.2.2.2.2.2.2.2.2.1 x.2.2.2.2.2.2.2.2.2.2.1 x.2.2.2.2.2.2.2.2.2.2.2.1 x.2.2.2.2.2.2.2.2.2.2.2.2.1 x.2.2.2.2.2.2.2.2.2.2.2.2.2.1 x.2.2.2.2.2.2.2.2.2.2.2.2.2.2.1 x.2.2.2.2.2.2.2.2.2.2.2.2.2.2.2.1 x.2.2.2.2.2.2.2.2.2.2.2.2.2.2.2.2.1 x.2.2.2.2.2.2.2.2.2.2.2.2.2.2.2.2.2.1 x.2.2.2.2.2.2.2.2.2.2.2.2.2.2.2.2.2.2.1 x.2.2.2.2.2.2.2.2.2.2.2.2.2.2.2.2.2.2.2.1 x.2.2.2.2.2.2.2.2.2.2.2.2.2.2.2.2.2.2.2.2
@[go_sem] def aND:a7F (no_index (XW O Z)) (no_index (a7E aA aB aC aD aE aF aG aH aI aJ aK aL aM aN aO aP aQ aR aS))=some (XX O Z aA aB aC aD aE aF aG aH aI aJ aK aL aM aN aO aP aQ aR aS):=sA (fun⟨a0,a1,a2,a3,a4,a5,a6,a7,a8,a9,a10,a11,a12,a13,a14,a15,a16,a17,a18,a19,a20⟩ ⟨b0,b1,b2,b3,b4,b5,b6,b7,b8,b9,b10,b11,b12,b13,b14,b15,b16,b17,b18,b19,b20⟩ h1 h2=>by cases h1;injection h2 with p0 h2;injection h2 with p1 h2;injection h2 with p2 h2;injection h2 with p3 h2;injection h2 with p4 h2;injection h2 with p5 h2;obtain⟨q3,r3⟩:=AK p3;cases q3;cases r3;obtain⟨q4,r4⟩:=AK p4;cases q4;cases r4;cases p0;cases p1;cases p2;cases p5;rfl) (O,Z,aA,aB,aC,aD,aE,aF,aG,aH,aI,aJ,aK,aL,aM,aN,aO,aP,aQ,aR,aS)
end
@[go_sem] def aTj (O:pM) (Z:Int) (aA:sK) (aB:Int) (aC:pM) (aD:pM) (aE:pM) (aF:Nat) (aG:pN) (aH:Int) (aI:Nat) (aJ:Nat) (aK:Nat) (aL:(pW×Unit)) (aM:Nat) (aN:Nat) (aO:pN) (aP:Nat) (aQ:List r7) (aR:Nat) (aS:pU):a7F (no_index (XW O Z)) (no_index ([.cells sL (aA,(aB,((aC,(aD,(aE,((some (3,aF)),(aG,(aH,((some (4,aI)),()))))))),(none,((some 5),((0,0,(3,aJ),(4,aK)),aL)))))) [(3,1),(15,2)],.grow 45 7 aM,.grow 3 1 aN,.row 9 .str aO aP,.row 110 rW aQ aR,.map .str .bool aS]:List qJ))=some (XX O Z aA aB aC aD aE aF aG aH aI aJ aK aL aM aN (some aO) aP (some aQ) aR aS):=aND O Z aA aB aC aD aE aF aG aH aI aJ aK aL aM aN (some aO) aP (some aQ) aR aS
@[go_sem] abbrev S0:Nat×rL:=(56,⟨[.p sL [3,15],.v,.v],a7F,[(0,8,.r),(0,11,.r),(0,13,.m)],[1,2,3,4],none⟩)
def aFS:rG prog [] (rH [BF,D4,HT,B7,B4,B5,BD,B9,BA,BB,B6]):=⟨trivial,qU MQ (qU ON (qU XJ (qU MC (qU M7 (qU M8 (qU ML (qU MI (qU MJ (qU MK (qU MA rX)))))))))),rM⟩
def EX:rG prog [w6,w7,sR,B3,v6,wP,wH,HE] (rH [BF,D4,HT,B7,B4,B5,BD,B9,BA,BB,B6]):=⟨⟨wN,⟨wO,⟨sU,⟨CU,⟨vM,⟨xN,⟨x7,⟨M0,trivial⟩⟩⟩⟩⟩⟩⟩⟩,aFS.Γ,rM⟩
def aNE:rG prog [] (rH [BF,D4,HT,B7,B4,B5,BD,B9,BA,BB,B6]):=⟨trivial,qU MQ (qU ON (qU XJ (qU MC (qU M7 (qU M8 (qU ML (qU MI (qU MJ (qU MK (qU MA rX)))))))))),rM⟩
def aFT:rG prog [w6,w7,sR,B3,v6,wP,wH,HE] (rH [BF,D4,HT,B7,B4,B5,BD,B9,BA,BB,B6]):=⟨⟨wN,⟨wO,⟨sU,⟨CU,⟨vM,⟨xN,⟨x7,⟨M0,trivial⟩⟩⟩⟩⟩⟩⟩⟩,aNE.Γ,rM⟩
def aNF:rG prog [] (rH [BF,D4,RN,B7,B4,B5,BD,B9,BA,BB,B6]):=⟨trivial,qU MQ (qU ON (qU aEL (qU MC (qU M7 (qU M8 (qU ML (qU MI (qU MJ (qU MK (qU MA rX)))))))))),rM⟩
def aNG:rG prog [w6,w7,sR,B3,v6,wP,wH,HE] (rH [BF,D4,RN,B7,B4,B5,BD,B9,BA,BB,B6]):=⟨⟨wN,⟨wO,⟨sU,⟨CU,⟨vM,⟨xN,⟨x7,⟨M0,trivial⟩⟩⟩⟩⟩⟩⟩⟩,aNF.Γ,rM⟩
def aFU:rU prog S0:=by
 refine sB aFS func56 (c:=_) rfl (N:=81) qD (ts:=[(6,none)]) rfl (fun _ _=>rfl) ?_ (h3:=by intro _;repeat (first|exact trivial|refine JE rfl ?_ |refine ⟨rfl,?_⟩))
 intro⟨O,Z,aA,aB,aC,aD,aE,aF,aG,aH,aI,aJ,aK,aL,aM,aN,aO,aP,aQ,aR,aS⟩ hs hrow;dsimp only[XW,a7E,XX,rY,r5,rE,rO,rZ,Nat.reduceAdd] at hs hrow|-;obtain⟨rfl,rfl,hps2,hps3,hps4,hps5,hz⟩:=hs;obtain rfl:=hps2.symm;obtain rfl:=hps3.symm;obtain rfl:=hps4.symm;obtain rfl:=hps5.symm;obtain⟨z0,d⟩:=aTw.1 hz
 try rw[sG d]
 clear hz;unfold zN at d;refine qK EX ?_;obtain⟨aT,hv1,hw1,d⟩:=rS d
 try simp only[go_sem] at hw1
 refine qK EX ?_ (hp:=by exact(rR hv1)) (h:=by simp only[go_sem,hw1];rfl);refine qZ (sJ (qK EX ?_));refine r8 d ?_ ?_<;>intro d Y
 .refine qZ (rV EX ?_);cases d
 obtain⟨X,d⟩:=qR d;refine qK EX ?_ (hp:=by exact X);refine r8 d ?_ ?_<;>intro d Y
 .refine qZ ?_;obtain⟨aU,hv3,hw3,d⟩:=rS d
  try simp only[go_sem] at hw3
  refine rV aFT ?_ (hp:=by exact⟨qC,qC,qC,qC,qC,qC,qC,qC,qC,qC,qC,(rR hv3)⟩) (h:=by simp only[go_sem,hw3];rfl)
  cases d
 refine rD (sM (qT (qK EX ?_)));refine qZ (qK EX ?_ (hp:=by exact⟨id,id,id,id,tX⟩));refine r8 d ?_ ?_<;>intro d Y
 .refine qZ (zJ 0 (0,(3,aP),(4,aR)) (x2:=(aA,(aB,((aC,(aD,(aE,((some (3,aP)),(aG,(aH,((some (4,aR)),()))))))),(none,((some 5),((0,0,(3,aP),(4,aR)),aL))))))) rfl qG ?_)
  by_cases hva4:((B8 aA aB aC aD aE aG aH aL aT.1 aO aP aQ aR aS)).isSome=true
  .rw[aTr hva4] at d;obtain⟨aV,hv4,hw4,d⟩:=rS d
   try simp only[go_sem] at hw4
   refine rV aFT ?_ (hp:=by exact⟨qC,qC,qC,qC,qC,qC,qC,qC,qC,qC,(rR hv4)⟩) (h:=by simp only[go_sem,hw4];rfl)
   refine qT (qY (rI ?_));cases d;exact pP [(0,0),(1,1),(2,2),(3,3),(4,4),(5,5),(6,1100),(7,1101),(8,1102),(9,1103)]
  rw[aTs hva4] at d;obtain⟨aW,hv5,hw5,d⟩:=rS d
  try simp only[go_sem] at hw5
  refine rV aNG ?_ (hp:=by exact⟨qC,qC,qC,qC,qC,qC,qC,qC,qC,qC,qC,(rR hv5)⟩) (h:=by simp only[go_sem,hw5];rfl)
  cases d
 refine rD (qT (qZ ?_));obtain⟨W,d⟩:=qR d;refine qK EX ?_ (hp:=by exact W);refine r8 d ?_ ?_<;>intro d Y
 .cases d
 refine rD (qT ?_);obtain⟨V,d⟩:=qR d;obtain⟨aX,hw_46,d⟩:=QV d
 try simp only[go_sem] at hw_46
 refine qK EX ?_ (hp:=by exact V) (h:=by simp only[go_sem,hw_46];rfl);refine qZ (qK EX ?_ (hp:=by exact⟨id,id,id,id,id,id,id,fun hG e=>J6 hG e,tX⟩));refine r8 d ?_ ?_<;>intro d Y
 .refine qZ (rV EX ?_);cases d
 refine rD (qT (qZ ?_));replace d:=a1X d;generalize aX.1=aY at d|-;by_cases hfn:aY=some 117
 .subst hfn;rw[aTr rfl] at d;cases d
 rw[aTs hfn] at d;clear hfn;by_cases hfn:aY=some 118
 .subst hfn;rw[aTr rfl] at d;cases d
 rw[aTs hfn] at d;clear hfn;by_cases hfn:aY=some 119
 .subst hfn;rw[aTr rfl] at d;cases d
 rw[aTs hfn] at d;clear hfn;by_cases hfn:aY=some 120
 .subst hfn;rw[aTr rfl] at d;cases d
 rw[aTs hfn] at d;clear hfn;by_cases hfn:aY=some 121
 .subst hfn;rw[aTr rfl] at d;cases d
 rw[aTs hfn] at d;clear hfn;by_cases hfn:aY=some 122
 .subst hfn;rw[aTr rfl] at d;cases d
 rw[aTs hfn] at d;clear hfn;cases d
attribute [irreducible] zN
end
noncomputable section
def G0 (O:sK) (Z:Int) (aA:pM) (aB:pM) (aC:pM) (aD:pN) (aE:Int) (aF:(pW×Unit)) (aG:pM) (aH:Int) (aI:(Option pN)) (aJ:Nat) (aK:(Option (List r7))) (aL:Nat) (aM:pU):Option Int:=(EV aG).bind fun aN=>if (!aN.2)=true then some ((3:Int)) else if 0≤(0:Int)∧(0:Int)<(aN.1.length:Int) then if (qV rF aN.1 (0:Int)).1=true then (MF O Z aA aB aC aD aE aF aN.1 aI aJ aK aL aM).bind fun aO=>some (aO) else if ((decide (Z=(0:Int)))||(decide (Z=(2:Int))))=true then if ((B8 O Z aA aB aC aD aE aF aN.1 aI aJ aK aL aM)).isSome=true then (B8 O Z aA aB aC aD aE aF aN.1 aI aJ aK aL aM).bind fun aP=>none else (JQ O Z aA aB aC aD aE aF aN.1 aI aJ aK aL aM).bind fun aQ=>some (aQ) else if 0≤(0:Int)∧(0:Int)<(aN.1.length:Int) then if (decide ((qV rF aN.1 (0:Int)).2.1=([101,110,100]:pM)))=true then none else if 0≤(0:Int)∧(0:Int)<(aN.1.length:Int) then B2 (FT ((qV rF aN.1 (0:Int)).2.1)) fun aR=>if ((z8 aR.1)||((decide (Z=(1:Int)))&&(!aR.2)))=true then some ((3:Int)) else B2 aR.1 fun aS=>if aS=some 117 then none else if aS=some 118 then none else if aS=some 119 then none else if aS=some 120 then none else if aS=some 121 then none else if aS=some 122 then none else none else none else none else none
section
variable (O:pM) (Z:Int) (aA:sK) (aB:Int) (aC:pM) (aD:pM) (aE:pM) (aF:Nat) (aG:pN) (aH:Int) (aI:Nat) (aJ:Nat) (aK:Nat) (aL:(pW×Unit)) (aM:Nat) (aN:Nat) (aO:(Option pN)) (aP:Nat) (aQ:(Option (List r7))) (aR:Nat) (aS:pU)
abbrev XY:List qM:=[(.val .ref (some (0,0)),none),(.val .str O,none),(.val (.int .i64) Z,none)]
abbrev a7G:List qJ:=[.cells sL (aA,(aB,((aC,(aD,(aE,((some (3,aF)),(aG,(aH,((some (4,aI)),()))))))),(none,((some 5),((0,0,(3,aJ),(4,aK)),aL)))))) [(3,1),(15,2)],.grow 45 7 aM,.grow 3 1 aN,s8 9 .str aO aP,s8 110 rW aQ aR,.map .str .bool aS]
@[go_sem] def XZ:qW:=⟨[aM=(aA.2.2.2.1.length),aN=(aL.1.length),aF=aP,aI=aR,aJ=aP,aK=aR,((G0 aA aB aC aD aE aG aH aL O Z aO aP aQ aR aS)).isSome=true],[(.val (.int .i64) (val (G0 aA aB aC aD aE aG aH aL O Z aO aP aQ aR aS)),none)],[.cells sL ((aA.1,(aA.2.1,(aA.2.2.1,(aA.2.2.2.1,())))),(aB,((aC,(aD,(aE,((some (3,aP)),(aG,(aH,((some (4,aR)),()))))))),(none,((some 5),((0,0,(3,aP),(4,aR)),(aL.1,()))))))) [(3,1),(15,2)],.grow 45 7 (aA.2.2.2.1.length),.grow 3 1 (aL.1.length),s8 9 .str aO aP,s8 110 rW aQ aR,.map .str .bool aS]⟩
def a7H:List qM→List qJ→Option qW:=s5 (V:=(pM×Int×sK×Int×pM×pM×pM×Nat×pN×Int×Nat×Nat×Nat×(pW×Unit)×Nat×Nat×(Option pN)×Nat×(Option (List r7))×Nat×pU)) (fun x=>XY x.1 x.2.1) (fun x=>a7G x.2.2.1 x.2.2.2.1 x.2.2.2.2.1 x.2.2.2.2.2.1 x.2.2.2.2.2.2.1 x.2.2.2.2.2.2.2.1 x.2.2.2.2.2.2.2.2.1 x.2.2.2.2.2.2.2.2.2.1 x.2.2.2.2.2.2.2.2.2.2.1 x.2.2.2.2.2.2.2.2.2.2.2.1 x.2.2.2.2.2.2.2.2.2.2.2.2.1 x.2.2.2.2.2.2.2.2.2.2.2.2.2.1 x.2.2.2.2.2.2.2.2.2.2.2.2.2.2.1 x.2.2.2.2.2.2.2.2.2.2.2.2.2.2.2.1 x.2.2.2.2.2.2.2.2.2.2.2.2.2.2.2.2.1 x.2.2.2.2.2.2.2.2.2.2.2.2.2.2.2.2.2.1 x.2.2.2.2.2.2.2.2.2.2.2.2.2.2.2.2.2.2.1 x.2.2.2.2.2.2.2.2.2.2.2.2.2.2.2.2.2.2.2.1 x.2.2.2.2.2.2.2.2.2.2.2.2.2.2.2.2.2.2.2.2) fun x=>XZ x.1 x.2.1 x.2.2.1 x.2.2.2.1 x.2.2.2.2.1 x.2.2.2.2.2.1 x.2.2.2.2.2.2.1 x.2.2.2.2.2.2.2.1 x.2.2.2.2.2.2.2.2.1 x.2.2.2.2.2.2.2.2.2.1 x.2.2.2.2.2.2.2.2.2.2.1 x.2.2.2.2.2.2.2.2.2.2.2.1 x.2.2.2.2.2.2.2.2.2.2.2.2.1 x.2.2.2.2.2.2.2.2.2.2.2.2.2.1 x.2.2.2.2.2.2.2.2.2.2.2.2.2.2.1 x.2.2.2.2.2.2.2.2.2.2.2.2.2.2.2.1 x.2.2.2.2.2.2.2.2.2.2.2.2.2.2.2.2.1 x.2.2.2.2.2.2.2.2.2.2.2.2.2.2.2.2.2.1 x.2.2.2.2.2.2.2.2.2.2.2.2.2.2.2.2.2.2.1 x.2.2.2.2.2.2.2.2.2.2.2.2.2.2.2.2.2.2.2.1 x.2.2.2.2.2.2.2.2.2.2.2.2.2.2.2.2.2.2.2.2
@[go_sem] def aNH:a7H (no_index (XY O Z)) (no_index (a7G aA aB aC aD aE aF aG aH aI aJ aK aL aM aN aO aP aQ aR aS))=some (XZ O Z aA aB aC aD aE aF aG aH aI aJ aK aL aM aN aO aP aQ aR aS):=sA (fun⟨a0,a1,a2,a3,a4,a5,a6,a7,a8,a9,a10,a11,a12,a13,a14,a15,a16,a17,a18,a19,a20⟩ ⟨b0,b1,b2,b3,b4,b5,b6,b7,b8,b9,b10,b11,b12,b13,b14,b15,b16,b17,b18,b19,b20⟩ h1 h2=>by cases h1;injection h2 with p0 h2;injection h2 with p1 h2;injection h2 with p2 h2;injection h2 with p3 h2;injection h2 with p4 h2;injection h2 with p5 h2;obtain⟨q3,r3⟩:=AK p3;cases q3;cases r3;obtain⟨q4,r4⟩:=AK p4;cases q4;cases r4;cases p0;cases p1;cases p2;cases p5;rfl) (O,Z,aA,aB,aC,aD,aE,aF,aG,aH,aI,aJ,aK,aL,aM,aN,aO,aP,aQ,aR,aS)
end
@[go_sem] def aTk (O:pM) (Z:Int) (aA:sK) (aB:Int) (aC:pM) (aD:pM) (aE:pM) (aF:Nat) (aG:pN) (aH:Int) (aI:Nat) (aJ:Nat) (aK:Nat) (aL:(pW×Unit)) (aM:Nat) (aN:Nat) (aO:pN) (aP:Nat) (aQ:List r7) (aR:Nat) (aS:pU):a7H (no_index (XY O Z)) (no_index ([.cells sL (aA,(aB,((aC,(aD,(aE,((some (3,aF)),(aG,(aH,((some (4,aI)),()))))))),(none,((some 5),((0,0,(3,aJ),(4,aK)),aL)))))) [(3,1),(15,2)],.grow 45 7 aM,.grow 3 1 aN,.row 9 .str aO aP,.row 110 rW aQ aR,.map .str .bool aS]:List qJ))=some (XZ O Z aA aB aC aD aE aF aG aH aI aJ aK aL aM aN (some aO) aP (some aQ) aR aS):=aNH O Z aA aB aC aD aE aF aG aH aI aJ aK aL aM aN (some aO) aP (some aQ) aR aS
@[go_sem] abbrev S1:Nat×rL:=(56,⟨[.p sL [3,15],.v,.v],a7H,[(0,8,.r),(0,11,.r),(0,13,.m)],[1,2,3,4,5],none⟩)
def aFV:rG prog [] (rH [BF,D4,HT,B7,B4,B5,BD,B9,BA,BB,B6]):=⟨trivial,qU MQ (qU ON (qU XJ (qU MC (qU M7 (qU M8 (qU ML (qU MI (qU MJ (qU MK (qU MA rX)))))))))),rM⟩
def EY:rG prog [w6,w7,sR,B3,v6,wP,wH,HE] (rH [BF,D4,HT,B7,B4,B5,BD,B9,BA,BB,B6]):=⟨⟨wN,⟨wO,⟨sU,⟨CU,⟨vM,⟨xN,⟨x7,⟨M0,trivial⟩⟩⟩⟩⟩⟩⟩⟩,aFV.Γ,rM⟩
def aNI:rG prog [] (rH [BF,D4,HT,B7,B4,B5,BD,B9,BA,BB,B6]):=⟨trivial,qU MQ (qU ON (qU XJ (qU MC (qU M7 (qU M8 (qU ML (qU MI (qU MJ (qU MK (qU MA rX)))))))))),rM⟩
def aFW:rG prog [w6,w7,sR,B3,v6,wP,wH,HE] (rH [BF,D4,HT,B7,B4,B5,BD,B9,BA,BB,B6]):=⟨⟨wN,⟨wO,⟨sU,⟨CU,⟨vM,⟨xN,⟨x7,⟨M0,trivial⟩⟩⟩⟩⟩⟩⟩⟩,aNI.Γ,rM⟩
def aNJ:rG prog [] (rH [BF,D4,RN,B7,B4,B5,BD,B9,BA,BB,B6]):=⟨trivial,qU MQ (qU ON (qU aEL (qU MC (qU M7 (qU M8 (qU ML (qU MI (qU MJ (qU MK (qU MA rX)))))))))),rM⟩
def aNK:rG prog [w6,w7,sR,B3,v6,wP,wH,HE] (rH [BF,D4,RN,B7,B4,B5,BD,B9,BA,BB,B6]):=⟨⟨wN,⟨wO,⟨sU,⟨CU,⟨vM,⟨xN,⟨x7,⟨M0,trivial⟩⟩⟩⟩⟩⟩⟩⟩,aNJ.Γ,rM⟩
def aFX:rU prog S1:=by
 refine sB aFV func56 (c:=_) rfl (N:=81) qD (ts:=[(6,none)]) rfl (fun _ _=>rfl) ?_ (h3:=by intro _;repeat (first|exact trivial|refine JE rfl ?_ |refine ⟨rfl,?_⟩))
 intro⟨O,Z,aA,aB,aC,aD,aE,aF,aG,aH,aI,aJ,aK,aL,aM,aN,aO,aP,aQ,aR,aS⟩ hs hrow;dsimp only[XY,a7G,XZ,rY,r5,rE,rO,rZ,Nat.reduceAdd] at hs hrow|-;obtain⟨rfl,rfl,hps2,hps3,hps4,hps5,hz⟩:=hs;obtain rfl:=hps2.symm;obtain rfl:=hps3.symm;obtain rfl:=hps4.symm;obtain rfl:=hps5.symm;obtain⟨z0,d⟩:=aTw.1 hz
 try rw[sG d]
 clear hz;unfold G0 at d;refine qK EY ?_;obtain⟨aT,hv1,hw1,d⟩:=rS d
 try simp only[go_sem] at hw1
 refine qK EY ?_ (hp:=by exact(rR hv1)) (h:=by simp only[go_sem,hw1];rfl);refine qZ (sJ (qK EY ?_));refine r8 d ?_ ?_<;>intro d Y
 .refine qK EY ?_;refine qY (sH (rI ?_));cases d;exact pP [(0,0),(1,1),(2,2),(3,3),(4,4),(5,5)]
 obtain⟨X,d⟩:=qR d;refine qK EY ?_ (hp:=by exact X);refine r8 d ?_ ?_<;>intro d Y
 .obtain⟨aU,hv3,hw3,d⟩:=rS d
  try simp only[go_sem] at hw3
  refine qK aFW ?_ (hp:=by exact⟨qC,qC,qC,qC,qC,qC,qC,qC,qC,qC,qC,(rR hv3)⟩) (h:=by simp only[go_sem,hw3];rfl)
  refine qY (sH (rI ?_));cases d;exact pP [(0,0),(1,1),(2,2),(3,3),(4,4),(5,5)]
 refine rD (sM (qT (qK EY ?_)));refine qZ (qK EY ?_ (hp:=by exact⟨id,id,id,id,tX⟩));refine r8 d ?_ ?_<;>intro d Y
 .refine qZ (zJ 0 (0,(3,aP),(4,aR)) (x2:=(aA,(aB,((aC,(aD,(aE,((some (3,aP)),(aG,(aH,((some (4,aR)),()))))))),(none,((some 5),((0,0,(3,aP),(4,aR)),aL))))))) rfl qG ?_)
  by_cases hva4:((B8 aA aB aC aD aE aG aH aL aT.1 aO aP aQ aR aS)).isSome=true
  .rw[aTr hva4] at d;obtain⟨aV,hv4,hw4,d⟩:=rS d
   try simp only[go_sem] at hw4
   refine rV aFW ?_ (hp:=by exact⟨qC,qC,qC,qC,qC,qC,qC,qC,qC,qC,(rR hv4)⟩) (h:=by simp only[go_sem,hw4];rfl)
   cases d
  rw[aTs hva4] at d;obtain⟨aW,hv5,hw5,d⟩:=rS d
  try simp only[go_sem] at hw5
  refine rV aNK ?_ (hp:=by exact⟨qC,qC,qC,qC,qC,qC,qC,qC,qC,qC,qC,(rR hv5)⟩) (h:=by simp only[go_sem,hw5];rfl)
  refine qT (qY (rI ?_));cases d;exact pP [(0,0),(1,1),(2,2),(3,3),(4,4),(5,5)]
 refine rD (qT (qZ ?_));obtain⟨W,d⟩:=qR d;refine qK EY ?_ (hp:=by exact W);refine r8 d ?_ ?_<;>intro d Y
 .cases d
 refine rD (qT ?_);obtain⟨V,d⟩:=qR d;obtain⟨aX,hw_43,d⟩:=QV d
 try simp only[go_sem] at hw_43
 refine qK EY ?_ (hp:=by exact V) (h:=by simp only[go_sem,hw_43];rfl);refine qZ (qK EY ?_ (hp:=by exact⟨id,id,id,id,id,id,id,fun hG e=>J6 hG e,tX⟩));refine r8 d ?_ ?_<;>intro d Y
 .refine qK EY ?_;refine zJ 0 (0,(3,aP),(4,aR)) (x2:=(aA,(aB,((aC,(aD,(aE,((some (3,aP)),(aG,(aH,((some (4,aR)),()))))))),(none,((some 5),((0,0,(3,aP),(4,aR)),aL))))))) rfl qG ?_
  refine qY (rI ?_);cases d;exact pP [(0,0),(1,1),(2,2),(3,3),(4,4),(5,5)]
 refine rD (qT (qZ ?_));replace d:=a1X d;generalize aX.1=aY at d|-;by_cases hfn:aY=some 117
 .subst hfn;rw[aTr rfl] at d;cases d
 rw[aTs hfn] at d;clear hfn;by_cases hfn:aY=some 118
 .subst hfn;rw[aTr rfl] at d;cases d
 rw[aTs hfn] at d;clear hfn;by_cases hfn:aY=some 119
 .subst hfn;rw[aTr rfl] at d;cases d
 rw[aTs hfn] at d;clear hfn;by_cases hfn:aY=some 120
 .subst hfn;rw[aTr rfl] at d;cases d
 rw[aTs hfn] at d;clear hfn;by_cases hfn:aY=some 121
 .subst hfn;rw[aTr rfl] at d;cases d
 rw[aTs hfn] at d;clear hfn;by_cases hfn:aY=some 122
 .subst hfn;rw[aTr rfl] at d;cases d
 rw[aTs hfn] at d;clear hfn;cases d
attribute [irreducible] G0
end
noncomputable section
def AN (O:pM):(Int⊕(Int×pM×pN×(List r7)×(List tA)×Int×pM×pM×pM×pN×Int×Nat×pW×(Option pN)×Nat×(Option (List r7))×Nat×pU×pU))→Option ((Int⊕(Int×pM×pN×(List r7)×(List tA)×Int×pM×pM×pM×pN×Int×Nat×pW×(Option pN)×Nat×(Option (List r7))×Nat×pU×pU))⊕(pM×pN×(List r7)×(List tA)×Int×pM×pM×pM×pN×Int×Nat×pW×(Option pN)×Nat×(Option (List r7))×Nat×pU×pU)):=fun x=>match x with
 | .inl Z=>
  if (decide (Z<(O.length:Int)))=true then
   if 0≤Z∧Z≤(O.length:Int)∧(O.length:Int)≤(O.length:Int) then
    (D0 (s7 O Z (O.length:Int)) ([10]:pM)).bind fun aA=>
    if qP (Z+(aA.1.length:Int)) then
     if qP ((Z+(aA.1.length:Int))+(1:Int)) then
      (HF aA.1).bind fun aB=>
      if (!((decide ((Lib.trimLeftS aA.1 ([32,9]:pM))=([]:pM)))||(decide ((sX (Lib.trimLeftS aA.1 ([32,9]:pM)) (0:Int))=(35:Int)))))=true then
       if ((zN (([]:pM),(([]:pN),(([]:List r7),(([]:List tA),())))) (0:Int) ([]:pM) ([]:pM) ([]:pM) ([]:pN) (0:Int) (([]:pW),()) aA.1 (min (O.length:Int) ((Z+(aA.1.length:Int))+(1:Int))) (some ([]:pN)) 0 (some ([]:List r7)) 0 ([]:pU))).isSome=true then
        (zN (([]:pM),(([]:pN),(([]:List r7),(([]:List tA),())))) (0:Int) ([]:pM) ([]:pM) ([]:pM) ([]:pN) (0:Int) (([]:pW),()) aA.1 (min (O.length:Int) ((Z+(aA.1.length:Int))+(1:Int))) (some ([]:pN)) 0 (some ([]:List r7)) 0 ([]:pU)).bind fun aC=>
        if (!decide ((0:Int)=(0:Int)))=true then
         none
        else
         some (.inl (.inr ((min (O.length:Int) ((Z+(aA.1.length:Int))+(1:Int))),aC.1,([]:pN),([]:List r7),([]:List tA),aC.2.1,aC.2.2.1,([]:pM),([]:pM),([]:pN),(0:Int),0,([]:pW),(some ([]:pN)),0,(some ([]:List r7)),0,([]:pU),aC.2.2.2)))
       else
        (G0 (([]:pM),(([]:pN),(([]:List r7),(([]:List tA),())))) (0:Int) ([]:pM) ([]:pM) ([]:pM) ([]:pN) (0:Int) (([]:pW),()) aA.1 (min (O.length:Int) ((Z+(aA.1.length:Int))+(1:Int))) (some ([]:pN)) 0 (some ([]:List r7)) 0 ([]:pU)).bind fun aD=>
        if (!decide (aD=(0:Int)))=true then
         none
        else
         some (.inl (.inl (min (O.length:Int) ((Z+(aA.1.length:Int))+(1:Int)))))
      else
       some (.inl (.inl (min (O.length:Int) ((Z+(aA.1.length:Int))+(1:Int)))))
     else none
    else none
   else none
  else
   if (!decide ((0:Int)=(2:Int)))=true then
    none
   else
    none
 | .inr (aE,aF,aG,aH,aI,aJ,aK,aL,aM,aN,aO,aP,aQ,aR,aS,aT,aU,aV,aW)=>
  if (decide (aE<(O.length:Int)))=true then
   if 0≤aE∧aE≤(O.length:Int)∧(O.length:Int)≤(O.length:Int) then
    (D0 (s7 O aE (O.length:Int)) ([10]:pM)).bind fun aX=>
    if qP (aE+(aX.1.length:Int)) then
     if qP ((aE+(aX.1.length:Int))+(1:Int)) then
      (HF aX.1).bind fun aY=>
      if (!((decide ((Lib.trimLeftS aX.1 ([32,9]:pM))=([]:pM)))||(decide ((sX (Lib.trimLeftS aX.1 ([32,9]:pM)) (0:Int))=(35:Int)))))=true then
       (uN (aF,(aG,(aH,(aI,())))) aJ aK aL aM aN aO aP (aQ,()) aX.1 (min (O.length:Int) ((aE+(aX.1.length:Int))+(1:Int))) aR aS aT aU aV aW).bind fun aZ=>
       if (!decide (aZ.1=(0:Int)))=true then
        none
       else
        some (.inl (.inr ((min (O.length:Int) ((aE+(aX.1.length:Int))+(1:Int))),aZ.2.1,aZ.2.2.1,aZ.2.2.2.1,aZ.2.2.2.2.1,aZ.2.2.2.2.2.1,aZ.2.2.2.2.2.2.1,aZ.2.2.2.2.2.2.2.1,aZ.2.2.2.2.2.2.2.2.1,aZ.2.2.2.2.2.2.2.2.2.1,aZ.2.2.2.2.2.2.2.2.2.2.1,aZ.2.2.2.2.2.2.2.2.2.2.2.1,aZ.2.2.2.2.2.2.2.2.2.2.2.2.1,aZ.2.2.2.2.2.2.2.2.2.2.2.2.2.2.1,aZ.2.2.2.2.2.2.2.2.2.2.2.2.2.2.2.1,aZ.2.2.2.2.2.2.2.2.2.2.2.2.2.2.2.2.1,aZ.2.2.2.2.2.2.2.2.2.2.2.2.2.2.2.2.2.1,aZ.2.2.2.2.2.2.2.2.2.2.2.2.2.2.2.2.2.2,aZ.2.2.2.2.2.2.2.2.2.2.2.2.2.1)))
      else
       some (.inl (.inr ((min (O.length:Int) ((aE+(aX.1.length:Int))+(1:Int))),aF,aG,aH,aI,aJ,aK,aL,aM,aN,aO,aP,aQ,aR,aS,aT,aU,aV,aW)))
     else none
    else none
   else none
  else
   if (!decide (aJ=(2:Int)))=true then
    none
   else
    some (.inr ((aF,aG,aH,aI,aJ,aK,aL,aM,aN,aO,aP,aQ,aR,aS,aT,aU,aV,aW)))
def uE (O:pM):Option (pM×pN×(List r7)×(List tA)×Int×pM×pM×pM×pN×Int×Nat×pW×(Option pN)×Nat×(Option (List r7))×Nat×pU×pU):=sF (AN O) (.inl (0:Int))
section
variable (O:pM)
abbrev a7I:List qM:=[(.val .str O,none)]
abbrev a7J:List qJ:=[]
@[go_sem] def a7K:qW:=⟨[((uE O)).isSome=true],[(.val .ref (some (0,0)),none),(.val (.int .i64) (0:Int),none),(.val (.int .i64) (0:Int),none)],[.cells sL (((val (uE O)).1,((val (uE O)).2.1,((val (uE O)).2.2.1,((val (uE O)).2.2.2.1,())))),((val (uE O)).2.2.2.2.1,(((val (uE O)).2.2.2.2.2.1,((val (uE O)).2.2.2.2.2.2.1,((val (uE O)).2.2.2.2.2.2.2.1,((some (1,(val (uE O)).2.2.2.2.2.2.2.2.2.2.2.2.2.1)),((val (uE O)).2.2.2.2.2.2.2.2.1,((val (uE O)).2.2.2.2.2.2.2.2.2.1,((some (2,(val (uE O)).2.2.2.2.2.2.2.2.2.2.2.2.2.2.2.1)),()))))))),((some 3),((some 4),(((val (uE O)).2.2.2.2.2.2.2.2.2.2.1,0,(1,(val (uE O)).2.2.2.2.2.2.2.2.2.2.2.2.2.1),(2,(val (uE O)).2.2.2.2.2.2.2.2.2.2.2.2.2.2.2.1)),((val (uE O)).2.2.2.2.2.2.2.2.2.2.2.1,()))))))) [(3,5),(15,6)],s8 9 .str ((val (uE O)).2.2.2.2.2.2.2.2.2.2.2.2.1) ((val (uE O)).2.2.2.2.2.2.2.2.2.2.2.2.2.1),s8 110 rW ((val (uE O)).2.2.2.2.2.2.2.2.2.2.2.2.2.2.1) ((val (uE O)).2.2.2.2.2.2.2.2.2.2.2.2.2.2.2.1),.map .str .bool ((val (uE O)).2.2.2.2.2.2.2.2.2.2.2.2.2.2.2.2.1),.map .str .bool ((val (uE O)).2.2.2.2.2.2.2.2.2.2.2.2.2.2.2.2.2),.grow 45 7 (((val (uE O)).2.2.2.1).length),.grow 3 1 (((val (uE O)).2.2.2.2.2.2.2.2.2.2.2.1).length)]⟩
def aFY:List qM→List qJ→Option qW:=s5 (V:=pM) (a7I) (fun x=>a7J) fun x=>a7K x
@[go_sem] def aTl:aFY (no_index (a7I O)) (no_index a7J)=some (a7K O):=sA (fun a0 b0 h1 h2=>by cases h1;cases h2;rfl) O
end
@[go_sem] abbrev S2:Nat×rL:=(29,⟨[.v],aFY,[],[],none⟩)
def a7L:rG prog [] (rH [D1,CW,RZ]):=⟨trivial,qU OK (qU OA (qU aFR rX)),rM⟩
def vQ:rG prog [w6,w7,sR,CV,v6] (rH [D1,CW,RZ]):=⟨⟨wN,⟨wO,⟨sU,⟨EL,⟨vM,trivial⟩⟩⟩⟩⟩,a7L.Γ,rM⟩
def aNL:rG prog [] (rH [D1,CW,S0]):=⟨trivial,qU OK (qU OA (qU aFU rX)),rM⟩
def aNM:rG prog [w6,w7,sR,CV,v6] (rH [D1,CW,S0]):=⟨⟨wN,⟨wO,⟨sU,⟨EL,⟨vM,trivial⟩⟩⟩⟩⟩,aNL.Γ,rM⟩
def aNN:rG prog [] (rH [D1,CW,S1]):=⟨trivial,qU OK (qU OA (qU aFX rX)),rM⟩
def aNO:rG prog [w6,w7,sR,CV,v6] (rH [D1,CW,S1]):=⟨⟨wN,⟨wO,⟨sU,⟨EL,⟨vM,trivial⟩⟩⟩⟩⟩,aNN.Γ,rM⟩
def aFZ:rU prog S2:=by
 refine sB a7L func29 (c:=_) rfl (N:=55) qD (ts:=[(2,none),(3,none),(4,none)]) rfl (fun _ _=>rfl) ?_;intro O hs hrow;dsimp only[a7I,a7J,a7K,rY,r5,rE,rO,rZ,Nat.reduceAdd] at hs hrow|-;have hz:=hs;obtain⟨z0,f⟩:=aTw.1 hz
 try rw[sG f]
 clear hz hs;unfold uE at f;refine qK a7L ?_;refine qK vQ ?_;refine qZ (qK vQ ?_);refine sJ (zJ 160 (160,(166,0),(167,0)) (x2:=((([]:pM),(([]:pN),(([]:List r7),(([]:List tA),())))),((0:Int),((([]:pM),(([]:pM),(([]:pM),((some (166,0)),(([]:pN),((0:Int),((some (167,0)),()))))))),(none,((some 96),((0,160,(166,0),(167,0)),(([]:pW),())))))))) rfl qG ?_)
 have hy1:=f;refine vY hy1 (fun x=>match x with| .inl x=>⟨[(0,.val .str O,none),(5,.val .ref (some (0,0)),none),(6,.val (.int .i64) x,none)],[(0,.cells sL ((([]:pM),(([]:pN),(([]:List r7),(([]:List tA),())))),((0:Int),((([]:pM),(([]:pM),(([]:pM),((some (1,0)),(([]:pN),((0:Int),((some (2,0)),()))))))),(none,((some 3),((0,0,(1,0),(2,0)),(([]:pW),()))))))) [(3,4),(15,5)]),(1,.row 9 .str ([]:pN) 0),(2,.row 110 rW ([]:List r7) 0),(3,.map .str .bool ([]:pU)),(4,.grow 45 7 (([]:List tA).length)),(5,.grow 3 1 (([]:pW).length))],6,55,0⟩ | .inr x=>⟨[(0,.val .str O,none),(5,.val .ref (some (0,0)),none),(6,.val (.int .i64) x.1,none)],[(0,.cells sL ((x.2.1,(x.2.2.1,(x.2.2.2.1,(x.2.2.2.2.1,())))),(x.2.2.2.2.2.1,((x.2.2.2.2.2.2.1,(x.2.2.2.2.2.2.2.1,(x.2.2.2.2.2.2.2.2.1,((some (1,x.2.2.2.2.2.2.2.2.2.2.2.2.2.2.1)),(x.2.2.2.2.2.2.2.2.2.1,(x.2.2.2.2.2.2.2.2.2.2.1,((some (2,x.2.2.2.2.2.2.2.2.2.2.2.2.2.2.2.2.1)),()))))))),((some 3),((some 4),((x.2.2.2.2.2.2.2.2.2.2.2.1,0,(1,x.2.2.2.2.2.2.2.2.2.2.2.2.2.2.1),(2,x.2.2.2.2.2.2.2.2.2.2.2.2.2.2.2.2.1)),(x.2.2.2.2.2.2.2.2.2.2.2.2.1,()))))))) [(3,5),(15,6)]),(1,s8 9 .str x.2.2.2.2.2.2.2.2.2.2.2.2.2.1 x.2.2.2.2.2.2.2.2.2.2.2.2.2.2.1),(2,s8 110 rW x.2.2.2.2.2.2.2.2.2.2.2.2.2.2.2.1 x.2.2.2.2.2.2.2.2.2.2.2.2.2.2.2.2.1),(3,.map .str .bool x.2.2.2.2.2.2.2.2.2.2.2.2.2.2.2.2.2.1),(4,.map .str .bool x.2.2.2.2.2.2.2.2.2.2.2.2.2.2.2.2.2.2),(5,.grow 45 7 (x.2.2.2.2.1.length)),(6,.grow 3 1 (x.2.2.2.2.2.2.2.2.2.2.2.2.1.length))],7,55,0⟩) ⟨[0,5,6],[(0,160),(1,166),(2,167),(3,96),(4,163),(5,165)]⟩ qG ?_
 intro x1 w1 n1 d e;rcases x1 with x1|x1
 .obtain⟨Z,hvx⟩: ∃v,v=x1:=⟨_,rfl⟩;subst hvx;unfold AN at d;dsimp only at d|-;refine qZ (qK vQ ?_);refine r8 d ?_ ?_<;>intro d Y
  .refine rD (qT (sJ ?_));obtain⟨X,d⟩:=qR d;obtain⟨aA,hv2,hw2,d⟩:=rS d
   try simp only[go_sem] at hw2
   refine qK vQ ?_ (hp:=by exact⟨X,(rR hv2)⟩) (h:=by simp only[go_sem,hw2];rfl);obtain⟨W,V,d⟩:=pL d;refine qK vQ ?_ (hp:=by exact⟨W,V⟩);refine qZ ?_;obtain⟨aB,hv5,hw5,d⟩:=rS d
   try simp only[go_sem] at hw5
   refine qK vQ ?_ (hp:=by exact(rR hv5)) (h:=by simp only[go_sem,hw5];rfl);refine r8 d ?_ ?_<;>intro d Y
   .refine qZ ?_;by_cases hva3:((zN (([]:pM),(([]:pN),(([]:List r7),(([]:List tA),())))) (0:Int) ([]:pM) ([]:pM) ([]:pM) ([]:pN) (0:Int) (([]:pW),()) aA.1 (min (O.length:Int) ((Z+(aA.1.length:Int))+(1:Int))) (some ([]:pN)) 0 (some ([]:List r7)) 0 ([]:pU))).isSome=true
    .rw[aTr hva3] at d;obtain⟨aC,hv6,hw6,d⟩:=rS d
     try simp only[go_sem] at hw6
     refine rV aNM ?_ (hp:=by exact⟨qC,qC,qC,qC,qC,qC,qC,qC,qC,qC,(rR hv6)⟩) (h:=by simp only[go_sem,hw6];rfl)
     refine qT (qK vQ ?_);refine r8 d ?_ ?_<;>intro d Y
     .refine qZ (rV vQ ?_);cases d
     refine rD (qT (rV vQ ?_));refine sM ?_;cases d;exact tT ⟨⟨[0,5,6],[(0,0),(1,972),(2,973),(3,974),(4,3),(5,4),(6,5)]⟩,_,qG,e⟩
    rw[aTs hva3] at d;obtain⟨aD,hv7,hw7,d⟩:=rS d
    try simp only[go_sem] at hw7
    refine rV aNO ?_ (hp:=by exact⟨qC,qC,qC,qC,qC,qC,qC,qC,qC,qC,qC,(rR hv7)⟩) (h:=by simp only[go_sem,hw7];rfl)
    refine qT (qK vQ ?_);refine r8 d ?_ ?_<;>intro d Y
    .refine qZ (rV vQ ?_);cases d
    refine rD (qT (rV vQ ?_));refine sM ?_;cases d;exact tT ⟨⟨[0,5,6],[(0,0),(1,1),(2,2),(3,3),(4,4),(5,5)]⟩,_,qG,e⟩
   refine rD (qT (rV vQ ?_));refine sM ?_;cases d;exact tT ⟨⟨[0,5,6],[(0,0),(1,1),(2,2),(3,3),(4,4),(5,5)]⟩,_,qG,e⟩
  refine vI (vG (vJ (vH (qT (qZ ?_)))));refine qK vQ ?_;refine r8 d ?_ ?_<;>intro d Y
  .refine qZ (rV vQ ?_);cases d
  refine rD (qT (qZ (rV vQ ?_)));cases d
 obtain⟨aE,aF,aG,aH,aI,aJ,aK,aL,aM,aN,aO,aP,aQ,aR,aS,aT,aU,aV,aW⟩:=x1;unfold AN at d;dsimp only at d|-;refine qZ (qK vQ ?_);refine r8 d ?_ ?_<;>intro d Y
 .refine rD (qT (sJ ?_));obtain⟨U,d⟩:=qR d;obtain⟨aX,hv9,hw9,d⟩:=rS d
  try simp only[go_sem] at hw9
  refine qK vQ ?_ (hp:=by exact⟨U,(rR hv9)⟩) (h:=by simp only[go_sem,hw9];rfl);obtain⟨T,S,d⟩:=pL d;refine qK vQ ?_ (hp:=by exact⟨T,S⟩);refine qZ ?_;obtain⟨aY,hv12,hw12,d⟩:=rS d
  try simp only[go_sem] at hw12
  refine qK vQ ?_ (hp:=by exact(rR hv12)) (h:=by simp only[go_sem,hw12];rfl);refine r8 d ?_ ?_<;>intro d Y
  .obtain⟨aZ,hv13,hw13,d⟩:=rS d
   try simp only[go_sem] at hw13
   refine qK vQ ?_ (hp:=by exact⟨qC,qC,qC,qC,qC,qC,(rR hv13)⟩) (h:=by simp only[go_sem,hw13];rfl)
   refine qK vQ ?_;refine r8 d ?_ ?_<;>intro d Y
   .refine qZ (rV vQ ?_);cases d
   refine rD (qT (rV vQ ?_));refine sM ?_;cases d;exact tT ⟨⟨[0,5,6],[(0,0),(1,974),(2,975),(3,976),(4,4),(5,5),(6,6)]⟩,_,qG,e⟩
  refine rD (qT (rV vQ ?_));refine sM ?_;cases d;exact tT ⟨⟨[0,5,6],[(0,0),(1,1),(2,2),(3,3),(4,4),(5,5),(6,6)]⟩,_,qG,e⟩
 refine vI (vG (vJ (vH (qT (qZ ?_)))));refine qK vQ ?_;refine r8 d ?_ ?_<;>intro d Y
 .refine qZ (rV vQ ?_);cases d
 refine rD (qT (qK vQ ?_));refine qY ?_;cases d;have f:=aTR some (show _=_ from e);cases f;exact pP [(0,0),(1,1),(2,2),(3,3),(4,4),(5,5),(6,6)]
attribute [irreducible] uE
end
noncomputable section
def AO (O:pM):(Int⊕(Int×pM×pN×(List r7)×(List tA)×Int×pM×pM×pM×pN×Int×Nat×pW×(Option pN)×Nat×(Option (List r7))×Nat×pU×pU))→Option ((Int⊕(Int×pM×pN×(List r7)×(List tA)×Int×pM×pM×pM×pN×Int×Nat×pW×(Option pN)×Nat×(Option (List r7))×Nat×pU×pU))⊕(Int×Int)):=fun x=>match x with
 | .inl Z=>
  if (decide (Z<(O.length:Int)))=true then
   if 0≤Z∧Z≤(O.length:Int)∧(O.length:Int)≤(O.length:Int) then
    (D0 (s7 O Z (O.length:Int)) ([10]:pM)).bind fun aA=>
    if qP (Z+(aA.1.length:Int)) then
     if qP ((Z+(aA.1.length:Int))+(1:Int)) then
      (HF aA.1).bind fun aB=>
      if (!((decide ((Lib.trimLeftS aA.1 ([32,9]:pM))=([]:pM)))||(decide ((sX (Lib.trimLeftS aA.1 ([32,9]:pM)) (0:Int))=(35:Int)))))=true then
       if ((zN (([]:pM),(([]:pN),(([]:List r7),(([]:List tA),())))) (0:Int) ([]:pM) ([]:pM) ([]:pM) ([]:pN) (0:Int) (([]:pW),()) aA.1 (min (O.length:Int) ((Z+(aA.1.length:Int))+(1:Int))) (some ([]:pN)) 0 (some ([]:List r7)) 0 ([]:pU))).isSome=true then
        (zN (([]:pM),(([]:pN),(([]:List r7),(([]:List tA),())))) (0:Int) ([]:pM) ([]:pM) ([]:pM) ([]:pN) (0:Int) (([]:pW),()) aA.1 (min (O.length:Int) ((Z+(aA.1.length:Int))+(1:Int))) (some ([]:pN)) 0 (some ([]:List r7)) 0 ([]:pU)).bind fun aC=>
        if (!decide ((0:Int)=(0:Int)))=true then
         some (.inr ((Z,(0:Int))))
        else
         some (.inl (.inr ((min (O.length:Int) ((Z+(aA.1.length:Int))+(1:Int))),aC.1,([]:pN),([]:List r7),([]:List tA),aC.2.1,aC.2.2.1,([]:pM),([]:pM),([]:pN),(0:Int),0,([]:pW),(some ([]:pN)),0,(some ([]:List r7)),0,([]:pU),aC.2.2.2)))
       else
        (G0 (([]:pM),(([]:pN),(([]:List r7),(([]:List tA),())))) (0:Int) ([]:pM) ([]:pM) ([]:pM) ([]:pN) (0:Int) (([]:pW),()) aA.1 (min (O.length:Int) ((Z+(aA.1.length:Int))+(1:Int))) (some ([]:pN)) 0 (some ([]:List r7)) 0 ([]:pU)).bind fun aD=>
        if (!decide (aD=(0:Int)))=true then
         some (.inr ((Z,aD)))
        else
         some (.inl (.inl (min (O.length:Int) ((Z+(aA.1.length:Int))+(1:Int)))))
      else
       some (.inl (.inl (min (O.length:Int) ((Z+(aA.1.length:Int))+(1:Int)))))
     else none
    else none
   else none
  else
   if (!decide ((0:Int)=(2:Int)))=true then
    some (.inr (((O.length:Int),(3:Int))))
   else
    none
 | .inr (aE,aF,aG,aH,aI,aJ,aK,aL,aM,aN,aO,aP,aQ,aR,aS,aT,aU,aV,aW)=>
  if (decide (aE<(O.length:Int)))=true then
   if 0≤aE∧aE≤(O.length:Int)∧(O.length:Int)≤(O.length:Int) then
    (D0 (s7 O aE (O.length:Int)) ([10]:pM)).bind fun aX=>
    if qP (aE+(aX.1.length:Int)) then
     if qP ((aE+(aX.1.length:Int))+(1:Int)) then
      (HF aX.1).bind fun aY=>
      if (!((decide ((Lib.trimLeftS aX.1 ([32,9]:pM))=([]:pM)))||(decide ((sX (Lib.trimLeftS aX.1 ([32,9]:pM)) (0:Int))=(35:Int)))))=true then
       (uN (aF,(aG,(aH,(aI,())))) aJ aK aL aM aN aO aP (aQ,()) aX.1 (min (O.length:Int) ((aE+(aX.1.length:Int))+(1:Int))) aR aS aT aU aV aW).bind fun aZ=>
       if (!decide (aZ.1=(0:Int)))=true then
        some (.inr ((aE,aZ.1)))
       else
        some (.inl (.inr ((min (O.length:Int) ((aE+(aX.1.length:Int))+(1:Int))),aZ.2.1,aZ.2.2.1,aZ.2.2.2.1,aZ.2.2.2.2.1,aZ.2.2.2.2.2.1,aZ.2.2.2.2.2.2.1,aZ.2.2.2.2.2.2.2.1,aZ.2.2.2.2.2.2.2.2.1,aZ.2.2.2.2.2.2.2.2.2.1,aZ.2.2.2.2.2.2.2.2.2.2.1,aZ.2.2.2.2.2.2.2.2.2.2.2.1,aZ.2.2.2.2.2.2.2.2.2.2.2.2.1,aZ.2.2.2.2.2.2.2.2.2.2.2.2.2.2.1,aZ.2.2.2.2.2.2.2.2.2.2.2.2.2.2.2.1,aZ.2.2.2.2.2.2.2.2.2.2.2.2.2.2.2.2.1,aZ.2.2.2.2.2.2.2.2.2.2.2.2.2.2.2.2.2.1,aZ.2.2.2.2.2.2.2.2.2.2.2.2.2.2.2.2.2.2,aZ.2.2.2.2.2.2.2.2.2.2.2.2.2.1)))
      else
       some (.inl (.inr ((min (O.length:Int) ((aE+(aX.1.length:Int))+(1:Int))),aF,aG,aH,aI,aJ,aK,aL,aM,aN,aO,aP,aQ,aR,aS,aT,aU,aV,aW)))
     else none
    else none
   else none
  else
   if (!decide (aJ=(2:Int)))=true then
    some (.inr (((O.length:Int),(3:Int))))
   else
    none
def I3 (O:pM):Option (Int×Int):=sF (AO O) (.inl (0:Int))
section
variable (O:pM)
abbrev a7M:List qM:=[(.val .str O,none)]
abbrev a7N:List qJ:=[]
@[go_sem] def a7O:qW:=⟨[((I3 O)).isSome=true],[(.val .ref none,none),(.val (.int .i64) ((val (I3 O)).1),none),(.val (.int .i64) ((val (I3 O)).2),none)],[]⟩
def aF0:List qM→List qJ→Option qW:=s5 (V:=pM) (a7M) (fun x=>a7N) fun x=>a7O x
@[go_sem] def aTm:aF0 (no_index (a7M O)) (no_index a7N)=some (a7O O):=sA (fun a0 b0 h1 h2=>by cases h1;cases h2;rfl) O
end
@[go_sem] abbrev a7P:Nat×rL:=(29,⟨[.v],aF0,[],[],none⟩)
def a7Q:rG prog [] (rH [D1,CW,RZ]):=⟨trivial,qU OK (qU OA (qU aFR rX)),rM⟩
def vR:rG prog [w6,w7,sR,CV,v6] (rH [D1,CW,RZ]):=⟨⟨wN,⟨wO,⟨sU,⟨EL,⟨vM,trivial⟩⟩⟩⟩⟩,a7Q.Γ,rM⟩
def aNP:rG prog [] (rH [D1,CW,S0]):=⟨trivial,qU OK (qU OA (qU aFU rX)),rM⟩
def aNQ:rG prog [w6,w7,sR,CV,v6] (rH [D1,CW,S0]):=⟨⟨wN,⟨wO,⟨sU,⟨EL,⟨vM,trivial⟩⟩⟩⟩⟩,aNP.Γ,rM⟩
def aNR:rG prog [] (rH [D1,CW,S1]):=⟨trivial,qU OK (qU OA (qU aFX rX)),rM⟩
def aNS:rG prog [w6,w7,sR,CV,v6] (rH [D1,CW,S1]):=⟨⟨wN,⟨wO,⟨sU,⟨EL,⟨vM,trivial⟩⟩⟩⟩⟩,aNR.Γ,rM⟩
def aF1:rU prog a7P:=by
 refine sB a7Q func29 (c:=_) rfl (N:=55) qD (ts:=[(2,none),(3,none),(4,none)]) rfl (fun _ _=>rfl) ?_;intro O hs hrow;dsimp only[a7M,a7N,a7O,rY,r5,rE,rO,rZ,Nat.reduceAdd] at hs hrow|-;have hz:=hs;obtain⟨z0,e⟩:=aTw.1 hz
 try rw[sG e]
 clear hz hs;unfold I3 at e;refine qK a7Q ?_;refine qK vR ?_;refine qZ (qK vR ?_);refine sJ (zJ 160 (160,(166,0),(167,0)) (x2:=((([]:pM),(([]:pN),(([]:List r7),(([]:List tA),())))),((0:Int),((([]:pM),(([]:pM),(([]:pM),((some (166,0)),(([]:pN),((0:Int),((some (167,0)),()))))))),(none,((some 96),((0,160,(166,0),(167,0)),(([]:pW),())))))))) rfl qG ?_)
 have hy1:=e;refine vY hy1 (fun x=>match x with| .inl x=>⟨[(0,.val .str O,none),(5,.val .ref (some (0,0)),none),(6,.val (.int .i64) x,none)],[(0,.cells sL ((([]:pM),(([]:pN),(([]:List r7),(([]:List tA),())))),((0:Int),((([]:pM),(([]:pM),(([]:pM),((some (1,0)),(([]:pN),((0:Int),((some (2,0)),()))))))),(none,((some 3),((0,0,(1,0),(2,0)),(([]:pW),()))))))) [(3,4),(15,5)]),(1,.row 9 .str ([]:pN) 0),(2,.row 110 rW ([]:List r7) 0),(3,.map .str .bool ([]:pU)),(4,.grow 45 7 (([]:List tA).length)),(5,.grow 3 1 (([]:pW).length))],6,55,0⟩ | .inr x=>⟨[(0,.val .str O,none),(5,.val .ref (some (0,0)),none),(6,.val (.int .i64) x.1,none)],[(0,.cells sL ((x.2.1,(x.2.2.1,(x.2.2.2.1,(x.2.2.2.2.1,())))),(x.2.2.2.2.2.1,((x.2.2.2.2.2.2.1,(x.2.2.2.2.2.2.2.1,(x.2.2.2.2.2.2.2.2.1,((some (1,x.2.2.2.2.2.2.2.2.2.2.2.2.2.2.1)),(x.2.2.2.2.2.2.2.2.2.1,(x.2.2.2.2.2.2.2.2.2.2.1,((some (2,x.2.2.2.2.2.2.2.2.2.2.2.2.2.2.2.2.1)),()))))))),((some 3),((some 4),((x.2.2.2.2.2.2.2.2.2.2.2.1,0,(1,x.2.2.2.2.2.2.2.2.2.2.2.2.2.2.1),(2,x.2.2.2.2.2.2.2.2.2.2.2.2.2.2.2.2.1)),(x.2.2.2.2.2.2.2.2.2.2.2.2.1,()))))))) [(3,5),(15,6)]),(1,s8 9 .str x.2.2.2.2.2.2.2.2.2.2.2.2.2.1 x.2.2.2.2.2.2.2.2.2.2.2.2.2.2.1),(2,s8 110 rW x.2.2.2.2.2.2.2.2.2.2.2.2.2.2.2.1 x.2.2.2.2.2.2.2.2.2.2.2.2.2.2.2.2.1),(3,.map .str .bool x.2.2.2.2.2.2.2.2.2.2.2.2.2.2.2.2.2.1),(4,.map .str .bool x.2.2.2.2.2.2.2.2.2.2.2.2.2.2.2.2.2.2),(5,.grow 45 7 (x.2.2.2.2.1.length)),(6,.grow 3 1 (x.2.2.2.2.2.2.2.2.2.2.2.2.1.length))],7,55,0⟩) ⟨[0,5,6],[(0,160),(1,166),(2,167),(3,96),(4,163),(5,165)]⟩ qG ?_
 intro x1 w1 n1 d f;rcases x1 with x1|x1
 .obtain⟨Z,hvx⟩: ∃v,v=x1:=⟨_,rfl⟩;subst hvx;unfold AO at d;dsimp only at d|-;refine qZ (qK vR ?_);refine r8 d ?_ ?_<;>intro d Y
  .refine rD (qT (sJ ?_));obtain⟨X,d⟩:=qR d;obtain⟨aA,hv2,hw2,d⟩:=rS d
   try simp only[go_sem] at hw2
   refine qK vR ?_ (hp:=by exact⟨X,(rR hv2)⟩) (h:=by simp only[go_sem,hw2];rfl);obtain⟨W,V,d⟩:=pL d;refine qK vR ?_ (hp:=by exact⟨W,V⟩);refine qZ ?_;obtain⟨aB,hv5,hw5,d⟩:=rS d
   try simp only[go_sem] at hw5
   refine qK vR ?_ (hp:=by exact(rR hv5)) (h:=by simp only[go_sem,hw5];rfl);refine r8 d ?_ ?_<;>intro d Y
   .refine qZ ?_;by_cases hva3:((zN (([]:pM),(([]:pN),(([]:List r7),(([]:List tA),())))) (0:Int) ([]:pM) ([]:pM) ([]:pM) ([]:pN) (0:Int) (([]:pW),()) aA.1 (min (O.length:Int) ((Z+(aA.1.length:Int))+(1:Int))) (some ([]:pN)) 0 (some ([]:List r7)) 0 ([]:pU))).isSome=true
    .rw[aTr hva3] at d;obtain⟨aC,hv6,hw6,d⟩:=rS d
     try simp only[go_sem] at hw6
     refine rV aNQ ?_ (hp:=by exact⟨qC,qC,qC,qC,qC,qC,qC,qC,qC,qC,(rR hv6)⟩) (h:=by simp only[go_sem,hw6];rfl)
     refine qT (qK vR ?_);refine r8 d ?_ ?_<;>intro d Y
     .refine qK vR ?_;refine qY (rI (sH (yA (sH (rI ?_)))));cases d;have e:=aTR some (show _=_ from f);cases e;exact pP []
     refine rD (qT (rV vR ?_));refine sM ?_;cases d;exact tT ⟨⟨[0,5,6],[(0,0),(1,972),(2,973),(3,974),(4,3),(5,4),(6,5)]⟩,_,qG,f⟩
    rw[aTs hva3] at d;obtain⟨aD,hv7,hw7,d⟩:=rS d
    try simp only[go_sem] at hw7
    refine rV aNS ?_ (hp:=by exact⟨qC,qC,qC,qC,qC,qC,qC,qC,qC,qC,qC,(rR hv7)⟩) (h:=by simp only[go_sem,hw7];rfl)
    refine qT (qK vR ?_);refine r8 d ?_ ?_<;>intro d Y
    .refine qK vR ?_;refine qY (rI (sH (yA (sH (rI ?_)))));cases d;have e:=aTR some (show _=_ from f);cases e;exact pP []
    refine rD (qT (rV vR ?_));refine sM ?_;cases d;exact tT ⟨⟨[0,5,6],[(0,0),(1,1),(2,2),(3,3),(4,4),(5,5)]⟩,_,qG,f⟩
   refine rD (qT (rV vR ?_));refine sM ?_;cases d;exact tT ⟨⟨[0,5,6],[(0,0),(1,1),(2,2),(3,3),(4,4),(5,5)]⟩,_,qG,f⟩
  refine vI (vG (vJ (vH (qT (qZ ?_)))));refine qK vR ?_;refine r8 d ?_ ?_<;>intro d Y
  .refine qK vR ?_;refine qY (rI ?_);cases d;have e:=aTR some (show _=_ from f);cases e;exact pP []
  refine rD (qT (qZ (rV vR ?_)));cases d
 obtain⟨aE,aF,aG,aH,aI,aJ,aK,aL,aM,aN,aO,aP,aQ,aR,aS,aT,aU,aV,aW⟩:=x1;unfold AO at d;dsimp only at d|-;refine qZ (qK vR ?_);refine r8 d ?_ ?_<;>intro d Y
 .refine rD (qT (sJ ?_));obtain⟨U,d⟩:=qR d;obtain⟨aX,hv9,hw9,d⟩:=rS d
  try simp only[go_sem] at hw9
  refine qK vR ?_ (hp:=by exact⟨U,(rR hv9)⟩) (h:=by simp only[go_sem,hw9];rfl);obtain⟨T,S,d⟩:=pL d;refine qK vR ?_ (hp:=by exact⟨T,S⟩);refine qZ ?_;obtain⟨aY,hv12,hw12,d⟩:=rS d
  try simp only[go_sem] at hw12
  refine qK vR ?_ (hp:=by exact(rR hv12)) (h:=by simp only[go_sem,hw12];rfl);refine r8 d ?_ ?_<;>intro d Y
  .obtain⟨aZ,hv13,hw13,d⟩:=rS d
   try simp only[go_sem] at hw13
   refine qK vR ?_ (hp:=by exact⟨qC,qC,qC,qC,qC,qC,(rR hv13)⟩) (h:=by simp only[go_sem,hw13];rfl)
   refine qK vR ?_;refine r8 d ?_ ?_<;>intro d Y
   .refine qK vR ?_;refine qY (rI (sH (yA (sH (rI ?_)))));cases d;have e:=aTR some (show _=_ from f);cases e;exact pP []
   refine rD (qT (rV vR ?_));refine sM ?_;cases d;exact tT ⟨⟨[0,5,6],[(0,0),(1,974),(2,975),(3,976),(4,4),(5,5),(6,6)]⟩,_,qG,f⟩
  refine rD (qT (rV vR ?_));refine sM ?_;cases d;exact tT ⟨⟨[0,5,6],[(0,0),(1,1),(2,2),(3,3),(4,4),(5,5),(6,6)]⟩,_,qG,f⟩
 refine vI (vG (vJ (vH (qT (qZ ?_)))));refine qK vR ?_;refine r8 d ?_ ?_<;>intro d Y
 .refine qK vR ?_;refine qY (rI ?_);cases d;have e:=aTR some (show _=_ from f);cases e;exact pP []
 refine rD (qT (qZ (rV vR ?_)));cases d
attribute [irreducible] I3
end
noncomputable section
def BG (O:pM):Option (pM×pN×(List r7)×(List tA)×Int×Int):=if ((uE O)).isSome=true then (uE O).bind fun Z=>if (!decide ((0:Int)=(0:Int)))=true then some ((([]:pM),([]:pN),([]:List r7),([]:List tA),(0:Int),(0:Int))) else some ((Z.1,Z.2.1,Z.2.2.1,Z.2.2.2.1,(0:Int),(0:Int))) else (I3 O).bind fun aA=>if (!decide (aA.2=(0:Int)))=true then some ((([]:pM),([]:pN),([]:List r7),([]:List tA),aA.1,aA.2)) else none
section
variable (O:pM)
abbrev a7R:List qM:=[(.val .str O,none)]
abbrev a7S:List qJ:=[]
@[go_sem] def a7T:qW:=⟨[((BG O)).isSome=true],[(.val JC ((val (BG O)).1,((val (BG O)).2.1,((val (BG O)).2.2.1,((val (BG O)).2.2.2.1,())))),none),(.val (.int .i64) ((val (BG O)).2.2.2.2.1),none),(.val (.int .i64) ((val (BG O)).2.2.2.2.2),none)],[]⟩
def aF2:List qM→List qJ→Option qW:=s5 (V:=pM) (a7R) (fun x=>a7S) fun x=>a7T x
@[go_sem] def aTn:aF2 (no_index (a7R O)) (no_index a7S)=some (a7T O):=sA (fun a0 b0 h1 h2=>by cases h1;cases h2;rfl) O
end
@[go_sem] abbrev a7U:Nat×rL:=(11,⟨[.v],aF2,[],[],none⟩)
def OW:rG prog [C5] (rH [S2]):=⟨⟨DP,trivial⟩,qU aFZ rX,rM⟩
def a7V:rG prog [C5,v6] (rH [S2]):=⟨⟨DP,⟨vM,trivial⟩⟩,OW.Γ,rM⟩
def aNT:rG prog [C5] (rH [a7P]):=⟨⟨DP,trivial⟩,qU aF1 rX,rM⟩
def aF3:rU prog a7U:=by
 refine sB OW func11 (c:=_) rfl (N:=23) qD (ts:=[(2,some 27),(3,none),(4,none)]) rfl (fun _ _=>rfl) ?_;intro O hs hrow;dsimp only[a7R,a7S,a7T,rY,r5,rE,rO,rZ,Nat.reduceAdd] at hs hrow|-;have hz:=hs;obtain⟨z0,d⟩:=aTw.1 hz
 try rw[sG d]
 clear hz hs;unfold BG at d;refine qK OW ?_;refine qZ ?_;by_cases hva1:((uE O)).isSome=true
 .rw[aTr hva1] at d;obtain⟨Z,hv1,hw1,d⟩:=rS d
  try simp only[go_sem] at hw1
  refine rV OW ?_ (hp:=by exact(rR hv1)) (h:=by simp only[go_sem,hw1];rfl);refine qT (qZ (qK a7V ?_));refine r8 d ?_ ?_<;>intro d Y
  .refine qK a7V ?_;refine qY (rI ?_);cases d;exact pO []
  refine rD (qT (qK a7V ?_));refine qY ?_;cases d;exact pO []
 rw[aTs hva1] at d;obtain⟨aA,hv2,hw2,d⟩:=rS d
 try simp only[go_sem] at hw2
 refine rV aNT ?_ (hp:=by exact(rR hv2)) (h:=by simp only[go_sem,hw2];rfl);refine qT (qZ (qK OW ?_));refine r8 d ?_ ?_<;>intro d Y
 .refine qK OW ?_;refine qY (rI ?_);cases d;exact pO []
 cases d
def OX (O:pM) (Z:(pM×pN×(List r7)×(List tA)×Int×pM×pM×pM×pN×Int×Nat×pW×(Option pN)×Nat×(Option (List r7))×Nat×pU×pU)):(Int×pN)→Option ((Int×pN)⊕pN):=fun(aA,aB)=>if (decide (aA<(Z.2.2.2.2.2.2.2.2.2.2.2.1.length:Int)))=true then if qP (aA- (1:Int)) then if 0≤(aA- (1:Int))∧(aA- (1:Int))<(Z.2.2.2.2.2.2.2.2.2.2.2.1.length:Int) then if 0≤aA∧aA<(Z.2.2.2.2.2.2.2.2.2.2.2.1.length:Int) then if 0≤(qV (.int .i64) Z.2.2.2.2.2.2.2.2.2.2.2.1 (aA- (1:Int)))∧(qV (.int .i64) Z.2.2.2.2.2.2.2.2.2.2.2.1 (aA- (1:Int)))≤(qV (.int .i64) Z.2.2.2.2.2.2.2.2.2.2.2.1 aA)∧(qV (.int .i64) Z.2.2.2.2.2.2.2.2.2.2.2.1 aA)≤(O.length:Int) then if (aB.length+([(s7 O (qV (.int .i64) Z.2.2.2.2.2.2.2.2.2.2.2.1 (aA- (1:Int))) (qV (.int .i64) Z.2.2.2.2.2.2.2.2.2.2.2.1 aA))]:pN).length)*16≤140737488355328 then if qP (aA+(1:Int)) then some (.inl ((aA+(1:Int)),(aB++([(s7 O (qV (.int .i64) Z.2.2.2.2.2.2.2.2.2.2.2.1 (aA- (1:Int))) (qV (.int .i64) Z.2.2.2.2.2.2.2.2.2.2.2.1 aA))]:pN)))) else none else none else none else none else none else none else some (.inr aB)
def BH (O:pM):Option (pM×pN×pM×Int):=if ((uE O)).isSome=true then (uE O).bind fun Z=>if (!decide ((0:Int)=(0:Int)))=true then some ((([]:pM),([]:pN),([]:pM),(0:Int))) else if 0≤(0:Int)∧(0:Int)<(Z.2.2.2.2.2.2.2.2.2.2.2.1.length:Int) then if 0≤(0:Int)∧(0:Int)≤(qV (.int .i64) Z.2.2.2.2.2.2.2.2.2.2.2.1 (0:Int))∧(qV (.int .i64) Z.2.2.2.2.2.2.2.2.2.2.2.1 (0:Int))≤(O.length:Int) then if qP ((Z.2.2.2.2.2.2.2.2.2.2.2.1.length:Int)- (1:Int)) then if 0≤((Z.2.2.2.2.2.2.2.2.2.2.2.1.length:Int)- (1:Int))∧((Z.2.2.2.2.2.2.2.2.2.2.2.1.length:Int)- (1:Int))<(Z.2.2.2.2.2.2.2.2.2.2.2.1.length:Int) then if 0≤(qV (.int .i64) Z.2.2.2.2.2.2.2.2.2.2.2.1 ((Z.2.2.2.2.2.2.2.2.2.2.2.1.length:Int)- (1:Int)))∧(qV (.int .i64) Z.2.2.2.2.2.2.2.2.2.2.2.1 ((Z.2.2.2.2.2.2.2.2.2.2.2.1.length:Int)- (1:Int)))≤(O.length:Int)∧(O.length:Int)≤(O.length:Int) then uM (sF (OX O Z) ((1:Int),([]:pN))) fun aA=>some (((s7 O (0:Int) (qV (.int .i64) Z.2.2.2.2.2.2.2.2.2.2.2.1 (0:Int))),aA,(s7 O (qV (.int .i64) Z.2.2.2.2.2.2.2.2.2.2.2.1 ((Z.2.2.2.2.2.2.2.2.2.2.2.1.length:Int)- (1:Int))) (O.length:Int)),(0:Int))) else none else none else none else none else none else (I3 O).bind fun aB=>if (!decide (aB.2=(0:Int)))=true then some ((([]:pM),([]:pN),([]:pM),aB.2)) else none
section
variable (O:pM)
abbrev a7W:List qM:=[(.val .str O,none)]
abbrev a7X:List qJ:=[]
@[go_sem] def a7Y:qW:=⟨[((BH O)).isSome=true],[(.val wZ ((val (BH O)).1,((val (BH O)).2.1,((val (BH O)).2.2.1,()))),none),(.val (.int .i64) ((val (BH O)).2.2.2),none)],[]⟩
def aF4:List qM→List qJ→Option qW:=s5 (V:=pM) (a7W) (fun x=>a7X) fun x=>a7Y x
@[go_sem] def aTo:aF4 (no_index (a7W O)) (no_index a7X)=some (a7Y O):=sA (fun a0 b0 h1 h2=>by cases h1;cases h2;rfl) O
end
@[go_sem] abbrev aF5:Nat×rL:=(14,⟨[.v],aF4,[],[],none⟩)
def MR:rG prog [EJ] (rH [S2]):=⟨⟨H8,trivial⟩,qU aFZ rX,rM⟩
def MS:rG prog [w6,sR,yX,EJ,O9,v6] (rH [S2]):=⟨⟨wN,⟨sU,⟨A5,⟨H8,⟨X0,⟨vM,trivial⟩⟩⟩⟩⟩⟩,MR.Γ,rM⟩
def aNU:rG prog [EJ] (rH [a7P]):=⟨⟨H8,trivial⟩,qU aF1 rX,rM⟩
def aNV:rU prog aF5:=by
 refine sB MR func14 (c:=_) rfl (N:=74) qD (ts:=[(2,some 34),(3,none)]) rfl (fun _ _=>rfl) ?_;intro O hs hrow;dsimp only[a7W,a7X,a7Y,rY,r5,rE,rO,rZ,Nat.reduceAdd] at hs hrow|-;have hz:=hs;obtain⟨z0,d⟩:=aTw.1 hz
 try rw[sG d]
 clear hz hs;unfold BH at d;refine qK MR ?_;refine qZ ?_;by_cases hva1:((uE O)).isSome=true
 .rw[aTr hva1] at d;obtain⟨Z,hv1,hw1,d⟩:=rS d
  try simp only[go_sem] at hw1
  refine rV MR ?_ (hp:=by exact(rR hv1)) (h:=by simp only[go_sem,hw1];rfl);refine qT (qZ (qK MS ?_));refine r8 d ?_ ?_<;>intro d Y
  .refine qK MS ?_;refine qY (rI ?_);cases d;exact pP []
  refine rD (qT ?_);obtain⟨X,W,d⟩:=pL d;obtain⟨V,U,d⟩:=pL d;obtain⟨T,d⟩:=qR d;refine yP MS ?_ (hp:=by exact⟨X,W,V,U,T⟩);refine qZ (qK MS ?_);refine sJ ?_;obtain⟨aA,hy1,d⟩:=r9 d;refine wF 0 (fun s=>s=(fun x=>⟨[(2,.val .ref (some (0,0)),none),(7,.val .ref (some (1,0)),none)],[(0,.cells wZ (([]:pM),(([]:pN),(([]:pM),()))) [(1,2)]),(1,.cells wZ ((s7 O (0:Int) (qV (.int .i64) Z.2.2.2.2.2.2.2.2.2.2.2.1 (0:Int))),(x,((s7 O (qV (.int .i64) Z.2.2.2.2.2.2.2.2.2.2.2.1 ((Z.2.2.2.2.2.2.2.2.2.2.2.1.length:Int)- (1:Int))) (O.length:Int)),()))) [(1,3)]),(2,.grow 9 1 (([]:pN).length)),(3,.grow 9 1 (x.length))],4,74,0⟩) aA) ?_ ?_
  .refine vY hy1 (fun x=>⟨[(0,.val .str O,none),(2,.val .ref (some (0,0)),none),(4,.val .ref (some (1,0)),none),(7,.val .ref (some (2,0)),none),(8,.val (.int .i64) x.1,none)],[(0,.cells wZ (([]:pM),(([]:pN),(([]:pM),()))) [(1,3)]),(1,.cells sL ((Z.1,(Z.2.1,(Z.2.2.1,(Z.2.2.2.1,())))),(Z.2.2.2.2.1,((Z.2.2.2.2.2.1,(Z.2.2.2.2.2.2.1,(Z.2.2.2.2.2.2.2.1,((some (4,Z.2.2.2.2.2.2.2.2.2.2.2.2.2.1)),(Z.2.2.2.2.2.2.2.2.1,(Z.2.2.2.2.2.2.2.2.2.1,((some (5,Z.2.2.2.2.2.2.2.2.2.2.2.2.2.2.2.1)),()))))))),((some 6),((some 7),((Z.2.2.2.2.2.2.2.2.2.2.1,1,(4,Z.2.2.2.2.2.2.2.2.2.2.2.2.2.1),(5,Z.2.2.2.2.2.2.2.2.2.2.2.2.2.2.2.1)),(Z.2.2.2.2.2.2.2.2.2.2.2.1,()))))))) [(3,8),(15,9)]),(2,.cells wZ ((s7 O (0:Int) (qV (.int .i64) Z.2.2.2.2.2.2.2.2.2.2.2.1 (0:Int))),(x.2,((s7 O (qV (.int .i64) Z.2.2.2.2.2.2.2.2.2.2.2.1 ((Z.2.2.2.2.2.2.2.2.2.2.2.1.length:Int)- (1:Int))) (O.length:Int)),()))) [(1,10)]),(3,.grow 9 1 (([]:pN).length)),(4,s8 9 .str Z.2.2.2.2.2.2.2.2.2.2.2.2.1 Z.2.2.2.2.2.2.2.2.2.2.2.2.2.1),(5,s8 110 rW Z.2.2.2.2.2.2.2.2.2.2.2.2.2.2.1 Z.2.2.2.2.2.2.2.2.2.2.2.2.2.2.2.1),(6,.map .str .bool Z.2.2.2.2.2.2.2.2.2.2.2.2.2.2.2.2.1),(7,.map .str .bool Z.2.2.2.2.2.2.2.2.2.2.2.2.2.2.2.2.2),(8,.grow 45 7 (Z.2.2.2.1.length)),(9,.grow 3 1 (Z.2.2.2.2.2.2.2.2.2.2.2.1.length)),(10,.grow 9 1 (x.2.length))],11,74,0⟩) ⟨[0,2,4,7,8],[(0,0),(1,96),(2,1152),(3,1),(4,97),(5,98),(6,99),(7,100),(8,101),(9,102),(10,1184)]⟩ qG ?_
   intro x1 w1 n1 f g;obtain⟨aB,aC⟩:=x1;unfold OX at f;dsimp only at f|-;refine qZ (qK MS ?_);refine r8 f ?_ ?_<;>intro f Y
   .refine rD (qT (qZ (sJ ?_)));obtain⟨S,R,f⟩:=pL f;obtain⟨Q,P,f⟩:=pL f;obtain⟨M,f⟩:=qR f;refine J8 MS ?_ (hp:=by exact⟨S,R,Q,P,qC,M⟩)
    refine sM (qT ?_);obtain⟨L,f⟩:=qR f;refine rV MS ?_ (hp:=by exact L);cases f;exact tT ⟨⟨[0,2,4,7,8],[(0,0),(1,1),(2,2),(3,3),(4,4),(5,5),(6,6),(7,7),(8,8),(9,9),(10,10)]⟩,_,qG,g⟩
   refine vI (vG (vJ ?_));cases f;cases g;exact wG ⟨⟨[2,7],[(0,0),(1,2),(2,3),(3,10)]⟩,qG⟩
  rintro _ rfl;dsimp only at d|-;refine vH (qT ?_);refine qK MR ?_;refine qY ?_;cases d;exact pP []
 rw[aTs hva1] at d;obtain⟨aD,hv13,hw13,d⟩:=rS d
 try simp only[go_sem] at hw13
 refine rV aNU ?_ (hp:=by exact(rR hv13)) (h:=by simp only[go_sem,hw13];rfl);refine qT (qZ (qK MR ?_));refine r8 d ?_ ?_<;>intro d Y
 .refine qK MR ?_;refine qY (rI ?_);cases d;exact pP []
 cases d
def OY:Option Bool:=(BG ([99,97,116,97,108,111,103,32,34,100,101,34,10,99,111,109,109,101,110,116,32,34,97,98,34,10,34,99,100,34,10,101,110,100,10,10,101,110,116,114,121,32,34,97,34,10,101,110,100]:pM)).bind fun O=>if (((((decide (O.2.2.2.2.2=(0:Int)))&&(decide (O.1=([100,101]:pM))))&&(decide ((O.2.1.length:Int)=(1:Int))))==true)=true→0≤(0:Int)∧(0:Int)<(O.2.1.length:Int)) then if (((((((decide (O.2.2.2.2.2=(0:Int)))&&(decide (O.1=([100,101]:pM))))&&(decide ((O.2.1.length:Int)=(1:Int))))&&(decide ((qV .str O.2.1 (0:Int))=([97,98,99,100]:pM))))&&(decide ((O.2.2.2.1.length:Int)=(1:Int))))==true)=true→0≤(0:Int)∧(0:Int)<(O.2.2.2.1.length:Int)) then some (((((((decide (O.2.2.2.2.2=(0:Int)))&&(decide (O.1=([100,101]:pM))))&&(decide ((O.2.1.length:Int)=(1:Int))))&&(decide ((qV .str O.2.1 (0:Int))=([97,98,99,100]:pM))))&&(decide ((O.2.2.2.1.length:Int)=(1:Int))))&&(decide ((qV xM O.2.2.2.1 (0:Int)).1=([97]:pM))))) else none else none
section
abbrev a7Z:List qM:=[]
abbrev a71:List qJ:=[]
@[go_sem] def a73:qW:=⟨[(OY).isSome=true],[(.val .bool (val OY),none)],[]⟩
def aF6:List qM→List qJ→Option qW:=s5 (V:=Unit) (fun x=>a7Z) (fun x=>a71) fun x=>a73
@[go_sem] def aTp:aF6 (no_index a7Z) (no_index a71)=some a73:=sA (fun _ _ h1 h2=>by cases h1;cases h2;rfl) ()
end
@[go_sem] abbrev aF7:Nat×rL:=(10,⟨[],aF6,[],[],none⟩)
def Y0:rG prog [sR,yX,FQ,C5,LX] (rH [a7U]):=⟨⟨sU,⟨A5,⟨JF,⟨DP,⟨R7,trivial⟩⟩⟩⟩⟩,qU aF3 rX,rM⟩
def aNW:rU prog aF7:=by
 refine sB Y0 func10 (c:=_) rfl (N:=43) qD (ts:=[(0,none)]) rfl (fun _ _=>rfl) ?_;intro⟨⟩ hs hrow;dsimp only[a7Z,a71,a73,rY,r5,rE,rO,rZ,Nat.reduceAdd] at hs hrow|-;have hz:=hs;obtain⟨z0,d⟩:=aTw.1 hz
 try rw[sG d]
 clear hz hs;unfold OY at d;refine qK Y0 ?_;obtain⟨O,hv1,hw1,d⟩:=rS d
 try simp only[go_sem] at hw1
 refine qK Y0 ?_ (hp:=by exact(rR hv1)) (h:=by simp only[go_sem,hw1];rfl);obtain⟨Y,X,d⟩:=pL d;refine qK Y0 ?_ (hp:=by exact⟨id,id,tC,id,id,id,tC,id,id,Y,id,id,tC,id,id,id,tC,id,id,X,id,id,id,tC⟩);refine qY ?_;cases d;exact pO []
attribute [irreducible] BG BH OY
end
noncomputable section
def MT (O:pM):Option Bool:=OY.bind fun Z=>if (!Z)=true then some (false) else if (decide ((4000:Int)<(O.length:Int)))=true then some (true) else (BH O).bind fun aA=>(BG O).bind fun aB=>if ((!decide (aA.2.2.2=(0:Int)))||(!decide (aB.2.2.2.2.2=(0:Int))))=true then some ((decide (aA.2.2.2=aB.2.2.2.2.2))) else (JZ (aB.1,(aB.2.1,(aB.2.2.1,(aB.2.2.2.1,()))))).bind fun aC=>(BH aC.1).bind fun aD=>(FZ (aB.1,(aB.2.1,(aB.2.2.1,(aB.2.2.2.1,()))))).bind fun aE=>(JP (aA.1,(aA.2.1,(aA.2.2.1,())))).bind fun aF=>if (((((((decide (aF=O))&&(decide ((aA.2.1.length:Int)=(aB.2.2.2.1.length:Int))))&&(decide (aC.2=(0:Int))))&&(decide (aD.2.2.2=(0:Int))))&&(decide (aE.2.2=(0:Int))))==true)=true→((JT (aD.1,(aD.2.1,(aD.2.2.1,()))) (aE.1,(aE.2.1,(([]:pM),()))))).isSome=true) then some (((((((decide (aF=O))&&(decide ((aA.2.1.length:Int)=(aB.2.2.2.1.length:Int))))&&(decide (aC.2=(0:Int))))&&(decide (aD.2.2.2=(0:Int))))&&(decide (aE.2.2=(0:Int))))&&(val (JT (aD.1,(aD.2.1,(aD.2.2.1,()))) (aE.1,(aE.2.1,(([]:pM),()))))))) else none
section
variable (O:pM)
abbrev S3:List qM:=[(.val .str O,none)]
abbrev Y1:List qJ:=[]
@[go_sem] def OZ:qW:=⟨[((MT O)).isSome=true],[(.val .bool (val (MT O)),none)],[]⟩
def a74:List qM→List qJ→Option qW:=s5 (V:=pM) (S3) (fun x=>Y1) fun x=>OZ x
@[go_sem] def aNX:a74 (no_index (S3 O)) (no_index Y1)=some (OZ O):=sA (fun a0 b0 h1 h2=>by cases h1;cases h2;rfl) O
end
@[go_sem] abbrev aNY:Nat×rL:=(9,⟨[.v],a74,[],[],none⟩)
def C9:rG prog [sR,yX,FQ,C5,EJ] (rH [aF7,aF5,a7U,aFF,a7j,a5m,aDr,aE4]):=⟨⟨sU,⟨A5,⟨JF,⟨DP,⟨H8,trivial⟩⟩⟩⟩⟩,qU aNW (qU aNV (qU aF3 (qU aNx (qU aFD (qU aEC (qU aML (qU aNk rX))))))),rM⟩
def aNZ:rU prog aNY:=by
 refine sB C9 func9 (c:=_) rfl (N:=86) qD (ts:=[(2,none)]) rfl (fun _ _=>rfl) ?_;intro O hs hrow;dsimp only[S3,Y1,OZ,rY,r5,rE,rO,rZ,Nat.reduceAdd] at hs hrow|-;have hz:=hs;obtain⟨z0,e⟩:=aTw.1 hz
 try rw[sG e]
 clear hz hs;unfold MT at e;refine qK C9 ?_;refine qZ ?_;obtain⟨Z,hv1,hw1,e⟩:=rS e
 try simp only[go_sem] at hw1
 refine qK C9 ?_ (hp:=by exact(rR hv1)) (h:=by simp only[go_sem,hw1];rfl);refine r8 e ?_ ?_<;>intro e Y
 .refine qK C9 ?_;refine qY (rI ?_);cases e;exact pO []
 refine rD (qT (qZ (qK C9 ?_)));refine r8 e ?_ ?_<;>intro e Y
 .refine qK C9 ?_;refine qY (rI ?_);cases e;exact pO []
 refine rD (qT ?_);obtain⟨aA,hv2,hw2,e⟩:=rS e
 try simp only[go_sem] at hw2
 refine qK C9 ?_ (hp:=by exact(rR hv2)) (h:=by simp only[go_sem,hw2];rfl);obtain⟨aB,hv3,hw3,e⟩:=rS e
 try simp only[go_sem] at hw3
 refine qK C9 ?_ (hp:=by exact(rR hv3)) (h:=by simp only[go_sem,hw3];rfl);refine qZ (qK C9 ?_ (hp:=by exact⟨id,tX⟩));refine r8 e ?_ ?_<;>intro e Y
 .refine qK C9 ?_;refine qY (rI ?_);cases e;exact pO []
 refine rD (qT ?_);obtain⟨aC,hv4,hw4,e⟩:=rS e
 try simp only[go_sem] at hw4
 refine qK C9 ?_ (hp:=by exact(rR hv4)) (h:=by simp only[go_sem,hw4];rfl);obtain⟨aD,hv5,hw5,e⟩:=rS e
 try simp only[go_sem] at hw5
 refine qK C9 ?_ (hp:=by exact(rR hv5)) (h:=by simp only[go_sem,hw5];rfl);obtain⟨aE,hv6,hw6,e⟩:=rS e
 try simp only[go_sem] at hw6
 refine qK C9 ?_ (hp:=by exact(rR hv6)) (h:=by simp only[go_sem,hw6];rfl);obtain⟨aF,hv7,hw7,e⟩:=rS e
 try simp only[go_sem] at hw7
 obtain⟨X,e⟩:=qR e;refine yP C9 ?_ (hp:=by exact⟨rR hv7,id,id,id,id,id,id,tC,id,tC,id,tC,id,tC,id,id,id,id,X,tC⟩) (h:=by simp only[go_sem,hw7];rfl);refine qY ?_;cases e;exact pO []
attribute [irreducible] MT
end
end Go.Proofs.YtcpbaddnmpeipaaGreatDoor
namespace Go.Proofs.YtcpbaddnmpeipaaGreatDoor
open Vc
end Go.Proofs.YtcpbaddnmpeipaaGreatDoor
section
end
namespace Go.Proofs.YtcpbaddnmpeipaaGreatDoor
open Vc
theorem uO {σ ρ:Type}(f:σ→Option (σ⊕ρ)) (x:σ):sF f x=(f x).bind fun w=>match w with
    | .inl y=>sF f y
    | .inr r=>some r:=by
  cases h:f x with
  | none=>
    cases h2:sF f x with
    |none=>rfl
    | some r=>
      obtain⟨n,hn⟩:=W6 h2;cases n with
      |zero=>cases hn
      |succ n=>unfold iter at hn;rw[h] at hn;cases hn
  | some w=>
    cases w with
    |inl y=>exact W7 h
    |inr r=>exact H5 h
theorem P0 {t:Ty}{l:List t.den}{i:Nat}(h:i<l.length):qV t l (i:Int)=l[i]:=by
  unfold qV;rw[aUj,aTM,aTy h];rfl
theorem S4 {l:pM}{i:Nat}(h:i<l.length):sX l (i:Int)=(l[i].toNat:Int):=by
  unfold sX;rw[aUj,aTM,aTy h];rfl
def zO {β:Type}(f:Nat→β) (b:β):pZ→β
  |some k=>f k
  |none=>b
theorem aF8 {α ρ:Type}{f:Int→Option (Int⊕(Unit⊕ρ))}{l:List α}(p:α→Bool) (g:Nat→ρ)
    (hf: ∀(i:Nat) (h:i<l.length),f i=if p l[i]=true then some (.inr (.inr (g i))) else some (.inl (i+1)))
    (he:f l.length=some (.inr (.inl ()))): ∀(n j:Nat),j+n=l.length→sF f j=some (zO (fun k=> .inr (g (j+k))) (.inl ()) ((l.drop j).findIdx? p))
  | 0,j,hj=>by
    have:j=l.length:=by omega
    subst this;rw[aUG,uO,he];rfl
  | n+1,j,hj=>by
    have hlt:j<l.length:=by omega
    rw[uO,hf j hlt,aUa hlt,aU4];by_cases hp:p l[j]=true
    · rw[aTr hp,aTr hp]
      rfl
    rw[aTs hp,aTs hp]
    show sF f ((j:Int)+1)=_;have:=aF8 p g hf he n (j+1) pQ;rw[show ((j:Int)+1)=((j+1:Nat):Int) by omega,this];cases(l.drop (j+1)).findIdx? p with
    |none=>rfl
    | some k=>
      show some (Sum.inr (g (j+1+k)))=some (Sum.inr (g (j+(k+1))));rw[show j+1+k=j+(k+1) by omega]
theorem S5 {α ρ:Type}{f:Int→Option (Int⊕(Unit⊕ρ))}{l:List α}(p:α→Bool) (g:Nat→ρ)
    (hf: ∀(i:Nat) (h:i<l.length),f i=if p l[i]=true then some (.inr (.inr (g i))) else some (.inl (i+1)))
    (he:f l.length=some (.inr (.inl ()))):sF f 0=some (zO (fun k=> .inr (g k)) (.inl ()) (l.findIdx? p)):=by
  have:=aF8 p g hf he l.length 0 pQ;simpa using this
theorem aF9 {s:pM}{i:Nat}(h:i<s.length) (ha:s[i].toNat<128):xE s i=(s[i].toNat:Int)∧AY s i=i+1:=by
  have h1:=Lib.decodeL_drop ⟨s.toArray⟩ i
  have h2:(⟨s.toArray⟩:ByteArray).data.toList.drop i=s[i]::s.drop (i+1):=by
    show s.drop i=_;rw[aUa h]
  rw[h2,Lib.decodeL_ascii _ _ ha] at h1;unfold xE AY a0C;rw[←h1,aTr h];exact⟨rfl,rfl⟩
theorem aN0 {n b0 b1 b2 b3:Nat}(h:128≤b0):128≤(Lib.decodeN n b0 b1 b2 b3).1:=by
  unfold Lib.decodeN
  repeat' split
  all_goals first|omega|(dsimp only;omega)
theorem aGa {s:pM}{i:Nat}(h:i<s.length) (ha:128≤s[i].toNat):128≤xE s i:=by
  unfold xE;rw[Lib.decode_at]
  have:(⟨s.toArray⟩:ByteArray).get! i=s[i]:=by
    show s.toArray[i]! =_;simp [h]
  rw[this];exact Int.ofNat_le.2 (aN0 ha)
theorem aGb {ρ:Type}{f:Nat→Option (Nat⊕(Unit⊕ρ))}{s:pM}(p:Int→Bool) (g:Nat→ρ) (hb: ∀c,128≤c→p c=true)
    (hf: ∀(i:Nat) (h:i<s.length),f i=if p (xE s i)=true then some (.inr (.inr (g i))) else some (.inl (AY s i)))
    (he:f s.length=some (.inr (.inl ()))): ∀(n j:Nat),j+n=s.length→sF f j=some (zO (fun k=> .inr (g (j+k))) (.inl ()) ((s.drop j).findIdx? (fun b=>p b.toNat)))
  | 0,j,hj=>by
    have:j=s.length:=by omega
    subst this;rw[aUG,uO,he];rfl
  | n+1,j,hj=>by
    have hlt:j<s.length:=by omega
    rw[uO,hf j hlt,aUa hlt,aU4];by_cases ha:s[j].toNat<128
    · obtain⟨e1,e2⟩:=aF9 hlt ha
      rw[e1,e2];by_cases hp:p (s[j].toNat:Int)=true
      · rw[aTr hp,aTr hp]
        rfl
      rw[aTs hp,aTs hp]
      show sF f (j+1)=_;rw[aGb p g hb hf he n (j+1) pQ];cases(s.drop (j+1)).findIdx? (fun b=>p b.toNat) with
      |none=>rfl
      | some k=>
        show some (Sum.inr (g (j+1+k)))=some (Sum.inr (g (j+(k+1))));rw[show j+1+k=j+(k+1) by omega]
    rw[aTr (hb _ (aGa hlt pQ)),aTr (hb _ pQ)]
    rfl
theorem aN1 {ρ:Type}{f:Nat→Option (Nat⊕(Unit⊕ρ))}{s:pM}(p:Int→Bool) (g:Nat→ρ) (hb: ∀c,128≤c→p c=true)
    (hf: ∀(i:Nat) (h:i<s.length),f i=if p (xE s i)=true then some (.inr (.inr (g i))) else some (.inl (AY s i)))
    (he:f s.length=some (.inr (.inl ()))):sF f 0=some (zO (fun k=> .inr (g k)) (.inl ()) (s.findIdx? (fun b=>p b.toNat))):=by
  have:=aGb p g hb hf he s.length 0 pQ;simpa using this
def sV {α:Type}(l:List α):Prop:=l.length≤4000000000
theorem yE {i:Nat}(h:i≤4000000000):qP ((i:Int)+1):=by unfold qP;omega
theorem vB {i n:Nat}(h:i<n):0≤(i:Int)∧(i:Int)<(n:Int):=⟨pQ,pQ⟩
theorem wR {i n:Nat}(h:i<n):decide ((i:Int)<(n:Int))=true:=by simpa using h
theorem A7 (n:Nat): ¬decide ((n:Int)<(n:Int))=true:=by simp
theorem aGc {α:Type}{p:α→Bool}: ∀{l:List α},(l.findIdx? p).isSome=l.any p
  |[]=>rfl
  | x::l=>by
    rw[aU4,List.any_cons];cases p x with
    |true=>rfl
    |false=>simp [aGc (l:=l)]
theorem Y2 {α β:Type}{p:α→Bool}{l:List α}{f:Nat→β}{b:β}:zO f b (l.findIdx? p)=if l.any p=true then f ((l.findIdx? p).getD 0) else b:=by
  rw[←aGc];cases l.findIdx? p with
  |none=>rfl
  |some k=>rfl
def S6 (c:Int):Bool:=(((!((decide ((97:Int)≤c))&&(decide (c≤(122:Int)))))&&(!((decide ((48:Int)≤c))&&(decide (c≤(57:Int))))))&&(!decide (c=(45:Int))))&&((decide (c<(65:Int)))||(decide ((90:Int)<c)))
def xP (s:pM):Bool:= !(s.any fun b=>S6 b.toNat)&&((decide ((1:Int)≤(s.length:Int)))&&(decide ((s.length:Int)≤(40:Int))))
def Y3 (c:Int):Bool:=((((decide (c<(97:Int)))||(decide ((122:Int)<c)))&&((decide (c<(65:Int)))||(decide ((90:Int)<c))))&&((decide (c<(48:Int)))||(decide ((57:Int)<c))))&&(!decide (c=(45:Int)))
theorem aN2 (c:Int):Y3 c=S6 c:=by
  unfold Y3 S6;rw[aVq];simp;omega
theorem a78 (s:pM):CX s=some (xP s):=by
  have h:=aN1 (f:=RA s) (s:=s) (fun c=>Y3 c) (fun _=>false) (fun c h=>by unfold Y3;simp;omega) (fun i h=>by
    unfold RA;rw[aTr (by simpa using h),aTr (by simpa using h)];rfl) (by
    unfold RA;rw[aTs pS])
  unfold CX;rw[h,Y2];simp only[aN2];unfold xP;cases s.any fun b=>S6 b.toNat<;>rfl
def yZ (c:Int):Bool:=((((!((decide ((97:Int)≤c))&&(decide (c≤(122:Int)))))&&(!((decide ((48:Int)≤c))&&(decide (c≤(57:Int))))))&&(!decide (c=(45:Int))))&&(!decide (c=(95:Int))))&&(!decide (c=(46:Int)))
def BI (c:Int):Bool:=(decide ((97:Int)≤c))&&(decide (c≤(122:Int)))
def uU:pM→Bool
  |[]=>false
  |b::t=>(!decide (40<t.length+1)&&BI b.toNat)&& !(t.any fun b=>yZ b.toNat)
theorem aGd (s:pM): ∀(n j:Nat),j+n=s.length→sF (OC s) j=some (if (s.drop j).any (fun b=>yZ b.toNat)=true∨(j=0∧s≠[]∧BI (s.getD 0 0).toNat=false) then .inr false else .inl ())
  | 0,j,hj=>by
    have:j=s.length:=by omega
    subst this;rw[aUG,uO];unfold OC;rw[aTs pS];by_cases h0:s=[]
    .subst h0;simp
    · have:s.length≠0:=by simpa using h0
      simp [this]
  | n+1,j,hj=>by
    have hlt:j<s.length:=by omega
    have ih:=aGd s n (j+1) pQ;rw[uO,aUa hlt,List.any_cons]
    have hstep:OC s j=if (yZ (s[j].toNat:Int)=true∨(j=0∧BI (s[j].toNat:Int)=false)) then some (.inr (.inr false)) else some (.inl (j+1)):=by
      unfold OC;rw[aTr (by simpa using hlt),aTr (by simpa using hlt),aTr (by simpa using hlt)];by_cases ha:s[j].toNat<128
      · obtain⟨e1,e2⟩:=aF9 hlt ha
        rw[e1,e2];by_cases h1:BI (s[j].toNat:Int)=true
        · rw[aTr (by unfold BI at h1;exact h1),aTs]
          unfold BI at h1;simp only[aTL,aTN] at h1;simp [yZ,BI];omega
        have h1':BI (s[j].toNat:Int)=false:=by simpa using h1
        rw[aTs (by unfold BI at h1;exact h1)]
        have h2: ¬(97≤(s[j].toNat:Int)∧(s[j].toNat:Int)≤122):=by
          unfold BI at h1;simpa using h1
        by_cases h3:yZ (s[j].toNat:Int)=true∨j=0
        · rw[aTs,aTr]
          · rcases h3 with h3|h3
            .exact .inl h3
            exact .inr ⟨h3,h1'⟩
          simp [yZ] at h3|-
          omega
        rw[aTr,aTs]
        · intro h
          rcases h with h|⟨h,_⟩
          .exact h3 (.inl h)
          exact h3 (.inr h)
        simp [yZ] at h3|-
        omega
      have hb:=aGa hlt pQ
      rw[aTs pT,aTs pT,aTr (.inl (by simp [yZ];omega))]
    rw[hstep];have hd:s.getD 0 0=s[0]'pQ:=by simp [aTM,aTy (show 0<s.length by omega)]
    have hne:s≠[]:=by intro h;subst h;simp at hlt
    by_cases hp:yZ (s[j].toNat:Int)=true∨(j=0∧BI (s[j].toNat:Int)=false)
    · rw[aTr hp,aTr]
      .rfl
      rcases hp with hp|⟨rfl,hp⟩
      .left;simp [hp]
      right;exact⟨rfl,hne,by rw[hd];exact hp⟩
    rw[aTs hp]
    show sF _ (j+1)=_;rw[ih]
    have hnb:yZ (s[j].toNat:Int)=false:=by
      cases h:yZ (s[j].toNat:Int) with
      |true=>exact absurd (.inl h) hp
      |false=>rfl
    simp only[hnb,Bool.false_or];congr 2;apply propext;constructor
    · rintro(h|⟨h,_⟩)
      .exact .inl h
      omega
    rintro(h|⟨rfl,_,h⟩)
    .exact .inl h
    rw[hd] at h
    exact absurd (.inr ⟨rfl,h⟩) hp
theorem Y4 (s:pM):CY s=some (uU s):=by
  have h:=aGd s s.length 0 pQ;unfold CY;rw[h,aUN];cases s with
  |nil=>simp [uU,uY]
  | cons b t=>
    simp only[List.any_cons,List.getD_cons_zero,ne_eq,reduceCtorEq,not_false_eq_true,true_and,uU];cases hs:BI b.toNat with
    |false=>simp [uY]
    | true=>
      have hn:yZ b.toNat=false:=by
        unfold BI at hs;simp only[aTL,aTN] at hs;simp [yZ];omega
      simp only[hn,Bool.false_or];cases t.any (fun b=>yZ b.toNat) with
      |true=>simp [uY]
      | false=>
        simp only[aUT,false_or,and_false,aVt];show some (decide ((1:Int)≤((b::t).length:Int))&&decide (((b::t).length:Int)≤40))=_;congr 1;rw[aVq];simp only[aTx,aTL,aTN,aTV,aT5,Bool.not_false,and_true];omega
theorem Y5 {β:Type}{f:Nat→β}{b:β}{o:pZ}:uY (some (zO (fun k=> .inr (f k)) (.inl ()) o)) (fun _=>some b)=some (zO f b o):=by
  cases o<;>rfl
theorem aN3 (l:pN) (s:pM) (hl:sV l):EO l s=some (zO (fun k=>(k:Int)) (-1) (l.findIdx? fun x=>decide (s=x))):=by
  unfold sV at hl
  have h:=S5 (f:=RG l s) (l:=l) (fun x=>decide (s=x)) (fun k=>(k:Int)) (fun i h=>by
    unfold RG;rw[aTr (wR h),aTr (vB h),P0 (t:= .str) h,aTr (yE pQ)]) (by
    unfold RG;rw[aTs (A7 _)])
  unfold EO;rw[h,Y5]
theorem aGe {α:Type}{p:α→Bool}{l:List α}:decide ((0:Int)≤zO (fun k=>(k:Int)) (-1) (l.findIdx? p))=l.any p:=by
  rw[Y2];cases l.any p
  .rfl
  simp only[aU2,aTN];omega
def w9:pN:=[[110,101,119],[102,117,122,122,121],[116,114,97,110,115,108,97,116,101,100],[114,101,118,105,101,119,101,100],[111,98,115,111,108,101,116,101]]
def zP (s:pM):Int:=zO (fun k=>(k:Int)) (-1) (w9.findIdx? fun x=>decide (x=s))
abbrev sW:=pM×pM×Unit
abbrev tF:Ty:= .pair .str (.pair .str .unit)
def yF (l:List sW) (n:pM):pZ:=l.findIdx? fun x=>decide (x.1=n)
def I4 (l:List sW) (n:pM):pM×Bool:=zO (fun k=>((l.getD k ([],[],())).2.1,true)) ([],false) (yF l n)
theorem aN4 (l:List sW) (n:pM):(I4 l n).2=l.any fun x=>decide (x.1=n):=by
  unfold I4 yF;rw[Y2];cases l.any fun x=>decide (x.1=n)<;>rfl
theorem aN5 (l:List sW) (n:pM) (hl:sV l):MG l n=some (zO (fun k=>(k:Int)) (-1) (yF l n)):=by
  unfold sV at hl
  have h:=S5 (f:=RK l n) (l:=l) (fun x=>decide (x.1=n)) (fun k=>(k:Int)) (fun i h=>by
    unfold RK;rw[aTr (wR h),aTr (vB h),P0 (t:=tF) h,aTr (yE pQ)]) (by
    unfold RK;rw[aTs (A7 _)])
  unfold MG OJ;rw[h,Y5];rfl
theorem Y6 {l:List sW}{n:pM}{k:Nat}(h:yF l n=some k):k<l.length:=by
  unfold yF at h;exact(aUB.1 h).1
theorem aN6 (l:List sW) (n:pM) (hl:sV l):JV l n=some (I4 l n):=by
  unfold JV;rw[aN5 l n hl];unfold I4;cases h:yF l n with
  |none=>rfl
  | some k=>
    have hk:=Y6 h;simp only[zO,aTu];rw[aTs pS,aTr (vB hk),P0 (t:=tF) hk];simp only[zO,aTM,aTy hk];rfl
def uK (l:List sW) (n:pM):Nat:=(l.findIdx? fun x=> !(Op.bytesLess x.1 n||decide (x.1=n))).getD l.length
def xQ (l:List sW) (n v:pM):List sW:=zO (fun k=>l.set k (n,v,())) (l.take (uK l n)++[(n,v,())]++l.drop (uK l n)) (yF l n)
theorem aN7 (l:List sW) (n:pM):uK l n≤l.length:=by
  unfold uK;cases h:l.findIdx? fun x=> !(Op.bytesLess x.1 n||decide (x.1=n)) with
  |none=>exact aTO _
  |some k=>exact Nat.le_of_lt (aUB.1 h).1
theorem aN8 {l:List sW}{n:pM}{k:Nat}(h:yF l n=some k) (hk:k<l.length):l[k].1=n:=by
  unfold yF at h;have:=(aUB.1 h).2.1;simpa using this
theorem aN9 {α:Type}{l:List α}{k:Nat}:s7 l 0 (k:Int)=l.take k:=by unfold s7;simp
theorem P1 {α:Type}{l:List α}{k:Nat}:s7 l (k:Int) (l.length:Int)=l.drop k:=by
  unfold s7;rw[aUj,aUj,List.take_of_length_le];rw[aT2];exact aTO _
def S7 (n:Int):Prop:=0≤n∧n≤1114111∧(n<55296∨57343<n)
def AP (n:Int):Bool:=(((decide ((0:Int)≤n))&&(decide (n≤(1114111:Int))))&&((decide (n<(55296:Int)))||(decide ((57343:Int)<n))))
theorem aOa (n:Int):AP n=true↔S7 n:=by
  unfold AP S7;simp;omega
theorem a79 {n:Int}{k:Int}{j:Nat}(hj:k.toNat=j) (h32:j≤32):yI .i32 n k=n/2^j:=by
  unfold yI;rw[hj,show min j IntKind.i32.bits=j from Nat.min_eq_left h32,Int.fdiv_eq_ediv_of_nonneg];exact Int.pow_nonneg pR
theorem aOb {n:Int}(p:pW) (h:S7 n) (hp:sV p):JS p n=some (p++Lib.encodeRuneZ n):=by
  obtain⟨h0,h1,hs⟩:=h;unfold sV at hp;have u:IntKind.u32.wrap n=n:=by rw[IntKind.wrap_u32];omega
  have s6:yI .i32 n 6=n/64:=a79 (j:=6) rfl pR;have s12:yI .i32 n 12=n/4096:=a79 (j:=12) rfl pR;have s18:yI .i32 n 18=n/262144:=a79 (j:=18) rfl pR
  have b0:bits .or .u8 128 (bits .and .u8 (n%256) 63)=128+n%64:=by
    rw[u8_and63 (x:=n%256) pQ pQ,show n%256%64=n%64 by omega,u8_or128 (y:=n%64) pQ pQ]
  have b1:bits .or .u8 128 (bits .and .u8 (n/64%256) 63)=128+n/64%64:=by
    rw[u8_and63 (x:=n/64%256) pQ pQ,show n/64%256%64=n/64%64 by omega,u8_or128 (y:=n/64%64) pQ pQ]
  have b2:bits .or .u8 128 (bits .and .u8 (n/4096%256) 63)=128+n/4096%64:=by
    rw[u8_and63 (x:=n/4096%256) pQ pQ,show n/4096%256%64=n/4096%64 by omega,u8_or128 (y:=n/4096%64) pQ pQ]
  unfold JS;rw[u];by_cases c1:n≤127
  .rw[aTr (by simpa using c1),aTr pT,Lib.encodeRuneZ_one h0 c1,aVv,show n%256=n by omega]
  rw[aTs (by simpa using c1)]
  unfold M6;simp only[u,s6,s12,s18,aVv,b0,b1,b2];by_cases c2:n≤2047
  · rw[aTr (by simpa using c2),aTr pT,Lib.encodeRuneZ_two pQ c2,show n/64%256=n/64 by omega,u8_or192 (y:=n/64) pQ pQ]
    rfl
  rw[aTs (by simpa using c2)]
  by_cases c3:n≤65535
  · have hx:(if decide (n<55296)=true then some (decide (n<55296)) else some ((decide (57343<n))&&(decide (n≤65535))))=some true:=by
      by_cases c:n<55296
      .rw[aTr (by simpa using c)];simp [c]
      rw[aTs (by simpa using c)];simp;omega
    rw[hx];simp only[uM,aTu];rw[aTr trivial,aTr pT,Lib.encodeRuneZ_three pQ,show n/4096%256=n/4096 by omega,u8_or224 (y:=n/4096) pQ pQ];rfl
  have hx:(if decide (n<55296)=true then some (decide (n<55296)) else some ((decide (57343<n))&&(decide (n≤65535))))=some false:=by
    rw[aTs pT];simp;omega
  rw[hx];simp only[uM,aTu];rw[aTs pR,aTr pT,aTr pT,Lib.encodeRuneZ_four pQ h1,show n/262144%256=n/262144 by omega,u8_or240 (y:=n/262144) pQ pQ];rfl
theorem aGf (n:Int):(Lib.encodeRuneZ n).length≤4:=by
  unfold Lib.encodeRuneZ
  repeat' split
  all_goals simp
theorem aGg {n:Int}(p:pW) (h:S7 n) (hp:sV p): ∃k,FY (p,()) n=some (k,p++Lib.encodeRuneZ n):=by
  have h4:=aGf n;unfold sV at hp;unfold FY;rw[aOb p h hp];simp only[aTu];rw[aTr (by unfold qP;simp;omega)];exact⟨_,rfl⟩
theorem aOc (n:Int):RX [n] (0,[])=some (.inl (1,if AP n=true then Lib.encodeRuneZ n else Lib.encodeRuneZ 65533)):=by
  unfold RX;have hn:qV (.int .i64) [n] 0=n:=rfl;dsimp only;rw[aTr pS,aTr ⟨aUL _,by simp⟩];simp only[hn];by_cases hs:AP n=true
  · have hsc:=(aOa n).1 hs
    obtain⟨k,hk⟩:=aGg (n:=n) [] hsc (by unfold sV;simp)
    have wn:IntKind.i32.wrap n=n:=by
      obtain⟨a,b,c⟩:=hsc;rw[IntKind.wrap_i32];omega
    rw[aTr hs];unfold AP at hs;rw[aTs (by rw[hs];decide),wn,hk];simp only[aTu,List.nil_append];rw[aTr (by unfold qP;omega)];rfl
  rw[aTs hs]
  unfold AP at hs;obtain⟨k,hk⟩:=aGg (n:=65533) [] (by unfold S7;omega) (by unfold sV;simp);rw[aTr (by simp only[aTV] at hs|-;simpa using hs),show IntKind.i32.wrap 65533=65533 from rfl,hk];simp only[aTu,List.nil_append];rw[aTr (by unfold qP;omega)];rfl
theorem aOd (n:Int):JY n=some (if AP n=true then Lib.encodeRune n else Lib.encodeRune 65533):=by
  unfold JY OS;rw[W7 (aOc n),H5 (r:=if AP n=true then Lib.encodeRuneZ n else Lib.encodeRuneZ 65533) (by unfold RX;simp)];simp only[uM,aTu];by_cases hs:AP n=true
  .rw[aTr hs,aTr hs];rfl
  rw[aTs hs,aTs hs];rfl
def cont (s:pM) (i:Nat):Bool:=decide ((s.getD i 0).toNat/64=2)
def fin (s:pM) (x:Int) (n:Nat):Int×Int:=if AP x=true∧Lib.encodeRune x=s.take n then(x,n) else(65533,1)
theorem aGh (n:Int):(Lib.encodeRune n).length≤4:=by
  unfold Lib.encodeRune;rw[aUl];exact aGf n
def sO (s:pM):Bool:=decide ((s.length:Int)≤4000)&&Lib.validD s
theorem MU (s:pM) (hs:sV s):DR s=some ():=by
  unfold sV at hs;unfold DR RC;rw[aTr (fun _=>by rw[aTr pQ];rfl)]
theorem aOe (a b:pM):(!Op.bytesLess a b)=(Op.bytesLess b a||decide (b=a)):=by
  rw[bytesLess_eq,bytesLess_eq,aVq];simp only[aTV,aT5,aU1,aTN];constructor
  · intro h
    exact(List.le_iff_lt_or_eq.1 (List.not_lt.1 h))
  rintro(h|h)
  .exact List.lt_asymm h
  rw[h];exact List.lt_irrefl _
def x8 (l:pN):Bool:=decide ((l.length:Int)≤20)&& !(l.any fun x=> !sO x)
def Y7 (l:pN) (i:Nat):Bool:=(!uU (l.getD i []))||(decide (0<i)&& !Op.bytesLess (l.getD (i-1) []) (l.getD i []))
def DT (l:pN):Bool:= !((List.range l.length).any (Y7 l))&&decide ((l.length:Int)≤20)
abbrev fD:sW:=([],([],()))
def Y8 (l:List sW) (i:Nat):Bool:=((!uU (l.getD i fD).1)||(!sO (l.getD i fD).2.1))||(decide (0<i)&& !Op.bytesLess (l.getD (i-1) fD).1 (l.getD i fD).1)
def wA (l:List sW):Bool:= !((List.range l.length).any (Y8 l))&&decide ((l.length:Int)≤20)
abbrev tU:=tA
def zQ (x:tU):Bool:=
  (((((((!decide (x.1=[]))&&decide ((x.1.length:Int)≤200))&&sO x.1)&&sO x.2.1)&&sO x.2.2.1)&&x8 x.2.2.2.1)&&DT x.2.2.2.2.1)&&(decide (0≤x.2.2.2.2.2.1)&&decide (x.2.2.2.2.2.1≤4))&&wA x.2.2.2.2.2.2.1
theorem sib (l:pM) (b:UInt8):vK l (b.toNat:Int)=Lib.indexByte l b:=by
  unfold vK;rw[aUj];congr 1;simp
def tY (d:UInt8):pM→pZ
  |[]=>none
  |[b]=>if b=d then some 0 else none
  |b::c::t=>if b=d then some 0 else if b=92 then(tY d t).map (· +2) else(tY d (c::t)).map (· +1)
def MV:pZ→Int
  |some k=>k
  |none=> -1
theorem Y9 {d:UInt8}:tY d []=none:=by unfold tY;rfl
theorem YA {d b:UInt8}{t:pM}(h:b=d):tY d (b::t)=some 0:=by
  subst h;cases t<;>(unfold tY;simp)
theorem YB {d b:UInt8}{t:pM}(h:b≠d) (hb:b=92):tY d (b::t)=(tY d (t.drop 1)).map (· +2):=by
  cases t with
  |nil=>unfold tY;rw[aTs h];simp [tY]
  |cons c t=>rw[tY,aTs h,aTr hb];rfl
theorem YC {d b:UInt8}{t:pM}(h:b≠d) (hb:b≠92):tY d (b::t)=(tY d t).map (· +1):=by
  cases t with
  |nil=>unfold tY;rw[aTs h];simp [tY]
  |cons c t=>rw[tY,aTs h,aTs hb]
theorem YD {d:UInt8}: ∀(n:Nat) (l:pM) (k:Nat),l.length≤n→tY d l=some k→k<l.length
  |_,[],_,_,h=>by rw[Y9] at h;cases h
  |0,_::_,_,hn,_=>by simp at hn
  | n+1,b::t,k,hn,h=>by
    simp only[aTx] at hn|-;by_cases h1:b=d
    .rw[YA h1] at h;cases h;omega
    by_cases h2:b=92
    · rw[YB h1 h2] at h
      cases h3:tY d (t.drop 1) with
      |none=>rw[h3] at h;cases h
      | some j=>
        rw[h3] at h;obtain rfl:j+2=k:=aTv h;have:=YD n (t.drop 1) j (by rw[aT2];omega) h3;rw[aT2] at this;omega
    rw[YC h1 h2] at h
    cases h3:tY d t with
    |none=>rw[h3] at h;cases h
    | some j=>
      rw[h3] at h;obtain rfl:j+1=k:=aTv h;have:=YD n t j pQ h3;omega
theorem a8a {a b:UInt8}:((a.toNat:Int)=(b.toNat:Int))↔a=b:=by
  rw[Int.ofNat_inj];exact UInt8.toNat_inj
theorem a8b (n:Int) (hn:n≠4) (s:pM) (d:UInt8) (hs:sV s): ∀(k i:Nat),s.length+1≤i+k→sF (M2 n s (d.toNat:Int)) (i:Int)=some (zO (fun k=> .inr ((i+k:Nat):Int)) (.inl ()) (tY d (s.drop i)))
  | 0,i,h=>by
    rw[List.drop_eq_nil_of_le pQ,Y9,H5 (r:= .inl ()) (by unfold M2;rw[aTs pT])];rfl
  | k+1,i,h=>by
    by_cases hlt:i<s.length
    · have hs':=hs
      unfold sV at hs'
      have hstep:M2 n s (d.toNat:Int) (i:Int)=if s[i]=d then some (.inr (.inr (i:Int))) else if s[i]=92 then some (.inl ((i+2:Nat):Int)) else some (.inl ((i+1:Nat):Int)):=by
        unfold M2;rw[aTr (wR hlt),aTr (vB hlt),S4 hlt];by_cases h1:s[i]=d
        .rw[aTr (by simp [h1]),aTr h1]
        rw[aTs (by simpa[a8a] using h1),aTs h1,aTr (fun _=>vB hlt)]
        have h92:((92:Int))=((92:UInt8).toNat:Int):=rfl;by_cases h2:s[i]=92
        · rw[aTr (by rw[h2];simp [hn]),aTr h2,aTr (yE pQ),aTr (by unfold qP;omega)]
          congr 3
        rw[aTs (fun h=>by
          simp only[aTL,aTN] at h;exact h2 (a8a.1 (h.2.trans h92))),aTs h2,aTr (yE pQ)]
        rfl
      rw[uO,hstep,aUa hlt];by_cases h1:s[i]=d
      .rw[aTr h1,YA h1];rfl
      rw[aTs h1]
      by_cases h2:s[i]=92
      · rw[aTr h2,YB h1 h2]
        show sF _ ((i+2:Nat):Int)=_;rw[a8b n hn s d hs k (i+2) pQ,aVy];cases tY d (s.drop (i+2)) with
        |none=>rfl
        | some j=>
          show some (Sum.inr ((i+2+j:Nat):Int))=some (Sum.inr ((i+(j+2):Nat):Int));rw[show i+2+j=i+(j+2) by omega]
      rw[aTs h2,YC h1 h2]
      show sF _ ((i+1:Nat):Int)=_;rw[a8b n hn s d hs k (i+1) pQ];cases tY d (s.drop (i+1)) with
      |none=>rfl
      | some j=>
        show some (Sum.inr ((i+1+j:Nat):Int))=some (Sum.inr ((i+(j+1):Nat):Int));rw[show i+1+j=i+(j+1) by omega]
    rw[List.drop_eq_nil_of_le pQ,Y9,H5 (r:= .inl ()) (by unfold M2;rw[aTs pT])]
    rfl
theorem aOf {n:Int}(h1:1≤n) (h3:n≤3) (s:pM) (d:UInt8) (hs:sV s):M3 n s (d.toNat:Int)=some (MV (tY d s)):=by
  unfold M3;have h:=a8b n pQ s d hs (s.length+1) 0 pQ;rw[aTs pT,show ((0:Int))=((0:Nat):Int) from rfl,h,aUN];cases tY d s with
  |none=>rfl
  | some k=>
    show some (((0+k:Nat)):Int)=some (k:Int);rw[aTW]
def I5 (c base:Int):Int:=
  let n:=if 48≤c∧c≤57 then c-48 else if 97≤c∧c≤102 then c-87 else if 65≤c∧c≤70 then c-55 else-1
  if base≤n then-1 else n
def YE:pM:=[48,49,50,51,52,53,54,55,56,57,97,98,99,100,101,102]
theorem aOg: ∀n:Fin 256,Lib.indexByte YE (UInt8.ofNat n)=if 48≤(n.val:Int)∧(n.val:Int)≤57 then(n.val:Int)-48 else if 97≤(n.val:Int)∧(n.val:Int)≤102 then(n.val:Int)-87 else-1:=by decide
theorem aOh (b:UInt8):Lib.indexByte YE b=if 48≤(b.toNat:Int)∧(b.toNat:Int)≤57 then(b.toNat:Int)-48 else if 97≤(b.toNat:Int)∧(b.toNat:Int)≤102 then(b.toNat:Int)-87 else-1:=by
  have:=aOg ⟨b.toNat,b.toNat_lt⟩;simpa using this
def EZ (base:Int):Int→pM→Option Int
  |acc,[]=>some acc
  |acc,b::t=>if I5 b.toNat base<0 then none else EZ base (base*acc+I5 b.toNat base) t
theorem aOi {c base:Int}(hb:0<base): -1≤I5 c base∧I5 c base<base:=by
  unfold I5;dsimp only
  repeat' split
  all_goals omega
theorem aGj (s:pM) (base:Int) (hb:0<base) (hb16:base≤16) (hs:s.length≤8): ∀(k j:Nat) (acc:Int),j+k=s.length→0≤acc→acc<16^j→
    sF (OH s base) (acc,(j:Int))=some (match EZ base acc (s.drop j) with|some n=> .inl n|none=> .inr (0,false))
  | 0,j,acc,hj,_,_=>by
    have:j=s.length:=by omega
    subst this;rw[aUG,H5 (r:= .inl acc) (by unfold OH;simp)];rfl
  | k+1,j,acc,hj,h0,h1=>by
    have hlt:j<s.length:=by omega
    have hc:=s[j].toNat_lt;have hd:=aOi (c:=(s[j].toNat:Int)) hb
    have hp:(16:Int) ^j≤16^8:=by
      have:(16:Nat) ^j≤16^8:=Nat.pow_le_pow_right pR pQ
      exact_mod_cast this
    have h8:(16:Int) ^8=4294967296:=by decide
    have hm:acc*base≤acc*16:=Int.mul_le_mul_of_nonneg_left hb16 h0;have hm0:0≤acc*base:=Int.mul_nonneg h0 pQ;have hcm:acc*base=base*acc:=Int.mul_comm _ _
    have hstep:OH s base (acc,(j:Int))=if I5 s[j].toNat base<0 then some (.inr (.inr (0,false))) else some (.inl (base*acc+I5 s[j].toNat base,((j+1:Nat):Int))):=by
      unfold OH;dsimp only;rw[aTr (wR hlt),aTr (vB hlt),aTr (vB hlt),aTr (fun _=>vB hlt),S4 hlt,aTr (vB hlt),sib];have hidx:=aOh s[j]
      have hval:(if ((decide ((65:Int)≤(s[j].toNat:Int)))&&(decide ((s[j].toNat:Int)≤(70:Int))))=true then(if qP ((IntKind.wrap .i64 (IntKind.wrap .u8 ((s[j].toNat:Int)- (65:Int))))+(10:Int)) then some (((IntKind.wrap .i64 (IntKind.wrap .u8 ((s[j].toNat:Int)- (65:Int))))+(10:Int))) else none) else some (Lib.indexByte YE s[j]))=some (if 48≤(s[j].toNat:Int)∧(s[j].toNat:Int)≤57 then(s[j].toNat:Int)-48 else if 97≤(s[j].toNat:Int)∧(s[j].toNat:Int)≤102 then(s[j].toNat:Int)-87 else if 65≤(s[j].toNat:Int)∧(s[j].toNat:Int)≤70 then(s[j].toNat:Int)-55 else-1):=by
        by_cases c:65≤(s[j].toNat:Int)∧(s[j].toNat:Int)≤70
        · rw[aTr (by simpa using c),show IntKind.i64.wrap (IntKind.u8.wrap ((s[j].toNat:Int)-65))=(s[j].toNat:Int)-65 by rw[aVv,IntKind.wrap_i64];omega,aTr (by unfold qP;omega),aTs pQ,aTs pQ,aTr c]
          congr 1;omega
        rw[aTs (by simpa using c),hidx,aTs c]
      unfold uM;rw[show ([48,49,50,51,52,53,54,55,56,57,97,98,99,100,101,102]:pM)=YE from rfl,hval];simp only[aTu];unfold I5;dsimp only;generalize (if 48≤(s[j].toNat:Int)∧(s[j].toNat:Int)≤57 then(s[j].toNat:Int)-48 else if 97≤(s[j].toNat:Int)∧(s[j].toNat:Int)≤102 then(s[j].toNat:Int)-87 else if 65≤(s[j].toNat:Int)∧(s[j].toNat:Int)≤70 then(s[j].toNat:Int)-55 else-1)=D;by_cases hn:D<0∨base≤D
      · rw[aTr (by simpa using hn)]
        by_cases hbD:base≤D
        .rw[aTr hbD,aTr pR]
        rw[aTs hbD,aTr pQ]
      rw[aTs (by simpa using hn)]
      have hbD: ¬base≤D:=fun h=>hn (.inr h);have hD0: ¬D<0:=fun h=>hn (.inl h);rw[aTs hbD,aTs hD0,aTr (by unfold qP;omega),aTr (by unfold qP;omega),aTr (yE pQ),hcm];rfl
    rw[uO,hstep,aUa hlt,EZ];by_cases hn:I5 s[j].toNat base<0
    .rw[aTr hn,aTr hn];rfl
    rw[aTs hn,aTs hn]
    show sF _ (_,((j+1:Nat):Int))=_;exact aGj s base hb hb16 hs k (j+1) _ pQ pQ (by rw[Int.pow_succ];omega)
theorem aGk (s:pM) (base:Int) (hb:0<base) (hb16:base≤16) (hs:s.length≤8):FS s base=some (match EZ base 0 s with|some n=>(n,!decide (s=[])) |none=>(0,false)):=by
  unfold FS;rw[show ((0:Int),(0:Int))=((0:Int),((0:Nat):Int)) from rfl,aGj s base hb hb16 hs s.length 0 0 pQ pQ pR,aUN];cases h:EZ base 0 s with
  |none=>rfl
  |some n=>rfl
theorem a8c {base:Int}(hb:0<base): ∀{s:pM}{acc n:Int},0≤acc→EZ base acc s=some n→0≤n
  |[],acc,n,h0,h=>by cases h;exact h0
  | b::t,acc,n,h0,h=>by
    rw[EZ] at h;split at h
    .cases h
    exact a8c hb (by have:=Int.mul_nonneg (Int.le_of_lt hb) h0;omega) h
def S8:pM:=[92,34,61,58,35,33,123,125,32]
def K0 (l:pM) (k:Nat) (ok:Int→Bool) (f:Int→pM):pM×Nat:=
  match EZ 16 0 l with
  |some n=>if ok n=true then(f n,k) else([],0)
  |none=>([],0)
def z6 (l:pM):pM×Nat:=
  match l with
  | _::c::t=>
    if c=110 then([10],2) else if c=114 then([13],2) else if c=116 then([9],2)
    else if S8.contains c=true then([c],2)
    else if c=120∧2≤t.length then K0 (t.take 2) 4 (fun n=>decide (n≤127)) (fun n=>uA [n])
    else if c=117∧4≤t.length then K0 (t.take 4) 6 AP Lib.encodeRune
    else([],0)
  |_=>([],0)
theorem DB {a:UInt8}{n:Int}(b:UInt8) (hb:n=(b.toNat:Int)):decide ((a.toNat:Int)=n)=decide (a=b):=by
  rw[hb];simp only[a8a]
theorem aOj (a c:UInt8) (t:pM):s7 (a::c::t) 2 4=t.take 2:=rfl
theorem aOk (a c:UInt8) (t:pM):s7 (a::c::t) 2 6=t.take 4:=rfl
theorem aOl (a c:UInt8) (t:pM):s7 (a::c::t) 1 2=[c]:=rfl
theorem aOm (a:UInt8) (t:pM):I1 (a::t)=some ((z6 (a::t)).1,((z6 (a::t)).2:Int)):=by
  cases t with
  |nil=>unfold I1;rw[aTr pS];rfl
  | cons c t=>
    have hy:sX (a::c::t) (1:Int)=(c.toNat:Int):=S4 (i:=1) pS;have hlen:((a::c::t).length:Int)=(t.length:Int)+2:=by simp;omega
    unfold I1;rw[aTs pT,aTr (⟨pR,by simp;omega⟩),hy,DB (n:=110) 110 rfl,DB (n:=114) 114 rfl,DB (n:=116) 116 rfl,DB (n:=120) 120 rfl,DB (n:=117) 117 rfl,sib,aOj,aOk,aOl,hlen,←Lib.contains_iff_indexByte];show _=some ((if c=110 then(([10],2):pM×Nat) else _).1,((if c=110 then(([10],2):pM×Nat) else _).2:Int));by_cases h1:c=110
    .rw[aTr (by simpa using h1),aTr h1];rfl
    rw[aTs (by simpa using h1),aTs h1];by_cases h2:c=114
    .rw[aTr (by simpa using h2),aTr h2];rfl
    rw[aTs (by simpa using h2),aTs h2];by_cases h3:c=116
    .rw[aTr (by simpa using h3),aTr h3];rfl
    rw[aTs (by simpa using h3),aTs h3];by_cases hx:c=120
    · subst hx
      rw[aTr (show decide ((120:UInt8)=120)=true from rfl),aTs (show¬S8.contains 120=true by decide)];by_cases h5:2≤t.length
      · rw[aTr pT,aTr ⟨pR,pR,pQ⟩,aTr (show _∧_ from⟨rfl,h5⟩),aGk _ 16 pR pR (by rw[aUg];omega),aTu]
        unfold K0;cases hn:EZ 16 0 (t.take 2) with
        |none=>rfl
        | some n=>
          have h0:=a8c pR (aUL 0) hn;have hne:t.take 2≠[]:=by intro h;have:=aTR List.length h;rw[aUg,aTI] at this;omega
          simp only[hne,decide_false,Bool.not_false,Bool.true_and];by_cases h7:n≤127
          .rw[aTr (by simpa using h7),aTr (by simpa using h7),aVv,show n%256=n by omega];rfl
          rw[aTs (by simpa using h7),aTs (by simpa using h7)];rfl
      rw[aTs pT,aTs (fun h=>h5 h.2),aTs (show¬((120:UInt8)=117∧4≤t.length) from fun h=>by cases h.1)]
      rfl
    rw[aTs (by simpa using hx)];by_cases hu:c=117
    · subst hu
      rw[aTr (show decide ((117:UInt8)=117)=true from rfl),aTs (show¬S8.contains 117=true by decide),aTs (show¬((117:UInt8)=120∧2≤t.length) from fun h=>by cases h.1)];by_cases h5:4≤t.length
      · rw[aTr pT,aTr ⟨pR,pR,pQ⟩,aTr (show _∧_ from⟨rfl,h5⟩),aGk _ 16 pR pR (by rw[aUg];omega),aTu]
        unfold K0;cases hn:EZ 16 0 (t.take 4) with
        |none=>rfl
        | some n=>
          have h0:=a8c pR (aUL 0) hn;have hne:t.take 4≠[]:=by intro h;have:=aTR List.length h;rw[aUg,aTI] at this;omega
          simp only[hne,decide_false,Bool.not_false];rw[aTr trivial,aOd,aTu]
          have hb:AP n=(decide (n≤1114111)&&(decide (n<55296)||decide (57343<n))):=by
            unfold AP;rw[show decide ((0:Int)≤n)=true by simpa using h0,Bool.true_and]
          rw[←hb];by_cases h7:AP n=true
          .rw[aTr h7,aTr h7,aTr h7];rfl
          rw[aTs h7,aTs h7];rfl
      rw[aTs pT,aTs (fun h=>h5 h.2)]
      rfl
    rw[aTs (by simpa using hu)];show (if S8.contains c=true then _ else _)=_;by_cases h4:S8.contains c=true
    .rw[aTr h4,aTr h4,aTr ⟨pR,pR,pQ⟩];rfl
    rw[aTs h4,aTs h4,aTs (fun h=>hx h.1),aTs (fun h=>hu h.1)]
    rfl
def I6 (n:Int) (b:UInt8):Bool:=decide (b=10)||((decide (n=2)||decide (n=3))&&decide (b=34))
def v8 (n:Int):pM→pM×Nat
  |[]=>([],0)
  |b::t=>if b=92 then z6 (b::t) else if I6 n b=true then([b],0) else([b],1)
theorem YF {l:pM}{k:Nat}{ok:Int→Bool}{f:Int→pM}(hf: ∀n,(f n).length≤4):(K0 l k ok f).1.length≤4∧((K0 l k ok f).2=0∨(K0 l k ok f).2=k):=by
  unfold K0;cases EZ 16 0 l with
  |none=>exact⟨by simp,.inl rfl⟩
  | some n=>
    dsimp only;split
    .exact⟨hf n,.inr rfl⟩
    exact⟨by simp,.inl rfl⟩
theorem aOn (l:pM):(z6 l).1.length≤4∧(z6 l).2≤l.length:=by
  unfold z6;split
  · rename_i a c t
    have h1:=YF (l:=t.take 2) (k:=4) (ok:=fun n=>decide (n≤127)) (f:=fun n=>uA [n]) (fun n=>by simp [uA]);have h2:=YF (l:=t.take 4) (k:=6) (ok:=AP) (f:=Lib.encodeRune) aGh
    repeat' split
    all_goals first
      |exact⟨by simp,by simp⟩
      |(rename_i h;exact⟨h1.1,by rcases h1.2 with e|e<;>rw[e]<;>simp<;>omega⟩)
      |(rename_i h;exact⟨h2.1,by rcases h2.2 with e|e<;>rw[e]<;>simp<;>omega⟩)
  exact⟨by simp,by simp⟩
theorem S9 {n:Int}{b:UInt8}{t:pM}(h:b=92):v8 n (b::t)=z6 (b::t):=aTr h
theorem SA {n:Int}{b:UInt8}{t:pM}(h:b≠92) (hb:I6 n b=true):v8 n (b::t)=([b],0):=(aTs h).trans (aTr hb)
theorem SB {n:Int}{b:UInt8}{t:pM}(h:b≠92) (hb: ¬I6 n b=true):v8 n (b::t)=([b],1):=(aTs h).trans (aTs hb)
theorem a8d (n:Int) (l:pM):(v8 n l).1.length≤4∧(v8 n l).2≤l.length:=by
  cases l with
  |nil=>exact⟨by simp [v8],by simp [v8]⟩
  | cons b t=>
    by_cases h:b=92
    .rw[S9 h];exact aOn _
    by_cases hb:I6 n b=true
    .rw[SA h hb];exact⟨by simp,by simp⟩
    rw[SB h hb];exact⟨by simp,by simp⟩
def BJ (n:Int):Nat→pM→pM⊕Nat
  |0,_=> .inl []
  |_+1,[]=> .inl []
  | k+1,b::t=>if (v8 n (b::t)).2=0 then .inr 0 else match BJ n k ((b::t).drop (v8 n (b::t)).2) with
    | .inl r=> .inl ((v8 n (b::t)).1++r)
    | .inr e=> .inr ((v8 n (b::t)).2+e)
def wS (n:Int) (s:pM):pM×Int×Int:=match BJ n s.length s with
  | .inl r=>(r,0,0)
  | .inr e=>([],e,3)
theorem a8e (a b:pM):uI (a++b)=uI a++uI b:=by simp [uI]
theorem a8f (a:pM):uA (uI a)=a:=by
  unfold uA uI;rw[List.map_map]
  conv=>rhs;rw[←List.map_id a]
  congr 1;funext b;simp
theorem aOo {n:Int}(h1:1≤n) (h3:n≤3) (b:UInt8):M4 n (b.toNat:Int)=I6 n b:=by
  unfold M4 I6 B2;rw[DB (n:=10) 10 rfl,DB (n:=34) 34 rfl];by_cases c1:n=1
  .subst c1;simp
  have h23:n=2∨n=3:=by omega
  rcases h23 with rfl|rfl<;>simp
theorem aOp {x:pW}{c:Int}(hx:x.length≤10000000000000):M5 (x,()) c=some ():=by
  unfold M5;exact aTr (by simp only[aUu,aVa];omega)
theorem aOq {x:pW}{t:pM}(hx:x.length≤10000000000000) (ht:t.length≤4000000000):DQ (x,()) t=some ():=by
  unfold DQ;exact aTr (by dsimp only;omega)
theorem aOr {n:Int}(h1:1≤n) (h3:n≤3) {s:pM}(hs:sV s) {x:pW}{i:Nat}(hi:i<s.length) (hx:x.length≤10000000000000):
    OU n s ((i:Int),x)=if (v8 n (s.drop i)).2=0 then some (.inr (.inr ([],(i:Int),3))) else some (.inl (((i+(v8 n (s.drop i)).2:Nat):Int),x++uI (v8 n (s.drop i)).1)):=by
  have hs':=hs;unfold sV at hs';have hp:=a8d n (s.drop i);rw[aT2] at hp;unfold OU;dsimp only;rw[aTr (wR hi),aTr (vB hi),S4 hi,P1,DB (n:=92) 92 rfl,aOo h1 h3];rw[aUa hi] at hp|-;by_cases c1:s[i]=92
  · rw[S9 c1] at hp|-
    rw[aTr (by simpa using c1),aTr ⟨pQ,pQ,aUL _⟩,aOm];simp only[aTu];by_cases h0:(z6 (s[i]::s.drop (i+1))).2=0
    .rw[aTr (by rw[h0];rfl),aTr h0]
    rw[aTs (by rw[aTN];omega),aTs h0,aOq hx pQ]
    simp only[aTu];rw[aTr (by unfold qP;omega)];rfl
  rw[aTs (by simpa using c1),aTr (vB hi)]
  by_cases hb:I6 n s[i]=true
  .rw[aTr hb,SA c1 hb];rfl
  rw[aTs hb,SB c1 hb,aTr (vB hi),aOp hx,aTu]
  rw[aTr (yE pQ)];rfl
theorem aGl {n:Int}(h1:1≤n) (h3:n≤3) {s:pM}(hs:sV s): ∀(k i:Nat) (x:pW),i≤s.length→s.length-i≤k→x.length+4*(s.length-i)≤5000000000000→
    sF (OU n s) ((i:Int),x)=some (match BJ n k (s.drop i) with| .inl r=> .inl (x++uI r) | .inr e=> .inr ([],((i+e:Nat):Int),3))
  | k,i,x,hi,hk,hx=>by
    by_cases hlt:i<s.length
    · cases k with
      |zero=>omega
      | succ k=>
        have hp:=a8d n (s.drop i);rw[uO,aOr h1 h3 hs hlt pQ];rw[aT2] at hp
        have hu:BJ n (k+1) (s.drop i)=if (v8 n (s.drop i)).2=0 then .inr 0 else match BJ n k ((s.drop i).drop (v8 n (s.drop i)).2) with
            | .inl r=> .inl ((v8 n (s.drop i)).1++r)
            | .inr e=> .inr ((v8 n (s.drop i)).2+e):=by
          rw[aUa hlt,BJ]
        rw[hu];by_cases h0:(v8 n (s.drop i)).2=0
        .rw[aTr h0,aTr h0];rfl
        rw[aTs h0,aTs h0]
        show sF _ (((i+(v8 n (s.drop i)).2:Nat):Int),_)=_;rw[aGl h1 h3 hs k _ _ pQ pQ (by rw[aTt];simp only[uI,aUl];omega),aVy];cases BJ n k (s.drop (i+(v8 n (s.drop i)).2)) with
        |inl r=>dsimp only;rw[a8e,aTD]
        |inr e=>dsimp only;rw[aT3]
    have:i=s.length:=by omega
    subst this;rw[H5 (r:= .inl x) (by unfold OU;simp),aUG];cases k<;>simp [BJ,uI]
theorem aOs {n:Int}(h1:1≤n) (h3:n≤3) {s:pM}(hs:sV s):I2 n s=some (wS n s):=by
  unfold I2;have hs':=hs;unfold sV at hs';rw[aTs pT,aTs pT,show ((0:Int),([]:pW))=(((0:Nat):Int),([]:pW)) from rfl,aGl h1 h3 hs s.length 0 [] pQ pQ pT,aUN];unfold wS;cases BJ n s.length s with
  | inl r=>
    show some (uA ([]++uI r),(0:Int),(0:Int))=_;rw[List.nil_append,a8f]
  | inr e=>
    show some (([]:pM),((0+e:Nat):Int),(3:Int))=_;rw[aTW]
theorem aOt (x y:UInt8):(x==y)=decide (y=x):=by
  by_cases h:y=x
  .subst h;rw[beq_self_eq_true,aT7 rfl]
  rw[decide_eq_false h,beq_eq_false_iff_ne];exact fun e=>h e.symm
theorem aOu {o:pZ}:(if (MV o== -1)=true then(-1:Int) else MV o+1)=MV (o.map (· +1)):=by
  cases o with
  |none=>rfl
  | some k=>
    show (if ((k:Int)== -1)=true then(-1:Int) else(k:Int)+1)=((k+1:Nat):Int);rw[aTs (by rw[aU7];omega)];rfl
theorem a8g: ∀(l:pM),Lib.indexByte l 10=MV (l.findIdx? fun b=>decide (b=10))
  |[]=>rfl
  | b::t=>by
    rw[Lib.indexByte,aU4,a8g t,aOt,aOu];by_cases h:b=10
    .subst h;rfl
    rw[aTs (by simpa using fun e=>h (Eq.symm e)),aTs (by simpa using h)]
theorem aOv (l:pM):(z6 l).2=0∨(z6 l).1.length≤(z6 l).2:=by
  unfold z6;split
  · rename_i a c t
    have h1:=YF (l:=t.take 2) (k:=4) (ok:=fun n=>decide (n≤127)) (f:=fun n=>uA [n]) (fun n=>by simp [uA]);have h2:=YF (l:=t.take 4) (k:=6) (ok:=AP) (f:=Lib.encodeRune) aGh
    repeat' split
    all_goals first
      |exact .inl rfl
      |exact .inr pS
      | (rcases h1.2 with e|e
         .exact .inl e
         .exact .inr (by rw[e];exact h1.1))
      | (rcases h2.2 with e|e
         .exact .inl e
         exact .inr (by rw[e];have:=h2.1;omega))
  exact .inl rfl
theorem aOw (n:Int) (l:pM):(v8 n l).2=0∨(v8 n l).1.length≤(v8 n l).2:=by
  cases l with
  |nil=>exact .inl rfl
  | cons b t=>
    by_cases h:b=92
    .rw[S9 h];exact aOv _
    by_cases hb:I6 n b=true
    .rw[SA h hb];exact .inl rfl
    rw[SB h hb];exact .inr pS
theorem aGm (n:Int): ∀(k:Nat) (l r:pM),BJ n k l= .inl r→r.length≤l.length
  |0,_,_,h=>by cases h;simp
  |_+1,[],_,h=>by cases h;simp
  | k+1,b::t,r,h=>by
    rw[BJ] at h;split at h
    .cases h
    rename_i hz
    have hp:=(aOw n (b::t)).resolve_left hz;have hq:=(a8d n (b::t)).2;cases hu:BJ n k ((b::t).drop (v8 n (b::t)).2) with
    | inl r'=>
      rw[hu] at h;cases h;have:=aGm n k _ r' hu;rw[aT2] at this;rw[aTt];omega
    |inr e=>rw[hu] at h;cases h
theorem aGn (n:Int) (s:pM):(wS n s).1.length≤s.length:=by
  unfold wS;cases h:BJ n s.length s with
  |inl r=>exact aGm n _ _ _ h
  |inr e=>simp
theorem aOx {p:Prop}{α:Type}{v:α}:p→(some v).isSome=true:=fun _=>rfl
abbrev C4:=pM×(pN×(List sW×(List tA×Unit)))
theorem x9 {v:Ty}(a b:pM) (y:v.den): ∀l:List (pM×v.den),sN .str v (sY .str v a y l) b=if b=a then y else sN .str v l b
  | []=>by
    show (if decide (b=a)=true then y else v.zero)=if b=a then y else v.zero;by_cases h:b=a<;>simp [h]
  | (x,z)::r=>by
    have ih:=x9 a b y r;show sN .str v (if decide (a=x)=true then(a,y)::r else(x,z)::sY .str v a y r) b=if b=a then y else(if decide (b=x)=true then z else sN .str v r b);by_cases h:a=x
    · rw[aTr (aT7 h)]
      show (if decide (b=a)=true then y else sN .str v r b)=_;by_cases hb:b=a
      .rw[aTr (aT7 hb),aTr hb]
      rw[aTs (by simpa using hb),aTs hb,aTs (by rw[←h];simpa using hb)]
    rw[aTs (by simpa using h)]
    show (if decide (b=x)=true then z else sN .str v (sY .str v a y r) b)=_;rw[ih];by_cases hb:b=a
    .rw[aTr hb,aTr hb,aTs (by rw[hb];simpa using h)]
    rw[aTs hb,aTs hb]
theorem G1: ∀(x y:pM),Op.bytesLess x y=decide (x<y)
  |[],[]=>by simp [Op.bytesLess]
  |_::_,[]=>by simp [Op.bytesLess]
  |[],_::_=>by simp [Op.bytesLess]
  | a::x,b::y=>by
    rw[Op.bytesLess,G1 x y];simp only[List.cons_lt_cons_iff];by_cases h1:a<b<;>by_cases h2:a=b<;>by_cases h3:x<y<;>simp [h1,h2,h3]
theorem a8h (l:pN):(tN l).Pairwise (·≤·):=by
  have:=List.pairwise_mergeSort (le:=fun x y:pM=>decide (x≤y)) (fun a b c h1 h2=>aT7 (List.le_trans (aT6 h1) (aT6 h2))) (fun a b=>by simpa using List.le_total a b) l;exact this.imp (fun h=>aT6 h)
theorem SC (l:pN):(tN l).Perm l:=List.mergeSort_perm l _
theorem SD (l:pN):(tN l).length=l.length:=(SC l).length_eq
theorem aOy {σ ρ:Type}{f:σ→Option (σ⊕ρ)}{x y:σ}(h:f x=some (.inl y)):sF f x=sF f y:=by
  rw[uO,h];rfl
theorem aOz {σ ρ:Type}{f:σ→Option (σ⊕ρ)}{x:σ}{r:ρ}(h:f x=some (.inr r)):sF f x=some r:=by
  rw[uO,h];rfl
theorem a8i {σ ρ:Type}{f:σ→Option (σ⊕ρ)}{n:Nat}(st:Nat→σ) {r:ρ}(h: ∀i,i<n→f (st i)=some (.inl (st (i+1)))) (he:f (st n)=some (.inr r)): ∀(k i:Nat),i+k=n→sF f (st i)=some r
  | 0,i,hi=>by
    have:i=n:=by omega
    subst this;exact aOz he
  | k+1,i,hi=>by
    rw[aOy (h i pQ)];exact a8i st h he k (i+1) pQ
abbrev pc (s:pM) (l:q8) (i:Nat):pM:=s7 s ((if i=0 then 0 else l.getD (i-1) 0:Nat):Int) (l.getD i 0:Nat)
abbrev P2 (s:pM) (l:q8):pN:=(List.range l.length).map (pc s l)
abbrev P3 (l:q8):Nat:=l.getD (l.length-1) 0
section
variable {s:pM}(hsm:s.length≤4000000000) {l:q8}(hne:l≠[]) (hs:l.Pairwise (·≤·)) (hle: ∀x∈l,x≤s.length) (hl:l.length≤5000)
theorem YG {i:Nat}(h:i<l.length):qV (.int .i64) (l.map (fun n:Nat=>(n:Int))) (i:Int)=(l.getD i 0:Nat):=by
  rw[P0 (t:= .int .i64) (by simpa using h),List.getElem_map,aTM,aTy h];rfl
include hle in
theorem a8j {i:Nat}(h:i<l.length):l.getD i 0≤s.length:=by
  rw[aTM,aTy h];exact hle _ (aUF h)
include hs in
theorem aOA {i j:Nat}(hij:i<j) (h:j<l.length):l.getD i 0≤l.getD j 0:=by
  rw[aTM,aTM,aTy h,aTy pQ];exact(aT4.1 hs) i j pQ h hij
end
theorem aOB (d:uZ) (h:d.2.1.length≤5000):HU d d=some ([],0):=by
  have hn:((([d.1]:pN)++d.2.1)++([d.2.2.1]:pN)).length=d.2.1.length+2:=by simp
  have hA:M1 d=some ():=by
    unfold M1;rw[aTr pT,aTr pT]
  have hloop:=a8i (f:=RM d d) (n:=d.2.1.length+2) (fun i=>(([]:List (Int×pM×Unit)),(i:Int))) (r:=[])
    (fun i hi=>by
      unfold RM;dsimp only;rw[hn,aTr (wR hi),aTr (vB hi),aTr (vB hi),aTs pS,aTr (yE pQ)];rfl)
    (by
      unfold RM;dsimp only;rw[hn,aTs (A7 _)]) (d.2.1.length+2) 0 pQ
  unfold HU;rw[aTs pS,hA,aTu,aTu,show (([]:List (Int×pM×Unit)),(0:Int))=(([]:List (Int×pM×Unit)),((0:Nat):Int)) from rfl,hloop];rfl
theorem aOC (d:uZ) (h:d.2.1.length≤5000):JT d d=some true:=by
  unfold JT;rw[aOB d h];rfl
abbrev eD:tU:=([],([],([],([],([],(0,([],())))))))
def I7 (es:List tU) (i:Nat):Bool:=((es.take i).any fun y=>decide (y.1=(es.getD i eD).1))|| !zQ (es.getD i eD)
def yS (c:C4):Bool:=((xP c.1&&x8 c.2.1)&&wA c.2.2.1)&&(decide ((c.2.2.2.1.length:Int)≤1000)&& !((List.range c.2.2.2.1.length).any (I7 c.2.2.2.1)))
theorem a8k {c:C4}(hok:yS c=true) {i:Nat}(hi:i<c.2.2.2.1.length):zQ (c.2.2.2.1.getD i eD)=true:=by
  unfold yS at hok;simp only[aTL,aTV,aT9,aU6] at hok;have:=hok.2.2 i hi;unfold I7 at this;simp only[aU1,aTV,not_or,Bool.not_eq_false] at this;exact this.2
theorem aGo {l:pM}(h: ∀b∈l,b.toNat<128):Lib.validD l=true:=by
  rw[Lib.validD_ascii l.length l (fun b hb=>h b (List.mem_of_mem_take hb)),aUG];rfl
theorem aOD {b:UInt8}(h:yZ b.toNat=false):b.toNat<128:=by
  unfold yZ at h;simp only[aVj,aVf,aTL,aTN] at h;omega
theorem a8l {x:pM}(h:uU x=true):sO x=true:=by
  cases x with
  |nil=>cases h
  | cons b t=>
    unfold uU at h;simp only[aTL,aTV,aT9,aUH,aT5] at h;obtain⟨⟨h0,h1⟩,h2⟩:=h;unfold sO;rw[aTL,aTN];refine⟨by simp only[aTx];omega,aGo fun c hc=>?_⟩;rcases aTE.1 hc with rfl|hc
    · unfold BI at h1
      simp only[aTL,aTN] at h1;omega
    exact aOD (h2 c hc)
theorem I8 {l:pN}(h:x8 l=true):l.length≤20∧∀x∈l,sO x=true:=by
  unfold x8 at h;simp only[aTL,aTV,aT9,aTN,aUH,aVf] at h;exact⟨pQ,fun x hx=>by simpa using h.2 x hx⟩
theorem a8m {α:Type}{r:α→α→Prop}(tr: ∀a b c,r a b→r b c→r a c) {l:List α}(h: ∀(i:Nat) (hi:i+1<l.length),r l[i] l[i+1]):l.Pairwise r:=by
  rw[aT4];intro i j hi hj hij;obtain⟨k,rfl⟩: ∃k,j=i+1+k:=⟨j-i-1,pQ⟩
  induction k with
  |zero=>exact h i hj
  |succ k ih=>exact tr _ _ _ (ih pQ pQ) (h (i+1+k) hj)
theorem F0 {α:Type}{l:List α}{i:Nat}{d:α}(h:i<l.length):l.getD i d=l[i]:=by
  rw[aTM,aTy h];rfl
theorem YH {l:pN}(h:DT l=true):l.length≤20∧(∀x∈l,uU x=true)∧l.Pairwise (· < ·):=by
  unfold DT at h;simp only[aTL,aTV,aT9,aTN,aU6,aUH] at h;obtain⟨h1,h2⟩:=h;unfold Y7 at h1;simp only[aUO,aVj,aVf,aT5] at h1;refine⟨pQ,fun x hx=>?_,a8m (r:=fun a b:pM=>a<b) (fun a b c=>List.lt_trans) fun i hi=>?_⟩
  · obtain⟨i,hi,rfl⟩:=aU0 hx
    have:=(h1 i hi).1;rwa [F0 hi] at this
  have:=(h1 (i+1) hi).2
  rw[F0 hi,Nat.add_sub_cancel,F0 (show i<l.length by omega),G1] at this;exact aT6 (this.resolve_left pQ)
theorem I9 {l:List sW}(h:wA l=true):l.length≤20∧(∀x∈l,uU x.1=true∧sO x.1=true∧sO x.2.1=true)∧l.Pairwise (fun a b=>a.1<b.1):=by
  unfold wA at h;simp only[aTL,aTV,aT9,aTN,aU6,aUH] at h;obtain⟨h1,h2⟩:=h;unfold Y8 at h1;simp only[aUO,aVj,aVf,aT5] at h1;refine⟨pQ,fun x hx=>?_,a8m (r:=fun a b:sW=>a.1<b.1) (fun a b c=>List.lt_trans) fun i hi=>?_⟩
  · obtain⟨i,hi,rfl⟩:=aU0 hx
    have:=(h1 i hi).1;rw[F0 hi] at this;exact⟨this.1,a8l this.1,this.2⟩
  have:=(h1 (i+1) hi).2
  rw[F0 hi,Nat.add_sub_cancel,F0 (show i<l.length by omega),G1] at this;exact aT6 (this.resolve_left pQ)
theorem aOE {es:List tU}(h: ∀i,i<es.length→I7 es i=false):es.Pairwise (fun a b=>a.1≠b.1):=by
  rw[aT4];intro i j hi hj hij he;have h1:=h j hj;unfold I7 at h1;simp only[aUO,aT9,aTN] at h1;rw[F0 hj] at h1;exact h1.1 es[i] (by rw[List.mem_take_iff_getElem];exact⟨i,pQ,rfl⟩) he
theorem YI {c:C4}(h:yS c=true):xP c.1=true∧x8 c.2.1=true∧wA c.2.2.1=true∧c.2.2.2.1.length≤1000∧(∀x∈c.2.2.2.1,zQ x=true)∧c.2.2.2.1.Pairwise (fun a b=>a.1≠b.1):=by
  have h':=h;unfold yS at h';simp only[aTL,aTV,aT9,aU6,aTN,aUH] at h';obtain⟨⟨⟨h1,h2⟩,h3⟩,h4,h5⟩:=h';refine⟨h1,h2,h3,pQ,fun x hx=>?_,aOE h5⟩;obtain⟨i,hi,rfl⟩:=aU0 hx;have:=a8k h hi;rwa [F0 hi] at this
theorem YJ {a b:pM}(h: ¬a<b) (hne:a≠b):b<a:=by
  have:=aOe a b;rw[G1,G1] at this;have h1:decide (a<b)=false:=by simpa using h
  have h2:decide (b=a)=false:=by simpa using fun e=>hne e.symm
  rw[h1,h2] at this;simpa using this.symm
theorem a8n {α:Type}(f:α→pM) {x:α}{p:α→Bool}: ∀{l:List α},l.Pairwise (fun a b=>f a<f b)→(∀y∈l,f y≠f x)→(∀y∈l,p y= !decide (f y<f x))→
    (l.take ((l.findIdx? p).getD l.length)++[x]++l.drop ((l.findIdx? p).getD l.length)).Pairwise (fun a b=>f a<f b)
  |[],_,_,_=>by simp
  | a::t,hp,hne,hpp=>by
    rw[aVp] at hp;have hpa:=hpp a aTJ;rw[aU4];by_cases h:f a<f x
    · have hpf:p a=false:=by rw[hpa];simpa using h
      rw[hpf];have ih:=a8n f (x:=x) hp.2 (fun y hy=>hne y (aTB _ hy)) (fun y hy=>hpp y (aTB _ hy))
      have e:((if false=true then some 0 else(t.findIdx? p).map fun i=>i+1).getD (a::t).length)=(t.findIdx? p).getD t.length+1:=by
        cases t.findIdx? p<;>rfl
      rw[e,List.take_succ_cons,aVu,List.cons_append,List.cons_append,aVp];refine⟨fun y hy=>?_,ih⟩;rw[aTD] at hy;rcases aUe.1 hy with hy|hy
      .exact hp.1 y (List.mem_of_mem_take hy)
      rcases aTE.1 hy with rfl|hy
      .exact h
      exact hp.1 y (List.mem_of_mem_drop hy)
    have hpt:p a=true:=by rw[hpa];simpa using h
    rw[hpt];have hx:f x<f a:=YJ h (hne a aTJ);show ([]++[x]++(a::t)).Pairwise _;rw[List.nil_append,aVi,aVp];refine⟨fun y hy=>?_,aVp.2 hp⟩;rcases aTE.1 hy with rfl|hy
    .exact hx
    exact List.lt_trans hx (hp.1 y hy)
theorem aOF {α:Type}{l:List α}{x y:α}{k:Nat}(h:y∈l.take k++[x]++l.drop k):y=x∨y∈l:=by
  rw[aTD] at h;rcases aUe.1 h with h|h
  .exact .inr (List.mem_of_mem_take h)
  rcases aTE.1 h with h|h
  .exact .inl h
  exact .inr (List.mem_of_mem_drop h)
theorem aOG {α:Type}{l:List α}{x:α}{k:Nat}:(l.take k++[x]++l.drop k).length=l.length+1:=by
  simp only[aTt,aUg,aT2,aUu];omega
theorem aOH {α:Type}{r:α→α→Prop}{l:List α}(h:l.Pairwise r) {i:Nat}(h0:0<i) (hi:i<l.length):r l[i-1] l[i]:=by
  rw[aT4] at h;exact h (i-1) i pQ hi pQ
theorem aGp {l:List sW}(h:l.length≤20) (hx: ∀x∈l,uU x.1=true∧sO x.2.1=true) (hp:l.Pairwise (fun a b=>a.1<b.1)):wA l=true:=by
  unfold wA;simp only[aTL,aTV,aT9,aTN,aU6,aUH];refine⟨fun i hi=>?_,pQ⟩;unfold Y8;obtain⟨a,b⟩:=hx _ (aUF hi);rw[F0 hi,a,b];by_cases h0:0<i
  · rw[F0 (show i-1<l.length by omega),G1]
    simp [aOH hp h0 hi]
  simp [h0]
theorem aOI {l:List sW}{n v:pM}(h:wA l=true) (hl: ¬20≤l.length) (hx:uU n=true) (hv:sO v=true) (hn: ¬(l.any fun y=>decide (y.1=n))=true):wA (xQ l n v)=true:=by
  obtain⟨h1,h2,h3⟩:=I9 h;have hne: ∀y∈l,y.1≠n:=fun y hy e=>hn (List.any_eq_true.2 ⟨y,hy,by simp [e]⟩)
  have hk:yF l n=none:=by
    unfold yF;rw[aUz];intro y hy;simpa using hne y hy
  unfold xQ;rw[hk];show wA (l.take (uK l n)++[(n,v,())]++l.drop (uK l n))=true;unfold uK;refine aGp (by rw[aOG];omega) (fun y hy=>?_) (a8n (fun y:sW=>y.1) (x:=(n,v,())) h3 hne fun y hy=>?_)
  · rcases aOF hy with rfl|hy
    .exact⟨hx,hv⟩
    exact⟨(h2 y hy).1,(h2 y hy).2.2⟩
  rw[G1]
  have:decide (y.1=n)=false:=by simpa using hne y hy
  rw[this,Bool.or_false]
structure aGq (es:List tU):Prop where
  len:es.length≤1000
  ok: ∀x∈es,zQ x=true
  pw:es.Pairwise (fun a b=>a.1≠b.1)
section
variable {s:pM}(hsm:s.length≤4000000000) {bad:Int}{ends:pW}{tag:pM}{cms:pN}{fds:List sW}{es:List tU}
include hsm
omit hsm in
theorem aOJ {c:C4}(h1:xP c.1=true) (h2:x8 c.2.1=true) (h3:wA c.2.2.1=true) (h4:aGq c.2.2.2.1):yS c=true:=by
  unfold yS;rw[h1,h2,h3,aT7 (show ((c.2.2.2.1.length:Int))≤1000 by have:=h4.len;omega)];simp only[Bool.true_and,aTV,aT9,aU6,aUH];intro i hi;unfold I7;rw[F0 hi,h4.ok _ (aUF hi)];simp only[Bool.not_true,Bool.or_false,aT9,aTN];intro y hy;rw[List.mem_take_iff_getElem] at hy;obtain⟨j,hj,rfl⟩:=hy;exact aT4.1 h4.pw j i pQ hi pQ
end
theorem BK {x:pM}(h:sO x=true):x.length≤4000:=by
  unfold sO at h;simp only[aTL,aTN] at h;omega
structure a8o (x:tU):Prop where
  id:x.1.length≤4000
  src:x.2.1.length≤4000
  tgt:x.2.2.1.length≤4000
  com:x.2.2.2.1.length≤20∧∀y∈x.2.2.2.1,y.length≤4000
  flg:x.2.2.2.2.1.length≤20∧∀y∈x.2.2.2.2.1,y.length≤4000
  fld:x.2.2.2.2.2.2.1.length≤20∧∀y∈x.2.2.2.2.2.2.1,y.1.length≤4000∧y.2.1.length≤4000
theorem aOK {x:tU}(h:zQ x=true):a8o x:=by
  have h':=h;unfold zQ at h';simp only[aTL] at h';obtain⟨⟨⟨⟨⟨⟨⟨⟨hne,h200⟩,hid⟩,hsrc⟩,htgt⟩,hcom⟩,hflg⟩,_⟩,hfld⟩:=h';obtain⟨c1,c2⟩:=I8 hcom;obtain⟨f1,f2,f3⟩:=YH hflg;obtain⟨g1,g2,g3⟩:=I9 hfld;exact⟨BK hid,BK hsrc,BK htgt,⟨c1,fun y hy=>BK (c2 y hy)⟩,⟨f1,fun y hy=>BK (a8l (f2 y hy))⟩,⟨g1,fun y hy=>⟨BK (g2 y hy).2.1,BK (g2 y hy).2.2⟩⟩⟩
noncomputable section
abbrev Wd:=Bool×pM×Unit
def tO (b:UInt8):Bool:=([32,9]:pM).contains b
def tR (b:UInt8):Bool:= !([32,9,34]:pM).contains b
theorem aOL (s:pM):Lib.trimLeftS s ([32,9]:pM)=s.dropWhile tO:=rfl
theorem aGr (b:UInt8):tO b=true↔b=32∨b=9:=by simp [tO]
theorem a8p (b:UInt8):tR b=true↔b≠32∧b≠9∧b≠34:=by simp [tR]
theorem YK {b:UInt8}(h:tO b=false) (h2:b≠34):tR b=true:=by
  rw[a8p];have: ¬(b=32∨b=9):=fun e=>by rw[(aGr b).2 e] at h;cases h
  exact⟨fun e=>this (.inl e),fun e=>this (.inr e),h2⟩
theorem aOM {b:UInt8}(h:tR b=false) (h2:b≠34):tO b=true:=by
  cases hg:tO b with
  |true=>rfl
  |false=>rw[YK hg h2] at h;cases h
theorem SE {α:Type}(p:α→Bool) (l:List α):(l.dropWhile p).length≤l.length:=(List.dropWhile_suffix p).length_le
theorem MW {α:Type}{p:α→Bool}: ∀{l:List α}{b:α}{t:List α},l.dropWhile p=b::t→p b=false
  |[],_,_,h=>by cases h
  | a::l,b,t,h=>by
    rw[List.dropWhile_cons] at h;cases ha:p a with
    |true=>rw[aTr ha] at h;exact MW h
    |false=>rw[aTs (by simp [ha])] at h;cases h;exact ha
theorem aGs {α:Type}{p:α→Bool}: ∀(l:List α),∀x∈l.takeWhile p,p x=true
  |[],_,h=>by cases h
  | a::l,x,h=>by
    rw[List.takeWhile_cons] at h;cases ha:p a with
    | true=>
      rw[aTr ha] at h;rcases aTE.1 h with rfl|h
      .exact ha
      .exact aGs l x h
    |false=>rw[aTs (by simp [ha])] at h;cases h
def F1:pM→Bool
  |[]=>true
  |b::_=>tO b
def AQ (s:pM):Option (Wd×pM):=
  if s.head? =some 34 then
    match tY 34 (s.drop 1) with
    |none=>none
    |some k=>if (wS 2 ((s.drop 1).take k)).2.2=0∧sO (wS 2 ((s.drop 1).take k)).1=true∧F1 (s.drop (k+2))=true then some ((true,(wS 2 ((s.drop 1).take k)).1,()),s.drop (k+2)) else none
  else if (s.dropWhile tR).head? =some 34 then none else some ((false,s.takeWhile tR,()),s.dropWhile tR)
def xR:Nat→pM→Option (List Wd)
  |0,_=>none
  | n+1,s=>if s.dropWhile tO=[] then some [] else match AQ (s.dropWhile tO) with
    |none=>none
    |some w=>(xR n w.2).map (w.1:: ·)
def G2 (s:pM):Option (List Wd):=xR (s.length+1) s
theorem a8q {b:UInt8}{t:pM}{w:Wd}{r:pM}(hg:tO b=false) (h:AQ (b::t)=some (w,r)):r.length<(b::t).length:=by
  unfold AQ at h;split at h
  · split at h
    .cases h
    rename_i k hk
    split at h
    · cases h
      rw[aT2];simp only[aTx];omega
    cases h
  rename_i h34
  split at h
  .cases h
  cases h
  have hb:tR b=true:=YK hg fun e=>h34 (by rw[e];rfl);rw[List.dropWhile_cons,aTr hb];have:=SE tR t;simp only[aTx];omega
def AR (n:Nat) (w:Wd):Prop:=if w.1=true then sO w.2.1=true else w.2.1.length≤n∧(∀b∈w.2.1,tR b=true)∧w.2.1≠[]
theorem aON {b:UInt8}{t:pM}{w:Wd}{r:pM}(hg:tO b=false) (h:AQ (b::t)=some (w,r)):AR (b::t).length w∧F1 r=true:=by
  unfold AQ at h;split at h
  · split at h
    .cases h
    split at h
    · rename_i hc
      cases h;exact⟨by unfold AR;rw[aTr rfl];exact hc.2.1,hc.2.2⟩
    cases h
  rename_i h34
  split at h
  .cases h
  rename_i hd
  cases h;have hb:tR b=true:=YK hg fun e=>h34 (by rw[e];rfl);refine⟨?_,?_⟩
  · unfold AR
    rw[aTs pS];exact⟨(List.takeWhile_prefix _).length_le,fun x hx=>aGs _ x hx,by rw[List.takeWhile_cons,aTr hb];simp⟩
  cases hx:(b::t).dropWhile tR with
  |nil=>rfl
  | cons c u=>
    rw[hx] at hd;exact aOM (MW hx) fun e=>hd (by rw[e];rfl)
theorem aGt: ∀t:pM,Lib.indexAny t [32,9,34]=if t.dropWhile tR=[] then-1 else((t.takeWhile tR).length:Int)
  |[]=>rfl
  | b::t=>by
    rw[Lib.indexAny,aGt t,List.dropWhile_cons,List.takeWhile_cons];cases hc:([32,9,34]:pM).contains b with
    | true=>
      have:tR b=false:=by unfold tR;rw[hc];rfl
      simp [this]
    | false=>
      have:tR b=true:=by unfold tR;rw[hc];rfl
      rw[aTs pS,aTr this,aTr this];by_cases he:t.dropWhile tR=[]
      · rw[aTr he,aTr he]
        rfl
      rw[aTs he,aTs he,aTs (by simp only[aU7];omega)]
      simp
theorem aGu {t:pM}{p:UInt8→Bool}:t.take (t.takeWhile p).length=t.takeWhile p∧t.drop (t.takeWhile p).length=t.dropWhile p:=by
  have h:t.takeWhile p++t.dropWhile p=t:=List.takeWhile_append_dropWhile;exact⟨(aTR (List.take _) h.symm).trans (List.take_left' rfl),(aTR (List.drop _) h.symm).trans (List.drop_left' rfl)⟩
theorem aOO {t:pM}{p:UInt8→Bool}(h:t.dropWhile p=[]):t.takeWhile p=t:=by
  have:=List.takeWhile_append_dropWhile (p:=p) (l:=t);rw[h,List.append_nil] at this;exact this
theorem aOP (x:pM):((decide ((([34]:pM).length:Int)≤(x.length:Int)))&&(decide ((s7 x (0:Int) (([34]:pM).length:Int))=([34]:pM))))=decide (x.head? =some 34):=by
  cases x with
  |nil=>rfl
  | cons b t=>
    have h:s7 (b::t) 0 (([34]:pM).length:Int)=[b]:=rfl;rw[h];have h2:decide ((([34]:pM).length:Int)≤((b::t).length:Int))=true:=aT7 (by simp only[aTx,aTI];omega);rw[h2,Bool.true_and];simp
theorem aOQ (x p:pM):OM x p=some ():=by
  unfold OM OG;rw[aTr (fun h=>by simp only[aU7,aTN] at h;omega)];rfl
theorem aOR (r:pM):(((!decide (r=([]:pM)))&&(!decide ((sX r (0:Int))=(32:Int))))&&(!decide ((sX r (0:Int))=(9:Int))))= !F1 r:=by
  cases r with
  |nil=>rfl
  | cons b t=>
    have hb:sX (b::t) 0=(b.toNat:Int):=rfl;rw[hb,DB (n:=32) 32 rfl,DB (n:=9) 9 rfl];show ((!decide (b::t=[])&& !decide (b=32))&& !decide (b=9))= !tO b;rw[decide_eq_false pS];unfold tO;by_cases h1:b=32
    .subst h1;rfl
    by_cases h2:b=9
    .subst h2;rfl
    simp [h1,h2]
theorem a8r {s:pM}(hs:s.length≤1100000000): ∃v,DA (s,(false,()))=some v∧
    (s.dropWhile tO=[]→v=(false,[],false,[],false))∧
    (s.dropWhile tO≠[]→match AQ (s.dropWhile tO) with
      |some w=>v=(w.1.1,w.1.2.1,true,w.2,false)
      |none=>v.2.2.1=false∧v.2.2.2.2=true):=by
  have hl:=SE tO s;obtain⟨t,ht⟩: ∃t,s.dropWhile tO=t:=⟨_,rfl⟩;rw[ht] at hl;unfold DA;dsimp only;rw[show Lib.trimLeftS s ([32,9]:pM)=t from ht,ht];cases t with
  |nil=>exact⟨_,aTr rfl,fun _=>rfl,fun h=>absurd rfl h⟩
  | cons b u=>
    have hg:=MW ht;simp only[aTx] at hl;rw[aTs pS,aTr ⟨pQ,by simp only[aTx];omega⟩];have hb:sX (b::u) 0=(b.toNat:Int):=rfl;by_cases h34:b=34
    · subst h34
      rw[aTs (by rw[hb];simp),aTr ⟨pQ,by simp only[aTx];omega,aUL _⟩]
      have hc1:s7 ((34:UInt8)::u) 1 (((34:UInt8)::u).length:Int)=u:=by
        rw[show ((1:Int))=((1:Nat):Int) from rfl,P1];rfl
      have hfu:sV u:=by unfold sV;omega
      rw[hc1,show ((34:Int))=(((34:UInt8).toNat:Nat):Int) from rfl,aOf pR pR u 34 hfu,aTu]
      have hn:AQ ((34:UInt8)::u)=match tY 34 u with
        |none=>none
        |some k=>if (wS 2 (u.take k)).2.2=0∧sO (wS 2 (u.take k)).1=true∧F1 (u.drop (k+1))=true then some ((true,(wS 2 (u.take k)).1,()),u.drop (k+1)) else none:=by
        unfold AQ;rw[aTr (show ((34:UInt8)::u).head? =some 34 from rfl)];rfl
      rw[hn];cases hk:tY 34 u with
      | none=>
        rw[aTr qE];exact⟨_,rfl,fun h=>(by cases h),fun _=>⟨rfl,rfl⟩⟩
      | some k=>
        have hku:=YD _ _ _ (aTO _) hk;have hfk:sV (u.take k):=by unfold sV;rw[aUg];omega
        have hc2:s7 ((34:UInt8)::u) 1 ((k:Int)+1)=u.take k:=by
          unfold s7;rw[show ((k:Int)+1).toNat=k+1 by omega];rfl
        have hc3:s7 ((34:UInt8)::u) ((k:Int)+2) (((34:UInt8)::u).length:Int)=u.drop (k+1):=by
          rw[show ((k:Int)+2)=((k+2:Nat):Int) by omega,P1];rfl
        rw[show MV (some k)=(k:Int) from rfl,aTs pS,aTr (show qP ((k:Int)+1) by unfold qP;omega),aTr ⟨pQ,pQ,by simp only[aTx];omega⟩];rw[hc2,aOs pR pR hfk,aTu,aTr (show qP ((k:Int)+2) by unfold qP;omega),aTr ⟨pQ,by simp only[aTx];omega,aUL _⟩];rw[hc3]
        have hft:sV (wS 2 (u.take k)).1:=by
          have:=aGn 2 (u.take k);unfold sV at hfk|-;omega
        rw[aTr (fun _=>by rw[MU _ hft];rfl)]
        have hpos: ∀q:Bool,(q&&(!decide (u.drop (k+1)=([]:pM)))==true)=true→0≤(0:Int)∧(0:Int)<((u.drop (k+1)).length:Int):=fun q hq=>by
          simp only[aTL,aU7,aTV,aT5] at hq;have:=aUk.2 hq.2;omega
        rw[aTr (hpos _),aTr (fun hq=>hpos true (by
          simp only[aTL,aU7,aTV,aT5] at hq|-;exact⟨trivial,hq.2.1⟩))]
        simp only[aOR];refine⟨_,rfl,fun h=>(by cases h),fun _=>?_⟩;have hto:((decide ((List.length (wS 2 (u.take k)).1:Int)≤(4000:Int)))&&(Lib.validD (wS 2 (u.take k)).1))=sO (wS 2 (u.take k)).1:=rfl;simp only[hto];by_cases hc:(wS 2 (u.take k)).2.2=0∧sO (wS 2 (u.take k)).1=true∧F1 (u.drop (k+1))=true
        · rw[aTr hc]
          obtain⟨h1,h2,h3⟩:=hc;simp [h1,h2,h3]
        rw[aTs hc]
        have:((!decide ((wS 2 (u.take k)).2.2=0))||(!sO (wS 2 (u.take k)).1)|| !F1 (u.drop (k+1)))=true:=by
          cases h1:decide ((wS 2 (u.take k)).2.2=0)<;>cases h2:sO (wS 2 (u.take k)).1<;>cases h3:F1 (u.drop (k+1))<;>first|rfl|exact absurd ⟨aT6 h1,h2,h3⟩ hc
        exact⟨by simp only[this];rfl,this⟩
    have hp:tR b=true:=YK hg h34
    rw[aTr (by rw[hb,DB (n:=34) 34 rfl];simp [h34]),aTr (by simp only[aTx];omega)]
    have hn:AQ (b::u)=if ((b::u).dropWhile tR).head? =some 34 then none else some ((false,(b::u).takeWhile tR,()),(b::u).dropWhile tR):=by
      unfold AQ;rw[aTs (by simp [h34])]
    rw[hn];have hix:O6 (b::u) ([32,9,34]:pM)=if (b::u).dropWhile tR=[] then-1 else(((b::u).takeWhile tR).length:Int):=aGt _
    have hx:(if (decide (O6 (b::u) ([32,9,34]:pM)<(0:Int)))=true then some (((b::u).length:Int)) else some (O6 (b::u) ([32,9,34]:pM)))=(some (((b::u).takeWhile tR).length:Int)):=by
      rw[hix];by_cases he:(b::u).dropWhile tR=[]
      .rw[aTr he,aTr qE,aOO he]
      rw[aTs he,aTs pS]
    have htl:((b::u).takeWhile tR).length≤(b::u).length:=(List.takeWhile_prefix _).length_le;rw[hx];unfold uM;rw[aTu,aTr ⟨aUL _,pQ,pQ⟩,aTr ⟨pQ,pQ,aUL _⟩,P1,aN9,aGu.1,aGu.2,aOQ,aTu];simp only[aOP];refine⟨_,rfl,fun h=>(by cases h),fun _=>?_⟩;by_cases hh:((b::u).dropWhile tR).head? =some 34
    · rw[aTr hh]
      exact⟨by simp [hh],by simp [hh]⟩
    rw[aTs hh]
    simp [hh]
end
noncomputable section
theorem aOS (n:Nat):xR (n+1) []=some []:=aTr rfl
theorem aGv: ∀(n:Nat) (s:pM) (out:List Wd) (v:Bool×pM×Bool×pM×Bool),s.length<n→s.length+out.length≤1100000000→DA (s,(false,()))=some v→
    ∃ r,sF OV (out,v.2.2.1,v.2.2.2.1,v.2.2.2.2,v.1,v.2.1)=some r∧match xR n s with
      |some l=>r.1=out++l∧r.2.2=false
      |none=>r.2.2=true
  |0,s,out,v,h,_,_=>by omega
  | n+1,s,out,v,h,hl,hv=>by
    obtain⟨v',hv',h1,h2⟩:=a8r (s:=s) pQ;rw[hv] at hv';cases hv';rw[xR];by_cases he:s.dropWhile tO=[]
    · rw[aTr he,h1 he,uO]
      refine⟨(out,[],false),?_,by simp,rfl⟩;unfold OV;dsimp only;rw[aTs pS,aTu]
    rw[aTs he]
    have hm:=h2 he;cases hw:AQ (s.dropWhile tO) with
    | none=>
      rw[hw] at hm;obtain⟨h3,h4⟩:v.2.2.1=false∧v.2.2.2.2=true:=hm;rw[uO];refine⟨(out,v.2.2.2.1,v.2.2.2.2),?_,h4⟩;unfold OV;dsimp only;rw[h3,aTs pS,aTu]
    | some w=>
      rw[hw] at hm;have hm:v=(w.1.1,w.1.2.1,true,w.2,false):=hm;subst hm;cases ht:s.dropWhile tO with
      |nil=>exact absurd ht he
      | cons b t=>
        rw[ht] at hw;have hlt:=a8q (MW ht) hw;have hle:=SE tO s;rw[ht] at hle;obtain⟨v2,hv2,_,_⟩:=a8r (s:=w.2) pQ;obtain⟨r,hr,hrm⟩:=aGv n w.2 (out++[w.1]) v2 pQ (by rw[aTt];simp only[aTx,aTI];omega) hv2;refine⟨r,?_,?_⟩
        · rw[uO]
          unfold OV;dsimp only;rw[aTr rfl,aTr (by simp only[aTx,aTI];omega),hv2,aTu,aTu];exact hr
        show match (xR n w.2).map (w.1:: ·) with|some l=>r.1=out++l∧r.2.2=false|none=>r.2.2=true
        cases hwn:xR n w.2 with
        |none=>rw[hwn] at hrm;exact hrm
        | some l=>
          rw[hwn] at hrm;obtain⟨h3,h4⟩:r.1=(out++[w.1])++l∧r.2.2=false:=hrm;exact⟨by rw[h3,aTD];rfl,h4⟩
theorem aGw {s:pM}(hs:s.length≤1100000000): ∃r,EV s=some r∧match G2 s with
    |some l=>r=(l,true)
    |none=>r.2=false:=by
  obtain⟨v,hv,_,_⟩:=a8r hs;obtain⟨r,hr,hm⟩:=aGv (s.length+1) s [] v pQ (by simpa using hs) hv;refine⟨(r.1,!r.2.2),?_,?_⟩
  · unfold EV
    rw[hv,aTu];unfold uM;rw[hr,aTu]
  unfold G2
  cases hw:xR (s.length+1) s with
  | none=>
    rw[hw] at hm;have hm:r.2.2=true:=hm;show (!r.2.2)=false;rw[hm];rfl
  | some l=>
    rw[hw] at hm;obtain⟨h1,h2⟩:r.1=[]++l∧r.2.2=false:=hm;show (r.1,!r.2.2)=(l,true);rw[h1,h2];rfl
theorem YL: ∀(n:Nat) (s:pM) (l:List Wd),xR n s=some l→∀w∈l,AR s.length w
  |0,_,_,h=>by cases h
  | n+1,s,l,h=>by
    rw[xR] at h;split at h
    .cases h;intro w hw;cases hw
    split at h
    .cases h
    rename_i w hw
    cases ht:s.dropWhile tO with
    |nil=>rename_i h0 _;exact absurd ht h0
    | cons b t=>
      rw[ht] at hw;have hlt:=a8q (w:=w.1) (r:=w.2) (MW ht) hw;have hok:=(aON (w:=w.1) (r:=w.2) (MW ht) hw).1;have hle:=SE tO s;rw[ht] at hle
      have mono: ∀{a b:Nat}{x:Wd},a≤b→AR a x→AR b x:=fun hab hx=>by
        unfold AR at hx|-;split
        .rename_i h1;rw[aTr h1] at hx;exact hx
        rename_i h1;rw[aTs h1] at hx;exact⟨pQ,hx.2⟩
      cases hl:xR n w.2 with
      |none=>rw[hl] at h;cases h
      | some l'=>
        rw[hl] at h;cases h;intro x hx;rcases aTE.1 hx with rfl|hx
        .exact mono hle hok
        exact mono pQ (YL n w.2 l' hl x hx)
theorem aGx: ∀(n:Nat) (s:pM) (l:List Wd),xR n s=some l→s.dropWhile tO≠[]→l≠[]
  |0,_,_,h,_=>by cases h
  | n+1,s,l,h,hne=>by
    rw[xR,aTs hne] at h;split at h
    .cases h
    rename_i w hw
    cases hl:xR n w.2 with
    |none=>rw[hl] at h;cases h
    |some l'=>rw[hl] at h;cases h;simp
end
noncomputable section
abbrev tW:Ty:= .pair .bool (.pair .str .unit)
def DC:pM:=[99,97,116,97,108,111,103]
def G3:pM:=[101,110,116,114,121]
def vN:pM:=[99,111,109,109,101,110,116]
def u1:pM:=[115,111,117,114,99,101]
def u6:pM:=[116,97,114,103,101,116]
def xA:pM:=[115,116,97,116,101]
def wB:pM:=[102,105,101,108,100]
def MX:pM:=[101,110,100]
def wI:pM:=[102,108,97,103,115]
inductive vS where
  |bad
  |cont (t:pM)
  |beg (head:Bool) (t:pM)
  |com (t:pM)
  |src (t:pM)
  |tgt (t:pM)
  |sta (v:Int)
  |fld (n v:pM)
  |flg (l:pN)
  |fin
def tP:List Wd→Option pM
  |[w]=>if w.1=true then some w.2.1 else none
  |_=>none
def F2:List Wd→Option Int
  |[w]=>if w.1=false∧0≤zP w.2.1 then some (zP w.2.1) else none
  |_=>none
def F3:List Wd→Option (pM×pM)
  |[a,b]=>if (a.1=true∧b.1=true)∧uU a.2.1=true then some (a.2.1,b.2.1) else none
  |_=>none
def t7 (l:List Wd):pN:=l.map (·.2.1)
def F4 (w:Wd):Bool:=w.1|| !uU w.2.1
def vA (k:pM) (r:List Wd):vS:=
  if k=DC then((tP r).map (vS.beg true)).getD .bad
  else if k=G3 then((tP r).map (vS.beg false)).getD .bad
  else if k=vN then((tP r).map vS.com).getD .bad
  else if k=u1 then((tP r).map vS.src).getD .bad
  else if k=u6 then((tP r).map vS.tgt).getD .bad
  else if k=xA then((F2 r).map vS.sta).getD .bad
  else if k=wB then((F3 r).map fun q=>vS.fld q.1 q.2).getD .bad
  else if k=MX then(if r=[] then .fin else .bad)
  else if k=wI then(if r=[]∨(r.any F4)=true then .bad else .flg (t7 r))
  else .bad
def z7:List Wd→vS
  |[]=> .bad
  |w::r=>if w.1=true then(if (r.any fun x=> !x.1)=true then .bad else .cont (t7 (w::r)).flatten) else vA w.2.1 r
theorem SF {l:List Wd}{i:Nat}(h:i<l.length):qV tW l (i:Int)=l[i]:=P0 h
theorem aOT (w:Wd) (r:List Wd):((decide (((w::r).length:Int)=(2:Int)))&&(qV tW (w::r) (1:Int)).1)=(tP r).isSome:=by
  match r with
  |[]=>rfl
  | [a]=>
    show (true&&a.1)=_;unfold tP;cases h:a.1<;>simp [h]
  | a::b::t=>
    have:decide (((w::a::b::t).length:Int)=2)=false:=decide_eq_false (by simp only[aTx];omega);rw[this];rfl
def BL (l:pN):Bool:=decide ((Lib.compact (tN l)).length<(tN l).length)
theorem aGy {l:pN}(h:BL l=false):(tN l).Pairwise (· < ·):=by
  unfold BL at h;have h1: ¬(Lib.compact (tN l)).length<(tN l).length:=of_decide_eq_false h;generalize hs:tN l=s at h1;have hpw:s.Pairwise (·≤·):=by rw[←hs];exact a8h l
  have h2:((List.range s.length).filter (Lib.keeps s.toArray)).length=(List.range s.length).length:=by
    have h3:(Lib.compact s).length=((List.range s.length).filter (Lib.keeps s.toArray)).length:=by
      unfold Lib.compact Lib.compactUpTo;rw[aUl]
    have h4:=List.length_filter_le (Lib.keeps s.toArray) (List.range s.length);rw[List.length_range] at h4|-;omega
  have h3:=List.length_filter_eq_length_iff.1 h2;refine a8m (r:=fun a b:pM=>a<b) (fun a b c=>List.lt_trans) fun i hi=>?_;have hk:=h3 (i+1) (aU6.2 hi)
  have hne:s[i+1]≠s[i]:=by
    intro e
    have:=Lib.keeps_neg (d:=s.toArray) (m:=i+1) pQ (by
      rw[Nat.add_sub_cancel,getElem!_pos s.toArray (i+1) (by simpa using hi),getElem!_pos s.toArray i pT];simpa using e)
    rw[this] at hk;cases hk
  have hle:s[i]≤s[i+1]:=aT4.1 hpw i (i+1) pQ hi pQ;exact YJ (a:=s[i+1]) (b:=s[i]) (fun hlt=>hle hlt) hne
theorem aOU {l:pN}(h:l.Pairwise (· < ·)):tN l=l:=by
  have h2:l.Pairwise (·≤·):=h.imp fun hab hba=>List.lt_irrefl _ (List.lt_trans hab hba);have hp:=SC l;exact hp.eq_of_pairwise (fun a b _ _ h1 h2=>List.le_antisymm h1 h2) (a8h l) h2
theorem aGz {l:pN}(h:l.Pairwise (· < ·)):l.Nodup:=h.imp fun hab e=>by subst e;exact List.lt_irrefl _ hab
theorem aOV {l:pN}(h:l.Nodup):(tN l).Pairwise (· < ·):=by
  have h1:(tN l).Nodup:=(SC l).nodup_iff.2 h;have h2:=a8h l;rw[aT4] at h2|-;intro i j hi hj hij
  exact YJ (fun hlt=>h2 i j hi hj hij hlt) fun e=>by
    have:=(List.nodup_iff_pairwise_ne.1 h1);rw[aT4] at this;exact this i j hi hj hij e.symm
theorem aOW (l:pN):BL l=false↔l.Nodup:=by
  constructor
  · intro h
    exact(SC l).nodup_iff.1 (aGz (aGy h))
  intro h
  have h2:=aOV h;unfold BL
  have:Lib.compact (tN l)=tN l:=Lib.compact_all (tN l) fun j hj=>by
    cases j with
    |zero=>simp [Lib.keeps]
    | succ j=>
      refine Lib.keeps_pos ?_;rw[Nat.add_sub_cancel,getElem!_pos (tN l).toArray (j+1) (by simpa using hj),getElem!_pos (tN l).toArray j pT];intro e;have h1:=aT4.1 h2 j (j+1) pQ hj pQ;simp only[List.getElem_toArray] at e;rw[e] at h1;exact List.lt_irrefl _ h1
  rw[this];exact decide_eq_false (aVb _)
end
noncomputable section
structure St where
  c:C4
  ends:pW
  id:pM
  sc:pM
  tg:pM
  cm:pN
  fg:pN
  sv:Int
  fd:List sW
  op:Bool
  bs:Bool
  bt:Bool
  bh:Bool
  bf:Bool
  last:pM
  name:pM
abbrev St.x (s:St):tA:=(s.id,(s.sc,(s.tg,(s.cm,(s.fg,(s.sv,(s.fd,())))))))
def xS (s:St) (c:C4) (t:pM):St:=⟨c,s.ends,t,[],[],[],[],0,[],true,false,false,false,false,[],[]⟩
def tJ (c:C4) (ends:pW):St:=⟨c,ends,[],[],[],[],[],0,[],false,false,false,false,false,[],[]⟩
def A8 (s:St):pM:=if s.last=vN then s.cm.getLastD [] else if s.last=u1 then s.sc else if s.last=u6 then s.tg else(I4 s.fd s.name).1
def wJ (s:St) (z:pM):St:=
  if s.last=vN then {s with cm:=s.cm.dropLast++[z]} else if s.last=u1 then {s with sc:=z} else if s.last=u6 then {s with tg:=z} else {s with fd:=xQ s.fd s.name z}
def rJ (s:St) (next:Int):vS→Int×St
  | .bad=>(3,s)
  | .cont t=>if s.op=false∨s.last=[] then(3,s) else if sO (A8 s++t)=true then(0,wJ s (A8 s++t)) else(3,s)
  | .beg true t=>if s.op=true∨s.ends≠[] then(3,s) else if xP t=true then(0,xS s (t,s.c.2) t) else(3,s)
  | .beg false t=>if s.op=true∨s.ends=[] then(3,s) else if t=[]∨200<t.length then(3,s) else if (s.c.2.2.2.1.any fun y=>decide (y.1=t))=true then(9,s) else if 1000≤s.c.2.2.2.1.length then(6,s) else(0,xS s s.c t)
  | .com t=>if s.op=false then(3,s) else if 20≤s.cm.length then(6,s) else(0,{s with cm:=s.cm++[t],last:=vN,name:=[]})
  | .src t=>if s.op=false∨s.ends=[] then(3,s) else if s.bs=true then(9,s) else(0,{s with sc:=t,bs:=true,last:=u1,name:=[]})
  | .tgt t=>if s.op=false∨s.ends=[] then(3,s) else if s.bt=true then(9,s) else(0,{s with tg:=t,bt:=true,last:=u6,name:=[]})
  | .sta v=>if s.op=false∨s.ends=[] then(3,s) else if s.bh=true then(9,s) else(0,{s with sv:=v,bh:=true,last:=[],name:=[]})
  | .flg l=>if s.op=false∨s.ends=[] then(3,s) else if s.bf=true∨BL l=true then(9,s) else if 20<l.length then(6,s) else(0,{s with fg:=tN l,bf:=true,last:=[],name:=[]})
  | .fld n v=>if s.op=false then(3,s) else if (s.fd.any fun y=>decide (y.1=n))=true then(9,s) else if 20≤s.fd.length then(6,s) else(0,{s with fd:=xQ s.fd n v,last:=wB,name:=n})
  | .fin=>if s.op=false then(3,s) else(0,tJ (if s.ends=[] then(s.c.1,(s.cm,(s.fd,s.c.2.2.2))) else(s.c.1,(s.c.2.1,(s.c.2.2.1,(s.c.2.2.2.1++[s.x],()))))) (s.ends++[next]))
def AS (s:pM):Bool:=decide (s.dropWhile tO=[])||decide ((s.dropWhile tO).head? =some 35)
def tB (s:St) (line:pM) (next:Int):Int×St:=
  if AS line=true then(0,s) else match G2 line with
    |none=>(3,s)
    |some l=>rJ s next (z7 l)
structure wT (s:St):Prop where
  tag:s.ends≠[]∨s.op=true→xP s.c.1=true
  hcm:x8 s.c.2.1=true
  hfd:wA s.c.2.2.1=true
  es:aGq s.c.2.2.2.1
  e0:s.ends=[]→s.c.2.2.2.1=[]
  en:s.ends≠[]→s.ends.length=s.c.2.2.2.1.length+1
  room:s.op=true→s.ends≠[]→s.c.2.2.2.1.length<1000
  sc:sO s.sc=true
  tg:sO s.tg=true
  cm:x8 s.cm=true
  fg:DT s.fg=true
  sv:0≤s.sv∧s.sv≤4
  fd:wA s.fd=true
  id:s.op=true→s.ends≠[]→s.id≠[]∧s.id.length≤200∧sO s.id=true∧∀y∈s.c.2.2.2.1,y.1≠s.id
  lcm:s.last=vN→s.cm≠[]
  lfd:s.last=wB→(s.fd.any fun y=>decide (y.1=s.name))=true
  lst:s.last=[]∨s.last=vN∨s.last=u1∨s.last=u6∨s.last=wB
  off:s.op=false→s.last=[]
def YM (n:Nat):vS→Prop
  | .cont t=>t.length≤n
  | .beg _ t=>sO t=true
  | .com t=>sO t=true
  | .src t=>sO t=true
  | .tgt t=>sO t=true
  | .sta v=>0≤v∧v≤4
  | .fld n v=>uU n=true∧sO v=true
  | .flg l=>l≠[]∧l.length≤n∧∀x∈l,uU x=true
  |_=>True
theorem aOX (s:pM):zP s≤4:=by
  unfold zP;cases h:w9.findIdx? fun x=>decide (x=s) with
  |none=>show (-1:Int)≤4;decide
  | some k=>
    have:=(aUB.1 h).1;show (k:Int)≤4;unfold w9 at this;simp only[aTx,aTI] at this;omega
theorem SG: ∀(n:Nat) (s:pM) (l:List Wd),xR n s=some l→(t7 l).flatten.length≤s.length∧l.length≤s.length
  |0,_,_,h=>by cases h
  | n+1,s,l,h=>by
    rw[xR] at h;split at h
    .cases h;exact⟨aUp _,aUp _⟩
    split at h
    .cases h
    rename_i h0 _ w hw
    cases ht:s.dropWhile tO with
    |nil=>exact absurd ht h0
    | cons b t=>
      rw[ht] at hw;have hg:=MW ht;have hle:=SE tO s;rw[ht] at hle;have hlt:=a8q (w:=w.1) (r:=w.2) hg hw
      have hs:w.1.2.1.length+w.2.length≤(b::t).length:=by
        unfold AQ at hw;split at hw
        · split at hw
          .cases hw
          rename_i k hk
          split at hw
          · cases hw
            have h1:=aGn 2 (((b::t).drop 1).take k);have h2:=YD _ _ _ (aTO _) hk;show (wS 2 (((b::t).drop 1).take k)).1.length+((b::t).drop (k+2)).length≤(b::t).length;simp only[aUg,aT2,aTx] at h1 h2|-;omega
          cases hw
        split at hw
        .cases hw
        cases hw
        have:=aTR List.length (List.takeWhile_append_dropWhile (p:=tR) (l:=b::t));rw[aTt] at this;exact aUZ this
      cases hl:xR n w.2 with
      |none=>rw[hl] at h;cases h
      | some l'=>
        rw[hl] at h;cases h;have ih:=SG n w.2 l' hl;constructor
        · show (w.1.2.1++(t7 l').flatten).length≤_
          rw[aTt];omega
        rw[aTx];omega
theorem aGA {n:Nat}{r:List Wd}{t:pM}(h: ∀w∈r,AR n w) (ho:tP r=some t):sO t=true:=by
  unfold tP at ho;split at ho
  · rename_i w
    split at ho
    · rename_i hw
      cases ho;have:=h w pS;unfold AR at this;rw[aTr hw] at this;exact this
    cases ho
  cases ho
theorem aOY {n:Nat}{l:List Wd}(h: ∀w∈l,AR n w) (h1:(t7 l).flatten.length≤n) (h2:l.length≤n):YM n (z7 l):=by
  cases l with
  |nil=>exact trivial
  | cons w r=>
    have hr: ∀w∈r,AR n w:=fun x hx=>h x (aTB _ hx);unfold z7;dsimp only;split
    · split
      .exact trivial
      exact h1
    unfold vA
    have one: ∀(f:pM→vS),(∀t,sO t=true→YM n (f t))→YM n (((tP r).map f).getD .bad):=fun f hf=>by
      cases ho:tP r with
      |none=>exact trivial
      |some t=>exact hf t (aGA hr ho)
    split
    .exact one _ fun t ht=>ht
    split
    .exact one _ fun t ht=>ht
    split
    .exact one _ fun t ht=>ht
    split
    .exact one _ fun t ht=>ht
    split
    .exact one _ fun t ht=>ht
    split
    · cases ho:F2 r with
      |none=>exact trivial
      | some v=>
        unfold F2 at ho;split at ho
        · split at ho
          · rename_i hv
            cases ho;exact⟨hv.2,aOX _⟩
          cases ho
        cases ho
    split
    · cases ho:F3 r with
      |none=>exact trivial
      | some q=>
        unfold F3 at ho;split at ho
        · rename_i a b
          split at ho
          · rename_i hv
            cases ho;have hb:=hr b pS;unfold AR at hb;rw[aTr hv.1.2] at hb;exact⟨hv.2,hb⟩
          cases ho
        cases ho
    split
    .split<;>exact trivial
    split
    · split
      .exact trivial
      rename_i hn
      simp only[not_or,aUH] at hn;refine⟨by unfold t7;simpa using hn.1,by unfold t7;rw[aUl];simp only[aTx] at h2;omega,fun x hx=>?_⟩;unfold t7 at hx;obtain⟨w',hw',rfl⟩:=List.mem_map.1 hx;have:=aT9.1 hn.2 w' hw';unfold F4 at this;simpa using(fun h=>this (by rw[h];simp): ¬(!uU w'.2.1)=true)
    exact trivial
end
noncomputable section
theorem aOZ {l:pN}(h:x8 l=true):l.length≤20:=(I8 h).1
theorem aGB {l:List sW}(h:wA l=true):l.length≤20:=(I9 h).1
theorem aO0 {l:List sW}{n:pM}(h:wA l=true):sO (I4 l n).1=true:=by
  unfold I4;cases hk:yF l n with
  |none=>rfl
  | some k=>
    have hlt:=Y6 hk;show sO (l.getD k ([],[],())).2.1=true;rw[aTM,aTy hlt];exact((I9 h).2.1 _ (aUF hlt)).2.2
theorem aO1 {s:St}(h:wT s):sO (A8 s)=true:=by
  unfold A8;split
  · have hc:=I8 h.cm
    cases hl:s.cm.getLast? with
    |none=>rw[List.getLastD_eq_getLast?,hl];rfl
    |some x=>rw[List.getLastD_eq_getLast?,hl];exact hc.2 x (List.mem_of_getLast? hl)
  split
  .exact h.sc
  split
  .exact h.tg
  exact aO0 h.fd
end
noncomputable section
theorem aO2 {α:Type}{l:List α}:decide ((l.length:Int)=0)=decide (l=[]):=by cases l<;>simp<;>omega
theorem aGC {s:St}(h:wT s):s.ends.length≤1001:=by
  have:=h.es.len;by_cases he:s.ends=[]
  .rw[he];exact aUp _
  rw[h.en he];omega
end
noncomputable section
theorem SH {l:List sW}{n v:pM}(h:(l.any fun y=>decide (y.1=n))=false):xQ l n v=l.take (uK l n)++[(n,v,())]++l.drop (uK l n):=by
  have:yF l n=none:=by
    unfold yF;rw[aUz];intro x hx;have:=aT9.1 h x hx;simpa using this
  unfold xQ;rw[this];rfl
theorem aGD (l:List sW) (n v:pM):((xQ l n v).any fun y=>decide (y.1=n))=true:=by
  unfold xQ;cases hk:yF l n with
  | none=>
    show ((l.take (uK l n)++[(n,v,())]++l.drop (uK l n)).any _)=true;rw[List.any_append,List.any_append];simp
  | some k=>
    have hlt:=Y6 hk;show ((l.set k (n,v,())).any _)=true;rw[List.any_eq_true];exact⟨(n,v,()),List.mem_set hlt _,by simp⟩
theorem aO3 {l:List sW}{n v:pM}(h:wA l=true) (hn:(l.any fun y=>decide (y.1=n))=true) (hv:sO v=true):wA (xQ l n v)=true:=by
  obtain⟨h1,h2,h3⟩:=I9 h;unfold xQ;cases hk:yF l n with
  | none=>
    unfold yF at hk;rw[aUz] at hk;obtain⟨x,hx,hxn⟩:=List.any_eq_true.1 hn;have:=hk x hx;rw[hxn] at this;cases this
  | some k=>
    have hlt:=Y6 hk;have hkn:=aN8 hk hlt;show wA (l.set k (n,v,()))=true;refine aGp (by rw[List.length_set];exact h1) (fun x hx=>?_) ?_
    · rcases List.mem_or_eq_of_mem_set hx with hx|rfl
      .exact⟨(h2 x hx).1,(h2 x hx).2.2⟩
      exact⟨by show uU n=true;rw[←hkn];exact(h2 _ (aUF hlt)).1,hv⟩
    rw[aT4] at h3|-
    intro i j hi hj hij;rw[List.length_set] at hi hj
    have e: ∀m (hm:m<l.length),((l.set k (n,v,()))[m]'(by rw[List.length_set];exact hm)).1=(l[m]).1:=fun m hm=>by
      rw[List.getElem_set];split
      .rename_i hkm;subst hkm;exact hkn.symm
      rfl
    rw[e i hi,e j hj];exact h3 i j hi hj hij
theorem aO4 {l:pN}{t:pM}(h:x8 l=true) (hl:l.length<20) (ht:sO t=true):x8 (l++[t])=true:=by
  obtain⟨_,h2⟩:=I8 h;unfold x8;rw[aT7 (by rw[aTt];simp only[aTx,aTI];omega),Bool.true_and,aTV,List.any_append];have:(l.any fun x=> !sO x)=false:=aT9.2 fun x hx=>by rw[h2 x hx];simp
  rw[this];simp [ht]
theorem aO5 {l:pN}{t:pM}(h:x8 l=true) (hl:l≠[]) (ht:sO t=true):x8 (l.dropLast++[t])=true:=by
  obtain⟨h1,h2⟩:=I8 h;have hpos:=aUk.2 hl;unfold x8;rw[aT7 (by rw[aTt,List.length_dropLast];simp only[aTx,aTI];omega),Bool.true_and,aTV,List.any_append];have:(l.dropLast.any fun x=> !sO x)=false:=aT9.2 fun x hx=>by rw[h2 x (List.dropLast_subset _ hx)];simp
  rw[this];simp [ht]
theorem aO6 {l:pN}(hl:l.length≤20) (h1: ∀x∈l,uU x=true) (h2:l.Pairwise (· < ·)):DT l=true:=by
  unfold DT;rw[aT7 pQ,Bool.and_true,aTV];rw[aT9];intro i hi;have hi:=aU6.1 hi;unfold Y7;have hd:l.getD i []=l[i]:=by rw[aTM,aTy hi];rfl
  rw[hd,h1 _ (aUF hi)];by_cases h0:0<i
  · have hd2:l.getD (i-1) []=l[i-1]:=by rw[aTM,aTy pQ];rfl
    rw[hd2,G1,aT7 (aT4.1 h2 (i-1) i pQ hi pQ)];simp
  simp [h0]
theorem aO7 {s:St}(h:wT s) (h1:s.op=true) (h2:s.ends≠[]):zQ s.x=true:=by
  obtain⟨i1,i2,i3,_⟩:=h.id h1 h2;unfold zQ;dsimp only[St.x];rw[decide_eq_false i1,aT7 (show (s.id.length:Int)≤200 by omega),i3,h.sc,h.tg,h.cm,h.fg,aT7 h.sv.1,aT7 h.sv.2,h.fd];rfl
theorem vC:vN≠[]∧u1≠[]∧u6≠[]∧wB≠[]∧u1≠vN∧u6≠vN∧wB≠vN∧vN≠wB∧u1≠wB∧u6≠wB:=by decide
theorem aGE (s:St) (z:pM):(wJ s z).c=s.c∧(wJ s z).ends=s.ends∧(wJ s z).id=s.id∧(wJ s z).fg=s.fg∧(wJ s z).sv=s.sv∧(wJ s z).op=s.op∧(wJ s z).bs=s.bs∧(wJ s z).bt=s.bt∧(wJ s z).bh=s.bh∧(wJ s z).bf=s.bf∧(wJ s z).last=s.last∧(wJ s z).name=s.name:=by
  unfold wJ;split
  .exact⟨rfl,rfl,rfl,rfl,rfl,rfl,rfl,rfl,rfl,rfl,rfl,rfl⟩
  split
  .exact⟨rfl,rfl,rfl,rfl,rfl,rfl,rfl,rfl,rfl,rfl,rfl,rfl⟩
  split<;>exact⟨rfl,rfl,rfl,rfl,rfl,rfl,rfl,rfl,rfl,rfl,rfl,rfl⟩
theorem aO8 {s:St}(h:wT s) (hl:s.last≠[]) {z:pM}(hz:sO z=true):wT (wJ s z):=by
  unfold wJ;split
  · rename_i h1
    exact {h with cm:=aO5 h.cm (h.lcm h1) hz,lcm:=fun _=>pS}
  split
  .exact {h with sc:=hz}
  split
  .exact {h with tg:=hz}
  rename_i h1 h2 h3
  have h4:s.last=wB:=by
    rcases h.lst with h5|h5|h5|h5|h5
    .exact absurd h5 hl
    .exact absurd h5 h1
    .exact absurd h5 h2
    .exact absurd h5 h3
    exact h5
  exact {h with fd:=aO3 h.fd (h.lfd h4) hz,lfd:=fun _=>aGD _ _ _}
theorem sv0:0≤(0:Int)∧(0:Int)≤4:=by decide
theorem aO9 {s:St}(h:wT s) {n:Nat}{c:vS}(hc:YM n c) (next:Int) (h0:(rJ s next c).1=0):wT (rJ s next c).2:=by
  cases c with
  |bad=>cases h0
  | cont t=>
    rw[rJ] at h0|-;split at h0
    .cases h0
    · rename_i h1
      rw[aTs h1];rw[not_or] at h1;split at h0
      · rename_i h2
        rw[aTr h2];exact aO8 h h1.2 h2
      .cases h0
  | beg hd t=>
    cases hd with
    | true=>
      rw[rJ] at h0|-;split at h0
      .cases h0
      · rename_i h1
        rw[aTs h1];simp only[not_or,Decidable.not_not] at h1;split at h0
        · rename_i h2
          rw[aTr h2];exact {tag:=fun _=>h2,hcm:=h.hcm,hfd:=h.hfd,es:=h.es,e0:=h.e0,en:=h.en,room:=fun _ he=>absurd h1.2 he,sc:=rfl,tg:=rfl,cm:=rfl,fg:=rfl,sv:=sv0,fd:=rfl,id:=fun _ he=>absurd h1.2 he,lcm:=fun he=>(vC.1 he.symm).elim,lfd:=fun he=>(vC.2.2.2.1 he.symm).elim,lst:= .inl rfl,off:=fun he=>(by cases he)}
        .cases h0
    | false=>
      rw[rJ] at h0|-;split at h0
      .cases h0
      · rename_i h1
        rw[aTs h1];rw[not_or] at h1;split at h0
        .cases h0
        · rename_i h2
          rw[aTs h2];rw[not_or] at h2;split at h0
          .cases h0
          · rename_i h3
            rw[aTs h3];split at h0
            .cases h0
            · rename_i h4
              rw[aTs h4];refine {tag:=fun _=>h.tag (.inl h1.2),hcm:=h.hcm,hfd:=h.hfd,es:=h.es,e0:=h.e0,en:=h.en,room:=fun _ _=>(by show s.c.2.2.2.1.length<1000;omega),sc:=rfl,tg:=rfl,cm:=rfl,fg:=rfl,sv:=sv0,fd:=rfl,id:=fun _ _=>⟨h2.1,(by show t.length≤200;omega),hc,fun y hy e=>h3 (List.any_eq_true.2 ⟨y,hy,aT7 (show y.1=t from e)⟩)⟩,lcm:=fun he=>(vC.1 he.symm).elim,lfd:=fun he=>(vC.2.2.2.1 he.symm).elim,lst:= .inl rfl,off:=fun he=>(by cases he)}
  | com t=>
    rw[rJ] at h0|-;split at h0
    .cases h0
    · rename_i h1
      rw[aTs h1];split at h0
      .cases h0
      · rename_i h2
        rw[aTs h2];exact {h with cm:=aO4 h.cm pQ hc,lcm:=fun _=>pS,lfd:=fun he=>(vC.2.2.2.2.2.2.2.1 he).elim,lst:= .inr (.inl rfl),off:=fun he=>absurd he h1}
  | src t=>
    rw[rJ] at h0|-;split at h0
    .cases h0
    · rename_i h1
      rw[aTs h1];rw[not_or] at h1;split at h0
      .cases h0
      · rename_i h2
        rw[aTs h2];exact {h with sc:=hc,lcm:=fun he=>(vC.2.2.2.2.1 he).elim,lfd:=fun he=>(vC.2.2.2.2.2.2.2.2.1 he).elim,lst:= .inr (.inr (.inl rfl)),off:=fun he=>absurd he h1.1}
  | tgt t=>
    rw[rJ] at h0|-;split at h0
    .cases h0
    · rename_i h1
      rw[aTs h1];rw[not_or] at h1;split at h0
      .cases h0
      · rename_i h2
        rw[aTs h2];exact {h with tg:=hc,lcm:=fun he=>(vC.2.2.2.2.2.1 he).elim,lfd:=fun he=>(vC.2.2.2.2.2.2.2.2.2 he).elim,lst:= .inr (.inr (.inr (.inl rfl))),off:=fun he=>absurd he h1.1}
  | sta v=>
    rw[rJ] at h0|-;split at h0
    .cases h0
    · rename_i h1
      rw[aTs h1];rw[not_or] at h1;split at h0
      .cases h0
      · rename_i h2
        rw[aTs h2];exact {h with sv:=hc,lcm:=fun he=>(vC.1 he.symm).elim,lfd:=fun he=>(vC.2.2.2.1 he.symm).elim,lst:= .inl rfl,off:=fun _=>rfl}
  | fld m v=>
    rw[rJ] at h0|-;split at h0
    .cases h0
    · rename_i h1
      rw[aTs h1];split at h0
      .cases h0
      · rename_i h2
        rw[aTs h2];split at h0
        .cases h0
        · rename_i h3
          rw[aTs h3];exact {h with fd:=aOI h.fd h3 hc.1 hc.2 h2,lcm:=fun he=>(vC.2.2.2.2.2.2.1 he).elim,lfd:=fun _=>aGD _ _ _,lst:= .inr (.inr (.inr (.inr rfl))),off:=fun he=>absurd he h1}
  | flg l=>
    rw[rJ] at h0|-;split at h0
    .cases h0
    · rename_i h1
      rw[aTs h1];rw[not_or] at h1;split at h0
      .cases h0
      · rename_i h2
        rw[aTs h2];rw[not_or] at h2;split at h0
        .cases h0
        · rename_i h3
          rw[aTs h3];have hd:BL l=false:=by simpa using h2.2
          exact {h with fg:=aO6 (by rw[SD];omega) (fun x hx=>hc.2.2 x ((SC l).mem_iff.1 hx)) (aGy hd),lcm:=fun he=>(vC.1 he.symm).elim,lfd:=fun he=>(vC.2.2.2.1 he.symm).elim,lst:= .inl rfl,off:=fun _=>rfl}
  | fin=>
    rw[rJ] at h0|-;split at h0
    .cases h0
    rename_i h1
    have hop:s.op=true:=by simpa using h1
    rw[aTs h1];have htag:=h.tag (.inr hop);by_cases he:s.ends=[]
    · rw[aTr he]
      exact {tag:=fun _=>htag,hcm:=h.cm,hfd:=h.fd,es:=h.es,e0:=fun hh=>(by simp [tJ] at hh),en:=fun _=>(by show (s.ends++[next]).length=s.c.2.2.2.1.length+1;rw[he,h.e0 he];rfl),room:=fun hh=>(by cases hh),sc:=rfl,tg:=rfl,cm:=rfl,fg:=rfl,sv:=sv0,fd:=rfl,id:=fun hh=>(by cases hh),lcm:=fun hh=>(vC.1 hh.symm).elim,lfd:=fun hh=>(vC.2.2.2.1 hh.symm).elim,lst:= .inl rfl,off:=fun _=>rfl}
    rw[aTs he]
    have hr:=h.room hop he;obtain⟨i1,i2,i3,i4⟩:=h.id hop he;refine {tag:=fun _=>htag,hcm:=h.hcm,hfd:=h.hfd,es:=⟨?_,?_,?_⟩,e0:=fun hh=>(by simp [tJ] at hh),en:=fun _=>?_,room:=fun hh=>(by cases hh),sc:=rfl,tg:=rfl,cm:=rfl,fg:=rfl,sv:=sv0,fd:=rfl,id:=fun hh=>(by cases hh),lcm:=fun hh=>(vC.1 hh.symm).elim,lfd:=fun hh=>(vC.2.2.2.1 hh.symm).elim,lst:= .inl rfl,off:=fun _=>rfl}
    · show (s.c.2.2.2.1++[s.x]).length≤1000
      rw[aTt];simp only[aTx,aTI];omega
    · intro x hx
      rcases aUe.1 (show x∈s.c.2.2.2.1++[s.x] from hx) with hx|hx
      .exact h.es.ok x hx
      rw[aTH.1 hx];exact aO7 h hop he
    · show (s.c.2.2.2.1++[s.x]).Pairwise _
      rw[aVk];exact⟨h.es.pw,List.pairwise_singleton _ _,fun a ha b hb=>by rw[aTH.1 hb];exact i4 a ha⟩
    show (s.ends++[next]).length=(s.c.2.2.2.1++[s.x]).length+1
    rw[aTt,aTt,h.en he];rfl
def t8:St:=tJ ([],([],([],([],())))) []
theorem a8s:wT t8:={tag:=fun h=>h.elim (fun h=>absurd rfl h) fun h=>(by cases h),hcm:=rfl,hfd:=rfl,es:=⟨aUp _,fun x hx=>(by cases hx),List.Pairwise.nil⟩,e0:=fun _=>rfl,en:=fun h=>absurd rfl h,room:=fun h=>(by cases h),sc:=rfl,tg:=rfl,cm:=rfl,fg:=rfl,sv:=sv0,fd:=rfl,id:=fun h=>(by cases h),lcm:=fun h=>(vC.1 h.symm).elim,lfd:=fun h=>(vC.2.2.2.1 h.symm).elim,lst:= .inl rfl,off:=fun _=>rfl}
theorem YN {s:St}(h:wT s) (line:pM) (next:Int) (h0:(tB s line next).1=0):wT (tB s line next).2:=by
  unfold tB at h0|-;split at h0
  · rename_i h1
    rw[aTr h1];exact h
  rename_i h1
  rw[aTs h1];cases hw:G2 line with
  |none=>rw[hw] at h0;cases h0
  | some l=>
    rw[hw] at h0;exact aO9 h (aOY (n:=line.length) (YL _ _ _ hw) (SG _ _ _ hw).1 (SG _ _ _ hw).2) next h0
end
noncomputable section
theorem aPa (s:St) (n:Int) (t:pM):(rJ s n (.cont t)).2.c=s.c∧(rJ s n (.cont t)).2.ends=s.ends∧(rJ s n (.cont t)).2.id=s.id∧(rJ s n (.cont t)).2.fg=s.fg∧(rJ s n (.cont t)).2.sv=s.sv∧(rJ s n (.cont t)).2.op=s.op∧(rJ s n (.cont t)).2.bs=s.bs∧(rJ s n (.cont t)).2.bt=s.bt∧(rJ s n (.cont t)).2.bh=s.bh∧(rJ s n (.cont t)).2.bf=s.bf∧(rJ s n (.cont t)).2.last=s.last∧(rJ s n (.cont t)).2.name=s.name:=by
  rw[rJ];split
  .exact⟨rfl,rfl,rfl,rfl,rfl,rfl,rfl,rfl,rfl,rfl,rfl,rfl⟩
  split
  .exact aGE s _
  exact⟨rfl,rfl,rfl,rfl,rfl,rfl,rfl,rfl,rfl,rfl,rfl,rfl⟩
def tM (p:pM):pM:=if p.getLast? =some 10 then p.dropLast else p
theorem P4 {r:List Wd}{t:pM}(h:tP r=some t):r=[(true,t,())]:=by
  unfold tP at h;split at h
  · rename_i w
    split at h
    · rename_i hw
      cases h;obtain⟨a,b,c⟩:=w;cases hw;rfl
    cases h
  cases h
theorem aGF {k:pM}{r:List Wd}{t:pM}(ho:tP r=some t):
    vA DC r= .beg true t∧vA G3 r= .beg false t∧vA vN r= .com t∧vA u1 r= .src t∧vA u6 r= .tgt t:=by
  have e1:G3≠DC∧vN≠DC∧u1≠DC∧u6≠DC∧vN≠G3∧u1≠G3∧u6≠G3∧u1≠vN∧u6≠vN∧u6≠u1:=by decide
  obtain⟨a1,a2,a3,a4,a5,a6,a7,a8,a9,a10⟩:=e1;refine⟨?_,?_,?_,?_,?_⟩<;>unfold vA
  .rw[aTr rfl,ho];rfl
  .rw[aTs a1,aTr rfl,ho];rfl
  .rw[aTs a2,aTs a5,aTr rfl,ho];rfl
  .rw[aTs a3,aTs a6,aTs a8,aTr rfl,ho];rfl
  rw[aTs a4,aTs a7,aTs a9,aTs a10,aTr rfl,ho];rfl
end
noncomputable section
def tG (s:pM) (i:Nat):Nat:=if 0≤Lib.indexByte (s.drop i) 10 then i+(Lib.indexByte (s.drop i) 10).toNat+1 else s.length
theorem SI {s:pM}{i:Nat}(h:i<s.length):i<tG s i∧tG s i≤s.length:=by
  have hr:=O2 (s.drop i) 10;rw[aT2] at hr;unfold tG;split<;>omega
theorem aPb {s:pM}{a i:Nat}(hai:a≤i) (hi:i<s.length) (hno: ∀j (h:j<s.length),a≤j→j<i→s[j]≠10) (h10:s[i]=10):((s.drop a).findIdx? fun b=>decide (b=10))=some (i-a):=by
  rw[aUB];refine⟨by rw[aT2];omega,?_,fun j hj=>?_⟩
  · rw[List.getElem_drop]
    simp only[aTN];rw[←h10];congr 1;omega
  rw[List.getElem_drop]
  simp only[aTN];exact hno (a+j) pQ pQ pQ
theorem aPc {s:pM}{a:Nat}(hno: ∀j (h:j<s.length),a≤j→s[j]≠10):((s.drop a).findIdx? fun b=>decide (b=10))=none:=by
  rw[aUz];intro x hx;obtain⟨j,hj,rfl⟩:=aU0 hx;rw[List.getElem_drop];simp only[aT5];rw[aT2] at hj;exact hno (a+j) pQ pQ
theorem aPd {s:pM}{a i:Nat}(hai:a≤i) (hi:i<s.length) (hno: ∀j (h:j<s.length),a≤j→j<i→s[j]≠10) (h10:s[i]=10):tG s a=i+1:=by
  unfold tG;rw[a8g,aPb hai hi hno h10];rw[show MV (some (i-a))=((i-a:Nat):Int) from rfl,aTr pQ,aUj];omega
theorem aPe {s:pM}{a:Nat}(hno: ∀j (h:j<s.length),a≤j→s[j]≠10):tG s a=s.length:=by
  unfold tG;rw[a8g,aPc hno];exact aTs pR
def F5 (s:pM) (a:Nat):pM:=(s.drop a).take (tG s a-a)
def BM (s:pM):Nat→St→Nat→(Nat×Int)⊕St
  |0,st,_=> .inr st
  | n +1,st,a=>if a<s.length then
      (if (tB st (tM (F5 s a)) (tG s a:Nat)).1=0 then BM s n (tB st (tM (F5 s a)) (tG s a:Nat)).2 (tG s a) else .inl (a,(tB st (tM (F5 s a)) (tG s a:Nat)).1))
    else .inr st
def zR (s:pM):(Nat×Int)⊕St:=match BM s (s.length+1) t8 0 with
  | .inl q=> .inl q
  | .inr st=>if st.op=true∨st.ends=[] then .inl (s.length,3) else .inr st
theorem aGG {s:pM}: ∀(n:Nat) (st:St) (a:Nat) {st':St},wT st→BM s n st a= .inr st'→wT st'
  |0,st,a,st',h,e=>by cases e;exact h
  | n+1,st,a,st',h,e=>by
    rw[BM] at e;split at e
    · split at e
      · rename_i h0
        exact aGG n _ _ (YN h _ _ h0) e
      cases e
    cases e;exact h
end
noncomputable section
def F6 (l:List sW):List sW:=l.foldl (fun acc f=>xQ acc f.1 f.2.1) []
theorem P5 (l:List sW) (n v:pM):F6 (l++[(n,v,())])=xQ (F6 l) n v:=by
  unfold F6;rw[List.foldl_append];rfl
theorem aPf {l:List sW}{n v:pM}(h:(l.any fun y=>decide (y.1=n))=false):(xQ l n v).Perm (l++[(n,v,())]):=by
  rw[SH h];have h1:(l.take (uK l n)++l.drop (uK l n))=l:=aUS _ _
  have h2:(l.take (uK l n)++[(n,v,())]++l.drop (uK l n)).Perm (l.take (uK l n)++(l.drop (uK l n)++[(n,v,())])):=by
    rw[aTD];exact List.Perm.append_left _ List.perm_append_comm
  have h3:l.take (uK l n)++(l.drop (uK l n)++[(n,v,())])=l++[(n,v,())]:=by rw[←aTD,h1]
  rw[h3] at h2;exact h2
theorem SJ {l l':List sW}(h:l.Perm l') (n:pM):(l.any fun y=>decide (y.1=n))=l'.any fun y=>decide (y.1=n):=h.any_eq
theorem P6 {l:List sW}{n v:pM}:((l++[(n,v,())]).map (·.1)).Nodup↔(l.map (·.1)).Nodup∧(l.any fun y=>decide (y.1=n))=false:=by
  rw[List.map_append,List.nodup_append];constructor
  · rintro⟨h1,_,h3⟩
    refine⟨h1,aT9.2 fun x hx=>?_⟩;have:=h3 x.1 (List.mem_map.2 ⟨x,hx,rfl⟩) n pS;simpa using this
  rintro⟨h1,h2⟩
  refine⟨h1,by simp,fun a ha b hb=>?_⟩;obtain⟨x,hx,rfl⟩:=List.mem_map.1 ha;have hb:b=n:=by simpa using hb
  have:=aT9.1 h2 x hx;rw[hb];simpa using this
theorem aGH {α:Type}{P:List α→Prop}(h0:P []) (h1: ∀l x,P l→P (l++[x])) (l:List α):P l:=by
  have: ∀n (l:List α),l.length=n→P l:=by
    intro n
    induction n with
    |zero=>intro l hl;rw[aUi.1 hl];exact h0
    | succ n ih=>
      intro l hl;have hne:l≠[]:=fun e=>by rw[e] at hl;cases hl
      rw[←List.dropLast_concat_getLast hne];exact h1 _ _ (ih _ (by rw[List.length_dropLast,hl];rfl))
  exact this _ l rfl
theorem P7: ∀l:List sW,(l.map (·.1)).Nodup→(F6 l).Perm l:=by
  refine aGH (fun _=>List.Perm.refl _) fun l x ih h=>?_;obtain⟨n,v,u⟩:=x;obtain⟨h1,h2⟩:=P6.1 h;rw[P5];have hp:=ih h1;exact(aPf (by rw[SJ hp];exact h2)).trans (hp.append_right _)
theorem a8t: ∀l:List sW,(l.map (·.1)).Nodup→(F6 l).Pairwise (fun a b=>a.1<b.1):=by
  refine aGH (fun _=>List.Pairwise.nil) fun l x ih h=>?_;obtain⟨n,v,u⟩:=x;obtain⟨h1,h2⟩:=P6.1 h;rw[P5];have hp:=P7 l h1;have ha:((F6 l).any fun y=>decide (y.1=n))=false:=by rw[SJ hp];exact h2
  have hne: ∀y∈F6 l,y.1≠n:=fun y hy=>by simpa using aT9.1 ha y hy
  rw[SH ha];unfold uK;refine a8n (fun y:sW=>y.1) (x:=(n,v,())) (ih h1) hne fun y hy=>?_;rw[G1];have:decide (y.1=n)=false:=by simpa using hne y hy
  rw[this,Bool.or_false]
theorem aGI {l:List sW}{n v z:pM}(h:(l.any fun y=>decide (y.1=n))=false) (hl:l.Pairwise (fun a b=>a.1<b.1)):xQ (xQ l n v) n z=xQ l n z∧I4 (xQ l n v) n=(v,true):=by
  have hk1:uK l n≤l.length:=aN7 l n;have hne: ∀y∈l,y.1≠n:=fun y hy=>by simpa using aT9.1 h y hy
  have hlen:(l.take (uK l n)).length=uK l n:=by rw[aUg];omega
  have hk:yF (l.take (uK l n)++[(n,v,())]++l.drop (uK l n)) n=some (uK l n):=by
    unfold yF;rw[aTD,List.findIdx?_append]
    have:((l.take (uK l n)).findIdx? fun x=>decide (x.1=n))=none:=by
      rw[aUz];intro x hx;simpa using hne x (List.mem_of_mem_take hx)
    rw[this,hlen,aVi,aU4];simp
  constructor
  · rw[SH h,SH h]
    unfold xQ;rw[hk];show (l.take (uK l n)++[(n,v,())]++l.drop (uK l n)).set (uK l n) (n,z,())=_;rw[aTD,List.set_append_right _ _ pQ,hlen,aUY];simp
  rw[SH h]
  unfold I4;rw[hk];show ((((l.take (uK l n)++[(n,v,())]++l.drop (uK l n)).getD (uK l n) ([],[],())).2.1,true):pM×Bool)=(v,true);rw[aTM,aTD,aTA pQ,hlen,aUY];rfl
theorem aPg {l:List sW}(h:(l.map (·.1)).Nodup) (hl:l.length≤1000):Bs.blocks_sorted l=some (F6 l,l.length):=by
  have hcol:Bs.slices_Collect_api_Field_api_Field_F1 l=some l:=by
    have hfold: ∀(m acc:List sW),m.length+acc.length≤1000→Vc.AJ Bs.slices_AppendSeq_api_Field_api_Field_F1_step1 m acc=some (.inl (acc++m)):=by
      intro m
      induction m with
      |nil=>intro acc _;show some (Sum.inl acc)=_;rw[List.append_nil]
      | cons x m ih=>
        intro acc ha;simp only[aTx] at ha
        have hst:Bs.slices_AppendSeq_api_Field_api_Field_F1_step1 x acc=some (.inl (acc++[x])):=by
          unfold Bs.slices_AppendSeq_api_Field_api_Field_F1_step1;rw[aTr (by simp only[aTx,aTI];omega)]
        show (Bs.slices_AppendSeq_api_Field_api_Field_F1_step1 x acc).bind _=_;rw[hst,aTu];show Vc.AJ Bs.slices_AppendSeq_api_Field_api_Field_F1_step1 m (acc++[x])=_;rw[ih _ (by rw[aTt];simp only[aTx,aTI];omega),aTD];rfl
    unfold Bs.slices_Collect_api_Field_api_Field_F1 Bs.slices_AppendSeq_api_Field_api_Field_F1;rw[aTr pQ];have:=hfold l [] (by simpa using hl);rw[show QY l=l from rfl,this];unfold uY;rfl
  have hs:vL l=F6 l:=by
    obtain⟨h1,h2⟩:=aCL l
    have hp:(vL l).Perm l:=by
      have:=h1.2.2
      have e1:(vL l).toArray.extract 0 l.length=(vL l).toArray:=by
        rw[show l.length=(vL l).toArray.size from(WN l).symm];simp
      have e2:l.toArray.extract 0 l.length=l.toArray:=by
        rw[show l.length=l.toArray.size by simp];simp
      rw[e1,e2] at this;simpa using this
    have hp2:=P7 l h
    have hpw:(vL l).Pairwise (fun a b=> ¬b.1<a.1):=by
      rw[aT4];intro i j hi hj hij;have hx:=h2 i j (aUp _) hij (by rw[WN] at hj;exact hj);rw[getElem!_pos (vL l).toArray i (by simpa using hi),getElem!_pos (vL l).toArray j (by simpa using hj)] at hx;simp only[List.getElem_toArray] at hx;intro hlt;unfold ltOf DN at hx;exact of_decide_eq_false hx ((a2h _ _).2 hlt)
    have hnd:((vL l).map (·.1)).Nodup:=(hp.map _).nodup_iff.2 h
    have hpw2:(vL l).Pairwise (fun a b=>a.1<b.1):=by
      rw[aT4] at hpw|-;intro i j hi hj hij;refine YJ (hpw i j hi hj hij) fun e=>?_;have:=aT4.1 (List.nodup_iff_pairwise_ne.1 hnd) i j (by simpa using hi) (by simpa using hj) hij;rw[List.getElem_map,List.getElem_map] at this;exact this e.symm
    exact(hp.trans hp2.symm).eq_of_pairwise (fun a b _ _ h1 h2=>absurd h2 (List.lt_asymm h1)) hpw2 (a8t l h)
  unfold Bs.blocks_sorted Bs.slices_SortedFunc_api_Field_api_Field_F1_blocks_sortedF1;rw[hcol,aTu,aTr pQ,aTu,hs]
theorem a8u {l:List Wd}{p:pM}{i:Nat}(h:i<l.length) (hp:i<p.length) (hl:l.length≤10):OF l p (i:Int)=if (l[i].1==decide (p[i]=115))=true then some (.inl ((i:Int)+1)) else some (.inr (.inr false)):=by
  unfold OF;rw[aTr (wR h),aTr (vB h),aTr (vB hp),SF h,S4 hp,DB (n:=115) 115 rfl,aTr (yE pQ)];cases(l[i].1==decide (p[i]=115))<;>rfl
theorem aGJ {l:List Wd}{p:pM}:OF l p (l.length:Int)=some (.inr (.inl ())):=by
  unfold OF;rw[aTs (A7 _)]
theorem YO (l:List Wd) (c:UInt8):yQ l [c]=some (match l with|[a]=>a.1==decide (c=115) |_=>false):=by
  match l with
  |[]=>unfold yQ;rfl
  | [a]=>
    unfold yQ;rw[aTs pS,show ((0:Int))=((0:Nat):Int) from rfl,uO,a8u (l:=[a]) (p:=[c]) (i:=0) pS pS pS];show uY (Option.bind (if (a.1==decide (c=115))=true then _ else _) _) _=some (a.1==decide (c=115));cases(a.1==decide (c=115)) with
    |false=>rfl
    | true=>
      rw[aTr rfl,aTu];dsimp only;rw[show (((0:Nat):Int)+1)=(([a]:List Wd).length:Int) from rfl,uO,aGJ];rfl
  | a::b::t=>
    unfold yQ;rw[aTr (by simp only[aTV,aT5,aTx,aTI];omega)]
theorem aPh (l:List Wd):yQ l [115,115]=some (match l with|[a,b]=>a.1&&b.1|_=>false):=by
  match l with
  |[]=>unfold yQ;rfl
  |[a]=>unfold yQ;rfl
  | [a,b]=>
    unfold yQ;rw[aTs pS,show ((0:Int))=((0:Nat):Int) from rfl,uO,a8u (l:=[a,b]) (p:=[115,115]) (i:=0) pS pS pS];show uY (Option.bind (if (a.1==true)=true then _ else _) _) _=some (a.1&&b.1);cases a.1 with
    |false=>rfl
    | true=>
      rw[aTr (show (true==true)=true from rfl),aTu];dsimp only;rw[show (((0:Nat):Int)+1)=((1:Nat):Int) from rfl,uO,a8u (l:=[a,b]) (p:=[115,115]) (i:=1) pS pS pS];show uY (Option.bind (if (b.1==true)=true then _ else _) _) _=some (true&&b.1);cases b.1 with
      |false=>rfl
      | true=>
        rw[aTr (show (true==true)=true from rfl),aTu];dsimp only;rw[show (((1:Nat):Int)+1)=(([a,b]:List Wd).length:Int) from rfl,uO,aGJ];rfl
  | a::b::c::t=>
    unfold yQ;rw[aTr (by simp only[aTV,aT5,aTx,aTI];omega)]
theorem a8v (l:List Wd):yQ l [115]=some (tP l).isSome:=by
  rw[YO];unfold tP
  match l with
  |[]=>rfl
  |[a]=>cases h:a.1<;>simp [h]
  |a::b::t=>rfl
end
noncomputable section
abbrev Mp:=pU
structure Pg where
  c:C4
  pl:Int
  id:pM
  sc:pM
  tg:pM
  fg:pN
  sv:Int
  ap:Nat
  ends:pW
  cm:Option pN
  n1:Nat
  fl:Option (List sW)
  n2:Nat
  seen:Mp
  ids:Mp
def K1 (k:pM):Nat:=if k=u1 then 1 else if k=u6 then 2 else if k=vN then 3 else if k=wB then 4 else 0
structure DU (s:St) (P:Pg):Prop where
  c:P.c=s.c
  ends:P.ends=s.ends
  pl:P.pl=if s.op=true then(if s.ends=[] then 1 else 3) else(if s.ends=[] then 0 else 2)
  x:s.op=true→P.sc=s.sc∧P.tg=s.tg∧P.fg=s.fg∧P.sv=s.sv∧P.cm=some s.cm
  id:s.op=true→s.ends≠[]→P.id=s.id
  fl:s.op=true→∃l,P.fl=some l∧F6 l=s.fd∧(l.map (·.1)).Nodup∧(s.last=wB→∃l' v,l=l'++[(s.name,v,())])
  ap:P.ap=K1 s.last
  seen:s.op=true→sN .str .bool P.seen u1=s.bs∧sN .str .bool P.seen u6=s.bt∧sN .str .bool P.seen xA=s.bh∧sN .str .bool P.seen wI=s.bf
  ids: ∀t,sN .str .bool P.ids t=((s.c.2.2.2.1.any fun y=>decide (y.1=t))||((s.op&&decide (s.ends≠[]))&&decide (s.id=t)))
  live:s.op=true∨s.ends≠[]
abbrev K2:=Int×pM×pN×(List r7)×(List tA)×Int×pM×pM×pM×pN×Int×Nat×pW×pU×(Option pN)×Nat×(Option (List r7))×Nat×pU
def a8w (v:K2):Pg:=
  ⟨(v.2.1,(v.2.2.1,(v.2.2.2.1,(v.2.2.2.2.1,())))),v.2.2.2.2.2.1,v.2.2.2.2.2.2.1,v.2.2.2.2.2.2.2.1,v.2.2.2.2.2.2.2.2.1,v.2.2.2.2.2.2.2.2.2.1,v.2.2.2.2.2.2.2.2.2.2.1,v.2.2.2.2.2.2.2.2.2.2.2.1,v.2.2.2.2.2.2.2.2.2.2.2.2.1,v.2.2.2.2.2.2.2.2.2.2.2.2.2.2.1,v.2.2.2.2.2.2.2.2.2.2.2.2.2.2.2.1,v.2.2.2.2.2.2.2.2.2.2.2.2.2.2.2.2.1,v.2.2.2.2.2.2.2.2.2.2.2.2.2.2.2.2.2.1,v.2.2.2.2.2.2.2.2.2.2.2.2.2.2.2.2.2.2,v.2.2.2.2.2.2.2.2.2.2.2.2.2.1⟩
def CA (A:Option K2) (r:Int×St):Prop:= ∃v,A=some v∧v.1=r.1∧(r.1=0→DU r.2 (a8w v))
theorem vD {A:Option K2}{e:Int}{s:St}{v:K2}(h:A=some v) (he:v.1=e) (hne:e≠0):CA A (e,s):=⟨v,h,he,fun h0=>absurd h0 hne⟩
theorem G4 {A:Option K2}{s:St}{v:K2}(h:A=some v) (he:v.1=0) (hr:DU s (a8w v)):CA A (0,s):=⟨v,h,he,fun _=>hr⟩
theorem SK:K1 vN=3:=by decide
theorem SL:K1 u1=1:=by decide
theorem SM:K1 u6=2:=by decide
theorem SN:K1 wB=4:=by decide
theorem MY:K1 []=0:=by decide
theorem aGK {s:St}(h:wT s):K1 s.last=0↔s.last=[]:=by
  constructor
  · intro h0
    rcases h.lst with e|e|e|e|e
    .exact e
    .rw[e,SK] at h0;cases h0
    .rw[e,SL] at h0;cases h0
    .rw[e,SM] at h0;cases h0
    rw[e,SN] at h0;cases h0
  intro h0;rw[h0];exact MY
theorem aGL {l:List Wd}(hl:l.length≤1100000000) {sc tg:pM}{o1:Option pN}{n1:Nat}{o2:Option (List sW)}{n2:Nat}: ∀(n i:Nat) (a:pM),i+n=l.length→a.length+(t7 (l.drop i)).flatten.length≤9000000000000000000→
    sF (OO sc tg l o1 n1 o2 n2) (a,(i:Int))=some (if ((l.drop i).any fun x=> !x.1)=true then .inr (3,sc,tg,o1,n1,o2,n2) else .inl (a++(t7 (l.drop i)).flatten))
  | 0,i,a,hi,_=>by
    have:i=l.length:=by omega
    subst this;rw[aUG,uO];unfold OO;dsimp only;rw[aTs (A7 _),aTs pS];show some (Sum.inl a)=some (Sum.inl (a++[]));rw[List.append_nil]
  | n+1,i,a,hi,hb=>by
    have hlt:i<l.length:=by omega
    have h2:(t7 (l.drop i)).flatten=l[i].2.1++(t7 (l.drop (i+1))).flatten:=by
      unfold t7;rw[aUa hlt,aUt,aUd]
    rw[h2,aTt] at hb;rw[uO];generalize hF:sF (OO sc tg l o1 n1 o2 n2)=F;unfold OO;dsimp only;rw[aTr (wR hlt),aTr (vB hlt),SF hlt,h2,aUa hlt,List.any_cons];cases hq:l[i].1 with
    |false=>rfl
    | true=>
      rw[aTs pS,aTr (by rw[aTt];omega),aTr (yE pQ),aTu];dsimp only;rw[←hF,show ((i:Int)+1)=((i+1:Nat):Int) by omega,aGL hl n (i+1) _ pQ (by rw[aTt];omega),aTD];rfl
def a8x (P:Pg) (l:List Wd):Option K2:=
    (A6 P.c P.pl P.id P.sc P.tg P.fg P.sv P.ap (P.ends,()) l P.cm P.n1 P.fl P.n2 P.seen P.ids).bind fun O=>
    some ((O.1,P.c.1,P.c.2.1,P.c.2.2.1,P.c.2.2.2.1,P.pl,P.id,O.2.1,O.2.2.1,P.fg,P.sv,P.ap,P.ends,P.ids,O.2.2.2.1,O.2.2.2.2.1,O.2.2.2.2.2.1,O.2.2.2.2.2.2,P.seen))
theorem aPi {α:Type}{l:List α}{z:α}(h:l≠[]):l.set (l.length-1) z=l.dropLast++[z]:=by
  have hpos:=aUk.2 h
  conv=>lhs;rw[←List.dropLast_concat_getLast h]
  rw[List.set_append_right _ _ (by rw[List.length_dropLast];simp [List.length_dropLast])];simp [List.length_dropLast]
theorem aPj {s:St}(h:wT s) {P:Pg}(hr:DU s P) {l:List Wd}(hl:l.length≤1100000000) (ht:(t7 l).flatten.length≤1100000000) (next:Int):
    CA (a8x P l) (if (l.any fun x=> !x.1)=true then(3,s) else rJ s next (.cont (t7 l).flatten)):=by
  have hct:=BK (aO1 h);have hlp:=aGL (sc:=P.sc) (tg:=P.tg) (o1:=P.cm) (n1:=P.n1) (o2:=P.fl) (n2:=P.n2) hl l.length 0 [] pQ (by rw[aUN,aTI];omega);rw[aUN] at hlp;unfold a8x A6;rw[show ((0:Int))=((0:Nat):Int) from rfl,hlp];by_cases ha:(l.any fun x=> !x.1)=true
  · rw[aTr ha,aTr ha]
    exact vD rfl rfl pR
  rw[aTs ha,aTs ha]
  unfold uY;rw[aTu];dsimp only;rw[List.nil_append];have h64:((3:Int))=3:=rfl;rw[rJ];by_cases hla:s.last=[]
  · have hap:P.ap=0:=by rw[hr.ap];exact(aGK h).2 hla
    rw[aTs (by rw[hap];simp),aTr rfl,aTr (.inr hla)];exact vD rfl rfl pR
  have hap:P.ap≠0:=fun e=>hla ((aGK h).1 (by rw[←hr.ap];exact e))
  have hop:s.op=true:=by
    cases ho:s.op with
    |true=>rfl
    |false=>exact absurd (h.off ho) hla
  obtain⟨x1,x2,x3,x4,x5⟩:=hr.x hop;obtain⟨fl,f1,f2,f3,f4⟩:=hr.fl hop;rw[aTr (by rw[decide_eq_false hap];rfl),x5,f1,aTu,aTu,aTs (by rw[hop];simp [hla])]
  have hcur:KW P.ap P.sc P.tg (FF s.cm) (IQ fl)=A8 s:=by
    rw[hr.ap,x1,x2];unfold KW A8;rcases h.lst with e|e|e|e|e
    .exact absurd e hla
    · rw[e,SK,aTs pR,aTs pR,aTr rfl,aTr rfl]
      unfold FF;have hpos:=aUk.2 (h.lcm e);rw[aTM,List.getLastD_eq_getLast?,List.getLast?_eq_getElem?]
    .rw[e,SL,aTr rfl,aTs pR,aTr rfl]
    .rw[e,SM,aTs pR,aTr rfl,aTs pR,aTs pR,aTr rfl]
    obtain⟨l',v,e2⟩:=f4 e
    rw[e,SN,aTs pR,aTs pR,aTs pR,aTs pR,aTs pR,aTs pR,←f2,e2,P5];rw[e2] at f3;obtain⟨g1,g2⟩:=P6.1 f3;rw[(aGI (v:=v) (z:=v) (by rw[SJ (P7 l' g1)];exact g2) (a8t l' g1)).2];unfold IQ;simp
  unfold B2;rw[hcur];dsimp only;have hfit:sV (A8 s++(t7 l).flatten):=by unfold sV;rw[aTt];omega
  rw[aTr (fun _=>hap),aTr (fun _=>by rw[aTt];omega),aTr (fun _=>by rw[MU _ hfit];rfl),decide_eq_false hap,Bool.false_or];have hto:((decide (((A8 s++(t7 l).flatten).length:Int)≤(4000:Int)))&&(Lib.validD (A8 s++(t7 l).flatten)))=sO (A8 s++(t7 l).flatten):=rfl;rw[hto];cases htx:sO (A8 s++(t7 l).flatten) with
  |false=>exact vD rfl rfl pR
  | true=>
    rw[aTs pS,aTr rfl];refine G4 rfl rfl ?_;obtain⟨k1,k2,k3,k4,k5,k6,k7,k8,k9,k10,k11,k12⟩:=aGE s (A8 s++(t7 l).flatten);generalize hz:A8 s++(t7 l).flatten=z at*;have hap':=hr.ap;refine {c:=hr.c.trans k1.symm,ends:=hr.ends.trans k2.symm,pl:= ?_,x:=fun _=>?_,id:=fun _ he=>?_,fl:=fun _=>?_,ap:=hr.ap.trans (by rw[k11]),seen:=fun _=>?_,ids:=fun t=>?_,live:= ?_}
    .rw[k6,k2];exact hr.pl
    · show KX (true&&decide (P.ap=1)) z P.sc=_∧KX (true&&decide (P.ap=2)) z P.tg=_∧P.fg=_∧P.sv=_∧some (FG (true&&decide (P.ap=3)) z s.cm)=some _
      rw[k4,k5,hap',x1,x2];unfold wJ;rcases h.lst with e|e|e|e|e
      .exact absurd e hla
      · rw[aTr e,e,SK]
        refine⟨rfl,rfl,x3,x4,?_⟩;have:=aPi (z:=z) (h.lcm e);unfold FG;rw[aTr qE,this]
      · rw[aTs (by rw[e];decide),aTr e,e,SL]
        exact⟨rfl,rfl,x3,x4,rfl⟩
      · rw[aTs (by rw[e];decide),aTs (by rw[e];decide),aTr e,e,SM]
        exact⟨rfl,rfl,x3,x4,rfl⟩
      rw[aTs (by rw[e];decide),aTs (by rw[e];decide),aTs (by rw[e];decide),e,SN]
      exact⟨rfl,rfl,x3,x4,rfl⟩
    .rw[k3];rw[k2] at he;exact hr.id hop he
    · show∃l,some (FH (true&&decide (4≤P.ap)) z fl)=some l∧_
      rw[k11,k12,hap'];refine⟨_,rfl,?_⟩;unfold wJ;rcases h.lst with e|e|e|e|e
      .exact absurd e hla
      · rw[aTr e,e,SK]
        exact⟨f2,f3,fun h0=>absurd h0 vC.2.2.2.2.2.2.2.1⟩
      · rw[aTs (by rw[e];decide),aTr e,e,SL]
        exact⟨f2,f3,fun h0=>absurd h0 vC.2.2.2.2.2.2.2.2.1⟩
      · rw[aTs (by rw[e];decide),aTs (by rw[e];decide),aTr e,e,SM]
        exact⟨f2,f3,fun h0=>absurd h0 vC.2.2.2.2.2.2.2.2.2⟩
      obtain⟨l',v,e2⟩:=f4 e
      rw[aTs (by rw[e];decide),aTs (by rw[e];decide),aTs (by rw[e];decide),e,SN]
      have hset:FH (true&&decide (4≤4)) z fl=l'++[(s.name,z,())]:=by
        unfold FH;rw[aTr qE,e2];have hg:(l'++[(s.name,v,())]).getD ((l'++[(s.name,v,())]).length-1) ([],[],())=(s.name,v,()):=by simp
        rw[hg];simp
      rw[hset];rw[e2] at f3;obtain⟨g1,g2⟩:=P6.1 f3;refine⟨?_,P6.2 ⟨g1,g2⟩,fun _=>⟨l',z,rfl⟩⟩;rw[P5,←f2,e2,P5];exact(aGI (by rw[SJ (P7 l' g1)];exact g2) (a8t l' g1)).1.symm
    .rw[k7,k8,k9,k10];exact hr.seen hop
    .rw[k1,k2,k3,k6];exact hr.ids t
    rw[k2,k6];exact hr.live
end
noncomputable section
theorem aGM (v:pM):EO w9 v=some (zP v):=by
  rw[aN3 w9 v (by unfold sV;decide)];unfold zP;simp only[eq_comm]
theorem aPk (v:pM):HS w9 v=some (decide (0≤zP v)):=by
  unfold HS;rw[aGM];rfl
theorem xT {α:Type}{w:α}{r:List α}:0≤(0:Int)∧(0:Int)<((w::r).length:Int):=⟨aUL _,by simp only[aTx];omega⟩
section
variable (c:sK) (pl:Int) (id sc tg:pM) (fg:pN) (sv:Int) (en:pW×Unit) (r:List Wd) (cm:pN) (fl:List r7) (seen ids:Mp)
theorem aPl (h:cm.length≤20):D2 c pl id sc tg fg sv en r cm fl seen ids=some (match tP r with|none=>(3,0,cm) |some t=>if cm.length=20 then(6,0,cm) else(0,3,cm++[t])):=by
  unfold D2;rw[a8v,aTu];cases ho:tP r with
  |none=>rfl
  | some t=>
    rw[P4 ho,aTs pS];dsimp only;by_cases h2:cm.length=20
    .rw[aTr pT,aTr h2]
    have hn:qV rF [(true,t,())] (0:Int)=(true,t,()):=rfl
    rw[aTs pT,aTs h2,aTr xT,aTr (by simp only[aTx,aTI];omega),hn,aTr (by rw[aTt];simp only[aTx,aTI];unfold qP;omega),aTr (by rw[aTt];simp only[aTx,aTI];omega)]
theorem aPm (h:fl.length≤20):sV fl:=by unfold sV;omega
theorem aPn (h:fl.length≤20):D6 c pl id sc tg fg sv en r cm fl seen ids=some (match F3 r with|none=>(3,0,fl) |some q=>if (fl.any fun y=>decide (y.1=q.1))=true then(9,0,fl) else if fl.length=20 then(6,0,fl) else(0,4,fl++[(q.1,q.2,())])):=by
  unfold D6;rw[aPh,aTu]
  match r with
  |[]=>rfl
  |[a]=>rfl
  | [a,b]=>
    have hn0:qV rF [a,b] (0:Int)=a:=rfl;have hn1:qV rF [a,b] (1:Int)=b:=rfl;have hp1:0≤(1:Int)∧(1:Int)<(List.length [a,b]:Int):=by simp
    rw[hn0,hn1,Y4];dsimp only;rw[aTr (fun _=>xT),aTr (fun _=>Option.isSome_some)];show (if ((!(a.1&&b.1))||(!uU a.2.1))=true then _ else _)=_
    have hf:F3 [a,b]=if (a.1=true∧b.1=true)∧uU a.2.1=true then some (a.2.1,b.2.1) else none:=rfl;by_cases hc:(a.1=true∧b.1=true)∧uU a.2.1=true
    · rw[hf,aTr hc]
      obtain⟨⟨h1,h2⟩,h3⟩:=hc;rw[aTs (by rw[h1,h2,h3];simp),aTr xT,aN6 _ _ (aPm fl h),aTu,aN4];dsimp only;by_cases h4:(fl.any fun y=>decide (y.1=a.2.1))=true
      .rw[aTr h4,aTr h4]
      rw[aTs h4,aTs h4]
      by_cases h5:fl.length=20
      .rw[aTr pT,aTr h5]
      rw[aTs pT,aTs h5,aTr xT,aTr hp1,aTr (by simp only[aTx,aTI];omega),aTr (by rw[aTt];simp only[aTx,aTI];unfold qP;omega),aTr (by rw[aTt];simp only[aTx,aTI];omega)]
    .rw[hf,aTs hc,aTr (by
        cases h1:a.1<;>cases h2:b.1<;>cases h3:uU a.2.1<;>first|rfl|exact absurd ⟨⟨h1,h2⟩,h3⟩ hc)]
  |a::b::d::t=>rfl
theorem aGN:ER c pl id sc tg fg sv en r cm fl seen ids=some (match tP r with|none=>(3,sc,0,seen) |some t=>if sN .str .bool seen u1=true then(9,sc,0,sY .str .bool u1 true seen) else(0,t,1,sY .str .bool u1 true seen)):=by
  unfold ER HP;rw[a8v,aTu];cases ho:tP r with
  |none=>rfl
  | some t=>
    have hn:qV rF [(true,t,())] (0:Int)=(true,t,()):=rfl;rw[P4 ho,aTs pS];dsimp only;show Option.bind (if sN .str .bool seen u1=true then _ else _) _=_;by_cases h2:sN .str .bool seen u1=true
    .rw[aTr h2,aTr h2];rfl
    rw[aTs h2,aTs h2,aTr xT,hn];rfl
theorem aGO:ES c pl id sc tg fg sv en r cm fl seen ids=some (match tP r with|none=>(3,tg,0,seen) |some t=>if sN .str .bool seen u6=true then(9,tg,0,sY .str .bool u6 true seen) else(0,t,2,sY .str .bool u6 true seen)):=by
  unfold ES HR;rw[a8v,aTu];cases ho:tP r with
  |none=>rfl
  | some t=>
    have hn:qV rF [(true,t,())] (0:Int)=(true,t,()):=rfl;rw[P4 ho,aTs pS];dsimp only;show Option.bind (if sN .str .bool seen u6=true then _ else _) _=_;by_cases h2:sN .str .bool seen u6=true
    .rw[aTr h2,aTr h2];rfl
    rw[aTs h2,aTs h2,aTr xT,hn];rfl
theorem aGP:FW c pl id sc tg fg sv en r cm fl seen ids=some (match F2 r with|none=>(3,sv,seen) |some v=>if sN .str .bool seen xA=true then(9,sv,sY .str .bool xA true seen) else(0,v,sY .str .bool xA true seen)):=by
  unfold FW
  match r with
  |[]=>rw[YO];rfl
  | [a]=>
    have hst:yQ [a] [112]=some (!a.1):=by rw[YO];cases h:a.1<;>simp [h]
    rw[hst,aTu];have hn:qV rF [a] (0:Int)=a:=rfl;rw[hn,show HS ([([110,101,119]:pM),([102,117,122,122,121]:pM),([116,114,97,110,115,108,97,116,101,100]:pM),([114,101,118,105,101,119,101,100]:pM),([111,98,115,111,108,101,116,101]:pM)]:pN) a.2.1=some (decide (0≤zP a.2.1)) from aPk a.2.1];rw[show EO ([([110,101,119]:pM),([102,117,122,122,121]:pM),([116,114,97,110,115,108,97,116,101,100]:pM),([114,101,118,105,101,119,101,100]:pM),([111,98,115,111,108,101,116,101]:pM)]:pN) a.2.1=some (zP a.2.1) from aGM a.2.1];have hf:F2 [a]=if a.1=false∧0≤zP a.2.1 then some (zP a.2.1) else none:=rfl;rw[hf];cases ha:a.1 with
    |true=>rfl
    | false=>
      rw[aTr (show ((!(!false))==false)=true from rfl),aTr (fun _=>xT),aTr (fun _=>Option.isSome_some)];by_cases hs:0≤zP a.2.1
      · rw[aTs (show¬((!(!false))||(!(val (some (decide (0≤zP a.2.1))))))=true by rw[aT7 hs];decide),aTr (show false=false∧0≤zP a.2.1 from⟨rfl,hs⟩)]
        show (if sN .str .bool seen xA=true then _ else _)=_;dsimp only;by_cases h2:sN .str .bool seen xA=true
        .rw[aTr h2,aTr h2];rfl
        rw[aTs h2,aTs h2,aTr xT];rfl
      .rw[aTr (show ((!(!false))||(!(val (some (decide (0≤zP a.2.1))))))=true by rw[decide_eq_false hs];decide),aTs (show¬(false=false∧0≤zP a.2.1) from fun h=>hs h.2)]
  |a::b::t=>rw[YO];rfl
theorem aGQ {r:List Wd}(hl:r.length≤1100000000): ∀(n i:Nat),i+n=r.length→sF (M9 r) ((i:Int),t7 (r.take i))=some (t7 r)
  | 0,i,hi=>by
    have:i=r.length:=by omega
    subst this;rw[List.take_length,uO];unfold M9;dsimp only;rw[aTs (A7 _)];rfl
  | n+1,i,hi=>by
    have hlt:i<r.length:=by omega
    have hlen:(t7 (r.take i)).length=i:=by unfold t7;rw[aUl,aUg];omega
    have htk:t7 (r.take i)++[r[i].2.1]=t7 (r.take (i+1)):=by
      unfold t7;rw[List.take_succ_eq_append_getElem hlt,List.map_append];rfl
    rw[uO];generalize hF:sF (M9 r)=F;unfold M9;dsimp only;rw[aTr (wR hlt),aTr (vB hlt),SF hlt,hlen,aTr (by simp only[aTx,aTI];omega),aTr (yE pQ),aTu];dsimp only;rw[htk,←hF,show ((i:Int)+1)=((i+1:Nat):Int) by omega];exact aGQ hl n (i+1) pQ
theorem aPo {r:List Wd}(hl:r.length≤1100000000):JL r=some (r.any F4):=by
  unfold JL OL
  rw[S5 (l:=r) F4 (fun k=>(k:Int)) (fun i h=>by
    unfold XB RE;rw[aTr (wR h),aTr (vB h),SF h,Y4,aTr (fun _=>Option.isSome_some),aTu,aTr (yE pQ)];rfl) (by
    unfold XB;rw[aTs (A7 _)]),Y5,aTu,aGe]
theorem aPp (hl:r.length≤1100000000):FU c pl id sc tg fg sv en r cm fl seen ids=some (if r=[]∨(r.any F4)=true then(3,fg,seen) else if sN .str .bool seen wI=true∨BL (t7 r)=true then(9,fg,sY .str .bool wI true seen) else if 20<(t7 r).length then(6,fg,sY .str .bool wI true seen) else(0,tN (t7 r),sY .str .bool wI true seen)):=by
  have hlp:=aGQ hl r.length 0 pQ;have hwl:(t7 r).length=r.length:=by unfold t7;rw[aUl]
  unfold FU;rw[aPo hl,aTr (fun _=>Option.isSome_some),aO2];show (if (decide (r=[])||r.any F4)=true then _ else _)=_
  by_cases h1:r=[]∨(r.any F4)=true
  .rw[aTr h1,aTr (by rcases h1 with h1|h1<;>simp [h1])]
  rw[aTs h1,aTs (by rw[not_or] at h1;simpa using h1)]
  have hlp':sF (M9 r) ((0:Int),([]:pN))=some (t7 r):=hlp;rw[hlp'];unfold uM;rw[aTu,aTr pQ]
  have hcl:EQ (tN (t7 r))=some (tN (t7 r)):=by
    unfold EQ;rw[aTr (by rw[SD];omega),List.nil_append]
  show (if ((sN .str .bool seen wI)==false)=true then _ else _)=_;cases hf:sN .str .bool seen wI with
  | true=>
    rw[aTs pS,aTr rfl,aTr (.inl rfl)];rfl
  | false=>
    rw[aTr qE,hcl,aTr (fun _=>Option.isSome_some)];rw[aTr (show (sN .str .bool seen ([102,108,97,103,115]:pM)==false)=true→List.length (val (some (tN (t7 r))))≤9223372036854775807 from fun _=>by show (tN (t7 r)).length≤_;rw[SD];omega)];show (if (sN .str .bool seen wI||(decide (((((Lib.compact (tN (t7 r))).length):Nat):Int)<((tN (t7 r)).length:Int))))=true then _ else _)=_
    have hd:decide (((((Lib.compact (tN (t7 r))).length):Nat):Int)<((tN (t7 r)).length:Int))=BL (t7 r):=by
      unfold BL;exact aU3.2 pQ
    rw[hd,hf,Bool.false_or];by_cases h2:BL (t7 r)=true
    .rw[aTr h2,aTr (.inr h2)];rfl
    rw[aTs h2,aTs (show¬(false=true∨BL (t7 r)=true) by simp [h2])]
    by_cases h3:20<(t7 r).length
    .rw[aTr h3,aTr (by rw[SD];simp only[aTN];omega)];rfl
    rw[aTs h3,aTs (by rw[SD];simp only[aTN];omega)];rfl
end
theorem aPq (k:pM):FT k=if k=vN then(some 117,true) else if k=wB then(some 118,true) else(if k=wI then some 122 else if k=xA then some 121 else if k=u6 then some 120 else if k=u1 then some 119 else none,false):=by
  unfold FT;by_cases h1:k=vN
  .rw[aTr h1,show decide (k=([99,111,109,109,101,110,116]:pM))=true from aT7 h1,aTr rfl]
  rw[aTs h1,show decide (k=([99,111,109,109,101,110,116]:pM))=false from decide_eq_false h1,aTs pS]
  by_cases h2:k=wB
  .rw[aTr h2,show decide (k=([102,105,101,108,100]:pM))=true from aT7 h2,aTr rfl]
  rw[aTs h2,show decide (k=([102,105,101,108,100]:pM))=false from decide_eq_false h2,aTs pS,x9,x9,x9,x9]
  rfl
end
noncomputable section
def MZ (P:Pg) (l:List Wd) (nx:Int):Option K2:=
    if ((decide (P.pl=(0:Int)))||(decide (P.pl=(2:Int))))=true then
     (wQ P.c P.pl P.id P.sc P.tg P.fg P.sv (P.ends,()) l P.cm P.n1 P.fl P.n2 P.seen P.ids).bind fun v82=>
     some ((v82.1,v82.2.1,P.c.2.1,P.c.2.2.1,P.c.2.2.2.1,v82.2.2.1,v82.2.2.2.1,v82.2.2.2.2.1,v82.2.2.2.2.2.1,v82.2.2.2.2.2.2.1,v82.2.2.2.2.2.2.2.1,0,P.ends,v82.2.2.2.2.2.2.2.2.1,v82.2.2.2.2.2.2.2.2.2.1,v82.2.2.2.2.2.2.2.2.2.2.1,v82.2.2.2.2.2.2.2.2.2.2.2.1,v82.2.2.2.2.2.2.2.2.2.2.2.2.1,v82.2.2.2.2.2.2.2.2.2.2.2.2.2))
    else
     if 0≤(0:Int)∧(0:Int)<(l.length:Int) then
      if (decide ((qV rF l (0:Int)).2.1=([101,110,100]:pM)))=true then
       P.cm.bind fun O=>
       P.fl.bind fun Z=>
       if 0≤(1:Int)∧(1:Int)≤(l.length:Int)∧(l.length:Int)≤(l.length:Int) then
        (yY P.c P.pl P.id P.sc P.tg P.fg P.sv (P.ends,()) (s7 l (1:Int) (l.length:Int)) nx O Z P.seen P.ids).bind fun v88=>
        some ((v88.1,P.c.1,v88.2.1,v88.2.2.1,v88.2.2.2.1,v88.2.2.2.2.1,P.id,P.sc,P.tg,P.fg,P.sv,0,v88.2.2.2.2.2.1,P.ids,v88.2.2.2.2.2.2.1,(O.length),v88.2.2.2.2.2.2.2.1,v88.2.2.2.2.2.2.2.2,P.seen))
       else none
      else
       if 0≤(0:Int)∧(0:Int)<(l.length:Int) then
        B2 (FT ((qV rF l (0:Int)).2.1)) fun v89=>
        if ((z8 v89.1)||((decide (P.pl=(1:Int)))&&(!v89.2)))=true then
         some (((3:Int),P.c.1,P.c.2.1,P.c.2.2.1,P.c.2.2.2.1,P.pl,P.id,P.sc,P.tg,P.fg,P.sv,0,P.ends,P.ids,P.cm,P.n1,P.fl,P.n2,P.seen))
        else
         B2 v89.1 fun aA=>
         if aA=some 117 then
          P.cm.bind fun aB=>
          P.fl.bind fun aC=>
          if 0≤(1:Int)∧(1:Int)≤(l.length:Int)∧(l.length:Int)≤(l.length:Int) then
           (D2 P.c P.pl P.id P.sc P.tg P.fg P.sv (P.ends,()) (s7 l (1:Int) (l.length:Int)) aB aC P.seen P.ids).bind fun v93=>
           some ((v93.1,P.c.1,P.c.2.1,P.c.2.2.1,P.c.2.2.2.1,P.pl,P.id,P.sc,P.tg,P.fg,P.sv,v93.2.1,P.ends,P.ids,(some v93.2.2),(v93.2.2.length),(some aC),(aC.length),P.seen))
          else none
         else
         if aA=some 118 then
          P.cm.bind fun aD=>
          P.fl.bind fun aE=>
          if 0≤(1:Int)∧(1:Int)≤(l.length:Int)∧(l.length:Int)≤(l.length:Int) then
           (D6 P.c P.pl P.id P.sc P.tg P.fg P.sv (P.ends,()) (s7 l (1:Int) (l.length:Int)) aD aE P.seen P.ids).bind fun v96=>
           some ((v96.1,P.c.1,P.c.2.1,P.c.2.2.1,P.c.2.2.2.1,P.pl,P.id,P.sc,P.tg,P.fg,P.sv,v96.2.1,P.ends,P.ids,(some aD),(aD.length),(some v96.2.2),(v96.2.2.length),P.seen))
          else none
         else
         if aA=some 119 then
          P.cm.bind fun aF=>
          P.fl.bind fun aG=>
          if 0≤(1:Int)∧(1:Int)≤(l.length:Int)∧(l.length:Int)≤(l.length:Int) then
           (ER P.c P.pl P.id P.sc P.tg P.fg P.sv (P.ends,()) (s7 l (1:Int) (l.length:Int)) aF aG P.seen P.ids).bind fun v99=>
           some ((v99.1,P.c.1,P.c.2.1,P.c.2.2.1,P.c.2.2.2.1,P.pl,P.id,v99.2.1,P.tg,P.fg,P.sv,v99.2.2.1,P.ends,P.ids,(some aF),(aF.length),(some aG),(aG.length),v99.2.2.2))
          else none
         else
         if aA=some 120 then
          P.cm.bind fun aH=>
          P.fl.bind fun aI=>
          if 0≤(1:Int)∧(1:Int)≤(l.length:Int)∧(l.length:Int)≤(l.length:Int) then
           (ES P.c P.pl P.id P.sc P.tg P.fg P.sv (P.ends,()) (s7 l (1:Int) (l.length:Int)) aH aI P.seen P.ids).bind fun v102=>
           some ((v102.1,P.c.1,P.c.2.1,P.c.2.2.1,P.c.2.2.2.1,P.pl,P.id,P.sc,v102.2.1,P.fg,P.sv,v102.2.2.1,P.ends,P.ids,(some aH),(aH.length),(some aI),(aI.length),v102.2.2.2))
          else none
         else
         if aA=some 121 then
          P.cm.bind fun aJ=>
          P.fl.bind fun aK=>
          if 0≤(1:Int)∧(1:Int)≤(l.length:Int)∧(l.length:Int)≤(l.length:Int) then
           (FW P.c P.pl P.id P.sc P.tg P.fg P.sv (P.ends,()) (s7 l (1:Int) (l.length:Int)) aJ aK P.seen P.ids).bind fun v105=>
           some ((v105.1,P.c.1,P.c.2.1,P.c.2.2.1,P.c.2.2.2.1,P.pl,P.id,P.sc,P.tg,P.fg,v105.2.1,0,P.ends,P.ids,(some aJ),(aJ.length),(some aK),(aK.length),v105.2.2))
          else none
         else
         if aA=some 122 then
          P.cm.bind fun aL=>
          P.fl.bind fun aM=>
          if 0≤(1:Int)∧(1:Int)≤(l.length:Int)∧(l.length:Int)≤(l.length:Int) then
           (FU P.c P.pl P.id P.sc P.tg P.fg P.sv (P.ends,()) (s7 l (1:Int) (l.length:Int)) aL aM P.seen P.ids).bind fun v108=>
           some ((v108.1,P.c.1,P.c.2.1,P.c.2.2.1,P.c.2.2.2.1,P.pl,P.id,P.sc,P.tg,v108.2.1,P.sv,0,P.ends,P.ids,(some aL),(aL.length),(some aM),(aM.length),v108.2.2))
          else none
         else
          none
       else none
     else none
theorem aGR {s:St}(ho:s.op=false) (he:s.ends≠[]) (n:Int) {c:vS}(hc: ∀t,c≠.beg false t):(rJ s n c).1=3:=by
  cases c with
  |bad=>rfl
  |cont t=>rw[rJ,aTr (.inl ho)]
  | beg hd t=>
    cases hd with
    |true=>rw[rJ,aTr (.inr he)]
    |false=>exact absurd rfl (hc t)
  |com t=>rw[rJ,aTr ho]
  |src t=>rw[rJ,aTr (.inl ho)]
  |tgt t=>rw[rJ,aTr (.inl ho)]
  |sta v=>rw[rJ,aTr (.inl ho)]
  |fld m v=>rw[rJ,aTr ho]
  |flg l=>rw[rJ,aTr (.inl ho)]
  |fin=>rw[rJ,aTr ho]
theorem aGS {k:pM}{r:List Wd}{t:pM}(h:vA k r= .beg false t):k=G3∧tP r=some t:=by
  unfold vA at h
  have one: ∀(f:pM→vS),(∀x,f x≠.beg false t)→((tP r).map f).getD .bad≠.beg false t:=fun f hf=>by
    cases tP r with
    |none=>intro h;cases h
    |some x=>exact hf x
  split at h
  .exact absurd h (one _ fun x hx=>by cases hx)
  split at h
  · rename_i hk
    refine⟨hk,?_⟩;cases ho:tP r with
    |none=>rw[ho] at h;cases h
    |some x=>rw[ho] at h;cases h;rfl
  split at h
  .exact absurd h (one _ fun x hx=>by cases hx)
  split at h
  .exact absurd h (one _ fun x hx=>by cases hx)
  split at h
  .exact absurd h (one _ fun x hx=>by cases hx)
  split at h
  · cases hs:F2 r with
    |none=>rw[hs] at h;cases h
    |some v=>rw[hs] at h;cases h
  split at h
  · cases hs:F3 r with
    |none=>rw[hs] at h;cases h
    |some v=>rw[hs] at h;cases h
  split at h
  .split at h<;>cases h
  split at h
  .split at h<;>cases h
  cases h
theorem aGT (w:Wd) (r:List Wd) (hw:w.1=false):(((!decide (((w::r).length:Int)=(2:Int)))||(qV rF (w::r) (0:Int)).1)||(!((qV rF (w::r) (1:Int)).1)))= !(tP r).isSome:=by
  have h:=aOT w r;have h0:(qV rF (w::r) (0:Int)).1=false:=hw;rw[h0,←h];cases decide (((w::r).length:Int)=(2:Int))<;>cases(qV tW (w::r) (1:Int)).1<;>rfl
theorem aPr {s:St}(h:wT s) {P:Pg}(hr:DU s P) (ho:s.op=false) {w:Wd}{r:List Wd}(hw:w.1=false) {N:Nat}(hok: ∀x∈r,AR N x) (nx:Int):CA (MZ P (w::r) nx) (rJ s nx (vA w.2.1 r)):=by
  have he:s.ends≠[]:=by
    rcases hr.live with h1|h1
    .rw[ho] at h1;cases h1
    exact h1
  have hpl:P.pl=2:=by rw[hr.pl,ho,aTs pS,aTs he]
  have hes:=h.es.len;unfold MZ;rw[aTr (by rw[hpl];rfl)];unfold wQ;rw[aGT w r hw,hpl];have hne1: ¬((2:Int)=0):=by decide
  have hg1:(((!decide (((w::r).length:Int)=(2:Int)))==false)=true→0≤(0:Int)∧(0:Int)<((w::r).length:Int)):=fun _=>xT
  have hg2:((((!decide (((w::r).length:Int)=(2:Int)))||(qV rF (w::r) (0:Int)).1)==false)=true→0≤(1:Int)∧(1:Int)<((w::r).length:Int)):=fun hh=>by
    cases hd:decide (((w::r).length:Int)=(2:Int)) with
    |false=>rw[hd] at hh;cases hh
    |true=>have:=aT6 hd;omega
  rw[aTr hg1,aTr hg2];cases hone:tP r with
  | none=>
    rw[aTr qE,aTu]
    have h3:(rJ s nx (vA w.2.1 r)).1=3:=aGR ho he nx fun t hc=>by
      have:=(aGS hc).2;rw[hone] at this;cases this
    refine⟨_,rfl,h3.symm,fun h0=>?_⟩;rw[h3] at h0;cases h0
  | some t=>
    have htx:=aGA hok hone;have hrt:=P4 hone;subst hrt;have hn0:qV rF [w,(true,t,())] (0:Int)=w:=rfl;have hn1:qV rF [w,(true,t,())] (1:Int)=(true,t,()):=rfl;rw[aTs pS,aTr pS,hn0,hn1];rw[aTr (fun _=>xT),aTr (fun hh=>by simp at hh),aTs pS,aTr (fun _=>xT)];dsimp only;by_cases hk:w.2.1=G3
    · have hcmd:vA w.2.1 [(true,t,())]= .beg false t:=by rw[hk];exact(aGF (k:=[]) hone).2.1
      rw[hcmd,rJ,aTs (show¬(s.op=true∨s.ends=[]) by simp [ho,he])];by_cases h2:t=[]∨200<t.length
      · rw[aTr h2,aTs (by
          rcases h2 with h2|h2
          .subst h2;simp
          rw[decide_eq_false (show¬(t.length:Int)≤200 by omega)];simp),aTu]
        exact vD rfl rfl pR
      rw[aTs h2]
      have hids:sN .str .bool P.ids t=(s.c.2.2.2.1.any fun y=>decide (y.1=t)):=by rw[hr.ids t,ho];simp
      rw[not_or] at h2;rw[aTr (by rw[show decide (w.2.1=([101,110,116,114,121]:pM))=true from aT7 hk,decide_eq_false h2.1,aT7 (show (t.length:Int)≤200 by omega)];rfl),hids];by_cases h3:(s.c.2.2.2.1.any fun y=>decide (y.1=t))=true
      · rw[aTr h3,aTr h3,aTu]
        exact vD rfl rfl pR
      rw[aTs h3,aTs h3,hr.c]
      by_cases h4:1000≤s.c.2.2.2.1.length
      · rw[aTr h4,aTr pT,aTu]
        exact vD rfl rfl pR
      rw[aTs h4,aTs pT,aTu]
      refine G4 rfl rfl {c:=rfl,ends:=hr.ends,pl:= ?_,x:=fun _=>⟨rfl,rfl,rfl,rfl,rfl⟩,id:=fun _ _=>rfl,fl:=fun _=>⟨[],rfl,rfl,List.nodup_nil,fun h0=>absurd h0.symm vC.2.2.2.1⟩,ap:=MY.symm,seen:=fun _=>⟨rfl,rfl,rfl,rfl⟩,ids:=fun x=>?_,live:= .inl rfl}
      · show (3:Int)=if true=true then(if s.ends=[] then 1 else 3) else _
        rw[aTr rfl,aTs he]
      show sN .str .bool (sY .str .bool t true P.ids) x=((s.c.2.2.2.1.any fun y=>decide (y.1=x))||((true&&decide (s.ends≠[]))&&decide (t=x)))
      rw[x9,hr.ids x,ho,aT7 he];by_cases hx:x=t
      .subst hx;simp
      rw[aTs hx,show decide (t=x)=false from decide_eq_false (fun e=>hx e.symm)];simp
    rw[aTs (by rw[show decide (w.2.1=([101,110,116,114,121]:pM))=false from decide_eq_false hk];simp),aTu]
    have h3:(rJ s nx (vA w.2.1 [(true,t,())])).1=3:=aGR ho he nx fun t hc=>hk (aGS hc).1;refine⟨_,rfl,h3.symm,fun h0=>?_⟩;rw[h3] at h0;cases h0
theorem aPs {s:St}(ho:s.op=true) (n:Int) {k:pM}{r:List Wd}(h1:k≠vN) (h2:k≠u1) (h3:k≠u6) (h4:k≠xA) (h5:k≠wB) (h6:k≠MX) (h7:k≠wI):(rJ s n (vA k r)).1=3:=by
  unfold vA;split
  · cases tP r with
    |none=>rfl
    |some t=>show (rJ s n (.beg true t)).1=3;rw[rJ,aTr (.inl ho)]
  split
  · cases tP r with
    |none=>rfl
    |some t=>show (rJ s n (.beg false t)).1=3;rw[rJ,aTr (.inl ho)]
  first|rfl|(rw[aTs h1,aTs h2,aTs h3,aTs h4,aTs h5,aTs h6,aTs h7];rfl)
theorem aGU (r:List Wd):vA vN r=((tP r).map vS.com).getD .bad∧vA u1 r=((tP r).map vS.src).getD .bad∧vA u6 r=((tP r).map vS.tgt).getD .bad∧vA xA r=((F2 r).map vS.sta).getD .bad∧
    vA wB r=((F3 r).map fun q=>vS.fld q.1 q.2).getD .bad∧vA MX r=(if r=[] then .fin else .bad)∧vA wI r=(if r=[]∨(r.any F4)=true then .bad else .flg (t7 r)):=by
  refine⟨?_,?_,?_,?_,?_,?_,?_⟩<;>unfold vA
  .rw[aTs pR,aTs pR,aTr rfl]
  .rw[aTs pR,aTs pR,aTs pR,aTr rfl]
  .rw[aTs pR,aTs pR,aTs pR,aTs pR,aTr rfl]
  .rw[aTs pR,aTs pR,aTs pR,aTs pR,aTs pR,aTr rfl]
  .rw[aTs pR,aTs pR,aTs pR,aTs pR,aTs pR,aTs pR,aTr rfl]
  .rw[aTs pR,aTs pR,aTs pR,aTs pR,aTs pR,aTs pR,aTs pR,aTr rfl]
  rw[aTs pR,aTs pR,aTs pR,aTs pR,aTs pR,aTs pR,aTs pR,aTs pR,aTr rfl]
theorem G5 (w:Wd) (r:List Wd):s7 (w::r) (1:Int) ((w::r).length:Int)=r:=(P1 (k:=1)).trans rfl
theorem G6 {w:Wd}{r:List Wd}:0≤(1:Int)∧(1:Int)≤((w::r).length:Int)∧((w::r).length:Int)≤((w::r).length:Int):=⟨pR,by simp only[aTx];omega,aUL _⟩
section
variable {s:St}(h:wT s) {P:Pg}(hr:DU s P) (ho:s.op=true) {w:Wd}{r:List Wd}(hw:w.1=false) (hl:r.length≤1100000000) (nx:Int)
include h hr ho
theorem a8y:P.pl=if s.ends=[] then 1 else 3:=by rw[hr.pl,aTr ho]
theorem aGV:decide (P.pl=(1:Int))=decide (s.ends=[]):=by
  rw[a8y h hr ho];by_cases he:s.ends=[]<;>simp [he]
theorem aPt (hk:w.2.1=MX):CA (MZ P (w::r) nx) (rJ s nx (vA w.2.1 r)):=by
  obtain⟨x1,x2,x3,x4,x5⟩:=hr.x ho;obtain⟨fl,f1,f2,f3,f4⟩:=hr.fl ho;have hes:=h.es.len;have hel:=aGC h
  have hfl:fl.length≤20:=by
    have:=(P7 fl f3).length_eq;rw[f2] at this;have:=aGB h.fd;omega
  unfold MZ;rw[aTs (by rw[a8y h hr ho];split<;>decide),aTr xT,show qV rF (w::r) (0:Int)=w from rfl,aTr (by rw[hk];rfl),x5,f1,aTu,aTu,aTr G6,G5,hk,(aGU r).2.2.2.2.2.1]
  unfold yY;cases hrr:r with
  | cons a t=>
    rw[aTr (by simp only[aTN,aTx];omega),aTs pS];exact vD rfl rfl pR
  | nil=>
    rw[aTs pS,aTr rfl,aPg f3 pQ,aTu,aGV h hr ho,f2,rJ,aTs (show¬s.op=false by rw[ho];simp)];rw[hr.ends,hr.c,x1,x2,x3,x4];by_cases he:s.ends=[]
    · rw[aTr (aT7 he),aTr he]
      unfold uM;rw[aTu];dsimp only;rw[aTr (by simp only[aTx,aTI];omega),aTu];refine G4 rfl rfl {c:=rfl,ends:=rfl,pl:= ?_,x:=fun h0=>(by cases h0),id:=fun h0=>(by cases h0),fl:=fun h0=>(by cases h0),ap:=MY.symm,seen:=fun h0=>(by cases h0),ids:=fun x=>?_,live:= .inr (by simp [tJ])}
      · show (2:Int)=if false=true then _ else(if s.ends++[nx]=[] then 0 else 2)
        rw[aTs pS,aTs pS]
      show sN .str .bool P.ids x=((s.c.2.2.2.1.any fun y=>decide (y.1=x))||((false&&decide (s.ends++[nx]≠[]))&&decide (([]:pM)=x)))
      rw[hr.ids x,decide_eq_false (show¬s.ends≠[] by simpa using he)];simp
    rw[aTs (by simpa using he),aTs he,hr.id ho he,aTr (by simp only[aTx,aTI];omega)]
    unfold uM;rw[aTu];dsimp only;rw[aTr (by simp only[aTx,aTI];omega),aTu];refine G4 rfl rfl {c:=rfl,ends:=rfl,pl:= ?_,x:=fun h0=>(by cases h0),id:=fun h0=>(by cases h0),fl:=fun h0=>(by cases h0),ap:=MY.symm,seen:=fun h0=>(by cases h0),ids:=fun x=>?_,live:= .inr (by simp [tJ])}
    · show (2:Int)=if false=true then _ else(if s.ends++[nx]=[] then 0 else 2)
      rw[aTs pS,aTs pS]
    show sN .str .bool P.ids x=(((s.c.2.2.2.1++[s.x]).any fun y=>decide (y.1=x))||((false&&decide (s.ends++[nx]≠[]))&&decide (([]:pM)=x)))
    rw[hr.ids x,List.any_append,ho,aT7 he];simp
end
end
noncomputable section
section
variable {s:St}(h:wT s) {P:Pg}(hr:DU s P) (ho:s.op=true) {w:Wd}{r:List Wd}(hw:w.1=false) (hl:r.length≤1100000000) (nx:Int)
include h hr ho
theorem P8 {s':St}{P':Pg}(k1:s'.c=s.c) (k2:s'.ends=s.ends) (k3:s'.id=s.id) (k4:s'.op=s.op) (p1:P'.c=P.c) (p2:P'.ends=P.ends) (p3:P'.id=P.id) (p4:P'.pl=P.pl) (p5:P'.ids=P.ids)
    (hx:P'.sc=s'.sc∧P'.tg=s'.tg∧P'.fg=s'.fg∧P'.sv=s'.sv∧P'.cm=some s'.cm) (hf: ∃l,P'.fl=some l∧F6 l=s'.fd∧(l.map (·.1)).Nodup∧(s'.last=wB→∃l' v,l=l'++[(s'.name,v,())]))
    (ha:P'.ap=K1 s'.last) (hs:sN .str .bool P'.seen u1=s'.bs∧sN .str .bool P'.seen u6=s'.bt∧sN .str .bool P'.seen xA=s'.bh∧sN .str .bool P'.seen wI=s'.bf):DU s' P':=
  {c:=by rw[p1,k1];exact hr.c,ends:=by rw[p2,k2];exact hr.ends,pl:=by rw[p4,k4,k2];exact hr.pl,x:=fun _=>hx,id:=fun _ he=>by rw[p3,k3];exact hr.id ho (by rw[←k2];exact he),fl:=fun _=>hf,ap:=ha,seen:=fun _=>hs,ids:=fun t=>by rw[p5,k1,k2,k3,k4];exact hr.ids t,live:= .inl (k4.trans ho)}
include hl in
theorem aPu:CA (MZ P (w::r) nx) (rJ s nx (vA w.2.1 r)):=by
  by_cases hkE:w.2.1=MX
  .exact aPt h hr ho nx hkE
  obtain⟨x1,x2,x3,x4,x5⟩:=hr.x ho;obtain⟨fl,f1,f2,f3,f4⟩:=hr.fl ho;obtain⟨s1,s2,s3,s4⟩:=hr.seen ho;have hcm:=aOZ h.cm;have hperm:=P7 fl f3;rw[f2] at hperm
  have hfl:fl.length≤20:=by
    have:=hperm.length_eq;have:=aGB h.fd;omega
  obtain⟨c1,c2,c3,c4,c5,c6,c7⟩:=aGU r;unfold MZ;rw[aTs (by rw[a8y h hr ho];split<;>decide),aTr xT,show qV rF (w::r) (0:Int)=w from rfl,show decide (w.2.1=([101,110,100]:pM))=false from decide_eq_false hkE,aTs pS,aTr xT,aPq]
  unfold B2;by_cases h1:w.2.1=vN
  · rw[aTr h1]
    dsimp only;rw[aTs (by simp [z8]),aTr rfl,x5,f1,aTu,aTu,aTr G6,G5,aPl _ _ _ _ _ _ _ _ _ _ _ _ _ hcm,aTu,h1,c1];cases hone:tP r with
    |none=>exact vD rfl rfl pR
    | some t=>
      show CA _ (rJ s nx (.com t));rw[rJ,aTs (show¬s.op=false by rw[ho];simp)];dsimp only;by_cases h20:s.cm.length=20
      · rw[aTr h20,aTr (show 20≤s.cm.length by omega)]
        exact vD rfl rfl pR
      rw[aTs h20,aTs (show¬20≤s.cm.length by omega)]
      exact G4 rfl rfl (P8 h hr ho rfl rfl rfl rfl rfl rfl rfl rfl rfl ⟨x1,x2,x3,x4,rfl⟩ ⟨fl,rfl,f2,f3,fun h0=>absurd h0 vC.2.2.2.2.2.2.2.1⟩ SK.symm ⟨s1,s2,s3,s4⟩)
  rw[aTs h1];by_cases h2:w.2.1=wB
  · rw[aTr h2]
    dsimp only;rw[aTs (by simp [z8]),aTs pS,aTr rfl,x5,f1,aTu,aTu,aTr G6,G5,aPn _ _ _ _ _ _ _ _ _ _ _ _ _ hfl,aTu,h2,c5];cases hq:F3 r with
    |none=>exact vD rfl rfl pR
    | some q=>
      show CA _ (rJ s nx (.fld q.1 q.2));rw[rJ,aTs (show¬s.op=false by rw[ho];simp),←SJ hperm.symm q.1];dsimp only;by_cases h3:(fl.any fun y=>decide (y.1=q.1))=true
      · rw[aTr h3,aTr h3]
        exact vD rfl rfl pR
      rw[aTs h3,aTs h3]
      have hle:=hperm.length_eq;by_cases h20:fl.length=20
      · rw[aTr h20,aTr (show 20≤s.fd.length by omega)]
        exact vD rfl rfl pR
      rw[aTs h20,aTs (show¬20≤s.fd.length by omega)]
      refine G4 rfl rfl (P8 h hr ho rfl rfl rfl rfl rfl rfl rfl rfl rfl ⟨x1,x2,x3,x4,rfl⟩ ⟨fl++[(q.1,q.2,())],rfl,?_,P6.2 ⟨f3,by cases hb:(fl.any fun y=>decide (y.1=q.1)) with|false=>rfl|true=>exact absurd hb h3⟩,fun _=>⟨fl,q.2,rfl⟩⟩ SN.symm ⟨s1,s2,s3,s4⟩)
      rw[P5,f2]
  rw[aTs h2];have hhead: ∀(o:pZ),((z8 o)||((decide (P.pl=(1:Int)))&&(!false)))=((z8 o)||decide (s.ends=[])):=fun o=>by rw[aGV h hr ho];simp
  by_cases h3:w.2.1=wI
  · rw[aTr h3]
    dsimp only;rw[hhead,h3,c7];by_cases he:s.ends=[]
    · rw[aTr (by simp [he])]
      split
      .exact vD rfl rfl pR
      rw[rJ,aTr (.inr he)]
      exact vD rfl rfl pR
    rw[aTs (by simp [z8,he]),aTs pS,aTs pS,aTs pS,aTs pS,aTs pS,aTr rfl,x5,f1,aTu,aTu,aTr G6,G5,aPp _ _ _ _ _ _ _ _ _ _ _ _ _ hl,aTu]
    by_cases h5:r=[]∨(r.any F4)=true
    · rw[aTr h5,aTr h5]
      exact vD rfl rfl pR
    rw[aTs h5,aTs h5,rJ,aTs (show¬(s.op=false∨s.ends=[]) by simp [ho,he]),s4]
    by_cases h6:s.bf=true∨BL (t7 r)=true
    · rw[aTr h6,aTr h6]
      exact vD rfl rfl pR
    rw[aTs h6,aTs h6]
    by_cases h7:20<(t7 r).length
    · rw[aTr h7,aTr h7]
      exact vD rfl rfl pR
    rw[aTs h7,aTs h7]
    refine G4 rfl rfl (P8 h hr ho rfl rfl rfl rfl rfl rfl rfl rfl rfl ⟨x1,x2,rfl,x4,rfl⟩ ⟨fl,rfl,f2,f3,fun h0=>absurd h0.symm vC.2.2.2.1⟩ MY.symm ⟨?_,?_,?_,?_⟩)
    · show sN .str .bool (sY .str .bool wI true P.seen) u1=s.bs
      rw[x9,aTs pR];exact s1
    · show sN .str .bool (sY .str .bool wI true P.seen) u6=s.bt
      rw[x9,aTs pR];exact s2
    · show sN .str .bool (sY .str .bool wI true P.seen) xA=s.bh
      rw[x9,aTs pR];exact s3
    show sN .str .bool (sY .str .bool wI true P.seen) wI=true
    rw[x9,aTr rfl]
  rw[aTs h3];by_cases h4:w.2.1=xA
  · rw[aTr h4]
    dsimp only;rw[hhead,h4,c4];cases hv:F2 r with
    | none=>
      by_cases he:s.ends=[]
      · rw[aTr (by simp [he])]
        exact vD rfl rfl pR
      · rw[aTs (by simp [z8,he]),aTs pS,aTs pS,aTs pS,aTs pS,aTr rfl,x5,f1,aTu,aTu,aTr G6,G5,aGP,aTu,hv]
        exact vD rfl rfl pR
    | some v=>
      show CA _ (rJ s nx (.sta v));by_cases he:s.ends=[]
      · rw[aTr (by simp [he]),rJ,aTr (.inr he)]
        exact vD rfl rfl pR
      rw[aTs (by simp [z8,he]),aTs pS,aTs pS,aTs pS,aTs pS,aTr rfl,x5,f1,aTu,aTu,aTr G6,G5,aGP,aTu,hv,rJ,aTs (show¬(s.op=false∨s.ends=[]) by simp [ho,he])]
      dsimp only;rw[s3];by_cases h6:s.bh=true
      · rw[aTr h6,aTr h6]
        exact vD rfl rfl pR
      rw[aTs h6,aTs h6]
      refine G4 rfl rfl (P8 h hr ho rfl rfl rfl rfl rfl rfl rfl rfl rfl ⟨x1,x2,x3,rfl,rfl⟩ ⟨fl,rfl,f2,f3,fun h0=>absurd h0.symm vC.2.2.2.1⟩ MY.symm ⟨?_,?_,?_,?_⟩)
      · show sN .str .bool (sY .str .bool xA true P.seen) u1=s.bs
        rw[x9,aTs pR];exact s1
      · show sN .str .bool (sY .str .bool xA true P.seen) u6=s.bt
        rw[x9,aTs pR];exact s2
      · show sN .str .bool (sY .str .bool xA true P.seen) xA=true
        rw[x9,aTr rfl]
      show sN .str .bool (sY .str .bool xA true P.seen) wI=s.bf
      rw[x9,aTs pR];exact s4
  rw[aTs h4];by_cases h5:w.2.1=u6
  · rw[aTr h5]
    dsimp only;rw[hhead,h5,c3];cases hv:tP r with
    | none=>
      by_cases he:s.ends=[]
      · rw[aTr (by simp [he])]
        exact vD rfl rfl pR
      · rw[aTs (by simp [z8,he]),aTs pS,aTs pS,aTs pS,aTr rfl,x5,f1,aTu,aTu,aTr G6,G5,aGO,aTu,hv]
        exact vD rfl rfl pR
    | some t=>
      show CA _ (rJ s nx (.tgt t));by_cases he:s.ends=[]
      · rw[aTr (by simp [he]),rJ,aTr (.inr he)]
        exact vD rfl rfl pR
      rw[aTs (by simp [z8,he]),aTs pS,aTs pS,aTs pS,aTr rfl,x5,f1,aTu,aTu,aTr G6,G5,aGO,aTu,hv,rJ,aTs (show¬(s.op=false∨s.ends=[]) by simp [ho,he])]
      dsimp only;rw[s2];by_cases h6:s.bt=true
      · rw[aTr h6,aTr h6]
        exact vD rfl rfl pR
      rw[aTs h6,aTs h6]
      refine G4 rfl rfl (P8 h hr ho rfl rfl rfl rfl rfl rfl rfl rfl rfl ⟨x1,rfl,x3,x4,rfl⟩ ⟨fl,rfl,f2,f3,fun h0=>absurd h0 vC.2.2.2.2.2.2.2.2.2⟩ SM.symm ⟨?_,?_,?_,?_⟩)
      · show sN .str .bool (sY .str .bool u6 true P.seen) u1=s.bs
        rw[x9,aTs pR];exact s1
      · show sN .str .bool (sY .str .bool u6 true P.seen) u6=true
        rw[x9,aTr rfl]
      · show sN .str .bool (sY .str .bool u6 true P.seen) xA=s.bh
        rw[x9,aTs pR];exact s3
      show sN .str .bool (sY .str .bool u6 true P.seen) wI=s.bf
      rw[x9,aTs pR];exact s4
  rw[aTs h5];by_cases h6:w.2.1=u1
  · rw[aTr h6]
    dsimp only;rw[hhead,h6,c2];cases hv:tP r with
    | none=>
      by_cases he:s.ends=[]
      · rw[aTr (by simp [he])]
        exact vD rfl rfl pR
      · rw[aTs (by simp [z8,he]),aTs pS,aTs pS,aTr rfl,x5,f1,aTu,aTu,aTr G6,G5,aGN,aTu,hv]
        exact vD rfl rfl pR
    | some t=>
      show CA _ (rJ s nx (.src t));by_cases he:s.ends=[]
      · rw[aTr (by simp [he]),rJ,aTr (.inr he)]
        exact vD rfl rfl pR
      rw[aTs (by simp [z8,he]),aTs pS,aTs pS,aTr rfl,x5,f1,aTu,aTu,aTr G6,G5,aGN,aTu,hv,rJ,aTs (show¬(s.op=false∨s.ends=[]) by simp [ho,he])]
      dsimp only;rw[s1];by_cases h6:s.bs=true
      · rw[aTr h6,aTr h6]
        exact vD rfl rfl pR
      rw[aTs h6,aTs h6]
      refine G4 rfl rfl (P8 h hr ho rfl rfl rfl rfl rfl rfl rfl rfl rfl ⟨rfl,x2,x3,x4,rfl⟩ ⟨fl,rfl,f2,f3,fun h0=>absurd h0 vC.2.2.2.2.2.2.2.2.1⟩ SL.symm ⟨?_,?_,?_,?_⟩)
      · show sN .str .bool (sY .str .bool u1 true P.seen) u1=true
        rw[x9,aTr rfl]
      · show sN .str .bool (sY .str .bool u1 true P.seen) u6=s.bt
        rw[x9,aTs pR];exact s2
      · show sN .str .bool (sY .str .bool u1 true P.seen) xA=s.bh
        rw[x9,aTs pR];exact s3
      show sN .str .bool (sY .str .bool u1 true P.seen) wI=s.bf
      rw[x9,aTs pR];exact s4
  rw[aTs h6];have h3:(rJ s nx (vA w.2.1 r)).1=3:=aPs ho nx h1 h6 h5 h4 h2 hkE h3;dsimp only;rw[aTr (by simp [z8])];refine⟨_,rfl,h3.symm,fun h0=>?_⟩;rw[h3] at h0;cases h0
end
theorem aPv {s:St}(h:wT s) {P:Pg}(hr:DU s P) {line:pM}(hl:line.length≤1100000000) (hf:AS line=false) (nx:Int):
    CA (uN P.c P.pl P.id P.sc P.tg P.fg P.sv P.ap (P.ends,()) line nx P.cm P.n1 P.fl P.n2 P.seen P.ids) (tB s line nx):=by
  obtain⟨v,hv,hm⟩:=aGw hl;unfold tB;rw[hf,aTs pS];unfold uN;rw[hv,aTu];cases hw:G2 line with
  | none=>
    rw[hw] at hm;have hm:v.2=false:=hm;rw[aTr (by rw[hm];rfl)];exact vD rfl rfl pR
  | some l=>
    rw[hw] at hm;have hm:v=(l,true):=hm;subst hm
    have hnel:line.dropWhile tO≠[]:=fun e=>by
      unfold AS at hf;rw[e] at hf;cases hf
    have hne:=aGx _ _ _ hw hnel;have hok:=YL _ _ _ hw;obtain⟨hs1,hs2⟩:=SG _ _ _ hw;cases l with
    |nil=>exact absurd rfl hne
    | cons w r=>
      have hr': ∀x∈r,AR line.length x:=fun x hx=>hok x (aTB _ hx);rw[aTs pS,aTr xT];dsimp only;rw[show qV rF (w::r) (0:Int)=w from rfl];by_cases hq:w.1=true
      · rw[aTr hq]
        have hany:((w::r).any fun x=> !x.1)=r.any fun x=> !x.1:=by rw[List.any_cons,hq];rfl
        have:=aPj h hr (l:=w::r) pQ pQ nx;rw[hany] at this;show CA (a8x P (w::r)) (rJ s nx (z7 (w::r)));unfold z7;dsimp only;rw[aTr hq];by_cases ha:(r.any fun x=> !x.1)=true
        .rw[aTr ha] at this|-;exact this
        rw[aTs ha] at this|-;exact this
      rw[aTs hq]
      have hq:w.1=false:=by simpa using hq
      show CA (MZ P (w::r) nx) (rJ s nx (z7 (w::r)));have hcmd:z7 (w::r)=vA w.2.1 r:=by unfold z7;dsimp only;rw[aTs (by rw[hq];simp)]
      rw[hcmd];cases ho:s.op with
      |false=>exact aPr h hr ho hq hr' nx
      |true=>exact aPu h hr ho (r:=r) (w:=w) (by simp only[aTx] at hs2;omega) nx
end
noncomputable section
theorem aPw {α β:Type}(o:Option α):(o.bind fun _=>(none:Option β))=none:=by cases o<;>rfl
theorem aGW (s:pM):FO s [10]=Lib.indexByte s 10:=Lib.index_one s 10
theorem aGX: ∀(l:pM),Lib.indexByte l 10<0→∀b∈l,b≠10
  |[],_,b,hb=>by cases hb
  | c::l,h,b,hb=>by
    rw[Lib.indexByte] at h;split at h
    .omega
    rename_i hc
    have hc:c≠10:=by simpa using hc
    rcases aTE.1 hb with rfl|hb
    .exact hc
    refine aGX l ?_ b hb
    have:=O2 l 10;split at h
    · rename_i h1
      simp only[aU7] at h1;omega
    omega
theorem aGY: ∀(l:pM),0≤Lib.indexByte l 10→(l.take ((Lib.indexByte l 10).toNat+1)).getLast? =some 10∧(l.take ((Lib.indexByte l 10).toNat+1)).dropLast=l.take (Lib.indexByte l 10).toNat
  |[],h=>by simp [Lib.indexByte] at h
  | c::l,h=>by
    by_cases hc:c=10
    · subst hc
      have e:Lib.indexByte ((10:UInt8)::l) 10=0:=by rw[Lib.indexByte];rfl
      rw[e];exact⟨rfl,rfl⟩
    have hlt:=O2 l 10
    have e:Lib.indexByte (c::l) 10=Lib.indexByte l 10+1∧0≤Lib.indexByte l 10:=by
      rw[Lib.indexByte,aTs (by simpa using hc)] at h|-;split at h
      .omega
      rename_i h1
      simp only[aU7] at h1;rw[aTs (by simpa using h1)];exact⟨rfl,pQ⟩
    obtain⟨h1,h2⟩:=aGY l e.2;have e2:(Lib.indexByte (c::l) 10).toNat=(Lib.indexByte l 10).toNat+1:=by rw[e.1];omega
    rw[e2,List.take_succ_cons,List.take_succ_cons];have hne:l.take ((Lib.indexByte l 10).toNat+1)≠[]:=fun h0=>by rw[h0] at h1;cases h1
    refine⟨?_,?_⟩
    .rw[List.getLast?_cons,h1];rfl
    rw[List.dropLast_cons_of_ne_nil hne,h2]
theorem aPx {s:pM}(hs:s.length≤1100000000): ∃t,D0 s [10]=some t∧t.1=if 0≤Lib.indexByte s 10 then s.take (Lib.indexByte s 10).toNat else s:=by
  have hi:=aGW s;have hr:=O2 s 10;unfold D0 JJ;rw[hi,aTr pQ];by_cases h:0≤Lib.indexByte s 10
  · rw[aTr (aT7 h),aTr ⟨pQ,h,pQ⟩,aTr (by simp;unfold qP;omega),aTr ⟨by simp;omega,by simp;omega,aUL _⟩,aTr h]
    refine⟨_,rfl,?_⟩;show s7 s 0 (Lib.indexByte s 10)=_;unfold s7;simp
  rw[aTs (by simpa using h),aTs h];exact⟨_,rfl,rfl⟩
theorem aGZ {s:pM}(hs:s.length≤1100000000) {a:Nat}(ha:a<s.length): ∃t,D0 (s7 s (a:Int) (s.length:Int)) [10]=some t∧t.1=tM (F5 s a)∧min (s.length:Int) (((a:Int)+(t.1.length:Int))+1)=(tG s a:Nat)∧t.1.length≤s.length-a:=by
  rw[P1];obtain⟨t,h1,h2⟩:=aPx (s:=s.drop a) (by rw[aT2];omega);refine⟨t,h1,?_⟩;have hr:=O2 (s.drop a) 10;rw[aT2] at hr;have hto:=SI ha;by_cases h:0≤Lib.indexByte (s.drop a) 10
  · rw[aTr h] at h2
    have hlt:tG s a=a+(Lib.indexByte (s.drop a) 10).toNat+1:=aTr h;have hla:F5 s a=(s.drop a).take ((Lib.indexByte (s.drop a) 10).toNat+1):=by unfold F5;rw[hlt];congr 1;omega
    obtain⟨g1,g2⟩:=aGY _ h;have hlen:t.1.length=(Lib.indexByte (s.drop a) 10).toNat:=by rw[h2,aUg,aT2];omega
    refine⟨?_,?_,?_⟩
    · unfold tM
      rw[hla,aTr g1,g2,h2]
    .rw[hlen,hlt,Int.min_eq_right pQ];omega
    omega
  rw[aTs h] at h2
  have hlt:tG s a=s.length:=aTs h;have hla:F5 s a=s.drop a:=by unfold F5;rw[hlt];exact List.take_of_length_le (by rw[aT2];omega)
  have hlen:t.1.length=s.length-a:=by rw[h2,aT2]
  refine⟨?_,?_,pQ⟩
  · unfold tM
    rw[hla,aTs (fun hg=>aGX (s.drop a) pQ 10 (List.mem_of_getLast? hg) rfl),h2]
  rw[hlen,hlt,Int.min_eq_left pQ]
theorem aG0 (s:pM):HF s=some ()∧(!((decide ((Lib.trimLeftS s ([32,9]:pM))=([]:pM)))||(decide ((sX (Lib.trimLeftS s ([32,9]:pM)) (0:Int))=(35:Int)))))= !AS s:=by
  unfold HF AS;rw[aOL];cases h:s.dropWhile tO with
  |nil=>exact⟨aTr (fun hh=>by simp at hh),rfl⟩
  | cons b t=>
    refine⟨aTr (fun _=>xT),?_⟩;rw[show sX (b::t) 0=(b.toNat:Int) from rfl,DB (n:=35) 35 rfl];simp
theorem aG1 (w:Wd) (r:List Wd) (hw:w.1=false):(((!decide (((w::r).length:Int)=(2:Int)))||(qV rF (w::r) (0:Int)).1)||(!((qV rF (w::r) (1:Int)).1)))= !(tP r).isSome:=aGT w r hw
theorem aG2 (w:Wd) (r:List Wd):((((!decide (((w::r).length:Int)=(2:Int)))||(qV rF (w::r) (0:Int)).1)==false)=true→0≤(1:Int)∧(1:Int)<((w::r).length:Int)):=fun hh=>by
  cases hd:decide (((w::r).length:Int)=(2:Int)) with
  |false=>rw[hd] at hh;cases hh
  |true=>have:=aT6 hd;omega
abbrev c0:sK:=(([]:pM),(([]:pN),(([]:List r7),(([]:List tA),()))))
abbrev SO (line:pM) (nx:Int):=zN c0 (0:Int) ([]:pM) ([]:pM) ([]:pM) ([]:pN) (0:Int) (([]:pW),()) line nx (some ([]:pN)) 0 (some ([]:List r7)) 0 ([]:pU)
abbrev L0b (line:pM) (nx:Int):=G0 c0 (0:Int) ([]:pM) ([]:pM) ([]:pM) ([]:pN) (0:Int) (([]:pW),()) line nx (some ([]:pN)) 0 (some ([]:List r7)) 0 ([]:pU)
theorem a8A (nx:Int) {c:vS}(hc: ∀t,c≠.beg true t):(rJ t8 nx c).1=3:=by
  cases c with
  |bad=>rfl
  | beg hd t=>
    cases hd with
    |true=>exact absurd rfl (hc t)
    |false=>rfl
  |cont t=>rfl
  |com t=>rfl
  |src t=>rfl
  |tgt t=>rfl
  |sta v=>rfl
  |fld m v=>rfl
  |flg l=>rfl
  |fin=>rfl
theorem aG3 {k:pM}{r:List Wd}{t:pM}(h:vA k r= .beg true t):k=DC∧tP r=some t:=by
  unfold vA at h
  have one: ∀(f:pM→vS),(∀x,f x≠.beg true t)→((tP r).map f).getD .bad≠.beg true t:=fun f hf=>by
    cases tP r with
    |none=>intro h;cases h
    |some x=>exact hf x
  split at h
  · rename_i hk
    refine⟨hk,?_⟩;cases ho:tP r with
    |none=>rw[ho] at h;cases h
    |some x=>rw[ho] at h;cases h;rfl
  split at h
  .exact absurd h (one _ fun x hx=>by cases hx)
  split at h
  .exact absurd h (one _ fun x hx=>by cases hx)
  split at h
  .exact absurd h (one _ fun x hx=>by cases hx)
  split at h
  .exact absurd h (one _ fun x hx=>by cases hx)
  split at h
  · cases hs:F2 r with
    |none=>rw[hs] at h;cases h
    |some v=>rw[hs] at h;cases h
  split at h
  · cases hs:F3 r with
    |none=>rw[hs] at h;cases h
    |some v=>rw[hs] at h;cases h
  split at h
  .split at h<;>cases h
  split at h
  .split at h<;>cases h
  cases h
theorem aG4 {l:List Wd}(hl:l.length≤1100000000): ∀(n i:Nat) (a:pM),i+n=l.length→a.length+(t7 (l.drop i)).flatten.length≤9000000000000000000→
    ∃q,sF (ME l) (a,(i:Int))=some q∧(q= .inr 3∨∃z,q= .inl z)
  | 0,i,a,hi,_=>by
    have:i=l.length:=by omega
    subst this;rw[uO];unfold ME;dsimp only;rw[aTs (A7 _)];exact⟨_,rfl,.inr ⟨_,rfl⟩⟩
  | n+1,i,a,hi,hb=>by
    have hlt:i<l.length:=by omega
    have h2:(t7 (l.drop i)).flatten=l[i].2.1++(t7 (l.drop (i+1))).flatten:=by
      unfold t7;rw[aUa hlt,aUt,aUd]
    rw[h2,aTt] at hb;rw[uO];generalize hF:sF (ME l)=F;unfold ME;dsimp only;rw[aTr (wR hlt),aTr (vB hlt),SF hlt];cases hq:l[i].1 with
    |false=>exact⟨_,rfl,.inl rfl⟩
    | true=>
      rw[aTs pS,aTr (by rw[aTt];omega),aTr (yE pQ),aTu];dsimp only;rw[←hF,show ((i:Int)+1)=((i+1:Nat):Int) by omega];exact aG4 hl n (i+1) _ pQ (by rw[aTt];omega)
def K3 (w:Wd) (r:List Wd):Option pM:=match tP r with
  |some t=>if w.2.1=DC∧xP t=true then some t else none
  |none=>none
theorem aG5 {w:Wd}{r:List Wd}(hq:w.1=false):B8 c0 (0:Int) ([]:pM) ([]:pM) ([]:pM) ([]:pN) (0:Int) (([]:pW),()) (w::r) (some ([]:pN)) 0 (some ([]:List r7)) 0 ([]:pU)=(K3 w r).map fun t=>(t,1,[],[]):=by
  unfold B8 K3;rw[aG1 w r hq,aTr (fun _=>xT),aTr (aG2 w r)];cases hone:tP r with
  |none=>rfl
  | some t=>
    have hrt:=P4 hone;subst hrt;have hn0:qV rF [w,(true,t,())] (0:Int)=w:=rfl;have hn1:qV rF [w,(true,t,())] (1:Int)=(true,t,()):=rfl;have hp1:0≤(1:Int)∧(1:Int)<(List.length [w,(true,t,())]:Int):=by simp
    rw[hn0,hn1,a78];dsimp only;rw[aTs (show¬(!(some t).isSome)=true by simp),aTr hp1,aTr (fun _=>xT),aTr (fun _=>Option.isSome_some),show decide ((0:Int)=0)=true from rfl,Bool.true_and,show val (some (xP t))=xP t from rfl];by_cases hc:w.2.1=DC∧xP t=true
    · rw[aTr hc,show decide (w.2.1=([99,97,116,97,108,111,103]:pM))=true from aT7 hc.1,hc.2]
      rfl
    rw[aTs hc,aTs (by
      simp only[aTL,aTN];exact hc)]
    rfl
theorem aG6 {w:Wd}{r:List Wd}(hq:w.1=false):JQ c0 (0:Int) ([]:pM) ([]:pM) ([]:pM) ([]:pN) (0:Int) (([]:pW),()) (w::r) (some ([]:pN)) 0 (some ([]:List r7)) 0 ([]:pU)=match K3 w r with|some _=>none|none=>some 3:=by
  unfold JQ K3;rw[aG1 w r hq,aTr (fun _=>xT),aTr (aG2 w r)];cases hone:tP r with
  |none=>rfl
  | some t=>
    have hrt:=P4 hone;subst hrt;have hn0:qV rF [w,(true,t,())] (0:Int)=w:=rfl;have hn1:qV rF [w,(true,t,())] (1:Int)=(true,t,()):=rfl;have hp1:0≤(1:Int)∧(1:Int)<(List.length [w,(true,t,())]:Int):=by simp
    rw[hn0,hn1,a78];dsimp only;rw[aTs (show¬(!(some t).isSome)=true by simp),aTr hp1,aTr (fun _=>xT),aTr (fun _=>Option.isSome_some),show decide ((0:Int)=0)=true from rfl,Bool.true_and,show val (some (xP t))=xP t from rfl];by_cases hc:w.2.1=DC∧xP t=true
    · rw[aTr hc,show decide (w.2.1=([99,97,116,97,108,111,103]:pM))=true from aT7 hc.1,hc.2]
      rfl
    rw[aTs hc,aTs (by
      simp only[aTL,aTN];exact hc)]
    rfl
def P9 (l:List Wd):Option pM:=match l with
  |[]=>none
  |w::r=>if w.1=true then none else K3 w r
theorem aPy {l:List Wd}(hne:l≠[]) {N:Nat}(hok: ∀w∈l,AR N w) (nx:Int):(rJ t8 nx (z7 l)=match P9 l with|some t=>(0,xS t8 (t,t8.c.2) t) |none=>rJ t8 nx (z7 l))∧(P9 l=none→(rJ t8 nx (z7 l)).1=3):=by
  cases l with
  |nil=>exact absurd rfl hne
  | cons w r=>
    have hr': ∀x∈r,AR N x:=fun x hx=>hok x (aTB _ hx);unfold z7 P9;dsimp only;by_cases hq:w.1=true
    · rw[aTr hq,aTr hq]
      refine⟨rfl,fun _=>a8A nx fun t=>?_⟩;split<;>intro hc<;>cases hc
    rw[aTs hq,aTs hq]
    unfold K3;cases hone:tP r with
    | none=>
      refine⟨rfl,fun _=>a8A nx fun t hc=>?_⟩;have:=(aG3 hc).2;rw[hone] at this;cases this
    | some t=>
      dsimp only;by_cases hk:w.2.1=DC
      · have hc1:vA w.2.1 r= .beg true t:=by rw[hk];exact(aGF (k:=[]) hone).1
        have hdo:rJ t8 nx (.beg true t)=if xP t=true then(0,xS t8 (t,t8.c.2) t) else(3,t8):=by rw[rJ,aTs (by simp [t8,tJ])]
        rw[hc1,hdo];by_cases htg:xP t=true
        · rw[aTr htg,aTr ⟨hk,htg⟩]
          exact⟨rfl,fun h=>by cases h⟩
        rw[aTs htg,aTs (fun h=>htg h.2)]
        exact⟨rfl,fun _=>rfl⟩
      rw[aTs (fun h=>hk h.1)]
      exact⟨rfl,fun _=>a8A nx fun t' hc=>hk (aG3 hc).1⟩
theorem aPz {line:pM}(hl:line.length≤1100000000) (hf:AS line=false) (nx:Int):
    (∃t,tB t8 line nx=(0,xS t8 (t,t8.c.2) t)∧SO line nx=some (t,1,[],[]))∨((tB t8 line nx).1=3∧SO line nx=none∧L0b line nx=some 3):=by
  obtain⟨v,hv,hm⟩:=aGw hl
  have hstep:tB t8 line nx=match G2 line with|none=>(3,t8) |some l=>rJ t8 nx (z7 l):=by
    unfold tB;exact(aTs (by rw[hf];simp)).trans rfl
  cases hw:G2 line with
  | none=>
    rw[hw] at hm hstep;have hm:v.2=false:=hm;refine .inr ⟨by rw[hstep],?_,?_⟩
    · unfold SO zN
      rw[hv,aTu,aTr (by rw[hm];rfl)]
    · unfold L0b G0
      rw[hv,aTu,aTr (by rw[hm];rfl)]
  | some l=>
    rw[hw] at hm hstep;have hm:v=(l,true):=hm;subst hm
    have hnel:line.dropWhile tO≠[]:=fun e=>by
      unfold AS at hf;rw[e] at hf;cases hf
    have hne:=aGx _ _ _ hw hnel;have hok:=YL _ _ _ hw;obtain⟨hs1,hs2⟩:=SG _ _ _ hw;obtain⟨hd1,hd2⟩:=aPy hne hok nx
    have hA:SO line nx=(P9 l).map fun t=>(t,1,[],[]):=by
      unfold SO zN P9;rw[hv,aTu];cases l with
      |nil=>exact absurd rfl hne
      | cons w r=>
        dsimp only;rw[aTs pS,aTr xT,show qV rF (w::r) (0:Int)=w from rfl];by_cases hq:w.1=true
        .rw[aTr hq,aTr hq];exact aPw _
        rw[aTs hq,aTs hq,aTr pR]
        have hq:w.1=false:=by simpa using hq
        have ha:=aG5 (r:=r) hq;have hb:=aG6 (r:=r) hq;unfold c0 at ha hb;rw[ha,hb];cases K3 w r<;>rfl
    cases hF:P9 l with
    | some t=>
      rw[hF] at hd1 hA;exact .inl ⟨t,hstep.trans hd1,hA⟩
    | none=>
      rw[hF] at hA;refine .inr ⟨by rw[hstep];exact hd2 hF,hA,?_⟩;unfold L0b G0;rw[hv,aTu];cases l with
      |nil=>exact absurd rfl hne
      | cons w r=>
        dsimp only;rw[aTs pS,aTr xT,show qV rF (w::r) (0:Int)=w from rfl];by_cases hq:w.1=true
        · rw[aTr hq]
          unfold MF;obtain⟨q,h1,h2⟩:=aG4 (l:=w::r) pQ (w::r).length 0 [] pQ (by rw[aUN,aTI];omega);have h1':sF (ME (w::r)) (([]:pM),(0:Int))=some q:=h1;rw[h1'];rcases h2 with rfl|⟨z,rfl⟩<;>rfl
        have hF:(if w.1=true then none else K3 w r)=none:=hF
        rw[aTs hq] at hF;rw[aTs hq,aTr pR];have hq:w.1=false:=by simpa using hq
        have ha:=aG5 (r:=r) hq;have hb:=aG6 (r:=r) hq;unfold c0 at ha hb;rw[ha,hb,hF];rfl
end
noncomputable section
abbrev aPA:=Int×pM×pN×(List r7)×(List tA)×Int×pM×pM×pM×pN×Int×Nat×pW×(Option pN)×Nat×(Option (List r7))×Nat×pU×pU
abbrev YP:=pM×pN×(List r7)×(List tA)×Int×pM×pM×pM×pN×Int×Nat×pW×(Option pN)×Nat×(Option (List r7))×Nat×pU×pU
abbrev Pg.out (P:Pg):YP:=(P.c.1,P.c.2.1,P.c.2.2.1,P.c.2.2.2.1,P.pl,P.id,P.sc,P.tg,P.fg,P.sv,P.ap,P.ends,P.cm,P.n1,P.fl,P.n2,P.seen,P.ids)
abbrev Pg.inn (P:Pg) (a:Int):aPA:=(a,P.out)
def SP (s:pM) (ok:Option YP) (er:Option (Int×Int)) (r:(Nat×Int)⊕St):Prop:=match r with
  | .inl q=>ok=none∧er=some ((q.1:Int),q.2)∧q.2≠0
  | .inr st=>if st.op=true∨st.ends=[] then ok=none∧er=some ((s.length:Int),3) else∃P,DU st P∧ok=some P.out
theorem a8B {s:pM}(hs:s.length≤1100000000): ∀(n a:Nat) (st:St) (P:Pg),wT st→DU st P→a≤s.length→s.length<n+a→
    SP s (sF (AN s) (.inr (P.inn a))) (sF (AO s) (.inr (P.inn a))) (BM s n st a)
  |0,a,st,P,hst,hr,ha,hn=>by omega
  | n+1,a,st,P,hst,hr,ha,hn=>by
    rw[BM];by_cases hlt:a<s.length
    · rw[aTr hlt]
      obtain⟨t,ht1,ht2,ht3,ht4⟩:=aGZ hs hlt;have hto:=SI hlt;obtain⟨hf1,hf2⟩:=aG0 t.1;have hsub:t.1.length≤1100000000:=by omega
      have hab:0≤(a:Int)∧(a:Int)≤(s.length:Int)∧(s.length:Int)≤(s.length:Int):=⟨pQ,pQ,aUL _⟩;have hi1:qP ((a:Int)+(t.1.length:Int)):=by unfold qP;omega
      have hi2:qP (((a:Int)+(t.1.length:Int))+(1:Int)):=by unfold qP;omega
      rw[←ht2];rw[uO (AN s),uO (AO s)];generalize hF:sF (AN s)=F;generalize hG:sF (AO s)=G;unfold AN AO;dsimp only;rw[aTr (wR hlt),aTr (wR hlt),aTr hab,aTr hab,ht1,aTu,aTu,aTr hi1,aTr hi1,aTr hi2,aTr hi2,hf1,aTu,aTu,hf2,ht3];cases hfr:AS t.1 with
      | true=>
        have hst':tB st t.1 (tG s a:Nat)=(0,st):=by unfold tB;rw[hfr,aTr rfl]
        rw[aTs (show¬(!true)=true by simp),aTs (show¬(!true)=true by simp),hst',aTr rfl,aTu,aTu];dsimp only;rw[←hF,←hG];exact a8B hs n (tG s a) st P hst hr hto.2 pQ
      | false=>
        rw[aTr (show (!false)=true from rfl),aTr (show (!false)=true from rfl)];obtain⟨v,hv,he,hz⟩:=aPv hst hr hsub hfr (tG s a:Nat);have hv':uN (P.c.1,(P.c.2.1,(P.c.2.2.1,(P.c.2.2.2.1,())))) P.pl P.id P.sc P.tg P.fg P.sv P.ap (P.ends,()) t.1 ((tG s a:Nat):Int) P.cm P.n1 P.fl P.n2 P.seen P.ids=some v:=hv;rw[hv',aTu,aTu,he];by_cases h0:(tB st t.1 (tG s a:Nat)).1=0
        · rw[h0,aTs pS,aTs pS,aTr rfl,aTu,aTu]
          dsimp only;rw[←hF,←hG];exact a8B hs n (tG s a) _ (a8w v) (YN hst _ _ h0) (hz h0) hto.2 pQ
        rw[aTr (by simp [h0]),aTr (by simp [h0]),aTs h0]
        exact⟨rfl,rfl,h0⟩
    rw[aTs hlt]
    have hF:decide ((a:Int)<(s.length:Int))=false:=decide_eq_false pQ;rw[uO (AN s),uO (AO s)];unfold AN AO;dsimp only;rw[hF,aTs (show¬false=true by simp),aTs (show¬false=true by simp)];unfold SP;dsimp only;by_cases hc:st.op=true∨st.ends=[]
    · rw[aTr hc]
      have hpl:P.pl≠2:=by
        rw[hr.pl];rcases hc with h1|h1
        .rw[aTr h1];split<;>decide
        rcases hr.live with h2|h2
        .rw[aTr h2];split<;>decide
        exact absurd h1 h2
      rw[aTr (show (!decide (P.pl=(2:Int)))=true by simp [hpl]),aTr (show (!decide (P.pl=(2:Int)))=true by simp [hpl])];exact⟨rfl,rfl⟩
    rw[aTs hc]
    rw[not_or] at hc;have hpl:P.pl=2:=by rw[hr.pl,aTs hc.1,aTs hc.2]
    rw[aTs (show¬(!decide (P.pl=(2:Int)))=true by simp [hpl])];exact⟨P,hr,rfl⟩
theorem aPB (t:pM):DU (xS t8 (t,t8.c.2) t) ⟨(t,([],([],([],())))),1,[],[],[],[],0,0,[],some [],0,some [],0,[],[]⟩ where
  c:=rfl
  ends:=rfl
  pl:=rfl
  x:=fun _=>⟨rfl,rfl,rfl,rfl,rfl⟩
  id:=fun _ h=>absurd rfl h
  fl:=fun _=>⟨[],rfl,rfl,List.nodup_nil,fun h=>absurd h.symm vC.2.2.2.1⟩
  ap:=MY.symm
  seen:=fun _=>⟨rfl,rfl,rfl,rfl⟩
  ids:=fun _=>rfl
  live:= .inl rfl
theorem aPC {t:pM}{line:pM}{nx:Int}(h:tB t8 line nx=(0,xS t8 (t,t8.c.2) t)):wT (xS t8 (t,t8.c.2) t):=by
  have:=YN a8s line nx (by rw[h]);rw[h] at this;exact this
theorem aG7 {s:pM}(hs:s.length≤1100000000): ∀(n a:Nat),a≤s.length→s.length<n+a→
    SP s (sF (AN s) (.inl (a:Int))) (sF (AO s) (.inl (a:Int))) (BM s n t8 a)
  |0,a,ha,hn=>by omega
  | n+1,a,ha,hn=>by
    rw[BM];by_cases hlt:a<s.length
    · rw[aTr hlt]
      obtain⟨t,ht1,ht2,ht3,ht4⟩:=aGZ hs hlt;have hto:=SI hlt;obtain⟨hf1,hf2⟩:=aG0 t.1;have hsub:t.1.length≤1100000000:=by omega
      have hab:0≤(a:Int)∧(a:Int)≤(s.length:Int)∧(s.length:Int)≤(s.length:Int):=⟨pQ,pQ,aUL _⟩;have hi1:qP ((a:Int)+(t.1.length:Int)):=by unfold qP;omega
      have hi2:qP (((a:Int)+(t.1.length:Int))+(1:Int)):=by unfold qP;omega
      rw[←ht2];rw[uO (AN s),uO (AO s)];generalize hF:sF (AN s)=F;generalize hG:sF (AO s)=G;unfold AN AO;dsimp only;rw[aTr (wR hlt),aTr (wR hlt),aTr hab,aTr hab,ht1,aTu,aTu,aTr hi1,aTr hi1,aTr hi2,aTr hi2,hf1,aTu,aTu,hf2,ht3];cases hfr:AS t.1 with
      | true=>
        have hst':tB t8 t.1 (tG s a:Nat)=(0,t8):=by unfold tB;rw[hfr,aTr rfl]
        rw[aTs (show¬(!true)=true by simp),aTs (show¬(!true)=true by simp),hst',aTr rfl,aTu,aTu];dsimp only;rw[←hF,←hG];exact aG7 hs n (tG s a) hto.2 pQ
      | false=>
        rw[aTr (show (!false)=true from rfl),aTr (show (!false)=true from rfl)];rcases aPz hsub hfr (tG s a:Nat) with⟨x,h1,h2⟩ |⟨h1,h2,h3⟩
        · have h2':zN (([]:pM),(([]:pN),(([]:List r7),(([]:List tA),())))) (0:Int) ([]:pM) ([]:pM) ([]:pM) ([]:pN) (0:Int) (([]:pW),()) t.1 ((tG s a:Nat):Int) (some ([]:pN)) 0 (some ([]:List r7)) 0 ([]:pU)=some (x,1,[],[]):=h2
          rw[h2',h1];simp only[Option.isSome_some,↓reduceIte,aTu,decide_true,Bool.not_true,aUT];rw[←hF,←hG];exact a8B hs n (tG s a) _ _ (aPC h1) (aPB x) hto.2 pQ
        have h2':zN (([]:pM),(([]:pN),(([]:List r7),(([]:List tA),())))) (0:Int) ([]:pM) ([]:pM) ([]:pM) ([]:pN) (0:Int) (([]:pW),()) t.1 ((tG s a:Nat):Int) (some ([]:pN)) 0 (some ([]:List r7)) 0 ([]:pU)=none:=h2
        have h3':G0 (([]:pM),(([]:pN),(([]:List r7),(([]:List tA),())))) (0:Int) ([]:pM) ([]:pM) ([]:pM) ([]:pN) (0:Int) (([]:pW),()) t.1 ((tG s a:Nat):Int) (some ([]:pN)) 0 (some ([]:List r7)) 0 ([]:pU)=some 3:=h3;rw[h2',h3',h1];simp only[Option.isSome_none,aUT,↓reduceIte,aTu];rw[aTr (show (!decide ((3:Int)=(0:Int)))=true from rfl),aTr (show (!decide ((3:Int)=(0:Int)))=true from rfl),aTs (show¬(3:Int)=0 by decide)];exact⟨rfl,rfl,show (3:Int)≠0 by decide⟩
    rw[aTs hlt]
    have hF:decide ((a:Int)<(s.length:Int))=false:=decide_eq_false pQ;rw[uO (AN s),uO (AO s)];unfold AN AO;dsimp only;rw[hF,aTs (show¬false=true by simp),aTs (show¬false=true by simp),aTr (show (!decide ((0:Int)=(2:Int)))=true from rfl),aTr (show (!decide ((0:Int)=(2:Int)))=true from rfl)];exact⟨rfl,rfl⟩
theorem a8C {s:pM}(hs:s.length≤1100000000):match zR s with
    | .inl q=>uE s=none∧I3 s=some ((q.1:Int),q.2)∧q.2≠0
    | .inr st=> ∃P,DU st P∧uE s=some P.out∧st.op=false∧st.ends≠[]:=by
  have h:=aG7 hs (s.length+1) 0 (aUp _) pQ;unfold zR;unfold uE I3;have h':SP s (sF (AN s) (.inl (0:Int))) (sF (AO s) (.inl (0:Int))) (BM s (s.length+1) t8 0):=h;cases hr:BM s (s.length+1) t8 0 with
  |inl q=>rw[hr] at h';exact h'
  | inr st=>
    rw[hr] at h';unfold SP at h';dsimp only at h'|-;by_cases hc:st.op=true∨st.ends=[]
    · rw[aTr hc] at h'|-
      exact⟨h'.1,h'.2,show (3:Int)≠0 by decide⟩
    rw[aTs hc] at h'|-
    obtain⟨P,h1,h2⟩:=h';rw[not_or] at hc;exact⟨P,h1,h2,by simpa using hc.1,hc.2⟩
def aPD:(Nat×Int)⊕St→pM×pN×(List r7)×(List tA)×Int×Int
  | .inl q=>([],[],[],[],(q.1:Int),q.2)
  | .inr st=>(st.c.1,st.c.2.1,st.c.2.2.1,st.c.2.2.2.1,0,0)
theorem aG8 {s:pM}(hs:s.length≤1100000000):BG s=some (aPD (zR s)):=by
  have h:=a8C hs;unfold BG;cases hr:zR s with
  | inl q=>
    rw[hr] at h;obtain⟨h1,h2,h3⟩:=h;rw[h1,h2,aTs pS,aTu,aTr (by simpa using h3)];rfl
  | inr st=>
    rw[hr] at h;obtain⟨P,h1,h2,_⟩:=h;rw[h2,aTr (show (some P.out).isSome=true from rfl),aTu,aTs (show¬(!decide ((0:Int)=(0:Int)))=true by decide)];show some (P.c.1,P.c.2.1,P.c.2.2.1,P.c.2.2.2.1,(0:Int),(0:Int))=_;rw[h1.c];rfl
end
noncomputable section
def SQ (a:Nat) (ends:pW):Prop:= ∃l:q8,ends=l.map (fun n:Nat=>(n:Int))∧l.Pairwise (·≤·)∧∀x∈l,x≤a
theorem a8D {a b:Nat}(h:a≤b) {e:pW}(he:SQ a e):SQ b e:=by
  obtain⟨l,h1,h2,h3⟩:=he;exact⟨l,h1,h2,fun x hx=>aUs (h3 x hx) h⟩
theorem aPE (s:St) (n:Int) (c:vS):(rJ s n c).2.ends=s.ends∨(rJ s n c).2.ends=s.ends++[n]:=by
  cases c with
  |cont t=>exact .inl (aPa s n t).2.1
  |beg hd t=>cases hd<;>(rw[rJ];repeat' split)<;>exact .inl rfl
  | fin=>
    rw[rJ];split
    .exact .inl rfl
    .exact .inr rfl
  |bad=>exact .inl rfl
  | com t => rw[rJ];repeat' split
             all_goals exact .inl rfl
  | src t => rw[rJ];repeat' split
             all_goals exact .inl rfl
  | tgt t => rw[rJ];repeat' split
             all_goals exact .inl rfl
  | sta v => rw[rJ];repeat' split
             all_goals exact .inl rfl
  | fld m v => rw[rJ];repeat' split
               all_goals exact .inl rfl
  | flg l => rw[rJ];repeat' split
             all_goals exact .inl rfl
theorem aPF (s:St) (line:pM) (n:Int):(tB s line n).2.ends=s.ends∨(tB s line n).2.ends=s.ends++[n]:=by
  unfold tB;split
  .exact .inl rfl
  split
  .exact .inl rfl
  exact aPE _ _ _
theorem aG9 {s:pM}: ∀(n a:Nat) (st st':St),a≤s.length→SQ a st.ends→BM s n st a= .inr st'→SQ s.length st'.ends
  |0,a,st,st',ha,h,e=>by cases e;exact a8D ha h
  | n+1,a,st,st',ha,h,e=>by
    rw[BM] at e;split at e
    · rename_i hlt
      have hto:=SI hlt;split at e
      · refine aG9 n (tG s a) _ st' hto.2 ?_ e
        rcases aPF st (tM (F5 s a)) (tG s a:Nat) with h1|h1
        .rw[h1];exact a8D pQ h
        rw[h1]
        obtain⟨l,g1,g2,g3⟩:=h;refine⟨l++[tG s a],by rw[g1,List.map_append];rfl,aVk.2 ⟨g2,List.pairwise_singleton _ _,fun x hx y hy=>?_⟩,fun x hx=>?_⟩
        .rw[aTH.1 hy];have:=g3 x hx;omega
        rcases aUe.1 hx with hx|hx
        .have:=g3 x hx;omega
        rw[aTH.1 hx];exact aTO _
      cases e
    cases e;exact a8D ha h
theorem aHa {s:pM}{st:St}(h:zR s= .inr st):wT st∧st.op=false∧st.ends≠[]∧SQ s.length st.ends∧yS st.c=true:=by
  unfold zR at h;cases hr:BM s (s.length+1) t8 0 with
  |inl q=>rw[hr] at h;cases h
  | inr st'=>
    rw[hr] at h;dsimp only at h;split at h
    .cases h
    rename_i hc
    cases h;rw[not_or] at hc;have hok:=aGG _ _ _ a8s hr;exact⟨hok,by simpa using hc.1,hc.2,aG9 _ _ _ _ (aUp _) ⟨[],rfl,List.Pairwise.nil,fun x hx=>(by cases hx)⟩ hr,aOJ (hok.tag (.inl hc.2)) hok.hcm hok.hfd hok.es⟩
section
variable {s:pM}(hsm:s.length≤4000000000) {l:q8}(hne:l≠[]) (hs:l.Pairwise (·≤·)) (hle: ∀x∈l,x≤s.length) (hl:l.length≤5000)
include hsm hne hs hle hl in
theorem aPG {r:YP}(hr:r.2.2.2.2.2.2.2.2.2.2.2.1=l.map (fun n:Nat=>(n:Int))):
    sF (OX s r) (1,[])=some ((P2 s l).drop 1):=by
  have hpos:0<l.length:=aUk.2 hne
  have hloop:=a8i (f:=OX s r) (n:=l.length-1) (fun i=>(((i+1:Nat):Int),((List.range (i+1)).map (pc s l)).drop 1)) (r:=(P2 s l).drop 1)
    (fun i hi=>by
      have h1:=a8j hle (show i+1<l.length by omega);have h2:=aOA hs (show i<i+1 by omega) (show i+1<l.length by omega);unfold OX;dsimp only;rw[hr,aUl,aTr (wR pQ),aTr (by unfold qP;omega),show (((i+1:Nat):Int)-1)=(i:Int) by omega,aTr (vB pQ),aTr (vB pQ),YG (show i<l.length by omega),YG (show i+1<l.length by omega),aTr ⟨Int.natCast_nonneg _,Int.ofNat_le.2 h2,Int.ofNat_le.2 h1⟩,aTr pT,aTr (yE pQ)];rw[List.range_succ (n:=i+1),List.map_append,List.drop_append_of_le_length pS];rfl)
    (by
      unfold OX;dsimp only;rw[hr,aUl,show l.length-1+1=l.length by omega,aTs (A7 _)]) (l.length-1) 0 pQ
  exact hloop
include hsm hne hs hle hl in
theorem aPH {r:YP}(h:uE s=some r) (hr:r.2.2.2.2.2.2.2.2.2.2.2.1=l.map (fun n:Nat=>(n:Int))):
    BH s=some (pc s l 0,(P2 s l).drop 1,s7 s (P3 l:Nat) (s.length:Int),0):=by
  have hpos:0<l.length:=aUk.2 hne;have h0:=a8j hle hpos;have hlast:P3 l≤s.length:=a8j hle (show l.length-1<l.length by omega);unfold BH;rw[h,aTr (show (some r).isSome=true from rfl),aTu,aTs (show¬(!decide ((0:Int)=(0:Int)))=true by decide),aPG hsm hne hs hle hl hr,hr,aUl,aTr ⟨aUL _,pQ⟩];have n0:qV (.int .i64) (l.map (fun n:Nat=>(n:Int))) (0:Int)=(l.getD 0 0:Nat):=YG hpos
  have n1:qV (.int .i64) (l.map (fun n:Nat=>(n:Int))) ((l.length:Int)-1)=(P3 l:Nat):=by
    rw[show ((l.length:Int)-1)=((l.length-1:Nat):Int) by omega];exact YG pQ
  rw[n0,n1,aTr ⟨aUL _,Int.natCast_nonneg _,Int.ofNat_le.2 h0⟩,aTr (by unfold qP;omega),aTr ⟨pQ,pQ⟩,aTr ⟨Int.natCast_nonneg _,Int.ofNat_le.2 hlast,aUL _⟩];rfl
end
theorem aHb (l:q8):(l.map (fun n:Nat=>(n:Int))).map Int.toNat=l:=by
  rw[List.map_map]
  conv=>rhs;rw[←List.map_id l]
  congr 1
theorem aPI:OY=some true:=by kernel_rfl
end
end Go.Proofs.YtcpbaddnmpeipaaGreatDoor
