/- Packed by a program of mine (wip/tools/pack.py): the same texts with short names and few blanks. -/
import Derived.KernelRfl
import Derived.OrdersIn
import Derived.Test.YtkpflnijijccpaaGreatDoorD002
set_option linter.defProp false
set_option linter.unusedVariables false
set_option linter.unusedSimpArgs false
set_option linter.unusedSectionVars false
set_option maxRecDepth 100000
set_option maxHeartbeats 4000000
namespace Go.Proofs.YtkpflnijijccpaaGreatDoor
open Vc
noncomputable section
def LD (O:pL) (Z:Int):Option pL:=if (decide ((IntKind.wrap .u32 Z)≤(2047:Int)))=true then if (O.length+([(bits .or .u8 (192:Int) (IntKind.wrap .u8 (yE .i32 Z (6:Int)))),(bits .or .u8 (128:Int) (bits .and .u8 (IntKind.wrap .u8 Z) (63:Int)))]:pL).length)*1≤140737488355328 then some ((O++([(bits .or .u8 (192:Int) (IntKind.wrap .u8 (yE .i32 Z (6:Int)))),(bits .or .u8 (128:Int) (bits .and .u8 (IntKind.wrap .u8 Z) (63:Int)))]:pL))) else none else sJ (σ:=Bool) (if (decide ((IntKind.wrap .u32 Z)<(55296:Int)))=true then some ((decide ((IntKind.wrap .u32 Z)<(55296:Int)))) else some (((decide ((57343:Int)<(IntKind.wrap .u32 Z)))&&(decide ((IntKind.wrap .u32 Z)≤(65535:Int))))) ) fun aA=>if aA=true then if (O.length+([(bits .or .u8 (224:Int) (IntKind.wrap .u8 (yE .i32 Z (12:Int)))),(bits .or .u8 (128:Int) (bits .and .u8 (IntKind.wrap .u8 (yE .i32 Z (6:Int))) (63:Int))),(bits .or .u8 (128:Int) (bits .and .u8 (IntKind.wrap .u8 Z) (63:Int)))]:pL).length)*1≤140737488355328 then some ((O++([(bits .or .u8 (224:Int) (IntKind.wrap .u8 (yE .i32 Z (12:Int)))),(bits .or .u8 (128:Int) (bits .and .u8 (IntKind.wrap .u8 (yE .i32 Z (6:Int))) (63:Int))),(bits .or .u8 (128:Int) (bits .and .u8 (IntKind.wrap .u8 Z) (63:Int)))]:pL))) else none else if ((decide ((65535:Int)<(IntKind.wrap .u32 Z)))&&(decide ((IntKind.wrap .u32 Z)≤(1114111:Int))))=true then if (O.length+([(bits .or .u8 (240:Int) (IntKind.wrap .u8 (yE .i32 Z (18:Int)))),(bits .or .u8 (128:Int) (bits .and .u8 (IntKind.wrap .u8 (yE .i32 Z (12:Int))) (63:Int))),(bits .or .u8 (128:Int) (bits .and .u8 (IntKind.wrap .u8 (yE .i32 Z (6:Int))) (63:Int))),(bits .or .u8 (128:Int) (bits .and .u8 (IntKind.wrap .u8 Z) (63:Int)))]:pL).length)*1≤140737488355328 then some ((O++([(bits .or .u8 (240:Int) (IntKind.wrap .u8 (yE .i32 Z (18:Int)))),(bits .or .u8 (128:Int) (bits .and .u8 (IntKind.wrap .u8 (yE .i32 Z (12:Int))) (63:Int))),(bits .or .u8 (128:Int) (bits .and .u8 (IntKind.wrap .u8 (yE .i32 Z (6:Int))) (63:Int))),(bits .or .u8 (128:Int) (bits .and .u8 (IntKind.wrap .u8 Z) (63:Int)))]:pL))) else none else if (O.length+([(239:Int),(191:Int),(189:Int)]:pL).length)*1≤140737488355328 then some ((O++([(239:Int),(191:Int),(189:Int)]:pL))) else none
section
variable (O:pL) (Z:Int) (aA:Nat)
abbrev a36:List qB:=[(.val (.list (.int .u8)) O,some 0),(.val (.int .i32) Z,none)]
abbrev a38:List q9:=[.grow 5 1 aA]
@[go_sem] def a39:qH:=⟨[aA=(O.length),((LD O Z)).isSome=true],[(.val (.list (.int .u8)) (val (LD O Z)),some 0)],[.grow 5 1 ((val (LD O Z)).length)]⟩
def aDv:List qB→List q9→Option qH:=rP (V:=(pL×Int×Nat)) (fun x=>a36 x.1 x.2.1) (fun x=>a38 x.2.2) fun x=>a39 x.1 x.2.1 x.2.2
@[go_sem] def aP8:aDv (no_index (a36 O Z)) (no_index (a38 aA))=some (a39 O Z aA):=rR (fun⟨a0,a1,a2⟩ ⟨b0,b1,b2⟩ h1 h2=>by cases h1;cases h2;rfl) (O,Z,aA)
end
@[go_sem] abbrev aDw:Nat×qW:=(245,⟨[.own,.v],aDv,[],[],none⟩)
def EE:rI Tryz.prog [IR,R2,FH,WO] (rJ []):=⟨⟨NI,⟨a2g,⟨IS,⟨aCx,trivial⟩⟩⟩⟩,rN,rL⟩
def aLI:r5 Tryz.prog aDw:=by
 refine rS EE Tryz.func245 (c:=_) rfl (N:=78) pT (ts:=[(4,none)]) rfl (fun _ _=>rfl) ?_;intro⟨O,Z,aA⟩ hs hrow;dsimp only[a36,a38,a39,rM,qM,qY,r7,rO,Nat.reduceAdd] at hs hrow|-;obtain⟨rfl,hz⟩:=hs;obtain⟨z0,e⟩:=aRh.1 hz
 try rw[rY e]
 clear hz;unfold LD at e;refine q8 EE ?_;refine q8 EE ?_;refine rW ?_;refine q8 EE ?_;refine qV e (fun e hc1=> ?_) (fun e hc1=> ?_)
 .obtain⟨hg1,e⟩:=qG e;refine q8 EE ?_ (hp:=by exact⟨show (0:Int)≤(6:Int) from by decide,pS,hg1⟩)
  refine qR (s8 ?_);cases e;exact pE [(0,0)]
 .refine qS ?_;refine q8 EE ?_;obtain⟨aB,d,e⟩:=qI e;refine yY (fun s=>s=(fun x=>⟨[(0,(.val (.list (.int .u8)) O,some 0)),(1,(.val (.int .i32) Z,none)),(5,(.val (.int .u32) (IntKind.wrap .u32 Z),none)),(25,(.val .bool x,none))],[(0,.grow 5 1 (O.length))],1,78,1⟩) aB) ?_ ?_
  .refine qV d (fun d hc2=> ?_) (fun d hc2=> ?_)
   .refine r8 ?_;cases d;exact tY ⟨⟨[0,1,5,25],[(0,0)]⟩,by rfl⟩
   .refine rF EE ?_ (hp:=by exact⟨id,sY⟩);cases d;exact tY ⟨⟨[0,1,5,25],[(0,0)]⟩,by rfl⟩
  .rintro _ rfl;dsimp only at e|-;refine qO ?_;refine qV e (fun e hc3=> ?_) (fun e hc3=> ?_)
   .obtain⟨hg2,e⟩:=qG e;refine q8 EE ?_ (hp:=by exact⟨show (0:Int)≤(12:Int) from by decide,show (0:Int)≤(6:Int) from by decide,pS,hg2⟩)
    refine qR (s8 ?_);cases e;exact pE [(0,0)]
   .refine q8 EE ?_ (hp:=by exact⟨id,sY⟩);refine qV e (fun e hc4=> ?_) (fun e hc4=> ?_)
    .obtain⟨hg3,e⟩:=qG e;refine q8 EE ?_ (hp:=by exact⟨show (0:Int)≤(18:Int) from by decide,show (0:Int)≤(12:Int) from by decide,show (0:Int)≤(6:Int) from by decide,pS,hg3⟩)
     refine qR (s8 ?_);cases e;exact pE [(0,0)]
    .obtain⟨hg4,e⟩:=qG e;refine q8 EE ?_ (hp:=by exact⟨pS,hg4⟩)
     refine qR (s8 ?_);cases e;exact pE [(0,0)]
def J0 (O:pC) (Z:Int):(Int×Int)→Option ((Int×Int)⊕(Int⊕(Int×Bool))):=fun(aA,aB)=>if (decide (aB<(O.length:Int)))=true then if 0≤aB∧aB<(O.length:Int) then if 0≤aB∧aB<(O.length:Int) then if (((decide ((65:Int)≤(tM O aB)))==true)=true→0≤aB∧aB<(O.length:Int)) then sJ (σ:=Int) (if ((decide ((65:Int)≤(tM O aB)))&&(decide ((tM O aB)≤(70:Int))))=true then if 0≤aB∧aB<(O.length:Int) then some ((IntKind.wrap .i64 ((IntKind.wrap .i64 (IntKind.wrap .u8 ((tM O aB)- (65:Int))))+(10:Int)))) else none else some ((v7 ([48,49,50,51,52,53,54,55,56,57,97,98,99,100,101,102]:pC) (tM O aB))) ) fun aC=>if ((decide (aC<(0:Int)))||(decide (Z≤aC)))=true then some (.inr (.inr (((0:Int),false)))) else some (.inl ((IntKind.wrap .i64 ((IntKind.wrap .i64 (aA*Z))+aC)),(IntKind.wrap .i64 (aB+(1:Int))))) else none else none else none else some (.inr (.inl aA))
def FN (O:pC) (Z:Int):Option (Int×Bool):=vA (rU (J0 O Z) ((0:Int),(0:Int))) fun aA=>some ((aA,(!decide (O=([]:pC)))))
section
variable (O:pC) (Z:Int)
abbrev a4a:List qB:=[(.val .str O,none),(.val (.int .i64) Z,none)]
abbrev a4b:List q9:=[]
@[go_sem] def a4c:qH:=⟨[((FN O Z)).isSome=true],[(.val (.int .i64) ((val (FN O Z)).1),none),(.val .bool ((val (FN O Z)).2),none)],[]⟩
def aDx:List qB→List q9→Option qH:=rP (V:=(pC×Int)) (fun x=>a4a x.1 x.2) (fun x=>a4b) fun x=>a4c x.1 x.2
@[go_sem] def aP9:aDx (no_index (a4a O Z)) (no_index a4b)=some (a4c O Z):=rR (fun⟨a0,a1⟩ ⟨b0,b1⟩ h1 h2=>by cases h1;cases h2;rfl) (O,Z)
end
@[go_sem] abbrev a4d:Nat×qW:=(226,⟨[.v,.v],aDx,[],[],none⟩)
def BL:rI Tryz.prog [a1F,IR,sL] (rJ [FG]):=⟨⟨aK9,⟨NI,⟨sO,trivial⟩⟩⟩,qK KQ rN,rL⟩
def aDy:r5 Tryz.prog a4d:=by
 refine rS BL Tryz.func226 (c:=_) rfl (N:=50) pT (ts:=[(4,none),(5,none)]) rfl (fun _ _=>rfl) ?_;intro⟨O,Z⟩ hs hrow;dsimp only[a4a,a4b,a4c,rM,qM,qY,r7,rO,Nat.reduceAdd] at hs hrow|-;have hz:=hs;obtain⟨z0,e⟩:=aRh.1 hz
 try rw[rY e]
 clear hz hs;unfold FN at e;refine q8 BL ?_;refine q8 BL ?_;refine qS ?_;refine q8 BL ?_;refine rW ?_;obtain⟨y1,hy1,e⟩:=wX e;refine uV 0 (fun s=> ∃v,y1= .inl v∧s=(fun x=>⟨[(0,(.val .str O,none)),(6,(.val (.int .i64) x,none))],[],0,50,0⟩) v) ?_ ?_
 .refine uP hy1 (fun x=>⟨[(0,(.val .str O,none)),(1,(.val (.int .i64) Z,none)),(6,(.val (.int .i64) x.1,none)),(10,(.val (.int .i64) (O.length:Int),none)),(11,(.val (.int .i64) x.2,none))],[],0,50,0⟩) ⟨[0,1,6,10,11],[]⟩ pU ?_;intro x1 w1 n1 d i;obtain⟨aA,aB⟩:=x1;unfold J0 at d;dsimp only at d|-;refine q8 BL ?_;refine qS ?_;refine qV d (fun d hc1=> ?_) (fun d hc1=> ?_)
  .refine r8 (qO (qS (rW ?_)));refine q8 BL ?_;obtain⟨hg1,d⟩:=qG d;refine q8 BL ?_ (hp:=by exact hg1);refine qS ?_;obtain⟨hg2,d⟩:=qG d;obtain⟨hg3,d⟩:=qG d;refine q8 BL ?_ (hp:=by exact⟨hg2,id,id,hg3,id,sY⟩);obtain⟨aC,j,d⟩:=qI d;refine yY (fun s=>s=(fun x=>⟨[(0,(.val .str O,none)),(1,(.val (.int .i64) Z,none)),(6,(.val (.int .i64) aA,none)),(8,(.val (.int .i64) x,none)),(10,(.val (.int .i64) (O.length:Int),none)),(11,(.val (.int .i64) aB,none))],[],0,50,0⟩) aC) ?_ ?_
   .refine qV j (fun j hc2=> ?_) (fun j hc2=> ?_)
    .obtain⟨hg4,j⟩:=qG j;refine rF BL ?_ (hp:=by exact hg4);cases j;exact tY ⟨⟨[0,1,6,8,10,11],[]⟩,by rfl⟩
    .refine r8 ?_;cases j;exact tY ⟨⟨[0,1,6,8,10,11],[]⟩,by rfl⟩
   .rintro _ rfl;dsimp only at d|-;refine qO (qS ?_);refine q8 BL ?_ (hp:=by exact⟨id,id,sU⟩);refine qV d (fun d hc3=> ?_) (fun d hc3=> ?_)
    .refine q8 BL ?_;refine qR (rQ (s8 (rQ (wP (wW (s8 (rQ ?_)))))));cases d;cases i;dsimp only at e;cases e;exact pE []
    .refine r8 (qO ?_);refine rF BL ?_;refine rT (qO ?_);refine rF BL ?_;cases d;exact tC ⟨⟨[0,1,6,10,11],[]⟩,_,by rfl,i⟩
  .refine uJ (uI (uL ?_));cases d;cases i;exact uK ⟨⟨[0,6],[]⟩,_,rfl,by rfl⟩
 .rintro _ ⟨aD,rfl,rfl⟩;dsimp only at e|-;refine uU (qO ?_);refine q8 BL ?_;refine qR ?_;cases e;exact pE []
def RE (O:(List r6)) (Z:pC):Int→Option (Int⊕(Unit⊕Int)):=fun aA=>if (decide (aA<(O.length:Int)))=true then if 0≤aA∧aA<(O.length:Int) then if (decide (((qU (.pair .str (.pair .str .unit)) O aA).1)=Z))=true then some (.inr (.inr (aA))) else if qC (aA+(1:Int)) then some (.inl (aA+(1:Int))) else none else none else some (.inr (.inl ()))
def NT (O:(List r6)) (Z:pC):Option Int:=vA (rU (RE O Z) (0:Int)) fun _=>some ((-1:Int))
section
variable (O:(List r6)) (Z:pC)
abbrev a4e:List qB:=[(.val (.list (.pair .str (.pair .str .unit))) O,none),(.val .clo (some (191,[(0,0)])),none)]
abbrev a4f:List q9:=[.cells .str Z []]
@[go_sem] def a4g:qH:=⟨[((NT O Z)).isSome=true],[(.val (.int .i64) (val (NT O Z)),none)],[.cells .str Z []]⟩
def aDz:List qB→List q9→Option qH:=rP (V:=((List r6)×pC)) (fun x=>a4e x.1) (fun x=>a4f x.2) fun x=>a4g x.1 x.2
@[go_sem] def aQa:aDz (no_index (a4e O)) (no_index (a4f Z))=some (a4g O Z):=rR (fun⟨a0,a1⟩ ⟨b0,b1⟩ h1 h2=>by cases h1;cases h2;rfl) (O,Z)
end
@[go_sem] abbrev aDA:Nat×qW:=(157,⟨[.v,.f [(.str,[])]],aDz,[],[0],none⟩)
def GW:rI Tryz.prog [AZ,FJ] (rJ [aDj]):=⟨⟨CK,⟨IU,trivial⟩⟩,qK aLC rN,rL⟩
def aLJ:r5 Tryz.prog aDA:=by
 refine rS GW Tryz.func157 (c:=_) rfl (N:=19) pT (ts:=[(4,none)]) rfl (fun _ _=>rfl) ?_;intro⟨O,Z⟩ hs hrow;dsimp only[a4e,a4f,a4g,rM,qM,qY,r7,rO,Nat.reduceAdd] at hs hrow|-;have hz:=hs;obtain⟨z0,e⟩:=aRh.1 hz
 try rw[rY e]
 clear hz hs;unfold NT at e;refine q8 GW ?_;refine qS ?_;refine q8 GW ?_;refine rW ?_;obtain⟨y1,hy1,e⟩:=wX e;refine uV 0 (fun s=> ∃v,y1= .inl v∧s=(fun _=>⟨[],[(0,.cells .str Z [])],1,19,1⟩) v) ?_ ?_
 .refine uP hy1 (fun x=>⟨[(0,(.val (.list (.pair .str (.pair .str .unit))) O,none)),(1,(.val .clo (some (191,[(0,0)])),none)),(7,(.val (.int .i64) (O.length:Int),none)),(8,(.val (.int .i64) x,none))],[(0,.cells .str Z [])],1,19,1⟩) ⟨[0,1,7,8],[(0,0)]⟩ pU ?_;intro aA w1 n1 d i;unfold RE at d;dsimp only at d|-;refine q8 GW ?_;refine qS ?_;refine qV d (fun d hc1=> ?_) (fun d hc1=> ?_)
  .refine r8 (qO (qS (rW ?_)));refine q8 GW ?_;obtain⟨hg1,d⟩:=qG d;refine q8 GW ?_ (hp:=by exact⟨hg1,pS⟩)
   refine qV d (fun d hc2=> ?_) (fun d hc2=> ?_)
   .refine q8 GW ?_;refine qR (s8 (rQ (wP (wW (s8 (rQ ?_))))));cases d;cases i;dsimp only at e;cases e;exact pE [(0,0)]
   .refine r8 (rT (qO ?_));obtain⟨hg2,d⟩:=qG d;refine rF GW ?_ (hp:=by exact hg2);cases d;exact tC ⟨⟨[0,1,7,8],[(0,0)]⟩,_,by rfl,i⟩
  .refine uJ (uI (uL ?_));cases d;cases i;exact uK ⟨⟨[],[(0,0)]⟩,_,rfl,by rfl⟩
 .rintro _ ⟨v,rfl,rfl⟩;dsimp only at e|-;refine uU (qO ?_);refine q8 GW ?_;refine qR ?_;cases e;exact pE [(0,0)]
def RF (O:(List r6)) (Z:pC):Int→Option (Int⊕(Unit⊕Int)):=fun aA=>if (decide (aA<(O.length:Int)))=true then if 0≤aA∧aA<(O.length:Int) then if (!(Op.bytesLess ((qU (.pair .str (.pair .str .unit)) O aA).1) Z||decide (((qU (.pair .str (.pair .str .unit)) O aA).1)=Z)))=true then some (.inr (.inr (aA))) else if qC (aA+(1:Int)) then some (.inl (aA+(1:Int))) else none else none else some (.inr (.inl ()))
def NU (O:(List r6)) (Z:pC):Option Int:=vA (rU (RF O Z) (0:Int)) fun _=>some ((-1:Int))
section
variable (O:(List r6)) (Z:pC)
abbrev a4h:List qB:=[(.val (.list (.pair .str (.pair .str .unit))) O,none),(.val .clo (some (158,[(0,0)])),none)]
abbrev a4i:List q9:=[.cells .str Z []]
@[go_sem] def a4j:qH:=⟨[((NU O Z)).isSome=true],[(.val (.int .i64) (val (NU O Z)),none)],[.cells .str Z []]⟩
def aDB:List qB→List q9→Option qH:=rP (V:=((List r6)×pC)) (fun x=>a4h x.1) (fun x=>a4i x.2) fun x=>a4j x.1 x.2
@[go_sem] def aQb:aDB (no_index (a4h O)) (no_index (a4i Z))=some (a4j O Z):=rR (fun⟨a0,a1⟩ ⟨b0,b1⟩ h1 h2=>by cases h1;cases h2;rfl) (O,Z)
end
@[go_sem] abbrev aDC:Nat×qW:=(157,⟨[.v,.f [(.str,[])]],aDB,[],[0],none⟩)
def GX:rI Tryz.prog [AZ,FJ] (rJ [aDb]):=⟨⟨CK,⟨IU,trivial⟩⟩,qK aLA rN,rL⟩
def aLK:r5 Tryz.prog aDC:=by
 refine rS GX Tryz.func157 (c:=_) rfl (N:=19) pT (ts:=[(4,none)]) rfl (fun _ _=>rfl) ?_;intro⟨O,Z⟩ hs hrow;dsimp only[a4h,a4i,a4j,rM,qM,qY,r7,rO,Nat.reduceAdd] at hs hrow|-;have hz:=hs;obtain⟨z0,e⟩:=aRh.1 hz
 try rw[rY e]
 clear hz hs;unfold NU at e;refine q8 GX ?_;refine qS ?_;refine q8 GX ?_;refine rW ?_;obtain⟨y1,hy1,e⟩:=wX e;refine uV 0 (fun s=> ∃v,y1= .inl v∧s=(fun _=>⟨[],[(0,.cells .str Z [])],1,19,1⟩) v) ?_ ?_
 .refine uP hy1 (fun x=>⟨[(0,(.val (.list (.pair .str (.pair .str .unit))) O,none)),(1,(.val .clo (some (158,[(0,0)])),none)),(7,(.val (.int .i64) (O.length:Int),none)),(8,(.val (.int .i64) x,none))],[(0,.cells .str Z [])],1,19,1⟩) ⟨[0,1,7,8],[(0,0)]⟩ pU ?_;intro aA w1 n1 d i;unfold RF at d;dsimp only at d|-;refine q8 GX ?_;refine qS ?_;refine qV d (fun d hc1=> ?_) (fun d hc1=> ?_)
  .refine r8 (qO (qS (rW ?_)));refine q8 GX ?_;obtain⟨hg1,d⟩:=qG d;refine q8 GX ?_ (hp:=by exact⟨hg1,pS⟩)
   refine qV d (fun d hc2=> ?_) (fun d hc2=> ?_)
   .refine q8 GX ?_;refine qR (s8 (rQ (wP (wW (s8 (rQ ?_))))));cases d;cases i;dsimp only at e;cases e;exact pE [(0,0)]
   .refine r8 (rT (qO ?_));obtain⟨hg2,d⟩:=qG d;refine rF GX ?_ (hp:=by exact hg2);cases d;exact tC ⟨⟨[0,1,7,8],[(0,0)]⟩,_,by rfl,i⟩
  .refine uJ (uI (uL ?_));cases d;cases i;exact uK ⟨⟨[],[(0,0)]⟩,_,rfl,by rfl⟩
 .rintro _ ⟨v,rfl,rfl⟩;dsimp only at e|-;refine uU (qO ?_);refine q8 GX ?_;refine qR ?_;cases e;exact pE [(0,0)]
attribute [irreducible] LD FN NT NU
end
noncomputable section
def J1 (O:(List r6)):Option (List r6):=if (0+O.length)*32≤140737488355328 then some ((([]:List r6)++O)) else none
section
variable (O:(List r6))
abbrev a4k:List qB:=[(.val (.list (.pair .str (.pair .str .unit))) O,none)]
abbrev a4l:List q9:=[]
@[go_sem] def a4m:qH:=⟨[((J1 O)).isSome=true],[(.own 0 ((val (J1 O)).length),none)],[.row 111 (.pair .str (.pair .str .unit)) (val (J1 O)) ((val (J1 O)).length)]⟩
def aDD:List qB→List q9→Option qH:=rP (V:=(List r6)) (a4k) (fun x=>a4l) fun x=>a4m x
@[go_sem] def aQc:aDD (no_index (a4k O)) (no_index a4l)=some (a4m O):=rR (fun a0 b0 h1 h2=>by cases h1;cases h2;rfl) O
end
@[go_sem] abbrev aDE:Nat×qW:=(156,⟨[.v],aDD,[],[],none⟩)
def RG:rI Tryz.prog [WP] (rJ []):=⟨⟨aCy,trivial⟩,rN,rL⟩
def aLL:r5 Tryz.prog aDE:=by
 refine rS RG Tryz.func156 (c:=_) rfl (N:=8) pT (ts:=[(2,none)]) rfl (fun _ _=>rfl) ?_;intro O hs hrow;dsimp only[a4k,a4l,a4m,rM,qM,qY,r7,rO,Nat.reduceAdd] at hs hrow|-;have hz:=hs;obtain⟨z0,d⟩:=aRh.1 hz
 try rw[rY d]
 clear hz hs;unfold J1 at d;refine q8 RG ?_;refine qS ?_;refine q8 RG ?_;refine aBP (by simp only[go_sem];rfl) (fun hnil=> ?_) (fun hnil=> ?_)
 .subst hnil;obtain⟨_,d⟩:=qG d;refine q8 RG ?_;refine qR (rQ ?_);cases d;exact pE [(0,96)]
 .refine r8 (qO ?_);obtain⟨hg1,d⟩:=qG d;refine q8 RG ?_ (hp:=by exact⟨pS,hg1⟩)
  refine qR ?_;cases d;exact pE [(0,96)]
def RH (O:pD):Int→Option (Int⊕(Unit⊕Int)):=fun Z=>if (decide (Z<(O.length:Int)))=true then if 0≤Z∧Z<(O.length:Int) then (NQ (qU .str O Z)).bind fun aA=>if aA=true then some (.inr (.inr (Z))) else if qC (Z+(1:Int)) then some (.inl (Z+(1:Int))) else none else none else some (.inr (.inl ()))
def NV (O:pD):Option Int:=vA (rU (RH O) (0:Int)) fun _=>some ((-1:Int))
section
variable (O:pD)
abbrev a4n:List qB:=[(.val (.list .str) O,none),(.val .clo (some (133,[])),none)]
abbrev a4o:List q9:=[]
@[go_sem] def a4p:qH:=⟨[((NV O)).isSome=true],[(.val (.int .i64) (val (NV O)),none)],[]⟩
def aDF:List qB→List q9→Option qH:=rP (V:=pD) (a4n) (fun x=>a4o) fun x=>a4p x
@[go_sem] def aQd:aDF (no_index (a4n O)) (no_index a4o)=some (a4p O):=rR (fun a0 b0 h1 h2=>by cases h1;cases h2;rfl) O
end
@[go_sem] abbrev aDG:Nat×qW:=(137,⟨[.v,.v],aDF,[],[],none⟩)
def GY:rI Tryz.prog [sL,wE] (rJ [aC2]):=⟨⟨sO,⟨x4,trivial⟩⟩,qK aLx rN,rL⟩
def aLM:r5 Tryz.prog aDG:=by
 refine rS GY Tryz.func137 (c:=_) rfl (N:=19) pT (ts:=[(4,none)]) rfl (fun _ _=>rfl) ?_;intro O hs hrow;dsimp only[a4n,a4o,a4p,rM,qM,qY,r7,rO,Nat.reduceAdd] at hs hrow|-;have hz:=hs;obtain⟨z0,d⟩:=aRh.1 hz
 try rw[rY d]
 clear hz hs;unfold NV at d;refine q8 GY ?_;refine qS ?_;refine q8 GY ?_;refine rW ?_;obtain⟨y1,hy1,d⟩:=wX d;refine uV 0 (fun s=> ∃v,y1= .inl v∧s=(fun _=>⟨[],[],0,19,0⟩) v) ?_ ?_
 .refine uP hy1 (fun x=>⟨[(0,(.val (.list .str) O,none)),(1,(.val .clo (some (133,[])),none)),(7,(.val (.int .i64) (O.length:Int),none)),(8,(.val (.int .i64) x,none))],[],0,19,0⟩) ⟨[0,1,7,8],[]⟩ pU ?_;intro Z w1 n1 e g;unfold RH at e;dsimp only at e|-;refine q8 GY ?_;refine qS ?_;refine qV e (fun e hc1=> ?_) (fun e hc1=> ?_)
  .refine r8 (qO (qS (rW ?_)));refine q8 GY ?_;obtain⟨hg1,e⟩:=qG e;obtain⟨aA,hv2,hw2,e⟩:=qQ e
   try simp only[go_sem] at hw2
   refine q8 GY ?_ (hp:=by exact⟨hg1,(qP hv2)⟩) (h:=by simp only[go_sem,hw2];rfl);refine qV e (fun e hc2=> ?_) (fun e hc2=> ?_)
   .refine q8 GY ?_;refine qR (s8 (rQ (wP (wW (s8 (rQ ?_))))));cases e;cases g;dsimp only at d;cases d;exact pE []
   .refine r8 (rT (qO ?_));obtain⟨hg3,e⟩:=qG e;refine rF GY ?_ (hp:=by exact hg3);cases e;exact tC ⟨⟨[0,1,7,8],[]⟩,_,by rfl,g⟩
  .refine uJ (uI (uL ?_));cases e;cases g;exact uK ⟨⟨[],[]⟩,_,rfl,by rfl⟩
 .rintro _ ⟨v,rfl,rfl⟩;dsimp only at d|-;refine uU (qO ?_);refine q8 GY ?_;refine qR ?_;cases d;exact pE []
def LE (O:pD):Option Bool:=(NV O).bind fun Z=>some ((decide ((0:Int)≤Z)))
section
variable (O:pD)
abbrev a4q:List qB:=[(.val (.list .str) O,none),(.val .clo (some (133,[])),none)]
abbrev a4r:List q9:=[]
@[go_sem] def a4s:qH:=⟨[((LE O)).isSome=true],[(.val .bool (val (LE O)),none)],[]⟩
def aDH:List qB→List q9→Option qH:=rP (V:=pD) (a4q) (fun x=>a4r) fun x=>a4s x
@[go_sem] def aQe:aDH (no_index (a4q O)) (no_index a4r)=some (a4s O):=rR (fun a0 b0 h1 h2=>by cases h1;cases h2;rfl) O
end
@[go_sem] abbrev aDI:Nat×qW:=(95,⟨[.v,.v],aDH,[],[],none⟩)
def a4t:rI Tryz.prog [] (rJ [aDG]):=⟨trivial,qK aLM rN,rL⟩
def aLN:r5 Tryz.prog aDI:=by
 refine rS a4t Tryz.func95 (c:=_) rfl (N:=9) pT (ts:=[(4,none)]) rfl (fun _ _=>rfl) ?_;intro O hs hrow;dsimp only[a4q,a4r,a4s,rM,qM,qY,r7,rO,Nat.reduceAdd] at hs hrow|-;have hz:=hs;obtain⟨z0,d⟩:=aRh.1 hz
 try rw[rY d]
 clear hz hs;unfold LE at d;refine q8 a4t ?_;obtain⟨Z,hv1,hw1,d⟩:=qQ d
 try simp only[go_sem] at hw1
 refine q8 a4t ?_ (hp:=by exact(qP hv1)) (h:=by simp only[go_sem,hw1];rfl);refine qR ?_;cases d;exact pE []
def RI (O:(List r6)) (Z:r6):Int→Option (Int⊕(Unit⊕Int)):=fun aA=>if (decide (aA<(O.length:Int)))=true then if 0≤aA∧aA<(O.length:Int) then if (decide (((qU (.pair .str (.pair .str .unit)) O aA).1)=Z.1))=true then some (.inr (.inr (aA))) else if qC (aA+(1:Int)) then some (.inl (aA+(1:Int))) else none else none else some (.inr (.inl ()))
def NW (O:(List r6)) (Z:r6):Option Int:=vA (rU (RI O Z) (0:Int)) fun _=>some ((-1:Int))
section
variable (O:(List r6)) (Z:r6)
abbrev a4u:List qB:=[(.val (.list (.pair .str (.pair .str .unit))) O,none),(.val .clo (some (129,[(0,0)])),none)]
abbrev a4v:List q9:=[.cells (.pair .str (.pair .str .unit)) Z []]
@[go_sem] def a4w:qH:=⟨[((NW O Z)).isSome=true],[(.val (.int .i64) (val (NW O Z)),none)],[.cells (.pair .str (.pair .str .unit)) Z []]⟩
def aDJ:List qB→List q9→Option qH:=rP (V:=((List r6)×r6)) (fun x=>a4u x.1) (fun x=>a4v x.2) fun x=>a4w x.1 x.2
@[go_sem] def aQf:aDJ (no_index (a4u O)) (no_index (a4v Z))=some (a4w O Z):=rR (fun⟨a0,a1⟩ ⟨b0,b1⟩ h1 h2=>by cases h1;cases h2;rfl) (O,Z)
end
@[go_sem] abbrev aDK:Nat×qW:=(136,⟨[.v,.f [((.pair .str (.pair .str .unit)),[])]],aDJ,[],[0],none⟩)
def GZ:rI Tryz.prog [CM,BJ] (rJ [aC0]):=⟨⟨E9,⟨DC,trivial⟩⟩,qK aLw rN,rL⟩
def aLO:r5 Tryz.prog aDK:=by
 refine rS GZ Tryz.func136 (c:=_) rfl (N:=19) pT (ts:=[(4,none)]) rfl (fun _ _=>rfl) ?_;intro⟨O,Z⟩ hs hrow;dsimp only[a4u,a4v,a4w,rM,qM,qY,r7,rO,Nat.reduceAdd] at hs hrow|-;have hz:=hs;obtain⟨z0,d⟩:=aRh.1 hz
 try rw[rY d]
 clear hz hs;unfold NW at d;refine q8 GZ ?_;refine qS ?_;refine q8 GZ ?_;refine rW ?_;obtain⟨y1,hy1,d⟩:=wX d;refine uV 0 (fun s=> ∃v,y1= .inl v∧s=(fun _=>⟨[],[(0,.cells (.pair .str (.pair .str .unit)) Z [])],1,19,1⟩) v) ?_ ?_
 .refine uP hy1 (fun x=>⟨[(0,(.val (.list (.pair .str (.pair .str .unit))) O,none)),(1,(.val .clo (some (129,[(0,0)])),none)),(7,(.val (.int .i64) (O.length:Int),none)),(8,(.val (.int .i64) x,none))],[(0,.cells (.pair .str (.pair .str .unit)) Z [])],1,19,1⟩) ⟨[0,1,7,8],[(0,0)]⟩ pU ?_;intro aA w1 n1 e g;unfold RI at e;dsimp only at e|-;refine q8 GZ ?_;refine qS ?_;refine qV e (fun e hc1=> ?_) (fun e hc1=> ?_)
  .refine r8 (qO (qS (rW ?_)));refine q8 GZ ?_;obtain⟨hg1,e⟩:=qG e;refine q8 GZ ?_ (hp:=by exact⟨hg1,pS⟩)
   refine qV e (fun e hc2=> ?_) (fun e hc2=> ?_)
   .refine q8 GZ ?_;refine qR (s8 (rQ (wP (wW (s8 (rQ ?_))))));cases e;cases g;dsimp only at d;cases d;exact pE [(0,0)]
   .refine r8 (rT (qO ?_));obtain⟨hg2,e⟩:=qG e;refine rF GZ ?_ (hp:=by exact hg2);cases e;exact tC ⟨⟨[0,1,7,8],[(0,0)]⟩,_,by rfl,g⟩
  .refine uJ (uI (uL ?_));cases e;cases g;exact uK ⟨⟨[],[(0,0)]⟩,_,rfl,by rfl⟩
 .rintro _ ⟨v,rfl,rfl⟩;dsimp only at d|-;refine uU (qO ?_);refine q8 GZ ?_;refine qR ?_;cases d;exact pE [(0,0)]
def J2 (O:(List r6)) (Z:r6):Option Bool:=(NW O Z).bind fun aA=>some ((decide ((0:Int)≤aA)))
section
variable (O:(List r6)) (Z:r6)
abbrev a4x:List qB:=[(.val (.list (.pair .str (.pair .str .unit))) O,none),(.val .clo (some (129,[(0,0)])),none)]
abbrev a4y:List q9:=[.cells (.pair .str (.pair .str .unit)) Z []]
@[go_sem] def a4z:qH:=⟨[((J2 O Z)).isSome=true],[(.val .bool (val (J2 O Z)),none)],[.cells (.pair .str (.pair .str .unit)) Z []]⟩
def aDL:List qB→List q9→Option qH:=rP (V:=((List r6)×r6)) (fun x=>a4x x.1) (fun x=>a4y x.2) fun x=>a4z x.1 x.2
@[go_sem] def aQg:aDL (no_index (a4x O)) (no_index (a4y Z))=some (a4z O Z):=rR (fun⟨a0,a1⟩ ⟨b0,b1⟩ h1 h2=>by cases h1;cases h2;rfl) (O,Z)
end
@[go_sem] abbrev aDM:Nat×qW:=(89,⟨[.v,.f [((.pair .str (.pair .str .unit)),[])]],aDL,[],[0],none⟩)
def a4A:rI Tryz.prog [] (rJ [aDK]):=⟨trivial,qK aLO rN,rL⟩
def aLP:r5 Tryz.prog aDM:=by
 refine rS a4A Tryz.func89 (c:=_) rfl (N:=9) pT (ts:=[(4,none)]) rfl (fun _ _=>rfl) ?_;intro⟨O,Z⟩ hs hrow;dsimp only[a4x,a4y,a4z,rM,qM,qY,r7,rO,Nat.reduceAdd] at hs hrow|-;have hz:=hs;obtain⟨z0,d⟩:=aRh.1 hz
 try rw[rY d]
 clear hz hs;unfold J2 at d;refine q8 a4A ?_;obtain⟨aA,hv1,hw1,d⟩:=qQ d
 try simp only[go_sem] at hw1
 refine q8 a4A ?_ (hp:=by exact⟨pS,(qP hv1)⟩) (h:=by simp only[go_sem,hw1];rfl)
 refine qR ?_;cases d;exact pE [(0,0)]
def yN (O:pD):Option pD:=if (0+O.length)*16≤140737488355328 then some ((([]:pD)++O)) else none
section
variable (O:pD)
abbrev a4B:List qB:=[(.val (.list .str) O,none)]
abbrev a4C:List q9:=[]
@[go_sem] def a4D:qH:=⟨[((yN O)).isSome=true],[(.own 0 ((val (yN O)).length),none)],[.row 9 .str (val (yN O)) ((val (yN O)).length)]⟩
def aDN:List qB→List q9→Option qH:=rP (V:=pD) (a4B) (fun x=>a4C) fun x=>a4D x
@[go_sem] def aQh:aDN (no_index (a4B O)) (no_index a4C)=some (a4D O):=rR (fun a0 b0 h1 h2=>by cases h1;cases h2;rfl) O
end
@[go_sem] abbrev a4E:Nat×qW:=(28,⟨[.v],aDN,[],[],none⟩)
def RJ:rI Tryz.prog [a2h] (rJ []):=⟨⟨aLp,trivial⟩,rN,rL⟩
def aDO:r5 Tryz.prog a4E:=by
 refine rS RJ Tryz.func28 (c:=_) rfl (N:=8) pT (ts:=[(2,none)]) rfl (fun _ _=>rfl) ?_;intro O hs hrow;dsimp only[a4B,a4C,a4D,rM,qM,qY,r7,rO,Nat.reduceAdd] at hs hrow|-;have hz:=hs;obtain⟨z0,d⟩:=aRh.1 hz
 try rw[rY d]
 clear hz hs;unfold yN at d;refine q8 RJ ?_;refine qS ?_;refine q8 RJ ?_;refine aBP (by simp only[go_sem];rfl) (fun hnil=> ?_) (fun hnil=> ?_)
 .subst hnil;obtain⟨_,d⟩:=qG d;refine q8 RJ ?_;refine qR (rQ ?_);cases d;exact pE [(0,96)]
 .refine r8 (qO ?_);obtain⟨hg1,d⟩:=qG d;refine q8 RJ ?_ (hp:=by exact⟨pS,hg1⟩)
  refine qR ?_;cases d;exact pE [(0,96)]
def aDP:Unit:=()
section
abbrev a4F:List qB:=[]
abbrev a4G:List q9:=[]
@[go_sem] def a4H:qH:=⟨[],[(.val (.list .str) ([([110,101,119]:pC),([102,117,122,122,121]:pC),([116,114,97,110,115,108,97,116,101,100]:pC),([114,101,118,105,101,119,101,100]:pC),([111,98,115,111,108,101,116,101]:pC)]:pD),none)],[]⟩
def aDQ:List qB→List q9→Option qH:=rP (V:=Unit) (fun x=>a4F) (fun x=>a4G) fun x=>a4H
@[go_sem] def aQi:aDQ (no_index a4F) (no_index a4G)=some a4H:=rR (fun _ _ h1 h2=>by cases h1;cases h2;rfl) ()
end
@[go_sem] abbrev RK:Nat×qW:=(69,⟨[],aDQ,[],[],none⟩)
def a4I:rI Tryz.prog [wE] (rJ []):=⟨⟨x4,trivial⟩,rN,rL⟩
def WV:r5 Tryz.prog RK:=by
 refine rS a4I Tryz.func69 (c:=_) rfl (N:=2) pT (ts:=[(0,none)]) rfl (fun _ _=>rfl) ?_;intro⟨⟩ hs hrow;dsimp only[a4F,a4G,a4H,rM,qM,qY,r7,rO,Nat.reduceAdd] at hs hrow|-;obtain⟨z0,d⟩: ∃z,aDP=z:=⟨_,rfl⟩
 try rw[d]
 unfold aDP at d;refine q8 a4I ?_;refine q8 a4I ?_;refine qR ?_;cases d;exact pE []
attribute [irreducible] J1 NV LE NW J2 yN
end
noncomputable section
def NX (O:yM) (Z:pC) (aA:pC):(Int×(List (pC×pC)))→Option ((Int×(List (pC×pC)))⊕((List (pC×pC))⊕(List (pC×pC)))):=fun(aB,aC)=>if (decide (aB<(O.2.2.1.length:Int)))=true then if 0≤aB∧aB<(O.2.2.1.length:Int) then if ((Z++([32]:pC)).length:Int)≤9223372036854775807 then if (((Z++([32]:pC))++aA).length:Int)≤9223372036854775807 then if (List.all ((Z++([32]:pC))++aA) fun b=>decide (b.toNat<128))=true∧List.length ((Z++([32]:pC))++aA)<4294967281 then (EC (Lib.fields ((Z++([32]:pC))++aA)) ((qU (.pair .str (.pair .str .unit)) O.2.2.1 aB).1)).bind fun aD=>if (!aD)=true then none else if qC (aB+(1:Int)) then some (.inl ((aB+(1:Int)),(tJ .str .str ((qU (.pair .str (.pair .str .unit)) O.2.2.1 aB).1) ((qU (.pair .str (.pair .str .unit)) O.2.2.1 aB).2.1) aC))) else none else none else none else none else none else some (.inr (.inl aC))
def J3 (O:pC) (Z:(List (pC×pC))):Int→Option (Int⊕(Unit⊕(List (pC×pC)))):=fun aA=>if (decide (aA<((((Lib.fields O).length):Nat):Int)))=true then if 0≤aA∧aA<((((Lib.fields O).length):Nat):Int) then if (!(vK .str .str Z (qU .str (Lib.fields O) aA)))=true then none else if qC (aA+(1:Int)) then some (.inl (aA+(1:Int))) else none else none else some (.inr (.inl ()))
def wF (O:yM) (Z:pC) (aA:pC):Option (List (pC×pC)):=vA (rU (NX O Z aA) ((0:Int),([]:List (pC×pC)))) fun aB=>if (List.all Z fun b=>decide (b.toNat<128))=true∧List.length Z<4294967281 then vA (rU (J3 Z aB) (0:Int)) fun _=>some (aB) else none
section
variable (O:yM) (Z:pC) (aA:pC)
abbrev a4J:List qB:=[(.val wZ O,none),(.val .str Z,none),(.val .str aA,none)]
abbrev a4K:List q9:=[]
@[go_sem] def a4L:qH:=⟨[((wF O Z aA)).isSome=true],[(.val .mp (some 0),none),(.val .bool true,none)],[.map .str .str (val (wF O Z aA))]⟩
def aDR:List qB→List q9→Option qH:=rP (V:=(yM×pC×pC)) (fun x=>a4J x.1 x.2.1 x.2.2) (fun x=>a4K) fun x=>a4L x.1 x.2.1 x.2.2
@[go_sem] def aQj:aDR (no_index (a4J O Z aA)) (no_index a4K)=some (a4L O Z aA):=rR (fun⟨a0,a1,a2⟩ ⟨b0,b1,b2⟩ h1 h2=>by cases h1;cases h2;rfl) (O,Z,aA)
end
@[go_sem] abbrev NY:Nat×qW:=(80,⟨[.v,.v,.v],aDR,[],[],none⟩)
def zE:rI Tryz.prog [sL,wE,CM,yZ,FK,BJ] (rJ [KS,WU]):=⟨⟨sO,⟨x4,⟨E9,⟨zU,⟨IV,⟨DC,trivial⟩⟩⟩⟩⟩⟩,qK WG (qK a3c rN),rL⟩
def RL:r5 Tryz.prog NY:=by
 refine rS zE Tryz.func80 (c:=_) rfl (N:=55) pT (ts:=[(6,none),(7,none)]) rfl (fun _ _=>rfl) ?_;intro⟨O,Z,aA⟩ hs hrow;dsimp only[a4J,a4K,a4L,rM,qM,qY,r7,rO,Nat.reduceAdd] at hs hrow|-;have hz:=hs;obtain⟨z0,e⟩:=aRh.1 hz
 try rw[rY e]
 clear hz hs;unfold wF at e;refine q8 zE ?_;refine q8 zE ?_;refine qS ?_;refine q8 zE ?_;refine rW ?_;obtain⟨y1,hy1,e⟩:=wX e;refine uV 0 (fun s=> ∃v,y1= .inl v∧s=(fun x=>⟨[(1,(.val .str Z,none)),(8,(.val .mp (some 0),none))],[(0,.map .str .str x)],1,55,0⟩) v) ?_ ?_
 .refine uP hy1 (fun x=>⟨[(1,(.val .str Z,none)),(2,(.val .str aA,none)),(8,(.val .mp (some 0),none)),(17,(.val (.list (.pair .str (.pair .str .unit))) O.2.2.1,none)),(18,(.val (.int .i64) (O.2.2.1.length:Int),none)),(19,(.val (.int .i64) x.1,none))],[(0,.map .str .str x.2)],1,55,0⟩) ⟨[1,2,8,17,18,19],[(0,96)]⟩ pU ?_;intro x1 w1 n1 d f;obtain⟨aB,aC⟩:=x1;unfold NX at d;dsimp only at d|-;refine q8 zE ?_;refine qS ?_;refine qV d (fun d hc1=> ?_) (fun d hc1=> ?_)
  .refine r8 (qO (qS (rW ?_)));obtain⟨hg1,d⟩:=qG d;refine q8 zE ?_ (hp:=by exact hg1);refine qS ?_;obtain⟨hg2,d⟩:=qG d;obtain⟨hg3,d⟩:=qG d;obtain⟨hg4,d⟩:=qG d;obtain⟨aD,hv5,hw5,d⟩:=qQ d
   try simp only[go_sem] at hw5
   refine vQ zE ?_ (hp:=by exact⟨hg2,hg3,hg4,fun _=>by first|exact rfl|exact trivial,(qP hv5)⟩) (h:=by simp only[go_sem,hw5];rfl)
   refine qV d (fun d hc2=> ?_) (fun d hc2=> ?_)
   .refine qS ?_;refine rF zE ?_;cases d
   .refine r8 (qO ?_);refine rF zE ?_;refine rT (qO ?_);obtain⟨hg6,d⟩:=qG d;refine rF zE ?_ (hp:=by exact hg6);cases d;exact tC ⟨⟨[1,2,8,17,18,19],[(0,0)]⟩,_,by rfl,f⟩
  .refine uJ (uI (uL ?_));cases d;cases f;exact uK ⟨⟨[1,8],[(0,0)]⟩,_,rfl,by rfl⟩
 .rintro _ ⟨aE,rfl,rfl⟩;dsimp only at e|-;refine uU (qO (qS ?_));obtain⟨hg7,e⟩:=qG e;refine q8 zE ?_ (hp:=by exact hg7);refine rW ?_;obtain⟨y1,hy1,e⟩:=wX e;refine uV 2 (fun s=> ∃v,y1= .inl v∧s=(fun _=>⟨[(8,(.val .mp (some 0),none))],[(0,.map .str .str aE)],1,55,0⟩) v) ?_ ?_
  .refine uP hy1 (fun x=>⟨[(8,(.val .mp (some 0),none)),(39,(.own 1 ((Lib.fields Z).length),none)),(40,(.val (.int .i64) ((((Lib.fields Z).length):Nat):Int),none)),(41,(.val (.int .i64) x,none))],[(0,.map .str .str aE),(1,.row 9 .str (Lib.fields Z) ((Lib.fields Z).length))],2,55,0⟩) ⟨[8,39,40,41],[(0,0),(1,33)]⟩ pU ?_;intro aF w1 n1 d f;unfold J3 at d;dsimp only at d|-;refine q8 zE ?_;refine qS ?_;refine qV d (fun d hc3=> ?_) (fun d hc3=> ?_)
   .refine r8 (qO (qS (rW ?_)));obtain⟨hg8,d⟩:=qG d;refine q8 zE ?_ (hp:=by exact⟨hg8,pS⟩)
    refine q8 zE ?_;refine q8 zE ?_;refine qV d (fun d hc4=> ?_) (fun d hc4=> ?_)
    .refine qS ?_;refine rF zE ?_;cases d
    .refine r8 (rT (qO ?_));obtain⟨hg9,d⟩:=qG d;refine rF zE ?_ (hp:=by exact hg9);cases d;exact tC ⟨⟨[8,39,40,41],[(0,0),(1,1)]⟩,_,by rfl,f⟩
   .refine uJ (uI (uL ?_));cases d;cases f;exact uK ⟨⟨[8],[(0,0)]⟩,_,rfl,by rfl⟩
  .rintro _ ⟨v,rfl,rfl⟩;dsimp only at e|-;refine uU (qO ?_);refine q8 zE ?_;refine qR ?_;cases e;exact pE [(0,0)]
def NZ (O:yM) (Z:pC) (aA:pC):(Int×(List (pC×pC)))→Option ((Int×(List (pC×pC)))⊕((List (pC×pC))⊕Unit)):=fun(aB,aC)=>if (decide (aB<(O.2.2.1.length:Int)))=true then if 0≤aB∧aB<(O.2.2.1.length:Int) then if ((Z++([32]:pC)).length:Int)≤9223372036854775807 then if (((Z++([32]:pC))++aA).length:Int)≤9223372036854775807 then if (List.all ((Z++([32]:pC))++aA) fun b=>decide (b.toNat<128))=true∧List.length ((Z++([32]:pC))++aA)<4294967281 then (EC (Lib.fields ((Z++([32]:pC))++aA)) ((qU (.pair .str (.pair .str .unit)) O.2.2.1 aB).1)).bind fun aD=>if (!aD)=true then some (.inr (.inr (()))) else if qC (aB+(1:Int)) then some (.inl ((aB+(1:Int)),(tJ .str .str ((qU (.pair .str (.pair .str .unit)) O.2.2.1 aB).1) ((qU (.pair .str (.pair .str .unit)) O.2.2.1 aB).2.1) aC))) else none else none else none else none else none else some (.inr (.inl aC))
def LF (O:pC) (Z:(List (pC×pC))):Int→Option (Int⊕(Unit⊕Unit)):=fun aA=>if (decide (aA<((((Lib.fields O).length):Nat):Int)))=true then if 0≤aA∧aA<((((Lib.fields O).length):Nat):Int) then if (!(vK .str .str Z (qU .str (Lib.fields O) aA)))=true then some (.inr (.inr (()))) else if qC (aA+(1:Int)) then some (.inl (aA+(1:Int))) else none else none else some (.inr (.inl ()))
def DE (O:yM) (Z:pC) (aA:pC):Option Unit:=vA (rU (NZ O Z aA) ((0:Int),([]:List (pC×pC)))) fun aB=>if (List.all Z fun b=>decide (b.toNat<128))=true∧List.length Z<4294967281 then vA (rU (LF Z aB) (0:Int)) fun _=>none else none
section
variable (O:yM) (Z:pC) (aA:pC)
abbrev a4M:List qB:=[(.val wZ O,none),(.val .str Z,none),(.val .str aA,none)]
abbrev a4N:List q9:=[]
@[go_sem] def a4O:qH:=⟨[((DE O Z aA)).isSome=true],[(.val .mp none,none),(.val .bool false,none)],[]⟩
def aDS:List qB→List q9→Option qH:=rP (V:=(yM×pC×pC)) (fun x=>a4M x.1 x.2.1 x.2.2) (fun x=>a4N) fun x=>a4O x.1 x.2.1 x.2.2
@[go_sem] def aQk:aDS (no_index (a4M O Z aA)) (no_index a4N)=some (a4O O Z aA):=rR (fun⟨a0,a1,a2⟩ ⟨b0,b1,b2⟩ h1 h2=>by cases h1;cases h2;rfl) (O,Z,aA)
end
@[go_sem] abbrev O0:Nat×qW:=(80,⟨[.v,.v,.v],aDS,[],[],none⟩)
def zF:rI Tryz.prog [sL,wE,CM,yZ,FK,BJ] (rJ [KS,WU]):=⟨⟨sO,⟨x4,⟨E9,⟨zU,⟨IV,⟨DC,trivial⟩⟩⟩⟩⟩⟩,qK WG (qK a3c rN),rL⟩
def RM:r5 Tryz.prog O0:=by
 refine rS zF Tryz.func80 (c:=_) rfl (N:=55) pT (ts:=[(6,none),(7,none)]) rfl (fun _ _=>rfl) ?_;intro⟨O,Z,aA⟩ hs hrow;dsimp only[a4M,a4N,a4O,rM,qM,qY,r7,rO,Nat.reduceAdd] at hs hrow|-;have hz:=hs;obtain⟨z0,e⟩:=aRh.1 hz
 try rw[rY e]
 clear hz hs;unfold DE at e;refine q8 zF ?_;refine q8 zF ?_;refine qS ?_;refine q8 zF ?_;refine rW ?_;obtain⟨y1,hy1,e⟩:=wX e;refine uV 0 (fun s=> ∃v,y1= .inl v∧s=(fun x=>⟨[(1,(.val .str Z,none)),(8,(.val .mp (some 0),none))],[(0,.map .str .str x)],1,55,0⟩) v) ?_ ?_
 .refine uP hy1 (fun x=>⟨[(1,(.val .str Z,none)),(2,(.val .str aA,none)),(8,(.val .mp (some 0),none)),(17,(.val (.list (.pair .str (.pair .str .unit))) O.2.2.1,none)),(18,(.val (.int .i64) (O.2.2.1.length:Int),none)),(19,(.val (.int .i64) x.1,none))],[(0,.map .str .str x.2)],1,55,0⟩) ⟨[1,2,8,17,18,19],[(0,96)]⟩ pU ?_;intro x1 w1 n1 d f;obtain⟨aB,aC⟩:=x1;unfold NZ at d;dsimp only at d|-;refine q8 zF ?_;refine qS ?_;refine qV d (fun d hc1=> ?_) (fun d hc1=> ?_)
  .refine r8 (qO (qS (rW ?_)));obtain⟨hg1,d⟩:=qG d;refine q8 zF ?_ (hp:=by exact hg1);refine qS ?_;obtain⟨hg2,d⟩:=qG d;obtain⟨hg3,d⟩:=qG d;obtain⟨hg4,d⟩:=qG d;obtain⟨aD,hv5,hw5,d⟩:=qQ d
   try simp only[go_sem] at hw5
   refine vQ zF ?_ (hp:=by exact⟨hg2,hg3,hg4,fun _=>by first|exact rfl|exact trivial,(qP hv5)⟩) (h:=by simp only[go_sem,hw5];rfl)
   refine qV d (fun d hc2=> ?_) (fun d hc2=> ?_)
   .refine q8 zF ?_;refine qR (rQ (s8 (rQ (wP (wW (s8 (rQ ?_)))))));cases d;cases f;dsimp only at e;cases e;exact pE []
   .refine r8 (qO ?_);refine rF zF ?_;refine rT (qO ?_);obtain⟨hg6,d⟩:=qG d;refine rF zF ?_ (hp:=by exact hg6);cases d;exact tC ⟨⟨[1,2,8,17,18,19],[(0,0)]⟩,_,by rfl,f⟩
  .refine uJ (uI (uL ?_));cases d;cases f;exact uK ⟨⟨[1,8],[(0,0)]⟩,_,rfl,by rfl⟩
 .rintro _ ⟨aE,rfl,rfl⟩;dsimp only at e|-;refine uU (qO (qS ?_));obtain⟨hg7,e⟩:=qG e;refine q8 zF ?_ (hp:=by exact hg7);refine rW ?_;obtain⟨y1,hy1,e⟩:=wX e;refine uV 2 (fun s=> ∃v,y1= .inl v∧s=(fun _=>⟨[(8,(.val .mp (some 0),none))],[(0,.map .str .str aE)],1,55,0⟩) v) ?_ ?_
  .refine uP hy1 (fun x=>⟨[(8,(.val .mp (some 0),none)),(39,(.own 1 ((Lib.fields Z).length),none)),(40,(.val (.int .i64) ((((Lib.fields Z).length):Nat):Int),none)),(41,(.val (.int .i64) x,none))],[(0,.map .str .str aE),(1,.row 9 .str (Lib.fields Z) ((Lib.fields Z).length))],2,55,0⟩) ⟨[8,39,40,41],[(0,0),(1,33)]⟩ pU ?_;intro aF w1 n1 d f;unfold LF at d;dsimp only at d|-;refine q8 zF ?_;refine qS ?_;refine qV d (fun d hc3=> ?_) (fun d hc3=> ?_)
   .refine r8 (qO (qS (rW ?_)));obtain⟨hg8,d⟩:=qG d;refine q8 zF ?_ (hp:=by exact⟨hg8,pS⟩)
    refine q8 zF ?_;refine q8 zF ?_;refine qV d (fun d hc4=> ?_) (fun d hc4=> ?_)
    .refine q8 zF ?_;refine qR (s8 (rQ (wP (wW (s8 (rQ ?_))))));cases d;cases f;dsimp only at e;cases e;exact pE []
    .refine r8 (rT (qO ?_));obtain⟨hg9,d⟩:=qG d;refine rF zF ?_ (hp:=by exact hg9);cases d;exact tC ⟨⟨[8,39,40,41],[(0,0),(1,1)]⟩,_,by rfl,f⟩
   .refine uJ (uI (uL ?_));cases d;cases f;exact uK ⟨⟨[8],[(0,0)]⟩,_,rfl,by rfl⟩
  .rintro _ ⟨v,rfl,rfl⟩;dsimp only at e|-;refine uU (qO (qS ?_));refine rF zF ?_;cases e
def H0 (O:pC):Option Bool:=if 0<([32]:pC).length∧List.length O<4294967281 then if 0<(sZ O ([32]:pC)).length∧List.length (sZ O ([32]:pC))≤9223372036854775807 then (LE (u7 (sZ O ([32]:pC)))).bind fun Z=>some ((!Z)) else none else none
section
variable (O:pC)
abbrev a4P:List qB:=[(.val .str O,none)]
abbrev a4Q:List q9:=[]
@[go_sem] def a4R:qH:=⟨[((H0 O)).isSome=true],[(.own 0 ((u7 (sZ O ([32]:pC))).length),none),(.val .bool (val (H0 O)),none)],[.row 9 .str (u7 (sZ O ([32]:pC))) ((u7 (sZ O ([32]:pC))).length)]⟩
def aDT:List qB→List q9→Option qH:=rP (V:=pC) (a4P) (fun x=>a4Q) fun x=>a4R x
@[go_sem] def aQl:aDT (no_index (a4P O)) (no_index a4Q)=some (a4R O):=rR (fun a0 b0 h1 h2=>by cases h1;cases h2;rfl) O
end
@[go_sem] abbrev WW:Nat×qW:=(87,⟨[.v],aDT,[],[],none⟩)
def WX:rI Tryz.prog [wE] (rJ [NB,NC,aDI]):=⟨⟨x4,trivial⟩,qK a1K (qK a1L (qK aLN rN)),rL⟩
def a4S:r5 Tryz.prog WW:=by
 refine rS WX Tryz.func87 (c:=_) rfl (N:=12) pT (ts:=[(2,none),(3,none)]) rfl (fun _ _=>rfl) ?_;intro O hs hrow;dsimp only[a4P,a4Q,a4R,rM,qM,qY,r7,rO,Nat.reduceAdd] at hs hrow|-;have hz:=hs;obtain⟨z0,e⟩:=aRh.1 hz
 try rw[rY e]
 clear hz hs;unfold H0 at e;refine q8 WX ?_;obtain⟨hg1,e⟩:=qG e;obtain⟨hg2,e⟩:=qG e;refine q8 WX ?_ (hp:=by exact⟨hg1,pS,hg2⟩)
 obtain⟨Z,hv3,hw3,e⟩:=qQ e
 try simp only[go_sem] at hw3
 refine q8 WX ?_ (hp:=by exact⟨fun _=>by first|exact rfl|exact trivial,(qP hv3)⟩) (h:=by simp only[go_sem,hw3];rfl)
 refine qR ?_;cases e;exact pE [(0,129)]
attribute [irreducible] wF DE H0
end
noncomputable section
def WY:(Int×pC)→pL→Option (pL⊕pC):=fun O Z=>(DD (Z,()) O.2).bind fun aA=>some (.inl (Z++uR O.2))
def H4 (O:vI):Option pC:=if List.length O.2.1≤4611686018427387904 then vA (zC (WY) (CH O) ([]:pL)) fun Z=>some ((vG Z)) else none
section
variable (O:vI)
abbrev a4T:List qB:=[(.val xA O,none)]
abbrev a4U:List q9:=[]
@[go_sem] def a4V:qH:=⟨[((H4 O)).isSome=true],[(.val .str (val (H4 O)),none)],[]⟩
def aDU:List qB→List q9→Option qH:=rP (V:=vI) (a4T) (fun x=>a4U) fun x=>a4V x
@[go_sem] def aQm:aDU (no_index (a4T O)) (no_index a4U)=some (a4V O):=rR (fun a0 b0 h1 h2=>by cases h1;cases h2;rfl) O
end
@[go_sem] abbrev a4W:Nat×qW:=(13,⟨[.v],aDU,[],[],none⟩)
def LG:rI Tryz.prog [GP,GQ] (rJ [aCG,WR,GN]):=⟨⟨L2,⟨L3,trivial⟩⟩,qK aLs (qK a2w (qK NA rN)),rL⟩
def aDV:r5 Tryz.prog a4W:=by
 refine rS LG Tryz.func13 (c:=_) rfl (N:=13) pT (ts:=[(2,none)]) rfl (fun _ _=>rfl) ?_;intro O hs hrow;dsimp only[a4T,a4U,a4V,rM,qM,qY,r7,rO,Nat.reduceAdd] at hs hrow|-;have hz:=hs;obtain⟨z0,d⟩:=aRh.1 hz
 try rw[rY d]
 clear hz hs;unfold H4 at d;refine q8 LG ?_;refine q8 LG ?_;refine qS ?_;refine q8 LG ?_;refine rW ?_;obtain⟨hgF2,d⟩:=qG d;obtain⟨y1,hy1,d⟩:=wX d;refine aKW aK3 aKY pU pU hgF2 hy1 [(3,(.val .ref (some (0,0)),none))] (fun Z=>[(3,(.val .ref (some (0,0)),none)),(5,(.val .str Z.2,none))]) (fun x=>[.cells wD ((some (0,0)),(x,())) [(1,1)],.grow 5 1 (x.length)]) 1 ⟨[3],[(0,64),(1,65)]⟩ pU pU pU pU (aSA pU) (fun _=>aSA rfl) (fun _=>by rfl) (fun _=>rfl) pU ?_ ?_
 .intro Z aA w1 e g;refine⟨?_,?_⟩
  .dsimp only[IM,aCe,tN,qM,qY,Nat.reduceAdd,List.toList_toArray];refine rF LG ?_;exact aCc ⟨[3,5],[(0,0),(1,1)]⟩ pU
  .unfold WY at e;dsimp only[qM,qY,Nat.reduceAdd] at e|-;refine rW ?_;obtain⟨aB,hv1,hw1,e⟩:=qQ e
   try simp only[go_sem] at hw1
   refine rF LG ?_ (hp:=by exact⟨pS,(qP hv1)⟩) (h:=by simp only[go_sem,hw1];rfl)
   refine rT ?_;cases e;exact aCd ⟨[],[(0,0),(1,1)]⟩ _ rfl pU
 .rintro aA rfl;dsimp only[qM,qY,Nat.reduceAdd] at d|-;refine rT (qO ?_);refine q8 LG ?_ (hp:=by first|rfl|trivial)
  refine qR ?_;cases d;exact pE []
def EF (O:pC):Option Unit:=if (((decide ((O.length:Int)≤(4000:Int)))==true)=true→((RA O)).isSome=true) then some (()) else none
section
variable (O:pC)
abbrev a4X:List qB:=[(.val .str O,none)]
abbrev a4Y:List q9:=[]
@[go_sem] def a4Z:qH:=⟨[((EF O)).isSome=true],[(.val .bool ((decide ((O.length:Int)≤(4000:Int)))&&(Lib.validD O)),none)],[]⟩
def aDW:List qB→List q9→Option qH:=rP (V:=pC) (a4X) (fun x=>a4Y) fun x=>a4Z x
@[go_sem] def aQn:aDW (no_index (a4X O)) (no_index a4Y)=some (a4Z O):=rR (fun a0 b0 h1 h2=>by cases h1;cases h2;rfl) O
end
@[go_sem] abbrev RN:Nat×qW:=(97,⟨[.v],aDW,[],[],none⟩)
def a41:rI Tryz.prog [sL] (rJ [aC4]):=⟨⟨sO,trivial⟩,qK aLy rN,rL⟩
def WZ:r5 Tryz.prog RN:=by
 refine rS a41 Tryz.func97 (c:=_) rfl (N:=10) pT (ts:=[(2,none)]) rfl (fun _ _=>rfl) ?_;intro O hs hrow;dsimp only[a4X,a4Y,a4Z,rM,qM,qY,r7,rO,Nat.reduceAdd] at hs hrow|-;have hz:=hs;obtain⟨z0,d⟩:=aRh.1 hz
 try rw[rY d]
 clear hz hs;unfold EF at d;refine q8 a41 ?_;obtain⟨hg1,d⟩:=qG d;refine q8 a41 ?_ (hp:=by exact⟨id,hg1,sY⟩);refine qR ?_;cases d;exact pE []
attribute [irreducible] H4 EF
end
noncomputable section
def RO (O:vI) (Z:vI):((List (Int×(pC×Unit)))×Int)→Option (((List (Int×(pC×Unit)))×Int)⊕(List (Int×(pC×Unit)))):=fun(aA,aB)=>if (decide (aB<(((([O.1]:pD)++O.2.1)++([O.2.2.1]:pD)).length:Int)))=true then if 0≤aB∧aB<(((([O.1]:pD)++O.2.1)++([O.2.2.1]:pD)).length:Int) then if 0≤aB∧aB<(((([Z.1]:pD)++Z.2.1)++([Z.2.2.1]:pD)).length:Int) then if (!decide ((qU .str ((([O.1]:pD)++O.2.1)++([O.2.2.1]:pD)) aB)=(qU .str ((([Z.1]:pD)++Z.2.1)++([Z.2.2.1]:pD)) aB)))=true then if 0≤aB∧aB<(((([O.1]:pD)++O.2.1)++([O.2.2.1]:pD)).length:Int) then if (aA.length+([(aB,((qU .str ((([O.1]:pD)++O.2.1)++([O.2.2.1]:pD)) aB),()))]:List (Int×(pC×Unit))).length)*24≤140737488355328 then if qC (aB+(1:Int)) then some (.inl ((aA++([(aB,((qU .str ((([O.1]:pD)++O.2.1)++([O.2.2.1]:pD)) aB),()))]:List (Int×(pC×Unit)))),(aB+(1:Int)))) else none else none else none else if qC (aB+(1:Int)) then some (.inl (aA,(aB+(1:Int)))) else none else none else none else some (.inr aA)
def H5 (O:vI) (Z:vI):Option ((List (Int×(pC×Unit)))×Int):=if (!decide ((O.2.1.length:Int)=(Z.2.1.length:Int)))=true then some ((([]:List (Int×(pC×Unit))),(1:Int))) else (L6 O).bind fun aA=>(L6 Z).bind fun aB=>sJ (rU (RO O Z) (([]:List (Int×(pC×Unit))),(0:Int))) fun aC=>some ((aC,(0:Int)))
section
variable (O:vI) (Z:vI)
abbrev a42:List qB:=[(.val xA O,none),(.val xA Z,none)]
abbrev a43:List q9:=[]
@[go_sem] def a44:qH:=⟨[((H5 O Z)).isSome=true],[(.val (.list KP) ((val (H5 O Z)).1),some 0),(.val (.int .i64) ((val (H5 O Z)).2),none)],[.grow 119 2 (((val (H5 O Z)).1).length)]⟩
def aDX:List qB→List q9→Option qH:=rP (V:=(vI×vI)) (fun x=>a42 x.1 x.2) (fun x=>a43) fun x=>a44 x.1 x.2
@[go_sem] def aQo:aDX (no_index (a42 O Z)) (no_index a43)=some (a44 O Z):=rR (fun⟨a0,a1⟩ ⟨b0,b1⟩ h1 h2=>by cases h1;cases h2;rfl) (O,Z)
end
@[go_sem] abbrev aDY:Nat×qW:=(43,⟨[.v,.v],aDX,[],[],none⟩)
def CP:rI Tryz.prog [sL,wE,NJ,WQ,a2i] (rJ [aCN]):=⟨⟨sO,⟨x4,⟨WN,⟨aCz,⟨aLq,trivial⟩⟩⟩⟩⟩,qK aLu rN,rL⟩
def aLQ:r5 Tryz.prog aDY:=by
 refine rS CP Tryz.func43 (c:=_) rfl (N:=46) pT (ts:=[(4,none),(5,none)]) rfl (fun _ _=>rfl) ?_;intro⟨O,Z⟩ hs hrow;dsimp only[a42,a43,a44,rM,qM,qY,r7,rO,Nat.reduceAdd] at hs hrow|-;have hz:=hs;obtain⟨z0,f⟩:=aRh.1 hz
 try rw[rY f]
 clear hz hs;unfold H5 at f;refine q8 CP ?_;refine qS ?_;refine q8 CP ?_;refine qV f (fun f hc1=> ?_) (fun f hc1=> ?_)
 .refine q8 CP ?_;refine qR (rQ ?_);cases f;exact pE [(0,352)]
 .refine r8 (qO ?_);refine q8 CP ?_;obtain⟨aA,hv1,hw1,f⟩:=qQ f
  try simp only[go_sem] at hw1
  obtain⟨aB,hv2,hw2,f⟩:=qQ f
  try simp only[go_sem] at hw2
  refine vQ CP ?_ (hp:=by exact⟨qP hv1,(qP hv2)⟩) (h:=by simp only[go_sem,hw1,hw2];rfl);refine qS ?_;refine q8 CP ?_;refine rW ?_;obtain⟨aC,hy1,f⟩:=qI f;refine uV 0 (fun s=>s=(fun x=>⟨[(6,(.val (.list KP) x,some 0))],[(0,.grow 119 2 (x.length))],1,46,0⟩) aC) ?_ ?_
  .refine uP hy1 (fun x=>⟨[(6,(.val (.list KP) x.1,some 0)),(7,(.val (.list .str) ((([O.1]:pD)++O.2.1)++([O.2.2.1]:pD)),some 1)),(8,(.val (.list .str) ((([Z.1]:pD)++Z.2.1)++([Z.2.2.1]:pD)),some 2)),(9,(.val (.int .i64) x.2,none))],[(0,.grow 119 2 (x.1.length)),(1,.grow 9 1 (((([O.1]:pD)++O.2.1)++([O.2.2.1]:pD)).length)),(2,.grow 9 1 (((([Z.1]:pD)++Z.2.1)++([Z.2.2.1]:pD)).length))],3,46,0⟩) ⟨[6,7,8,9],[(0,352),(1,416),(2,480)]⟩ pU ?_;intro x1 w1 n1 e g;obtain⟨aD,aE⟩:=x1;unfold RO at e;dsimp only at e|-;refine qS ?_;refine q8 CP ?_;refine qV e (fun e hc2=> ?_) (fun e hc2=> ?_)
   .refine r8 (qO (qS (rW ?_)));obtain⟨hg3,e⟩:=qG e;obtain⟨hg4,e⟩:=qG e;refine vQ CP ?_ (hp:=by exact⟨hg3,hg4⟩);refine qV e (fun e hc3=> ?_) (fun e hc3=> ?_)
    .obtain⟨hg5,e⟩:=qG e;obtain⟨hg6,e⟩:=qG e;refine rF CP ?_ (hp:=by exact⟨hg5,pS,hg6⟩)
     refine rT (qO ?_);obtain⟨hg7,e⟩:=qG e;refine rF CP ?_ (hp:=by exact hg7);cases e;exact tC ⟨⟨[6,7,8,9],[(0,0),(1,1),(2,2)]⟩,_,by rfl,g⟩
    .refine r8 (rT (qO ?_));obtain⟨hg8,e⟩:=qG e;refine rF CP ?_ (hp:=by exact hg8);cases e;exact tC ⟨⟨[6,7,8,9],[(0,0),(1,1),(2,2)]⟩,_,by rfl,g⟩
   .refine uJ (uI (uL ?_));cases e;cases g;exact uK ⟨⟨[6],[(0,0)]⟩,by rfl⟩
  .rintro _ rfl;dsimp only at f|-;refine uU (qO ?_);refine q8 CP ?_;refine qR ?_;cases f;exact pE [(0,0)]
def RP (O:Int) (Z:Int) (aA:sV) (aB:(pL×Unit)) (aC:pJ):(List s9)→Option ((List s9)⊕(List s9)):=fun aD=>if (((decide (Z=(0:Int)))==true)=true→0≤(0:Int)∧(0:Int)<(aD.length:Int)) then if ((((decide (Z=(0:Int)))==true)&&((decide ((qU sM aD (0:Int)).1=(1:Int)))==false))=true→0≤(0:Int)∧(0:Int)<(aD.length:Int)) then if (((((decide (Z=(0:Int)))==true)&&((decide ((qU sM aD (0:Int)).1=(1:Int)))==false))&&((decide ((qU sM aD (0:Int)).1=(3:Int)))==true))=true→0≤(0:Int)∧(0:Int)<(aD.length:Int)) then if (((((decide (Z=(0:Int)))==true)&&((decide ((qU sM aD (0:Int)).1=(1:Int)))==false))&&((decide ((qU sM aD (0:Int)).1=(3:Int)))==true))=true→(List.all ([32,9,10,13]:pC) fun b=>decide (b.toNat<128))=true∧List.length ([32,9,10,13]:pC)<4294967281) then if (((((decide (Z=(0:Int)))==true)&&((decide ((qU sM aD (0:Int)).1=(1:Int)))==false))&&((decide ((qU sM aD (0:Int)).1=(3:Int)))==true))=true→List.length (qU sM aD (0:Int)).2.1≤9223372036854775807) then if ((decide (Z=(0:Int)))&&((decide ((qU sM aD (0:Int)).1=(1:Int)))||((decide ((qU sM aD (0:Int)).1=(3:Int)))&&(decide ((Lib.trimS ((qU sM aD (0:Int)).2.1) ([32,9,10,13]:pC))=([]:pC))))))=true then (xT aD O Z (aA.1,(aA.2.1,(aA.2.2.1,(aA.2.2.2.1,())))) (aB.1,()) aC).bind fun aE=>some (.inl aE) else some (.inr aD) else none else none else none else none else none
def zV (O:(List s9)) (Z:Int) (aA:Int) (aB:sV) (aC:(pL×Unit)) (aD:pJ):Option (List s9):=sJ (rU (RP Z aA aB aC aD) O) fun aE=>some (aE)
section
variable (O:(List s9)) (Z:Int) (aA:Int) (aB:sV) (aC:(pL×Unit)) (aD:Nat) (aE:Nat) (aF:pJ)
abbrev a45:List qB:=[(.val .ref (some (0,0)),none)]
abbrev a47:List q9:=[.cells sN (O,(Z,(aA,(aB,((some 3),aC))))) [(6,1),(8,2)],.grow 53 7 aD,.grow 3 1 aE,.map .str .bool aF]
@[go_sem] def a48:qH:=⟨[aD=(aB.2.2.2.1.length),aE=(aC.1.length),((zV O Z aA aB aC aF)).isSome=true],[],[.cells sN ((val (zV O Z aA aB aC aF)),(Z,(aA,((aB.1,(aB.2.1,(aB.2.2.1,(aB.2.2.2.1,())))),((some 3),(aC.1,())))))) [(6,1),(8,2)],.grow 53 7 (aB.2.2.2.1.length),.grow 3 1 (aC.1.length),.map .str .bool aF]⟩
def aDZ:List qB→List q9→Option qH:=rP (V:=((List s9)×Int×Int×sV×(pL×Unit)×Nat×Nat×pJ)) (fun x=>a45) (fun x=>a47 x.1 x.2.1 x.2.2.1 x.2.2.2.1 x.2.2.2.2.1 x.2.2.2.2.2.1 x.2.2.2.2.2.2.1 x.2.2.2.2.2.2.2) fun x=>a48 x.1 x.2.1 x.2.2.1 x.2.2.2.1 x.2.2.2.2.1 x.2.2.2.2.2.1 x.2.2.2.2.2.2.1 x.2.2.2.2.2.2.2
@[go_sem] def aQp:aDZ (no_index a45) (no_index (a47 O Z aA aB aC aD aE aF))=some (a48 O Z aA aB aC aD aE aF):=rR (fun⟨a0,a1,a2,a3,a4,a5,a6,a7⟩ ⟨b0,b1,b2,b3,b4,b5,b6,b7⟩ h1 h2=>by cases h1;cases h2;rfl) (O,Z,aA,aB,aC,aD,aE,aF)
end
@[go_sem] abbrev O1:Nat×qW:=(52,⟨[.p sN [6,8]],aDZ,[(0,7,.m)],[1,2,3],none⟩)
def a5a:rI Tryz.prog [xK,sL,CL,CJ,BI,AC] (rJ [KR,IY]):=⟨⟨yA,⟨sO,⟨E8,⟨GO,⟨DB,⟨FF,trivial⟩⟩⟩⟩⟩⟩,qK WF (qK L9 rN),rL⟩
def RQ:r5 Tryz.prog O1:=by
 refine rS a5a Tryz.func52 (c:=_) rfl (N:=40) pT (ts:=[]) rfl (fun _ _=>rfl) ?_;intro⟨O,Z,aA,aB,aC,aD,aE,aF⟩ hs hrow;dsimp only[a45,a47,a48,rM,qM,qY,r7,rO,Nat.reduceAdd] at hs hrow|-;obtain⟨rfl,rfl,hz⟩:=hs;obtain⟨z0,f⟩:=aRh.1 hz
 try rw[rY f]
 clear hz;unfold zV at f;refine rW ?_;obtain⟨aG,hy1,f⟩:=qI f;refine uV 0 (fun s=>s=(fun x=>⟨[],[(0,.cells sN (x,(Z,(aA,((aB.1,(aB.2.1,(aB.2.2.1,(aB.2.2.2.1,())))),((some 3),(aC.1,())))))) [(6,1),(8,2)]),(1,.grow 53 7 (aB.2.2.2.1.length)),(2,.grow 3 1 (aC.1.length)),(3,.map .str .bool aF)],4,40,4⟩) aG) ?_ ?_
 .refine uP hy1 (fun x=>⟨[(0,(.val .ref (some (0,0)),none))],[(0,.cells sN (x,(Z,(aA,((aB.1,(aB.2.1,(aB.2.2.1,(aB.2.2.2.1,())))),((some 3),(aC.1,())))))) [(6,1),(8,2)]),(1,.grow 53 7 (aB.2.2.2.1.length)),(2,.grow 3 1 (aC.1.length)),(3,.map .str .bool aF)],4,40,4⟩) ⟨[0],[(0,0),(1,1),(2,2),(3,3)]⟩ pU ?_;intro aH w1 n1 e g;unfold RP at e;dsimp only at e|-;refine qS ?_;obtain⟨hg1,e⟩:=qG e;obtain⟨hg2,e⟩:=qG e;obtain⟨hg3,e⟩:=qG e;obtain⟨hg4,e⟩:=qG e;obtain⟨hg5,e⟩:=qG e;refine q8 a5a ?_ (hp:=by exact⟨id,id,id,id,hg1,id,id,id,id,id,id,id,id,hg2,id,id,id,id,id,id,id,id,hg3,id,id,id,hg4,hg5,id,id,fun hG d=>W3 hG d,id,fun hG d=>IJ hG d,sY⟩);refine qV e (fun e hc1=> ?_) (fun e hc1=> ?_)
  .refine r8 (qO (rW ?_));obtain⟨aI,hv6,hw6,e⟩:=qQ e
   try simp only[go_sem] at hw6
   refine rF a5a ?_ (hp:=by exact⟨pS,pS,pS,pS,pS,(qP hv6)⟩) (h:=by simp only[go_sem,hw6];rfl)
   refine rT ?_;cases e;exact tC ⟨⟨[0],[(0,0),(1,1),(2,2),(3,3)]⟩,_,by rfl,g⟩
  .refine uJ (uI (uL ?_));cases e;cases g;exact uK ⟨⟨[],[(0,0),(1,1),(2,2),(3,3)]⟩,by rfl⟩
 .rintro _ rfl;dsimp only at f|-;refine uU ?_;cases f;exact pE [(0,0),(1,1),(2,2),(3,3)]
attribute [irreducible] H5 zV
end
noncomputable section
def LH (O:r6):Option Bool:=if (decide (O.1=([105,100]:pC)))=true then some (((decide (O.2.1=([]:pC)))||(decide ((200:Int)<(O.2.1.length:Int))))) else if (decide (O.1=([115,116,97,116,101]:pC)))=true then (EC ([([110,101,119]:pC),([102,117,122,122,121]:pC),([116,114,97,110,115,108,97,116,101,100]:pC),([114,101,118,105,101,119,101,100]:pC),([111,98,115,111,108,101,116,101]:pC)]:pD) O.2.1).bind fun Z=>some ((!Z)) else (H0 O.2.1).bind fun aA=>some ((!aA))
section
variable (O:r6)
abbrev a5b:List qB:=[(.val (.pair .str (.pair .str .unit)) O,none)]
abbrev a5c:List q9:=[]
@[go_sem] def a5d:qH:=⟨[((LH O)).isSome=true],[(.val .bool (val (LH O)),none)],[]⟩
def aD0:List qB→List q9→Option qH:=rP (V:=r6) (a5b) (fun x=>a5c) fun x=>a5d x
@[go_sem] def aQq:aD0 (no_index (a5b O)) (no_index a5c)=some (a5d O):=rR (fun a0 b0 h1 h2=>by cases h1;cases h2;rfl) O
end
@[go_sem] abbrev aD1:Nat×qW:=(90,⟨[.v],aD0,[],[],none⟩)
def H6:rI Tryz.prog [sL,BJ] (rJ [RK,WU,WW]):=⟨⟨sO,⟨DC,trivial⟩⟩,qK WV (qK a3c (qK a4S rN)),rL⟩
def aLR:r5 Tryz.prog aD1:=by
 refine rS H6 Tryz.func90 (c:=_) rfl (N:=33) pT (ts:=[(2,none)]) rfl (fun _ _=>rfl) ?_;intro O hs hrow;dsimp only[a5b,a5c,a5d,rM,qM,qY,r7,rO,Nat.reduceAdd] at hs hrow|-;have hz:=hs;obtain⟨z0,d⟩:=aRh.1 hz
 try rw[rY d]
 clear hz hs;unfold LH at d;refine q8 H6 ?_;refine qS ?_;refine q8 H6 ?_;refine rW ?_;refine q8 H6 ?_;refine qV d (fun d hc1=> ?_) (fun d hc1=> ?_)
 .refine q8 H6 ?_ (hp:=by exact⟨id,id,id,sU⟩);refine qR (s8 (rQ ?_));cases d;exact pE []
 .refine q8 H6 ?_;refine qV d (fun d hc2=> ?_) (fun d hc2=> ?_)
  .obtain⟨Z,hv1,hw1,d⟩:=qQ d
   try simp only[go_sem] at hw1
   refine vQ H6 ?_ (hp:=by exact(qP hv1)) (h:=by simp only[go_sem,hw1];rfl);refine qR (s8 (rQ ?_));cases d;exact pE []
  .refine r8 (rT (qO ?_));obtain⟨aA,hv2,hw2,d⟩:=qQ d
   try simp only[go_sem] at hw2
   refine q8 H6 ?_ (hp:=by exact(qP hv2)) (h:=by simp only[go_sem,hw2];rfl);refine q8 H6 ?_;refine qR ?_;cases d;exact pE []
def a5e (O:Int) (Z:Int) (aA:Bool):Option pC:=if (decide (O=(4:Int)))=true then (aC8 Z).bind fun aB=>some (aB) else if (decide (Z=(10:Int)))=true then some (([92,110]:pC)) else if (decide (Z=(13:Int)))=true then some (([92,114]:pC)) else if (decide (Z=(9:Int)))=true then some (([92,116]:pC)) else sJ (σ:=Bool) (if (decide (Z=(92:Int)))=true then some ((decide (Z=(92:Int)))) else if (((decide (O=(1:Int)))==true)=true→((NR Z ([61,58,35,33]:pC))).isSome=true) then if ((decide (O=(1:Int)))&&(val (NR Z ([61,58,35,33]:pC))))=true then some (((decide (O=(1:Int)))&&(val (NR Z ([61,58,35,33]:pC))))) else if (((decide (O=(1:Int)))&&aA)&&(decide (Z=(32:Int))))=true then some ((((decide (O=(1:Int)))&&aA)&&(decide (Z=(32:Int))))) else if ((!decide (O=(1:Int)))&&(decide (Z=(34:Int))))=true then some (((!decide (O=(1:Int)))&&(decide (Z=(34:Int))))) else if (((decide (O=(3:Int)))==true)=true→((NR Z ([123,125]:pC))).isSome=true) then some (((decide (O=(3:Int)))&&(val (NR Z ([123,125]:pC))))) else none else none ) fun aC=>if aC=true then if ((([92]:pC)++(vG ([Z]:pL))).length:Int)≤9223372036854775807 then some ((([92]:pC)++(vG ([Z]:pL)))) else none else if (((decide (Z<(32:Int)))||(decide (Z=(127:Int))))&&(decide (O=(3:Int))))=true then if False then if ((([92,117,48,48]:pC)++(IN (IntKind.wrap .i64 Z))).length:Int)≤9223372036854775807 then some ((([92,117,48,48]:pC)++(IN (IntKind.wrap .i64 Z)))) else none else none else if ((decide (Z<(32:Int)))||(decide (Z=(127:Int))))=true then if False then if ((([92,120]:pC)++(IN (IntKind.wrap .i64 Z))).length:Int)≤9223372036854775807 then some ((([92,120]:pC)++(IN (IntKind.wrap .i64 Z)))) else none else none else some ((vG ([Z]:pL)))
def EG (O:pC) (Z:pC):Option (pC×Bool):=(LA O Z).bind fun aA=>some ((aA.1,aA.2))
section
variable (O:pC) (Z:pC)
abbrev a5f:List qB:=[(.val .str O,none),(.val .str Z,none)]
abbrev a5g:List q9:=[]
@[go_sem] def a5h:qH:=⟨[((EG O Z)).isSome=true],[(.val .str ((val (EG O Z)).1),none),(.val .bool ((val (EG O Z)).2),none)],[]⟩
def aD2:List qB→List q9→Option qH:=rP (V:=(pC×pC)) (fun x=>a5f x.1 x.2) (fun x=>a5g) fun x=>a5h x.1 x.2
@[go_sem] def aQr:aD2 (no_index (a5f O Z)) (no_index a5g)=some (a5h O Z):=rR (fun⟨a0,a1⟩ ⟨b0,b1⟩ h1 h2=>by cases h1;cases h2;rfl) (O,Z)
end
@[go_sem] abbrev X0:Nat×qW:=(124,⟨[.v,.v],aD2,[],[],none⟩)
def a5i:rI Tryz.prog [] (rJ [aDd]):=⟨trivial,qK aLB rN,rL⟩
def a5j:r5 Tryz.prog X0:=by
 refine rS a5i Tryz.func124 (c:=_) rfl (N:=11) pT (ts:=[(4,none),(5,none)]) rfl (fun _ _=>rfl) ?_;intro⟨O,Z⟩ hs hrow;dsimp only[a5f,a5g,a5h,rM,qM,qY,r7,rO,Nat.reduceAdd] at hs hrow|-;have hz:=hs;obtain⟨z0,d⟩:=aRh.1 hz
 try rw[rY d]
 clear hz hs;unfold EG at d;refine q8 a5i ?_;obtain⟨aA,hv1,hw1,d⟩:=qQ d
 try simp only[go_sem] at hw1
 refine q8 a5i ?_ (hp:=by exact(qP hv1)) (h:=by simp only[go_sem,hw1];rfl);refine qR ?_;cases d;exact pE []
attribute [irreducible] LH a5e EG
end
noncomputable section
def J4 (O:Int):Option pC:=if (decide (O=(38:Int)))=true then some (([38,97,109,112,59]:pC)) else if (decide (O=(60:Int)))=true then some (([38,108,116,59]:pC)) else if (decide (O=(62:Int)))=true then some (([38,103,116,59]:pC)) else if (decide (O=(34:Int)))=true then some (([38,113,117,111,116,59]:pC)) else if ((decide (O<(32:Int)))||(decide (O=(127:Int))))=true then if-9223372036854775808≤(IntKind.wrap .i64 O)∧(IntKind.wrap .i64 O)≤9223372036854775807 then if ((([38,35]:pC)++(Lib.itoa (IntKind.wrap .i64 O))).length:Int)≤9223372036854775807 then if (((([38,35]:pC)++(Lib.itoa (IntKind.wrap .i64 O)))++([59]:pC)).length:Int)≤9223372036854775807 then some (((([38,35]:pC)++(Lib.itoa (IntKind.wrap .i64 O)))++([59]:pC))) else none else none else none else some ((vG ([O]:pL)))
section
variable (O:Int)
abbrev a5k:List qB:=[(.val (.int .u8) O,none)]
abbrev a5l:List q9:=[]
@[go_sem] def a5m:qH:=⟨[((J4 O)).isSome=true],[(.val .str (val (J4 O)),none)],[]⟩
def aD3:List qB→List q9→Option qH:=rP (V:=Int) (a5k) (fun x=>a5l) fun x=>a5m x
@[go_sem] def aQs:aD3 (no_index (a5k O)) (no_index a5l)=some (a5m O):=rR (fun a0 b0 h1 h2=>by cases h1;cases h2;rfl) O
end
@[go_sem] abbrev aD4:Nat×qW:=(140,⟨[.v],aD3,[],[],none⟩)
def BM:rI Tryz.prog [xK,IR,sL,FH] (rJ [a3I,N8]):=⟨⟨yA,⟨NI,⟨sO,⟨IS,trivial⟩⟩⟩⟩,qK aDg (qK a1I rN),rL⟩
def aLS:r5 Tryz.prog aD4:=by
 refine rS BM Tryz.func140 (c:=_) rfl (N:=22) pT (ts:=[(2,none)]) rfl (fun _ _=>rfl) ?_;intro O hs hrow;dsimp only[a5k,a5l,a5m,rM,qM,qY,r7,rO,Nat.reduceAdd] at hs hrow|-;have hz:=hs;obtain⟨z0,d⟩:=aRh.1 hz
 try rw[rY d]
 clear hz hs;unfold J4 at d;refine q8 BM ?_;refine qS ?_;refine q8 BM ?_;refine rW ?_;refine q8 BM ?_;refine qV d (fun d hc1=> ?_) (fun d hc1=> ?_)
 .refine q8 BM ?_;refine qR (s8 (rQ ?_));cases d;exact pE []
 .refine q8 BM ?_;refine qV d (fun d hc2=> ?_) (fun d hc2=> ?_)
  .refine q8 BM ?_;refine qR (s8 (rQ ?_));cases d;exact pE []
  .refine q8 BM ?_;refine qV d (fun d hc3=> ?_) (fun d hc3=> ?_)
   .refine q8 BM ?_;refine qR (s8 (rQ ?_));cases d;exact pE []
   .refine q8 BM ?_;refine qV d (fun d hc4=> ?_) (fun d hc4=> ?_)
    .refine q8 BM ?_;refine qR (s8 (rQ ?_));cases d;exact pE []
    .refine r8 (rT (qO (qS ?_)));refine q8 BM ?_;refine qV d (fun d hc5=> ?_) (fun d hc5=> ?_)
     .obtain⟨hg1,d⟩:=qG d;obtain⟨hg2,d⟩:=qG d;obtain⟨hg3,d⟩:=qG d;refine q8 BM ?_ (hp:=by exact⟨hg1,hg2,hg3⟩);refine qR (rQ ?_);cases d;exact pE []
     .refine r8 (qO ?_);refine q8 BM ?_;refine qR ?_;cases d;exact pE []
def RR (O:Int) (Z:Int) (aA:Bool):Option pC:=sJ (σ:=pC) (if (decide (O=(1:Int)))=true then some (([61,58,35,33]:pC)) else if (decide (O=(2:Int)))=true then some (([34]:pC)) else if (decide (O=(3:Int)))=true then some (([34,123,125]:pC)) else some (([]:pC)) ) fun aB=>if (decide (Z=(92:Int)))=true then some (([92,92]:pC)) else if (decide (Z=(10:Int)))=true then some (([92,110]:pC)) else if (decide (Z=(13:Int)))=true then some (([92,114]:pC)) else if (decide (Z=(9:Int)))=true then some (([92,116]:pC)) else sJ (σ:=Bool) (if (decide ((0:Int)≤(v7 aB Z)))=true then some ((decide ((0:Int)≤(v7 aB Z)))) else some ((((decide (O=(1:Int)))&&aA)&&(decide (Z=(32:Int))))) ) fun aC=>if aC=true then if ((([92]:pC)++(vG ([Z]:pL))).length:Int)≤9223372036854775807 then some ((([92]:pC)++(vG ([Z]:pL)))) else none else if (((decide (Z<(32:Int)))||(decide (Z=(127:Int))))&&(decide (O=(3:Int))))=true then if False then if ((([92,117]:pC)++(QX Z (4:Int))).length:Int)≤9223372036854775807 then some ((([92,117]:pC)++(QX Z (4:Int)))) else none else none else if ((decide (Z<(32:Int)))||(decide (Z=(127:Int))))=true then if False then if ((([92,120]:pC)++(QX Z (2:Int))).length:Int)≤9223372036854775807 then some ((([92,120]:pC)++(QX Z (2:Int)))) else none else none else some ((vG ([Z]:pL)))
section
variable (O:Int) (Z:Int) (aA:Bool)
abbrev a5n:List qB:=[(.val (.int .i64) O,none),(.val (.int .u8) Z,none),(.val .bool aA,none)]
abbrev a5o:List q9:=[]
@[go_sem] def a5p:qH:=⟨[((RR O Z aA)).isSome=true],[(.val .str (val (RR O Z aA)),none)],[]⟩
def aD5:List qB→List q9→Option qH:=rP (V:=(Int×Int×Bool)) (fun x=>a5n x.1 x.2.1 x.2.2) (fun x=>a5o) fun x=>a5p x.1 x.2.1 x.2.2
@[go_sem] def aQt:aD5 (no_index (a5n O Z aA)) (no_index a5o)=some (a5p O Z aA):=rR (fun⟨a0,a1,a2⟩ ⟨b0,b1,b2⟩ h1 h2=>by cases h1;cases h2;rfl) (O,Z,aA)
end
@[go_sem] abbrev aD6:Nat×qW:=(141,⟨[.v,.v,.v],aD5,[],[],none⟩)
def wQ:rI Tryz.prog [IR,sL,FH] (rJ [FG,a3I,N9]):=⟨⟨NI,⟨sO,⟨IS,trivial⟩⟩⟩,qK KQ (qK aDg (qK a1J rN)),rL⟩
def aLT:r5 Tryz.prog aD6:=by
 refine rS wQ Tryz.func141 (c:=_) rfl (N:=64) pT (ts:=[(6,none)]) rfl (fun _ _=>rfl) ?_;intro⟨O,Z,aA⟩ hs hrow;dsimp only[a5n,a5o,a5p,rM,qM,qY,r7,rO,Nat.reduceAdd] at hs hrow|-;have hz:=hs;obtain⟨z0,d⟩:=aRh.1 hz
 try rw[rY d]
 clear hz hs;unfold RR at d;refine q8 wQ ?_;refine q8 wQ ?_;refine qS ?_;refine q8 wQ ?_;obtain⟨aB,e,d⟩:=qI d;refine yY (fun s=>s=(fun x=>⟨[(0,(.val (.int .i64) O,none)),(1,(.val (.int .u8) Z,none)),(2,(.val .bool aA,none)),(7,(.val .str x,none))],[],0,64,0⟩) aB) ?_ ?_
 .refine rW ?_;refine q8 wQ ?_;refine qV e (fun e hc1=> ?_) (fun e hc1=> ?_)
  .refine rF wQ ?_;refine rT ?_;cases e;exact tY ⟨⟨[0,1,2,7],[]⟩,by rfl⟩
  .refine q8 wQ ?_;refine qV e (fun e hc2=> ?_) (fun e hc2=> ?_)
   .refine rF wQ ?_;refine rT ?_;cases e;exact tY ⟨⟨[0,1,2,7],[]⟩,by rfl⟩
   .refine q8 wQ ?_;refine qV e (fun e hc3=> ?_) (fun e hc3=> ?_)
    .refine rF wQ ?_;refine rT ?_;cases e;exact tY ⟨⟨[0,1,2,7],[]⟩,by rfl⟩
    .refine r8 (rT ?_);cases e;exact tY ⟨⟨[0,1,2,7],[]⟩,by rfl⟩
 .rintro _ rfl;dsimp only at d|-;refine qO (qS (rW ?_));refine q8 wQ ?_;refine qV d (fun d hc4=> ?_) (fun d hc4=> ?_)
  .refine q8 wQ ?_;refine qR (s8 (rQ ?_));cases d;exact pE []
  .refine q8 wQ ?_;refine qV d (fun d hc5=> ?_) (fun d hc5=> ?_)
   .refine q8 wQ ?_;refine qR (s8 (rQ ?_));cases d;exact pE []
   .refine q8 wQ ?_;refine qV d (fun d hc6=> ?_) (fun d hc6=> ?_)
    .refine q8 wQ ?_;refine qR (s8 (rQ ?_));cases d;exact pE []
    .refine q8 wQ ?_;refine qV d (fun d hc7=> ?_) (fun d hc7=> ?_)
     .refine q8 wQ ?_;refine qR (s8 (rQ ?_));cases d;exact pE []
     .refine qS ?_;refine q8 wQ ?_;obtain⟨aC,e,d⟩:=qI d;refine yY (fun s=>s=(fun x=>⟨[(0,(.val (.int .i64) O,none)),(1,(.val (.int .u8) Z,none)),(27,(.val .bool x,none))],[],0,64,0⟩) aC) ?_ ?_
      .refine qV e (fun e hc8=> ?_) (fun e hc8=> ?_)
       .refine r8 ?_;cases e;exact tY ⟨⟨[0,1,27],[]⟩,by rfl⟩
       .refine rF wQ ?_ (hp:=by exact⟨sY,id,sY⟩);cases e;exact tY ⟨⟨[0,1,27],[]⟩,by rfl⟩
      .rintro _ rfl;dsimp only at d|-;refine qO ?_;refine qV d (fun d hc9=> ?_) (fun d hc9=> ?_)
       .obtain⟨hg1,d⟩:=qG d;refine q8 wQ ?_ (hp:=by exact hg1);refine qR (s8 (rQ ?_));cases d;exact pE []
       .refine q8 wQ ?_ (hp:=by exact⟨id,sY⟩);refine qV d (fun d hc10=> ?_) (fun d hc10=> ?_)
        .obtain⟨hg2,d⟩:=qG d;obtain⟨hg3,d⟩:=qG d;refine q8 wQ ?_ (hp:=by exact⟨hg2,hg3⟩);refine qR (s8 (rQ ?_));cases d;exact pE []
        .refine q8 wQ ?_;refine qV d (fun d hc11=> ?_) (fun d hc11=> ?_)
         .obtain⟨hg4,d⟩:=qG d;obtain⟨hg5,d⟩:=qG d;refine q8 wQ ?_ (hp:=by exact⟨hg4,hg5⟩);refine qR (s8 (rQ ?_));cases d;exact pE []
         .refine r8 (rT (qO ?_));refine q8 wQ ?_;refine qR ?_;cases d;exact pE []
def H7 (O:(List r6)) (Z:pC):Option Int:=(NT O Z).bind fun aA=>some (aA)
section
variable (O:(List r6)) (Z:pC)
abbrev a5q:List qB:=[(.val (.list (.pair .str (.pair .str .unit))) O,none),(.val .str Z,none)]
abbrev a5r:List q9:=[]
@[go_sem] def a5s:qH:=⟨[((H7 O Z)).isSome=true],[(.val (.int .i64) (val (H7 O Z)),none)],[]⟩
def aD7:List qB→List q9→Option qH:=rP (V:=((List r6)×pC)) (fun x=>a5q x.1 x.2) (fun x=>a5r) fun x=>a5s x.1 x.2
@[go_sem] def aQu:aD7 (no_index (a5q O Z)) (no_index a5r)=some (a5s O Z):=rR (fun⟨a0,a1⟩ ⟨b0,b1⟩ h1 h2=>by cases h1;cases h2;rfl) (O,Z)
end
@[go_sem] abbrev a5t:Nat×qW:=(155,⟨[.v,.v],aD7,[],[],none⟩)
def a5u:rI Tryz.prog [sL] (rJ [aDA]):=⟨⟨sO,trivial⟩,qK aLJ rN,rL⟩
def aD8:r5 Tryz.prog a5t:=by
 refine rS a5u Tryz.func155 (c:=_) rfl (N:=8) pT (ts:=[(4,none)]) rfl (fun _ _=>rfl) ?_;intro⟨O,Z⟩ hs hrow;dsimp only[a5q,a5r,a5s,rM,qM,qY,r7,rO,Nat.reduceAdd] at hs hrow|-;have hz:=hs;obtain⟨z0,d⟩:=aRh.1 hz
 try rw[rY d]
 clear hz hs;unfold H7 at d;refine q8 a5u ?_;obtain⟨aA,hv1,hw1,d⟩:=qQ d
 try simp only[go_sem] at hw1
 refine q8 a5u ?_ (hp:=by exact⟨pS,(qP hv1)⟩) (h:=by simp only[go_sem,hw1];rfl)
 refine qR ?_;cases d;exact pE []
def LI (O:pC) (Z:pC):Option (pC×Bool):=(RC O Z).bind fun aA=>if (!((decide ((Z.length:Int)≤(O.length:Int)))&&(decide ((sC O ((O.length:Int)- (Z.length:Int)) (O.length:Int))=Z))))=true then some ((O,false)) else if qC ((O.length:Int)- (Z.length:Int)) then if 0≤(0:Int)∧(0:Int)≤((O.length:Int)- (Z.length:Int))∧((O.length:Int)- (Z.length:Int))≤(O.length:Int) then some (((sC O (0:Int) ((O.length:Int)- (Z.length:Int))),true)) else none else none
section
variable (O:pC) (Z:pC)
abbrev a5v:List qB:=[(.val .str O,none),(.val .str Z,none)]
abbrev a5w:List q9:=[]
@[go_sem] def a5x:qH:=⟨[((LI O Z)).isSome=true],[(.val .str ((val (LI O Z)).1),none),(.val .bool ((val (LI O Z)).2),none)],[]⟩
def aD9:List qB→List q9→Option qH:=rP (V:=(pC×pC)) (fun x=>a5v x.1 x.2) (fun x=>a5w) fun x=>a5x x.1 x.2
@[go_sem] def aQv:aD9 (no_index (a5v O Z)) (no_index a5w)=some (a5x O Z):=rR (fun⟨a0,a1⟩ ⟨b0,b1⟩ h1 h2=>by cases h1;cases h2;rfl) (O,Z)
end
@[go_sem] abbrev aEa:Nat×qW:=(165,⟨[.v,.v],aD9,[],[],none⟩)
def RS:rI Tryz.prog [sL] (rJ [aDl]):=⟨⟨sO,trivial⟩,qK aLD rN,rL⟩
def aLU:r5 Tryz.prog aEa:=by
 refine rS RS Tryz.func165 (c:=_) rfl (N:=18) pT (ts:=[(4,none),(5,none)]) rfl (fun _ _=>rfl) ?_;intro⟨O,Z⟩ hs hrow;dsimp only[a5v,a5w,a5x,rM,qM,qY,r7,rO,Nat.reduceAdd] at hs hrow|-;have hz:=hs;obtain⟨z0,d⟩:=aRh.1 hz
 try rw[rY d]
 clear hz hs;unfold LI at d;refine q8 RS ?_;refine qS ?_;obtain⟨aA,hv1,hw1,d⟩:=qQ d
 try simp only[go_sem] at hw1
 refine q8 RS ?_ (hp:=by exact(qP hv1)) (h:=by simp only[go_sem,hw1];rfl);refine qV d (fun d hc1=> ?_) (fun d hc1=> ?_)
 .refine q8 RS ?_;refine qR (rQ ?_);cases d;exact pE []
 .refine r8 (qO ?_);obtain⟨hg2,d⟩:=qG d;obtain⟨hg3,d⟩:=qG d;refine q8 RS ?_ (hp:=by exact⟨hg2,hg3⟩);refine qR ?_;cases d;exact pE []
def H8 (O:pC) (Z:pC):Option (pC×pC×Bool):=(IZ O Z).bind fun aA=>some ((aA.1,aA.2.1,aA.2.2))
section
variable (O:pC) (Z:pC)
abbrev a5y:List qB:=[(.val .str O,none),(.val .str Z,none)]
abbrev a5z:List q9:=[]
@[go_sem] def a5A:qH:=⟨[((H8 O Z)).isSome=true],[(.val .str ((val (H8 O Z)).1),none),(.val .str ((val (H8 O Z)).2.1),none),(.val .bool ((val (H8 O Z)).2.2),none)],[]⟩
def aEb:List qB→List q9→Option qH:=rP (V:=(pC×pC)) (fun x=>a5y x.1 x.2) (fun x=>a5z) fun x=>a5A x.1 x.2
@[go_sem] def aQw:aEb (no_index (a5y O Z)) (no_index a5z)=some (a5A O Z):=rR (fun⟨a0,a1⟩ ⟨b0,b1⟩ h1 h2=>by cases h1;cases h2;rfl) (O,Z)
end
@[go_sem] abbrev aEc:Nat×qW:=(166,⟨[.v,.v],aEb,[],[],none⟩)
def a5B:rI Tryz.prog [] (rJ [aDn]):=⟨trivial,qK aLE rN,rL⟩
def aLV:r5 Tryz.prog aEc:=by
 refine rS a5B Tryz.func166 (c:=_) rfl (N:=13) pT (ts:=[(4,none),(5,none),(6,none)]) rfl (fun _ _=>rfl) ?_;intro⟨O,Z⟩ hs hrow;dsimp only[a5y,a5z,a5A,rM,qM,qY,r7,rO,Nat.reduceAdd] at hs hrow|-;have hz:=hs;obtain⟨z0,d⟩:=aRh.1 hz
 try rw[rY d]
 clear hz hs;unfold H8 at d;refine q8 a5B ?_;obtain⟨aA,hv1,hw1,d⟩:=qQ d
 try simp only[go_sem] at hw1
 refine q8 a5B ?_ (hp:=by exact(qP hv1)) (h:=by simp only[go_sem,hw1];rfl);refine qR ?_;cases d;exact pE []
attribute [irreducible] J4 RR H7 LI H8
end
noncomputable section
def J5 (O:pL) (Z:Int):Option pL:=if (decide ((IntKind.wrap .u32 Z)≤(127:Int)))=true then if (O.length+([(IntKind.wrap .u8 Z)]:pL).length)*1≤140737488355328 then some ((O++([(IntKind.wrap .u8 Z)]:pL))) else none else (LD O Z).bind fun aA=>some (aA)
section
variable (O:pL) (Z:Int) (aA:Nat)
abbrev a5C:List qB:=[(.val (.list (.int .u8)) O,some 0),(.val (.int .i32) Z,none)]
abbrev a5D:List q9:=[.grow 5 1 aA]
@[go_sem] def a5E:qH:=⟨[aA=(O.length),((J5 O Z)).isSome=true],[(.val (.list (.int .u8)) (val (J5 O Z)),some 0)],[.grow 5 1 ((val (J5 O Z)).length)]⟩
def aEd:List qB→List q9→Option qH:=rP (V:=(pL×Int×Nat)) (fun x=>a5C x.1 x.2.1) (fun x=>a5D x.2.2) fun x=>a5E x.1 x.2.1 x.2.2
@[go_sem] def aQx:aEd (no_index (a5C O Z)) (no_index (a5D aA))=some (a5E O Z aA):=rR (fun⟨a0,a1,a2⟩ ⟨b0,b1,b2⟩ h1 h2=>by cases h1;cases h2;rfl) (O,Z,aA)
end
@[go_sem] abbrev aEe:Nat×qW:=(244,⟨[.own,.v],aEd,[],[],none⟩)
def RT:rI Tryz.prog [IR,R2,FH,WO] (rJ [aDw]):=⟨⟨NI,⟨a2g,⟨IS,⟨aCx,trivial⟩⟩⟩⟩,qK aLI rN,rL⟩
def aLW:r5 Tryz.prog aEe:=by
 refine rS RT Tryz.func244 (c:=_) rfl (N:=16) pT (ts:=[(4,none)]) rfl (fun _ _=>rfl) ?_;intro⟨O,Z,aA⟩ hs hrow;dsimp only[a5C,a5D,a5E,rM,qM,qY,r7,rO,Nat.reduceAdd] at hs hrow|-;obtain⟨rfl,hz⟩:=hs;obtain⟨z0,d⟩:=aRh.1 hz
 try rw[rY d]
 clear hz;unfold J5 at d;refine q8 RT ?_;refine qS ?_;refine q8 RT ?_;refine qV d (fun d hc1=> ?_) (fun d hc1=> ?_)
 .obtain⟨hg1,d⟩:=qG d;refine q8 RT ?_ (hp:=by exact⟨pS,hg1⟩)
  refine qR (rQ ?_);cases d;exact pE [(0,0)]
 .refine r8 (qO ?_);obtain⟨aB,hv2,hw2,d⟩:=qQ d
  try simp only[go_sem] at hw2
  refine q8 RT ?_ (hp:=by exact⟨pS,(qP hv2)⟩) (h:=by simp only[go_sem,hw2];rfl)
  refine qR ?_;cases d;exact pE [(0,0)]
def H9 (O:(List r6)) (Z:pC) (aA:pC):Option (List r6):=(J1 O).bind fun aB=>(H7 aB Z).bind fun aC=>if (decide ((0:Int)≤aC))=true then if 0≤aC∧aC<(((aB.length):Nat):Int) then some ((List.set aB (Int.toNat aC) ((qU (.pair .str (.pair .str .unit)) aB aC).1,(aA,(qU (.pair .str (.pair .str .unit)) aB aC).2.2)))) else none else (NU aB Z).bind fun aD=>if (decide (aD<(0:Int)))=true then if 0≤(((aB.length):Nat):Int)∧(((aB.length):Nat):Int)≤List.length aB then if (aB.length+([(Z,(aA,()))]:List r6).length)*32≤140737488355328 then some ((BG aB (((aB.length):Nat):Int) ([(Z,(aA,()))]:List r6))) else none else none else if 0≤aD∧aD≤List.length aB then if (aB.length+([(Z,(aA,()))]:List r6).length)*32≤140737488355328 then some ((BG aB aD ([(Z,(aA,()))]:List r6))) else none else none
section
variable (O:(List r6)) (Z:pC) (aA:pC)
abbrev a5F:List qB:=[(.val (.list (.pair .str (.pair .str .unit))) O,none),(.val .str Z,none),(.val .str aA,none)]
abbrev a5G:List q9:=[]
@[go_sem] def a5H:qH:=⟨[((H9 O Z aA)).isSome=true],[(.val (.list (.pair .str (.pair .str .unit))) (val (H9 O Z aA)),some 0)],[.grow 111 2 ((val (H9 O Z aA)).length)]⟩
def aEf:List qB→List q9→Option qH:=rP (V:=((List r6)×pC×pC)) (fun x=>a5F x.1 x.2.1 x.2.2) (fun x=>a5G) fun x=>a5H x.1 x.2.1 x.2.2
@[go_sem] def aQy:aEf (no_index (a5F O Z aA)) (no_index a5G)=some (a5H O Z aA):=rR (fun⟨a0,a1,a2⟩ ⟨b0,b1,b2⟩ h1 h2=>by cases h1;cases h2;rfl) (O,Z,aA)
end
@[go_sem] abbrev a5I:Nat×qW:=(116,⟨[.v,.v,.v],aEf,[],[],none⟩)
def DF:rI Tryz.prog [sL,WP,FJ] (rJ [aDE,a5t,aDC,ND]):=⟨⟨sO,⟨aCy,⟨IU,trivial⟩⟩⟩,qK aLL (qK aD8 (qK aLK (qK a1M rN))),rL⟩
def aEg:r5 Tryz.prog a5I:=by
 refine rS DF Tryz.func116 (c:=_) rfl (N:=37) pT (ts:=[(6,none)]) rfl (fun _ _=>rfl) ?_;intro⟨O,Z,aA⟩ hs hrow;dsimp only[a5F,a5G,a5H,rM,qM,qY,r7,rO,Nat.reduceAdd] at hs hrow|-;have hz:=hs;obtain⟨z0,d⟩:=aRh.1 hz
 try rw[rY d]
 clear hz hs;unfold H9 at d;refine q8 DF ?_;obtain⟨aB,hv1,hw1,d⟩:=qQ d
 try simp only[go_sem] at hw1
 refine q8 DF ?_ (hp:=by exact(qP hv1)) (h:=by simp only[go_sem,hw1];rfl);refine qS ?_;obtain⟨aC,hv2,hw2,d⟩:=qQ d
 try simp only[go_sem] at hw2
 refine q8 DF ?_ (hp:=by exact⟨fun _=>by first|exact rfl|exact trivial,(qP hv2)⟩) (h:=by simp only[go_sem,hw2];rfl)
 refine q8 DF ?_;refine qV d (fun d hc1=> ?_) (fun d hc1=> ?_)
 .obtain⟨hg3,d⟩:=qG d;refine q8 DF ?_ (hp:=by exact⟨hg3,pS⟩)
  refine q8 DF ?_;refine QF 96 rfl (by repeat' (first|exact trivial|apply And.intro|exact(fun _=>rfl) |exact(fun h=>absurd h pG))) ?_
  refine qR (rQ ?_);cases d;exact pE [(0,96)]
 .refine r8 (qO ?_);obtain⟨aD,hv4,hw4,d⟩:=qQ d
  try simp only[go_sem] at hw4
  refine q8 DF ?_ (hp:=by exact⟨pS,fun _=>by first|exact rfl|exact trivial,(qP hv4)⟩) (h:=by simp only[go_sem,hw4];rfl)
  refine qS ?_;refine q8 DF ?_;refine qV d (fun d hc2=> ?_) (fun d hc2=> ?_)
  .refine rF DF ?_;refine qO ?_;obtain⟨hg5,d⟩:=qG d;obtain⟨hg6,d⟩:=qG d;refine q8 DF ?_ (hp:=by exact⟨pS,hg5,hg6⟩)
   refine aBO ⟨[0,1,2,4,6,10,13,14,8,15,16,24,25,9,26,27,29,31,32,33,34,35,36],[(0,0),(32,32),(96,96),(800,800)]⟩ ?_;simp only[go_sem,Nat.max_def];refine QF 96 rfl (by repeat' (first|exact trivial|apply And.intro|exact(fun _=>rfl) |exact(fun h=>absurd h pG))) ?_
   refine qR ?_;cases d;exact pE [(0,96)]
  .refine r8 (qO ?_);obtain⟨hg7,d⟩:=qG d;obtain⟨hg8,d⟩:=qG d;refine q8 DF ?_ (hp:=by exact⟨pS,hg7,hg8⟩)
   refine aBO ⟨[0,1,2,4,6,10,13,14,8,15,16,24,25,9,26,27,31,32,33,34,35,36],[(0,0),(32,32),(96,96),(704,704)]⟩ ?_;simp only[go_sem,Nat.max_def];refine QF 96 rfl (by repeat' (first|exact trivial|apply And.intro|exact(fun _=>rfl) |exact(fun h=>absurd h pG))) ?_
   refine qR ?_;cases d;exact pE [(0,96)]
def RU (O:(List r6)):Int→Option (Int⊕(Unit⊕Int)):=fun Z=>if (decide (Z<(O.length:Int)))=true then if 0≤Z∧Z<(O.length:Int) then (LH (qU (.pair .str (.pair .str .unit)) O Z)).bind fun aA=>if aA=true then some (.inr (.inr (Z))) else if qC (Z+(1:Int)) then some (.inl (Z+(1:Int))) else none else none else some (.inr (.inl ()))
def O2 (O:(List r6)):Option Int:=vA (rU (RU O) (0:Int)) fun _=>some ((-1:Int))
section
variable (O:(List r6))
abbrev a5J:List qB:=[(.val (.list (.pair .str (.pair .str .unit))) O,none),(.val .clo (some (90,[])),none)]
abbrev a5K:List q9:=[]
@[go_sem] def a5L:qH:=⟨[((O2 O)).isSome=true],[(.val (.int .i64) (val (O2 O)),none)],[]⟩
def aEh:List qB→List q9→Option qH:=rP (V:=(List r6)) (a5J) (fun x=>a5K) fun x=>a5L x
@[go_sem] def aQz:aEh (no_index (a5J O)) (no_index a5K)=some (a5L O):=rR (fun a0 b0 h1 h2=>by cases h1;cases h2;rfl) O
end
@[go_sem] abbrev aEi:Nat×qW:=(136,⟨[.v,.v],aEh,[],[],none⟩)
def HA:rI Tryz.prog [CM,BJ] (rJ [aD1]):=⟨⟨E9,⟨DC,trivial⟩⟩,qK aLR rN,rL⟩
def aLX:r5 Tryz.prog aEi:=by
 refine rS HA Tryz.func136 (c:=_) rfl (N:=19) pT (ts:=[(4,none)]) rfl (fun _ _=>rfl) ?_;intro O hs hrow;dsimp only[a5J,a5K,a5L,rM,qM,qY,r7,rO,Nat.reduceAdd] at hs hrow|-;have hz:=hs;obtain⟨z0,d⟩:=aRh.1 hz
 try rw[rY d]
 clear hz hs;unfold O2 at d;refine q8 HA ?_;refine qS ?_;refine q8 HA ?_;refine rW ?_;obtain⟨y1,hy1,d⟩:=wX d;refine uV 0 (fun s=> ∃v,y1= .inl v∧s=(fun _=>⟨[],[],0,19,0⟩) v) ?_ ?_
 .refine uP hy1 (fun x=>⟨[(0,(.val (.list (.pair .str (.pair .str .unit))) O,none)),(1,(.val .clo (some (90,[])),none)),(7,(.val (.int .i64) (O.length:Int),none)),(8,(.val (.int .i64) x,none))],[],0,19,0⟩) ⟨[0,1,7,8],[]⟩ pU ?_;intro Z w1 n1 e g;unfold RU at e;dsimp only at e|-;refine q8 HA ?_;refine qS ?_;refine qV e (fun e hc1=> ?_) (fun e hc1=> ?_)
  .refine r8 (qO (qS (rW ?_)));refine q8 HA ?_;obtain⟨hg1,e⟩:=qG e;obtain⟨aA,hv2,hw2,e⟩:=qQ e
   try simp only[go_sem] at hw2
   refine q8 HA ?_ (hp:=by exact⟨hg1,(qP hv2)⟩) (h:=by simp only[go_sem,hw2];rfl);refine qV e (fun e hc2=> ?_) (fun e hc2=> ?_)
   .refine q8 HA ?_;refine qR (s8 (rQ (wP (wW (s8 (rQ ?_))))));cases e;cases g;dsimp only at d;cases d;exact pE []
   .refine r8 (rT (qO ?_));obtain⟨hg3,e⟩:=qG e;refine rF HA ?_ (hp:=by exact hg3);cases e;exact tC ⟨⟨[0,1,7,8],[]⟩,_,by rfl,g⟩
  .refine uJ (uI (uL ?_));cases e;cases g;exact uK ⟨⟨[],[]⟩,_,rfl,by rfl⟩
 .rintro _ ⟨v,rfl,rfl⟩;dsimp only at d|-;refine uU (qO ?_);refine q8 HA ?_;refine qR ?_;cases d;exact pE []
def DG (O:(List r6)):Option Bool:=(O2 O).bind fun Z=>some ((decide ((0:Int)≤Z)))
section
variable (O:(List r6))
abbrev a5M:List qB:=[(.val (.list (.pair .str (.pair .str .unit))) O,none),(.val .clo (some (90,[])),none)]
abbrev a5N:List q9:=[]
@[go_sem] def a5O:qH:=⟨[((DG O)).isSome=true],[(.val .bool (val (DG O)),none)],[]⟩
def aEj:List qB→List q9→Option qH:=rP (V:=(List r6)) (a5M) (fun x=>a5N) fun x=>a5O x
@[go_sem] def aQA:aEj (no_index (a5M O)) (no_index a5N)=some (a5O O):=rR (fun a0 b0 h1 h2=>by cases h1;cases h2;rfl) O
end
@[go_sem] abbrev a5P:Nat×qW:=(89,⟨[.v,.v],aEj,[],[],none⟩)
def a5Q:rI Tryz.prog [] (rJ [aEi]):=⟨trivial,qK aLX rN,rL⟩
def aEk:r5 Tryz.prog a5P:=by
 refine rS a5Q Tryz.func89 (c:=_) rfl (N:=9) pT (ts:=[(4,none)]) rfl (fun _ _=>rfl) ?_;intro O hs hrow;dsimp only[a5M,a5N,a5O,rM,qM,qY,r7,rO,Nat.reduceAdd] at hs hrow|-;have hz:=hs;obtain⟨z0,d⟩:=aRh.1 hz
 try rw[rY d]
 clear hz hs;unfold DG at d;refine q8 a5Q ?_;obtain⟨Z,hv1,hw1,d⟩:=qQ d
 try simp only[go_sem] at hw1
 refine q8 a5Q ?_ (hp:=by exact(qP hv1)) (h:=by simp only[go_sem,hw1];rfl);refine qR ?_;cases d;exact pE []
def J6 (O:vI) (Z:vI):Option Bool:=(H5 O Z).bind fun aA=>some (((decide (aA.2=(0:Int)))&&(decide ((aA.1.length:Int)=(0:Int)))))
section
variable (O:vI) (Z:vI)
abbrev a5R:List qB:=[(.val xA O,none),(.val xA Z,none)]
abbrev a5S:List q9:=[]
@[go_sem] def a5T:qH:=⟨[((J6 O Z)).isSome=true],[(.val .bool (val (J6 O Z)),none)],[]⟩
def aEl:List qB→List q9→Option qH:=rP (V:=(vI×vI)) (fun x=>a5R x.1 x.2) (fun x=>a5S) fun x=>a5T x.1 x.2
@[go_sem] def aQB:aEl (no_index (a5R O Z)) (no_index a5S)=some (a5T O Z):=rR (fun⟨a0,a1⟩ ⟨b0,b1⟩ h1 h2=>by cases h1;cases h2;rfl) (O,Z)
end
@[go_sem] abbrev aEm:Nat×qW:=(20,⟨[.v,.v],aEl,[],[],none⟩)
def X1:rI Tryz.prog [NJ,WQ] (rJ [aDY]):=⟨⟨WN,⟨aCz,trivial⟩⟩,qK aLQ rN,rL⟩
def aLY:r5 Tryz.prog aEm:=by
 refine rS X1 Tryz.func20 (c:=_) rfl (N:=20) pT (ts:=[(4,none)]) rfl (fun _ _=>rfl) ?_;intro⟨O,Z⟩ hs hrow;dsimp only[a5R,a5S,a5T,rM,qM,qY,r7,rO,Nat.reduceAdd] at hs hrow|-;have hz:=hs;obtain⟨z0,d⟩:=aRh.1 hz
 try rw[rY d]
 clear hz hs;unfold J6 at d;refine q8 X1 ?_;obtain⟨aA,hv1,hw1,d⟩:=qQ d
 try simp only[go_sem] at hw1
 refine q8 X1 ?_ (hp:=by exact(qP hv1)) (h:=by simp only[go_sem,hw1];rfl);refine q8 X1 ?_ (hp:=by exact⟨id,id,sY⟩);refine qR ?_;cases d;exact pE []
attribute [irreducible] J5 H9 O2 DG J6
end
noncomputable section
def RV (O:(List r6)):Int→Option (Int⊕(Unit⊕Bool)):=fun Z=>if (decide (Z<(O.length:Int)))=true then if 0≤Z∧Z<(O.length:Int) then (CO ((qU (.pair .str (.pair .str .unit)) O Z).1)).bind fun aA=>if (((!aA)==false)=true→((EF ((qU (.pair .str (.pair .str .unit)) O Z).2.1))).isSome=true) then if (((((!aA)||(!((decide ((((qU (.pair .str (.pair .str .unit)) O Z).2.1).length:Int)≤(4000:Int)))&&(Lib.validD ((qU (.pair .str (.pair .str .unit)) O Z).2.1)))))==false)&&((decide ((0:Int)<Z))==true))=true→qC (Z- (1:Int))) then if (((((!aA)||(!((decide ((((qU (.pair .str (.pair .str .unit)) O Z).2.1).length:Int)≤(4000:Int)))&&(Lib.validD ((qU (.pair .str (.pair .str .unit)) O Z).2.1)))))==false)&&((decide ((0:Int)<Z))==true))=true→0≤(Z- (1:Int))∧(Z- (1:Int))<(O.length:Int)) then if (((!aA)||(!((decide ((((qU (.pair .str (.pair .str .unit)) O Z).2.1).length:Int)≤(4000:Int)))&&(Lib.validD ((qU (.pair .str (.pair .str .unit)) O Z).2.1)))))||((decide ((0:Int)<Z))&&(!Op.bytesLess (qU (.pair .str (.pair .str .unit)) O (Z- (1:Int))).1 (qU (.pair .str (.pair .str .unit)) O Z).1)))=true then some (.inr (.inr (false))) else if qC (Z+(1:Int)) then some (.inl (Z+(1:Int))) else none else none else none else none else none else some (.inr (.inl ()))
def FO (O:(List r6)):Option Bool:=vA (rU (RV O) (0:Int)) fun _=>some ((decide ((O.length:Int)≤(20:Int))))
section
variable (O:(List r6))
abbrev a5U:List qB:=[(.val (.list (.pair .str (.pair .str .unit))) O,none)]
abbrev a5V:List q9:=[]
@[go_sem] def a5W:qH:=⟨[((FO O)).isSome=true],[(.val .bool (val (FO O)),none)],[]⟩
def aEn:List qB→List q9→Option qH:=rP (V:=(List r6)) (a5U) (fun x=>a5V) fun x=>a5W x
@[go_sem] def aQC:aEn (no_index (a5U O)) (no_index a5V)=some (a5W O):=rR (fun a0 b0 h1 h2=>by cases h1;cases h2;rfl) O
end
@[go_sem] abbrev a5X:Nat×qW:=(65,⟨[.v],aEn,[],[],none⟩)
def HB:rI Tryz.prog [sL,AZ,FJ] (rJ [NO,RN]):=⟨⟨sO,⟨CK,⟨IU,trivial⟩⟩⟩,qK R6 (qK WZ rN),rL⟩
def aEo:r5 Tryz.prog a5X:=by
 refine rS HB Tryz.func65 (c:=_) rfl (N:=41) pT (ts:=[(2,none)]) rfl (fun _ _=>rfl) ?_;intro O hs hrow;dsimp only[a5U,a5V,a5W,rM,qM,qY,r7,rO,Nat.reduceAdd] at hs hrow|-;have hz:=hs;obtain⟨z0,f⟩:=aRh.1 hz
 try rw[rY f]
 clear hz hs;unfold FO at f;refine q8 HB ?_;refine qS ?_;refine q8 HB ?_;refine rW ?_;obtain⟨y1,hy1,f⟩:=wX f;refine uV 0 (fun s=> ∃v,y1= .inl v∧s=(fun _=>⟨[(0,(.val (.list (.pair .str (.pair .str .unit))) O,none))],[],0,41,0⟩) v) ?_ ?_
 .refine uP hy1 (fun x=>⟨[(0,(.val (.list (.pair .str (.pair .str .unit))) O,none)),(5,(.val (.list (.pair .str (.pair .str .unit))) O,none)),(6,(.val (.int .i64) (O.length:Int),none)),(7,(.val (.int .i64) x,none))],[],0,41,0⟩) ⟨[0,5,6,7],[]⟩ pU ?_;intro Z w1 n1 e g;unfold RV at e;dsimp only at e|-;refine q8 HB ?_;refine qS ?_;refine qV e (fun e hc1=> ?_) (fun e hc1=> ?_)
  .refine r8 (qO (qS (rW ?_)));obtain⟨hg1,e⟩:=qG e;refine q8 HB ?_ (hp:=by exact hg1);obtain⟨aA,hv2,hw2,e⟩:=qQ e
   try simp only[go_sem] at hw2
   obtain⟨hg3,e⟩:=qG e;obtain⟨hg4,e⟩:=qG e;obtain⟨hg5,e⟩:=qG e;refine vQ HB ?_ (hp:=by exact⟨qP hv2,id,id,hg3,id,sU,id,id,id,hg4,id,id,hg5,id,id,id,id,id,id,fun hG d=>W3 hG d,sU⟩) (h:=by simp only[go_sem,hw2];rfl);refine qV e (fun e hc2=> ?_) (fun e hc2=> ?_)
   .refine q8 HB ?_;refine qR (s8 (rQ (wP (wW (s8 (rQ ?_))))));cases e;cases g;dsimp only at f;cases f;exact pE []
   .refine r8 (rT (qO ?_));obtain⟨hg6,e⟩:=qG e;refine rF HB ?_ (hp:=by exact hg6);cases e;exact tC ⟨⟨[0,5,6,7],[]⟩,_,by rfl,g⟩
  .refine uJ (uI (uL ?_));cases e;cases g;exact uK ⟨⟨[0],[]⟩,_,rfl,by rfl⟩
 .rintro _ ⟨v,rfl,rfl⟩;dsimp only at f|-;refine uU (qO ?_);refine q8 HB ?_;refine qR ?_;cases f;exact pE []
def RW (O:pC):Option Unit:=(EF O).bind fun Z=>some (())
section
variable (O:pC)
abbrev a5Y:List qB:=[(.val .str O,none)]
abbrev a5Z:List q9:=[]
@[go_sem] def a50:qH:=⟨[((RW O)).isSome=true],[(.val .bool (!((decide ((O.length:Int)≤(4000:Int)))&&(Lib.validD O))),none)],[]⟩
def aEp:List qB→List q9→Option qH:=rP (V:=pC) (a5Y) (fun x=>a5Z) fun x=>a50 x
@[go_sem] def aQD:aEp (no_index (a5Y O)) (no_index a5Z)=some (a50 O):=rR (fun a0 b0 h1 h2=>by cases h1;cases h2;rfl) O
end
@[go_sem] abbrev aEq:Nat×qW:=(96,⟨[.v],aEp,[],[],none⟩)
def a52:rI Tryz.prog [] (rJ [RN]):=⟨trivial,qK WZ rN,rL⟩
def aLZ:r5 Tryz.prog aEq:=by
 refine rS a52 Tryz.func96 (c:=_) rfl (N:=6) pT (ts:=[(2,none)]) rfl (fun _ _=>rfl) ?_;intro O hs hrow;dsimp only[a5Y,a5Z,a50,rM,qM,qY,r7,rO,Nat.reduceAdd] at hs hrow|-;have hz:=hs;obtain⟨z0,f⟩:=aRh.1 hz
 try rw[rY f]
 clear hz hs;unfold RW at f;refine q8 a52 ?_;obtain⟨Z,hv1,hw1,f⟩:=qQ f
 try simp only[go_sem] at hw1
 refine q8 a52 ?_ (hp:=by exact(qP hv1)) (h:=by simp only[go_sem,hw1];rfl);refine qR ?_;cases f;exact pE []
attribute [irreducible] FO RW
end
noncomputable section
def RX (O:Int) (Z:pC):(Int×pL)→Option ((Int×pL)⊕pL):=fun(aA,aB)=>if (decide (aA<(Z.length:Int)))=true then if (decide (O=(4:Int)))=true then if 0≤aA∧aA<(Z.length:Int) then (J4 (tM Z aA)).bind fun aC=>(DD (aB,()) aC).bind fun aD=>if qC (aA+(1:Int)) then some (.inl ((aA+(1:Int)),(aB++uR aC))) else none else none else if 0≤aA∧aA<(Z.length:Int) then (RR O (tM Z aA) (decide (aA=(0:Int)))).bind fun aE=>(DD (aB,()) aE).bind fun aF=>if qC (aA+(1:Int)) then some (.inl ((aA+(1:Int)),(aB++uR aE))) else none else none else some (.inr aB)
def LJ (O:Int) (Z:pC):Option pC:=if (!((decide ((1:Int)≤O))&&(decide (O≤(4:Int)))))=true then some (([]:pC)) else sJ (rU (RX O Z) ((0:Int),([]:pL))) fun aA=>some ((vG aA))
section
variable (O:Int) (Z:pC)
abbrev a54:List qB:=[(.val (.int .i64) O,none),(.val .str Z,none)]
abbrev a55:List q9:=[]
@[go_sem] def a56:qH:=⟨[((LJ O Z)).isSome=true],[(.val .str (val (LJ O Z)),none)],[]⟩
def aEr:List qB→List q9→Option qH:=rP (V:=(Int×pC)) (fun x=>a54 x.1 x.2) (fun x=>a55) fun x=>a56 x.1 x.2
@[go_sem] def aQE:aEr (no_index (a54 O Z)) (no_index a55)=some (a56 O Z):=rR (fun⟨a0,a1⟩ ⟨b0,b1⟩ h1 h2=>by cases h1;cases h2;rfl) (O,Z)
end
@[go_sem] abbrev aEs:Nat×qW:=(100,⟨[.v,.v],aEr,[],[],none⟩)
def BN:rI Tryz.prog [sL,GQ] (rJ [a3w,aD4,WR,aD6,GN]):=⟨⟨sO,⟨L3,trivial⟩⟩,qK aC7 (qK aLS (qK a2w (qK aLT (qK NA rN)))),rL⟩
def aL0:r5 Tryz.prog aEs:=by
 refine rS BN Tryz.func100 (c:=_) rfl (N:=32) pT (ts:=[(4,none)]) rfl (fun _ _=>rfl) ?_;intro⟨O,Z⟩ hs hrow;dsimp only[a54,a55,a56,rM,qM,qY,r7,rO,Nat.reduceAdd] at hs hrow|-;have hz:=hs;obtain⟨z0,d⟩:=aRh.1 hz
 try rw[rY d]
 clear hz hs;unfold LJ at d;refine q8 BN ?_;refine qS ?_;refine q8 BN ?_;refine qV d (fun d hc1=> ?_) (fun d hc1=> ?_)
 .refine q8 BN ?_;refine qR (rQ ?_);cases d;exact pE []
 .refine r8 (qO ?_);refine q8 BN ?_;refine qS ?_;refine q8 BN ?_;refine rW ?_;obtain⟨aA,hy1,d⟩:=qI d;refine uV 0 (fun s=>s=(fun x=>⟨[(5,(.val .ref (some (0,0)),none))],[(0,.cells wD ((some (0,0)),(x,())) [(1,1)]),(1,.grow 5 1 (x.length))],2,32,0⟩) aA) ?_ ?_
  .refine uP hy1 (fun x=>⟨[(0,(.val (.int .i64) O,none)),(1,(.val .str Z,none)),(5,(.val .ref (some (0,0)),none)),(11,(.val (.int .i64) (Z.length:Int),none)),(12,(.val (.int .i64) x.1,none))],[(0,.cells wD ((some (0,0)),(x.2,())) [(1,1)]),(1,.grow 5 1 (x.2.length))],2,32,0⟩) ⟨[0,1,5,11,12],[(0,128),(1,129)]⟩ pU ?_;intro x1 w1 n1 e f;obtain⟨aB,aC⟩:=x1;unfold RX at e;dsimp only at e|-;refine q8 BN ?_;refine qS ?_;refine qV e (fun e hc2=> ?_) (fun e hc2=> ?_)
   .refine r8 (qO (qS (rW ?_)));refine q8 BN ?_;refine q8 BN ?_;refine qV e (fun e hc3=> ?_) (fun e hc3=> ?_)
    .obtain⟨hg1,e⟩:=qG e;obtain⟨aD,hv2,hw2,e⟩:=qQ e
     try simp only[go_sem] at hw2
     obtain⟨aE,hv3,hw3,e⟩:=qQ e
     try simp only[go_sem] at hw3
     refine rF BN ?_ (hp:=by exact⟨hg1,qP hv2,pS,(qP hv3)⟩) (h:=by simp only[go_sem,hw2,hw3];rfl)
     refine rT (qO ?_);obtain⟨hg4,e⟩:=qG e;refine rF BN ?_ (hp:=by exact hg4);cases e;exact tC ⟨⟨[0,1,5,11,12],[(0,0),(1,1)]⟩,_,by rfl,f⟩
    .obtain⟨hg5,e⟩:=qG e;obtain⟨aF,hv6,hw6,e⟩:=qQ e
     try simp only[go_sem] at hw6
     obtain⟨aG,hv7,hw7,e⟩:=qQ e
     try simp only[go_sem] at hw7
     refine rF BN ?_ (hp:=by exact⟨hg5,qP hv6,pS,(qP hv7)⟩) (h:=by simp only[go_sem,hw6,hw7];rfl)
     refine rT (qO ?_);obtain⟨hg8,e⟩:=qG e;refine rF BN ?_ (hp:=by exact hg8);cases e;exact tC ⟨⟨[0,1,5,11,12],[(0,0),(1,1)]⟩,_,by rfl,f⟩
   .refine uJ (uI (uL ?_));cases e;cases f;exact uK ⟨⟨[5],[(0,0),(1,1)]⟩,by rfl⟩
  .rintro _ rfl;dsimp only at d|-;refine uU (qO ?_);refine q8 BN ?_ (hp:=by first|rfl|trivial)
   refine qR ?_;cases d;exact pE []
def HC (O:(List r6)) (Z:pC):Option (pC×Bool):=(H7 O Z).bind fun aA=>if (decide (aA<(0:Int)))=true then some ((([]:pC),false)) else if 0≤aA∧aA<(O.length:Int) then some (((qU (.pair .str (.pair .str .unit)) O aA).2.1,true)) else none
section
variable (O:(List r6)) (Z:pC)
abbrev a57:List qB:=[(.val (.list (.pair .str (.pair .str .unit))) O,none),(.val .str Z,none)]
abbrev a58:List q9:=[]
@[go_sem] def a59:qH:=⟨[((HC O Z)).isSome=true],[(.val .str ((val (HC O Z)).1),none),(.val .bool ((val (HC O Z)).2),none)],[]⟩
def aEt:List qB→List q9→Option qH:=rP (V:=((List r6)×pC)) (fun x=>a57 x.1 x.2) (fun x=>a58) fun x=>a59 x.1 x.2
@[go_sem] def aQF:aEt (no_index (a57 O Z)) (no_index a58)=some (a59 O Z):=rR (fun⟨a0,a1⟩ ⟨b0,b1⟩ h1 h2=>by cases h1;cases h2;rfl) (O,Z)
end
@[go_sem] abbrev a6a:Nat×qW:=(115,⟨[.v,.v],aEt,[],[],none⟩)
def O3:rI Tryz.prog [sL,AZ,FJ] (rJ [a5t]):=⟨⟨sO,⟨CK,⟨IU,trivial⟩⟩⟩,qK aD8 rN,rL⟩
def aEu:r5 Tryz.prog a6a:=by
 refine rS O3 Tryz.func115 (c:=_) rfl (N:=17) pT (ts:=[(4,none),(5,none)]) rfl (fun _ _=>rfl) ?_;intro⟨O,Z⟩ hs hrow;dsimp only[a57,a58,a59,rM,qM,qY,r7,rO,Nat.reduceAdd] at hs hrow|-;have hz:=hs;obtain⟨z0,d⟩:=aRh.1 hz
 try rw[rY d]
 clear hz hs;unfold HC at d;refine q8 O3 ?_;obtain⟨aA,hv1,hw1,d⟩:=qQ d
 try simp only[go_sem] at hw1
 refine q8 O3 ?_ (hp:=by exact(qP hv1)) (h:=by simp only[go_sem,hw1];rfl);refine qS ?_;refine q8 O3 ?_;refine qV d (fun d hc1=> ?_) (fun d hc1=> ?_)
 .refine q8 O3 ?_;refine qR (rQ ?_);cases d;exact pE []
 .refine r8 (qO ?_);obtain⟨hg2,d⟩:=qG d;refine q8 O3 ?_ (hp:=by exact hg2);refine qR ?_;cases d;exact pE []
def J7 (O:pC) (Z:pC):Option (pC×Bool):=(LI O Z).bind fun aA=>some ((aA.1,aA.2))
section
variable (O:pC) (Z:pC)
abbrev a6b:List qB:=[(.val .str O,none),(.val .str Z,none)]
abbrev a6c:List q9:=[]
@[go_sem] def a6d:qH:=⟨[((J7 O Z)).isSome=true],[(.val .str ((val (J7 O Z)).1),none),(.val .bool ((val (J7 O Z)).2),none)],[]⟩
def aEv:List qB→List q9→Option qH:=rP (V:=(pC×pC)) (fun x=>a6b x.1 x.2) (fun x=>a6c) fun x=>a6d x.1 x.2
@[go_sem] def aQG:aEv (no_index (a6b O Z)) (no_index a6c)=some (a6d O Z):=rR (fun⟨a0,a1⟩ ⟨b0,b1⟩ h1 h2=>by cases h1;cases h2;rfl) (O,Z)
end
@[go_sem] abbrev aEw:Nat×qW:=(126,⟨[.v,.v],aEv,[],[],none⟩)
def a6e:rI Tryz.prog [] (rJ [aEa]):=⟨trivial,qK aLU rN,rL⟩
def aL1:r5 Tryz.prog aEw:=by
 refine rS a6e Tryz.func126 (c:=_) rfl (N:=11) pT (ts:=[(4,none),(5,none)]) rfl (fun _ _=>rfl) ?_;intro⟨O,Z⟩ hs hrow;dsimp only[a6b,a6c,a6d,rM,qM,qY,r7,rO,Nat.reduceAdd] at hs hrow|-;have hz:=hs;obtain⟨z0,d⟩:=aRh.1 hz
 try rw[rY d]
 clear hz hs;unfold J7 at d;refine q8 a6e ?_;obtain⟨aA,hv1,hw1,d⟩:=qQ d
 try simp only[go_sem] at hw1
 refine q8 a6e ?_ (hp:=by exact(qP hv1)) (h:=by simp only[go_sem,hw1];rfl);refine qR ?_;cases d;exact pE []
def FP (O:(pL×Unit)) (Z:Int):Option (Int×pL):=(J5 O.1 Z).bind fun aA=>if qC ((aA.length:Int)- (O.1.length:Int)) then some ((((aA.length:Int)- (O.1.length:Int)),aA)) else none
section
variable (O:Int) (Z:(pL×Unit)) (aA:Nat)
abbrev a6f:List qB:=[(.val .ref (some (0,0)),none),(.val (.int .i32) O,none)]
abbrev a6g:List q9:=[.cells wD ((some (0,0)),Z) [(1,1)],.grow 5 1 aA]
@[go_sem] def a6h:qH:=⟨[aA=(Z.1.length),((FP Z O)).isSome=true],[(.val (.int .i64) ((val (FP Z O)).1),none),(.any,none)],[.cells wD ((some (0,0)),((val (FP Z O)).2,())) [(1,1)],.grow 5 1 (((val (FP Z O)).2).length)]⟩
def aEx:List qB→List q9→Option qH:=rP (V:=(Int×(pL×Unit)×Nat)) (fun x=>a6f x.1) (fun x=>a6g x.2.1 x.2.2) fun x=>a6h x.1 x.2.1 x.2.2
@[go_sem] def aQH:aEx (no_index (a6f O)) (no_index (a6g Z aA))=some (a6h O Z aA):=rR (fun⟨a0,a1,a2⟩ ⟨b0,b1,b2⟩ h1 h2=>by cases h1;cases h2;rfl) (O,Z,aA)
end
@[go_sem] abbrev aEy:Nat×qW:=(241,⟨[.p wD [1],.v],aEx,[],[],none⟩)
def O4:rI Tryz.prog [FH,GQ] (rJ [IQ,aEe]):=⟨⟨IS,⟨L3,trivial⟩⟩,qK QZ (qK aLW rN),rL⟩
def aL2:r5 Tryz.prog aEy:=by
 refine rS O4 Tryz.func241 (c:=_) rfl (N:=30) pT (ts:=[(4,none),(5,none)]) rfl (fun _ _=>rfl) ?_;intro⟨O,Z,aA⟩ hs hrow;dsimp only[a6f,a6g,a6h,rM,qM,qY,r7,rO,Nat.reduceAdd] at hs hrow|-;obtain⟨rfl,hz⟩:=hs;obtain⟨z0,d⟩:=aRh.1 hz
 try rw[rY d]
 clear hz;unfold FP at d;refine q8 O4 ?_;refine q8 O4 ?_ (hp:=by first|rfl|trivial)
 refine q8 O4 ?_;obtain⟨aB,hv1,hw1,d⟩:=qQ d
 try simp only[go_sem] at hw1
 refine q8 O4 ?_ (hp:=by exact⟨pS,(qP hv1)⟩) (h:=by simp only[go_sem,hw1];rfl)
 obtain⟨hg2,d⟩:=qG d;refine q8 O4 ?_ (hp:=by exact hg2);refine qR ?_;cases d;exact pE [(0,0),(1,1)]
def RY (O:pD):Int→Option (Int⊕(Unit⊕Int)):=fun Z=>if (decide (Z<(O.length:Int)))=true then if 0≤Z∧Z<(O.length:Int) then (RW (qU .str O Z)).bind fun aA=>if (!((decide (((qU .str O Z).length:Int)≤(4000:Int)))&&(Lib.validD (qU .str O Z))))=true then some (.inr (.inr (Z))) else if qC (Z+(1:Int)) then some (.inl (Z+(1:Int))) else none else none else some (.inr (.inl ()))
def O5 (O:pD):Option Int:=vA (rU (RY O) (0:Int)) fun _=>some ((-1:Int))
section
variable (O:pD)
abbrev a6i:List qB:=[(.val (.list .str) O,none),(.val .clo (some (96,[])),none)]
abbrev a6j:List q9:=[]
@[go_sem] def a6k:qH:=⟨[((O5 O)).isSome=true],[(.val (.int .i64) (val (O5 O)),none)],[]⟩
def aEz:List qB→List q9→Option qH:=rP (V:=pD) (a6i) (fun x=>a6j) fun x=>a6k x
@[go_sem] def aQI:aEz (no_index (a6i O)) (no_index a6j)=some (a6k O):=rR (fun a0 b0 h1 h2=>by cases h1;cases h2;rfl) O
end
@[go_sem] abbrev aEA:Nat×qW:=(137,⟨[.v,.v],aEz,[],[],none⟩)
def HD:rI Tryz.prog [sL,wE] (rJ [aEq]):=⟨⟨sO,⟨x4,trivial⟩⟩,qK aLZ rN,rL⟩
def aL3:r5 Tryz.prog aEA:=by
 refine rS HD Tryz.func137 (c:=_) rfl (N:=19) pT (ts:=[(4,none)]) rfl (fun _ _=>rfl) ?_;intro O hs hrow;dsimp only[a6i,a6j,a6k,rM,qM,qY,r7,rO,Nat.reduceAdd] at hs hrow|-;have hz:=hs;obtain⟨z0,d⟩:=aRh.1 hz
 try rw[rY d]
 clear hz hs;unfold O5 at d;refine q8 HD ?_;refine qS ?_;refine q8 HD ?_;refine rW ?_;obtain⟨y1,hy1,d⟩:=wX d;refine uV 0 (fun s=> ∃v,y1= .inl v∧s=(fun _=>⟨[],[],0,19,0⟩) v) ?_ ?_
 .refine uP hy1 (fun x=>⟨[(0,(.val (.list .str) O,none)),(1,(.val .clo (some (96,[])),none)),(7,(.val (.int .i64) (O.length:Int),none)),(8,(.val (.int .i64) x,none))],[],0,19,0⟩) ⟨[0,1,7,8],[]⟩ pU ?_;intro Z w1 n1 e f;unfold RY at e;dsimp only at e|-;refine q8 HD ?_;refine qS ?_;refine qV e (fun e hc1=> ?_) (fun e hc1=> ?_)
  .refine r8 (qO (qS (rW ?_)));refine q8 HD ?_;obtain⟨hg1,e⟩:=qG e;obtain⟨aA,hv2,hw2,e⟩:=qQ e
   try simp only[go_sem] at hw2
   refine q8 HD ?_ (hp:=by exact⟨hg1,(qP hv2)⟩) (h:=by simp only[go_sem,hw2];rfl);refine qV e (fun e hc2=> ?_) (fun e hc2=> ?_)
   .refine q8 HD ?_;refine qR (s8 (rQ (wP (wW (s8 (rQ ?_))))));cases e;cases f;dsimp only at d;cases d;exact pE []
   .refine r8 (rT (qO ?_));obtain⟨hg3,e⟩:=qG e;refine rF HD ?_ (hp:=by exact hg3);cases e;exact tC ⟨⟨[0,1,7,8],[]⟩,_,by rfl,f⟩
  .refine uJ (uI (uL ?_));cases e;cases f;exact uK ⟨⟨[],[]⟩,_,rfl,by rfl⟩
 .rintro _ ⟨v,rfl,rfl⟩;dsimp only at d|-;refine uU (qO ?_);refine q8 HD ?_;refine qR ?_;cases d;exact pE []
def BO (O:pD):Option Bool:=(O5 O).bind fun Z=>some ((decide ((0:Int)≤Z)))
section
variable (O:pD)
abbrev a6l:List qB:=[(.val (.list .str) O,none),(.val .clo (some (96,[])),none)]
abbrev a6m:List q9:=[]
@[go_sem] def a6n:qH:=⟨[((BO O)).isSome=true],[(.val .bool (val (BO O)),none)],[]⟩
def aEB:List qB→List q9→Option qH:=rP (V:=pD) (a6l) (fun x=>a6m) fun x=>a6n x
@[go_sem] def aQJ:aEB (no_index (a6l O)) (no_index a6m)=some (a6n O):=rR (fun a0 b0 h1 h2=>by cases h1;cases h2;rfl) O
end
@[go_sem] abbrev aEC:Nat×qW:=(95,⟨[.v,.v],aEB,[],[],none⟩)
def a6o:rI Tryz.prog [] (rJ [aEA]):=⟨trivial,qK aL3 rN,rL⟩
def aL4:r5 Tryz.prog aEC:=by
 refine rS a6o Tryz.func95 (c:=_) rfl (N:=9) pT (ts:=[(4,none)]) rfl (fun _ _=>rfl) ?_;intro O hs hrow;dsimp only[a6l,a6m,a6n,rM,qM,qY,r7,rO,Nat.reduceAdd] at hs hrow|-;have hz:=hs;obtain⟨z0,d⟩:=aRh.1 hz
 try rw[rY d]
 clear hz hs;unfold BO at d;refine q8 a6o ?_;obtain⟨Z,hv1,hw1,d⟩:=qQ d
 try simp only[go_sem] at hw1
 refine q8 a6o ?_ (hp:=by exact(qP hv1)) (h:=by simp only[go_sem,hw1];rfl);refine qR ?_;cases d;exact pE []
attribute [irreducible] LJ HC J7 FP O5 BO
end
noncomputable section
def LK (O:pD):Option Unit:=if (((decide ((O.length:Int)≤(20:Int)))==true)=true→((BO O)).isSome=true) then some (()) else none
section
variable (O:pD)
abbrev a6p:List qB:=[(.val (.list .str) O,none)]
abbrev a6q:List q9:=[]
@[go_sem] def a6r:qH:=⟨[((LK O)).isSome=true],[(.val .bool ((decide ((O.length:Int)≤(20:Int)))&&(!(val (BO O)))),none)],[]⟩
def aED:List qB→List q9→Option qH:=rP (V:=pD) (a6p) (fun x=>a6q) fun x=>a6r x
@[go_sem] def aQK:aED (no_index (a6p O)) (no_index a6q)=some (a6r O):=rR (fun a0 b0 h1 h2=>by cases h1;cases h2;rfl) O
end
@[go_sem] abbrev a6s:Nat×qW:=(64,⟨[.v],aED,[],[],none⟩)
def a6t:rI Tryz.prog [wE] (rJ [aEC]):=⟨⟨x4,trivial⟩,qK aL4 rN,rL⟩
def aEE:r5 Tryz.prog a6s:=by
 refine rS a6t Tryz.func64 (c:=_) rfl (N:=11) pT (ts:=[(2,none)]) rfl (fun _ _=>rfl) ?_;intro O hs hrow;dsimp only[a6p,a6q,a6r,rM,qM,qY,r7,rO,Nat.reduceAdd] at hs hrow|-;have hz:=hs;obtain⟨z0,e⟩:=aRh.1 hz
 try rw[rY e]
 clear hz hs;unfold LK at e;refine q8 a6t ?_;obtain⟨hg1,e⟩:=qG e;refine q8 a6t ?_ (hp:=by exact⟨id,hg1,id,sY⟩);refine qR ?_;cases e;exact pE []
def J8 (O:sF):Option Bool:=if ((((decide (O.1=([]:pC)))||(decide ((200:Int)<(O.1.length:Int))))==false)=true→((EF O.1)).isSome=true) then if (((((decide (O.1=([]:pC)))||(decide ((200:Int)<(O.1.length:Int))))||(!((decide ((O.1.length:Int)≤(4000:Int)))&&(Lib.validD O.1))))||(decide (O.2.2.2.2.2.1<(0:Int))))||(decide ((4:Int)<O.2.2.2.2.2.1)))=true then some (false) else (EF O.2.1).bind fun Z=>if ((((decide ((O.2.1.length:Int)≤(4000:Int)))&&(Lib.validD O.2.1))==true)=true→((EF O.2.2.1)).isSome=true) then if (((((decide ((O.2.1.length:Int)≤(4000:Int)))&&(Lib.validD O.2.1))&&((decide ((O.2.2.1.length:Int)≤(4000:Int)))&&(Lib.validD O.2.2.1)))==true)=true→((LK O.2.2.2.1)).isSome=true) then if ((((((decide ((O.2.1.length:Int)≤(4000:Int)))&&(Lib.validD O.2.1))&&((decide ((O.2.2.1.length:Int)≤(4000:Int)))&&(Lib.validD O.2.2.1)))&&((decide ((O.2.2.2.1.length:Int)≤(20:Int)))&&(!(val (BO O.2.2.2.1)))))==true)=true→((GT O.2.2.2.2.1)).isSome=true) then if (((((((decide ((O.2.1.length:Int)≤(4000:Int)))&&(Lib.validD O.2.1))&&((decide ((O.2.2.1.length:Int)≤(4000:Int)))&&(Lib.validD O.2.2.1)))&&((decide ((O.2.2.2.1.length:Int)≤(20:Int)))&&(!(val (BO O.2.2.2.1)))))&&(val (GT O.2.2.2.2.1)))==true)=true→((FO O.2.2.2.2.2.2.1)).isSome=true) then some (((((((decide ((O.2.1.length:Int)≤(4000:Int)))&&(Lib.validD O.2.1))&&((decide ((O.2.2.1.length:Int)≤(4000:Int)))&&(Lib.validD O.2.2.1)))&&((decide ((O.2.2.2.1.length:Int)≤(20:Int)))&&(!(val (BO O.2.2.2.1)))))&&(val (GT O.2.2.2.2.1)))&&(val (FO O.2.2.2.2.2.2.1)))) else none else none else none else none else none
section
variable (O:sF)
abbrev a6u:List qB:=[(.val tU O,none)]
abbrev a6v:List q9:=[]
@[go_sem] def a6w:qH:=⟨[((J8 O)).isSome=true],[(.val .bool (val (J8 O)),none)],[]⟩
def aEF:List qB→List q9→Option qH:=rP (V:=sF) (a6u) (fun x=>a6v) fun x=>a6w x
@[go_sem] def aQL:aEF (no_index (a6u O)) (no_index a6v)=some (a6w O):=rR (fun a0 b0 h1 h2=>by cases h1;cases h2;rfl) O
end
@[go_sem] abbrev aEG:Nat×qW:=(66,⟨[.v],aEF,[],[],none⟩)
def RZ:rI Tryz.prog [xK,sL,wE,AZ,zT] (rJ [RN,a6s,aCU,a5X]):=⟨⟨yA,⟨sO,⟨x4,⟨CK,⟨AY,trivial⟩⟩⟩⟩⟩,qK WZ (qK aEE (qK aLv (qK aEo rN))),rL⟩
def aL5:r5 Tryz.prog aEG:=by
 refine rS RZ Tryz.func66 (c:=_) rfl (N:=51) pT (ts:=[(2,none)]) rfl (fun _ _=>rfl) ?_;intro O hs hrow;dsimp only[a6u,a6v,a6w,rM,qM,qY,r7,rO,Nat.reduceAdd] at hs hrow|-;have hz:=hs;obtain⟨z0,e⟩:=aRh.1 hz
 try rw[rY e]
 clear hz hs;unfold J8 at e;refine q8 RZ ?_;refine qS ?_;obtain⟨hg1,e⟩:=qG e;refine q8 RZ ?_ (hp:=by exact⟨id,id,id,sU,id,id,hg1,id,sU,id,id,sU,id,id,sU⟩);refine qV e (fun e hc1=> ?_) (fun e hc1=> ?_)
 .refine q8 RZ ?_;refine qR (rQ ?_);cases e;exact pE []
 .refine r8 (qO ?_);obtain⟨Z,hv2,hw2,e⟩:=qQ e
  try simp only[go_sem] at hw2
  obtain⟨hg3,e⟩:=qG e;obtain⟨hg4,e⟩:=qG e;obtain⟨hg5,e⟩:=qG e;obtain⟨hg6,e⟩:=qG e;refine q8 RZ ?_ (hp:=by exact⟨qP hv2,id,id,hg3,sY,id,id,hg4,sY,id,id,hg5,sY,id,id,hg6,sY⟩) (h:=by simp only[go_sem,hw2];rfl);refine qR ?_;cases e;exact pE []
def J9 (O:pC):Option pC:=(LJ (4:Int) O).bind fun Z=>some (Z)
section
variable (O:pC)
abbrev a6x:List qB:=[(.val .str O,none)]
abbrev a6y:List q9:=[]
@[go_sem] def a6z:qH:=⟨[((J9 O)).isSome=true],[(.val .str (val (J9 O)),none)],[]⟩
def aEH:List qB→List q9→Option qH:=rP (V:=pC) (a6x) (fun x=>a6y) fun x=>a6z x
@[go_sem] def aQM:aEH (no_index (a6x O)) (no_index a6y)=some (a6z O):=rR (fun a0 b0 h1 h2=>by cases h1;cases h2;rfl) O
end
@[go_sem] abbrev a6A:Nat×qW:=(68,⟨[.v],aEH,[],[],none⟩)
def a6B:rI Tryz.prog [] (rJ [aEs]):=⟨trivial,qK aL0 rN,rL⟩
def aEI:r5 Tryz.prog a6A:=by
 refine rS a6B Tryz.func68 (c:=_) rfl (N:=5) pT (ts:=[(2,none)]) rfl (fun _ _=>rfl) ?_;intro O hs hrow;dsimp only[a6x,a6y,a6z,rM,qM,qY,r7,rO,Nat.reduceAdd] at hs hrow|-;have hz:=hs;obtain⟨z0,e⟩:=aRh.1 hz
 try rw[rY e]
 clear hz hs;unfold J9 at e;refine q8 a6B ?_;obtain⟨Z,hv1,hw1,e⟩:=qQ e
 try simp only[go_sem] at hw1
 refine q8 a6B ?_ (hp:=by exact(qP hv1)) (h:=by simp only[go_sem,hw1];rfl);refine qR ?_;cases e;exact pE []
attribute [irreducible] LK J8 J9
end
noncomputable section
def S0 (O:pL):(Int×pL)→Option ((Int×pL)⊕pL):=fun(Z,aA)=>if (decide (Z<(O.length:Int)))=true then if 0≤Z∧Z<(O.length:Int) then if (!(((decide ((0:Int)≤(qU (.int .i64) O Z)))&&(decide ((qU (.int .i64) O Z)≤(1114111:Int))))&&((decide ((qU (.int .i64) O Z)<(55296:Int)))||(decide ((57343:Int)<(qU (.int .i64) O Z))))))=true then (FP (aA,()) (IntKind.wrap .i32 (65533:Int))).bind fun aB=>if qC (Z+(1:Int)) then some (.inl ((Z+(1:Int)),aB.2)) else none else (FP (aA,()) (IntKind.wrap .i32 (qU (.int .i64) O Z))).bind fun aC=>if qC (Z+(1:Int)) then some (.inl ((Z+(1:Int)),aC.2)) else none else none else some (.inr aA)
def O6 (O:pL):Option pC:=sJ (rU (S0 O) ((0:Int),([]:pL))) fun Z=>some ((vG Z))
section
variable (O:pL)
abbrev a6C:List qB:=[(.val (.list (.int .i64)) O,none)]
abbrev a6D:List q9:=[]
@[go_sem] def a6E:qH:=⟨[((O6 O)).isSome=true],[(.val .str (val (O6 O)),none)],[]⟩
def aEJ:List qB→List q9→Option qH:=rP (V:=pL) (a6C) (fun x=>a6D) fun x=>a6E x
@[go_sem] def aQN:aEJ (no_index (a6C O)) (no_index a6D)=some (a6E O):=rR (fun a0 b0 h1 h2=>by cases h1;cases h2;rfl) O
end
@[go_sem] abbrev aEK:Nat×qW:=(235,⟨[.v],aEJ,[],[],none⟩)
def CQ:rI Tryz.prog [xK,R2,GR,GQ] (rJ [aDu,aEy,GN]):=⟨⟨yA,⟨a2g,⟨L4,⟨L3,trivial⟩⟩⟩⟩,qK aLH (qK aL2 (qK NA rN)),rL⟩
def aL6:r5 Tryz.prog aEK:=by
 refine rS CQ Tryz.func235 (c:=_) rfl (N:=20) pT (ts:=[(2,none)]) rfl (fun _ _=>rfl) ?_;intro O hs hrow;dsimp only[a6C,a6D,a6E,rM,qM,qY,r7,rO,Nat.reduceAdd] at hs hrow|-;have hz:=hs;obtain⟨z0,f⟩:=aRh.1 hz
 try rw[rY f]
 clear hz hs;unfold O6 at f;refine q8 CQ ?_;refine q8 CQ ?_;refine qS ?_;refine q8 CQ ?_;refine rW ?_;obtain⟨Z,hy1,f⟩:=qI f;refine uV 0 (fun s=>s=(fun x=>⟨[(3,(.val .ref (some (0,0)),none))],[(0,.cells wD ((some (0,0)),(x,())) [(1,1)]),(1,.grow 5 1 (x.length))],2,20,0⟩) Z) ?_ ?_
 .refine uP hy1 (fun x=>⟨[(3,(.val .ref (some (0,0)),none)),(6,(.val (.list (.int .i64)) O,none)),(7,(.val (.int .i64) (O.length:Int),none)),(8,(.val (.int .i64) x.1,none))],[(0,.cells wD ((some (0,0)),(x.2,())) [(1,1)]),(1,.grow 5 1 (x.2.length))],2,20,0⟩) ⟨[3,6,7,8],[(0,32),(1,33)]⟩ pU ?_;intro x1 w1 n1 e g;obtain⟨aA,aB⟩:=x1;unfold S0 at e;dsimp only at e|-;refine q8 CQ ?_;refine qS ?_;refine qV e (fun e hc1=> ?_) (fun e hc1=> ?_)
  .refine r8 (qO (qS (rW ?_)));obtain⟨hg1,e⟩:=qG e;refine q8 CQ ?_ (hp:=by exact hg1);refine qS ?_;refine q8 CQ ?_;refine qV e (fun e hc2=> ?_) (fun e hc2=> ?_)
   .refine rF CQ ?_;refine qO ?_;obtain⟨aC,hv2,hw2,e⟩:=qQ e
    try simp only[go_sem] at hw2
    refine rF CQ ?_ (hp:=by exact⟨pS,(qP hv2)⟩) (h:=by simp only[go_sem,hw2];rfl)
    refine rT (qO ?_);obtain⟨hg3,e⟩:=qG e;refine rF CQ ?_ (hp:=by exact hg3);cases e;exact tC ⟨⟨[3,6,7,8],[(0,0),(1,1)]⟩,_,by rfl,g⟩
   .refine r8 (qO ?_);obtain⟨aD,hv4,hw4,e⟩:=qQ e
    try simp only[go_sem] at hw4
    refine rF CQ ?_ (hp:=by exact⟨pS,(qP hv4)⟩) (h:=by simp only[go_sem,hw4];rfl)
    refine rT (qO ?_);obtain⟨hg5,e⟩:=qG e;refine rF CQ ?_ (hp:=by exact hg5);cases e;exact tC ⟨⟨[3,6,7,8],[(0,0),(1,1)]⟩,_,by rfl,g⟩
  .refine uJ (uI (uL ?_));cases e;cases g;exact uK ⟨⟨[3],[(0,0),(1,1)]⟩,by rfl⟩
 .rintro _ rfl;dsimp only at f|-;refine uU (qO ?_);refine q8 CQ ?_ (hp:=by first|rfl|trivial)
  refine qR ?_;cases f;exact pE []
def LL (O:sV):(Int×pJ)→Option ((Int×pJ)⊕(Unit⊕Bool)):=fun(Z,aA)=>if (decide (Z<(O.2.2.2.1.length:Int)))=true then if 0≤Z∧Z<(O.2.2.2.1.length:Int) then if (((rV .str .bool aA ((qU tU O.2.2.2.1 Z).1))==false)=true→((J8 (qU tU O.2.2.2.1 Z))).isSome=true) then if ((rV .str .bool aA ((qU tU O.2.2.2.1 Z).1))||(!(val (J8 (qU tU O.2.2.2.1 Z)))))=true then some (.inr (.inr (false))) else if qC (Z+(1:Int)) then some (.inl ((Z+(1:Int)),(tJ .str .bool ((qU tU O.2.2.2.1 Z).1) true aA))) else none else none else none else some (.inr (.inl ()))
def LM (O:sV):Option Bool:=(EA O.1).bind fun Z=>if (((!Z)==false)=true→((LK O.2.1)).isSome=true) then if ((((!Z)||(!((decide ((O.2.1.length:Int)≤(20:Int)))&&(!(val (BO O.2.1))))))==false)=true→((FO O.2.2.1)).isSome=true) then if ((((!Z)||(!((decide ((O.2.1.length:Int)≤(20:Int)))&&(!(val (BO O.2.1))))))||(!(val (FO O.2.2.1))))||(decide ((1000:Int)<(O.2.2.2.1.length:Int))))=true then some (false) else vA (rU (LL O) ((0:Int),([]:pJ))) fun _=>some (true) else none else none
section
variable (O:sV)
abbrev a6F:List qB:=[(.val IP O,none)]
abbrev a6G:List q9:=[]
@[go_sem] def a6H:qH:=⟨[((LM O)).isSome=true],[(.val .bool (val (LM O)),none)],[]⟩
def aEL:List qB→List q9→Option qH:=rP (V:=sV) (a6F) (fun x=>a6G) fun x=>a6H x
@[go_sem] def aQO:aEL (no_index (a6F O)) (no_index a6G)=some (a6H O):=rR (fun a0 b0 h1 h2=>by cases h1;cases h2;rfl) O
end
@[go_sem] abbrev aEM:Nat×qW:=(36,⟨[.v],aEL,[],[],none⟩)
def CR:rI Tryz.prog [B0,sL,wE,AZ,IT,DA,zT,IW] (rJ [WS,a6s,a5X,aEG]):=⟨⟨CN,⟨sO,⟨x4,⟨CK,⟨NK,⟨FI,⟨AY,⟨NL,trivial⟩⟩⟩⟩⟩⟩⟩⟩,qK a2M (qK aEE (qK aEo (qK aL5 rN))),rL⟩
def aL7:r5 Tryz.prog aEM:=by
 refine rS CR Tryz.func36 (c:=_) rfl (N:=49) pT (ts:=[(2,none)]) rfl (fun _ _=>rfl) ?_;intro O hs hrow;dsimp only[a6F,a6G,a6H,rM,qM,qY,r7,rO,Nat.reduceAdd] at hs hrow|-;have hz:=hs;obtain⟨z0,f⟩:=aRh.1 hz
 try rw[rY f]
 clear hz hs;unfold LM at f;refine q8 CR ?_;refine qS ?_;obtain⟨Z,hv1,hw1,f⟩:=qQ f
 try simp only[go_sem] at hw1
 obtain⟨hg2,f⟩:=qG f;obtain⟨hg3,f⟩:=qG f;refine q8 CR ?_ (hp:=by exact⟨qP hv1,id,id,hg2,id,sU,id,id,hg3,id,sU,id,id,id,sU⟩) (h:=by simp only[go_sem,hw1];rfl);refine qV f (fun f hc1=> ?_) (fun f hc1=> ?_)
 .refine q8 CR ?_;refine qR (rQ ?_);cases f;exact pE []
 .refine r8 (qO ?_);refine q8 CR ?_;refine qS ?_;refine q8 CR ?_;refine rW ?_;obtain⟨y1,hy1,f⟩:=wX f;refine uV 0 (fun s=> ∃v,y1= .inl v∧s=(fun _=>⟨[],[],0,49,0⟩) v) ?_ ?_
  .refine uP hy1 (fun x=>⟨[(3,(.val .mp (some 0),none)),(30,(.val (.list tU) O.2.2.2.1,none)),(31,(.val (.int .i64) (O.2.2.2.1.length:Int),none)),(32,(.val (.int .i64) x.1,none))],[(0,.map .str .bool x.2)],1,49,0⟩) ⟨[3,30,31,32],[(0,768)]⟩ pU ?_;intro x1 w1 n1 e g;obtain⟨aA,aB⟩:=x1;unfold LL at e;dsimp only at e|-;refine q8 CR ?_;refine qS ?_;refine qV e (fun e hc2=> ?_) (fun e hc2=> ?_)
   .refine r8 (qO (qS (rW ?_)));obtain⟨hg4,e⟩:=qG e;refine q8 CR ?_ (hp:=by exact hg4);refine qS ?_;obtain⟨hg5,e⟩:=qG e;refine q8 CR ?_ (hp:=by exact⟨id,hg5,id,sU⟩);refine qV e (fun e hc3=> ?_) (fun e hc3=> ?_)
    .refine q8 CR ?_;refine qR (rQ (s8 (rQ (wP (wW (s8 (rQ ?_)))))));cases e;cases g;dsimp only at f;cases f;exact pE []
    .refine r8 (qO ?_);refine rF CR ?_;refine rT (qO ?_);obtain⟨hg6,e⟩:=qG e;refine rF CR ?_ (hp:=by exact hg6);cases e;exact tC ⟨⟨[3,30,31,32],[(0,0)]⟩,_,by rfl,g⟩
   .refine uJ (uI (uL ?_));cases e;cases g;exact uK ⟨⟨[],[]⟩,_,rfl,by rfl⟩
  .rintro _ ⟨v,rfl,rfl⟩;dsimp only at f|-;refine uU (qO ?_);refine q8 CR ?_;refine qR ?_;cases f;exact pE []
def JA (O:Int):Option pC:=(O6 ([O]:pL)).bind fun Z=>some (Z)
section
variable (O:Int)
abbrev a6I:List qB:=[(.val (.int .i64) O,none)]
abbrev a6J:List q9:=[]
@[go_sem] def a6K:qH:=⟨[((JA O)).isSome=true],[(.val .str (val (JA O)),none),(.val .bool ((decide (O≤(1114111:Int)))&&((decide (O<(55296:Int)))||(decide ((57343:Int)<O)))),none)],[]⟩
def aEN:List qB→List q9→Option qH:=rP (V:=Int) (a6I) (fun x=>a6J) fun x=>a6K x
@[go_sem] def aQP:aEN (no_index (a6I O)) (no_index a6J)=some (a6K O):=rR (fun a0 b0 h1 h2=>by cases h1;cases h2;rfl) O
end
@[go_sem] abbrev a6L:Nat×qW:=(227,⟨[.v],aEN,[],[],none⟩)
def X2:rI Tryz.prog [GR] (rJ [aEK]):=⟨⟨L4,trivial⟩,qK aL6 rN,rL⟩
def aEO:r5 Tryz.prog a6L:=by
 refine rS X2 Tryz.func227 (c:=_) rfl (N:=19) pT (ts:=[(2,none),(3,none)]) rfl (fun _ _=>rfl) ?_;intro O hs hrow;dsimp only[a6I,a6J,a6K,rM,qM,qY,r7,rO,Nat.reduceAdd] at hs hrow|-;have hz:=hs;obtain⟨z0,f⟩:=aRh.1 hz
 try rw[rY f]
 clear hz hs;unfold JA at f;refine q8 X2 ?_;refine q8 X2 ?_ (hp:=by exact⟨id,id,id,id,fun hG d=>IJ hG d,sY⟩);obtain⟨Z,hv1,hw1,f⟩:=qQ f
 try simp only[go_sem] at hw1
 refine q8 X2 ?_ (hp:=by exact(qP hv1)) (h:=by simp only[go_sem,hw1];rfl);refine qR ?_;cases f;exact pE []
attribute [irreducible] O6 LM JA
end
noncomputable section
def EH (O:pC) (Z:pC) (aA:pC) (aB:pC):Option pC:=if ((([10]:pC)++O).length:Int)≤9223372036854775807 then if (((([10]:pC)++O)++([60]:pC)).length:Int)≤9223372036854775807 then if ((((([10]:pC)++O)++([60]:pC))++Z).length:Int)≤9223372036854775807 then if (((((([10]:pC)++O)++([60]:pC))++Z)++aA).length:Int)≤9223372036854775807 then if ((((((([10]:pC)++O)++([60]:pC))++Z)++aA)++([62]:pC)).length:Int)≤9223372036854775807 then (J9 aB).bind fun aC=>if (((((((([10]:pC)++O)++([60]:pC))++Z)++aA)++([62]:pC))++aC).length:Int)≤9223372036854775807 then if ((((((((([10]:pC)++O)++([60]:pC))++Z)++aA)++([62]:pC))++aC)++([60,47]:pC)).length:Int)≤9223372036854775807 then if (((((((((([10]:pC)++O)++([60]:pC))++Z)++aA)++([62]:pC))++aC)++([60,47]:pC))++Z).length:Int)≤9223372036854775807 then if ((((((((((([10]:pC)++O)++([60]:pC))++Z)++aA)++([62]:pC))++aC)++([60,47]:pC))++Z)++([62]:pC)).length:Int)≤9223372036854775807 then some ((((((((((([10]:pC)++O)++([60]:pC))++Z)++aA)++([62]:pC))++aC)++([60,47]:pC))++Z)++([62]:pC))) else none else none else none else none else none else none else none else none else none
section
variable (O:pC) (Z:pC) (aA:pC) (aB:pC)
abbrev a6M:List qB:=[(.val .str O,none),(.val .str Z,none),(.val .str aA,none),(.val .str aB,none)]
abbrev a6N:List q9:=[]
@[go_sem] def a6O:qH:=⟨[((EH O Z aA aB)).isSome=true],[(.val .str (val (EH O Z aA aB)),none)],[]⟩
def aEP:List qB→List q9→Option qH:=rP (V:=(pC×pC×pC×pC)) (fun x=>a6M x.1 x.2.1 x.2.2.1 x.2.2.2) (fun x=>a6N) fun x=>a6O x.1 x.2.1 x.2.2.1 x.2.2.2
@[go_sem] def aQQ:aEP (no_index (a6M O Z aA aB)) (no_index a6N)=some (a6O O Z aA aB):=rR (fun⟨a0,a1,a2,a3⟩ ⟨b0,b1,b2,b3⟩ h1 h2=>by cases h1;cases h2;rfl) (O,Z,aA,aB)
end
@[go_sem] abbrev a6P:Nat×qW:=(67,⟨[.v,.v,.v,.v],aEP,[],[],none⟩)
def a6Q:rI Tryz.prog [] (rJ [a6A]):=⟨trivial,qK aEI rN,rL⟩
def aEQ:r5 Tryz.prog a6P:=by
 refine rS a6Q Tryz.func67 (c:=_) rfl (N:=24) pT (ts:=[(8,none)]) rfl (fun _ _=>rfl) ?_;intro⟨O,Z,aA,aB⟩ hs hrow;dsimp only[a6M,a6N,a6O,rM,qM,qY,r7,rO,Nat.reduceAdd] at hs hrow|-;have hz:=hs;obtain⟨z0,d⟩:=aRh.1 hz
 try rw[rY d]
 clear hz hs;unfold EH at d;refine q8 a6Q ?_;obtain⟨hg1,d⟩:=qG d;obtain⟨hg2,d⟩:=qG d;obtain⟨hg3,d⟩:=qG d;obtain⟨hg4,d⟩:=qG d;obtain⟨hg5,d⟩:=qG d;obtain⟨aC,hv6,hw6,d⟩:=qQ d
 try simp only[go_sem] at hw6
 obtain⟨hg7,d⟩:=qG d;obtain⟨hg8,d⟩:=qG d;obtain⟨hg9,d⟩:=qG d;obtain⟨hg10,d⟩:=qG d;refine q8 a6Q ?_ (hp:=by exact⟨hg1,hg2,hg3,hg4,hg5,qP hv6,hg7,hg8,hg9,hg10⟩) (h:=by simp only[go_sem,hw6];rfl);refine qR ?_;cases d;exact pE []
def S1 (O:pC) (Z:pD):(pC×Int)→Option ((pC×Int)⊕pC):=fun(aA,aB)=>if (decide (aB<(Z.length:Int)))=true then if 0≤aB∧aB<(Z.length:Int) then (EH O ([99,111,109,109,101,110,116]:pC) ([]:pC) (qU .str Z aB)).bind fun aC=>if ((aA++aC).length:Int)≤9223372036854775807 then if qC (aB+(1:Int)) then some (.inl ((aA++aC),(aB+(1:Int)))) else none else none else none else some (.inr aA)
def O7 (O:pC) (Z:(List r6)):(pC×Int)→Option ((pC×Int)⊕pC):=fun(aA,aB)=>if (decide (aB<(Z.length:Int)))=true then if 0≤aB∧aB<(Z.length:Int) then if ((([32,110,97,109,101,61,34]:pC)++(qU (.pair .str (.pair .str .unit)) Z aB).1).length:Int)≤9223372036854775807 then if (((([32,110,97,109,101,61,34]:pC)++(qU (.pair .str (.pair .str .unit)) Z aB).1)++([34]:pC)).length:Int)≤9223372036854775807 then (EH O ([102,105,101,108,100]:pC) ((([32,110,97,109,101,61,34]:pC)++(qU (.pair .str (.pair .str .unit)) Z aB).1)++([34]:pC)) ((qU (.pair .str (.pair .str .unit)) Z aB).2.1)).bind fun aC=>if ((aA++aC).length:Int)≤9223372036854775807 then if qC (aB+(1:Int)) then some (.inl ((aA++aC),(aB+(1:Int)))) else none else none else none else none else none else some (.inr aA)
def HE (O:pC) (Z:pD) (aA:pC) (aB:(List r6)):Option pC:=sJ (rU (S1 O Z) (([]:pC),(0:Int))) fun aC=>if ((aC++aA).length:Int)≤9223372036854775807 then sJ (rU (O7 O aB) ((aC++aA),(0:Int))) fun aD=>some (aD) else none
section
variable (O:pC) (Z:pD) (aA:pC) (aB:(List r6))
abbrev a6R:List qB:=[(.val .str O,none),(.val (.list .str) Z,none),(.val .str aA,none),(.val (.list (.pair .str (.pair .str .unit))) aB,none)]
abbrev a6S:List q9:=[]
@[go_sem] def a6T:qH:=⟨[((HE O Z aA aB)).isSome=true],[(.val .str (val (HE O Z aA aB)),none)],[]⟩
def aER:List qB→List q9→Option qH:=rP (V:=(pC×pD×pC×(List r6))) (fun x=>a6R x.1 x.2.1 x.2.2.1 x.2.2.2) (fun x=>a6S) fun x=>a6T x.1 x.2.1 x.2.2.1 x.2.2.2
@[go_sem] def aQR:aER (no_index (a6R O Z aA aB)) (no_index a6S)=some (a6T O Z aA aB):=rR (fun⟨a0,a1,a2,a3⟩ ⟨b0,b1,b2,b3⟩ h1 h2=>by cases h1;cases h2;rfl) (O,Z,aA,aB)
end
@[go_sem] abbrev a6U:Nat×qW:=(37,⟨[.v,.v,.v,.v],aER,[],[],none⟩)
def B1:rI Tryz.prog [sL,wE,AZ,FJ] (rJ [a6P]):=⟨⟨sO,⟨x4,⟨CK,⟨IU,trivial⟩⟩⟩⟩,qK aEQ rN,rL⟩
def aES:r5 Tryz.prog a6U:=by
 refine rS B1 Tryz.func37 (c:=_) rfl (N:=47) pT (ts:=[(8,none)]) rfl (fun _ _=>rfl) ?_;intro⟨O,Z,aA,aB⟩ hs hrow;dsimp only[a6R,a6S,a6T,rM,qM,qY,r7,rO,Nat.reduceAdd] at hs hrow|-;have hz:=hs;obtain⟨z0,d⟩:=aRh.1 hz
 try rw[rY d]
 clear hz hs;unfold HE at d;refine q8 B1 ?_;refine q8 B1 ?_;refine qS ?_;refine q8 B1 ?_;refine rW ?_;obtain⟨aC,hy1,d⟩:=qI d;refine uV 0 (fun s=>s=(fun x=>⟨[(0,(.val .str O,none)),(2,(.val .str aA,none)),(3,(.val (.list (.pair .str (.pair .str .unit))) aB,none)),(9,(.val .str x,none))],[],0,47,0⟩) aC) ?_ ?_
 .refine uP hy1 (fun x=>⟨[(0,(.val .str O,none)),(2,(.val .str aA,none)),(3,(.val (.list (.pair .str (.pair .str .unit))) aB,none)),(9,(.val .str x.1,none)),(14,(.val (.list .str) Z,none)),(15,(.val (.int .i64) (Z.length:Int),none)),(16,(.val (.int .i64) x.2,none))],[],0,47,0⟩) ⟨[0,2,3,9,14,15,16],[]⟩ pU ?_;intro x1 w1 n1 e f;obtain⟨aD,aE⟩:=x1;unfold S1 at e;dsimp only at e|-;refine q8 B1 ?_;refine qS ?_;refine qV e (fun e hc1=> ?_) (fun e hc1=> ?_)
  .refine r8 (qO (qS (rW ?_)));obtain⟨hg1,e⟩:=qG e;refine q8 B1 ?_ (hp:=by exact hg1);obtain⟨aF,hv2,hw2,e⟩:=qQ e
   try simp only[go_sem] at hw2
   obtain⟨hg3,e⟩:=qG e;refine rF B1 ?_ (hp:=by exact⟨qP hv2,hg3⟩) (h:=by simp only[go_sem,hw2];rfl);refine rT (qO ?_);obtain⟨hg4,e⟩:=qG e;refine rF B1 ?_ (hp:=by exact hg4);cases e;exact tC ⟨⟨[0,2,3,9,14,15,16],[]⟩,_,by rfl,f⟩
  .refine uJ (uI (uL ?_));cases e;cases f;exact uK ⟨⟨[0,2,3,9],[]⟩,by rfl⟩
 .rintro _ rfl;dsimp only at d|-;refine uU (qO ?_);obtain⟨hg5,d⟩:=qG d;refine q8 B1 ?_ (hp:=by exact hg5);refine qS ?_;refine q8 B1 ?_;refine rW ?_;obtain⟨aG,hy1,d⟩:=qI d;refine uV 2 (fun s=>s=(fun x=>⟨[(9,(.val .str x,none))],[],0,47,0⟩) aG) ?_ ?_
  .refine uP hy1 (fun x=>⟨[(0,(.val .str O,none)),(9,(.val .str x.1,none)),(29,(.val (.list (.pair .str (.pair .str .unit))) aB,none)),(30,(.val (.int .i64) (aB.length:Int),none)),(31,(.val (.int .i64) x.2,none))],[],0,47,0⟩) ⟨[0,9,29,30,31],[]⟩ pU ?_;intro x1 w1 n1 e f;obtain⟨aH,aI⟩:=x1;unfold O7 at e;dsimp only at e|-;refine q8 B1 ?_;refine qS ?_;refine qV e (fun e hc2=> ?_) (fun e hc2=> ?_)
   .refine r8 (qO (qS (rW ?_)));obtain⟨hg6,e⟩:=qG e;refine q8 B1 ?_ (hp:=by exact hg6);obtain⟨hg7,e⟩:=qG e;obtain⟨hg8,e⟩:=qG e;obtain⟨aJ,hv9,hw9,e⟩:=qQ e
    try simp only[go_sem] at hw9
    obtain⟨hg10,e⟩:=qG e;refine rF B1 ?_ (hp:=by exact⟨hg7,hg8,qP hv9,hg10⟩) (h:=by simp only[go_sem,hw9];rfl);refine rT (qO ?_);obtain⟨hg11,e⟩:=qG e;refine rF B1 ?_ (hp:=by exact hg11);cases e;exact tC ⟨⟨[0,9,29,30,31],[]⟩,_,by rfl,f⟩
   .refine uJ (uI (uL ?_));cases e;cases f;exact uK ⟨⟨[9],[]⟩,by rfl⟩
  .rintro _ rfl;dsimp only at d|-;refine uU (qO ?_);refine q8 B1 ?_;refine qR ?_;cases d;exact pE []
attribute [irreducible] EH HE
end
noncomputable section
def LN (O:sF):Option pC:=(J9 O.1).bind fun Z=>if ((([10,32,32,60,101,110,116,114,121,32,105,100,61,34]:pC)++Z).length:Int)≤9223372036854775807 then if (((([10,32,32,60,101,110,116,114,121,32,105,100,61,34]:pC)++Z)++([34]:pC)).length:Int)≤9223372036854775807 then sJ (σ:=pC) (if (!decide (O.2.2.2.2.2.1=(0:Int)))=true then if 0≤O.2.2.2.2.2.1∧O.2.2.2.2.2.1<(([([110,101,119]:pC),([102,117,122,122,121]:pC),([116,114,97,110,115,108,97,116,101,100]:pC),([114,101,118,105,101,119,101,100]:pC),([111,98,115,111,108,101,116,101]:pC)]:pD).length:Int) then if ((([32,115,116,97,116,101,61,34]:pC)++(qU .str ([([110,101,119]:pC),([102,117,122,122,121]:pC),([116,114,97,110,115,108,97,116,101,100]:pC),([114,101,118,105,101,119,101,100]:pC),([111,98,115,111,108,101,116,101]:pC)]:pD) O.2.2.2.2.2.1)).length:Int)≤9223372036854775807 then if (((([32,115,116,97,116,101,61,34]:pC)++(qU .str ([([110,101,119]:pC),([102,117,122,122,121]:pC),([116,114,97,110,115,108,97,116,101,100]:pC),([114,101,118,105,101,119,101,100]:pC),([111,98,115,111,108,101,116,101]:pC)]:pD) O.2.2.2.2.2.1))++([34]:pC)).length:Int)≤9223372036854775807 then if ((((([10,32,32,60,101,110,116,114,121,32,105,100,61,34]:pC)++Z)++([34]:pC))++((([32,115,116,97,116,101,61,34]:pC)++(qU .str ([([110,101,119]:pC),([102,117,122,122,121]:pC),([116,114,97,110,115,108,97,116,101,100]:pC),([114,101,118,105,101,119,101,100]:pC),([111,98,115,111,108,101,116,101]:pC)]:pD) O.2.2.2.2.2.1))++([34]:pC))).length:Int)≤9223372036854775807 then some ((((([10,32,32,60,101,110,116,114,121,32,105,100,61,34]:pC)++Z)++([34]:pC))++((([32,115,116,97,116,101,61,34]:pC)++(qU .str ([([110,101,119]:pC),([102,117,122,122,121]:pC),([116,114,97,110,115,108,97,116,101,100]:pC),([114,101,118,105,101,119,101,100]:pC),([111,98,115,111,108,101,116,101]:pC)]:pD) O.2.2.2.2.2.1))++([34]:pC)))) else none else none else none else none else some (((([10,32,32,60,101,110,116,114,121,32,105,100,61,34]:pC)++Z)++([34]:pC))) ) fun aA=>sJ (σ:=pC) (if (decide ((0:Int)<(O.2.2.2.2.1.length:Int)))=true then if List.length O.2.2.2.2.1≤140737488355328∧List.length (vN O.2.2.2.2.1 ([32]:pC))≤140737488355328 then if ((([32,102,108,97,103,115,61,34]:pC)++(vN O.2.2.2.2.1 ([32]:pC))).length:Int)≤9223372036854775807 then if (((([32,102,108,97,103,115,61,34]:pC)++(vN O.2.2.2.2.1 ([32]:pC)))++([34]:pC)).length:Int)≤9223372036854775807 then if ((aA++((([32,102,108,97,103,115,61,34]:pC)++(vN O.2.2.2.2.1 ([32]:pC)))++([34]:pC))).length:Int)≤9223372036854775807 then some ((aA++((([32,102,108,97,103,115,61,34]:pC)++(vN O.2.2.2.2.1 ([32]:pC)))++([34]:pC)))) else none else none else none else none else some (aA) ) fun aB=>sJ (σ:=pC) (if (!decide (O.2.1=([]:pC)))=true then (EH ([32,32,32,32]:pC) ([115,111,117,114,99,101]:pC) ([]:pC) O.2.1).bind fun aC=>if ((([]:pC)++aC).length:Int)≤9223372036854775807 then some ((([]:pC)++aC)) else none else some (([]:pC)) ) fun aD=>if (!decide (O.2.2.1=([]:pC)))=true then (EH ([32,32,32,32]:pC) ([116,97,114,103,101,116]:pC) ([]:pC) O.2.2.1).bind fun aE=>if ((aD++aE).length:Int)≤9223372036854775807 then if ((aB++([62]:pC)).length:Int)≤9223372036854775807 then (HE ([32,32,32,32]:pC) O.2.2.2.1 (aD++aE) O.2.2.2.2.2.2.1).bind fun aF=>if (((aB++([62]:pC))++aF).length:Int)≤9223372036854775807 then if ((((aB++([62]:pC))++aF)++([10,32,32,60,47,101,110,116,114,121,62]:pC)).length:Int)≤9223372036854775807 then some ((((aB++([62]:pC))++aF)++([10,32,32,60,47,101,110,116,114,121,62]:pC))) else none else none else none else none else if ((aB++([62]:pC)).length:Int)≤9223372036854775807 then (HE ([32,32,32,32]:pC) O.2.2.2.1 aD O.2.2.2.2.2.2.1).bind fun aG=>if (((aB++([62]:pC))++aG).length:Int)≤9223372036854775807 then if ((((aB++([62]:pC))++aG)++([10,32,32,60,47,101,110,116,114,121,62]:pC)).length:Int)≤9223372036854775807 then some ((((aB++([62]:pC))++aG)++([10,32,32,60,47,101,110,116,114,121,62]:pC))) else none else none else none else none else none
section
variable (O:sF)
abbrev a6V:List qB:=[(.val tU O,none)]
abbrev a6W:List q9:=[]
@[go_sem] def a6X:qH:=⟨[((LN O)).isSome=true],[(.val .str (val (LN O)),none)],[]⟩
def aET:List qB→List q9→Option qH:=rP (V:=sF) (a6V) (fun x=>a6W) fun x=>a6X x
@[go_sem] def aQS:aET (no_index (a6V O)) (no_index a6W)=some (a6X O):=rR (fun a0 b0 h1 h2=>by cases h1;cases h2;rfl) O
end
@[go_sem] abbrev aEU:Nat×qW:=(38,⟨[.v],aET,[],[],none⟩)
def BP:rI Tryz.prog [xK,sL,wE,AZ,zT] (rJ [a6A,RK,NE,a6P,a6U]):=⟨⟨yA,⟨sO,⟨x4,⟨CK,⟨AY,trivial⟩⟩⟩⟩⟩,qK aEI (qK WV (qK a1N (qK aEQ (qK aES rN)))),rL⟩
def aL8:r5 Tryz.prog aEU:=by
 refine rS BP Tryz.func38 (c:=_) rfl (N:=59) pT (ts:=[(2,none)]) rfl (fun _ _=>rfl) ?_;intro O hs hrow;dsimp only[a6V,a6W,a6X,rM,qM,qY,r7,rO,Nat.reduceAdd] at hs hrow|-;have hz:=hs;obtain⟨z0,d⟩:=aRh.1 hz
 try rw[rY d]
 clear hz hs;unfold LN at d;refine q8 BP ?_;obtain⟨Z,hv1,hw1,d⟩:=qQ d
 try simp only[go_sem] at hw1
 obtain⟨hg2,d⟩:=qG d;obtain⟨hg3,d⟩:=qG d;refine q8 BP ?_ (hp:=by exact⟨qP hv1,hg2,hg3⟩) (h:=by simp only[go_sem,hw1];rfl);refine qS ?_;refine q8 BP ?_;obtain⟨aA,e,d⟩:=qI d;refine yY (fun s=>s=(fun x=>⟨[(1,(.val .ref (some (0,0)),none)),(3,(.val .str x,none))],[(0,.cells tU O [])],1,59,0⟩) aA) ?_ ?_
 .refine qV e (fun e hc1=> ?_) (fun e hc1=> ?_)
  .obtain⟨hg4,e⟩:=qG e;obtain⟨hg5,e⟩:=qG e;obtain⟨hg6,e⟩:=qG e;obtain⟨hg7,e⟩:=qG e;refine AW BP ?_ (hp:=by exact⟨hg4,hg5,hg6,hg7⟩);cases e;exact tY ⟨⟨[1,3],[(0,0)]⟩,by rfl⟩
  .refine r8 ?_;cases e;exact tY ⟨⟨[1,3],[(0,0)]⟩,by rfl⟩
 .rintro _ rfl;dsimp only at d|-;refine qO (qS ?_);refine q8 BP ?_;obtain⟨aB,e,d⟩:=qI d;refine yY (fun s=>s=(fun x=>⟨[(1,(.val .ref (some (0,0)),none)),(3,(.val .str x,none))],[(0,.cells tU O [])],1,59,0⟩) aB) ?_ ?_
  .refine qV e (fun e hc2=> ?_) (fun e hc2=> ?_)
   .obtain⟨hg8,e⟩:=qG e;obtain⟨hg9,e⟩:=qG e;obtain⟨hg10,e⟩:=qG e;obtain⟨hg11,e⟩:=qG e;refine rF BP ?_ (hp:=by exact⟨hg8,hg9,hg10,hg11⟩);cases e;exact tY ⟨⟨[1,3],[(0,0)]⟩,by rfl⟩
   .refine r8 ?_;cases e;exact tY ⟨⟨[1,3],[(0,0)]⟩,by rfl⟩
  .rintro _ rfl;dsimp only at d|-;refine qO ?_;refine q8 BP ?_;refine qS ?_;refine q8 BP ?_;obtain⟨aC,e,d⟩:=qI d;refine yY (fun s=>s=(fun x=>⟨[(1,(.val .ref (some (0,0)),none)),(3,(.val .str aB,none)),(4,(.val .str x,none))],[(0,.cells tU O [])],1,59,0⟩) aC) ?_ ?_
   .refine qV e (fun e hc3=> ?_) (fun e hc3=> ?_)
    .obtain⟨aD,hv12,hw12,e⟩:=qQ e
     try simp only[go_sem] at hw12
     obtain⟨hg13,e⟩:=qG e;refine rF BP ?_ (hp:=by exact⟨qP hv12,hg13⟩) (h:=by simp only[go_sem,hw12];rfl);cases e;exact tY ⟨⟨[1,3,4],[(0,0)]⟩,by rfl⟩
    .refine r8 ?_;cases e;exact tY ⟨⟨[1,3,4],[(0,0)]⟩,by rfl⟩
   .rintro _ rfl;dsimp only at d|-;refine qO (qS ?_);refine q8 BP ?_;refine qV d (fun d hc4=> ?_) (fun d hc4=> ?_)
    .obtain⟨aE,hv14,hw14,d⟩:=qQ d
     try simp only[go_sem] at hw14
     obtain⟨hg15,d⟩:=qG d;refine rF BP ?_ (hp:=by exact⟨qP hv14,hg15⟩) (h:=by simp only[go_sem,hw14];rfl);refine qO ?_;obtain⟨hg16,d⟩:=qG d;obtain⟨aF,hv17,hw17,d⟩:=qQ d
     try simp only[go_sem] at hw17
     obtain⟨hg18,d⟩:=qG d;obtain⟨hg19,d⟩:=qG d;refine q8 BP ?_ (hp:=by exact⟨hg16,qP hv17,hg18,hg19⟩) (h:=by simp only[go_sem,hw17];rfl);refine qR ?_;cases d;exact pE []
    .refine r8 (qO ?_);obtain⟨hg20,d⟩:=qG d;obtain⟨aG,hv21,hw21,d⟩:=qQ d
     try simp only[go_sem] at hw21
     obtain⟨hg22,d⟩:=qG d;obtain⟨hg23,d⟩:=qG d;refine q8 BP ?_ (hp:=by exact⟨hg20,qP hv21,hg22,hg23⟩) (h:=by simp only[go_sem,hw21];rfl);refine qR ?_;cases d;exact pE []
def O8 (O:pC):Option (pC×Int):=if (decide ((O.length:Int)<(2:Int)))=true then some ((([]:pC),(0:Int))) else if 0≤(1:Int)∧(1:Int)<(O.length:Int) then if (decide ((tM O (1:Int))=(110:Int)))=true then some ((([10]:pC),(2:Int))) else if (decide ((tM O (1:Int))=(114:Int)))=true then some ((([13]:pC),(2:Int))) else if (decide ((tM O (1:Int))=(116:Int)))=true then some ((([9]:pC),(2:Int))) else if (decide ((tM O (1:Int))=(120:Int)))=true then if (decide ((4:Int)≤(O.length:Int)))=true then if 0≤(2:Int)∧(2:Int)≤(4:Int)∧(4:Int)≤(O.length:Int) then (FN (sC O (2:Int) (4:Int)) (16:Int)).bind fun Z=>if (Z.2&&(decide (Z.1≤(127:Int))))=true then some (((vG ([(IntKind.wrap .u8 Z.1)]:pL)),(4:Int))) else some ((([]:pC),(0:Int))) else none else some ((([]:pC),(0:Int))) else if (decide ((tM O (1:Int))=(117:Int)))=true then if (decide ((6:Int)≤(O.length:Int)))=true then if 0≤(2:Int)∧(2:Int)≤(6:Int)∧(6:Int)≤(O.length:Int) then (FN (sC O (2:Int) (6:Int)) (16:Int)).bind fun aA=>if aA.2=true then (JA aA.1).bind fun aB=>if ((decide (aA.1≤(1114111:Int)))&&((decide (aA.1<(55296:Int)))||(decide ((57343:Int)<aA.1))))=true then some ((aB,(6:Int))) else some ((([]:pC),(0:Int))) else some ((([]:pC),(0:Int))) else none else some ((([]:pC),(0:Int))) else if (decide ((0:Int)≤(v7 ([92,34,61,58,35,33,123,125,32]:pC) (tM O (1:Int)))))=true then if 0≤(1:Int)∧(1:Int)≤(2:Int)∧(2:Int)≤(O.length:Int) then some (((sC O (1:Int) (2:Int)),(2:Int))) else none else some ((([]:pC),(0:Int))) else none
section
variable (O:pC)
abbrev a6Y:List qB:=[(.val .str O,none)]
abbrev a6Z:List q9:=[]
@[go_sem] def a60:qH:=⟨[((O8 O)).isSome=true],[(.val .str ((val (O8 O)).1),none),(.val (.int .i64) ((val (O8 O)).2),none)],[]⟩
def aEV:List qB→List q9→Option qH:=rP (V:=pC) (a6Y) (fun x=>a6Z) fun x=>a60 x
@[go_sem] def aQT:aEV (no_index (a6Y O)) (no_index a6Z)=some (a60 O):=rR (fun a0 b0 h1 h2=>by cases h1;cases h2;rfl) O
end
@[go_sem] abbrev aEW:Nat×qW:=(214,⟨[.v],aEV,[],[],none⟩)
def vJ:rI Tryz.prog [xK,IR,sL,FH] (rJ [a4d,a6L,FG]):=⟨⟨yA,⟨NI,⟨sO,⟨IS,trivial⟩⟩⟩⟩,qK aDy (qK aEO (qK KQ rN)),rL⟩
def aL9:r5 Tryz.prog aEW:=by
 refine rS vJ Tryz.func214 (c:=_) rfl (N:=67) pT (ts:=[(2,none),(3,none)]) rfl (fun _ _=>rfl) ?_;intro O hs hrow;dsimp only[a6Y,a6Z,a60,rM,qM,qY,r7,rO,Nat.reduceAdd] at hs hrow|-;have hz:=hs;obtain⟨z0,d⟩:=aRh.1 hz
 try rw[rY d]
 clear hz hs;unfold O8 at d;refine q8 vJ ?_;refine qS ?_;refine q8 vJ ?_;refine qV d (fun d hc1=> ?_) (fun d hc1=> ?_)
 .refine q8 vJ ?_;refine qR (rQ ?_);cases d;exact pE []
 .refine r8 (qO (qS ?_));obtain⟨hg1,d⟩:=qG d;refine q8 vJ ?_ (hp:=by exact hg1);refine q8 vJ ?_;refine rW ?_;refine q8 vJ ?_;refine qV d (fun d hc2=> ?_) (fun d hc2=> ?_)
  .refine q8 vJ ?_;refine qR (s8 (rQ ?_));cases d;exact pE []
  .refine q8 vJ ?_;refine qV d (fun d hc3=> ?_) (fun d hc3=> ?_)
   .refine q8 vJ ?_;refine qR (s8 (rQ ?_));cases d;exact pE []
   .refine q8 vJ ?_;refine qV d (fun d hc4=> ?_) (fun d hc4=> ?_)
    .refine q8 vJ ?_;refine qR (s8 (rQ ?_));cases d;exact pE []
    .refine q8 vJ ?_;refine qV d (fun d hc5=> ?_) (fun d hc5=> ?_)
     .refine q8 vJ ?_;refine qV d (fun d hc6=> ?_) (fun d hc6=> ?_)
      .obtain⟨hg2,d⟩:=qG d;obtain⟨Z,hv3,hw3,d⟩:=qQ d
       try simp only[go_sem] at hw3
       refine q8 vJ ?_ (hp:=by exact⟨hg2,(qP hv3)⟩) (h:=by simp only[go_sem,hw3];rfl);refine q8 vJ ?_ (hp:=by exact⟨id,sY⟩);refine qV d (fun d hc7=> ?_) (fun d hc7=> ?_)
       .refine q8 vJ ?_;refine qR (s8 (rQ ?_));cases d;exact pE []
       .refine r8 (rT (qO ?_));refine q8 vJ ?_;refine qR ?_;cases d;exact pE []
      .refine r8 (rT (qO ?_));refine q8 vJ ?_;refine qR ?_;cases d;exact pE []
     .refine q8 vJ ?_;refine qV d (fun d hc8=> ?_) (fun d hc8=> ?_)
      .refine q8 vJ ?_;refine qV d (fun d hc9=> ?_) (fun d hc9=> ?_)
       .obtain⟨hg4,d⟩:=qG d;obtain⟨aA,hv5,hw5,d⟩:=qQ d
        try simp only[go_sem] at hw5
        refine q8 vJ ?_ (hp:=by exact⟨hg4,(qP hv5)⟩) (h:=by simp only[go_sem,hw5];rfl);refine q8 vJ ?_;refine qV d (fun d hc10=> ?_) (fun d hc10=> ?_)
        .obtain⟨aB,hv6,hw6,d⟩:=qQ d
         try simp only[go_sem] at hw6
         refine q8 vJ ?_ (hp:=by exact(qP hv6)) (h:=by simp only[go_sem,hw6];rfl);refine q8 vJ ?_;refine qV d (fun d hc11=> ?_) (fun d hc11=> ?_)
         .refine q8 vJ ?_;refine qR (s8 (rQ ?_));cases d;exact pE []
         .refine r8 (rT (qO ?_));refine q8 vJ ?_;refine qR ?_;cases d;exact pE []
        .refine r8 (rT (qO ?_));refine q8 vJ ?_;refine qR ?_;cases d;exact pE []
       .refine r8 (rT (qO ?_));refine q8 vJ ?_;refine qR ?_;cases d;exact pE []
      .refine q8 vJ ?_;refine qV d (fun d hc12=> ?_) (fun d hc12=> ?_)
       .obtain⟨hg7,d⟩:=qG d;refine q8 vJ ?_ (hp:=by exact hg7);refine qR (s8 (rQ ?_));cases d;exact pE []
       .refine r8 (rT (qO ?_));refine q8 vJ ?_;refine qR ?_;cases d;exact pE []
attribute [irreducible] LN O8
end
noncomputable section
def EI (O:pC):Option (pC×Int):=if (decide ((v7 O (59:Int))<(0:Int)))=true then some ((([]:pC),(0:Int))) else if 0≤(1:Int)∧(1:Int)≤(v7 O (59:Int))∧(v7 O (59:Int))≤(O.length:Int) then if (decide ((sC O (1:Int) (v7 O (59:Int)))=([97,109,112]:pC)))=true then if qC ((v7 O (59:Int))+(1:Int)) then some ((([38]:pC),((v7 O (59:Int))+(1:Int)))) else none else if (decide ((sC O (1:Int) (v7 O (59:Int)))=([108,116]:pC)))=true then if qC ((v7 O (59:Int))+(1:Int)) then some ((([60]:pC),((v7 O (59:Int))+(1:Int)))) else none else if (decide ((sC O (1:Int) (v7 O (59:Int)))=([103,116]:pC)))=true then if qC ((v7 O (59:Int))+(1:Int)) then some ((([62]:pC),((v7 O (59:Int))+(1:Int)))) else none else if (decide ((sC O (1:Int) (v7 O (59:Int)))=([113,117,111,116]:pC)))=true then if qC ((v7 O (59:Int))+(1:Int)) then some ((([34]:pC),((v7 O (59:Int))+(1:Int)))) else none else if (decide ((sC O (1:Int) (v7 O (59:Int)))=([97,112,111,115]:pC)))=true then if qC ((v7 O (59:Int))+(1:Int)) then some ((([39]:pC),((v7 O (59:Int))+(1:Int)))) else none else (EG (sC O (1:Int) (v7 O (59:Int))) ([35]:pC)).bind fun Z=>if (!Z.2)=true then some ((([]:pC),(0:Int))) else (EG Z.1 ([120]:pC)).bind fun aA=>sJ (σ:=(pC×Int×Int)) (if aA.2=true then some ((aA.1,(16:Int),(6:Int))) else some ((Z.1,(10:Int),(7:Int))) ) fun(aB,aC,aD)=>(FN aB aC).bind fun aE=>if ((!aE.2)||(decide (aD<(aB.length:Int))))=true then some ((([]:pC),(0:Int))) else (JA aE.1).bind fun aF=>if (!((decide (aE.1≤(1114111:Int)))&&((decide (aE.1<(55296:Int)))||(decide ((57343:Int)<aE.1)))))=true then some ((([]:pC),(0:Int))) else if qC ((v7 O (59:Int))+(1:Int)) then some ((aF,((v7 O (59:Int))+(1:Int)))) else none else none
section
variable (O:pC)
abbrev a61:List qB:=[(.val .str O,none)]
abbrev a62:List q9:=[]
@[go_sem] def a63:qH:=⟨[((EI O)).isSome=true],[(.val .str ((val (EI O)).1),none),(.val (.int .i64) ((val (EI O)).2),none)],[]⟩
def aEX:List qB→List q9→Option qH:=rP (V:=pC) (a61) (fun x=>a62) fun x=>a63 x
@[go_sem] def aQU:aEX (no_index (a61 O)) (no_index a62)=some (a63 O):=rR (fun a0 b0 h1 h2=>by cases h1;cases h2;rfl) O
end
@[go_sem] abbrev aEY:Nat×qW:=(215,⟨[.v],aEX,[],[],none⟩)
def vO:rI Tryz.prog [sL] (rJ [FG,X0,a4d,a6L]):=⟨⟨sO,trivial⟩,qK KQ (qK a5j (qK aDy (qK aEO rN))),rL⟩
def aMa:r5 Tryz.prog aEY:=by
 refine rS vO Tryz.func215 (c:=_) rfl (N:=80) pT (ts:=[(2,none),(3,none)]) rfl (fun _ _=>rfl) ?_;intro O hs hrow;dsimp only[a61,a62,a63,rM,qM,qY,r7,rO,Nat.reduceAdd] at hs hrow|-;have hz:=hs;obtain⟨z0,d⟩:=aRh.1 hz
 try rw[rY d]
 clear hz hs;unfold EI at d;refine q8 vO ?_;refine q8 vO ?_;refine qS ?_;refine q8 vO ?_;refine qV d (fun d hc1=> ?_) (fun d hc1=> ?_)
 .refine q8 vO ?_;refine qR (rQ ?_);cases d;exact pE []
 .refine r8 (qO ?_);obtain⟨hg1,d⟩:=qG d;refine q8 vO ?_ (hp:=by exact hg1);refine qS ?_;refine q8 vO ?_;refine rW ?_;refine q8 vO ?_;refine qV d (fun d hc2=> ?_) (fun d hc2=> ?_)
  .obtain⟨hg2,d⟩:=qG d;refine q8 vO ?_ (hp:=by exact hg2);refine qR (s8 (rQ ?_));cases d;exact pE []
  .refine q8 vO ?_;refine qV d (fun d hc3=> ?_) (fun d hc3=> ?_)
   .obtain⟨hg3,d⟩:=qG d;refine q8 vO ?_ (hp:=by exact hg3);refine qR (s8 (rQ ?_));cases d;exact pE []
   .refine q8 vO ?_;refine qV d (fun d hc4=> ?_) (fun d hc4=> ?_)
    .obtain⟨hg4,d⟩:=qG d;refine q8 vO ?_ (hp:=by exact hg4);refine qR (s8 (rQ ?_));cases d;exact pE []
    .refine q8 vO ?_;refine qV d (fun d hc5=> ?_) (fun d hc5=> ?_)
     .obtain⟨hg5,d⟩:=qG d;refine q8 vO ?_ (hp:=by exact hg5);refine qR (s8 (rQ ?_));cases d;exact pE []
     .refine q8 vO ?_;refine qV d (fun d hc6=> ?_) (fun d hc6=> ?_)
      .obtain⟨hg6,d⟩:=qG d;refine q8 vO ?_ (hp:=by exact hg6);refine qR (s8 (rQ ?_));cases d;exact pE []
      .refine r8 (rT (qO ?_));obtain⟨Z,hv7,hw7,d⟩:=qQ d
       try simp only[go_sem] at hw7
       refine q8 vO ?_ (hp:=by exact(qP hv7)) (h:=by simp only[go_sem,hw7];rfl);refine qS ?_;refine q8 vO ?_;refine qV d (fun d hc7=> ?_) (fun d hc7=> ?_)
       .refine q8 vO ?_;refine qR (rQ ?_);cases d;exact pE []
       .refine r8 (qO ?_);refine q8 vO ?_;refine qS ?_;obtain⟨aA,hv8,hw8,d⟩:=qQ d
        try simp only[go_sem] at hw8
        refine q8 vO ?_ (hp:=by exact(qP hv8)) (h:=by simp only[go_sem,hw8];rfl);refine q8 vO ?_;obtain⟨y1,e,d⟩:=qI d;refine yY (fun s=>s=(fun x=>⟨[(4,(.val (.int .i64) (v7 O (59:Int)),none)),(6,(.val .str x.1,none)),(8,(.val (.int .i64) x.2.1,none)),(9,(.val (.int .i64) x.2.2,none))],[],0,80,0⟩) y1) ?_ ?_
        .refine qV e (fun e hc8=> ?_) (fun e hc8=> ?_)
         .refine rF vO ?_;cases e;exact tY ⟨⟨[4,6,8,9],[]⟩,by rfl⟩
         .refine r8 ?_;cases e;exact tY ⟨⟨[4,6,8,9],[]⟩,by rfl⟩
        .rintro _ rfl;obtain⟨aB,aC,aD⟩:=y1;dsimp only at d|-;refine qO ?_;obtain⟨aE,hv9,hw9,d⟩:=qQ d
         try simp only[go_sem] at hw9
         refine q8 vO ?_ (hp:=by exact(qP hv9)) (h:=by simp only[go_sem,hw9];rfl);refine qS ?_;refine q8 vO ?_ (hp:=by exact⟨id,id,id,sU⟩);refine qV d (fun d hc9=> ?_) (fun d hc9=> ?_)
         .refine q8 vO ?_;refine qR (rQ ?_);cases d;exact pE []
         .refine r8 (qO ?_);obtain⟨aF,hv10,hw10,d⟩:=qQ d
          try simp only[go_sem] at hw10
          refine q8 vO ?_ (hp:=by exact(qP hv10)) (h:=by simp only[go_sem,hw10];rfl);refine qS ?_;refine q8 vO ?_;refine qV d (fun d hc10=> ?_) (fun d hc10=> ?_)
          .refine q8 vO ?_;refine qR (rQ ?_);cases d;exact pE []
          .refine r8 (qO ?_);obtain⟨hg11,d⟩:=qG d;refine q8 vO ?_ (hp:=by exact hg11);refine qR ?_;cases d;exact pE []
def EJ (O:Int) (Z:pC):(Int×pL)→Option ((Int×pL)⊕(pL⊕(pC×Int×Int))):=fun(aA,aB)=>if (decide (aA<(Z.length:Int)))=true then if 0≤aA∧aA<(Z.length:Int) then if (decide ((tM Z aA)=(38:Int)))=true then if 0≤aA∧aA≤(Z.length:Int)∧(Z.length:Int)≤(Z.length:Int) then (EI (sC Z aA (Z.length:Int))).bind fun aC=>if (decide (aC.2=(0:Int)))=true then some (.inr (.inr ((([]:pC),aA,(3:Int))))) else (DD (aB,()) aC.1).bind fun aD=>if qC (aA+aC.2) then some (.inl ((aA+aC.2),(aB++uR aC.1))) else none else none else if 0≤aA∧aA<(Z.length:Int) then if (LB O (tM Z aA))=true then some (.inr (.inr ((([]:pC),aA,(3:Int))))) else if 0≤aA∧aA<(Z.length:Int) then (LC (aB,()) (tM Z aA)).bind fun aE=>if qC (aA+(1:Int)) then some (.inl ((aA+(1:Int)),(aB++([(tM Z aA)]:pL)))) else none else none else none else none else some (.inr (.inl aB))
def aEZ (O:Int) (Z:pC):(Int×pL)→Option ((Int×pL)⊕(pL⊕(pC×Int×Int))):=fun(aA,aB)=>if (decide (aA<(Z.length:Int)))=true then if 0≤aA∧aA<(Z.length:Int) then if (decide ((tM Z aA)=(92:Int)))=true then if 0≤aA∧aA≤(Z.length:Int)∧(Z.length:Int)≤(Z.length:Int) then (O8 (sC Z aA (Z.length:Int))).bind fun aC=>if (decide (aC.2=(0:Int)))=true then some (.inr (.inr ((([]:pC),aA,(3:Int))))) else (DD (aB,()) aC.1).bind fun aD=>if qC (aA+aC.2) then some (.inl ((aA+aC.2),(aB++uR aC.1))) else none else none else if 0≤aA∧aA<(Z.length:Int) then if (LB O (tM Z aA))=true then some (.inr (.inr ((([]:pC),aA,(3:Int))))) else if 0≤aA∧aA<(Z.length:Int) then (LC (aB,()) (tM Z aA)).bind fun aE=>if qC (aA+(1:Int)) then some (.inl ((aA+(1:Int)),(aB++([(tM Z aA)]:pL)))) else none else none else none else none else some (.inr (.inl aB))
def HF (O:Int) (Z:pC):Option (pC×Int×Int):=if (!((decide ((1:Int)≤O))&&(decide (O≤(4:Int)))))=true then some ((([]:pC),(0:Int),(1:Int))) else if (decide (O=(4:Int)))=true then vA (rU (EJ O Z) ((0:Int),([]:pL))) fun aA=>some (((vG aA),(0:Int),(0:Int))) else vA (rU (aEZ O Z) ((0:Int),([]:pL))) fun aB=>some (((vG aB),(0:Int),(0:Int)))
section
variable (O:Int) (Z:pC)
abbrev a64:List qB:=[(.val (.int .i64) O,none),(.val .str Z,none)]
abbrev a65:List q9:=[]
@[go_sem] def a66:qH:=⟨[((HF O Z)).isSome=true],[(.val .str ((val (HF O Z)).1),none),(.val (.int .i64) ((val (HF O Z)).2.1),none),(.val (.int .i64) ((val (HF O Z)).2.2),none)],[]⟩
def aE0:List qB→List q9→Option qH:=rP (V:=(Int×pC)) (fun x=>a64 x.1 x.2) (fun x=>a65) fun x=>a66 x.1 x.2
@[go_sem] def aQV:aE0 (no_index (a64 O Z)) (no_index a65)=some (a66 O Z):=rR (fun⟨a0,a1⟩ ⟨b0,b1⟩ h1 h2=>by cases h1;cases h2;rfl) (O,Z)
end
@[go_sem] abbrev aE1:Nat×qW:=(190,⟨[.v,.v],aE0,[],[],none⟩)
def vB:rI Tryz.prog [sL,GQ] (rJ [a3w,aEY,WR,aDp,aDr,GN,aEW]):=⟨⟨sO,⟨L3,trivial⟩⟩,qK aC7 (qK aMa (qK a2w (qK aLF (qK aLG (qK NA (qK aL9 rN)))))),rL⟩
def aMb:r5 Tryz.prog aE1:=by
 refine rS vB Tryz.func190 (c:=_) rfl (N:=58) pT (ts:=[(4,none),(5,none),(6,none)]) rfl (fun _ _=>rfl) ?_;intro⟨O,Z⟩ hs hrow;dsimp only[a64,a65,a66,rM,qM,qY,r7,rO,Nat.reduceAdd] at hs hrow|-;have hz:=hs;obtain⟨z0,d⟩:=aRh.1 hz
 try rw[rY d]
 clear hz hs;unfold HF at d;refine q8 vB ?_;refine qS ?_;refine q8 vB ?_;refine qV d (fun d hc1=> ?_) (fun d hc1=> ?_)
 .refine q8 vB ?_;refine qR (rQ ?_);cases d;exact pE []
 .refine r8 (qO ?_);refine q8 vB ?_;refine qS ?_;refine q8 vB ?_;refine qV d (fun d hc2=> ?_) (fun d hc2=> ?_)
  .refine rF vB ?_;refine qO ?_;refine q8 vB ?_;refine qS ?_;refine q8 vB ?_;refine rW ?_;obtain⟨y1,hy1,d⟩:=wX d;refine uV 0 (fun s=> ∃v,y1= .inl v∧s=(fun x=>⟨[(9,(.val .ref (some (0,0)),none))],[(0,.cells wD ((some (0,0)),(x,())) [(1,1)]),(1,.grow 5 1 (x.length))],2,58,0⟩) v) ?_ ?_
   .refine uP hy1 (fun x=>⟨[(0,(.val (.int .i64) O,none)),(1,(.val .str Z,none)),(7,(.val (.int .u8) (38:Int),none)),(8,(.val .clo (some (215,[])),none)),(9,(.val .ref (some (0,0)),none)),(10,(.val (.int .i64) x.1,none))],[(0,.cells wD ((some (0,0)),(x.2,())) [(1,1)]),(1,.grow 5 1 (x.2.length))],2,58,0⟩) ⟨[0,1,7,8,9,10],[(0,384),(1,385)]⟩ pU ?_;intro x1 w1 n1 e f;obtain⟨aA,aB⟩:=x1;unfold EJ at e;dsimp only at e|-;refine qS ?_;refine q8 vB ?_;refine qV e (fun e hc3=> ?_) (fun e hc3=> ?_)
    .refine r8 (qO (rW (rW ?_)));obtain⟨hg1,e⟩:=qG e;refine q8 vB ?_ (hp:=by exact hg1);refine qV e (fun e hc4=> ?_) (fun e hc4=> ?_)
     .obtain⟨hg2,e⟩:=qG e;obtain⟨aC,hv3,hw3,e⟩:=qQ e
      try simp only[go_sem] at hw3
      refine q8 vB ?_ (hp:=by exact⟨hg2,(qP hv3)⟩) (h:=by simp only[go_sem,hw3];rfl);refine qS ?_;refine q8 vB ?_;refine qV e (fun e hc5=> ?_) (fun e hc5=> ?_)
      .refine q8 vB ?_;refine qR (rQ (s8 (s8 (wP (wW (s8 (rQ ?_)))))));cases e;cases f;dsimp only at d;cases d;exact pE []
      .refine r8 (qO ?_);obtain⟨aD,hv4,hw4,e⟩:=qQ e
       try simp only[go_sem] at hw4
       refine q8 vB ?_ (hp:=by exact⟨pS,(qP hv4)⟩) (h:=by simp only[go_sem,hw4];rfl)
       obtain⟨hg5,e⟩:=qG e;refine rF vB ?_ (hp:=by exact hg5);refine rT (rT ?_);cases e;exact tC ⟨⟨[0,1,7,8,9,10],[(0,0),(1,1)]⟩,_,by rfl,f⟩
     .obtain⟨hg6,e⟩:=qG e;refine q8 vB ?_ (hp:=by exact hg6);refine qV e (fun e hc6=> ?_) (fun e hc6=> ?_)
      .refine q8 vB ?_;refine qR (s8 (s8 (wP (wW (s8 (rQ ?_))))));cases e;cases f;dsimp only at d;cases d;exact pE []
      .obtain⟨hg7,e⟩:=qG e;obtain⟨aE,hv8,hw8,e⟩:=qQ e
       try simp only[go_sem] at hw8
       refine q8 vB ?_ (hp:=by exact⟨hg7,pS,(qP hv8)⟩) (h:=by simp only[go_sem,hw8];rfl)
       obtain⟨hg9,e⟩:=qG e;refine rF vB ?_ (hp:=by exact hg9);refine rT (rT ?_);cases e;exact tC ⟨⟨[0,1,7,8,9,10],[(0,0),(1,1)]⟩,_,by rfl,f⟩
    .refine uJ (uI (uL ?_));cases e;cases f;exact uK ⟨⟨[9],[(0,0),(1,1)]⟩,_,rfl,by rfl⟩
   .rintro _ ⟨aF,rfl,rfl⟩;dsimp only at d|-;refine uU (qO ?_);refine q8 vB ?_ (hp:=by first|rfl|trivial)
    refine qR ?_;cases d;exact pE []
  .refine r8 (qO ?_);refine q8 vB ?_;refine qS ?_;refine q8 vB ?_;refine rW ?_;obtain⟨y1,hy1,d⟩:=wX d;refine uV 0 (fun s=> ∃v,y1= .inl v∧s=(fun x=>⟨[(9,(.val .ref (some (0,0)),none))],[(0,.cells wD ((some (0,0)),(x,())) [(1,1)]),(1,.grow 5 1 (x.length))],2,58,0⟩) v) ?_ ?_
   .refine uP hy1 (fun x=>⟨[(0,(.val (.int .i64) O,none)),(1,(.val .str Z,none)),(7,(.val (.int .u8) (92:Int),none)),(8,(.val .clo (some (214,[])),none)),(9,(.val .ref (some (0,0)),none)),(10,(.val (.int .i64) x.1,none))],[(0,.cells wD ((some (0,0)),(x.2,())) [(1,1)]),(1,.grow 5 1 (x.2.length))],2,58,0⟩) ⟨[0,1,7,8,9,10],[(0,320),(1,321)]⟩ pU ?_;intro x1 w1 n1 e f;obtain⟨aG,aH⟩:=x1;unfold aEZ at e;dsimp only at e|-;refine qS ?_;refine q8 vB ?_;refine qV e (fun e hc7=> ?_) (fun e hc7=> ?_)
    .refine r8 (qO (rW (rW ?_)));obtain⟨hg10,e⟩:=qG e;refine q8 vB ?_ (hp:=by exact hg10);refine qV e (fun e hc8=> ?_) (fun e hc8=> ?_)
     .obtain⟨hg11,e⟩:=qG e;obtain⟨aI,hv12,hw12,e⟩:=qQ e
      try simp only[go_sem] at hw12
      refine q8 vB ?_ (hp:=by exact⟨hg11,(qP hv12)⟩) (h:=by simp only[go_sem,hw12];rfl);refine qS ?_;refine q8 vB ?_;refine qV e (fun e hc9=> ?_) (fun e hc9=> ?_)
      .refine q8 vB ?_;refine qR (rQ (s8 (s8 (wP (wW (s8 (rQ ?_)))))));cases e;cases f;dsimp only at d;cases d;exact pE []
      .refine r8 (qO ?_);obtain⟨aJ,hv13,hw13,e⟩:=qQ e
       try simp only[go_sem] at hw13
       refine q8 vB ?_ (hp:=by exact⟨pS,(qP hv13)⟩) (h:=by simp only[go_sem,hw13];rfl)
       obtain⟨hg14,e⟩:=qG e;refine rF vB ?_ (hp:=by exact hg14);refine rT (rT ?_);cases e;exact tC ⟨⟨[0,1,7,8,9,10],[(0,0),(1,1)]⟩,_,by rfl,f⟩
     .obtain⟨hg15,e⟩:=qG e;refine q8 vB ?_ (hp:=by exact hg15);refine qV e (fun e hc10=> ?_) (fun e hc10=> ?_)
      .refine q8 vB ?_;refine qR (s8 (s8 (wP (wW (s8 (rQ ?_))))));cases e;cases f;dsimp only at d;cases d;exact pE []
      .obtain⟨hg16,e⟩:=qG e;obtain⟨aK,hv17,hw17,e⟩:=qQ e
       try simp only[go_sem] at hw17
       refine q8 vB ?_ (hp:=by exact⟨hg16,pS,(qP hv17)⟩) (h:=by simp only[go_sem,hw17];rfl)
       obtain⟨hg18,e⟩:=qG e;refine rF vB ?_ (hp:=by exact hg18);refine rT (rT ?_);cases e;exact tC ⟨⟨[0,1,7,8,9,10],[(0,0),(1,1)]⟩,_,by rfl,f⟩
    .refine uJ (uI (uL ?_));cases e;cases f;exact uK ⟨⟨[9],[(0,0),(1,1)]⟩,_,rfl,by rfl⟩
   .rintro _ ⟨aL,rfl,rfl⟩;dsimp only at d|-;refine uU (qO ?_);refine q8 vB ?_ (hp:=by first|rfl|trivial)
    refine qR ?_;cases d;exact pE []
attribute [irreducible] EI HF
end
noncomputable section
def S2 (O:sV):(Int×pD)→Option ((Int×pD)⊕pD):=fun(Z,aA)=>if (decide (Z<(O.2.2.2.1.length:Int)))=true then if 0≤Z∧Z<(O.2.2.2.1.length:Int) then (LN (qU tU O.2.2.2.1 Z)).bind fun aB=>if (aA.length+([aB]:pD).length)*16≤140737488355328 then if qC (Z+(1:Int)) then some (.inl ((Z+(1:Int)),(aA++([aB]:pD)))) else none else none else none else some (.inr aA)
def EK (O:sV):Option (pC×pD×pC×Int):=(LM O).bind fun Z=>if (!Z)=true then some ((([]:pC),([]:pD),([]:pC),(1:Int))) else if ((([60,99,97,116,97,108,111,103,32,116,97,103,61,34]:pC)++O.1).length:Int)≤9223372036854775807 then if (((([60,99,97,116,97,108,111,103,32,116,97,103,61,34]:pC)++O.1)++([34,62]:pC)).length:Int)≤9223372036854775807 then (HE ([32,32]:pC) O.2.1 ([]:pC) O.2.2.1).bind fun aA=>if ((((([60,99,97,116,97,108,111,103,32,116,97,103,61,34]:pC)++O.1)++([34,62]:pC))++aA).length:Int)≤9223372036854775807 then if (((((([60,99,97,116,97,108,111,103,32,116,97,103,61,34]:pC)++O.1)++([34,62]:pC))++aA)++([10,60,101,110,116,114,105,101,115,62]:pC)).length:Int)≤9223372036854775807 then sJ (rU (S2 O) ((0:Int),([]:pD))) fun aB=>some ((((((([60,99,97,116,97,108,111,103,32,116,97,103,61,34]:pC)++O.1)++([34,62]:pC))++aA)++([10,60,101,110,116,114,105,101,115,62]:pC)),aB,([10,60,47,101,110,116,114,105,101,115,62,10,60,47,99,97,116,97,108,111,103,62,10]:pC),(0:Int))) else none else none else none else none
section
variable (O:sV)
abbrev a67:List qB:=[(.val IP O,none)]
abbrev a68:List q9:=[]
@[go_sem] def a69:qH:=⟨[((EK O)).isSome=true],[(.val xA ((val (EK O)).1,((val (EK O)).2.1,((val (EK O)).2.2.1,()))),none),(.val (.int .i64) ((val (EK O)).2.2.2),none)],[]⟩
def aE2:List qB→List q9→Option qH:=rP (V:=sV) (a67) (fun x=>a68) fun x=>a69 x
@[go_sem] def aQW:aE2 (no_index (a67 O)) (no_index a68)=some (a69 O):=rR (fun a0 b0 h1 h2=>by cases h1;cases h2;rfl) O
end
@[go_sem] abbrev a7a:Nat×qW:=(18,⟨[.v],aE2,[],[],none⟩)
def EL:rI Tryz.prog [sL,wE,GP,AZ,IT,DA,zT] (rJ [aEM,a6U,aEU]):=⟨⟨sO,⟨x4,⟨L2,⟨CK,⟨NK,⟨FI,⟨AY,trivial⟩⟩⟩⟩⟩⟩⟩,qK aL7 (qK aES (qK aL8 rN)),rL⟩
def aE3:r5 Tryz.prog a7a:=by
 refine rS EL Tryz.func18 (c:=_) rfl (N:=39) pT (ts:=[(2,some 26),(3,none)]) rfl (fun _ _=>rfl) ?_;intro O hs hrow;dsimp only[a67,a68,a69,rM,qM,qY,r7,rO,Nat.reduceAdd] at hs hrow|-;have hz:=hs;obtain⟨z0,d⟩:=aRh.1 hz
 try rw[rY d]
 clear hz hs;unfold EK at d;refine q8 EL ?_;refine qS ?_;obtain⟨Z,hv1,hw1,d⟩:=qQ d
 try simp only[go_sem] at hw1
 refine q8 EL ?_ (hp:=by exact(qP hv1)) (h:=by simp only[go_sem,hw1];rfl);refine qV d (fun d hc1=> ?_) (fun d hc1=> ?_)
 .refine q8 EL ?_;refine qR (rQ ?_);cases d;exact pE []
 .refine r8 (qO ?_);obtain⟨hg2,d⟩:=qG d;obtain⟨hg3,d⟩:=qG d;obtain⟨aA,hv4,hw4,d⟩:=qQ d
  try simp only[go_sem] at hw4
  obtain⟨hg5,d⟩:=qG d;obtain⟨hg6,d⟩:=qG d;refine vQ EL ?_ (hp:=by exact⟨hg2,hg3,qP hv4,hg5,hg6⟩) (h:=by simp only[go_sem,hw4];rfl);refine qS ?_;refine q8 EL ?_;refine rW ?_;obtain⟨aB,hy1,d⟩:=qI d;refine uV 0 (fun s=>s=(fun x=>⟨[(2,(.val .ref (some (0,0)),none)),(4,(.val .ref (some (1,0)),none))],[(0,.cells xA (([]:pC),(([]:pD),(([]:pC),()))) [(1,2)]),(1,.cells xA (((((([60,99,97,116,97,108,111,103,32,116,97,103,61,34]:pC)++O.1)++([34,62]:pC))++aA)++([10,60,101,110,116,114,105,101,115,62]:pC)),(x,(([10,60,47,101,110,116,114,105,101,115,62,10,60,47,99,97,116,97,108,111,103,62,10]:pC),()))) [(1,3)]),(2,.grow 9 1 (([]:pD).length)),(3,.grow 9 1 (x.length))],4,39,0⟩) aB) ?_ ?_
  .refine uP hy1 (fun x=>⟨[(2,(.val .ref (some (0,0)),none)),(4,(.val .ref (some (1,0)),none)),(24,(.val (.list tU) O.2.2.2.1,none)),(25,(.val (.int .i64) (O.2.2.2.1.length:Int),none)),(26,(.val (.int .i64) x.1,none))],[(0,.cells xA (([]:pC),(([]:pD),(([]:pC),()))) [(1,2)]),(1,.cells xA (((((([60,99,97,116,97,108,111,103,32,116,97,103,61,34]:pC)++O.1)++([34,62]:pC))++aA)++([10,60,101,110,116,114,105,101,115,62]:pC)),(x.2,(([10,60,47,101,110,116,114,105,101,115,62,10,60,47,99,97,116,97,108,111,103,62,10]:pC),()))) [(1,3)]),(2,.grow 9 1 (([]:pD).length)),(3,.grow 9 1 (x.2.length))],4,39,0⟩) ⟨[2,4,24,25,26],[(0,32),(1,576),(2,33),(3,608)]⟩ pU ?_;intro x1 w1 n1 e g;obtain⟨aC,aD⟩:=x1;unfold S2 at e;dsimp only at e|-;refine q8 EL ?_;refine qS ?_;refine qV e (fun e hc2=> ?_) (fun e hc2=> ?_)
   .refine r8 (qO (qS (rW ?_)));obtain⟨hg7,e⟩:=qG e;refine q8 EL ?_ (hp:=by exact hg7);obtain⟨aE,hv8,hw8,e⟩:=qQ e
    try simp only[go_sem] at hw8
    obtain⟨hg9,e⟩:=qG e;refine AW EL ?_ (hp:=by exact⟨qP hv8,pS,hg9⟩) (h:=by simp only[go_sem,hw8];rfl)
    refine rT (qO ?_);obtain⟨hg10,e⟩:=qG e;refine rF EL ?_ (hp:=by exact hg10);cases e;exact tC ⟨⟨[2,4,24,25,26],[(0,0),(1,1),(2,2),(3,3)]⟩,_,by rfl,g⟩
   .refine uJ (uI (uL ?_));cases e;cases g;exact uK ⟨⟨[2,4],[(0,0),(1,1),(2,2),(3,3)]⟩,by rfl⟩
  .rintro _ rfl;dsimp only at d|-;refine uU (qO ?_);refine q8 EL ?_;refine qR ?_;cases d;exact pE []
def FQ (O:pC):Option (pC×Bool):=(HF (4:Int) O).bind fun Z=>if (((decide (Z.2.2=(0:Int)))==true)=true→((EF Z.1)).isSome=true) then some ((Z.1,((decide (Z.2.2=(0:Int)))&&((decide ((Z.1.length:Int)≤(4000:Int)))&&(Lib.validD Z.1))))) else none
section
variable (O:pC)
abbrev a7b:List qB:=[(.val .str O,none)]
abbrev a7c:List q9:=[]
@[go_sem] def a7d:qH:=⟨[((FQ O)).isSome=true],[(.val .str ((val (FQ O)).1),none),(.val .bool ((val (FQ O)).2),none)],[]⟩
def aE4:List qB→List q9→Option qH:=rP (V:=pC) (a7b) (fun x=>a7c) fun x=>a7d x
@[go_sem] def aQX:aE4 (no_index (a7b O)) (no_index a7c)=some (a7d O):=rR (fun a0 b0 h1 h2=>by cases h1;cases h2;rfl) O
end
@[go_sem] abbrev a7e:Nat×qW:=(154,⟨[.v],aE4,[],[],none⟩)
def X3:rI Tryz.prog [] (rJ [aE1,RN]):=⟨trivial,qK aMb (qK WZ rN),rL⟩
def aE5:r5 Tryz.prog a7e:=by
 refine rS X3 Tryz.func154 (c:=_) rfl (N:=20) pT (ts:=[(2,none),(3,none)]) rfl (fun _ _=>rfl) ?_;intro O hs hrow;dsimp only[a7b,a7c,a7d,rM,qM,qY,r7,rO,Nat.reduceAdd] at hs hrow|-;have hz:=hs;obtain⟨z0,d⟩:=aRh.1 hz
 try rw[rY d]
 clear hz hs;unfold FQ at d;refine q8 X3 ?_;obtain⟨Z,hv1,hw1,d⟩:=qQ d
 try simp only[go_sem] at hw1
 refine q8 X3 ?_ (hp:=by exact(qP hv1)) (h:=by simp only[go_sem,hw1];rfl);obtain⟨hg2,d⟩:=qG d;refine q8 X3 ?_ (hp:=by exact⟨id,hg2,sY⟩);refine qR ?_;cases d;exact pE []
def JB (O:sV):Option (pC×Int):=(EK O).bind fun Z=>(H4 (Z.1,(Z.2.1,(Z.2.2.1,())))).bind fun aA=>some ((aA,Z.2.2.2))
section
variable (O:sV)
abbrev a7f:List qB:=[(.val IP O,none)]
abbrev a7g:List q9:=[]
@[go_sem] def a7h:qH:=⟨[((JB O)).isSome=true],[(.val .str ((val (JB O)).1),none),(.val (.int .i64) ((val (JB O)).2),none)],[]⟩
def aE6:List qB→List q9→Option qH:=rP (V:=sV) (a7f) (fun x=>a7g) fun x=>a7h x
@[go_sem] def aQY:aE6 (no_index (a7f O)) (no_index a7g)=some (a7h O):=rR (fun a0 b0 h1 h2=>by cases h1;cases h2;rfl) O
end
@[go_sem] abbrev aE7:Nat×qW:=(16,⟨[.v],aE6,[],[],none⟩)
def X4:rI Tryz.prog [GP,DA] (rJ [a7a,a4W]):=⟨⟨L2,⟨FI,trivial⟩⟩,qK aE3 (qK aDV rN),rL⟩
def aMc:r5 Tryz.prog aE7:=by
 refine rS X4 Tryz.func16 (c:=_) rfl (N:=14) pT (ts:=[(2,none),(3,none)]) rfl (fun _ _=>rfl) ?_;intro O hs hrow;dsimp only[a7f,a7g,a7h,rM,qM,qY,r7,rO,Nat.reduceAdd] at hs hrow|-;have hz:=hs;obtain⟨z0,d⟩:=aRh.1 hz
 try rw[rY d]
 clear hz hs;unfold JB at d;refine q8 X4 ?_;obtain⟨Z,hv1,hw1,d⟩:=qQ d
 try simp only[go_sem] at hw1
 refine q8 X4 ?_ (hp:=by exact(qP hv1)) (h:=by simp only[go_sem,hw1];rfl);obtain⟨aA,hv2,hw2,d⟩:=qQ d
 try simp only[go_sem] at hw2
 refine q8 X4 ?_ (hp:=by exact(qP hv2)) (h:=by simp only[go_sem,hw2];rfl);refine qR ?_;cases d;exact pE []
attribute [irreducible] EK FQ JB
end
noncomputable section
def FR (O:pC):Option (pC×pC×pC×Bool):=(ED O).bind fun Z=>(EG Z.2 ([61,34]:pC)).bind fun aA=>(H8 aA.1 ([34]:pC)).bind fun aB=>(FQ aB.1).bind fun aC=>some ((Z.1,aC.1,aB.2.1,((((!decide (Z.1=([]:pC)))&&aA.2)&&aB.2.2)&&aC.2)))
section
variable (O:pC)
abbrev a7i:List qB:=[(.val .str O,none)]
abbrev a7j:List q9:=[]
@[go_sem] def a7k:qH:=⟨[((FR O)).isSome=true],[(.val (.pair .str (.pair .str .unit)) ((val (FR O)).1,((val (FR O)).2.1,())),none),(.val .str ((val (FR O)).2.2.1),none),(.val .bool ((val (FR O)).2.2.2),none)],[]⟩
def aE8:List qB→List q9→Option qH:=rP (V:=pC) (a7i) (fun x=>a7j) fun x=>a7k x
@[go_sem] def aQZ:aE8 (no_index (a7i O)) (no_index a7j)=some (a7k O):=rR (fun a0 b0 h1 h2=>by cases h1;cases h2;rfl) O
end
@[go_sem] abbrev aE9:Nat×qW:=(128,⟨[.v],aE8,[],[],none⟩)
def LO:rI Tryz.prog [BJ] (rJ [a3g,X0,aEc,a7e]):=⟨⟨DC,trivial⟩,qK aCX (qK a5j (qK aLV (qK aE5 rN))),rL⟩
def aMd:r5 Tryz.prog aE9:=by
 refine rS LO Tryz.func128 (c:=_) rfl (N:=48) pT (ts:=[(2,some 127),(3,none),(4,none)]) rfl (fun _ _=>rfl) ?_;intro O hs hrow;dsimp only[a7i,a7j,a7k,rM,qM,qY,r7,rO,Nat.reduceAdd] at hs hrow|-;have hz:=hs;obtain⟨z0,d⟩:=aRh.1 hz
 try rw[rY d]
 clear hz hs;unfold FR at d;refine q8 LO ?_;obtain⟨Z,hv1,hw1,d⟩:=qQ d
 try simp only[go_sem] at hw1
 refine q8 LO ?_ (hp:=by exact(qP hv1)) (h:=by simp only[go_sem,hw1];rfl);obtain⟨aA,hv2,hw2,d⟩:=qQ d
 try simp only[go_sem] at hw2
 refine q8 LO ?_ (hp:=by exact(qP hv2)) (h:=by simp only[go_sem,hw2];rfl);obtain⟨aB,hv3,hw3,d⟩:=qQ d
 try simp only[go_sem] at hw3
 refine q8 LO ?_ (hp:=by exact(qP hv3)) (h:=by simp only[go_sem,hw3];rfl);obtain⟨aC,hv4,hw4,d⟩:=qQ d
 try simp only[go_sem] at hw4
 refine q8 LO ?_ (hp:=by exact(qP hv4)) (h:=by simp only[go_sem,hw4];rfl);refine q8 LO ?_ (hp:=by exact⟨sY,sY,sY⟩);refine qR ?_;cases d;exact pE []
def FS (O:Int) (Z:(pC×pC)):(pC×(List r6)×Bool)→Option ((pC×(List r6)×Bool)⊕(Unit⊕(Int×pC×(List r6)×Bool×Bool))):=fun(aA,aB,aC)=>if (!decide (Z.1=([]:pC)))=true then if (decide ((Lib.trimLeftS aA ([32,9,10,13]:pC))=([]:pC)))=true then some (.inr (.inr ((O,Z.1,aB,aC,true)))) else (FR (Lib.trimLeftS aA ([32,9,10,13]:pC))).bind fun aD=>if ((!aD.2.2.2)||(decide (((Lib.trimLeftS aA ([32,9,10,13]:pC)).length:Int)=(aA.length:Int))))=true then some (.inr (.inl ())) else if (aC==false)=true then if ((aC==false)=true→((J2 aB (aD.1,(aD.2.1,())))).isSome=true) then if (aB.length+([(aD.1,(aD.2.1,()))]:List r6).length)*32≤140737488355328 then some (.inl (aD.2.2.1,(aB++([(aD.1,(aD.2.1,()))]:List r6)),(aC||(val (J2 aB (aD.1,(aD.2.1,()))))))) else none else none else if (aB.length+([(aD.1,(aD.2.1,()))]:List r6).length)*32≤140737488355328 then some (.inl (aD.2.2.1,(aB++([(aD.1,(aD.2.1,()))]:List r6)),true)) else none else some (.inr (.inl ()))
def EM (O:pC):Option (Int×pC×(List r6)×Bool×Bool):=if qC ((O.length:Int)- (1:Int)) then if 0≤(1:Int)∧(1:Int)≤((O.length:Int)- (1:Int))∧((O.length:Int)- (1:Int))≤(O.length:Int) then (EG (sC O (1:Int) ((O.length:Int)- (1:Int))) ([47]:pC)).bind fun Z=>if Z.2=true then (ED Z.1).bind fun aA=>if (((decide (aA.1=([]:pC)))==false)=true→(List.all ([32,9,10,13]:pC) fun b=>decide (b.toNat<128))=true∧List.length ([32,9,10,13]:pC)<4294967281) then if (((decide (aA.1=([]:pC)))==false)=true→List.length aA.2≤9223372036854775807) then if ((decide (aA.1=([]:pC)))||(!decide ((Lib.trimS aA.2 ([32,9,10,13]:pC))=([]:pC))))=true then some (((0:Int),([]:pC),([]:List r6),false,false)) else some (((3:Int),aA.1,([]:List r6),false,true)) else none else none else (J7 (sC O (1:Int) ((O.length:Int)- (1:Int))) ([47]:pC)).bind fun aB=>sJ (σ:=(pC×Int)) (if aB.2=true then some ((aB.1,(2:Int))) else some (((sC O (1:Int) ((O.length:Int)- (1:Int))),(1:Int))) ) fun(aC,aD)=>(ED aC).bind fun aE=>vA (rU (FS aD aE) (aE.2,([]:List r6),false)) fun _=>some (((0:Int),([]:pC),([]:List r6),false,false)) else none else none
section
variable (O:pC)
abbrev a7l:List qB:=[(.val .str O,none)]
abbrev a7m:List q9:=[]
@[go_sem] def a7n:qH:=⟨[((EM O)).isSome=true],[(.val wZ ((val (EM O)).1,((val (EM O)).2.1,((val (EM O)).2.2.1,((val (EM O)).2.2.2.1,())))),none),(.val .bool ((val (EM O)).2.2.2.2),none)],[]⟩
def aFa:List qB→List q9→Option qH:=rP (V:=pC) (a7l) (fun x=>a7m) fun x=>a7n x
@[go_sem] def aQ0:aFa (no_index (a7l O)) (no_index a7m)=some (a7n O):=rR (fun a0 b0 h1 h2=>by cases h1;cases h2;rfl) O
end
@[go_sem] abbrev aFb:Nat×qW:=(86,⟨[.v],aFa,[],[],none⟩)
def w5:rI Tryz.prog [xK,B0,sL,CM,yZ,BJ] (rJ [X0,a3g,KR,aEw,N6,aE9,aDM]):=⟨⟨yA,⟨CN,⟨sO,⟨E9,⟨zU,⟨DC,trivial⟩⟩⟩⟩⟩⟩,qK a5j (qK aCX (qK WF (qK aL1 (qK a1G (qK aMd (qK aLP rN)))))),rL⟩
def aMe:r5 Tryz.prog aFb:=by
 refine rS w5 Tryz.func86 (c:=_) rfl (N:=96) pT (ts:=[(2,some 100),(3,none)]) rfl (fun _ _=>rfl) ?_;intro O hs hrow;dsimp only[a7l,a7m,a7n,rM,qM,qY,r7,rO,Nat.reduceAdd] at hs hrow|-;have hz:=hs;obtain⟨z0,d⟩:=aRh.1 hz
 try rw[rY d]
 clear hz hs;unfold EM at d;refine q8 w5 ?_;obtain⟨hg1,d⟩:=qG d;obtain⟨hg2,d⟩:=qG d;refine q8 w5 ?_ (hp:=by exact⟨hg1,hg2⟩);refine q8 w5 ?_;refine qS ?_;obtain⟨Z,hv3,hw3,d⟩:=qQ d
 try simp only[go_sem] at hw3
 refine q8 w5 ?_ (hp:=by exact(qP hv3)) (h:=by simp only[go_sem,hw3];rfl);refine q8 w5 ?_;refine qV d (fun d hc1=> ?_) (fun d hc1=> ?_)
 .refine q8 w5 ?_;obtain⟨aA,hv4,hw4,d⟩:=qQ d
  try simp only[go_sem] at hw4
  refine q8 w5 ?_ (hp:=by exact(qP hv4)) (h:=by simp only[go_sem,hw4];rfl);refine qS ?_;obtain⟨hg5,d⟩:=qG d;obtain⟨hg6,d⟩:=qG d;refine q8 w5 ?_ (hp:=by exact⟨id,hg5,hg6,id,sU⟩);refine qV d (fun d hc2=> ?_) (fun d hc2=> ?_)
  .refine q8 w5 ?_;refine qR (rQ (rQ ?_));cases d;exact pE []
  .refine r8 (qO ?_);refine q8 w5 ?_;refine qR (rQ ?_);cases d;exact pE []
 .refine r8 (qO (qS ?_));obtain⟨aB,hv7,hw7,d⟩:=qQ d
  try simp only[go_sem] at hw7
  refine q8 w5 ?_ (hp:=by exact(qP hv7)) (h:=by simp only[go_sem,hw7];rfl);refine q8 w5 ?_;obtain⟨y1,f,d⟩:=qI d;refine yY (fun s=>s=(fun x=>⟨[(0,(.val .str x.1,none)),(2,(.val .ref (some (0,0)),none)),(4,(.val .ref (some (1,0)),none))],[(0,.cells wZ ((0:Int),(([]:pC),(([]:List r6),(false,())))) [(2,2)]),(1,.cells wZ (x.2,(([]:pC),(([]:List r6),(false,())))) [(2,3)]),(2,.grow 127 2 (([]:List r6).length)),(3,.grow 127 2 (([]:List r6).length))],4,96,0⟩) y1) ?_ ?_
  .refine qV f (fun f hc3=> ?_) (fun f hc3=> ?_)
   .refine rF w5 ?_;cases f;exact tY ⟨⟨[0,2,4],[(0,0),(1,288),(2,1),(3,320)]⟩,by rfl⟩
   .refine r8 ?_;cases f;exact tY ⟨⟨[0,2,4],[(0,0),(1,288),(2,1),(3,320)]⟩,by rfl⟩
  .rintro _ rfl;obtain⟨aC,aD⟩:=y1;dsimp only at d|-;refine qO ?_;obtain⟨aE,hv8,hw8,d⟩:=qQ d
   try simp only[go_sem] at hw8
   refine q8 w5 ?_ (hp:=by exact(qP hv8)) (h:=by simp only[go_sem,hw8];rfl);refine qS (rW ?_);obtain⟨y1,hy1,d⟩:=wX d;refine uV 0 (fun s=> ∃v,y1= .inl v∧s=(fun _=>⟨[(2,(.val .ref (some (0,0)),none))],[(0,.cells wZ ((0:Int),(([]:pC),(([]:List r6),(false,())))) [(2,1)]),(1,.grow 127 2 (([]:List r6).length))],2,96,0⟩) v) ?_ ?_
   .refine uP hy1 (fun x=>⟨[(0,(.val .str x.1,none)),(2,(.val .ref (some (0,0)),none)),(4,(.val .ref (some (1,0)),none))],[(0,.cells wZ ((0:Int),(([]:pC),(([]:List r6),(false,())))) [(2,2)]),(1,.cells wZ (aD,(aE.1,(x.2.1,(x.2.2,())))) [(2,3)]),(2,.grow 127 2 (([]:List r6).length)),(3,.grow 127 2 (x.2.1.length))],4,96,0⟩) ⟨[0,2,4],[(0,0),(1,1),(2,2),(3,3)]⟩ pU ?_;intro x1 w1 n1 f g;obtain⟨aF,aG,aH⟩:=x1;unfold FS at f;dsimp only at f|-;refine qS ?_;refine q8 w5 ?_;refine qV f (fun f hc4=> ?_) (fun f hc4=> ?_)
    .refine r8 (qO (rW ?_));refine q8 w5 ?_ (hp:=by exact⟨pG,pG⟩);refine qS ?_;refine q8 w5 ?_;refine qV f (fun f hc5=> ?_) (fun f hc5=> ?_)
     .refine q8 w5 ?_;refine qR (rQ (s8 (wP (wW (s8 (rQ ?_))))));cases f;cases g;dsimp only at d;cases d;exact pE []
     .refine r8 (qO ?_);obtain⟨aI,hv9,hw9,f⟩:=qQ f
      try simp only[go_sem] at hw9
      refine q8 w5 ?_ (hp:=by exact(qP hv9)) (h:=by simp only[go_sem,hw9];rfl);refine qS ?_;refine q8 w5 ?_ (hp:=by exact⟨id,id,id,id,sU⟩);refine qV f (fun f hc6=> ?_) (fun f hc6=> ?_)
      .refine uJ (uI (aBF pG (uL ?_)));cases f;cases g;exact uK ⟨⟨[2],[(0,0),(1,2)]⟩,_,rfl,by rfl⟩
      .refine r8 (qO (qS ?_));by_cases hgs7:(aH==false)=true
       .rw[aRf hgs7] at f;obtain⟨hg10,f⟩:=qG f;refine rF w5 ?_ (hp:=by exact⟨id,pS,hgs7,id,id,hg10⟩)
        refine qO ?_;obtain⟨hg11,f⟩:=qG f;refine q8 w5 ?_ (hp:=by exact⟨pS,hg11⟩)
        refine rF w5 ?_;refine rT ?_;cases f;exact tC ⟨⟨[0,2,4],[(0,0),(1,1),(2,2),(3,3)]⟩,_,by rfl,g⟩
       rw[aRk hgs7] at f;refine rF (a1d (l:=[1000000004]) w5 pU) ?_ (hp:=by exact⟨by first|exact Bool.eq_false_iff.2 hgs7|simpa using hgs7|simpa[r7] using hgs7,by first|exact Bool.eq_false_iff.2 hgs7|simpa using hgs7|simpa[r7] using hgs7,by first|exact Bool.eq_false_iff.2 hgs7|simpa using hgs7|simpa[r7] using hgs7,by first|exact Bool.eq_false_iff.2 hgs7|simpa using hgs7|simpa[r7] using hgs7,(by first|exact Bool.of_not_eq_false (fun e=>hgs7 (by rw[e];rfl)) |exact Bool.of_not_eq_true (fun e=>hgs7 (by rw[e];rfl)) |simpa using hgs7|simpa[r7] using hgs7)⟩)
       refine qO ?_;obtain⟨hg12,f⟩:=qG f;refine q8 w5 ?_ (hp:=by exact⟨pS,hg12⟩)
       refine rF w5 ?_;refine rT ?_;cases f;exact tC ⟨⟨[0,2,4],[(0,0),(1,1),(2,2),(3,3)]⟩,_,by rfl,g⟩
    .refine uJ (uI (uL ?_));cases f;cases g;exact uK ⟨⟨[2],[(0,0),(1,2)]⟩,_,rfl,by rfl⟩
   .rintro _ ⟨v,rfl,rfl⟩;dsimp only at d|-;refine uU (qO ?_);refine q8 w5 ?_;refine qR ?_;cases d;exact pE []
def AE (O:(List s9)) (Z:Int) (aA:Int) (aB:sV) (aC:(pL×Unit)) (aD:pJ):Option (Int×pC×(List r6)×Bool):=if (((!decide (aA=(0:Int)))==false)=true→0≤(0:Int)∧(0:Int)<(O.length:Int)) then if ((!decide (aA=(0:Int)))||(!decide ((qU sM O (0:Int)).1=(2:Int))))=true then some (((0:Int),([]:pC),([]:List r6),false)) else if 0≤(0:Int)∧(0:Int)<(O.length:Int) then (EM ((qU sM O (0:Int)).2.1)).bind fun aE=>some ((aE.1,aE.2.1,aE.2.2.1,aE.2.2.2.1)) else none else none
section
variable (O:(List s9)) (Z:Int) (aA:Int) (aB:sV) (aC:(pL×Unit)) (aD:Nat) (aE:Nat) (aF:pJ)
abbrev a7o:List qB:=[(.val .ref (some (0,0)),none)]
abbrev a7p:List q9:=[.cells sN (O,(Z,(aA,(aB,((some 3),aC))))) [(6,1),(8,2)],.grow 53 7 aD,.grow 3 1 aE,.map .str .bool aF]
@[go_sem] def a7q:qH:=⟨[aD=(aB.2.2.2.1.length),aE=(aC.1.length),((AE O Z aA aB aC aF)).isSome=true],[(.val wZ ((val (AE O Z aA aB aC aF)).1,((val (AE O Z aA aB aC aF)).2.1,((val (AE O Z aA aB aC aF)).2.2.1,((val (AE O Z aA aB aC aF)).2.2.2,())))),none)],[.cells sN (O,(Z,(aA,((aB.1,(aB.2.1,(aB.2.2.1,(aB.2.2.2.1,())))),((some 3),(aC.1,())))))) [(6,1),(8,2)],.grow 53 7 (aB.2.2.2.1.length),.grow 3 1 (aC.1.length),.map .str .bool aF]⟩
def aFc:List qB→List q9→Option qH:=rP (V:=((List s9)×Int×Int×sV×(pL×Unit)×Nat×Nat×pJ)) (fun x=>a7o) (fun x=>a7p x.1 x.2.1 x.2.2.1 x.2.2.2.1 x.2.2.2.2.1 x.2.2.2.2.2.1 x.2.2.2.2.2.2.1 x.2.2.2.2.2.2.2) fun x=>a7q x.1 x.2.1 x.2.2.1 x.2.2.2.1 x.2.2.2.2.1 x.2.2.2.2.2.1 x.2.2.2.2.2.2.1 x.2.2.2.2.2.2.2
@[go_sem] def aQ1:aFc (no_index a7o) (no_index (a7p O Z aA aB aC aD aE aF))=some (a7q O Z aA aB aC aD aE aF):=rR (fun⟨a0,a1,a2,a3,a4,a5,a6,a7⟩ ⟨b0,b1,b2,b3,b4,b5,b6,b7⟩ h1 h2=>by cases h1;cases h2;rfl) (O,Z,aA,aB,aC,aD,aE,aF)
end
@[go_sem] abbrev HG:Nat×qW:=(53,⟨[.p sN [6,8]],aFc,[(0,7,.m)],[0,1,2,3],none⟩)
def O9:rI Tryz.prog [xK,sL,CL,CJ,BI,AC,yZ] (rJ [aFb]):=⟨⟨yA,⟨sO,⟨E8,⟨GO,⟨DB,⟨FF,⟨zU,trivial⟩⟩⟩⟩⟩⟩⟩,qK aMe rN,rL⟩
def JC:r5 Tryz.prog HG:=by
 refine rS O9 Tryz.func53 (c:=_) rfl (N:=33) pT (ts:=[(2,some 100)]) rfl (fun _ _=>rfl) ?_;intro⟨O,Z,aA,aB,aC,aD,aE,aF⟩ hs hrow;dsimp only[a7o,a7p,a7q,rM,qM,qY,r7,rO,Nat.reduceAdd] at hs hrow|-;obtain⟨rfl,rfl,hz⟩:=hs;obtain⟨z0,d⟩:=aRh.1 hz
 try rw[rY d]
 clear hz;unfold AE at d;refine q8 O9 ?_;refine qS ?_;obtain⟨hg1,d⟩:=qG d;refine q8 O9 ?_ (hp:=by exact⟨id,id,id,id,hg1,id,id,id,sU⟩);refine qV d (fun d hc1=> ?_) (fun d hc1=> ?_)
 .refine q8 O9 ?_;refine qR (rQ ?_);cases d;exact pE [(0,0),(1,1),(2,2),(3,3)]
 .refine r8 (qO ?_);obtain⟨hg2,d⟩:=qG d;obtain⟨aG,hv3,hw3,d⟩:=qQ d
  try simp only[go_sem] at hw3
  refine q8 O9 ?_ (hp:=by exact⟨hg2,(qP hv3)⟩) (h:=by simp only[go_sem,hw3];rfl);refine q8 O9 ?_;refine qR ?_;cases d;exact pE [(0,0),(1,1),(2,2),(3,3)]
attribute [irreducible] FR EM AE
end
noncomputable section
def B2 (O:(List s9)) (Z:Int) (aA:Int) (aB:sV) (aC:(pL×Unit)) (aD:pC) (aE:pJ):Option ((List s9)×Int×Int):=(AE O Z aA aB aC aE).bind fun aF=>if ((!decide (aF.1=(3:Int)))||(!decide (aF.2.1=aD)))=true then (zD O Z aA aB aC (3:Int) aE).bind fun aG=>(xT O aG.1 aG.2 (aB.1,(aB.2.1,(aB.2.2.1,(aB.2.2.2.1,())))) (aC.1,()) aE).bind fun aH=>some ((aH,aG.1,aG.2)) else (xT O Z aA aB aC aE).bind fun aI=>some ((aI,Z,aA))
section
variable (O:pC) (Z:(List s9)) (aA:Int) (aB:Int) (aC:sV) (aD:(pL×Unit)) (aE:Nat) (aF:Nat) (aG:pJ)
abbrev a7r:List qB:=[(.val .ref (some (0,0)),none),(.val .str O,none)]
abbrev a7s:List q9:=[.cells sN (Z,(aA,(aB,(aC,((some 3),aD))))) [(6,1),(8,2)],.grow 53 7 aE,.grow 3 1 aF,.map .str .bool aG]
@[go_sem] def a7t:qH:=⟨[aE=(aC.2.2.2.1.length),aF=(aD.1.length),((B2 Z aA aB aC aD O aG)).isSome=true],[(.val (.int .i64) ((qU sM Z (0:Int)).2.2.1+(((qU sM Z (0:Int)).2.1).length:Int)),none)],[.cells sN ((val (B2 Z aA aB aC aD O aG)).1,((val (B2 Z aA aB aC aD O aG)).2.1,((val (B2 Z aA aB aC aD O aG)).2.2,((aC.1,(aC.2.1,(aC.2.2.1,(aC.2.2.2.1,())))),((some 3),(aD.1,())))))) [(6,1),(8,2)],.grow 53 7 (aC.2.2.2.1.length),.grow 3 1 (aD.1.length),.map .str .bool aG]⟩
def aFd:List qB→List q9→Option qH:=rP (V:=(pC×(List s9)×Int×Int×sV×(pL×Unit)×Nat×Nat×pJ)) (fun x=>a7r x.1) (fun x=>a7s x.2.1 x.2.2.1 x.2.2.2.1 x.2.2.2.2.1 x.2.2.2.2.2.1 x.2.2.2.2.2.2.1 x.2.2.2.2.2.2.2.1 x.2.2.2.2.2.2.2.2) fun x=>a7t x.1 x.2.1 x.2.2.1 x.2.2.2.1 x.2.2.2.2.1 x.2.2.2.2.2.1 x.2.2.2.2.2.2.1 x.2.2.2.2.2.2.2.1 x.2.2.2.2.2.2.2.2
@[go_sem] def aQ2:aFd (no_index (a7r O)) (no_index (a7s Z aA aB aC aD aE aF aG))=some (a7t O Z aA aB aC aD aE aF aG):=rR (fun⟨a0,a1,a2,a3,a4,a5,a6,a7,a8⟩ ⟨b0,b1,b2,b3,b4,b5,b6,b7,b8⟩ h1 h2=>by cases h1;cases h2;rfl) (O,Z,aA,aB,aC,aD,aE,aF,aG)
end
@[go_sem] abbrev S3:Nat×qW:=(55,⟨[.p sN [6,8],.v],aFd,[(0,7,.m)],[1,2,3],none⟩)
def LP:rI Tryz.prog [xK,sL,yZ] (rJ [HG,L5,IY]):=⟨⟨yA,⟨sO,⟨zU,trivial⟩⟩⟩,qK JC (qK NM (qK L9 rN)),rL⟩
def X5:r5 Tryz.prog S3:=by
 refine rS LP Tryz.func55 (c:=_) rfl (N:=21) pT (ts:=[(4,none)]) rfl (fun _ _=>rfl) ?_;intro⟨O,Z,aA,aB,aC,aD,aE,aF,aG⟩ hs hrow;dsimp only[a7r,a7s,a7t,rM,qM,qY,r7,rO,Nat.reduceAdd] at hs hrow|-;obtain⟨rfl,rfl,hz⟩:=hs;obtain⟨z0,d⟩:=aRh.1 hz
 try rw[rY d]
 clear hz;unfold B2 at d;refine q8 LP ?_;refine qS ?_;obtain⟨aH,hv1,hw1,d⟩:=qQ d
 try simp only[go_sem] at hw1
 refine q8 LP ?_ (hp:=by exact⟨pS,pS,pS,pS,pS,pS,(qP hv1)⟩) (h:=by simp only[go_sem,hw1];rfl)
 refine q8 LP ?_ (hp:=by exact⟨id,id,id,sU⟩);refine qV d (fun d hc1=> ?_) (fun d hc1=> ?_)
 .obtain⟨aI,hv2,hw2,d⟩:=qQ d
  try simp only[go_sem] at hw2
  refine rF LP ?_ (hp:=by exact⟨pS,pS,pS,pS,pS,(qP hv2)⟩) (h:=by simp only[go_sem,hw2];rfl)
  refine qO ?_;obtain⟨aJ,hv3,hw3,d⟩:=qQ d
  try simp only[go_sem] at hw3
  refine q8 LP ?_ (hp:=by exact⟨pS,pS,pS,pS,pS,(qP hv3)⟩) (h:=by simp only[go_sem,hw3];rfl)
  refine qR ?_;cases d;exact pE [(0,0),(1,1),(2,2),(3,3)]
 .refine r8 (qO ?_);obtain⟨aK,hv4,hw4,d⟩:=qQ d
  try simp only[go_sem] at hw4
  refine q8 LP ?_ (hp:=by exact⟨pS,pS,pS,pS,pS,(qP hv4)⟩) (h:=by simp only[go_sem,hw4];rfl)
  refine qR ?_;cases d;exact pE [(0,0),(1,1),(2,2),(3,3)]
def B3 (O:(List s9)) (Z:Int) (aA:Int) (aB:sV) (aC:(pL×Unit)) (aD:yM) (aE:pJ):Option (pC×(List s9)×Int×Int):=(xT O Z aA aB aC aE).bind fun aF=>if (decide (aD.1=(2:Int)))=true then some ((([]:pC),aF,Z,aA)) else if 0≤(0:Int)∧(0:Int)<(aF.length:Int) then if (decide ((qU sM aF (0:Int)).1=(3:Int)))=true then if 0≤(0:Int)∧(0:Int)<(aF.length:Int) then (FQ ((qU sM aF (0:Int)).2.1)).bind fun aG=>sJ (σ:=(Int×Int)) (if (!aG.2)=true then (zD aF Z aA (aB.1,(aB.2.1,(aB.2.2.1,(aB.2.2.2.1,())))) (aC.1,()) (3:Int) aE).bind fun aH=>some ((aH.1,aH.2)) else some ((Z,aA)) ) fun(aI,aJ)=>(xT aF aI aJ (aB.1,(aB.2.1,(aB.2.2.1,(aB.2.2.2.1,())))) (aC.1,()) aE).bind fun aK=>(B2 aK aI aJ (aB.1,(aB.2.1,(aB.2.2.1,(aB.2.2.2.1,())))) (aC.1,()) aD.2.1 aE).bind fun aL=>some ((aG.1,aL.1,aL.2.1,aL.2.2)) else none else (B2 aF Z aA (aB.1,(aB.2.1,(aB.2.2.1,(aB.2.2.2.1,())))) (aC.1,()) aD.2.1 aE).bind fun aM=>some ((([]:pC),aM.1,aM.2.1,aM.2.2)) else none
section
variable (O:yM) (Z:(List s9)) (aA:Int) (aB:Int) (aC:sV) (aD:(pL×Unit)) (aE:Nat) (aF:Nat) (aG:pJ)
abbrev a7u:List qB:=[(.val .ref (some (0,0)),none),(.val wZ O,none)]
abbrev a7v:List q9:=[.cells sN (Z,(aA,(aB,(aC,((some 3),aD))))) [(6,1),(8,2)],.grow 53 7 aE,.grow 3 1 aF,.map .str .bool aG]
@[go_sem] def a7w:qH:=⟨[aE=(aC.2.2.2.1.length),aF=(aD.1.length),((B3 Z aA aB aC aD O aG)).isSome=true],[(.val .str ((val (B3 Z aA aB aC aD O aG)).1),none)],[.cells sN ((val (B3 Z aA aB aC aD O aG)).2.1,((val (B3 Z aA aB aC aD O aG)).2.2.1,((val (B3 Z aA aB aC aD O aG)).2.2.2,((aC.1,(aC.2.1,(aC.2.2.1,(aC.2.2.2.1,())))),((some 3),(aD.1,())))))) [(6,1),(8,2)],.grow 53 7 (aC.2.2.2.1.length),.grow 3 1 (aD.1.length),.map .str .bool aG]⟩
def aFe:List qB→List q9→Option qH:=rP (V:=(yM×(List s9)×Int×Int×sV×(pL×Unit)×Nat×Nat×pJ)) (fun x=>a7u x.1) (fun x=>a7v x.2.1 x.2.2.1 x.2.2.2.1 x.2.2.2.2.1 x.2.2.2.2.2.1 x.2.2.2.2.2.2.1 x.2.2.2.2.2.2.2.1 x.2.2.2.2.2.2.2.2) fun x=>a7w x.1 x.2.1 x.2.2.1 x.2.2.2.1 x.2.2.2.2.1 x.2.2.2.2.2.1 x.2.2.2.2.2.2.1 x.2.2.2.2.2.2.2.1 x.2.2.2.2.2.2.2.2
@[go_sem] def aQ3:aFe (no_index (a7u O)) (no_index (a7v Z aA aB aC aD aE aF aG))=some (a7w O Z aA aB aC aD aE aF aG):=rR (fun⟨a0,a1,a2,a3,a4,a5,a6,a7,a8⟩ ⟨b0,b1,b2,b3,b4,b5,b6,b7,b8⟩ h1 h2=>by cases h1;cases h2;rfl) (O,Z,aA,aB,aC,aD,aE,aF,aG)
end
@[go_sem] abbrev LQ:Nat×qW:=(114,⟨[.p sN [6,8],.v],aFe,[(0,7,.m)],[1,2,3],none⟩)
def AF:rI Tryz.prog [xK,sL,CJ,BI,AC,yZ] (rJ [IY,a7e,L5,S3]):=⟨⟨yA,⟨sO,⟨GO,⟨DB,⟨FF,⟨zU,trivial⟩⟩⟩⟩⟩⟩,qK L9 (qK aE5 (qK NM (qK X5 rN))),rL⟩
def OA:r5 Tryz.prog LQ:=by
 refine rS AF Tryz.func114 (c:=_) rfl (N:=44) pT (ts:=[(4,none)]) rfl (fun _ _=>rfl) ?_;intro⟨O,Z,aA,aB,aC,aD,aE,aF,aG⟩ hs hrow;dsimp only[a7u,a7v,a7w,rM,qM,qY,r7,rO,Nat.reduceAdd] at hs hrow|-;obtain⟨rfl,rfl,hz⟩:=hs;obtain⟨z0,d⟩:=aRh.1 hz
 try rw[rY d]
 clear hz;unfold B3 at d;refine q8 AF ?_;obtain⟨aH,hv1,hw1,d⟩:=qQ d
 try simp only[go_sem] at hw1
 refine q8 AF ?_ (hp:=by exact⟨pS,pS,pS,pS,pS,(qP hv1)⟩) (h:=by simp only[go_sem,hw1];rfl)
 refine qS ?_;refine q8 AF ?_;refine qV d (fun d hc1=> ?_) (fun d hc1=> ?_)
 .refine q8 AF ?_;refine qR (rQ ?_);cases d;exact pE [(0,0),(1,1),(2,2),(3,3)]
 .refine r8 (qO ?_);refine q8 AF ?_;refine qS ?_;obtain⟨hg2,d⟩:=qG d;refine q8 AF ?_ (hp:=by exact hg2);refine qV d (fun d hc2=> ?_) (fun d hc2=> ?_)
  .obtain⟨hg3,d⟩:=qG d;obtain⟨aI,hv4,hw4,d⟩:=qQ d
   try simp only[go_sem] at hw4
   refine q8 AF ?_ (hp:=by exact⟨hg3,(qP hv4)⟩) (h:=by simp only[go_sem,hw4];rfl);refine qS ?_;refine q8 AF ?_;obtain⟨y1,f,d⟩:=qI d;refine yY (fun s=>s=(fun x=>⟨[(0,(.val .ref (some (0,0)),none)),(3,(.val .ref (some (4,0)),none)),(6,(.val .str aI.1,none))],[(0,.cells sN (aH,(x.1,(x.2,((aC.1,(aC.2.1,(aC.2.2.1,(aC.2.2.2.1,())))),((some 3),(aD.1,())))))) [(6,1),(8,2)]),(1,.grow 53 7 (aC.2.2.2.1.length)),(2,.grow 3 1 (aD.1.length)),(3,.map .str .bool aG),(4,.cells wZ O [])],5,44,4⟩) y1) ?_ ?_
   .refine qV f (fun f hc3=> ?_) (fun f hc3=> ?_)
    .obtain⟨aJ,hv5,hw5,f⟩:=qQ f
     try simp only[go_sem] at hw5
     refine rF AF ?_ (hp:=by exact⟨pS,pS,pS,pS,pS,(qP hv5)⟩) (h:=by simp only[go_sem,hw5];rfl)
     cases f;exact tY ⟨⟨[0,3,6],[(0,0),(1,1),(2,2),(3,3),(4,4)]⟩,by rfl⟩
    .refine r8 ?_;cases f;exact tY ⟨⟨[0,3,6],[(0,0),(1,1),(2,2),(3,3),(4,4)]⟩,by rfl⟩
   .rintro _ rfl;obtain⟨aK,aL⟩:=y1;dsimp only at d|-;refine qO ?_;refine q8 AF ?_;obtain⟨aM,hv6,hw6,d⟩:=qQ d
    try simp only[go_sem] at hw6
    refine rF AF ?_ (hp:=by exact⟨pS,pS,pS,pS,pS,(qP hv6)⟩) (h:=by simp only[go_sem,hw6];rfl)
    refine qO ?_;obtain⟨aN,hv7,hw7,d⟩:=qQ d
    try simp only[go_sem] at hw7
    refine q8 AF ?_ (hp:=by exact⟨pS,pS,pS,pS,pS,(qP hv7)⟩) (h:=by simp only[go_sem,hw7];rfl)
    refine q8 AF ?_;refine qR ?_;cases d;exact pE [(0,0),(1,1),(2,2),(3,3)]
  .refine r8 (qO ?_);obtain⟨aO,hv8,hw8,d⟩:=qQ d
   try simp only[go_sem] at hw8
   refine q8 AF ?_ (hp:=by exact⟨pS,pS,pS,pS,pS,(qP hv8)⟩) (h:=by simp only[go_sem,hw8];rfl)
   refine q8 AF ?_;refine qR ?_;cases d;exact pE [(0,0),(1,1),(2,2),(3,3)]
def CS (O:(List s9)) (Z:Int) (aA:Int) (aB:sV) (aC:(pL×Unit)) (aD:yM) (aE:sF) (aF:pJ):Option ((List s9)×Int×Int×pD):=if ((wF aD ([]:pC) ([]:pC))).isSome=true then (wF aD ([]:pC) ([]:pC)).bind fun aG=>(xL O Z aA aB aC (!true) aD.2.2.2.1 (decide ((aE.2.2.2.1.length:Int)=(20:Int))) aF).bind fun aH=>(B3 O aH.1 aH.2 (aB.1,(aB.2.1,(aB.2.2.1,(aB.2.2.2.1,())))) (aC.1,()) aD aF).bind fun aI=>if (aE.2.2.2.1.length+([aI.1]:pD).length)*16≤140737488355328 then some ((aI.2.1,aI.2.2.1,aI.2.2.2,(aE.2.2.2.1++([aI.1]:pD)))) else none else (DE aD ([]:pC) ([]:pC)).bind fun aJ=>(xL O Z aA aB aC (!false) aD.2.2.2.1 (decide ((aE.2.2.2.1.length:Int)=(20:Int))) aF).bind fun aK=>(B3 O aK.1 aK.2 (aB.1,(aB.2.1,(aB.2.2.1,(aB.2.2.2.1,())))) (aC.1,()) aD aF).bind fun aL=>if (aE.2.2.2.1.length+([aL.1]:pD).length)*16≤140737488355328 then some ((aL.2.1,aL.2.2.1,aL.2.2.2,(aE.2.2.2.1++([aL.1]:pD)))) else none
section
variable (O:yM) (Z:(List s9)) (aA:Int) (aB:Int) (aC:sV) (aD:(pL×Unit)) (aE:Nat) (aF:Nat) (aG:sF) (aH:Nat) (aI:pJ)
abbrev a7x:List qB:=[(.val .ref (some (0,0)),none),(.val wZ O,none),(.val .ref (some (3,0)),none)]
abbrev a7y:List q9:=[.cells sN (Z,(aA,(aB,(aC,((some 5),aD))))) [(6,1),(8,2)],.grow 53 7 aE,.grow 3 1 aF,.cells tU aG [(3,4)],.grow 9 1 aH,.map .str .bool aI]
@[go_sem] def a7z:qH:=⟨[aE=(aC.2.2.2.1.length),aF=(aD.1.length),aH=(aG.2.2.2.1.length),((CS Z aA aB aC aD O aG aI)).isSome=true],[],[.cells sN ((val (CS Z aA aB aC aD O aG aI)).1,((val (CS Z aA aB aC aD O aG aI)).2.1,((val (CS Z aA aB aC aD O aG aI)).2.2.1,((aC.1,(aC.2.1,(aC.2.2.1,(aC.2.2.2.1,())))),((some 5),(aD.1,())))))) [(6,1),(8,2)],.grow 53 7 (aC.2.2.2.1.length),.grow 3 1 (aD.1.length),.cells tU (aG.1,(aG.2.1,(aG.2.2.1,((val (CS Z aA aB aC aD O aG aI)).2.2.2,(aG.2.2.2.2.1,(aG.2.2.2.2.2.1,(aG.2.2.2.2.2.2.1,()))))))) [(3,4)],.grow 9 1 (((val (CS Z aA aB aC aD O aG aI)).2.2.2).length),.map .str .bool aI]⟩
def aFf:List qB→List q9→Option qH:=rP (V:=(yM×(List s9)×Int×Int×sV×(pL×Unit)×Nat×Nat×sF×Nat×pJ)) (fun x=>a7x x.1) (fun x=>a7y x.2.1 x.2.2.1 x.2.2.2.1 x.2.2.2.2.1 x.2.2.2.2.2.1 x.2.2.2.2.2.2.1 x.2.2.2.2.2.2.2.1 x.2.2.2.2.2.2.2.2.1 x.2.2.2.2.2.2.2.2.2.1 x.2.2.2.2.2.2.2.2.2.2) fun x=>a7z x.1 x.2.1 x.2.2.1 x.2.2.2.1 x.2.2.2.2.1 x.2.2.2.2.2.1 x.2.2.2.2.2.2.1 x.2.2.2.2.2.2.2.1 x.2.2.2.2.2.2.2.2.1 x.2.2.2.2.2.2.2.2.2.1 x.2.2.2.2.2.2.2.2.2.2
@[go_sem] def aQ4:aFf (no_index (a7x O)) (no_index (a7y Z aA aB aC aD aE aF aG aH aI))=some (a7z O Z aA aB aC aD aE aF aG aH aI):=rR (fun⟨a0,a1,a2,a3,a4,a5,a6,a7,a8,a9,a10⟩ ⟨b0,b1,b2,b3,b4,b5,b6,b7,b8,b9,b10⟩ h1 h2=>by cases h1;cases h2;rfl) (O,Z,aA,aB,aC,aD,aE,aF,aG,aH,aI)
end
@[go_sem] abbrev S4:Nat×qW:=(83,⟨[.p sN [6,8],.v,.p tU [3]],aFf,[(0,7,.m)],[1,2,5],none⟩)
def LR:rI Tryz.prog [B0,wE,zT,yZ] (rJ [NY,EB,LQ]):=⟨⟨CN,⟨x4,⟨AY,⟨zU,trivial⟩⟩⟩⟩,qK RL (qK FL (qK OA rN)),rL⟩
def aMf:rI Tryz.prog [B0,wE,zT,yZ] (rJ [EB,LQ,O0]):=⟨⟨CN,⟨x4,⟨AY,⟨zU,trivial⟩⟩⟩⟩,qK FL (qK OA (qK RM rN)),rL⟩
def X6:r5 Tryz.prog S4:=by
 refine rS LR Tryz.func83 (c:=_) rfl (N:=37) pT (ts:=[]) rfl (fun _ _=>rfl) ?_;intro⟨O,Z,aA,aB,aC,aD,aE,aF,aG,aH,aI⟩ hs hrow;dsimp only[a7x,a7y,a7z,rM,qM,qY,r7,rO,Nat.reduceAdd] at hs hrow|-;obtain⟨rfl,rfl,rfl,hz⟩:=hs;obtain⟨z0,d⟩:=aRh.1 hz
 try rw[rY d]
 clear hz;unfold CS at d;refine q8 LR ?_;refine qS ?_;by_cases hva1:((wF O ([]:pC) ([]:pC))).isSome=true
 .rw[aRf hva1] at d;obtain⟨aJ,hv1,hw1,d⟩:=qQ d
  try simp only[go_sem] at hw1
  refine rF LR ?_ (hp:=by exact(qP hv1)) (h:=by simp only[go_sem,hw1];rfl);refine qO ?_;obtain⟨aK,hv2,hw2,d⟩:=qQ d
  try simp only[go_sem] at hw2
  refine vQ LR ?_ (hp:=by exact⟨pS,pS,pS,pS,pS,(qP hv2)⟩) (h:=by simp only[go_sem,hw2];rfl)
  obtain⟨aL,hv3,hw3,d⟩:=qQ d
  try simp only[go_sem] at hw3
  obtain⟨hg4,d⟩:=qG d;refine AW LR ?_ (hp:=by exact⟨pS,pS,pS,pS,pS,qP hv3,pS,hg4⟩) (h:=by simp only[go_sem,hw3];rfl)
  cases d;exact pE [(0,0),(1,1),(2,2),(3,3),(4,4),(5,5)]
 rw[aRk hva1] at d;obtain⟨aM,hv5,hw5,d⟩:=qQ d
 try simp only[go_sem] at hw5
 refine rF aMf ?_ (hp:=by exact(qP hv5)) (h:=by simp only[go_sem,hw5];rfl);refine qO ?_;obtain⟨aN,hv6,hw6,d⟩:=qQ d
 try simp only[go_sem] at hw6
 refine vQ LR ?_ (hp:=by exact⟨pS,pS,pS,pS,pS,(qP hv6)⟩) (h:=by simp only[go_sem,hw6];rfl)
 obtain⟨aO,hv7,hw7,d⟩:=qQ d
 try simp only[go_sem] at hw7
 obtain⟨hg8,d⟩:=qG d;refine AW LR ?_ (hp:=by exact⟨pS,pS,pS,pS,pS,qP hv7,pS,hg8⟩) (h:=by simp only[go_sem,hw7];rfl)
 cases d;exact pE [(0,0),(1,1),(2,2),(3,3),(4,4),(5,5)]
attribute [irreducible] B2 B3 CS
end
noncomputable section
def S5 (O:yM):(Bool×Int)→Option ((Bool×Int)⊕Bool):=fun(Z,aA)=>if (decide (aA<(O.2.2.1.length:Int)))=true then if 0≤aA∧aA<(O.2.2.1.length:Int) then if ((Z==true)=true→((CO ((qU (.pair .str (.pair .str .unit)) O.2.2.1 aA).2.1))).isSome=true) then if qC (aA+(1:Int)) then some (.inl ((Z&&(val (CO ((qU (.pair .str (.pair .str .unit)) O.2.2.1 aA).2.1)))),(aA+(1:Int)))) else none else none else none else some (.inr Z)
def S6 (O:yM):(Bool×Int)→Option ((Bool×Int)⊕Bool):=fun(Z,aA)=>if (decide (aA<(O.2.2.1.length:Int)))=true then if 0≤aA∧aA<(O.2.2.1.length:Int) then if ((Z==true)=true→((CO ((qU (.pair .str (.pair .str .unit)) O.2.2.1 aA).2.1))).isSome=true) then if qC (aA+(1:Int)) then some (.inl ((Z&&(val (CO ((qU (.pair .str (.pair .str .unit)) O.2.2.1 aA).2.1)))),(aA+(1:Int)))) else none else none else none else some (.inr Z)
def CT (O:(List s9)) (Z:Int) (aA:Int) (aB:sV) (aC:(pL×Unit)) (aD:yM) (aE:sF) (aF:pJ):Option ((List s9)×Int×Int×(List r6)):=if ((wF aD ([110,97,109,101]:pC) ([]:pC))).isSome=true then (wF aD ([110,97,109,101]:pC) ([]:pC)).bind fun aG=>(HC aE.2.2.2.2.2.2.1 (rV .str .str aG ([110,97,109,101]:pC))).bind fun aH=>sJ (rU (S5 aD) (true,(0:Int))) fun aI=>(xL O Z aA (aB.1,(aB.2.1,(aB.2.2.1,(aB.2.2.2.1,())))) (aC.1,()) ((!true)||(!aI)) (aD.2.2.2.1||aH.2) (decide ((aE.2.2.2.2.2.2.1.length:Int)=(20:Int))) aF).bind fun aJ=>(B3 O aJ.1 aJ.2 (aB.1,(aB.2.1,(aB.2.2.1,(aB.2.2.2.1,())))) (aC.1,()) aD aF).bind fun aK=>(H9 aE.2.2.2.2.2.2.1 (rV .str .str aG ([110,97,109,101]:pC)) aK.1).bind fun aL=>some ((aK.2.1,aK.2.2.1,aK.2.2.2,aL)) else (DE aD ([110,97,109,101]:pC) ([]:pC)).bind fun aM=>(HC aE.2.2.2.2.2.2.1 ([]:pC)).bind fun aN=>sJ (rU (S6 aD) (true,(0:Int))) fun aO=>(xL O Z aA (aB.1,(aB.2.1,(aB.2.2.1,(aB.2.2.2.1,())))) (aC.1,()) ((!false)||(!aO)) (aD.2.2.2.1||aN.2) (decide ((aE.2.2.2.2.2.2.1.length:Int)=(20:Int))) aF).bind fun aP=>(B3 O aP.1 aP.2 (aB.1,(aB.2.1,(aB.2.2.1,(aB.2.2.2.1,())))) (aC.1,()) aD aF).bind fun aQ=>(H9 aE.2.2.2.2.2.2.1 ([]:pC) aQ.1).bind fun aR=>some ((aQ.2.1,aQ.2.2.1,aQ.2.2.2,aR))
section
variable (O:yM) (Z:(List s9)) (aA:Int) (aB:Int) (aC:sV) (aD:(pL×Unit)) (aE:Nat) (aF:Nat) (aG:sF) (aH:Nat) (aI:pJ)
abbrev a7A:List qB:=[(.val .ref (some (0,0)),none),(.val wZ O,none),(.val .ref (some (3,0)),none)]
abbrev a7B:List q9:=[.cells sN (Z,(aA,(aB,(aC,((some 5),aD))))) [(6,1),(8,2)],.grow 53 7 aE,.grow 3 1 aF,.cells tU aG [(3,4)],.grow 9 1 aH,.map .str .bool aI]
@[go_sem] def a7C:qH:=⟨[aE=(aC.2.2.2.1.length),aF=(aD.1.length),aH=(aG.2.2.2.1.length),((CT Z aA aB aC aD O aG aI)).isSome=true],[],[.cells sN ((val (CT Z aA aB aC aD O aG aI)).1,((val (CT Z aA aB aC aD O aG aI)).2.1,((val (CT Z aA aB aC aD O aG aI)).2.2.1,((aC.1,(aC.2.1,(aC.2.2.1,(aC.2.2.2.1,())))),((some 5),(aD.1,())))))) [(6,1),(8,2)],.grow 53 7 (aC.2.2.2.1.length),.grow 3 1 (aD.1.length),.cells tU (aG.1,(aG.2.1,(aG.2.2.1,(aG.2.2.2.1,(aG.2.2.2.2.1,(aG.2.2.2.2.2.1,((val (CT Z aA aB aC aD O aG aI)).2.2.2,()))))))) [(3,4),(6,6)],.grow 9 1 (aG.2.2.2.1.length),.map .str .bool aI,.grow 111 2 (((val (CT Z aA aB aC aD O aG aI)).2.2.2).length)]⟩
def aFg:List qB→List q9→Option qH:=rP (V:=(yM×(List s9)×Int×Int×sV×(pL×Unit)×Nat×Nat×sF×Nat×pJ)) (fun x=>a7A x.1) (fun x=>a7B x.2.1 x.2.2.1 x.2.2.2.1 x.2.2.2.2.1 x.2.2.2.2.2.1 x.2.2.2.2.2.2.1 x.2.2.2.2.2.2.2.1 x.2.2.2.2.2.2.2.2.1 x.2.2.2.2.2.2.2.2.2.1 x.2.2.2.2.2.2.2.2.2.2) fun x=>a7C x.1 x.2.1 x.2.2.1 x.2.2.2.1 x.2.2.2.2.1 x.2.2.2.2.2.1 x.2.2.2.2.2.2.1 x.2.2.2.2.2.2.2.1 x.2.2.2.2.2.2.2.2.1 x.2.2.2.2.2.2.2.2.2.1 x.2.2.2.2.2.2.2.2.2.2
@[go_sem] def aQ5:aFg (no_index (a7A O)) (no_index (a7B Z aA aB aC aD aE aF aG aH aI))=some (a7C O Z aA aB aC aD aE aF aG aH aI):=rR (fun⟨a0,a1,a2,a3,a4,a5,a6,a7,a8,a9,a10⟩ ⟨b0,b1,b2,b3,b4,b5,b6,b7,b8,b9,b10⟩ h1 h2=>by cases h1;cases h2;rfl) (O,Z,aA,aB,aC,aD,aE,aF,aG,aH,aI)
end
@[go_sem] abbrev S7:Nat×qW:=(84,⟨[.p sN [6,8],.v,.p tU [3]],aFg,[(0,7,.m)],[1,2,4,5],none⟩)
def yB:rI Tryz.prog [B0,sL,AZ,zT,CM,yZ,FK,BJ] (rJ [NY,a6a,NO,EB,LQ,a5I]):=⟨⟨CN,⟨sO,⟨CK,⟨AY,⟨E9,⟨zU,⟨IV,⟨DC,trivial⟩⟩⟩⟩⟩⟩⟩⟩,qK RL (qK aEu (qK R6 (qK FL (qK OA (qK aEg rN))))),rL⟩
def aMg:rI Tryz.prog [B0,sL,AZ,zT,CM,yZ,FK,BJ] (rJ [a6a,NO,EB,LQ,a5I,O0]):=⟨⟨CN,⟨sO,⟨CK,⟨AY,⟨E9,⟨zU,⟨IV,⟨DC,trivial⟩⟩⟩⟩⟩⟩⟩⟩,qK aEu (qK R6 (qK FL (qK OA (qK aEg (qK RM rN))))),rL⟩
def X7:r5 Tryz.prog S7:=by
 refine rS yB Tryz.func84 (c:=_) rfl (N:=74) pT (ts:=[]) rfl (fun _ _=>rfl) ?_;intro⟨O,Z,aA,aB,aC,aD,aE,aF,aG,aH,aI⟩ hs hrow;dsimp only[a7A,a7B,a7C,rM,qM,qY,r7,rO,Nat.reduceAdd] at hs hrow|-;obtain⟨rfl,rfl,rfl,hz⟩:=hs;obtain⟨z0,d⟩:=aRh.1 hz
 try rw[rY d]
 clear hz;unfold CT at d;refine q8 yB ?_;refine qS ?_;by_cases hva1:((wF O ([110,97,109,101]:pC) ([]:pC))).isSome=true
 .rw[aRf hva1] at d;obtain⟨aJ,hv1,hw1,d⟩:=qQ d
  try simp only[go_sem] at hw1
  refine rF yB ?_ (hp:=by exact(qP hv1)) (h:=by simp only[go_sem,hw1];rfl);refine qO ?_;obtain⟨aK,hv2,hw2,d⟩:=qQ d
  try simp only[go_sem] at hw2
  refine vQ yB ?_ (hp:=by exact(qP hv2)) (h:=by simp only[go_sem,hw2];rfl);refine q8 yB ?_;refine qS ?_;refine q8 yB ?_;refine rW ?_;obtain⟨aL,hy1,d⟩:=qI d;refine uV 0 (fun s=>s=(fun x=>⟨[(0,(.val .ref (some (0,0)),none)),(2,(.val .ref (some (3,0)),none)),(4,(.val .ref (some (6,0)),none)),(6,(.val .mp (some 7),none)),(7,(.val .bool true,none)),(9,(.val .bool aK.2,none)),(10,(.val .bool x,none))],[(0,.cells sN (Z,(aA,(aB,((aC.1,(aC.2.1,(aC.2.2.1,(aC.2.2.2.1,())))),((some 5),(aD.1,())))))) [(6,1),(8,2)]),(1,.grow 53 7 (aC.2.2.2.1.length)),(2,.grow 3 1 (aD.1.length)),(3,.cells tU aG [(3,4)]),(4,.grow 9 1 (aG.2.2.2.1.length)),(5,.map .str .bool aI),(6,.cells wZ O []),(7,.map .str .str aJ)],8,74,6⟩) aL) ?_ ?_
  .refine uP hy1 (fun x=>⟨[(0,(.val .ref (some (0,0)),none)),(2,(.val .ref (some (3,0)),none)),(4,(.val .ref (some (6,0)),none)),(6,(.val .mp (some 7),none)),(7,(.val .bool true,none)),(9,(.val .bool aK.2,none)),(10,(.val .bool x.1,none)),(29,(.val (.list (.pair .str (.pair .str .unit))) O.2.2.1,none)),(30,(.val (.int .i64) (O.2.2.1.length:Int),none)),(31,(.val (.int .i64) x.2,none))],[(0,.cells sN (Z,(aA,(aB,((aC.1,(aC.2.1,(aC.2.2.1,(aC.2.2.2.1,())))),((some 5),(aD.1,())))))) [(6,1),(8,2)]),(1,.grow 53 7 (aC.2.2.2.1.length)),(2,.grow 3 1 (aD.1.length)),(3,.cells tU aG [(3,4)]),(4,.grow 9 1 (aG.2.2.2.1.length)),(5,.map .str .bool aI),(6,.cells wZ O []),(7,.map .str .str aJ)],8,74,6⟩) ⟨[0,2,4,6,7,9,10,29,30,31],[(0,0),(1,1),(2,2),(3,3),(4,4),(5,5),(6,6),(7,70)]⟩ pU ?_;intro x1 w1 n1 e g;obtain⟨aM,aN⟩:=x1;unfold S5 at e;dsimp only at e|-;refine q8 yB ?_;refine qS ?_;refine qV e (fun e hc2=> ?_) (fun e hc2=> ?_)
   .refine r8 (qO (qS (rW ?_)));obtain⟨hg3,e⟩:=qG e;refine q8 yB ?_ (hp:=by exact hg3);obtain⟨hg4,e⟩:=qG e;refine rF yB ?_ (hp:=by exact⟨id,id,hg4,sY⟩);refine rT (qO ?_);obtain⟨hg5,e⟩:=qG e;refine rF yB ?_ (hp:=by exact hg5);cases e;exact tC ⟨⟨[0,2,4,6,7,9,10,29,30,31],[(0,0),(1,1),(2,2),(3,3),(4,4),(5,5),(6,6),(7,7)]⟩,_,by rfl,g⟩
   .refine uJ (uI (uL ?_));cases e;cases g;exact uK ⟨⟨[0,2,4,6,7,9,10],[(0,0),(1,1),(2,2),(3,3),(4,4),(5,5),(6,6),(7,7)]⟩,by rfl⟩
  .rintro _ rfl;dsimp only at d|-;refine uU (qO ?_);obtain⟨aO,hv6,hw6,d⟩:=qQ d
   try simp only[go_sem] at hw6
   refine vQ yB ?_ (hp:=by exact⟨id,fun f=>by first|exact sU f|exact rfl|exact f.elim|simp_all,sU,pS,pS,pS,pS,pS,(qP hv6)⟩) (h:=by simp only[go_sem,hw6];rfl)
   obtain⟨aP,hv7,hw7,d⟩:=qQ d
   try simp only[go_sem] at hw7
   obtain⟨aQ,hv8,hw8,d⟩:=qQ d
   try simp only[go_sem] at hw8
   refine AW yB ?_ (hp:=by exact⟨pS,pS,pS,pS,pS,qP hv7,(qP hv8)⟩) (h:=by simp only[go_sem,hw7,hw8];rfl)
   cases d;exact pE [(0,0),(1,1),(2,2),(3,3),(4,4),(5,5),(6,936)]
 rw[aRk hva1] at d;obtain⟨aR,hv9,hw9,d⟩:=qQ d
 try simp only[go_sem] at hw9
 refine rF aMg ?_ (hp:=by exact(qP hv9)) (h:=by simp only[go_sem,hw9];rfl);refine qO ?_;obtain⟨aS,hv10,hw10,d⟩:=qQ d
 try simp only[go_sem] at hw10
 refine vQ yB ?_ (hp:=by exact(qP hv10)) (h:=by simp only[go_sem,hw10];rfl);refine q8 yB ?_;refine qS ?_;refine q8 yB ?_;refine rW ?_;obtain⟨aT,hy1,d⟩:=qI d;refine uV 0 (fun s=>s=(fun x=>⟨[(0,(.val .ref (some (0,0)),none)),(2,(.val .ref (some (3,0)),none)),(4,(.val .ref (some (6,0)),none)),(6,(.val .mp none,none)),(7,(.val .bool false,none)),(9,(.val .bool aS.2,none)),(10,(.val .bool x,none))],[(0,.cells sN (Z,(aA,(aB,((aC.1,(aC.2.1,(aC.2.2.1,(aC.2.2.2.1,())))),((some 5),(aD.1,())))))) [(6,1),(8,2)]),(1,.grow 53 7 (aC.2.2.2.1.length)),(2,.grow 3 1 (aD.1.length)),(3,.cells tU aG [(3,4)]),(4,.grow 9 1 (aG.2.2.2.1.length)),(5,.map .str .bool aI),(6,.cells wZ O [])],7,74,6⟩) aT) ?_ ?_
 .refine uP hy1 (fun x=>⟨[(0,(.val .ref (some (0,0)),none)),(2,(.val .ref (some (3,0)),none)),(4,(.val .ref (some (6,0)),none)),(6,(.val .mp none,none)),(7,(.val .bool false,none)),(9,(.val .bool aS.2,none)),(10,(.val .bool x.1,none)),(29,(.val (.list (.pair .str (.pair .str .unit))) O.2.2.1,none)),(30,(.val (.int .i64) (O.2.2.1.length:Int),none)),(31,(.val (.int .i64) x.2,none))],[(0,.cells sN (Z,(aA,(aB,((aC.1,(aC.2.1,(aC.2.2.1,(aC.2.2.2.1,())))),((some 5),(aD.1,())))))) [(6,1),(8,2)]),(1,.grow 53 7 (aC.2.2.2.1.length)),(2,.grow 3 1 (aD.1.length)),(3,.cells tU aG [(3,4)]),(4,.grow 9 1 (aG.2.2.2.1.length)),(5,.map .str .bool aI),(6,.cells wZ O [])],7,74,6⟩) ⟨[0,2,4,6,7,9,10,29,30,31],[(0,0),(1,1),(2,2),(3,3),(4,4),(5,5),(6,6)]⟩ pU ?_;intro x1 w1 n1 e g;obtain⟨aU,aV⟩:=x1;unfold S6 at e;dsimp only at e|-;refine q8 yB ?_;refine qS ?_;refine qV e (fun e hc3=> ?_) (fun e hc3=> ?_)
  .refine r8 (qO (qS (rW ?_)));obtain⟨hg11,e⟩:=qG e;refine q8 yB ?_ (hp:=by exact hg11);obtain⟨hg12,e⟩:=qG e;refine rF yB ?_ (hp:=by exact⟨id,id,hg12,sY⟩);refine rT (qO ?_);obtain⟨hg13,e⟩:=qG e;refine rF yB ?_ (hp:=by exact hg13);cases e;exact tC ⟨⟨[0,2,4,6,7,9,10,29,30,31],[(0,0),(1,1),(2,2),(3,3),(4,4),(5,5),(6,6)]⟩,_,by rfl,g⟩
  .refine uJ (uI (uL ?_));cases e;cases g;exact uK ⟨⟨[0,2,4,6,7,9,10],[(0,0),(1,1),(2,2),(3,3),(4,4),(5,5),(6,6)]⟩,by rfl⟩
 .rintro _ rfl;dsimp only at d|-;refine uU (qO ?_);obtain⟨aW,hv14,hw14,d⟩:=qQ d
  try simp only[go_sem] at hw14
  refine vQ yB ?_ (hp:=by exact⟨id,fun f=>by first|exact sU f|exact rfl|exact f.elim|simp_all,sU,pS,pS,pS,pS,pS,(qP hv14)⟩) (h:=by simp only[go_sem,hw14];rfl)
  obtain⟨aX,hv15,hw15,d⟩:=qQ d
  try simp only[go_sem] at hw15
  obtain⟨aY,hv16,hw16,d⟩:=qQ d
  try simp only[go_sem] at hw16
  refine AW yB ?_ (hp:=by exact⟨pS,pS,pS,pS,pS,qP hv15,(qP hv16)⟩) (h:=by simp only[go_sem,hw15,hw16];rfl)
  cases d;exact pE [(0,0),(1,1),(2,2),(3,3),(4,4),(5,5),(6,935)]
attribute [irreducible] CT
end
noncomputable section
def zW (O:sV) (Z:(pL×Unit)) (aA:sF) (aB:pJ):((List s9)×Int×Int×pC×pC×pD×(List r6)×pJ)→Option (((List s9)×Int×Int×pC×pC×pD×(List r6)×pJ)⊕(Int×(List s9)×Int×Int×pC×pC×pD×(List r6))):=fun(aC,aD,aE,aF,aG,aH,aI,aJ)=>(zV aC aD aE (O.1,(O.2.1,(O.2.2.1,(O.2.2.2.1,())))) (Z.1,()) aB).bind fun aK=>(AE aK aD aE (O.1,(O.2.1,(O.2.2.1,(O.2.2.2.1,())))) (Z.1,()) aB).bind fun aL=>if ((decide (aL.1=(3:Int)))||(decide (aL.1=(0:Int))))=true then (B2 aK aD aE (O.1,(O.2.1,(O.2.2.1,(O.2.2.2.1,())))) (Z.1,()) ([101,110,116,114,121]:pC) aB).bind fun aM=>some (.inr ((((qU sM aK (0:Int)).2.2.1+(((qU sM aK (0:Int)).2.1).length:Int)),aM.1,aM.2.1,aM.2.2,aF,aG,aH,aI))) else if (decide (aL.2.1=([99,111,109,109,101,110,116]:pC)))=true then (CS aK aD aE (O.1,(O.2.1,(O.2.2.1,(O.2.2.2.1,())))) (Z.1,()) (aL.1,(aL.2.1,(aL.2.2.1,(aL.2.2.2,())))) (aA.1,(aF,(aG,(aH,(aA.2.2.2.2.1,(aA.2.2.2.2.2.1,(aI,()))))))) aB).bind fun aN=>some (.inl (aN.1,aN.2.1,aN.2.2.1,aF,aG,aN.2.2.2,aI,aJ)) else if (decide (aL.2.1=([102,105,101,108,100]:pC)))=true then (CT aK aD aE (O.1,(O.2.1,(O.2.2.1,(O.2.2.2.1,())))) (Z.1,()) (aL.1,(aL.2.1,(aL.2.2.1,(aL.2.2.2,())))) (aA.1,(aF,(aG,(aH,(aA.2.2.2.2.1,(aA.2.2.2.2.2.1,(aI,()))))))) aB).bind fun aO=>some (.inl (aO.1,aO.2.1,aO.2.2.1,aF,aG,aH,aO.2.2.2,aJ)) else sJ (σ:=Bool) (if (decide (aL.2.1=([115,111,117,114,99,101]:pC)))=true then some ((decide (aL.2.1=([115,111,117,114,99,101]:pC)))) else some ((decide (aL.2.1=([116,97,114,103,101,116]:pC)))) ) fun aP=>if aP=true then if ((wF (aL.1,(aL.2.1,(aL.2.2.1,(aL.2.2.2,())))) ([]:pC) ([]:pC))).isSome=true then (wF (aL.1,(aL.2.1,(aL.2.2.1,(aL.2.2.2,())))) ([]:pC) ([]:pC)).bind fun aQ=>(xL aK aD aE (O.1,(O.2.1,(O.2.2.1,(O.2.2.2.1,())))) (Z.1,()) (!true) (aL.2.2.2||(rV .str .bool aJ aL.2.1)) false aB).bind fun aR=>(B3 aK aR.1 aR.2 (O.1,(O.2.1,(O.2.2.1,(O.2.2.2.1,())))) (Z.1,()) (aL.1,(aL.2.1,(aL.2.2.1,(aL.2.2.2,())))) aB).bind fun aS=>if (decide (aL.2.1=([115,111,117,114,99,101]:pC)))=true then some (.inl (aS.2.1,aS.2.2.1,aS.2.2.2,aS.1,aG,aH,aI,(tJ .str .bool aL.2.1 true aJ))) else some (.inl (aS.2.1,aS.2.2.1,aS.2.2.2,aF,aS.1,aH,aI,(tJ .str .bool aL.2.1 true aJ))) else (DE (aL.1,(aL.2.1,(aL.2.2.1,(aL.2.2.2,())))) ([]:pC) ([]:pC)).bind fun aT=>(xL aK aD aE (O.1,(O.2.1,(O.2.2.1,(O.2.2.2.1,())))) (Z.1,()) (!false) (aL.2.2.2||(rV .str .bool aJ aL.2.1)) false aB).bind fun aU=>(B3 aK aU.1 aU.2 (O.1,(O.2.1,(O.2.2.1,(O.2.2.2.1,())))) (Z.1,()) (aL.1,(aL.2.1,(aL.2.2.1,(aL.2.2.2,())))) aB).bind fun aV=>if (decide (aL.2.1=([115,111,117,114,99,101]:pC)))=true then some (.inl (aV.2.1,aV.2.2.1,aV.2.2.2,aV.1,aG,aH,aI,(tJ .str .bool aL.2.1 true aJ))) else some (.inl (aV.2.1,aV.2.2.1,aV.2.2.2,aF,aV.1,aH,aI,(tJ .str .bool aL.2.1 true aJ))) else (zD aK aD aE (O.1,(O.2.1,(O.2.2.1,(O.2.2.2.1,())))) (Z.1,()) (3:Int) aB).bind fun aW=>some (.inl (aK,aW.1,aW.2,aF,aG,aH,aI,aJ))
def z6 (O:(List s9)) (Z:Int) (aA:Int) (aB:sV) (aC:(pL×Unit)) (aD:sF) (aE:pJ):Option (Int×(List s9)×Int×Int×pC×pC×pD×(List r6)):=rU (zW aB aC aD aE) (O,Z,aA,aD.2.1,aD.2.2.1,aD.2.2.2.1,aD.2.2.2.2.2.2.1,([]:pJ))
section
variable (O:(List s9)) (Z:Int) (aA:Int) (aB:sV) (aC:(pL×Unit)) (aD:Nat) (aE:Nat) (aF:sF) (aG:Nat) (aH:pJ)
abbrev a7D:List qB:=[(.val .ref (some (0,0)),none),(.val .ref (some (3,0)),none)]
abbrev a7E:List q9:=[.cells sN (O,(Z,(aA,(aB,((some 5),aC))))) [(6,1),(8,2)],.grow 53 7 aD,.grow 3 1 aE,.cells tU aF [(3,4)],.grow 9 1 aG,.map .str .bool aH]
@[go_sem] def a7F:qH:=⟨[aD=(aB.2.2.2.1.length),aE=(aC.1.length),aG=(aF.2.2.2.1.length),((z6 O Z aA aB aC aF aH)).isSome=true],[(.val (.int .i64) ((val (z6 O Z aA aB aC aF aH)).1),none)],[.cells sN ((val (z6 O Z aA aB aC aF aH)).2.1,((val (z6 O Z aA aB aC aF aH)).2.2.1,((val (z6 O Z aA aB aC aF aH)).2.2.2.1,((aB.1,(aB.2.1,(aB.2.2.1,(aB.2.2.2.1,())))),((some 5),(aC.1,())))))) [(6,1),(8,2)],.grow 53 7 (aB.2.2.2.1.length),.grow 3 1 (aC.1.length),.cells tU (aF.1,((val (z6 O Z aA aB aC aF aH)).2.2.2.2.1,((val (z6 O Z aA aB aC aF aH)).2.2.2.2.2.1,((val (z6 O Z aA aB aC aF aH)).2.2.2.2.2.2.1,(aF.2.2.2.2.1,(aF.2.2.2.2.2.1,((val (z6 O Z aA aB aC aF aH)).2.2.2.2.2.2.2,()))))))) [(3,4)],.grow 9 1 (((val (z6 O Z aA aB aC aF aH)).2.2.2.2.2.2.1).length),.map .str .bool aH]⟩
def aFh:List qB→List q9→Option qH:=rP (V:=((List s9)×Int×Int×sV×(pL×Unit)×Nat×Nat×sF×Nat×pJ)) (fun x=>a7D) (fun x=>a7E x.1 x.2.1 x.2.2.1 x.2.2.2.1 x.2.2.2.2.1 x.2.2.2.2.2.1 x.2.2.2.2.2.2.1 x.2.2.2.2.2.2.2.1 x.2.2.2.2.2.2.2.2.1 x.2.2.2.2.2.2.2.2.2) fun x=>a7F x.1 x.2.1 x.2.2.1 x.2.2.2.1 x.2.2.2.2.1 x.2.2.2.2.2.1 x.2.2.2.2.2.2.1 x.2.2.2.2.2.2.2.1 x.2.2.2.2.2.2.2.2.1 x.2.2.2.2.2.2.2.2.2
@[go_sem] def aQ6:aFh (no_index a7D) (no_index (a7E O Z aA aB aC aD aE aF aG aH))=some (a7F O Z aA aB aC aD aE aF aG aH):=rR (fun⟨a0,a1,a2,a3,a4,a5,a6,a7,a8,a9⟩ ⟨b0,b1,b2,b3,b4,b5,b6,b7,b8,b9⟩ h1 h2=>by cases h1;cases h2;rfl) (O,Z,aA,aB,aC,aD,aE,aF,aG,aH)
end
@[go_sem] abbrev a7G:Nat×qW:=(93,⟨[.p sN [6,8],.p tU [3]],aFh,[(0,7,.m)],[1,2,5],none⟩)
def w6:rI Tryz.prog [xK,B0,sL,zT,IW,yZ] (rJ [O1,HG,S3,S4,S7,NY,EB,LQ,L5]):=⟨⟨yA,⟨CN,⟨sO,⟨AY,⟨NL,⟨zU,trivial⟩⟩⟩⟩⟩⟩,qK RQ (qK JC (qK X5 (qK X6 (qK X7 (qK RL (qK FL (qK OA (qK NM rN)))))))),rL⟩
def aMh:rI Tryz.prog [xK,B0,sL,zT,IW,yZ] (rJ [O1,HG,S3,S4,S7,EB,LQ,O0,L5]):=⟨⟨yA,⟨CN,⟨sO,⟨AY,⟨NL,⟨zU,trivial⟩⟩⟩⟩⟩⟩,qK RQ (qK JC (qK X5 (qK X6 (qK X7 (qK FL (qK OA (qK RM (qK NM rN)))))))),rL⟩
def aFi:r5 Tryz.prog a7G:=by
 refine rS w6 Tryz.func93 (c:=_) rfl (N:=78) pT (ts:=[(4,none)]) rfl (fun _ _=>rfl) ?_;intro⟨O,Z,aA,aB,aC,aD,aE,aF,aG,aH⟩ hs hrow;dsimp only[a7D,a7E,a7F,rM,qM,qY,r7,rO,Nat.reduceAdd] at hs hrow|-;obtain⟨rfl,rfl,rfl,hz⟩:=hs;obtain⟨z0,g⟩:=aRh.1 hz
 try rw[rY g]
 clear hz;unfold z6 at g;refine q8 w6 ?_;refine q8 w6 ?_;refine rW ?_;have hy1:=g;refine uP hy1 (fun x=>⟨[(0,(.val .ref (some (0,0)),none)),(1,(.val .ref (some (3,0)),none)),(5,(.val .mp (some 6),none))],[(0,.cells sN (x.1,(x.2.1,(x.2.2.1,((aB.1,(aB.2.1,(aB.2.2.1,(aB.2.2.2.1,())))),((some 5),(aC.1,())))))) [(6,1),(8,2)]),(1,.grow 53 7 (aB.2.2.2.1.length)),(2,.grow 3 1 (aC.1.length)),(3,.cells tU (aF.1,(x.2.2.2.1,(x.2.2.2.2.1,(x.2.2.2.2.2.1,(aF.2.2.2.2.1,(aF.2.2.2.2.2.1,(x.2.2.2.2.2.2.1,()))))))) [(3,4)]),(4,.grow 9 1 (x.2.2.2.2.2.1.length)),(5,.map .str .bool aH),(6,.map .str .bool x.2.2.2.2.2.2.2)],7,78,6⟩) ⟨[0,1,5],[(0,0),(1,1),(2,2),(3,3),(4,4),(5,5),(6,38)]⟩ pU ?_;intro x1 w1 n1 d f;obtain⟨aI,aJ,aK,aL,aM,aN,aO,aP⟩:=x1;unfold zW at d;dsimp only at d|-;refine rW ?_;obtain⟨aQ,hv1,hw1,d⟩:=qQ d
 try simp only[go_sem] at hw1
 refine q8 w6 ?_ (hp:=by exact⟨pS,pS,pS,pS,pS,(qP hv1)⟩) (h:=by simp only[go_sem,hw1];rfl)
 obtain⟨aR,hv2,hw2,d⟩:=qQ d
 try simp only[go_sem] at hw2
 refine q8 w6 ?_ (hp:=by exact⟨pS,pS,pS,pS,pS,pS,(qP hv2)⟩) (h:=by simp only[go_sem,hw2];rfl)
 refine qS ?_;refine q8 w6 ?_ (hp:=by exact⟨id,id,sU⟩);refine qV d (fun d hc1=> ?_) (fun d hc1=> ?_)
 .obtain⟨aS,hv3,hw3,d⟩:=qQ d
  try simp only[go_sem] at hw3
  refine q8 w6 ?_ (hp:=by exact⟨pS,pS,pS,pS,pS,(qP hv3)⟩) (h:=by simp only[go_sem,hw3];rfl)
  refine qR (rQ (s8 (wP (s8 ?_))));cases d;have g:=aRx some (show _=_ from f);cases g;exact pE [(0,0),(1,1),(2,2),(3,3),(4,4),(5,5)]
 .refine r8 (qO ?_);refine q8 w6 ?_;refine rW ?_;refine q8 w6 ?_;refine qV d (fun d hc2=> ?_) (fun d hc2=> ?_)
  .obtain⟨aT,hv4,hw4,d⟩:=qQ d
   try simp only[go_sem] at hw4
   refine rF w6 ?_ (hp:=by exact⟨pS,pS,pS,pS,pS,pS,(qP hv4)⟩) (h:=by simp only[go_sem,hw4];rfl)
   refine rT (rT ?_);cases d;exact tC ⟨⟨[0,1,5],[(0,0),(1,1),(2,2),(3,3),(4,4),(5,5),(6,6)]⟩,_,by rfl,f⟩
  .refine q8 w6 ?_;refine qV d (fun d hc3=> ?_) (fun d hc3=> ?_)
   .obtain⟨aU,hv5,hw5,d⟩:=qQ d
    try simp only[go_sem] at hw5
    refine rF w6 ?_ (hp:=by exact⟨pS,pS,pS,pS,pS,pS,pS,(qP hv5)⟩) (h:=by simp only[go_sem,hw5];rfl)
    refine rT (rT ?_);cases d;exact tC ⟨⟨[0,1,5],[(0,0),(1,1),(2,2),(3,3),(4,4),(5,5),(6,6)]⟩,_,by rfl,f⟩
   .refine qS ?_;refine q8 w6 ?_;obtain⟨aV,i,d⟩:=qI d;refine yY (fun s=>s=(fun x=>⟨[(0,(.val .ref (some (0,0)),none)),(1,(.val .ref (some (3,0)),none)),(5,(.val .mp (some 6),none)),(6,(.val .ref (some (7,0)),none)),(41,(.val .bool x,none))],[(0,.cells sN (aQ,(aJ,(aK,((aB.1,(aB.2.1,(aB.2.2.1,(aB.2.2.2.1,())))),((some 5),(aC.1,())))))) [(6,1),(8,2)]),(1,.grow 53 7 (aB.2.2.2.1.length)),(2,.grow 3 1 (aC.1.length)),(3,.cells tU (aF.1,(aL,(aM,(aN,(aF.2.2.2.2.1,(aF.2.2.2.2.2.1,(aO,()))))))) [(3,4)]),(4,.grow 9 1 (aN.length)),(5,.map .str .bool aH),(6,.map .str .bool aP),(7,.cells wZ (aR.1,(aR.2.1,(aR.2.2.1,(aR.2.2.2,())))) [])],8,78,6⟩) aV) ?_ ?_
    .refine qV i (fun i hc4=> ?_) (fun i hc4=> ?_)
     .refine r8 ?_;cases i;exact tY ⟨⟨[0,1,5,6,41],[(0,0),(1,1),(2,2),(3,3),(4,4),(5,5),(6,6),(7,135)]⟩,by rfl⟩
     .refine rF w6 ?_;cases i;exact tY ⟨⟨[0,1,5,6,41],[(0,0),(1,1),(2,2),(3,3),(4,4),(5,5),(6,6),(7,135)]⟩,by rfl⟩
    .rintro _ rfl;dsimp only at d|-;refine qO ?_;refine qV d (fun d hc5=> ?_) (fun d hc5=> ?_)
     .refine qS ?_;by_cases hva6:((wF (aR.1,(aR.2.1,(aR.2.2.1,(aR.2.2.2,())))) ([]:pC) ([]:pC))).isSome=true
      .rw[aRf hva6] at d;obtain⟨aW,hv6,hw6,d⟩:=qQ d
       try simp only[go_sem] at hw6
       refine rF w6 ?_ (hp:=by exact(qP hv6)) (h:=by simp only[go_sem,hw6];rfl);refine qO ?_;obtain⟨aX,hv7,hw7,d⟩:=qQ d
       try simp only[go_sem] at hw7
       refine q8 w6 ?_ (hp:=by exact⟨id,id,id,sU,pS,pS,pS,pS,pS,(qP hv7)⟩) (h:=by simp only[go_sem,hw7];rfl)
       refine q8 w6 ?_;obtain⟨aY,hv8,hw8,d⟩:=qQ d
       try simp only[go_sem] at hw8
       refine q8 w6 ?_ (hp:=by exact⟨pS,pS,pS,pS,pS,(qP hv8)⟩) (h:=by simp only[go_sem,hw8];rfl)
       refine q8 w6 ?_;refine qV d (fun d hc7=> ?_) (fun d hc7=> ?_)
       .refine rF w6 ?_;refine rT (rT ?_);cases d;exact tC ⟨⟨[0,1,5],[(0,0),(1,1),(2,2),(3,3),(4,4),(5,5),(6,6)]⟩,_,by rfl,f⟩
       .refine rF w6 ?_;refine rT (rT ?_);cases d;exact tC ⟨⟨[0,1,5],[(0,0),(1,1),(2,2),(3,3),(4,4),(5,5),(6,6)]⟩,_,by rfl,f⟩
      rw[aRk hva6] at d;obtain⟨aZ,hv9,hw9,d⟩:=qQ d
      try simp only[go_sem] at hw9
      refine rF aMh ?_ (hp:=by exact(qP hv9)) (h:=by simp only[go_sem,hw9];rfl);refine qO ?_;obtain⟨bA,hv10,hw10,d⟩:=qQ d
      try simp only[go_sem] at hw10
      refine q8 w6 ?_ (hp:=by exact⟨id,id,id,sU,pS,pS,pS,pS,pS,(qP hv10)⟩) (h:=by simp only[go_sem,hw10];rfl)
      refine q8 w6 ?_;obtain⟨bB,hv11,hw11,d⟩:=qQ d
      try simp only[go_sem] at hw11
      refine q8 w6 ?_ (hp:=by exact⟨pS,pS,pS,pS,pS,(qP hv11)⟩) (h:=by simp only[go_sem,hw11];rfl)
      refine q8 w6 ?_;refine qV d (fun d hc8=> ?_) (fun d hc8=> ?_)
      .refine rF w6 ?_;refine rT (rT ?_);cases d;exact tC ⟨⟨[0,1,5],[(0,0),(1,1),(2,2),(3,3),(4,4),(5,5),(6,6)]⟩,_,by rfl,f⟩
      .refine rF w6 ?_;refine rT (rT ?_);cases d;exact tC ⟨⟨[0,1,5],[(0,0),(1,1),(2,2),(3,3),(4,4),(5,5),(6,6)]⟩,_,by rfl,f⟩
     .obtain⟨bC,hv12,hw12,d⟩:=qQ d
      try simp only[go_sem] at hw12
      refine rF w6 ?_ (hp:=by exact⟨pS,pS,pS,pS,pS,(qP hv12)⟩) (h:=by simp only[go_sem,hw12];rfl)
      refine rT (rT ?_);cases d;exact tC ⟨⟨[0,1,5],[(0,0),(1,1),(2,2),(3,3),(4,4),(5,5),(6,6)]⟩,_,by rfl,f⟩
attribute [irreducible] z6
end
end Go.Proofs.YtkpflnijijccpaaGreatDoor
namespace Go.Proofs.YtkpflnijijccpaaGreatDoor.Vc
open Go.RowKit
def X8 (i0 j0:Nat) (ops:Array Oper) (bs:pP) (nb i:Nat) (o:Oper) (e:qJ):List Oper->List qJ->Nat->Bool
 |p::ps,f::fs,j=>((bs.getD j 0).testBit i||(o.apart ops p&&(A5 e f||(decide (i=i0)&&decide (j=j0)))&&DW (nb+32*i) f.upd))&&X8 i0 j0 ops bs nb i o e ps fs (j+1)
 |_,_,_=>true
def X9 (i0 j0:Nat) (ops:Array Oper) (bs:pP) (nb:Nat):List Oper->List qJ->Nat->Bool
 |o::os,e::es,i=>X8 i0 j0 ops bs nb i o e os es (i+1)&&X9 i0 j0 ops bs nb os es (i+1)
 |_,_,_=>true
def S8 (i0 j0:Nat) (ops:Array Oper) (nb:Nat) (es:List qJ):Bool:=PH ops.toList 0&&X9 i0 j0 ops (Region.before ops).toList nb ops.toList es 0
theorem aFj {i0 j0:Nat}{ops:Array Oper}{bs:pP}{nb i:Nat}{o:Oper}{e:qJ}: ∀{ps:List Oper}{fs:List qJ}{j:Nat},X8 i0 j0 ops bs nb i o e ps fs j=true->∀k p f,ps[k]? =some p->fs[k]? =some f->
  (bs.getD (j+k) 0).testBit i=true\/(o.apart ops p=true/\(A5 e f=true\/(i=i0/\j+k=j0))/\DW (nb+32*i) f.upd=true)
 |p::ps,f::fs,j,h,k,p',f',hp,hf=>by
  simp only[X8,aRw,aSl,aRG] at h;cases k with
  |zero=>
   simp only[aRM,aRd] at hp hf;subst hp;subst hf;exact h.1.imp id (fun h=>⟨h.1.1,h.1.2,h.2⟩)
  |succ k=>
   simp only[aRY] at hp hf;have:=aFj h.2 k p' f' hp hf;rw[show j+(k+1)=j+1+k by omega];exact this
 |[],_,_,_,_,_,_,hp,_=>by simp at hp
 |_::_,[],_,_,_,_,_,_,hf=>by simp at hf
theorem a7H {i0 j0:Nat}{ops:Array Oper}{bs:pP}{nb:Nat}: ∀{os:List Oper}{es:List qJ}{m:Nat},X9 i0 j0 ops bs nb os es m=true->∀i j o e p f,i<j->os[i]? =some o->es[i]? =some e->os[j]? =some p->es[j]? =some f->
  (bs.getD (m+j) 0).testBit (m+i)=true\/(o.apart ops p=true/\(A5 e f=true\/(m+i=i0/\m+j=j0))/\DW (nb+32*(m+i)) f.upd=true)
 |o'::os,e'::es,m,h,i,j,o,e,p,f,hij,ho,he,hp,hf=>by
  simp only[X9,aRw] at h;obtain⟨j,rfl⟩: ∃k,j=k+1:=⟨j-1,pF⟩;simp only[aRY] at hp hf;cases i with
  |zero=>
   simp only[aRM,aRd] at ho he;subst ho;subst he;have:=aFj h.1 j p f hp hf;rw[show m+(j+1)=m+1+j by omega];exact this
  |succ i=>
   simp only[aRY] at ho he;have:=a7H h.2 i j o e p f pF ho he hp hf;rw[show m+(j+1)=m+1+j by omega,show m+(i+1)=m+1+i by omega];exact this
 |[],_,_,_,_,_,_,_,_,_,_,ho,_,_,_=>by simp at ho
 |_::_,[],_,_,_,_,_,_,_,_,_,_,he,_,_=>by simp at he
theorem a7I {rds:pP}{id:Nat}(h:CB id rds=false): ∀{u:List (Nat×q9)},qD (I8 rds u) id=qD u id
 |[]=>rfl
 |(k,b)::u=>by
  simp only[I8,qD];by_cases hk:k=id
  .subst hk;rw[aRk (by rw[h];simp)];simp [qD]
  .split
   .exact a7I h
   .simp only[qD,aRk hk];exact a7I h
theorem aMi {e:qJ}{id:Nat}(h:CB id e.rds=false):qD (wJ e) id=qD e.upd id:=a7I h
theorem aFk {T:sK}{Γ:tW}{ops:List Oper}: ∀{k:Nat}{l:List Oper}{x y:vH},uS T Γ ops l (some x)=some y->∃a,uS T Γ ops (l.take k) (some x)=some a/\uS T Γ ops (l.drop k) (some a)=some y
 |0,l,x,y,h=>⟨x,rfl,h⟩
 |k+1,[],x,y,h=>⟨x,rfl,h⟩
 |k+1,o::l,x,y,h=>by
  simp only[List.take_succ_cons,aTl,uS] at h|-;cases hz:UN o x (yH T Γ ops o x.s) with
  |none=>
   rw[hz] at h;cases l with
   |nil=>cases h
   |cons p l=>cases h
  |some z=>rw[hz] at h;exact aFk h
theorem a7J {α:Type}{p:Nat->Bool}{wr wr':Nat->Option α}{b:α}: ∀{n:Nat},(∀j,j<n->wr j=wr' j)->uO p wr b n=uO p wr' b n
 |0,_=>rfl
 |n+1,h=>by
  simp only[uO];rw[h n pF,a7J (wr:=wr) (wr':=wr') (fun j hj=>h j pF)]
theorem aMj {T:sK}{Γ:tW}{ops:Array Oper}{es:List qJ}{s:St}{y a1:vH}{i0:Nat}{o1:Oper}{ex fx:qJ}(run:VR T Γ ops.toList ops.toList es s y) (hs: ∀p∈y.side,p) (ho1:ops.toList[i0]? =some o1) (ha1:uS T Γ ops.toList (ops.toList.take i0) (some ⟨s,[],[]⟩)=some a1)
  (hes:y.es.reverse=es) (h:uS T Γ ops.toList ops.toList (some ⟨s,[],[]⟩)=some y) (hx1:yH T Γ ops.toList o1 ⟨a1.s.env,qT (wJ fx) a1.s.H,a1.s.nb,a1.s.N,a1.s.np⟩=some ex):
  ∀sk oi,ops.toList[i0]? =some oi->a04 T Γ ops.toList ops.toList es s y i0 oi ex sk->yH T Γ ops.toList oi ⟨sk.env,qT (wJ fx) sk.H,sk.nb,sk.N,sk.np⟩=some ex:=by
 intro sk oi hoi st;rw[ho1] at hoi;cases hoi;obtain⟨a2,h1,h2⟩:=aFk (k:=i0) h;rw[ha1] at h1;cases h1;have hi0:i0<ops.toList.length:=(aRs.1 ho1).1;have hlt:(ops.toList.take i0).length=i0:=by rw[aRD];omega
 obtain⟨es2,e2,r2⟩:=Q8 h2 hs;obtain⟨es1,e1,r1⟩:=Q8 ha1 (fun p hp=>hs p ((E6 h2).1 p hp));have he:es=es1++es2:=by rw[<-hes,e2,e1];simp
 have hl1:es1.length=i0:=by rw[r1.len,hlt]
 have hsd:=E6 ha1;refine VP hx1 (fun t _=> ?_) (fun id _=> ?_) ?_ ?_
 .show lk sk.env t=lk a1.s.env t;rw[st.env t,r1.env t,hlt];refine a7J (fun j hj=> ?_);unfold xS;rw[he,aRz pF,aSj hj]
 .show qD (qT (wJ fx) sk.H) id=qD (qT (wJ fx) a1.s.H) id;rw[KJ,KJ,st.heap id,r1.heap id,hlt];have:uO (fun _=>true) (vZ es id) (qD s.H id) i0=uO (fun _=>true) (vZ es1 id) (qD s.H id) i0:=a7J (fun j hj=>by
   unfold vZ;rw[he,aRz pF])
  rw[this]
 .show sk.nb=a1.s.nb;rw[st.nb,r1.nb,hlt]
 .show sk.np=a1.s.np;rw[st.np,hsd.2.2]
section
variable {B:Nat}{P:Program}{T:sK}{Γ:tW}(hT:xH P T) (hΓ:D6 P Γ) {A:Nat->Nat->Prop}{L:List q9}{g0:Gh}{w0:pQ}{Q:Exit->Act->pQ->Prop}
include hT hΓ
theorem aMk {i0 j0:Nat}{ex fx:qJ}{ro:pO}{ops:Array Oper}{es:List qJ}{s:St}{y:vH}(run:VR T Γ ops.toList ops.toList es s y) (hs: ∀p∈y.side,p) (hchk:S8 i0 j0 ops s.nb es=true) (hij0:i0<j0) (hex:es[i0]? =some ex) (hup:ex.upd=[]) (hfx:es[j0]? =some fx) (hxe: ∀sk oi,ops.toList[i0]? =some oi->a04 T Γ ops.toList ops.toList es s y i0 oi ex sk->yH T Γ ops.toList oi ⟨sk.env,qT (wJ fx) sk.H,sk.nb,sk.N,sk.np⟩=some ex)
  (hQ: ∀g a w env H,AB g w env a.tmps->(∀t,lk env t=lk y.s.env t)->sE g w H->(∀id,qD H id=qD y.s.H id)->a.tmps.size=s.N->y9 B w a.defers->tH A L g0 w0 g w H->(∀id,s.nb+32*ops.size<=id->g.J id=none/\∀n,g.cur id n=none)->Q .normal a w):
  ∀(fuel:Nat) (listed:Array Bool) (g:Gh) (w:pQ) (a:Act) (env:List (Nat×qB)) (H:s7),AU listed ops.size<=fuel->VV B A L g0 w0 ops es s listed g w a env H->wpAnyIn (CG ro) 0 P .any ops Q fuel listed a w:=by
 simp only[S8,aRw] at hchk;obtain⟨haf,hfr⟩:=hchk;have hsz:ops.toList.length=ops.size:=aRQ;have done: ∀(listed:Array Bool) (g:Gh) (w:pQ) (a:Act) (env:List (Nat×qB)) (H:s7),VV B A L g0 w0 ops es s listed g w a env H->(∀j,j<ops.size->listed.getD j false=true)->Q .normal a w:=by
  intro listed g w a env H m hall;refine hQ g a w env H m.eok (fun t=> ?_) m.heap (fun id=> ?_) m.tmps m.def_ m.good m.top
  .rw[m.look t,run.env t,hsz];exact FD (fun j hj _=>hall j hj)
  .rw[m.get id,run.heap id,hsz];exact FD (fun j hj _=>hall j hj)
 have stuck: ∀(listed:Array Bool),listed.size=ops.size->Region.ready .any ops listed=[]->∀j,j<ops.size->listed.getD j false=true:=by
  intro listed hls hr j hj;cases hp:listed.getD j false with
  |true=>rfl
  |false=>
   obtain⟨k,h1,h2,h3⟩:=a1a (p:=fun j=>listed.getD j false) ⟨j,hj,hp⟩;have:k∈Region.ready .any ops listed:=by
    rw[mem_ready];refine⟨?_,ops[k],by simp [h1],fun e he hb=> ?_⟩
    .have h2:listed.getD k false=false:=h2;rw[aRJ] at h2|-;rw[aSy pF] at h2|-;exact h2
    .have:=a06 haf k ops[k] (by simp [h1]) e he hb;exact h3 e.on pF
   rw[hr] at this;cases this
 intro fuel
 induction fuel with
 |zero=>
  intro listed g w a env H hu m;have hall:=a08 (l:=listed) (n:=ops.size) pF;refine⟨?_,done listed g w a env H m hall⟩;cases hr:Region.ready .any ops listed with
  |nil=>rfl
  |cons i r=>
   have:i∈Region.ready .any ops listed:=by rw[hr];simp
   obtain⟨h0,o,ho,_⟩:=mem_ready.1 this;have hi:i<ops.size:=(aRC.1 ho).1;have:=hall i hi;rw[aRJ] at this h0;rw[aSy (by rw[m.size];exact hi)] at this h0;simp at this h0;rw[this] at h0;cases h0
 |succ fuel ih=>
  intro listed g w a env H hu m;refine⟨fun hr=>done listed g w a env H m (stuck listed m.size hr),fun i hi=> ?_⟩;obtain⟨h0,o,ho,hall⟩:=mem_ready.1 hi;have hin:i<ops.size:=(aRC.1 ho).1;have hil:i<listed.size:=by rw[m.size];exact hin
  have hpi:listed.getD i false=false:=by
   rw[aRJ] at h0|-;rw[aSy hil] at h0|-;exact h0
  have hoL:ops.toList[i]? =some o:=by simpa using ho
  obtain⟨e,he⟩: ∃e,es[i]? =some e:=⟨es[i]'(by rw[run.len,hsz];exact hin),by simp⟩;obtain⟨sk,st⟩:=run.step i o e hoL he;have hcl':VT ops.toList (fun j=>(listed.setIfInBounds i true).getD j false):=by
   intro j o' ho' hj ed hed hb;simp only[AV hil] at hj|-;by_cases hji:j=i
   .subst hji;rw[hoL] at ho';obtain rfl:=aRi ho';have:=hall ed hed hb;split
    .rfl
    .exact this
   .rw[aRk hji] at hj;have:=m.closed j o' ho' hj ed hed hb;split
    .rfl
    .exact this
  have hbef: ∀j,((Region.before ops).toList.getD i 0).testBit j=true->j≠i->listed.getD j false=true:=by
   intro j hj hne;have:=VU hcl' hj (by simp only[AV hil];simp);simp only[AV hil,aRk hne] at this;exact this
  have haft: ∀j,((Region.before ops).toList.getD j 0).testBit i=true->listed.getD j false=true->False:=by
   intro j hj hl;have:=VU m.closed hj hl;rw[hpi] at this;cases this
  have pairLt: ∀j p f,j<i->ops.toList[j]? =some p->es[j]? =some f->listed.getD j false=true\/(p.apart ops o=true/\(A5 f e=true\/(j=i0/\i=j0))/\DW (s.nb+32*j) e.upd=true):=by
   intro j p f hji hp hf;rcases a7H hfr j i p f o e hji hp hf hoL he with h1|h1
   .rw[aRP,aRP] at h1;exact .inl (hbef j h1 pF)
   .rw[aRP,aRP] at h1;exact .inr h1
  have pairGt: ∀j p f,i<j->ops.toList[j]? =some p->es[j]? =some f->listed.getD j false=true->o.apart ops p=true/\(A5 e f=true\/(i=i0/\j=j0)):=by
   intro j p f hij hp hf hl;rcases a7H hfr i j o e p f hij hoL he hp hf with h1|h1
   .rw[aRP,aRP] at h1;exact(haft j h1 hl).elim
   .rw[aRP,aRP] at h1;exact⟨h1.1,h1.2.1⟩
  have same: ∀{α:Type}(wr:Nat->Option α) (b:α),(∀j p f,j<i->ops.toList[j]? =some p->es[j]? =some f->wr j≠none->p.apart ops o=true->(A5 f e=true\/(j=i0/\i=j0))->False)->
    (∀j p f,i<j->ops.toList[j]? =some p->es[j]? =some f->wr j≠none->listed.getD j false=true->o.apart ops p=true->(A5 e f=true\/(i=i0/\j=j0))->False)->(∀j,wr j≠none->∃f,es[j]? =some f)->
    uO (fun j=>listed.getD j false) wr b ops.size=uO (fun _=>true) wr b i:=by
   intro α wr b hlt hgt hex;rw[<-VQ (n:=ops.size) pF];refine FD (fun j hj hw=> ?_);obtain⟨f,hf⟩:=hex j hw;have hpj:ops.toList[j]? =some ops[j]:=by simp [hj]
   rcases Nat.lt_trichotomy j i with h1|h1|h1
   .rw[aRF h1];rcases pairLt j _ f h1 hpj hf with h2|h2
    .exact h2
    .exact(hlt j _ f h1 hpj hf hw h2.1 h2.2.1).elim
   .subst h1;simp [hpi]
   .have: ¬j<i:=by omega
    rw[decide_eq_false this];cases hl:listed.getD j false with
    |false=>rfl
    |true=>
     obtain⟨h2,h3⟩:=pairGt j _ f h1 hpj hf hl;exact(hgt j _ f h1 hpj hf hw hl h2 h3).elim
  have exS: ∀t j,xS ops.toList es t j≠none->∃f,es[j]? =some f:=by
   intro t j h;unfold xS at h;cases hf:es[j]? with
   |none=>rw[hf] at h;exact absurd (by split<;>first|rfl|(rename_i h1;cases h1)) h
   |some f=>exact⟨f,rfl⟩
  have exH: ∀t j,vZ es t j≠none->∃f,es[j]? =some f:=by
   intro t j h;unfold vZ at h;cases hf:es[j]? with
   |none=>rw[hf] at h;exact absurd rfl h
   |some f=>exact⟨f,rfl⟩
  have dS: ∀t j p f,ops.toList[j]? =some p->es[j]? =some f->xS ops.toList es t j≠none->p.dst=some t:=by
   intro t j p f hp hf h;unfold xS at h;rw[hp,hf] at h;simp only at h;split at h
   .assumption
   .exact absurd rfl h
  have dH: ∀id j f,es[j]? =some f->vZ es id j≠none->id∈qE (wJ f):=by
   intro id j f hf h;unfold vZ at h;rw[hf] at h;simp only at h;split at h
   .assumption
   .exact absurd rfl h
  have wex: ∀id,id∉qE (wJ ex):=fun id h=>by
   have:=(II.1 h).1;rw[hup] at this;cases this
  have noW: ∀id j f,es[j]? =some f->vZ es id j≠none->j=i0->False:=fun id j f hf hw hj=>by
   subst hj;rw[hex] at hf;cases hf;exact wex id (dH id j _ hex hw)
  have hrds: ∀id∈e.rds,¬(i=i0/\listed.getD j0 false=true)->qD H id=qD sk.H id:=fun id hid hX=>by
   rw[m.get id,st.heap id];refine same _ _ (fun j p f _ hp hf hw _ ha=> ?_) (fun j p f _ hp hf hw hl _ ha=> ?_) (exH id)
   .rcases ha with ha|ha
    .exact((GK ha).1 id (dH id j f hf hw)).1 hid
    .exact noW id j f hf hw ha.1
   .rcases ha with ha|ha
    .exact(GK ha).2 id (dH id j f hf hw) hid
    .exact hX ⟨ha.1,ha.2▸hl⟩
  have htmp: ∀t∈o.looksAt ops,lk env t=lk sk.env t:=fun t ht=>by
   rw[m.look t,st.env t];refine same _ _ (fun j p f _ hp hf hw ha _=> ?_) (fun j p f _ hp hf hw _ ha _=> ?_) (exS t)
   .exact(Oper.apart_spec ha).1 t (dS t j p f hp hf hw) ht
   .exact(Oper.apart_spec ha).2.2 t (dS t j p f hp hf hw) ht
  have hNs: ∀(s':St) (N':Nat),yH T Γ ops.toList o ⟨s'.env,s'.H,s'.nb,N',s'.np⟩=yH T Γ ops.toList o s':=fun _ _=>rfl;have hev:yH T Γ ops.toList o ⟨env,H,s.nb+32*i,s.N,s.np⟩=some e:=by
   by_cases hX:i=i0/\listed.getD j0 false=true
   .obtain⟨h1,hl0⟩:=hX;subst h1;rw[he] at hex;cases hex;refine VP (hxe sk o hoL st) (fun t ht=>htmp t ht) (fun id hid=> ?_) st.nb.symm st.np.symm;show qD H id=qD (qT (wJ fx) sk.H) id;have hj0:j0<ops.size:=by
     have:=(aRs.1 hfx).1;rw[run.len,hsz] at this;exact this
    rw[m.get id,N3 (p:=fun j=>listed.getD j false&& !decide (j=j0)) (i:=j0) pH (fun j=>by
     by_cases h:j=j0
     .subst h;rw[aRf rfl];exact hl0
     .rw[aRk h];simp [h]) hj0 (fun j h1 h2 h3=> ?_)]
    .have hrest:uO (fun j=>listed.getD j false&& !decide (j=j0)) (vZ es id) (qD s.H id) ops.size=qD sk.H id:=by
      rw[st.heap id,<-VQ (n:=ops.size) pF];refine FD (fun j hj hw=> ?_);obtain⟨f,hf⟩:=exH id j hw;have hpj:ops.toList[j]? =some ops[j]:=by simp [hj]
      rcases Nat.lt_trichotomy j i with h1|h1|h1
      .rw[aRF h1];rcases pairLt j _ f h1 hpj hf with h2|h2
       .rw[h2,decide_eq_false pF];rfl
       .rcases h2.2.1 with h2|h2
        .exact(((GK h2).1 id (dH id j f hf hw)).1 hid).elim
        .omega
      .exact(noW id j f hf hw h1).elim
      .have h9: ¬j<i:=by omega
       rw[decide_eq_false h9];cases hl:listed.getD j false with
       |false=>rfl
       |true=>
        obtain⟨_,h3⟩:=pairGt j _ f h1 hpj hf hl;rcases h3 with h3|h3
        .exact((GK h3).2 id (dH id j f hf hw) hid).elim
        .rw[aRF h3.2];rfl
     rw[hrest,KJ];unfold vZ;rw[hfx];simp only;by_cases h7:id∈qE (wJ fx)
     .rw[aRf h7,aRf h7,aMi (II.1 h7).2];rfl
     .rw[aRk h7,aRk h7];rfl
    .left;have hl:listed.getD j false=true:=by
      cases h:listed.getD j false with
      |true=>rfl
      |false=>rw[h] at h3;cases h3
     cases hw:vZ es id j with
     |none=>rfl
     |some v=>
      obtain⟨f,hf⟩:=exH id j (by rw[hw];simp);have hpj:ops.toList[j]? =some ops[j]:=by simp [h2]
      obtain⟨_,h4⟩:=pairGt j _ f pF hpj hf hl;rcases h4 with h4|h4
      .exact((GK h4).2 id (dH id j f hf (by rw[hw];simp)) hid).elim
      .omega
   .exact VP st.ev (fun t ht=>htmp t ht) (fun id hid=>hrds id hid hX) st.nb.symm st.np.symm
  have hXu: ∀id,id∈qE e.upd->¬(i=i0/\listed.getD j0 false=true):=fun id hid hX=>by
   obtain⟨h1,_⟩:=hX;subst h1;rw[he] at hex;cases hex;rw[hup] at hid;cases hid
  have hfresh:yX g (s.nb+32*i) e:=fun id hid hle=>m.free i hin hpi id hle (IH st.ids hid);have key:=a0O hT hΓ (ops:=ops.toList) (o:=o) (a:=a) (s:=⟨env,H,s.nb+32*i,s.N,s.np⟩) (K:=wpAnyIn (CG ro) 0 P .any ops Q fuel (listed.setIfInBounds i true)) (Q:=Q) m.eok m.heap hev (fun p hp=>hs p (st.side p hp)) hfresh (fun g' w' v k=>by
   refine ih (listed.setIfInBounds i true) g' w' (a.put o.dst v) (tN o.dst e.slot env) (qT e.upd H) ?_ ⟨by rw[Array.size_setIfInBounds];exact m.size,hcl',VO m.eok k.le k.slot m.tmps st.dst,fun t=> ?_,k.heap,fun id=> ?_,(a0S _ _ _).trans m.tmps,by rw[a0T];exact m.def_.eff m.heap k,m.good.eff k (m.len▸(N2 hev).2),m.len,fun j hj hjp id h1 h2=> ?_,fun id hid=> ?_⟩
   .have:=a09 hil hpi hin;omega
   .rw[a03,N3 (p:=fun j=>listed.getD j false) (i:=i) hpi (fun j=>by simp only[AV hil]) hin (fun j hij hj hl=> ?_),<-m.look t]
    .unfold xS;rw[hoL,he];simp only;split<;>rfl
    .have hpj:ops.toList[j]? =some ops[j]:=by simp [hj]
     obtain⟨f,hf⟩: ∃f,es[j]? =some f:=⟨es[j]'(by rw[run.len,hsz];exact hj),by simp⟩;obtain⟨h3,_⟩:=pairGt j _ f hij hpj hf hl;by_cases hw:xS ops.toList es t j=none
     .exact .inl hw
     .right;have hd:=dS t j _ f hpj hf hw;by_cases hwi:xS ops.toList es t i=none
      .exact hwi
      .have hdi:=dS t i _ e hoL he hwi;exact absurd hd ((Oper.apart_spec h3).2.1 t hdi)
   .rw[KJ,N3 (p:=fun j=>listed.getD j false) (i:=i) hpi (fun j=>by simp only[AV hil]) hin (fun j hij hj hl=> ?_),<-m.get id]
    .unfold vZ;rw[he];simp only;by_cases h7:id∈qE (wJ e)
     .rw[aRf h7,aRf (II.1 h7).1];rfl
     .rw[aRk h7];by_cases h8:id∈qE e.upd
      .obtain⟨q1,q2⟩:=st.same id h8 h7;rw[aRf h8,q1,<-hrds id q2 (hXu id h8)];rfl
      .rw[aRk h8];rfl
    .have hpj:ops.toList[j]? =some ops[j]:=by simp [hj]
     obtain⟨f,hf⟩: ∃f,es[j]? =some f:=⟨es[j]'(by rw[run.len,hsz];exact hj),by simp⟩;obtain⟨_,h3⟩:=pairGt j _ f hij hpj hf hl;by_cases hw:vZ es id j=none
     .exact .inl hw
     .right;have hd:=dH id j f hf hw;by_cases hwi:vZ es id i=none
      .exact hwi
      .have hdi:=dH id i e he hwi;rcases h3 with h3|h3
       .exact absurd (II.1 hd).1 ((GK h3).1 id hdi).2
       .exact(noW id i e he hwi h3.1).elim
   .rw[AV hil] at hjp;have hji:j≠i:=fun h=>by rw[aRf h] at hjp;cases hjp
    rw[aRk hji] at hjp;have hnot:id∉qE e.upd:=by
     intro hm;have hlt:=IH st.ids hm;rcases Nat.lt_or_gt_of_ne hji with h3|h3
     .obtain⟨f,hf⟩: ∃f,es[j]? =some f:=⟨es[j]'(by rw[run.len,hsz];exact hj),by simp⟩;rcases pairLt j ops[j] f h3 (by simp [hj]) hf with h4|h4
      .rw[hjp] at h4;cases h4
      .have:=a07 h4.2.2 id hm;omega
     .omega
    have hg:=k.gho id hnot;have hb:=m.free j hj hjp id h1 h2;exact⟨hg.1.trans hb.1,fun n=>by rw[hg.2];exact hb.2 n⟩
   .have hnot:id∉qE e.upd:=fun hm=>by have:=IH st.ids hm;omega
    have hg:=k.gho id hnot;have hb:=m.top id hid;exact⟨hg.1.trans hb.1,fun n=>by rw[hg.2];exact hb.2 n⟩)
  unfold wpOpIn;rw[ho];simp only[aSE] at key|-;split at key
  .rename_i hw;rw[aRf hw];exact a0X (a0W hev) key
  .rename_i hw;rw[aRk hw];exact⟨fun _ _=>trivial,key⟩
theorem aMl {i0 j0:Nat}{ex fx:qJ}{ro:pO}(hm:P.follows .mixedOrders=true) {id:Nat}{ops:Array Oper}{s:St}{y:vH}{a:Act}{w:pQ}{g:Gh}(h:uS T Γ ops.toList ops.toList (some ⟨s,[],[]⟩)=some y) (hchk:S8 i0 j0 ops s.nb y.es.reverse=true) (hij0:i0<j0) (hex:y.es.reverse[i0]? =some ex) (hup:ex.upd=[]) (hfx:y.es.reverse[j0]? =some fx) {a1:vH}{o1:Oper}(ho1:ops.toList[i0]? =some o1) (ha1:uS T Γ ops.toList (ops.toList.take i0) (some ⟨s,[],[]⟩)=some a1) (hx1:yH T Γ ops.toList o1 ⟨a1.s.env,qT (wJ fx) a1.s.H,a1.s.nb,a1.s.N,a1.s.np⟩=some ex) (hs: ∀p∈y.side,p) (hr:v8 B g w s a) (hg:tH A L g0 w0 g w s.H) (hn:L.length=s.np)
  (hQ: ∀g' a' w',v8 B g' w' y.s a'->tH A L g0 w0 g' w' y.s.H->Q .normal a' w'):(Code.region id ops true).wpIn (CG ro) 0 P Q a w:=by
 obtain⟨es,h1,run⟩:=Q8 h hs;have hes:y.es.reverse=es:=by rw[h1];simp
 simp only at run;rw[hes] at hchk hex hfx;have hsd:=E6 h;have hrep: ∀j,(Array.replicate ops.size false).getD j false=false:=by
  intro j;rw[aRJ,Array.getElem?_replicate];split<;>rfl
 have none: ∀{α:Type}(wr:Nat->Option α) (b:α) n,uO (fun j=>(Array.replicate ops.size false).getD j false) wr b n=b:=by
  intro α wr b n
  induction n with
  |zero=>rfl
  |succ n ih=>simp only[uO];rw[aRk (by rw[hrep];simp)];exact ih
 have hsz:ops.toList.length=ops.size:=aRQ;refine wpIn_region_any hm (aMk hT hΓ run hs hchk hij0 hex hup hfx (aMj run hs ho1 ha1 hes h hx1) (fun g' a' w' env H he hl hh hgt hz hd hgd htop=> ?_) _ _ g _ a s.env s.H ?_ ⟨by simp,fun j o ho hj=> ?_,fun t=>BC (a1b g w _) (hr.env t),fun t=> ?_,hr.heap.drawn _,fun id=> ?_,hr.size,hr.def_.same (fun _ h=>h),hg.drawn _,hn,fun j _ _ id h1 _=>hr.nb id pF,fun id h1=>hr.nb id pF⟩)
 .refine hQ g' a' w' ⟨fun t=>by rw[<-hl t];exact he t,hh.ext (fun i=>(hgt i).symm),by rw[hsd.2.1];exact hz,fun i hi=>htop i ?_,hd,?_⟩ (hgd.ext (fun i=>(hgt i).symm))
  .rw[run.nb,hsz] at hi;exact hi
  .rw[hsd.2.2,run.nb];exact aSe hr.np (Nat.le_add_right _ _)
 .have: ∀n (l:Array Bool),AU l n<=n:=by
   intro n l
   induction n with
   |zero=>exact aRE _
   |succ n ih=>simp only[AU];split<;>omega
  exact this _ _
 .simp only[hrep] at hj;cases hj
 .rw[none]
 .exact(none _ _ _).symm
end
section
variable {R:Bool}{P:Program}{T:sK}{Γ:tW}(E:rI P T Γ) {s:St}{Q:Ex->St->Prop}
include E
theorem aMm (i0 j0:Nat) {id:Nat}{ops:Array Oper}{a a1:vH}{o1:Oper}{ex fx:qJ}(h:uS T Γ ops.toList ops.toList (some ⟨s,[],[]⟩)=some a) (hf:S8 i0 j0 ops s.nb a.es.reverse=true) (hp:r7 a.side) (hij0:i0<j0) (hex:a.es.reverse[i0]? =some ex) (hup:ex.upd=[]) (hfx:a.es.reverse[j0]? =some fx) (ho1:ops.toList[i0]? =some o1) (ha1:uS T Γ ops.toList (ops.toList.take i0) (some ⟨s,[],[]⟩)=some a1) (hx1:yH T Γ ops.toList o1 ⟨a1.s.env,qT (wJ fx) a1.s.H,a1.s.nb,a1.s.N,a1.s.np⟩=some ex) (hq:Q .normal a.s):Ev R P (.region id ops true) s Q:=
 fun ro hro A L g0 w0 g w' w B hB hr hg hn=>aMl E.T E.Γ E.m h hf hij0 hex hup hfx ho1 ha1 hx1 (VW hp) hr hg hn.symm (fun g' a' w' hr' hg'=>⟨.normal,g',a.s,rfl,hq,hr',hg',(E6 h).2.2.trans hn⟩)
theorem XA (i0 j0:Nat) {id:Nat}{ops:Array Oper}{a a1:vH}{o1:Oper}{ex fx:qJ}{y:Code}(hq:Ev R P y a.s Q) (h:uS T Γ ops.toList ops.toList (some ⟨s,[],[]⟩)=some a:=by simp only[go_sem];rfl) (hp:r7 a.side:=by exact trivial) (hf:S8 i0 j0 ops s.nb a.es.reverse=true:=by kernel_rfl) (hij0:i0<j0:=by decide) (hex:a.es.reverse[i0]? =some ex:=by rfl) (hup:ex.upd=[]:=by rfl) (hfx:a.es.reverse[j0]? =some fx:=by rfl) (ho1:ops.toList[i0]? =some o1:=by rfl) (ha1:uS T Γ ops.toList (ops.toList.take i0) (some ⟨s,[],[]⟩)=some a1:=by simp only[go_sem,List.take_succ_cons,List.take_zero];rfl) (hx1:yH T Γ ops.toList o1 ⟨a1.s.env,qT (wJ fx) a1.s.H,a1.s.nb,a1.s.N,a1.s.np⟩=some ex:=by simp only[go_sem];rfl):Ev R P (.seq (.region id ops true) y) s Q:=
 qS (aMm E i0 j0 h hf hp hij0 hex hup hfx ho1 ha1 hx1 hq)
end
end Go.Proofs.YtkpflnijijccpaaGreatDoor.Vc
namespace Go.Proofs.YtkpflnijijccpaaGreatDoor
open Vc
noncomputable section
def S9 (O:(Int×pC×(List r6)×Bool)):(Bool×Int)→Option ((Bool×Int)⊕Bool):=fun(Z,aA)=>if (decide (aA<(O.2.2.1.length:Int)))=true then if 0≤aA∧aA<(O.2.2.1.length:Int) then if ((Z==true)=true→((EA ((qU (.pair .str (.pair .str .unit)) O.2.2.1 aA).2.1))).isSome=true) then if qC (aA+(1:Int)) then some (.inl ((Z&&(val (EA ((qU (.pair .str (.pair .str .unit)) O.2.2.1 aA).2.1)))),(aA+(1:Int)))) else none else none else none else some (.inr Z)
def CU (O:sV) (Z:(pL×Unit)) (aA:pJ) (aB:(List (pC×pC))):((List s9)×Int×Int×Int×pC×(List r6)×Bool×pD×(List r6))→Option (((List s9)×Int×Int×Int×pC×(List r6)×Bool×pD×(List r6))⊕(((List s9)×Int×Int)⊕((List s9)×Int×Int×pC×pD×(List r6)×pL))):=fun(aC,aD,aE,aF,aG,aH,aI,aJ,aK)=>if (decide (aE=(0:Int)))=true then (zV aC aD aE ((rV .str .str aB ([116,97,103]:pC)),(O.2.1,(O.2.2.1,(O.2.2.2.1,())))) (Z.1,()) aA).bind fun aL=>(AE aL aD aE ((rV .str .str aB ([116,97,103]:pC)),(O.2.1,(O.2.2.1,(O.2.2.2.1,())))) (Z.1,()) aA).bind fun aM=>if ((decide (aM.2.1=([99,111,109,109,101,110,116]:pC)))&&(!decide (aM.1=(3:Int))))=true then (CS aL aD aE ((rV .str .str aB ([116,97,103]:pC)),(O.2.1,(O.2.2.1,(O.2.2.2.1,())))) (Z.1,()) (aM.1,(aM.2.1,(aM.2.2.1,(aM.2.2.2,())))) (([]:pC),(([]:pC),(([]:pC),(aJ,(([]:pD),((0:Int),(aK,()))))))) aA).bind fun aN=>some (.inl (aN.1,aN.2.1,aN.2.2.1,aM.1,aM.2.1,aM.2.2.1,aM.2.2.2,aN.2.2.2,aK)) else if ((decide (aM.2.1=([102,105,101,108,100]:pC)))&&(!decide (aM.1=(3:Int))))=true then (CT aL aD aE ((rV .str .str aB ([116,97,103]:pC)),(O.2.1,(O.2.2.1,(O.2.2.2.1,())))) (Z.1,()) (aM.1,(aM.2.1,(aM.2.2.1,(aM.2.2.2,())))) (([]:pC),(([]:pC),(([]:pC),(aJ,(([]:pD),((0:Int),(aK,()))))))) aA).bind fun aO=>some (.inl (aO.1,aO.2.1,aO.2.2.1,aM.1,aM.2.1,aM.2.2.1,aM.2.2.2,aJ,aO.2.2.2)) else if ((wF (aM.1,(aM.2.1,(aM.2.2.1,(aM.2.2.2,())))) ([]:pC) ([]:pC))).isSome=true then (wF (aM.1,(aM.2.1,(aM.2.2.1,(aM.2.2.2,())))) ([]:pC) ([]:pC)).bind fun aP=>(xL aL aD aE ((rV .str .str aB ([116,97,103]:pC)),(O.2.1,(O.2.2.1,(O.2.2.2.1,())))) (Z.1,()) ((!decide (aM.1=(1:Int)))||(!decide (aM.2.1=([101,110,116,114,105,101,115]:pC)))) aM.2.2.2 false aA).bind fun aQ=>(xT aL aQ.1 aQ.2 ((rV .str .str aB ([116,97,103]:pC)),(O.2.1,(O.2.2.1,(O.2.2.2.1,())))) (Z.1,()) aA).bind fun aR=>if (Z.1.length+([((qU sM aL (0:Int)).2.2.1+(((qU sM aL (0:Int)).2.1).length:Int))]:pL).length)*8≤140737488355328 then some (.inr (.inr ((aR,aQ.1,aQ.2,(rV .str .str aB ([116,97,103]:pC)),aJ,aK,(Z.1++([((qU sM aL (0:Int)).2.2.1+(((qU sM aL (0:Int)).2.1).length:Int))]:pL)))))) else none else (DE (aM.1,(aM.2.1,(aM.2.2.1,(aM.2.2.2,())))) ([]:pC) ([]:pC)).bind fun aS=>(xL aL aD aE ((rV .str .str aB ([116,97,103]:pC)),(O.2.1,(O.2.2.1,(O.2.2.2.1,())))) (Z.1,()) (((!decide (aM.1=(1:Int)))||(!decide (aM.2.1=([101,110,116,114,105,101,115]:pC))))||true) aM.2.2.2 false aA).bind fun aT=>(xT aL aT.1 aT.2 ((rV .str .str aB ([116,97,103]:pC)),(O.2.1,(O.2.2.1,(O.2.2.2.1,())))) (Z.1,()) aA).bind fun aU=>if (Z.1.length+([((qU sM aL (0:Int)).2.2.1+(((qU sM aL (0:Int)).2.1).length:Int))]:pL).length)*8≤140737488355328 then some (.inr (.inr ((aU,aT.1,aT.2,(rV .str .str aB ([116,97,103]:pC)),aJ,aK,(Z.1++([((qU sM aL (0:Int)).2.2.1+(((qU sM aL (0:Int)).2.1).length:Int))]:pL)))))) else none else some (.inr (.inl (aC,aD,aE)))
def SA (O:(Int×pC×(List r6)×Bool)):(Bool×Int)→Option ((Bool×Int)⊕Bool):=fun(Z,aA)=>if (decide (aA<(O.2.2.1.length:Int)))=true then if 0≤aA∧aA<(O.2.2.1.length:Int) then if ((Z==true)=true→((EA ((qU (.pair .str (.pair .str .unit)) O.2.2.1 aA).2.1))).isSome=true) then if qC (aA+(1:Int)) then some (.inl ((Z&&(val (EA ((qU (.pair .str (.pair .str .unit)) O.2.2.1 aA).2.1)))),(aA+(1:Int)))) else none else none else none else some (.inr Z)
def XB (O:sV) (Z:(pL×Unit)) (aA:pJ):((List s9)×Int×Int×Int×pC×(List r6)×Bool×pD×(List r6))→Option (((List s9)×Int×Int×Int×pC×(List r6)×Bool×pD×(List r6))⊕(((List s9)×Int×Int)⊕((List s9)×Int×Int×pC×pD×(List r6)×pL))):=fun(aB,aC,aD,aE,aF,aG,aH,aI,aJ)=>if (decide (aD=(0:Int)))=true then (zV aB aC aD (([]:pC),(O.2.1,(O.2.2.1,(O.2.2.2.1,())))) (Z.1,()) aA).bind fun aK=>(AE aK aC aD (([]:pC),(O.2.1,(O.2.2.1,(O.2.2.2.1,())))) (Z.1,()) aA).bind fun aL=>if ((decide (aL.2.1=([99,111,109,109,101,110,116]:pC)))&&(!decide (aL.1=(3:Int))))=true then (CS aK aC aD (([]:pC),(O.2.1,(O.2.2.1,(O.2.2.2.1,())))) (Z.1,()) (aL.1,(aL.2.1,(aL.2.2.1,(aL.2.2.2,())))) (([]:pC),(([]:pC),(([]:pC),(aI,(([]:pD),((0:Int),(aJ,()))))))) aA).bind fun aM=>some (.inl (aM.1,aM.2.1,aM.2.2.1,aL.1,aL.2.1,aL.2.2.1,aL.2.2.2,aM.2.2.2,aJ)) else if ((decide (aL.2.1=([102,105,101,108,100]:pC)))&&(!decide (aL.1=(3:Int))))=true then (CT aK aC aD (([]:pC),(O.2.1,(O.2.2.1,(O.2.2.2.1,())))) (Z.1,()) (aL.1,(aL.2.1,(aL.2.2.1,(aL.2.2.2,())))) (([]:pC),(([]:pC),(([]:pC),(aI,(([]:pD),((0:Int),(aJ,()))))))) aA).bind fun aN=>some (.inl (aN.1,aN.2.1,aN.2.2.1,aL.1,aL.2.1,aL.2.2.1,aL.2.2.2,aI,aN.2.2.2)) else if ((wF (aL.1,(aL.2.1,(aL.2.2.1,(aL.2.2.2,())))) ([]:pC) ([]:pC))).isSome=true then (wF (aL.1,(aL.2.1,(aL.2.2.1,(aL.2.2.2,())))) ([]:pC) ([]:pC)).bind fun aO=>(xL aK aC aD (([]:pC),(O.2.1,(O.2.2.1,(O.2.2.2.1,())))) (Z.1,()) ((!decide (aL.1=(1:Int)))||(!decide (aL.2.1=([101,110,116,114,105,101,115]:pC)))) aL.2.2.2 false aA).bind fun aP=>(xT aK aP.1 aP.2 (([]:pC),(O.2.1,(O.2.2.1,(O.2.2.2.1,())))) (Z.1,()) aA).bind fun aQ=>if (Z.1.length+([((qU sM aK (0:Int)).2.2.1+(((qU sM aK (0:Int)).2.1).length:Int))]:pL).length)*8≤140737488355328 then some (.inr (.inr ((aQ,aP.1,aP.2,([]:pC),aI,aJ,(Z.1++([((qU sM aK (0:Int)).2.2.1+(((qU sM aK (0:Int)).2.1).length:Int))]:pL)))))) else none else (DE (aL.1,(aL.2.1,(aL.2.2.1,(aL.2.2.2,())))) ([]:pC) ([]:pC)).bind fun aR=>(xL aK aC aD (([]:pC),(O.2.1,(O.2.2.1,(O.2.2.2.1,())))) (Z.1,()) (((!decide (aL.1=(1:Int)))||(!decide (aL.2.1=([101,110,116,114,105,101,115]:pC))))||true) aL.2.2.2 false aA).bind fun aS=>(xT aK aS.1 aS.2 (([]:pC),(O.2.1,(O.2.2.1,(O.2.2.2.1,())))) (Z.1,()) aA).bind fun aT=>if (Z.1.length+([((qU sM aK (0:Int)).2.2.1+(((qU sM aK (0:Int)).2.1).length:Int))]:pL).length)*8≤140737488355328 then some (.inr (.inr ((aT,aS.1,aS.2,([]:pC),aI,aJ,(Z.1++([((qU sM aK (0:Int)).2.2.1+(((qU sM aK (0:Int)).2.1).length:Int))]:pL)))))) else none else some (.inr (.inl (aB,aC,aD)))
def BQ (O:(List s9)) (Z:Int) (aA:Int) (aB:sV) (aC:(pL×Unit)) (aD:pJ):Option ((List s9)×Int×Int×pC×pD×(List r6)×pL):=(zV O Z aA aB aC aD).bind fun aE=>(AE aE Z aA (aB.1,(aB.2.1,(aB.2.2.1,(aB.2.2.2.1,())))) (aC.1,()) aD).bind fun aF=>if ((wF (aF.1,(aF.2.1,(aF.2.2.1,(aF.2.2.2,())))) ([116,97,103]:pC) ([]:pC))).isSome=true then (wF (aF.1,(aF.2.1,(aF.2.2.1,(aF.2.2.2,())))) ([116,97,103]:pC) ([]:pC)).bind fun aG=>sJ (rU (S9 aF) (true,(0:Int))) fun aH=>(xL aE Z aA (aB.1,(aB.2.1,(aB.2.2.1,(aB.2.2.2.1,())))) (aC.1,()) (((!decide (aF.1=(1:Int)))||(!decide (aF.2.1=([99,97,116,97,108,111,103]:pC))))||(!aH)) aF.2.2.2 false aD).bind fun aI=>(xT aE aI.1 aI.2 ((rV .str .str aG ([116,97,103]:pC)),(aB.2.1,(aB.2.2.1,(aB.2.2.2.1,())))) (aC.1,()) aD).bind fun aJ=>vA (rU (CU aB aC aD aG) (aJ,aI.1,aI.2,aF.1,aF.2.1,aF.2.2.1,aF.2.2.2,([]:pD),([]:List r6))) fun(aK,aL,aM)=>some ((aK,aL,aM,(rV .str .str aG ([116,97,103]:pC)),aB.2.1,aB.2.2.1,aC.1)) else (DE (aF.1,(aF.2.1,(aF.2.2.1,(aF.2.2.2,())))) ([116,97,103]:pC) ([]:pC)).bind fun aN=>sJ (rU (SA aF) (true,(0:Int))) fun aO=>(xL aE Z aA (aB.1,(aB.2.1,(aB.2.2.1,(aB.2.2.2.1,())))) (aC.1,()) ((((!decide (aF.1=(1:Int)))||(!decide (aF.2.1=([99,97,116,97,108,111,103]:pC))))||true)||(!aO)) aF.2.2.2 false aD).bind fun aP=>(xT aE aP.1 aP.2 (([]:pC),(aB.2.1,(aB.2.2.1,(aB.2.2.2.1,())))) (aC.1,()) aD).bind fun aQ=>vA (rU (XB aB aC aD) (aQ,aP.1,aP.2,aF.1,aF.2.1,aF.2.2.1,aF.2.2.2,([]:pD),([]:List r6))) fun(aR,aS,aT)=>some ((aR,aS,aT,([]:pC),aB.2.1,aB.2.2.1,aC.1))
section
variable (O:(List s9)) (Z:Int) (aA:Int) (aB:sV) (aC:(pL×Unit)) (aD:Nat) (aE:Nat) (aF:pJ)
abbrev a7K:List qB:=[(.val .ref (some (0,0)),none)]
abbrev a7L:List q9:=[.cells sN (O,(Z,(aA,(aB,((some 3),aC))))) [(6,1),(8,2)],.grow 53 7 aD,.grow 3 1 aE,.map .str .bool aF]
@[go_sem] def a7M:qH:=⟨[aD=(aB.2.2.2.1.length),aE=(aC.1.length),((BQ O Z aA aB aC aF)).isSome=true],[],[.cells sN ((val (BQ O Z aA aB aC aF)).1,((val (BQ O Z aA aB aC aF)).2.1,((val (BQ O Z aA aB aC aF)).2.2.1,(((val (BQ O Z aA aB aC aF)).2.2.2.1,((val (BQ O Z aA aB aC aF)).2.2.2.2.1,((val (BQ O Z aA aB aC aF)).2.2.2.2.2.1,(aB.2.2.2.1,())))),((some 3),((val (BQ O Z aA aB aC aF)).2.2.2.2.2.2,())))))) [(6,1),(8,2)],.grow 53 7 (aB.2.2.2.1.length),.grow 3 1 (((val (BQ O Z aA aB aC aF)).2.2.2.2.2.2).length),.map .str .bool aF]⟩
def aFl:List qB→List q9→Option qH:=rP (V:=((List s9)×Int×Int×sV×(pL×Unit)×Nat×Nat×pJ)) (fun x=>a7K) (fun x=>a7L x.1 x.2.1 x.2.2.1 x.2.2.2.1 x.2.2.2.2.1 x.2.2.2.2.2.1 x.2.2.2.2.2.2.1 x.2.2.2.2.2.2.2) fun x=>a7M x.1 x.2.1 x.2.2.1 x.2.2.2.1 x.2.2.2.2.1 x.2.2.2.2.2.1 x.2.2.2.2.2.2.1 x.2.2.2.2.2.2.2
@[go_sem] def aQ7:aFl (no_index a7K) (no_index (a7L O Z aA aB aC aD aE aF))=some (a7M O Z aA aB aC aD aE aF):=rR (fun⟨a0,a1,a2,a3,a4,a5,a6,a7⟩ ⟨b0,b1,b2,b3,b4,b5,b6,b7⟩ h1 h2=>by cases h1;cases h2;rfl) (O,Z,aA,aB,aC,aD,aE,aF)
end
@[go_sem] abbrev aFm:Nat×qW:=(51,⟨[.p sN [6,8]],aFl,[(0,7,.m)],[1,3],none⟩)
def tI:rI Tryz.prog [xK,B0,sL,wE,CL,AZ,DA,zT,GR,BI,CM,yZ,FK,BJ] (rJ [O1,HG,NY,WS,EB,IY,S4,S7]):=⟨⟨yA,⟨CN,⟨sO,⟨x4,⟨E8,⟨CK,⟨FI,⟨AY,⟨L4,⟨DB,⟨E9,⟨zU,⟨IV,⟨DC,trivial⟩⟩⟩⟩⟩⟩⟩⟩⟩⟩⟩⟩⟩⟩,qK RQ (qK JC (qK RL (qK a2M (qK FL (qK L9 (qK X6 (qK X7 rN))))))),rL⟩
def a7N:rI Tryz.prog [xK,B0,sL,wE,CL,AZ,DA,zT,GR,BI,CM,yZ,FK,BJ] (rJ [O1,HG,WS,EB,IY,S4,S7,O0]):=⟨⟨yA,⟨CN,⟨sO,⟨x4,⟨E8,⟨CK,⟨FI,⟨AY,⟨L4,⟨DB,⟨E9,⟨zU,⟨IV,⟨DC,trivial⟩⟩⟩⟩⟩⟩⟩⟩⟩⟩⟩⟩⟩⟩,qK RQ (qK JC (qK a2M (qK FL (qK L9 (qK X6 (qK X7 (qK RM rN))))))),rL⟩
def aMn:r5 Tryz.prog aFm:=by
 refine rS tI Tryz.func51 (c:=_) rfl (N:=139) pT (ts:=[]) rfl (fun _ _=>rfl) ?_;intro⟨O,Z,aA,aB,aC,aD,aE,aF⟩ hs hrow;dsimp only[a7K,a7L,a7M,rM,qM,qY,r7,rO,Nat.reduceAdd] at hs hrow|-;obtain⟨rfl,rfl,hz⟩:=hs;obtain⟨z0,f⟩:=aRh.1 hz
 try rw[rY f]
 clear hz;unfold BQ at f;obtain⟨aG,hv1,hw1,f⟩:=qQ f
 try simp only[go_sem] at hw1
 refine q8 tI ?_ (hp:=by exact⟨pS,pS,pS,pS,pS,(qP hv1)⟩) (h:=by simp only[go_sem,hw1];rfl)
 obtain⟨aH,hv2,hw2,f⟩:=qQ f
 try simp only[go_sem] at hw2
 refine q8 tI ?_ (hp:=by exact⟨pS,pS,pS,pS,pS,pS,(qP hv2)⟩) (h:=by simp only[go_sem,hw2];rfl)
 refine qS ?_;by_cases hva1:((wF (aH.1,(aH.2.1,(aH.2.2.1,(aH.2.2.2,())))) ([116,97,103]:pC) ([]:pC))).isSome=true
 .rw[aRf hva1] at f;obtain⟨aI,hv3,hw3,f⟩:=qQ f
  try simp only[go_sem] at hw3
  refine rF tI ?_ (hp:=by exact(qP hv3)) (h:=by simp only[go_sem,hw3];rfl);refine qO ?_;refine q8 tI ?_;refine qS ?_;refine q8 tI ?_;refine rW ?_;obtain⟨aJ,hy1,f⟩:=qI f;refine uV 0 (fun s=>s=(fun x=>⟨[(0,(.val .ref (some (0,0)),none)),(2,(.val .ref (some (4,0)),none)),(3,(.val .mp (some 5),none)),(4,(.val .bool true,none)),(5,(.val .bool x,none))],[(0,.cells sN (aG,(Z,(aA,((aB.1,(aB.2.1,(aB.2.2.1,(aB.2.2.2.1,())))),((some 3),(aC.1,())))))) [(6,1),(8,2)]),(1,.grow 53 7 (aB.2.2.2.1.length)),(2,.grow 3 1 (aC.1.length)),(3,.map .str .bool aF),(4,.cells wZ (aH.1,(aH.2.1,(aH.2.2.1,(aH.2.2.2,())))) []),(5,.map .str .str aI)],6,139,4⟩) aJ) ?_ ?_
  .refine uP hy1 (fun x=>⟨[(0,(.val .ref (some (0,0)),none)),(2,(.val .ref (some (4,0)),none)),(3,(.val .mp (some 5),none)),(4,(.val .bool true,none)),(5,(.val .bool x.1,none)),(21,(.val (.list (.pair .str (.pair .str .unit))) aH.2.2.1,none)),(22,(.val (.int .i64) (aH.2.2.1.length:Int),none)),(23,(.val (.int .i64) x.2,none))],[(0,.cells sN (aG,(Z,(aA,((aB.1,(aB.2.1,(aB.2.2.1,(aB.2.2.2.1,())))),((some 3),(aC.1,())))))) [(6,1),(8,2)]),(1,.grow 53 7 (aB.2.2.2.1.length)),(2,.grow 3 1 (aC.1.length)),(3,.map .str .bool aF),(4,.cells wZ (aH.1,(aH.2.1,(aH.2.2.1,(aH.2.2.2,())))) []),(5,.map .str .str aI)],6,139,4⟩) ⟨[0,2,3,4,5,21,22,23],[(0,0),(1,1),(2,2),(3,3),(4,132),(5,228)]⟩ pU ?_;intro x1 w1 n1 d g;obtain⟨aK,aL⟩:=x1;unfold S9 at d;dsimp only at d|-;refine q8 tI ?_;refine qS ?_;refine qV d (fun d hc2=> ?_) (fun d hc2=> ?_)
   .refine r8 (qO (qS (rW ?_)));obtain⟨hg4,d⟩:=qG d;refine q8 tI ?_ (hp:=by exact hg4);obtain⟨hg5,d⟩:=qG d;refine rF tI ?_ (hp:=by exact⟨id,id,hg5,sY⟩);refine rT (qO ?_);obtain⟨hg6,d⟩:=qG d;refine rF tI ?_ (hp:=by exact hg6);cases d;exact tC ⟨⟨[0,2,3,4,5,21,22,23],[(0,0),(1,1),(2,2),(3,3),(4,4),(5,5)]⟩,_,by rfl,g⟩
   .refine uJ (uI (uL ?_));cases d;cases g;exact uK ⟨⟨[0,2,3,4,5],[(0,0),(1,1),(2,2),(3,3),(4,4),(5,5)]⟩,by rfl⟩
  .rintro _ rfl;dsimp only at f|-;refine uU (qO ?_);obtain⟨aM,hv7,hw7,f⟩:=qQ f
   try simp only[go_sem] at hw7
   refine q8 tI ?_ (hp:=by exact⟨id,id,sU,id,sU,id,sU,pS,pS,pS,pS,pS,(qP hv7)⟩) (h:=by simp only[go_sem,hw7];rfl)
   refine q8 tI ?_;obtain⟨aN,hv8,hw8,f⟩:=qQ f
   try simp only[go_sem] at hw8
   refine q8 tI ?_ (hp:=by exact⟨pS,pS,pS,pS,pS,(qP hv8)⟩) (h:=by simp only[go_sem,hw8];rfl)
   refine q8 tI ?_;refine rW ?_;obtain⟨y1,hy1,f⟩:=wX f;refine uV 2 (fun s=> ∃v,y1= .inl v∧s=(fun x=>⟨[],[(0,.cells sN (x.1,(x.2.1,(x.2.2,(((rV .str .str aI ([116,97,103]:pC)),(aB.2.1,(aB.2.2.1,(aB.2.2.2.1,())))),((some 3),(aC.1,())))))) [(6,1),(8,2)]),(1,.grow 53 7 (aB.2.2.2.1.length)),(2,.grow 3 1 (aC.1.length)),(3,.map .str .bool aF)],4,139,4⟩) v) ?_ ?_
   .refine uP hy1 (fun x=>⟨[(0,(.val .ref (some (0,0)),none)),(2,(.val .ref (some (4,0)),none)),(8,(.val .ref (some (5,0)),none))],[(0,.cells sN (x.1,(x.2.1,(x.2.2.1,(((rV .str .str aI ([116,97,103]:pC)),(aB.2.1,(aB.2.2.1,(aB.2.2.2.1,())))),((some 3),(aC.1,())))))) [(6,1),(8,2)]),(1,.grow 53 7 (aB.2.2.2.1.length)),(2,.grow 3 1 (aC.1.length)),(3,.map .str .bool aF),(4,.cells wZ (x.2.2.2.1,(x.2.2.2.2.1,(x.2.2.2.2.2.1,(x.2.2.2.2.2.2.1,())))) []),(5,.cells tU (([]:pC),(([]:pC),(([]:pC),(x.2.2.2.2.2.2.2.1,(([]:pD),((0:Int),(x.2.2.2.2.2.2.2.2,()))))))) [(3,6)]),(6,.grow 9 1 (x.2.2.2.2.2.2.2.1.length))],7,139,4⟩) ⟨[0,2,8],[(0,0),(1,1),(2,2),(3,3),(4,4),(5,934),(6,935)]⟩ pU ?_;intro x1 w1 n1 d g;obtain⟨aO,aP,aQ,aR,aS,aT,aU,aV,aW⟩:=x1;unfold CU at d;dsimp only at d|-;refine qS ?_;refine q8 tI ?_;refine qV d (fun d hc3=> ?_) (fun d hc3=> ?_)
    .refine r8 (qO (rW ?_));obtain⟨aX,hv9,hw9,d⟩:=qQ d
     try simp only[go_sem] at hw9
     refine q8 tI ?_ (hp:=by exact⟨pS,pS,pS,pS,pS,(qP hv9)⟩) (h:=by simp only[go_sem,hw9];rfl)
     obtain⟨aY,hv10,hw10,d⟩:=qQ d
     try simp only[go_sem] at hw10
     refine q8 tI ?_ (hp:=by exact⟨pS,pS,pS,pS,pS,pS,(qP hv10)⟩) (h:=by simp only[go_sem,hw10];rfl)
     refine rW ?_;refine q8 tI ?_ (hp:=by exact⟨id,id,sY⟩);refine qV d (fun d hc4=> ?_) (fun d hc4=> ?_)
     .obtain⟨aZ,hv11,hw11,d⟩:=qQ d
      try simp only[go_sem] at hw11
      refine rF tI ?_ (hp:=by exact⟨pS,pS,pS,pS,pS,pS,(qP hv11)⟩) (h:=by simp only[go_sem,hw11];rfl)
      refine rT (rT ?_);cases d;exact tC ⟨⟨[0,2,8],[(0,0),(1,1),(2,2),(3,3),(4,4),(5,5),(6,6)]⟩,_,by rfl,g⟩
     .refine q8 tI ?_ (hp:=by exact⟨id,id,sY⟩);refine qV d (fun d hc5=> ?_) (fun d hc5=> ?_)
      .obtain⟨bA,hv12,hw12,d⟩:=qQ d
       try simp only[go_sem] at hw12
       refine rF tI ?_ (hp:=by exact⟨pS,pS,pS,pS,pS,pS,pS,(qP hv12)⟩) (h:=by simp only[go_sem,hw12];rfl)
       refine rT (rT ?_);cases d;exact tC ⟨⟨[0,2,8],[(0,0),(1,1),(2,2),(3,3),(4,4),(5,5),(6,6)]⟩,_,by rfl,g⟩
      .refine qS ?_;by_cases hva6:((wF (aY.1,(aY.2.1,(aY.2.2.1,(aY.2.2.2,())))) ([]:pC) ([]:pC))).isSome=true
       .rw[aRf hva6] at d;obtain⟨bB,hv13,hw13,d⟩:=qQ d
        try simp only[go_sem] at hw13
        refine rF tI ?_ (hp:=by exact(qP hv13)) (h:=by simp only[go_sem,hw13];rfl);refine qO ?_;obtain⟨bC,hv14,hw14,d⟩:=qQ d
        try simp only[go_sem] at hw14
        refine q8 tI ?_ (hp:=by exact⟨id,id,sU,id,sU,pS,pS,pS,pS,pS,(qP hv14)⟩) (h:=by simp only[go_sem,hw14];rfl)
        obtain⟨bD,hv15,hw15,d⟩:=qQ d
        try simp only[go_sem] at hw15
        obtain⟨hg16,d⟩:=qG d;refine XA tI 4 6 ?_ (hp:=by exact⟨pS,pS,pS,pS,pS,qP hv15,pS,hg16⟩) (ha1:=by simp only[List.take_succ_cons,List.take_zero,go_sem,hw15]<;>rfl) (hx1:=by simp only[go_sem,hw15]<;>rfl) (h:=by simp only[go_sem,hw15];rfl)
        refine q8 tI ?_;refine qR (s8 (s8 (wP (wW (s8 ?_)))));cases d;cases g;dsimp only at f;cases f;exact pE [(0,0),(1,1),(2,2),(3,3)]
       rw[aRk hva6] at d;obtain⟨bE,hv17,hw17,d⟩:=qQ d
       try simp only[go_sem] at hw17
       refine rF a7N ?_ (hp:=by exact(qP hv17)) (h:=by simp only[go_sem,hw17];rfl);refine qO ?_;obtain⟨bF,hv18,hw18,d⟩:=qQ d
       try simp only[go_sem] at hw18
       refine q8 tI ?_ (hp:=by exact⟨id,id,sU,id,sU,pS,pS,pS,pS,pS,(qP hv18)⟩) (h:=by simp only[go_sem,hw18];rfl)
       obtain⟨bG,hv19,hw19,d⟩:=qQ d
       try simp only[go_sem] at hw19
       obtain⟨hg20,d⟩:=qG d;refine XA tI 4 6 ?_ (hp:=by exact⟨pS,pS,pS,pS,pS,qP hv19,pS,hg20⟩) (ha1:=by simp only[List.take_succ_cons,List.take_zero,go_sem,hw19]<;>rfl) (hx1:=by simp only[go_sem,hw19]<;>rfl) (h:=by simp only[go_sem,hw19];rfl)
       refine q8 tI ?_;refine qR (s8 (s8 (wP (wW (s8 ?_)))));cases d;cases g;dsimp only at f;cases f;exact pE [(0,0),(1,1),(2,2),(3,3)]
    .refine uJ (uI (uL ?_));cases d;cases g;exact uK ⟨⟨[],[(0,0),(1,1),(2,2),(3,3)]⟩,_,rfl,by rfl⟩
   .rintro _ ⟨v,rfl,rfl⟩;obtain⟨bH,bI,bJ⟩:=v;dsimp only at f|-;refine uU ?_;cases f;exact pE [(0,0),(1,1),(2,2),(3,3)]
 rw[aRk hva1] at f;obtain⟨bK,hv21,hw21,f⟩:=qQ f
 try simp only[go_sem] at hw21
 refine rF a7N ?_ (hp:=by exact(qP hv21)) (h:=by simp only[go_sem,hw21];rfl);refine qO ?_;refine q8 tI ?_;refine qS ?_;refine q8 tI ?_;refine rW ?_;obtain⟨bM,hy1,f⟩:=qI f;refine uV 0 (fun s=>s=(fun x=>⟨[(0,(.val .ref (some (0,0)),none)),(2,(.val .ref (some (4,0)),none)),(3,(.val .mp none,none)),(4,(.val .bool false,none)),(5,(.val .bool x,none))],[(0,.cells sN (aG,(Z,(aA,((aB.1,(aB.2.1,(aB.2.2.1,(aB.2.2.2.1,())))),((some 3),(aC.1,())))))) [(6,1),(8,2)]),(1,.grow 53 7 (aB.2.2.2.1.length)),(2,.grow 3 1 (aC.1.length)),(3,.map .str .bool aF),(4,.cells wZ (aH.1,(aH.2.1,(aH.2.2.1,(aH.2.2.2,())))) [])],5,139,4⟩) bM) ?_ ?_
 .refine uP hy1 (fun x=>⟨[(0,(.val .ref (some (0,0)),none)),(2,(.val .ref (some (4,0)),none)),(3,(.val .mp none,none)),(4,(.val .bool false,none)),(5,(.val .bool x.1,none)),(21,(.val (.list (.pair .str (.pair .str .unit))) aH.2.2.1,none)),(22,(.val (.int .i64) (aH.2.2.1.length:Int),none)),(23,(.val (.int .i64) x.2,none))],[(0,.cells sN (aG,(Z,(aA,((aB.1,(aB.2.1,(aB.2.2.1,(aB.2.2.2.1,())))),((some 3),(aC.1,())))))) [(6,1),(8,2)]),(1,.grow 53 7 (aB.2.2.2.1.length)),(2,.grow 3 1 (aC.1.length)),(3,.map .str .bool aF),(4,.cells wZ (aH.1,(aH.2.1,(aH.2.2.1,(aH.2.2.2,())))) [])],5,139,4⟩) ⟨[0,2,3,4,5,21,22,23],[(0,0),(1,1),(2,2),(3,3),(4,132)]⟩ pU ?_;intro x1 w1 n1 d g;obtain⟨bN,bO⟩:=x1;unfold SA at d;dsimp only at d|-;refine q8 tI ?_;refine qS ?_;refine qV d (fun d hc7=> ?_) (fun d hc7=> ?_)
  .refine r8 (qO (qS (rW ?_)));obtain⟨hg22,d⟩:=qG d;refine q8 tI ?_ (hp:=by exact hg22);obtain⟨hg23,d⟩:=qG d;refine rF tI ?_ (hp:=by exact⟨id,id,hg23,sY⟩);refine rT (qO ?_);obtain⟨hg24,d⟩:=qG d;refine rF tI ?_ (hp:=by exact hg24);cases d;exact tC ⟨⟨[0,2,3,4,5,21,22,23],[(0,0),(1,1),(2,2),(3,3),(4,4)]⟩,_,by rfl,g⟩
  .refine uJ (uI (uL ?_));cases d;cases g;exact uK ⟨⟨[0,2,3,4,5],[(0,0),(1,1),(2,2),(3,3),(4,4)]⟩,by rfl⟩
 .rintro _ rfl;dsimp only at f|-;refine uU (qO ?_);obtain⟨bP,hv25,hw25,f⟩:=qQ f
  try simp only[go_sem] at hw25
  refine q8 tI ?_ (hp:=by exact⟨id,id,sU,id,sU,id,fun e=>by first|exact sU e|exact rfl|exact e.elim|simp_all,pS,pS,pS,pS,pS,(qP hv25)⟩) (h:=by simp only[go_sem,hw25];rfl)
  refine q8 tI ?_;obtain⟨bQ,hv26,hw26,f⟩:=qQ f
  try simp only[go_sem] at hw26
  refine q8 tI ?_ (hp:=by exact⟨pS,pS,pS,pS,pS,(qP hv26)⟩) (h:=by simp only[go_sem,hw26];rfl)
  refine q8 tI ?_;refine rW ?_;obtain⟨y1,hy1,f⟩:=wX f;refine uV 2 (fun s=> ∃v,y1= .inl v∧s=(fun x=>⟨[],[(0,.cells sN (x.1,(x.2.1,(x.2.2,((([]:pC),(aB.2.1,(aB.2.2.1,(aB.2.2.2.1,())))),((some 3),(aC.1,())))))) [(6,1),(8,2)]),(1,.grow 53 7 (aB.2.2.2.1.length)),(2,.grow 3 1 (aC.1.length)),(3,.map .str .bool aF)],4,139,4⟩) v) ?_ ?_
  .refine uP hy1 (fun x=>⟨[(0,(.val .ref (some (0,0)),none)),(2,(.val .ref (some (4,0)),none)),(8,(.val .ref (some (5,0)),none))],[(0,.cells sN (x.1,(x.2.1,(x.2.2.1,((([]:pC),(aB.2.1,(aB.2.2.1,(aB.2.2.2.1,())))),((some 3),(aC.1,())))))) [(6,1),(8,2)]),(1,.grow 53 7 (aB.2.2.2.1.length)),(2,.grow 3 1 (aC.1.length)),(3,.map .str .bool aF),(4,.cells wZ (x.2.2.2.1,(x.2.2.2.2.1,(x.2.2.2.2.2.1,(x.2.2.2.2.2.2.1,())))) []),(5,.cells tU (([]:pC),(([]:pC),(([]:pC),(x.2.2.2.2.2.2.2.1,(([]:pD),((0:Int),(x.2.2.2.2.2.2.2.2,()))))))) [(3,6)]),(6,.grow 9 1 (x.2.2.2.2.2.2.2.1.length))],7,139,4⟩) ⟨[0,2,8],[(0,0),(1,1),(2,2),(3,3),(4,4),(5,933),(6,934)]⟩ pU ?_;intro x1 w1 n1 d g;obtain⟨bR,bS,bT,bU,bV,bW,bX,bZ,cA⟩:=x1;unfold XB at d;dsimp only at d|-;refine qS ?_;refine q8 tI ?_;refine qV d (fun d hc8=> ?_) (fun d hc8=> ?_)
   .refine r8 (qO (rW ?_));obtain⟨cB,hv27,hw27,d⟩:=qQ d
    try simp only[go_sem] at hw27
    refine q8 tI ?_ (hp:=by exact⟨pS,pS,pS,pS,pS,(qP hv27)⟩) (h:=by simp only[go_sem,hw27];rfl)
    obtain⟨cC,hv28,hw28,d⟩:=qQ d
    try simp only[go_sem] at hw28
    refine q8 tI ?_ (hp:=by exact⟨pS,pS,pS,pS,pS,pS,(qP hv28)⟩) (h:=by simp only[go_sem,hw28];rfl)
    refine rW ?_;refine q8 tI ?_ (hp:=by exact⟨id,id,sY⟩);refine qV d (fun d hc9=> ?_) (fun d hc9=> ?_)
    .obtain⟨cD,hv29,hw29,d⟩:=qQ d
     try simp only[go_sem] at hw29
     refine rF tI ?_ (hp:=by exact⟨pS,pS,pS,pS,pS,pS,(qP hv29)⟩) (h:=by simp only[go_sem,hw29];rfl)
     refine rT (rT ?_);cases d;exact tC ⟨⟨[0,2,8],[(0,0),(1,1),(2,2),(3,3),(4,4),(5,5),(6,6)]⟩,_,by rfl,g⟩
    .refine q8 tI ?_ (hp:=by exact⟨id,id,sY⟩);refine qV d (fun d hc10=> ?_) (fun d hc10=> ?_)
     .obtain⟨cE,hv30,hw30,d⟩:=qQ d
      try simp only[go_sem] at hw30
      refine rF tI ?_ (hp:=by exact⟨pS,pS,pS,pS,pS,pS,pS,(qP hv30)⟩) (h:=by simp only[go_sem,hw30];rfl)
      refine rT (rT ?_);cases d;exact tC ⟨⟨[0,2,8],[(0,0),(1,1),(2,2),(3,3),(4,4),(5,5),(6,6)]⟩,_,by rfl,g⟩
     .refine qS ?_;by_cases hva11:((wF (cC.1,(cC.2.1,(cC.2.2.1,(cC.2.2.2,())))) ([]:pC) ([]:pC))).isSome=true
      .rw[aRf hva11] at d;obtain⟨cF,hv31,hw31,d⟩:=qQ d
       try simp only[go_sem] at hw31
       refine rF tI ?_ (hp:=by exact(qP hv31)) (h:=by simp only[go_sem,hw31];rfl);refine qO ?_;obtain⟨cG,hv32,hw32,d⟩:=qQ d
       try simp only[go_sem] at hw32
       refine q8 tI ?_ (hp:=by exact⟨id,id,sU,id,sU,pS,pS,pS,pS,pS,(qP hv32)⟩) (h:=by simp only[go_sem,hw32];rfl)
       obtain⟨cH,hv33,hw33,d⟩:=qQ d
       try simp only[go_sem] at hw33
       obtain⟨hg34,d⟩:=qG d;refine XA tI 4 6 ?_ (hp:=by exact⟨pS,pS,pS,pS,pS,qP hv33,pS,hg34⟩) (ha1:=by simp only[List.take_succ_cons,List.take_zero,go_sem,hw33]<;>rfl) (hx1:=by simp only[go_sem,hw33]<;>rfl) (h:=by simp only[go_sem,hw33];rfl)
       refine q8 tI ?_;refine qR (s8 (s8 (wP (wW (s8 ?_)))));cases d;cases g;dsimp only at f;cases f;exact pE [(0,0),(1,1),(2,2),(3,3)]
      rw[aRk hva11] at d;obtain⟨cI,hv35,hw35,d⟩:=qQ d
      try simp only[go_sem] at hw35
      refine rF a7N ?_ (hp:=by exact(qP hv35)) (h:=by simp only[go_sem,hw35];rfl);refine qO ?_;obtain⟨cJ,hv36,hw36,d⟩:=qQ d
      try simp only[go_sem] at hw36
      refine q8 tI ?_ (hp:=by exact⟨id,id,sU,id,sU,pS,pS,pS,pS,pS,(qP hv36)⟩) (h:=by simp only[go_sem,hw36];rfl)
      obtain⟨cK,hv37,hw37,d⟩:=qQ d
      try simp only[go_sem] at hw37
      obtain⟨hg38,d⟩:=qG d;refine XA tI 4 6 ?_ (hp:=by exact⟨pS,pS,pS,pS,pS,qP hv37,pS,hg38⟩) (ha1:=by simp only[List.take_succ_cons,List.take_zero,go_sem,hw37]<;>rfl) (hx1:=by simp only[go_sem,hw37]<;>rfl) (h:=by simp only[go_sem,hw37];rfl)
      refine q8 tI ?_;refine qR (s8 (s8 (wP (wW (s8 ?_)))));cases d;cases g;dsimp only at f;cases f;exact pE [(0,0),(1,1),(2,2),(3,3)]
   .refine uJ (uI (uL ?_));cases d;cases g;exact uK ⟨⟨[],[(0,0),(1,1),(2,2),(3,3)]⟩,_,rfl,by rfl⟩
  .rintro _ ⟨v,rfl,rfl⟩;obtain⟨cL,cN,cO⟩:=v;dsimp only at f|-;refine uU ?_;cases f;exact pE [(0,0),(1,1),(2,2),(3,3)]
attribute [irreducible] BQ
end
noncomputable section
def BR (O:(List s9)) (Z:Int) (aA:Int) (aB:sV) (aC:(pL×Unit)) (aD:pJ):Option ((List s9)×Int×Int×(List sF)×pL×pJ):=(AE O Z aA aB aC aD).bind fun aE=>if ((wF (aE.1,(aE.2.1,(aE.2.2.1,(aE.2.2.2,())))) ([105,100]:pC) ([115,116,97,116,101,32,102,108,97,103,115]:pC))).isSome=true then (wF (aE.1,(aE.2.1,(aE.2.2.1,(aE.2.2.2,())))) ([105,100]:pC) ([115,116,97,116,101,32,102,108,97,103,115]:pC)).bind fun aF=>(H0 (rV .str .str aF ([102,108,97,103,115]:pC))).bind fun aG=>if ((u7 (sZ (rV .str .str aF ([102,108,97,103,115]:pC)) ([32]:pC))).length)<4611686018427387904 then if (((((!decide (aE.1=(1:Int)))&&(!decide (aE.1=(2:Int))))||(!decide (aE.2.1=([101,110,116,114,121]:pC))))==false)=true→((DG aE.2.2.1)).isSome=true) then if ((aE.2.2.2||(rV .str .bool aD (rV .str .str aF ([105,100]:pC))))==false)=true then if (((aE.2.2.2||(rV .str .bool aD (rV .str .str aF ([105,100]:pC))))==false)=true→((yN (sG (u7 (sZ (rV .str .str aF ([102,108,97,103,115]:pC)) ([32]:pC)))))).isSome=true) then if (((aE.2.2.2||(rV .str .bool aD (rV .str .str aF ([105,100]:pC))))==false)=true→List.length (val (yN (sG (u7 (sZ (rV .str .str aF ([102,108,97,103,115]:pC)) ([32]:pC))))))≤9223372036854775807) then (xL O Z aA aB aC ((((!decide (aE.1=(1:Int)))&&(!decide (aE.1=(2:Int))))||(!decide (aE.2.1=([101,110,116,114,121]:pC))))||(val (DG aE.2.2.1))) ((aE.2.2.2||(rV .str .bool aD (rV .str .str aF ([105,100]:pC))))||(decide (((((Lib.compact (val (yN (sG (u7 (sZ (rV .str .str aF ([102,108,97,103,115]:pC)) ([32]:pC))))))).length):Nat):Int)<((sG (u7 (sZ (rV .str .str aF ([102,108,97,103,115]:pC)) ([32]:pC)))).length:Int)))) ((decide ((20:Int)<((sG (u7 (sZ (rV .str .str aF ([102,108,97,103,115]:pC)) ([32]:pC)))).length:Int)))||(decide ((aB.2.2.2.1.length:Int)=(1000:Int)))) aD).bind fun aH=>if (!decide (aH.2=(0:Int)))=true then some ((O,aH.1,aH.2,aB.2.2.2.1,aC.1,aD)) else (BK ([([110,101,119]:pC),([102,117,122,122,121]:pC),([116,114,97,110,115,108,97,116,101,100]:pC),([114,101,118,105,101,119,101,100]:pC),([111,98,115,111,108,101,116,101]:pC)]:pD) (rV .str .str aF ([115,116,97,116,101]:pC))).bind fun aI=>(xT O aH.1 aH.2 (aB.1,(aB.2.1,(aB.2.2.1,(aB.2.2.2.1,())))) (aC.1,()) (tJ .str .bool (rV .str .str aF ([105,100]:pC)) true aD)).bind fun aJ=>sJ (σ:=(Int×(List s9)×Int×Int×pC×pC×pD×(List r6))) (if (decide (aE.1=(1:Int)))=true then (z6 aJ aH.1 aH.2 (aB.1,(aB.2.1,(aB.2.2.1,(aB.2.2.2.1,())))) (aC.1,()) ((rV .str .str aF ([105,100]:pC)),(([]:pC),(([]:pC),(([]:pD),((sG (u7 (sZ (rV .str .str aF ([102,108,97,103,115]:pC)) ([32]:pC)))),((max (0:Int) aI),(([]:List r6),()))))))) (tJ .str .bool (rV .str .str aF ([105,100]:pC)) true aD)).bind fun aK=>some ((aK.1,aK.2.1,aK.2.2.1,aK.2.2.2.1,aK.2.2.2.2.1,aK.2.2.2.2.2.1,aK.2.2.2.2.2.2.1,aK.2.2.2.2.2.2.2)) else some ((((qU sM O (0:Int)).2.2.1+(((qU sM O (0:Int)).2.1).length:Int)),aJ,aH.1,aH.2,([]:pC),([]:pC),([]:pD),([]:List r6))) ) fun(aL,aM,aN,aO,aP,aQ,aR,aS)=>if (aB.2.2.2.1.length+([((rV .str .str aF ([105,100]:pC)),(aP,(aQ,(aR,((sG (u7 (sZ (rV .str .str aF ([102,108,97,103,115]:pC)) ([32]:pC)))),((max (0:Int) aI),(aS,())))))))]:List sF).length)*128≤140737488355328 then if (aC.1.length+([aL]:pL).length)*8≤140737488355328 then some ((aM,aN,aO,(aB.2.2.2.1++([((rV .str .str aF ([105,100]:pC)),(aP,(aQ,(aR,((sG (u7 (sZ (rV .str .str aF ([102,108,97,103,115]:pC)) ([32]:pC)))),((max (0:Int) aI),(aS,())))))))]:List sF)),(aC.1++([aL]:pL)),(tJ .str .bool (rV .str .str aF ([105,100]:pC)) true aD))) else none else none else none else none else (xL O Z aA aB aC ((((!decide (aE.1=(1:Int)))&&(!decide (aE.1=(2:Int))))||(!decide (aE.2.1=([101,110,116,114,121]:pC))))||(val (DG aE.2.2.1))) true ((decide ((20:Int)<((sG (u7 (sZ (rV .str .str aF ([102,108,97,103,115]:pC)) ([32]:pC)))).length:Int)))||(decide ((aB.2.2.2.1.length:Int)=(1000:Int)))) aD).bind fun aT=>if (!decide (aT.2=(0:Int)))=true then some ((O,aT.1,aT.2,aB.2.2.2.1,aC.1,aD)) else (BK ([([110,101,119]:pC),([102,117,122,122,121]:pC),([116,114,97,110,115,108,97,116,101,100]:pC),([114,101,118,105,101,119,101,100]:pC),([111,98,115,111,108,101,116,101]:pC)]:pD) (rV .str .str aF ([115,116,97,116,101]:pC))).bind fun aU=>(xT O aT.1 aT.2 (aB.1,(aB.2.1,(aB.2.2.1,(aB.2.2.2.1,())))) (aC.1,()) (tJ .str .bool (rV .str .str aF ([105,100]:pC)) true aD)).bind fun aV=>sJ (σ:=(Int×(List s9)×Int×Int×pC×pC×pD×(List r6))) (if (decide (aE.1=(1:Int)))=true then (z6 aV aT.1 aT.2 (aB.1,(aB.2.1,(aB.2.2.1,(aB.2.2.2.1,())))) (aC.1,()) ((rV .str .str aF ([105,100]:pC)),(([]:pC),(([]:pC),(([]:pD),((sG (u7 (sZ (rV .str .str aF ([102,108,97,103,115]:pC)) ([32]:pC)))),((max (0:Int) aU),(([]:List r6),()))))))) (tJ .str .bool (rV .str .str aF ([105,100]:pC)) true aD)).bind fun aW=>some ((aW.1,aW.2.1,aW.2.2.1,aW.2.2.2.1,aW.2.2.2.2.1,aW.2.2.2.2.2.1,aW.2.2.2.2.2.2.1,aW.2.2.2.2.2.2.2)) else some ((((qU sM O (0:Int)).2.2.1+(((qU sM O (0:Int)).2.1).length:Int)),aV,aT.1,aT.2,([]:pC),([]:pC),([]:pD),([]:List r6))) ) fun(aX,aY,aZ,bA,bB,bC,bD,bE)=>if (aB.2.2.2.1.length+([((rV .str .str aF ([105,100]:pC)),(bB,(bC,(bD,((sG (u7 (sZ (rV .str .str aF ([102,108,97,103,115]:pC)) ([32]:pC)))),((max (0:Int) aU),(bE,())))))))]:List sF).length)*128≤140737488355328 then if (aC.1.length+([aX]:pL).length)*8≤140737488355328 then some ((aY,aZ,bA,(aB.2.2.2.1++([((rV .str .str aF ([105,100]:pC)),(bB,(bC,(bD,((sG (u7 (sZ (rV .str .str aF ([102,108,97,103,115]:pC)) ([32]:pC)))),((max (0:Int) aU),(bE,())))))))]:List sF)),(aC.1++([aX]:pL)),(tJ .str .bool (rV .str .str aF ([105,100]:pC)) true aD))) else none else none else none else none else (DE (aE.1,(aE.2.1,(aE.2.2.1,(aE.2.2.2,())))) ([105,100]:pC) ([115,116,97,116,101,32,102,108,97,103,115]:pC)).bind fun bF=>(H0 ([]:pC)).bind fun bG=>if ((u7 (sZ ([]:pC) ([32]:pC))).length)<4611686018427387904 then if ((((((!decide (aE.1=(1:Int)))&&(!decide (aE.1=(2:Int))))||(!decide (aE.2.1=([101,110,116,114,121]:pC))))||true)==false)=true→((DG aE.2.2.1)).isSome=true) then if ((aE.2.2.2||(rV .str .bool aD ([]:pC)))==false)=true then if (((aE.2.2.2||(rV .str .bool aD ([]:pC)))==false)=true→((yN (sG (u7 (sZ ([]:pC) ([32]:pC)))))).isSome=true) then if (((aE.2.2.2||(rV .str .bool aD ([]:pC)))==false)=true→List.length (val (yN (sG (u7 (sZ ([]:pC) ([32]:pC))))))≤9223372036854775807) then (xL O Z aA aB aC (((((!decide (aE.1=(1:Int)))&&(!decide (aE.1=(2:Int))))||(!decide (aE.2.1=([101,110,116,114,121]:pC))))||true)||(val (DG aE.2.2.1))) ((aE.2.2.2||(rV .str .bool aD ([]:pC)))||(decide (((((Lib.compact (val (yN (sG (u7 (sZ ([]:pC) ([32]:pC))))))).length):Nat):Int)<((sG (u7 (sZ ([]:pC) ([32]:pC)))).length:Int)))) ((decide ((20:Int)<((sG (u7 (sZ ([]:pC) ([32]:pC)))).length:Int)))||(decide ((aB.2.2.2.1.length:Int)=(1000:Int)))) aD).bind fun bH=>if (!decide (bH.2=(0:Int)))=true then some ((O,bH.1,bH.2,aB.2.2.2.1,aC.1,aD)) else (BK ([([110,101,119]:pC),([102,117,122,122,121]:pC),([116,114,97,110,115,108,97,116,101,100]:pC),([114,101,118,105,101,119,101,100]:pC),([111,98,115,111,108,101,116,101]:pC)]:pD) ([]:pC)).bind fun bI=>(xT O bH.1 bH.2 (aB.1,(aB.2.1,(aB.2.2.1,(aB.2.2.2.1,())))) (aC.1,()) (tJ .str .bool ([]:pC) true aD)).bind fun bJ=>sJ (σ:=(Int×(List s9)×Int×Int×pC×pC×pD×(List r6))) (if (decide (aE.1=(1:Int)))=true then (z6 bJ bH.1 bH.2 (aB.1,(aB.2.1,(aB.2.2.1,(aB.2.2.2.1,())))) (aC.1,()) (([]:pC),(([]:pC),(([]:pC),(([]:pD),((sG (u7 (sZ ([]:pC) ([32]:pC)))),((max (0:Int) bI),(([]:List r6),()))))))) (tJ .str .bool ([]:pC) true aD)).bind fun bK=>some ((bK.1,bK.2.1,bK.2.2.1,bK.2.2.2.1,bK.2.2.2.2.1,bK.2.2.2.2.2.1,bK.2.2.2.2.2.2.1,bK.2.2.2.2.2.2.2)) else some ((((qU sM O (0:Int)).2.2.1+(((qU sM O (0:Int)).2.1).length:Int)),bJ,bH.1,bH.2,([]:pC),([]:pC),([]:pD),([]:List r6))) ) fun(bM,bN,bO,bP,bQ,bR,bS,bT)=>if (aB.2.2.2.1.length+([(([]:pC),(bQ,(bR,(bS,((sG (u7 (sZ ([]:pC) ([32]:pC)))),((max (0:Int) bI),(bT,())))))))]:List sF).length)*128≤140737488355328 then if (aC.1.length+([bM]:pL).length)*8≤140737488355328 then some ((bN,bO,bP,(aB.2.2.2.1++([(([]:pC),(bQ,(bR,(bS,((sG (u7 (sZ ([]:pC) ([32]:pC)))),((max (0:Int) bI),(bT,())))))))]:List sF)),(aC.1++([bM]:pL)),(tJ .str .bool ([]:pC) true aD))) else none else none else none else none else (xL O Z aA aB aC (((((!decide (aE.1=(1:Int)))&&(!decide (aE.1=(2:Int))))||(!decide (aE.2.1=([101,110,116,114,121]:pC))))||true)||(val (DG aE.2.2.1))) true ((decide ((20:Int)<((sG (u7 (sZ ([]:pC) ([32]:pC)))).length:Int)))||(decide ((aB.2.2.2.1.length:Int)=(1000:Int)))) aD).bind fun bU=>if (!decide (bU.2=(0:Int)))=true then some ((O,bU.1,bU.2,aB.2.2.2.1,aC.1,aD)) else (BK ([([110,101,119]:pC),([102,117,122,122,121]:pC),([116,114,97,110,115,108,97,116,101,100]:pC),([114,101,118,105,101,119,101,100]:pC),([111,98,115,111,108,101,116,101]:pC)]:pD) ([]:pC)).bind fun bV=>(xT O bU.1 bU.2 (aB.1,(aB.2.1,(aB.2.2.1,(aB.2.2.2.1,())))) (aC.1,()) (tJ .str .bool ([]:pC) true aD)).bind fun bW=>sJ (σ:=(Int×(List s9)×Int×Int×pC×pC×pD×(List r6))) (if (decide (aE.1=(1:Int)))=true then (z6 bW bU.1 bU.2 (aB.1,(aB.2.1,(aB.2.2.1,(aB.2.2.2.1,())))) (aC.1,()) (([]:pC),(([]:pC),(([]:pC),(([]:pD),((sG (u7 (sZ ([]:pC) ([32]:pC)))),((max (0:Int) bV),(([]:List r6),()))))))) (tJ .str .bool ([]:pC) true aD)).bind fun bX=>some ((bX.1,bX.2.1,bX.2.2.1,bX.2.2.2.1,bX.2.2.2.2.1,bX.2.2.2.2.2.1,bX.2.2.2.2.2.2.1,bX.2.2.2.2.2.2.2)) else some ((((qU sM O (0:Int)).2.2.1+(((qU sM O (0:Int)).2.1).length:Int)),bW,bU.1,bU.2,([]:pC),([]:pC),([]:pD),([]:List r6))) ) fun(bZ,cA,cB,cC,cD,cE,cF,cG)=>if (aB.2.2.2.1.length+([(([]:pC),(cD,(cE,(cF,((sG (u7 (sZ ([]:pC) ([32]:pC)))),((max (0:Int) bV),(cG,())))))))]:List sF).length)*128≤140737488355328 then if (aC.1.length+([bZ]:pL).length)*8≤140737488355328 then some ((cA,cB,cC,(aB.2.2.2.1++([(([]:pC),(cD,(cE,(cF,((sG (u7 (sZ ([]:pC) ([32]:pC)))),((max (0:Int) bV),(cG,())))))))]:List sF)),(aC.1++([bZ]:pL)),(tJ .str .bool ([]:pC) true aD))) else none else none else none else none
section
variable (O:(List s9)) (Z:Int) (aA:Int) (aB:sV) (aC:(pL×Unit)) (aD:Nat) (aE:Nat) (aF:pJ)
abbrev a7O:List qB:=[(.val .ref (some (0,0)),none)]
abbrev a7P:List q9:=[.cells sN (O,(Z,(aA,(aB,((some 3),aC))))) [(6,1),(8,2)],.grow 53 7 aD,.grow 3 1 aE,.map .str .bool aF]
@[go_sem] def a7Q:qH:=⟨[aD=(aB.2.2.2.1.length),aE=(aC.1.length),((BR O Z aA aB aC aF)).isSome=true],[],[.cells sN ((val (BR O Z aA aB aC aF)).1,((val (BR O Z aA aB aC aF)).2.1,((val (BR O Z aA aB aC aF)).2.2.1,((aB.1,(aB.2.1,(aB.2.2.1,((val (BR O Z aA aB aC aF)).2.2.2.1,())))),((some 3),((val (BR O Z aA aB aC aF)).2.2.2.2.1,())))))) [(6,1),(8,2)],.grow 53 7 (((val (BR O Z aA aB aC aF)).2.2.2.1).length),.grow 3 1 (((val (BR O Z aA aB aC aF)).2.2.2.2.1).length),.map .str .bool ((val (BR O Z aA aB aC aF)).2.2.2.2.2)]⟩
def aFn:List qB→List q9→Option qH:=rP (V:=((List s9)×Int×Int×sV×(pL×Unit)×Nat×Nat×pJ)) (fun x=>a7O) (fun x=>a7P x.1 x.2.1 x.2.2.1 x.2.2.2.1 x.2.2.2.2.1 x.2.2.2.2.2.1 x.2.2.2.2.2.2.1 x.2.2.2.2.2.2.2) fun x=>a7Q x.1 x.2.1 x.2.2.1 x.2.2.2.1 x.2.2.2.2.1 x.2.2.2.2.2.1 x.2.2.2.2.2.2.1 x.2.2.2.2.2.2.2
@[go_sem] def aQ8:aFn (no_index a7O) (no_index (a7P O Z aA aB aC aD aE aF))=some (a7Q O Z aA aB aC aD aE aF):=rR (fun⟨a0,a1,a2,a3,a4,a5,a6,a7⟩ ⟨b0,b1,b2,b3,b4,b5,b6,b7⟩ h1 h2=>by cases h1;cases h2;rfl) (O,Z,aA,aB,aC,aD,aE,aF)
end
@[go_sem] abbrev aFo:Nat×qW:=(54,⟨[.p sN [6,8]],aFn,[(0,7,.m)],[],none⟩)
def uD:rI Tryz.prog [xK,B0,sL,wE,CL,IT,DA,zT,IW,GR,BI,CM,yZ,FK] (rJ [HG,NY,WW,KV,a5P,a4E,KT,EB,RK,WT,IY,a7G]):=⟨⟨yA,⟨CN,⟨sO,⟨x4,⟨E8,⟨NK,⟨FI,⟨AY,⟨NL,⟨L4,⟨DB,⟨E9,⟨zU,⟨IV,trivial⟩⟩⟩⟩⟩⟩⟩⟩⟩⟩⟩⟩⟩⟩,qK JC (qK RL (qK a4S (qK WJ (qK aEk (qK aDO (qK WH (qK FL (qK WV (qK a2W (qK L9 (qK aFi rN))))))))))),rL⟩
def aMo:rI Tryz.prog [xK,B0,sL,wE,CL,IT,DA,zT,IW,GR,BI,CM,yZ,FK] (rJ [HG,WW,KV,a5P,a4E,KT,EB,RK,WT,IY,a7G,O0]):=⟨⟨yA,⟨CN,⟨sO,⟨x4,⟨E8,⟨NK,⟨FI,⟨AY,⟨NL,⟨L4,⟨DB,⟨E9,⟨zU,⟨IV,trivial⟩⟩⟩⟩⟩⟩⟩⟩⟩⟩⟩⟩⟩⟩,qK JC (qK a4S (qK WJ (qK aEk (qK aDO (qK WH (qK FL (qK WV (qK a2W (qK L9 (qK aFi (qK RM rN))))))))))),rL⟩
def aMp:r5 Tryz.prog aFo:=by
 refine rS uD Tryz.func54 (c:=_) rfl (N:=131) pT (ts:=[]) rfl (fun _ _=>rfl) ?_;intro⟨O,Z,aA,aB,aC,aD,aE,aF⟩ hs hrow;dsimp only[a7O,a7P,a7Q,rM,qM,qY,r7,rO,Nat.reduceAdd] at hs hrow|-;obtain⟨rfl,rfl,hz⟩:=hs;obtain⟨z0,e⟩:=aRh.1 hz
 try rw[rY e]
 clear hz;unfold BR at e;obtain⟨aG,hv1,hw1,e⟩:=qQ e
 try simp only[go_sem] at hw1
 refine q8 uD ?_ (hp:=by exact⟨pS,pS,pS,pS,pS,pS,(qP hv1)⟩) (h:=by simp only[go_sem,hw1];rfl)
 refine qS ?_;by_cases hva1:((wF (aG.1,(aG.2.1,(aG.2.2.1,(aG.2.2.2,())))) ([105,100]:pC) ([115,116,97,116,101,32,102,108,97,103,115]:pC))).isSome=true
 .rw[aRf hva1] at e;obtain⟨aH,hv2,hw2,e⟩:=qQ e
  try simp only[go_sem] at hw2
  refine rF uD ?_ (hp:=by exact(qP hv2)) (h:=by simp only[go_sem,hw2];rfl);refine qO ?_;obtain⟨aI,hv3,hw3,e⟩:=qQ e
  try simp only[go_sem] at hw3
  refine q8 uD ?_ (hp:=by exact(qP hv3)) (h:=by simp only[go_sem,hw3];rfl);obtain⟨hg4,e⟩:=qG e;refine q8 uD ?_ (hp:=by exact⟨pS,hg4⟩)
  obtain⟨hg5,e⟩:=qG e;refine q8 uD ?_ (hp:=by exact⟨id,id,sY,id,id,sU,id,sU,id,id,hg5,sU⟩);refine qS ?_;refine QF 420 rfl (by repeat' (first|exact trivial|apply And.intro|exact(fun _=>rfl) |exact(fun h=>absurd h pG))) ?_
  by_cases hgs2:((aG.2.2.2||(rV .str .bool aF (rV .str .str aH ([105,100]:pC))))==false)=true
  .rw[aRf hgs2] at e;obtain⟨hg6,e⟩:=qG e;obtain⟨hg7,e⟩:=qG e;obtain⟨aJ,hv8,hw8,e⟩:=qQ e
   try simp only[go_sem] at hw8
   refine AW uD ?_ (hp:=by exact⟨id,id,id,id,id,id,sU,hgs2,id,hg6,hgs2,fun _=>(by first|rfl|trivial),hg7,id,id,id,sU,id,id,id,id,id,id,sU,pS,pS,pS,pS,pS,(qP hv8)⟩) (h:=by simp only[go_sem,hw8];rfl)
   refine qO (qS ?_);refine q8 uD ?_;refine qV e (fun e hc3=> ?_) (fun e hc3=> ?_)
   .refine qR (rQ ?_);cases e;exact pE [(0,0),(1,1),(2,2),(3,3)]
   .refine r8 (qO ?_);refine vQ uD ?_;obtain⟨aK,hv9,hw9,e⟩:=qQ e
    try simp only[go_sem] at hw9
    refine vQ uD ?_ (hp:=by exact(qP hv9)) (h:=by simp only[go_sem,hw9];rfl);obtain⟨aL,hv10,hw10,e⟩:=qQ e
    try simp only[go_sem] at hw10
    refine q8 uD ?_ (hp:=by exact⟨pS,pS,pS,pS,pS,(qP hv10)⟩) (h:=by simp only[go_sem,hw10];rfl)
    refine qS ?_;refine q8 uD ?_;obtain⟨y1,f,e⟩:=qI e;refine yY (fun s=>s=(fun x=>⟨[(0,(.val .ref (some (0,0)),none)),(8,(.val .ref (some (4,0)),none)),(9,(.val (.int .i64) x.1,none))],[(0,.cells sN (x.2.1,(x.2.2.1,(x.2.2.2.1,((aB.1,(aB.2.1,(aB.2.2.1,(aB.2.2.2.1,())))),((some 3),(aC.1,())))))) [(6,1),(8,2)]),(1,.grow 53 7 (aB.2.2.2.1.length)),(2,.grow 3 1 (aC.1.length)),(3,.map .str .bool (tJ .str .bool (rV .str .str aH ([105,100]:pC)) true aF)),(4,.cells tU ((rV .str .str aH ([105,100]:pC)),(x.2.2.2.2.1,(x.2.2.2.2.2.1,(x.2.2.2.2.2.2.1,((sG (u7 (sZ (rV .str .str aH ([102,108,97,103,115]:pC)) ([32]:pC)))),((max (0:Int) aK),(x.2.2.2.2.2.2.2,()))))))) [(3,5)]),(5,.grow 9 1 (x.2.2.2.2.2.2.1.length))],6,131,4⟩) y1) ?_ ?_
    .refine qV f (fun f hc4=> ?_) (fun f hc4=> ?_)
     .obtain⟨aM,hv11,hw11,f⟩:=qQ f
      try simp only[go_sem] at hw11
      refine rF uD ?_ (hp:=by exact⟨pS,pS,pS,pS,pS,pS,(qP hv11)⟩) (h:=by simp only[go_sem,hw11];rfl)
      cases f;exact tY ⟨⟨[0,8,9],[(0,0),(1,1),(2,2),(3,3),(4,3204),(5,3236)]⟩,by rfl⟩
     .refine r8 ?_;cases f;exact tY ⟨⟨[0,8,9],[(0,0),(1,1),(2,2),(3,3),(4,3204),(5,3236)]⟩,by rfl⟩
    .rintro _ rfl;obtain⟨aN,aO,aP,aQ,aR,aS,aT,aU⟩:=y1;dsimp only at e|-;refine qO ?_;obtain⟨hg12,e⟩:=qG e;obtain⟨hg13,e⟩:=qG e;refine AW uD ?_ (hp:=by exact⟨pS,hg12,pS,hg13⟩)
     cases e;exact pE [(0,0),(1,1),(2,2),(3,3)]
  rw[aRk hgs2] at e;obtain⟨aV,hv14,hw14,e⟩:=qQ e
  try simp only[go_sem] at hw14
  refine AW (a1d (l:=[1000000026]) uD pU) ?_ (hp:=by exact⟨id,id,id,id,id,id,sU,by first|exact Bool.eq_false_iff.2 hgs2|simpa using hgs2|simpa[r7] using hgs2,by first|exact Bool.eq_false_iff.2 hgs2|simpa using hgs2|simpa[r7] using hgs2,by first|exact Bool.eq_false_iff.2 hgs2|simpa using hgs2|simpa[r7] using hgs2,by first|exact Bool.eq_false_iff.2 hgs2|simpa using hgs2|simpa[r7] using hgs2,by first|exact Bool.eq_false_iff.2 hgs2|simpa using hgs2|simpa[r7] using hgs2,by first|exact Bool.eq_false_iff.2 hgs2|simpa using hgs2|simpa[r7] using hgs2,by first|exact Bool.eq_false_iff.2 hgs2|simpa using hgs2|simpa[r7] using hgs2,by first|exact Bool.of_not_eq_false (fun d=>hgs2 (by rw[d];rfl)) |exact Bool.of_not_eq_true (fun d=>hgs2 (by rw[d];rfl)) |simpa using hgs2|simpa[r7] using hgs2,id,id,id,id,id,id,sU,pS,pS,pS,pS,pS,(qP hv14)⟩) (h:=by simp only[go_sem,hw14];rfl)
  refine qO (qS ?_);refine q8 uD ?_;refine qV e (fun e hc5=> ?_) (fun e hc5=> ?_)
  .refine qR (rQ ?_);cases e;exact pE [(0,0),(1,1),(2,2),(3,3)]
  .refine r8 (qO ?_);refine vQ uD ?_;obtain⟨aW,hv15,hw15,e⟩:=qQ e
   try simp only[go_sem] at hw15
   refine vQ uD ?_ (hp:=by exact(qP hv15)) (h:=by simp only[go_sem,hw15];rfl);obtain⟨aX,hv16,hw16,e⟩:=qQ e
   try simp only[go_sem] at hw16
   refine q8 uD ?_ (hp:=by exact⟨pS,pS,pS,pS,pS,(qP hv16)⟩) (h:=by simp only[go_sem,hw16];rfl)
   refine qS ?_;refine q8 uD ?_;obtain⟨y1,f,e⟩:=qI e;refine yY (fun s=>s=(fun x=>⟨[(0,(.val .ref (some (0,0)),none)),(8,(.val .ref (some (4,0)),none)),(9,(.val (.int .i64) x.1,none))],[(0,.cells sN (x.2.1,(x.2.2.1,(x.2.2.2.1,((aB.1,(aB.2.1,(aB.2.2.1,(aB.2.2.2.1,())))),((some 3),(aC.1,())))))) [(6,1),(8,2)]),(1,.grow 53 7 (aB.2.2.2.1.length)),(2,.grow 3 1 (aC.1.length)),(3,.map .str .bool (tJ .str .bool (rV .str .str aH ([105,100]:pC)) true aF)),(4,.cells tU ((rV .str .str aH ([105,100]:pC)),(x.2.2.2.2.1,(x.2.2.2.2.2.1,(x.2.2.2.2.2.2.1,((sG (u7 (sZ (rV .str .str aH ([102,108,97,103,115]:pC)) ([32]:pC)))),((max (0:Int) aW),(x.2.2.2.2.2.2.2,()))))))) [(3,5)]),(5,.grow 9 1 (x.2.2.2.2.2.2.1.length))],6,131,4⟩) y1) ?_ ?_
   .refine qV f (fun f hc6=> ?_) (fun f hc6=> ?_)
    .obtain⟨aY,hv17,hw17,f⟩:=qQ f
     try simp only[go_sem] at hw17
     refine rF uD ?_ (hp:=by exact⟨pS,pS,pS,pS,pS,pS,(qP hv17)⟩) (h:=by simp only[go_sem,hw17];rfl)
     cases f;exact tY ⟨⟨[0,8,9],[(0,0),(1,1),(2,2),(3,3),(4,3204),(5,3236)]⟩,by rfl⟩
    .refine r8 ?_;cases f;exact tY ⟨⟨[0,8,9],[(0,0),(1,1),(2,2),(3,3),(4,3204),(5,3236)]⟩,by rfl⟩
   .rintro _ rfl;obtain⟨aZ,bA,bB,bC,bD,bE,bF,bG⟩:=y1;dsimp only at e|-;refine qO ?_;obtain⟨hg18,e⟩:=qG e;obtain⟨hg19,e⟩:=qG e;refine AW uD ?_ (hp:=by exact⟨pS,hg18,pS,hg19⟩)
    cases e;exact pE [(0,0),(1,1),(2,2),(3,3)]
 rw[aRk hva1] at e;obtain⟨bH,hv20,hw20,e⟩:=qQ e
 try simp only[go_sem] at hw20
 refine rF aMo ?_ (hp:=by exact(qP hv20)) (h:=by simp only[go_sem,hw20];rfl);refine qO ?_;obtain⟨bI,hv21,hw21,e⟩:=qQ e
 try simp only[go_sem] at hw21
 refine q8 uD ?_ (hp:=by exact(qP hv21)) (h:=by simp only[go_sem,hw21];rfl);obtain⟨hg22,e⟩:=qG e;refine q8 uD ?_ (hp:=by exact⟨pS,hg22⟩)
 obtain⟨hg23,e⟩:=qG e;refine q8 uD ?_ (hp:=by exact⟨id,id,sY,id,id,sU,id,sU,id,id,hg23,(fun d=>by first|exact sU d|exact rfl|exact d.elim|simp_all)⟩)
 refine qS ?_;refine QF 420 rfl (by repeat' (first|exact trivial|apply And.intro|exact(fun _=>rfl) |exact(fun h=>absurd h pG))) ?_
 by_cases hgs7:((aG.2.2.2||(rV .str .bool aF ([]:pC)))==false)=true
 .rw[aRf hgs7] at e;obtain⟨hg24,e⟩:=qG e;obtain⟨hg25,e⟩:=qG e;obtain⟨bJ,hv26,hw26,e⟩:=qQ e
  try simp only[go_sem] at hw26
  refine AW uD ?_ (hp:=by exact⟨id,id,id,id,id,id,sU,hgs7,id,hg24,hgs7,fun _=>(by first|rfl|trivial),hg25,id,id,id,sU,id,id,id,id,id,id,sU,pS,pS,pS,pS,pS,(qP hv26)⟩) (h:=by simp only[go_sem,hw26];rfl)
  refine qO (qS ?_);refine q8 uD ?_;refine qV e (fun e hc8=> ?_) (fun e hc8=> ?_)
  .refine qR (rQ ?_);cases e;exact pE [(0,0),(1,1),(2,2),(3,3)]
  .refine r8 (qO ?_);refine vQ uD ?_;obtain⟨bK,hv27,hw27,e⟩:=qQ e
   try simp only[go_sem] at hw27
   refine vQ uD ?_ (hp:=by exact(qP hv27)) (h:=by simp only[go_sem,hw27];rfl);obtain⟨bM,hv28,hw28,e⟩:=qQ e
   try simp only[go_sem] at hw28
   refine q8 uD ?_ (hp:=by exact⟨pS,pS,pS,pS,pS,(qP hv28)⟩) (h:=by simp only[go_sem,hw28];rfl)
   refine qS ?_;refine q8 uD ?_;obtain⟨y1,f,e⟩:=qI e;refine yY (fun s=>s=(fun x=>⟨[(0,(.val .ref (some (0,0)),none)),(8,(.val .ref (some (4,0)),none)),(9,(.val (.int .i64) x.1,none))],[(0,.cells sN (x.2.1,(x.2.2.1,(x.2.2.2.1,((aB.1,(aB.2.1,(aB.2.2.1,(aB.2.2.2.1,())))),((some 3),(aC.1,())))))) [(6,1),(8,2)]),(1,.grow 53 7 (aB.2.2.2.1.length)),(2,.grow 3 1 (aC.1.length)),(3,.map .str .bool (tJ .str .bool ([]:pC) true aF)),(4,.cells tU (([]:pC),(x.2.2.2.2.1,(x.2.2.2.2.2.1,(x.2.2.2.2.2.2.1,((sG (u7 (sZ ([]:pC) ([32]:pC)))),((max (0:Int) bK),(x.2.2.2.2.2.2.2,()))))))) [(3,5)]),(5,.grow 9 1 (x.2.2.2.2.2.2.1.length))],6,131,4⟩) y1) ?_ ?_
   .refine qV f (fun f hc9=> ?_) (fun f hc9=> ?_)
    .obtain⟨bN,hv29,hw29,f⟩:=qQ f
     try simp only[go_sem] at hw29
     refine rF uD ?_ (hp:=by exact⟨pS,pS,pS,pS,pS,pS,(qP hv29)⟩) (h:=by simp only[go_sem,hw29];rfl)
     cases f;exact tY ⟨⟨[0,8,9],[(0,0),(1,1),(2,2),(3,3),(4,3204),(5,3236)]⟩,by rfl⟩
    .refine r8 ?_;cases f;exact tY ⟨⟨[0,8,9],[(0,0),(1,1),(2,2),(3,3),(4,3204),(5,3236)]⟩,by rfl⟩
   .rintro _ rfl;obtain⟨bO,bP,bQ,bR,bS,bT,bU,bV⟩:=y1;dsimp only at e|-;refine qO ?_;obtain⟨hg30,e⟩:=qG e;obtain⟨hg31,e⟩:=qG e;refine AW uD ?_ (hp:=by exact⟨pS,hg30,pS,hg31⟩)
    cases e;exact pE [(0,0),(1,1),(2,2),(3,3)]
 rw[aRk hgs7] at e;obtain⟨bW,hv32,hw32,e⟩:=qQ e
 try simp only[go_sem] at hw32
 refine AW (a1d (l:=[1000000026]) uD pU) ?_ (hp:=by exact⟨id,id,id,id,id,id,sU,by first|exact Bool.eq_false_iff.2 hgs7|simpa using hgs7|simpa[r7] using hgs7,by first|exact Bool.eq_false_iff.2 hgs7|simpa using hgs7|simpa[r7] using hgs7,by first|exact Bool.eq_false_iff.2 hgs7|simpa using hgs7|simpa[r7] using hgs7,by first|exact Bool.eq_false_iff.2 hgs7|simpa using hgs7|simpa[r7] using hgs7,by first|exact Bool.eq_false_iff.2 hgs7|simpa using hgs7|simpa[r7] using hgs7,by first|exact Bool.eq_false_iff.2 hgs7|simpa using hgs7|simpa[r7] using hgs7,by first|exact Bool.eq_false_iff.2 hgs7|simpa using hgs7|simpa[r7] using hgs7,by first|exact Bool.of_not_eq_false (fun d=>hgs7 (by rw[d];rfl)) |exact Bool.of_not_eq_true (fun d=>hgs7 (by rw[d];rfl)) |simpa using hgs7|simpa[r7] using hgs7,id,id,id,id,id,id,sU,pS,pS,pS,pS,pS,(qP hv32)⟩) (h:=by simp only[go_sem,hw32];rfl)
 refine qO (qS ?_);refine q8 uD ?_;refine qV e (fun e hc10=> ?_) (fun e hc10=> ?_)
 .refine qR (rQ ?_);cases e;exact pE [(0,0),(1,1),(2,2),(3,3)]
 .refine r8 (qO ?_);refine vQ uD ?_;obtain⟨bX,hv33,hw33,e⟩:=qQ e
  try simp only[go_sem] at hw33
  refine vQ uD ?_ (hp:=by exact(qP hv33)) (h:=by simp only[go_sem,hw33];rfl);obtain⟨bZ,hv34,hw34,e⟩:=qQ e
  try simp only[go_sem] at hw34
  refine q8 uD ?_ (hp:=by exact⟨pS,pS,pS,pS,pS,(qP hv34)⟩) (h:=by simp only[go_sem,hw34];rfl)
  refine qS ?_;refine q8 uD ?_;obtain⟨y1,f,e⟩:=qI e;refine yY (fun s=>s=(fun x=>⟨[(0,(.val .ref (some (0,0)),none)),(8,(.val .ref (some (4,0)),none)),(9,(.val (.int .i64) x.1,none))],[(0,.cells sN (x.2.1,(x.2.2.1,(x.2.2.2.1,((aB.1,(aB.2.1,(aB.2.2.1,(aB.2.2.2.1,())))),((some 3),(aC.1,())))))) [(6,1),(8,2)]),(1,.grow 53 7 (aB.2.2.2.1.length)),(2,.grow 3 1 (aC.1.length)),(3,.map .str .bool (tJ .str .bool ([]:pC) true aF)),(4,.cells tU (([]:pC),(x.2.2.2.2.1,(x.2.2.2.2.2.1,(x.2.2.2.2.2.2.1,((sG (u7 (sZ ([]:pC) ([32]:pC)))),((max (0:Int) bX),(x.2.2.2.2.2.2.2,()))))))) [(3,5)]),(5,.grow 9 1 (x.2.2.2.2.2.2.1.length))],6,131,4⟩) y1) ?_ ?_
  .refine qV f (fun f hc11=> ?_) (fun f hc11=> ?_)
   .obtain⟨cA,hv35,hw35,f⟩:=qQ f
    try simp only[go_sem] at hw35
    refine rF uD ?_ (hp:=by exact⟨pS,pS,pS,pS,pS,pS,(qP hv35)⟩) (h:=by simp only[go_sem,hw35];rfl)
    cases f;exact tY ⟨⟨[0,8,9],[(0,0),(1,1),(2,2),(3,3),(4,3204),(5,3236)]⟩,by rfl⟩
   .refine r8 ?_;cases f;exact tY ⟨⟨[0,8,9],[(0,0),(1,1),(2,2),(3,3),(4,3204),(5,3236)]⟩,by rfl⟩
  .rintro _ rfl;obtain⟨cB,cC,cD,cE,cF,cG,cH,cI⟩:=y1;dsimp only at e|-;refine qO ?_;obtain⟨hg36,e⟩:=qG e;obtain⟨hg37,e⟩:=qG e;refine AW uD ?_ (hp:=by exact⟨pS,hg36,pS,hg37⟩)
   cases e;exact pE [(0,0),(1,1),(2,2),(3,3)]
attribute [irreducible] BR
end
end Go.Proofs.YtkpflnijijccpaaGreatDoor
