/- Packed by a program of mine (wip/tools/pack.py): the same texts with short names and few blanks. -/
import Derived.KernelRfl
import Derived.Test.YtcpbaddnmpeipaaGreatDoorI03
set_option linter.defProp false
set_option linter.unusedVariables false
set_option linter.unusedSimpArgs false
set_option linter.unusedSectionVars false
set_option maxRecDepth 100000
set_option maxHeartbeats 4000000
namespace Go.Proofs.YtcpbaddnmpeipaaGreatDoor
open Vc
open Tryz
noncomputable section
def KZ (O:sN):Option Bool:=if ((((decide (O.1=([]:pL)))||(decide ((200:Int)<(O.1.length:Int))))==false)=true→((EC O.1)).isSome=true) then if (((((decide (O.1=([]:pL)))||(decide ((200:Int)<(O.1.length:Int))))||(!((decide ((O.1.length:Int)≤(4000:Int)))&&(Lib.validD O.1))))||(decide (O.2.2.2.2.2.1<(0:Int))))||(decide ((4:Int)<O.2.2.2.2.2.1)))=true then some (false) else (EC O.2.1).bind fun Z=>if ((((decide ((O.2.1.length:Int)≤(4000:Int)))&&(Lib.validD O.2.1))==true)=true→((EC O.2.2.1)).isSome=true) then if (((((decide ((O.2.1.length:Int)≤(4000:Int)))&&(Lib.validD O.2.1))&&((decide ((O.2.2.1.length:Int)≤(4000:Int)))&&(Lib.validD O.2.2.1)))==true)=true→((NV O.2.2.2.1)).isSome=true) then if ((((((decide ((O.2.1.length:Int)≤(4000:Int)))&&(Lib.validD O.2.1))&&((decide ((O.2.2.1.length:Int)≤(4000:Int)))&&(Lib.validD O.2.2.1)))&&((decide ((O.2.2.2.1.length:Int)≤(20:Int)))&&(!(val (CI O.2.2.2.1)))))==true)=true→((IE O.2.2.2.2.1)).isSome=true) then if (((((((decide ((O.2.1.length:Int)≤(4000:Int)))&&(Lib.validD O.2.1))&&((decide ((O.2.2.1.length:Int)≤(4000:Int)))&&(Lib.validD O.2.2.1)))&&((decide ((O.2.2.2.1.length:Int)≤(20:Int)))&&(!(val (CI O.2.2.2.1)))))&&(val (IE O.2.2.2.2.1)))==true)=true→((GT O.2.2.2.2.2.2.1)).isSome=true) then some (((((((decide ((O.2.1.length:Int)≤(4000:Int)))&&(Lib.validD O.2.1))&&((decide ((O.2.2.1.length:Int)≤(4000:Int)))&&(Lib.validD O.2.2.1)))&&((decide ((O.2.2.2.1.length:Int)≤(20:Int)))&&(!(val (CI O.2.2.2.1)))))&&(val (IE O.2.2.2.2.1)))&&(val (GT O.2.2.2.2.2.2.1)))) else none else none else none else none else none
section
variable (O:sN)
abbrev Do:List qK:=[(.val sR O,none)]
abbrev Dp:List qJ:=[]
@[go_sem] def Dq:qT:=⟨[((KZ O)).isSome=true],[(.val .bool (val (KZ O)),none)],[]⟩
def a0o:List qK→List qJ→Option qT:=rX (V:=sN) (Do) (fun x=>Dp) fun x=>Dq x
@[go_sem] def aFd:a0o (no_index (Do O)) (no_index Dp)=some (Dq O):=rZ (fun a0 b0 h1 h2=>by cases h1;cases h2;rfl) O
end
@[go_sem] abbrev a0p:Nat×rH:=(69,⟨[.v],a0o,[],[],none⟩)
def TJ:rF prog [vO,sO,x6,wE,CF] (rG [ND,Dm,Vj,Bg]):=⟨⟨w4,⟨sP,⟨y5,⟨xI,⟨E8,trivial⟩⟩⟩⟩⟩,qW SZ (qW a0n (qW a8k (qW Zm rU))),rI⟩
def a88:rL prog a0p:=by
 refine s5 TJ func69 (c:=_) rfl (N:=51) qC (ts:=[(2,none)]) rfl (fun _ _=>rfl) ?_;intro O hs hrow;dsimp only[Do,Dp,Dq,rV,r5,rD,rJ,rW,Nat.reduceAdd] at hs hrow|-;have hz:=hs;obtain⟨z0,e⟩:=aFB.1 hz
 try rw[sC e]
 clear hz hs;unfold KZ at e;refine qI TJ ?_;refine qV ?_;obtain⟨X,e⟩:=qP e;refine qI TJ ?_ (hp:=by exact⟨id,id,id,tC,id,id,X,id,tC,id,id,tC,id,id,tC⟩);refine qZ e ?_ ?_<;>intro e Y
 .refine qI TJ ?_;refine qU (rC ?_);cases e;exact pN []
 refine r9 (qS ?_);obtain⟨Z,hv2,hw2,e⟩:=rQ e
 try simp only[go_sem] at hw2
 obtain⟨W,V,e⟩:=pK e;obtain⟨U,T,e⟩:=pK e;refine qI TJ ?_ (hp:=by exact⟨rO hv2,id,id,W,sJ,id,id,V,sJ,id,id,U,sJ,id,id,T,sJ⟩) (h:=by simp only[go_sem,hw2];rfl);refine qU ?_;cases e;exact pN []
def TK (O:pV):(Int×pV)→Option ((Int×pV)⊕pV):=fun(Z,aA)=>if (decide (Z<(O.length:Int)))=true then if 0≤Z∧Z<(O.length:Int) then if (!(((decide ((0:Int)≤(qR (.int .i64) O Z)))&&(decide ((qR (.int .i64) O Z)≤(1114111:Int))))&&((decide ((qR (.int .i64) O Z)<(55296:Int)))||(decide ((57343:Int)<(qR (.int .i64) O Z))))))=true then (GV (aA,()) (IntKind.wrap .i32 (65533:Int))).bind fun aB=>if qM (Z+(1:Int)) then some (.inl ((Z+(1:Int)),aB.2)) else none else (GV (aA,()) (IntKind.wrap .i32 (qR (.int .i64) O Z))).bind fun aC=>if qM (Z+(1:Int)) then some (.inl ((Z+(1:Int)),aC.2)) else none else none else some (.inr aA)
def Q6 (O:pV):Option pL:=uO (s8 (TK O) ((0:Int),([]:pV))) fun Z=>some ((tG Z))
section
variable (O:pV)
abbrev Dr:List qK:=[(.val (.list (.int .i64)) O,none)]
abbrev Ds:List qJ:=[]
@[go_sem] def Dt:qT:=⟨[((Q6 O)).isSome=true],[(.val .str (val (Q6 O)),none)],[]⟩
def a0q:List qK→List qJ→Option qT:=rX (V:=pV) (Dr) (fun x=>Ds) fun x=>Dt x
@[go_sem] def aFe:a0q (no_index (Dr O)) (no_index Ds)=some (Dt O):=rZ (fun a0 b0 h1 h2=>by cases h1;cases h2;rfl) O
end
@[go_sem] abbrev a0r:Nat×rH:=(226,⟨[.v],a0q,[],[],none⟩)
def DI:rF prog [vO,SK,N2,I9] (rG [Wp,Zu,MY]):=⟨⟨w4,⟨ms,⟨SL,⟨N1,trivial⟩⟩⟩⟩,qW a8v (qW a84 (qW SE rU)),rI⟩
def a89:rL prog a0r:=by
 refine s5 DI func226 (c:=_) rfl (N:=20) qC (ts:=[(2,none)]) rfl (fun _ _=>rfl) ?_;intro O hs hrow;dsimp only[Dr,Ds,Dt,rV,r5,rD,rJ,rW,Nat.reduceAdd] at hs hrow|-;have hz:=hs;obtain⟨z0,e⟩:=aFB.1 hz
 try rw[sC e]
 clear hz hs;unfold Q6 at e;refine qI DI ?_;refine qI DI ?_;refine qV (qI DI ?_);refine sA ?_;obtain⟨Z,hy1,e⟩:=r8 e;refine uE 0 (fun s=>s=(fun x=>⟨[(3,.val .ref (some (0,0)),none)],[(0,.cells wZ ((some (0,0)),(x,())) [(1,1)]),(1,.grow 5 1 (x.length))],2,20,0⟩) Z) ?_ ?_
 .refine uA hy1 (fun x=>⟨[(3,.val .ref (some (0,0)),none),(6,.val (.list (.int .i64)) O,none),(7,.val (.int .i64) (O.length:Int),none),(8,.val (.int .i64) x.1,none)],[(0,.cells wZ ((some (0,0)),(x.2,())) [(1,1)]),(1,.grow 5 1 (x.2.length))],2,20,0⟩) ⟨[3,6,7,8],[(0,32),(1,33)]⟩ qD ?_;intro x1 w1 n1 f g;obtain⟨aA,aB⟩:=x1;unfold TK at f;dsimp only at f|-;refine qI DI ?_;refine qV (qZ f (fun f Y=>?_) (fun f Y=>?_))
  .refine r9 (qS (qV (sA ?_)));obtain⟨X,f⟩:=qP f;refine qI DI ?_ (hp:=by exact X);refine qV (qI DI ?_);refine qZ f ?_ ?_<;>intro f Y
   .refine rP DI ?_;refine qS ?_;obtain⟨aC,hv2,hw2,f⟩:=rQ f
    try simp only[go_sem] at hw2
    refine rP DI ?_ (hp:=by exact⟨qB,(rO hv2)⟩) (h:=by simp only[go_sem,hw2];rfl)
    refine sI (qS ?_);obtain⟨W,f⟩:=qP f;refine rP DI ?_ (hp:=by exact W);cases f;exact tB ⟨⟨[3,6,7,8],[(0,0),(1,1)]⟩,_,by rfl,g⟩
   refine r9 (qS ?_);obtain⟨aD,hv4,hw4,f⟩:=rQ f
   try simp only[go_sem] at hw4
   refine rP DI ?_ (hp:=by exact⟨qB,(rO hv4)⟩) (h:=by simp only[go_sem,hw4];rfl)
   refine sI (qS ?_);obtain⟨V,f⟩:=qP f;refine rP DI ?_ (hp:=by exact V);cases f;exact tB ⟨⟨[3,6,7,8],[(0,0),(1,1)]⟩,_,by rfl,g⟩
  refine tY (tV (tZ ?_));cases f;cases g;exact uF ⟨⟨[3],[(0,0),(1,1)]⟩,by rfl⟩
 rintro _ rfl;dsimp only at e|-;refine tX (qS ?_);refine qI DI ?_ (hp:=by first|rfl|trivial)
 refine qU ?_;cases e;exact pN []
attribute [irreducible] KZ Q6
end
noncomputable section
def Q7 (O:sN):Option Unit:=if ((((!decide (O.1=([]:pL)))&&(decide ((O.1.length:Int)≤(200:Int))))==true)=true→((GU O.1)).isSome=true) then if (((((!decide (O.1=([]:pL)))&&(decide ((O.1.length:Int)≤(200:Int))))&&((decide ((O.1.length:Int)≤(4000:Int)))&&(val (uR O.1))))==true)=true→((GU O.2.1)).isSome=true) then if ((((((!decide (O.1=([]:pL)))&&(decide ((O.1.length:Int)≤(200:Int))))&&((decide ((O.1.length:Int)≤(4000:Int)))&&(val (uR O.1))))&&((decide ((O.2.1.length:Int)≤(4000:Int)))&&(val (uR O.2.1))))==true)=true→((GU O.2.2.1)).isSome=true) then if (((((((!decide (O.1=([]:pL)))&&(decide ((O.1.length:Int)≤(200:Int))))&&((decide ((O.1.length:Int)≤(4000:Int)))&&(val (uR O.1))))&&((decide ((O.2.1.length:Int)≤(4000:Int)))&&(val (uR O.2.1))))&&((decide ((O.2.2.1.length:Int)≤(4000:Int)))&&(val (uR O.2.2.1))))==true)=true→((BT O.2.2.2.1)).isSome=true) then if ((((((((!decide (O.1=([]:pL)))&&(decide ((O.1.length:Int)≤(200:Int))))&&((decide ((O.1.length:Int)≤(4000:Int)))&&(val (uR O.1))))&&((decide ((O.2.1.length:Int)≤(4000:Int)))&&(val (uR O.2.1))))&&((decide ((O.2.2.1.length:Int)≤(4000:Int)))&&(val (uR O.2.2.1))))&&(val (BT O.2.2.2.1)))==true)=true→((FB O.2.2.2.2.1)).isSome=true) then if (((((((((((!decide (O.1=([]:pL)))&&(decide ((O.1.length:Int)≤(200:Int))))&&((decide ((O.1.length:Int)≤(4000:Int)))&&(val (uR O.1))))&&((decide ((O.2.1.length:Int)≤(4000:Int)))&&(val (uR O.2.1))))&&((decide ((O.2.2.1.length:Int)≤(4000:Int)))&&(val (uR O.2.2.1))))&&(val (BT O.2.2.2.1)))&&(val (FB O.2.2.2.2.1)))&&(decide ((0:Int)≤O.2.2.2.2.2.1)))&&(decide (O.2.2.2.2.2.1≤(4:Int))))==true)=true→((EE O.2.2.2.2.2.2.1)).isSome=true) then some (()) else none else none else none else none else none else none
section
variable (O:sN)
abbrev Du:List qK:=[(.val sR O,none)]
abbrev Dv:List qJ:=[]
@[go_sem] def Dw:qT:=⟨[((Q7 O)).isSome=true],[(.val .bool ((((((((((!decide (O.1=([]:pL)))&&(decide ((O.1.length:Int)≤(200:Int))))&&((decide ((O.1.length:Int)≤(4000:Int)))&&(val (uR O.1))))&&((decide ((O.2.1.length:Int)≤(4000:Int)))&&(val (uR O.2.1))))&&((decide ((O.2.2.1.length:Int)≤(4000:Int)))&&(val (uR O.2.2.1))))&&(val (BT O.2.2.2.1)))&&(val (FB O.2.2.2.2.1)))&&(decide ((0:Int)≤O.2.2.2.2.2.1)))&&(decide (O.2.2.2.2.2.1≤(4:Int))))&&(val (EE O.2.2.2.2.2.2.1))),none)],[]⟩
def a0s:List qK→List qJ→Option qT:=rX (V:=sN) (Du) (fun x=>Dv) fun x=>Dw x
@[go_sem] def aFf:a0s (no_index (Du O)) (no_index Dv)=some (Dw O):=rZ (fun a0 b0 h1 h2=>by cases h1;cases h2;rfl) O
end
@[go_sem] abbrev a0t:Nat×rH:=(26,⟨[.v],a0s,[],[],none⟩)
def Dx:rF prog [vO,sO,x6,wE,CF] (rG [ZD,De,Zk,Di]):=⟨⟨w4,⟨sP,⟨y5,⟨xI,⟨E8,trivial⟩⟩⟩⟩⟩,qW By (qW a0j (qW a80 (qW a0l rU))),rI⟩
def a9a:rL prog a0t:=by
 refine s5 Dx func26 (c:=_) rfl (N:=52) qC (ts:=[(2,none)]) rfl (fun _ _=>rfl) ?_;intro O hs hrow;dsimp only[Du,Dv,Dw,rV,r5,rD,rJ,rW,Nat.reduceAdd] at hs hrow|-;have hz:=hs;obtain⟨z0,e⟩:=aFB.1 hz
 try rw[sC e]
 clear hz hs;unfold Q7 at e;refine qI Dx ?_;obtain⟨Y,X,e⟩:=pK e;obtain⟨W,V,e⟩:=pK e;obtain⟨U,T,e⟩:=pK e;refine qI Dx ?_ (hp:=by exact⟨id,id,id,sJ,id,id,Y,sJ,id,id,X,sJ,id,id,W,sJ,id,id,V,sJ,id,id,U,sJ,id,id,sJ,id,id,sJ,id,id,T,sJ⟩);refine qU ?_;cases e;exact pN []
def NW (O:sB):(Int×pT)→Option ((Int×pT)⊕(Unit⊕Bool)):=fun(Z,aA)=>if (decide (Z<(O.2.2.2.1.length:Int)))=true then if 0≤Z∧Z<(O.2.2.2.1.length:Int) then if (((sT .str .bool aA ((qR sR O.2.2.2.1 Z).1))==false)=true→((KZ (qR sR O.2.2.2.1 Z))).isSome=true) then if ((sT .str .bool aA ((qR sR O.2.2.2.1 Z).1))||(!(val (KZ (qR sR O.2.2.2.1 Z)))))=true then some (.inr (.inr (false))) else if qM (Z+(1:Int)) then some (.inl ((Z+(1:Int)),(t6 .str .bool ((qR sR O.2.2.2.1 Z).1) true aA))) else none else none else none else some (.inr (.inl ()))
def NX (O:sB):Option Bool:=(D6 O.1).bind fun Z=>if (((!Z)==false)=true→((NV O.2.1)).isSome=true) then if ((((!Z)||(!((decide ((O.2.1.length:Int)≤(20:Int)))&&(!(val (CI O.2.1))))))==false)=true→((GT O.2.2.1)).isSome=true) then if ((((!Z)||(!((decide ((O.2.1.length:Int)≤(20:Int)))&&(!(val (CI O.2.1))))))||(!(val (GT O.2.2.1))))||(decide ((1000:Int)<(O.2.2.2.1.length:Int))))=true then some (false) else tN (s8 (NW O) ((0:Int),([]:pT))) fun _=>some (true) else none else none
section
variable (O:sB)
abbrev Dy:List qK:=[(.val wY O,none)]
abbrev Dz:List qJ:=[]
@[go_sem] def Ea:qT:=⟨[((NX O)).isSome=true],[(.val .bool (val (NX O)),none)],[]⟩
def a0u:List qK→List qJ→Option qT:=rX (V:=sB) (Dy) (fun x=>Dz) fun x=>Ea x
@[go_sem] def aFg:a0u (no_index (Dy O)) (no_index Dz)=some (Ea O):=rZ (fun a0 b0 h1 h2=>by cases h1;cases h2;rfl) O
end
@[go_sem] abbrev a0v:Nat×rH:=(36,⟨[.v],a0u,[],[],none⟩)
def DJ:rF prog [wK,sO,x6,wE,CE,z8,CF,D4] (rG [KE,Dm,Bg,a0p]):=⟨⟨x7,⟨sP,⟨y5,⟨xI,⟨E7,⟨zW,⟨E8,⟨F0,trivial⟩⟩⟩⟩⟩⟩⟩⟩,qW YR (qW a0n (qW Zm (qW a88 rU))),rI⟩
def a9b:rL prog a0v:=by
 refine s5 DJ func36 (c:=_) rfl (N:=49) qC (ts:=[(2,none)]) rfl (fun _ _=>rfl) ?_;intro O hs hrow;dsimp only[Dy,Dz,Ea,rV,r5,rD,rJ,rW,Nat.reduceAdd] at hs hrow|-;have hz:=hs;obtain⟨z0,e⟩:=aFB.1 hz
 try rw[sC e]
 clear hz hs;unfold NX at e;refine qI DJ ?_;refine qV ?_;obtain⟨Z,hv1,hw1,e⟩:=rQ e
 try simp only[go_sem] at hw1
 obtain⟨X,W,e⟩:=pK e;refine qI DJ ?_ (hp:=by exact⟨rO hv1,id,id,X,id,tC,id,id,W,id,tC,id,id,id,tC⟩) (h:=by simp only[go_sem,hw1];rfl);refine qZ e ?_ ?_<;>intro e Y
 .refine qI DJ ?_;refine qU (rC ?_);cases e;exact pN []
 refine r9 (qS (qI DJ ?_));refine qV (qI DJ ?_);refine sA ?_;obtain⟨y1,hy1,e⟩:=vD e;refine uE 0 (fun s=> ∃v,y1= .inl v∧s=(fun _=>⟨[],[],0,49,0⟩) v) ?_ ?_
 .refine uA hy1 (fun x=>⟨[(3,.val .mp (some 0),none),(30,.val (.list sR) O.2.2.2.1,none),(31,.val (.int .i64) (O.2.2.2.1.length:Int),none),(32,.val (.int .i64) x.1,none)],[(0,.map .str .bool x.2)],1,49,0⟩) ⟨[3,30,31,32],[(0,768)]⟩ qD ?_;intro x1 w1 n1 f g;obtain⟨aA,aB⟩:=x1;unfold NW at f;dsimp only at f|-;refine qI DJ ?_;refine qV (qZ f (fun f Y=>?_) (fun f Y=>?_))
  .refine r9 (qS (qV (sA ?_)));obtain⟨V,f⟩:=qP f;refine qI DJ ?_ (hp:=by exact V);refine qV ?_;obtain⟨U,f⟩:=qP f;refine qI DJ ?_ (hp:=by exact⟨id,U,id,tC⟩);refine qZ f ?_ ?_<;>intro f Y
   .refine qI DJ ?_;refine qU (rC (s7 (rC (uY (vN (s7 (rC ?_)))))));cases f;cases g;dsimp only at e;cases e;exact pN []
   refine r9 (qS (rP DJ ?_));refine sI (qS ?_);obtain⟨T,f⟩:=qP f;refine rP DJ ?_ (hp:=by exact T);cases f;exact tB ⟨⟨[3,30,31,32],[(0,0)]⟩,_,by rfl,g⟩
  refine tY (tV (tZ ?_));cases f;cases g;exact uF ⟨⟨[],[]⟩,_,rfl,by rfl⟩
 rintro _ ⟨v,rfl,rfl⟩;dsimp only at e|-;refine tX (qS ?_);refine qI DJ ?_;refine qU ?_;cases e;exact pN []
def NY (O:sB):Option Bool:=(NL O.1).bind fun Z=>if ((Z==true)=true→((BT O.2.1)).isSome=true) then if (((Z&&(val (BT O.2.1)))==true)=true→((EE O.2.2.1)).isSome=true) then some (((Z&&(val (BT O.2.1)))&&(val (EE O.2.2.1)))) else none else none
section
variable (O:sB)
abbrev Eb:List qK:=[(.val wY O,none)]
abbrev Ec:List qJ:=[]
@[go_sem] def Ed:qT:=⟨[((NY O)).isSome=true],[(.val .bool (val (NY O)),none)],[]⟩
def a0w:List qK→List qJ→Option qT:=rX (V:=sB) (Eb) (fun x=>Ec) fun x=>Ed x
@[go_sem] def aFh:a0w (no_index (Eb O)) (no_index Ec)=some (Ed O):=rZ (fun a0 b0 h1 h2=>by cases h1;cases h2;rfl) O
end
@[go_sem] abbrev a0x:Nat×rH:=(47,⟨[.v],a0w,[],[],none⟩)
def Ee:rF prog [sO,x6,wE,z8] (rG [Yj,De,Di]):=⟨⟨sP,⟨y5,⟨xI,⟨zW,trivial⟩⟩⟩⟩,qW a8Q (qW a0j (qW a0l rU)),rI⟩
def a9c:rL prog a0x:=by
 refine s5 Ee func47 (c:=_) rfl (N:=16) qC (ts:=[(2,none)]) rfl (fun _ _=>rfl) ?_;intro O hs hrow;dsimp only[Eb,Ec,Ed,rV,r5,rD,rJ,rW,Nat.reduceAdd] at hs hrow|-;have hz:=hs;obtain⟨z0,e⟩:=aFB.1 hz
 try rw[sC e]
 clear hz hs;unfold NY at e;refine qI Ee ?_;obtain⟨Z,hv1,hw1,e⟩:=rQ e
 try simp only[go_sem] at hw1
 obtain⟨X,W,e⟩:=pK e;refine qI Ee ?_ (hp:=by exact⟨rO hv1,id,id,X,sJ,id,id,W,sJ⟩) (h:=by simp only[go_sem,hw1];rfl);refine qU ?_;cases e;exact pN []
def L1 (O:Int):Option pL:=(Q6 ([O]:pV)).bind fun Z=>some (Z)
section
variable (O:Int)
abbrev Ef:List qK:=[(.val (.int .i64) O,none)]
abbrev Eg:List qJ:=[]
@[go_sem] def Eh:qT:=⟨[((L1 O)).isSome=true],[(.val .str (val (L1 O)),none),(.val .bool ((decide (O≤(1114111:Int)))&&((decide (O<(55296:Int)))||(decide ((57343:Int)<O)))),none)],[]⟩
def a0y:List qK→List qJ→Option qT:=rX (V:=Int) (Ef) (fun x=>Eg) fun x=>Eh x
@[go_sem] def aFi:a0y (no_index (Ef O)) (no_index Eg)=some (Eh O):=rZ (fun a0 b0 h1 h2=>by cases h1;cases h2;rfl) O
end
@[go_sem] abbrev Ei:Nat×rH:=(201,⟨[.v],a0y,[],[],none⟩)
def ZF:rF prog [N2] (rG [a0r]):=⟨⟨SL,trivial⟩,qW a89 rU,rI⟩
def a0z:rL prog Ei:=by
 refine s5 ZF func201 (c:=_) rfl (N:=19) qC (ts:=[(2,none),(3,none)]) rfl (fun _ _=>rfl) ?_;intro O hs hrow;dsimp only[Ef,Eg,Eh,rV,r5,rD,rJ,rW,Nat.reduceAdd] at hs hrow|-;have hz:=hs;obtain⟨z0,e⟩:=aFB.1 hz
 try rw[sC e]
 clear hz hs;unfold L1 at e;refine qI ZF ?_;refine qI ZF ?_ (hp:=by exact⟨id,id,id,id,fun hG d=>I5 hG d,sJ⟩);obtain⟨Z,hv1,hw1,e⟩:=rQ e
 try simp only[go_sem] at hw1
 refine qI ZF ?_ (hp:=by exact(rO hv1)) (h:=by simp only[go_sem,hw1];rfl);refine qU ?_;cases e;exact pN []
def TL (O:sB):Int→Option (Int⊕(Unit⊕Bool)):=fun Z=>if (decide (Z<(O.2.2.2.1.length:Int)))=true then if 0≤Z∧Z<(O.2.2.2.1.length:Int) then (KA O ((qR sR O.2.2.2.1 Z).1)).bind fun aA=>if (((!decide (aA.1=Z))==false)=true→0≤Z∧Z<(O.2.2.2.1.length:Int)) then if (((!decide (aA.1=Z))==false)=true→((Q7 (qR sR O.2.2.2.1 Z))).isSome=true) then if ((!decide (aA.1=Z))||(!((((((((((!decide (((qR sR O.2.2.2.1 Z).1)=([]:pL)))&&(decide ((((qR sR O.2.2.2.1 Z).1).length:Int)≤(200:Int))))&&((decide ((((qR sR O.2.2.2.1 Z).1).length:Int)≤(4000:Int)))&&(val (uR ((qR sR O.2.2.2.1 Z).1)))))&&((decide ((((qR sR O.2.2.2.1 Z).2.1).length:Int)≤(4000:Int)))&&(val (uR ((qR sR O.2.2.2.1 Z).2.1)))))&&((decide ((((qR sR O.2.2.2.1 Z).2.2.1).length:Int)≤(4000:Int)))&&(val (uR ((qR sR O.2.2.2.1 Z).2.2.1)))))&&(val (BT ((qR sR O.2.2.2.1 Z).2.2.2.1))))&&(val (FB ((qR sR O.2.2.2.1 Z).2.2.2.2.1))))&&(decide ((0:Int)≤((qR sR O.2.2.2.1 Z).2.2.2.2.2.1))))&&(decide (((qR sR O.2.2.2.1 Z).2.2.2.2.2.1)≤(4:Int))))&&(val (EE ((qR sR O.2.2.2.1 Z).2.2.2.2.2.2.1))))))=true then some (.inr (.inr (false))) else if qM (Z+(1:Int)) then some (.inl (Z+(1:Int))) else none else none else none else none else some (.inr (.inl ()))
def GW (O:sB):Option Bool:=(NY O).bind fun Z=>if ((!Z)||(decide ((1000:Int)<(O.2.2.2.1.length:Int))))=true then some (false) else tN (s8 (TL O) (0:Int)) fun _=>some (true)
section
variable (O:sB)
abbrev Ej:List qK:=[(.val wY O,none)]
abbrev Ek:List qJ:=[]
@[go_sem] def El:qT:=⟨[((GW O)).isSome=true],[(.val .bool (val (GW O)),none)],[]⟩
def a0A:List qK→List qJ→Option qT:=rX (V:=sB) (Ej) (fun x=>Ek) fun x=>El x
@[go_sem] def aFj:a0A (no_index (Ej O)) (no_index Ek)=some (El O):=rZ (fun a0 b0 h1 h2=>by cases h1;cases h2;rfl) O
end
@[go_sem] abbrev a0B:Nat×rH:=(24,⟨[.v],a0A,[],[],none⟩)
def FD:rF prog [sO,CE,z8,CF] (rG [a0x,Tw,a0t]):=⟨⟨sP,⟨E7,⟨zW,⟨E8,trivial⟩⟩⟩⟩,qW a9c (qW a8f (qW a9a rU)),rI⟩
def a9d:rL prog a0B:=by
 refine s5 FD func24 (c:=_) rfl (N:=45) qC (ts:=[(2,none)]) rfl (fun _ _=>rfl) ?_;intro O hs hrow;dsimp only[Ej,Ek,El,rV,r5,rD,rJ,rW,Nat.reduceAdd] at hs hrow|-;have hz:=hs;obtain⟨z0,e⟩:=aFB.1 hz
 try rw[sC e]
 clear hz hs;unfold GW at e;refine qI FD ?_;refine qV ?_;obtain⟨Z,hv1,hw1,e⟩:=rQ e
 try simp only[go_sem] at hw1
 refine qI FD ?_ (hp:=by exact⟨rO hv1,id,id,id,tC⟩) (h:=by simp only[go_sem,hw1];rfl);refine qZ e ?_ ?_<;>intro e Y
 .refine qI FD ?_;refine qU (rC ?_);cases e;exact pN []
 refine r9 (qS (qV (qI FD ?_)));refine sA ?_;obtain⟨y1,hy1,e⟩:=vD e;refine uE 0 (fun s=> ∃v,y1= .inl v∧s=(fun _=>⟨[],[],0,45,0⟩) v) ?_ ?_
 .refine uA hy1 (fun x=>⟨[(1,.val .ref (some (0,0)),none),(3,.val (.int .i64) x,none)],[(0,.cells wY O [])],1,45,0⟩) ⟨[1,3],[(0,0)]⟩ qD ?_;intro aA w1 n1 f g;unfold TL at f;dsimp only at f|-;refine qV (qI FD ?_);refine qZ f ?_ ?_<;>intro f Y
  .refine r9 (qS (qV (sA ?_)));obtain⟨X,f⟩:=qP f;obtain⟨aB,hv3,hw3,f⟩:=rQ f
   try simp only[go_sem] at hw3
   refine xH FD ?_ (hp:=by exact⟨X,(rO hv3)⟩) (h:=by simp only[go_sem,hw3];rfl);obtain⟨W,V,f⟩:=pK f;refine qI FD ?_ (hp:=by exact⟨id,id,id,W,id,id,V,id,tC⟩);refine qZ f ?_ ?_<;>intro f Y
   .refine qI FD ?_;refine qU (s7 (rC (uY (vN (s7 (rC ?_))))));cases f;cases g;dsimp only at e;cases e;exact pN []
   refine r9 (sI (qS ?_));obtain⟨U,f⟩:=qP f;refine rP FD ?_ (hp:=by exact U);cases f;exact tB ⟨⟨[1,3],[(0,0)]⟩,_,by rfl,g⟩
  refine tY (tV (tZ ?_));cases f;cases g;exact uF ⟨⟨[],[]⟩,_,rfl,by rfl⟩
 rintro _ ⟨v,rfl,rfl⟩;dsimp only at e|-;refine tX (qS ?_);refine qI FD ?_;refine qU ?_;cases e;exact pN []
attribute [irreducible] Q7 NX NY L1 GW
end
noncomputable section
def TM (O:sB):(Int×pM)→Option ((Int×pM)⊕pM):=fun(Z,aA)=>if (decide (Z<(O.2.2.2.1.length:Int)))=true then if 0≤Z∧Z<(O.2.2.2.1.length:Int) then (NU (qR sR O.2.2.2.1 Z)).bind fun aB=>if (aA.length+([aB]:pM).length)*16≤140737488355328 then if qM (Z+(1:Int)) then some (.inl ((Z+(1:Int)),(aA++([aB]:pM)))) else none else none else none else some (.inr aA)
def IW (O:sB):Option (pL×pM×Int):=(NX O).bind fun Z=>if (!Z)=true then some ((([]:pL),([]:pM),(1:Int))) else (BS O.1).bind fun aA=>if ((([99,97,116,97,108,111,103,32]:pL)++aA).length:Int)≤9223372036854775807 then if (((([99,97,116,97,108,111,103,32]:pL)++aA)++([10]:pL)).length:Int)≤9223372036854775807 then (KW O.2.1).bind fun aB=>if ((((([99,97,116,97,108,111,103,32]:pL)++aA)++([10]:pL))++aB).length:Int)≤9223372036854775807 then (IU O.2.2.1).bind fun aC=>if (((((([99,97,116,97,108,111,103,32]:pL)++aA)++([10]:pL))++aB)++aC).length:Int)≤9223372036854775807 then if ((((((([99,97,116,97,108,111,103,32]:pL)++aA)++([10]:pL))++aB)++aC)++([101,110,100,10]:pL)).length:Int)≤9223372036854775807 then uO (s8 (TM O) ((0:Int),([]:pM))) fun aD=>some (((((((([99,97,116,97,108,111,103,32]:pL)++aA)++([10]:pL))++aB)++aC)++([101,110,100,10]:pL)),aD,(0:Int))) else none else none else none else none else none
section
variable (O:sB)
abbrev Em:List qK:=[(.val wY O,none)]
abbrev En:List qJ:=[]
@[go_sem] def Eo:qT:=⟨[((IW O)).isSome=true],[(.val GG ((val (IW O)).1,((val (IW O)).2.1,(([]:pL),()))),none),(.val (.int .i64) ((val (IW O)).2.2),none)],[]⟩
def a0C:List qK→List qJ→Option qT:=rX (V:=sB) (Em) (fun x=>En) fun x=>Eo x
@[go_sem] def aFk:a0C (no_index (Em O)) (no_index En)=some (Eo O):=rZ (fun a0 b0 h1 h2=>by cases h1;cases h2;rfl) O
end
@[go_sem] abbrev a0D:Nat×rH:=(19,⟨[.v],a0C,[],[],none⟩)
def FE:rF prog [sO,x6,wE,CE,z8,PH,CF] (rG [a0v,TD,Ct,Cx,a0h]):=⟨⟨sP,⟨y5,⟨xI,⟨E7,⟨zW,⟨YJ,⟨E8,trivial⟩⟩⟩⟩⟩⟩⟩,qW a9b (qW ZE (qW a0d (qW a0f (qW a87 rU)))),rI⟩
def a9e:rL prog a0D:=by
 refine s5 FE func19 (c:=_) rfl (N:=42) qC (ts:=[(2,some 34),(3,none)]) rfl (fun _ _=>rfl) ?_;intro O hs hrow;dsimp only[Em,En,Eo,rV,r5,rD,rJ,rW,Nat.reduceAdd] at hs hrow|-;have hz:=hs;obtain⟨z0,d⟩:=aFB.1 hz
 try rw[sC d]
 clear hz hs;unfold IW at d;refine qI FE ?_;refine qV ?_;obtain⟨Z,hv1,hw1,d⟩:=rQ d
 try simp only[go_sem] at hw1
 refine qI FE ?_ (hp:=by exact(rO hv1)) (h:=by simp only[go_sem,hw1];rfl);refine qZ d ?_ ?_<;>intro d Y
 .refine qI FE ?_;refine qU (rC ?_);cases d;exact pN []
 refine r9 (qS ?_);obtain⟨aA,hv2,hw2,d⟩:=rQ d
 try simp only[go_sem] at hw2
 obtain⟨X,W,d⟩:=pK d;obtain⟨aB,hv5,hw5,d⟩:=rQ d
 try simp only[go_sem] at hw5
 obtain⟨V,d⟩:=qP d;obtain⟨aC,hv7,hw7,d⟩:=rQ d
 try simp only[go_sem] at hw7
 obtain⟨U,T,d⟩:=pK d;refine xH FE ?_ (hp:=by exact⟨rO hv2,X,W,rO hv5,V,rO hv7,U,T⟩) (h:=by simp only[go_sem,hw2,hw5,hw7];rfl);refine qV (qI FE ?_);refine sA ?_;obtain⟨aD,hy1,d⟩:=r8 d;refine uE 0 (fun s=>s=(fun x=>⟨[(2,.val .ref (some (0,0)),none),(4,.val .ref (some (1,0)),none)],[(0,.cells GG (([]:pL),(([]:pM),(([]:pL),()))) [(1,2)]),(1,.cells GG ((((((([99,97,116,97,108,111,103,32]:pL)++aA)++([10]:pL))++aB)++aC)++([101,110,100,10]:pL)),(x,(([]:pL),()))) [(1,3)]),(2,.grow 9 1 (([]:pM).length)),(3,.grow 9 1 (x.length))],4,42,0⟩) aD) ?_ ?_
 .refine uA hy1 (fun x=>⟨[(2,.val .ref (some (0,0)),none),(4,.val .ref (some (1,0)),none),(27,.val (.list sR) O.2.2.2.1,none),(28,.val (.int .i64) (O.2.2.2.1.length:Int),none),(29,.val (.int .i64) x.1,none)],[(0,.cells GG (([]:pL),(([]:pM),(([]:pL),()))) [(1,2)]),(1,.cells GG ((((((([99,97,116,97,108,111,103,32]:pL)++aA)++([10]:pL))++aB)++aC)++([101,110,100,10]:pL)),(x.2,(([]:pL),()))) [(1,3)]),(2,.grow 9 1 (([]:pM).length)),(3,.grow 9 1 (x.2.length))],4,42,0⟩) ⟨[2,4,27,28,29],[(0,32),(1,672),(2,33),(3,704)]⟩ qD ?_;intro x1 w1 n1 e g;obtain⟨aE,aF⟩:=x1;unfold TM at e;dsimp only at e|-;refine qI FE ?_;refine qV (qZ e (fun e Y=>?_) (fun e Y=>?_))
  .refine r9 (qS (qV (sA ?_)));obtain⟨S,e⟩:=qP e;refine qI FE ?_ (hp:=by exact S);obtain⟨aG,hv11,hw11,e⟩:=rQ e
   try simp only[go_sem] at hw11
   obtain⟨R,e⟩:=qP e;refine K3 FE ?_ (hp:=by exact⟨rO hv11,qB,R⟩) (h:=by simp only[go_sem,hw11];rfl)
   refine sI (qS ?_);obtain⟨Q,e⟩:=qP e;refine rP FE ?_ (hp:=by exact Q);cases e;exact tB ⟨⟨[2,4,27,28,29],[(0,0),(1,1),(2,2),(3,3)]⟩,_,by rfl,g⟩
  refine tY (tV (tZ ?_));cases e;cases g;exact uF ⟨⟨[2,4],[(0,0),(1,1),(2,2),(3,3)]⟩,by rfl⟩
 rintro _ rfl;dsimp only at d|-;refine tX (qS ?_);refine qI FE ?_;refine qU ?_;cases d;exact pN []
def FF (O:sB):Option (pL×Int):=(IW O).bind fun Z=>(NF (Z.1,(Z.2.1,(([]:pL),())))).bind fun aA=>some ((aA,Z.2.2))
section
variable (O:sB)
abbrev Ep:List qK:=[(.val wY O,none)]
abbrev Er:List qJ:=[]
@[go_sem] def Es:qT:=⟨[((FF O)).isSome=true],[(.val .str ((val (FF O)).1),none),(.val (.int .i64) ((val (FF O)).2),none)],[]⟩
def a0E:List qK→List qJ→Option qT:=rX (V:=sB) (Ep) (fun x=>Er) fun x=>Es x
@[go_sem] def aFl:a0E (no_index (Ep O)) (no_index Er)=some (Es O):=rZ (fun a0 b0 h1 h2=>by cases h1;cases h2;rfl) O
end
@[go_sem] abbrev a0F:Nat×rH:=(21,⟨[.v],a0E,[],[],none⟩)
def ZG:rF prog [z8,PH] (rG [a0D,Xt]):=⟨⟨zW,⟨YJ,trivial⟩⟩,qW a9e (qW a8F rU),rI⟩
def a9f:rL prog a0F:=by
 refine s5 ZG func21 (c:=_) rfl (N:=14) qC (ts:=[(2,none),(3,none)]) rfl (fun _ _=>rfl) ?_;intro O hs hrow;dsimp only[Ep,Er,Es,rV,r5,rD,rJ,rW,Nat.reduceAdd] at hs hrow|-;have hz:=hs;obtain⟨z0,d⟩:=aFB.1 hz
 try rw[sC d]
 clear hz hs;unfold FF at d;refine qI ZG ?_;obtain⟨Z,hv1,hw1,d⟩:=rQ d
 try simp only[go_sem] at hw1
 refine qI ZG ?_ (hp:=by exact(rO hv1)) (h:=by simp only[go_sem,hw1];rfl);obtain⟨aA,hv2,hw2,d⟩:=rQ d
 try simp only[go_sem] at hw2
 refine qI ZG ?_ (hp:=by exact(rO hv2)) (h:=by simp only[go_sem,hw2];rfl);refine qU ?_;cases d;exact pN []
def IX (O:pL):Option (pL×Int):=if (decide ((O.length:Int)<(2:Int)))=true then some ((([]:pL),(0:Int))) else if 0≤(1:Int)∧(1:Int)<(O.length:Int) then if (decide ((sE O (1:Int))=(110:Int)))=true then some ((([10]:pL),(2:Int))) else if (decide ((sE O (1:Int))=(114:Int)))=true then some ((([13]:pL),(2:Int))) else if (decide ((sE O (1:Int))=(116:Int)))=true then some ((([9]:pL),(2:Int))) else if (decide ((sE O (1:Int))=(120:Int)))=true then if (decide ((4:Int)≤(O.length:Int)))=true then if 0≤(2:Int)∧(2:Int)≤(4:Int)∧(4:Int)≤(O.length:Int) then (GM (sL O (2:Int) (4:Int)) (16:Int)).bind fun Z=>if (Z.2&&(decide (Z.1≤(127:Int))))=true then some (((tG ([(IntKind.wrap .u8 Z.1)]:pV)),(4:Int))) else some ((([]:pL),(0:Int))) else none else some ((([]:pL),(0:Int))) else if (decide ((sE O (1:Int))=(117:Int)))=true then if (decide ((6:Int)≤(O.length:Int)))=true then if 0≤(2:Int)∧(2:Int)≤(6:Int)∧(6:Int)≤(O.length:Int) then (GM (sL O (2:Int) (6:Int)) (16:Int)).bind fun aA=>if aA.2=true then (L1 aA.1).bind fun aB=>if ((decide (aA.1≤(1114111:Int)))&&((decide (aA.1<(55296:Int)))||(decide ((57343:Int)<aA.1))))=true then some ((aB,(6:Int))) else some ((([]:pL),(0:Int))) else some ((([]:pL),(0:Int))) else none else some ((([]:pL),(0:Int))) else if (decide ((0:Int)≤(vW ([92,34,61,58,35,33,123,125,32]:pL) (sE O (1:Int)))))=true then if 0≤(1:Int)∧(1:Int)≤(2:Int)∧(2:Int)≤(O.length:Int) then some (((sL O (1:Int) (2:Int)),(2:Int))) else none else some ((([]:pL),(0:Int))) else none
section
variable (O:pL)
abbrev Et:List qK:=[(.val .str O,none)]
abbrev Eu:List qJ:=[]
@[go_sem] def Ew:qT:=⟨[((IX O)).isSome=true],[(.val .str ((val (IX O)).1),none),(.val (.int .i64) ((val (IX O)).2),none)],[]⟩
def a0G:List qK→List qJ→Option qT:=rX (V:=pL) (Et) (fun x=>Eu) fun x=>Ew x
@[go_sem] def aFm:a0G (no_index (Et O)) (no_index Eu)=some (Ew O):=rZ (fun a0 b0 h1 h2=>by cases h1;cases h2;rfl) O
end
@[go_sem] abbrev a0H:Nat×rH:=(180,⟨[.v],a0G,[],[],none⟩)
def vE:rF prog [vO,GI,sO,GH] (rG [ue,Ei,MX]):=⟨⟨w4,⟨K9,⟨sP,⟨K8,trivial⟩⟩⟩⟩,qW Wh (qW a0z (qW SC rU)),rI⟩
def a9g:rL prog a0H:=by
 refine s5 vE func180 (c:=_) rfl (N:=67) qC (ts:=[(2,none),(3,none)]) rfl (fun _ _=>rfl) ?_;intro O hs hrow;dsimp only[Et,Eu,Ew,rV,r5,rD,rJ,rW,Nat.reduceAdd] at hs hrow|-;have hz:=hs;obtain⟨z0,d⟩:=aFB.1 hz
 try rw[sC d]
 clear hz hs;unfold IX at d;refine qI vE ?_;refine qV (qI vE ?_);refine qZ d ?_ ?_<;>intro d Y
 .refine qI vE ?_;refine qU (rC ?_);cases d;exact pN []
 refine r9 (qS (qV ?_));obtain⟨X,d⟩:=qP d;refine qI vE ?_ (hp:=by exact X);refine qI vE ?_;refine sA (qI vE ?_);refine qZ d ?_ ?_<;>intro d Y
 .refine qI vE ?_;refine qU (s7 (rC ?_));cases d;exact pN []
 refine qI vE ?_;refine qZ d ?_ ?_<;>intro d Y
 .refine qI vE ?_;refine qU (s7 (rC ?_));cases d;exact pN []
 refine qI vE ?_;refine qZ d ?_ ?_<;>intro d Y
 .refine qI vE ?_;refine qU (s7 (rC ?_));cases d;exact pN []
 refine qI vE ?_;refine qZ d ?_ ?_<;>intro d Y
 .refine qI vE ?_;refine qZ d ?_ ?_<;>intro d Y
  .obtain⟨W,d⟩:=qP d;obtain⟨Z,hv3,hw3,d⟩:=rQ d
   try simp only[go_sem] at hw3
   refine qI vE ?_ (hp:=by exact⟨W,(rO hv3)⟩) (h:=by simp only[go_sem,hw3];rfl);refine qI vE ?_ (hp:=by exact⟨id,sJ⟩);refine qZ d ?_ ?_<;>intro d Y
   .refine qI vE ?_;refine qU (s7 (rC ?_));cases d;exact pN []
   refine r9 (sI (qS (qI vE ?_)));refine qU ?_;cases d;exact pN []
  refine r9 (sI (qS (qI vE ?_)));refine qU ?_;cases d;exact pN []
 refine qI vE ?_;refine qZ d ?_ ?_<;>intro d Y
 .refine qI vE ?_;refine qZ d ?_ ?_<;>intro d Y
  .obtain⟨V,d⟩:=qP d;obtain⟨aA,hv5,hw5,d⟩:=rQ d
   try simp only[go_sem] at hw5
   refine qI vE ?_ (hp:=by exact⟨V,(rO hv5)⟩) (h:=by simp only[go_sem,hw5];rfl);refine qI vE ?_;refine qZ d ?_ ?_<;>intro d Y
   .obtain⟨aB,hv6,hw6,d⟩:=rQ d
    try simp only[go_sem] at hw6
    refine qI vE ?_ (hp:=by exact(rO hv6)) (h:=by simp only[go_sem,hw6];rfl);refine qI vE ?_;refine qZ d ?_ ?_<;>intro d Y
    .refine qI vE ?_;refine qU (s7 (rC ?_));cases d;exact pN []
    refine r9 (sI (qS (qI vE ?_)));refine qU ?_;cases d;exact pN []
   refine r9 (sI (qS (qI vE ?_)));refine qU ?_;cases d;exact pN []
  refine r9 (sI (qS (qI vE ?_)));refine qU ?_;cases d;exact pN []
 refine qI vE ?_;refine qZ d ?_ ?_<;>intro d Y
 .obtain⟨U,d⟩:=qP d;refine qI vE ?_ (hp:=by exact U);refine qU (s7 (rC ?_));cases d;exact pN []
 refine r9 (sI (qS (qI vE ?_)));refine qU ?_;cases d;exact pN []
attribute [irreducible] IW FF IX
end
noncomputable section
def Q8 (O:pL):Option (pL×Int):=if (decide ((vW O (59:Int))<(0:Int)))=true then some ((([]:pL),(0:Int))) else if 0≤(1:Int)∧(1:Int)≤(vW O (59:Int))∧(vW O (59:Int))≤(O.length:Int) then if (decide ((sL O (1:Int) (vW O (59:Int)))=([97,109,112]:pL)))=true then if qM ((vW O (59:Int))+(1:Int)) then some ((([38]:pL),((vW O (59:Int))+(1:Int)))) else none else if (decide ((sL O (1:Int) (vW O (59:Int)))=([108,116]:pL)))=true then if qM ((vW O (59:Int))+(1:Int)) then some ((([60]:pL),((vW O (59:Int))+(1:Int)))) else none else if (decide ((sL O (1:Int) (vW O (59:Int)))=([103,116]:pL)))=true then if qM ((vW O (59:Int))+(1:Int)) then some ((([62]:pL),((vW O (59:Int))+(1:Int)))) else none else if (decide ((sL O (1:Int) (vW O (59:Int)))=([113,117,111,116]:pL)))=true then if qM ((vW O (59:Int))+(1:Int)) then some ((([34]:pL),((vW O (59:Int))+(1:Int)))) else none else if (decide ((sL O (1:Int) (vW O (59:Int)))=([97,112,111,115]:pL)))=true then if qM ((vW O (59:Int))+(1:Int)) then some ((([39]:pL),((vW O (59:Int))+(1:Int)))) else none else (NN (sL O (1:Int) (vW O (59:Int))) ([35]:pL)).bind fun Z=>if (!Z.2)=true then some ((([]:pL),(0:Int))) else (NN Z.1 ([120]:pL)).bind fun aA=>uO (σ:=(pL×Int×Int)) (if aA.2=true then some ((aA.1,(16:Int),(6:Int))) else some ((Z.1,(10:Int),(7:Int))) ) fun(aB,aC,aD)=>(GM aB aC).bind fun aE=>if ((!aE.2)||(decide (aD<(aB.length:Int))))=true then some ((([]:pL),(0:Int))) else (L1 aE.1).bind fun aF=>if (!((decide (aE.1≤(1114111:Int)))&&((decide (aE.1<(55296:Int)))||(decide ((57343:Int)<aE.1)))))=true then some ((([]:pL),(0:Int))) else if qM ((vW O (59:Int))+(1:Int)) then some ((aF,((vW O (59:Int))+(1:Int)))) else none else none
section
variable (O:pL)
abbrev Ey:List qK:=[(.val .str O,none)]
abbrev Ez:List qJ:=[]
@[go_sem] def Fa:qT:=⟨[((Q8 O)).isSome=true],[(.val .str ((val (Q8 O)).1),none),(.val (.int .i64) ((val (Q8 O)).2),none)],[]⟩
def a0I:List qK→List qJ→Option qT:=rX (V:=pL) (Ey) (fun x=>Ez) fun x=>Fa x
@[go_sem] def aFn:a0I (no_index (Ey O)) (no_index Ez)=some (Fa O):=rZ (fun a0 b0 h1 h2=>by cases h1;cases h2;rfl) O
end
@[go_sem] abbrev a0J:Nat×rH:=(181,⟨[.v],a0I,[],[],none⟩)
def vJ:rF prog [sO] (rG [MX,Yr,ue,Ei]):=⟨⟨sP,trivial⟩,qW SC (qW a8T (qW Wh (qW a0z rU))),rI⟩
def a9h:rL prog a0J:=by
 refine s5 vJ func181 (c:=_) rfl (N:=80) qC (ts:=[(2,none),(3,none)]) rfl (fun _ _=>rfl) ?_;intro O hs hrow;dsimp only[Ey,Ez,Fa,rV,r5,rD,rJ,rW,Nat.reduceAdd] at hs hrow|-;have hz:=hs;obtain⟨z0,d⟩:=aFB.1 hz
 try rw[sC d]
 clear hz hs;unfold Q8 at d;refine qI vJ ?_;refine qI vJ ?_;refine qV (qI vJ ?_);refine qZ d ?_ ?_<;>intro d Y
 .refine qI vJ ?_;refine qU (rC ?_);cases d;exact pN []
 refine r9 (qS ?_);obtain⟨X,d⟩:=qP d;refine qI vJ ?_ (hp:=by exact X);refine qV (qI vJ ?_);refine sA (qI vJ ?_);refine qZ d ?_ ?_<;>intro d Y
 .obtain⟨W,d⟩:=qP d;refine qI vJ ?_ (hp:=by exact W);refine qU (s7 (rC ?_));cases d;exact pN []
 refine qI vJ ?_;refine qZ d ?_ ?_<;>intro d Y
 .obtain⟨V,d⟩:=qP d;refine qI vJ ?_ (hp:=by exact V);refine qU (s7 (rC ?_));cases d;exact pN []
 refine qI vJ ?_;refine qZ d ?_ ?_<;>intro d Y
 .obtain⟨U,d⟩:=qP d;refine qI vJ ?_ (hp:=by exact U);refine qU (s7 (rC ?_));cases d;exact pN []
 refine qI vJ ?_;refine qZ d ?_ ?_<;>intro d Y
 .obtain⟨T,d⟩:=qP d;refine qI vJ ?_ (hp:=by exact T);refine qU (s7 (rC ?_));cases d;exact pN []
 refine qI vJ ?_;refine qZ d ?_ ?_<;>intro d Y
 .obtain⟨S,d⟩:=qP d;refine qI vJ ?_ (hp:=by exact S);refine qU (s7 (rC ?_));cases d;exact pN []
 refine r9 (sI (qS ?_));obtain⟨Z,hv7,hw7,d⟩:=rQ d
 try simp only[go_sem] at hw7
 refine qI vJ ?_ (hp:=by exact(rO hv7)) (h:=by simp only[go_sem,hw7];rfl);refine qV (qI vJ ?_);refine qZ d ?_ ?_<;>intro d Y
 .refine qI vJ ?_;refine qU (rC ?_);cases d;exact pN []
 refine r9 (qS (qI vJ ?_));refine qV ?_;obtain⟨aA,hv8,hw8,d⟩:=rQ d
 try simp only[go_sem] at hw8
 refine qI vJ ?_ (hp:=by exact(rO hv8)) (h:=by simp only[go_sem,hw8];rfl);refine qI vJ ?_;obtain⟨y1,e,d⟩:=r8 d;refine D0 (fun s=>s=(fun x=>⟨[(4,.val (.int .i64) (vW O (59:Int)),none),(6,.val .str x.1,none),(8,.val (.int .i64) x.2.1,none),(9,.val (.int .i64) x.2.2,none)],[],0,80,0⟩) y1) ?_ ?_
 .refine qZ e ?_ ?_<;>intro e Y
  .refine rP vJ ?_;cases e;exact vV ⟨⟨[4,6,8,9],[]⟩,by rfl⟩
  refine r9 ?_;cases e;exact vV ⟨⟨[4,6,8,9],[]⟩,by rfl⟩
 rintro _ rfl;obtain⟨aB,aC,aD⟩:=y1;dsimp only at d|-;refine qS ?_;obtain⟨aE,hv9,hw9,d⟩:=rQ d
 try simp only[go_sem] at hw9
 refine qI vJ ?_ (hp:=by exact(rO hv9)) (h:=by simp only[go_sem,hw9];rfl);refine qV (qI vJ ?_ (hp:=by exact⟨id,id,id,tC⟩));refine qZ d ?_ ?_<;>intro d Y
 .refine qI vJ ?_;refine qU (rC ?_);cases d;exact pN []
 refine r9 (qS ?_);obtain⟨aF,hv10,hw10,d⟩:=rQ d
 try simp only[go_sem] at hw10
 refine qI vJ ?_ (hp:=by exact(rO hv10)) (h:=by simp only[go_sem,hw10];rfl);refine qV (qI vJ ?_);refine qZ d ?_ ?_<;>intro d Y
 .refine qI vJ ?_;refine qU (rC ?_);cases d;exact pN []
 refine r9 (qS ?_);obtain⟨R,d⟩:=qP d;refine qI vJ ?_ (hp:=by exact R);refine qU ?_;cases d;exact pN []
def a0K (O:Int) (Z:pL):(Int×pV)→Option ((Int×pV)⊕(pV⊕(pL×Int×Int))):=fun(aA,aB)=>if (decide (aA<(Z.length:Int)))=true then if 0≤aA∧aA<(Z.length:Int) then if (decide ((sE Z aA)=(38:Int)))=true then if 0≤aA∧aA≤(Z.length:Int)∧(Z.length:Int)≤(Z.length:Int) then (Q8 (sL Z aA (Z.length:Int))).bind fun aC=>if (decide (aC.2=(0:Int)))=true then some (.inr (.inr ((([]:pL),aA,(3:Int))))) else (EA (aB,()) aC.1).bind fun aD=>if qM (aA+aC.2) then some (.inl ((aA+aC.2),(aB++uQ aC.1))) else none else none else if 0≤aA∧aA<(Z.length:Int) then if (N6 O (sE Z aA))=true then some (.inr (.inr ((([]:pL),aA,(3:Int))))) else if 0≤aA∧aA<(Z.length:Int) then (N7 (aB,()) (sE Z aA)).bind fun aE=>if qM (aA+(1:Int)) then some (.inl ((aA+(1:Int)),(aB++([(sE Z aA)]:pV)))) else none else none else none else none else some (.inr (.inl aB))
def Q9 (O:Int) (Z:pL):(Int×pV)→Option ((Int×pV)⊕(pV⊕(pL×Int×Int))):=fun(aA,aB)=>if (decide (aA<(Z.length:Int)))=true then if 0≤aA∧aA<(Z.length:Int) then if (decide ((sE Z aA)=(92:Int)))=true then if 0≤aA∧aA≤(Z.length:Int)∧(Z.length:Int)≤(Z.length:Int) then (IX (sL Z aA (Z.length:Int))).bind fun aC=>if (decide (aC.2=(0:Int)))=true then some (.inr (.inr ((([]:pL),aA,(3:Int))))) else (EA (aB,()) aC.1).bind fun aD=>if qM (aA+aC.2) then some (.inl ((aA+aC.2),(aB++uQ aC.1))) else none else none else if 0≤aA∧aA<(Z.length:Int) then if (N6 O (sE Z aA))=true then some (.inr (.inr ((([]:pL),aA,(3:Int))))) else if 0≤aA∧aA<(Z.length:Int) then (N7 (aB,()) (sE Z aA)).bind fun aE=>if qM (aA+(1:Int)) then some (.inl ((aA+(1:Int)),(aB++([(sE Z aA)]:pV)))) else none else none else none else none else some (.inr (.inl aB))
def IY (O:Int) (Z:pL):Option (pL×Int×Int):=if (!((decide ((1:Int)≤O))&&(decide (O≤(4:Int)))))=true then some ((([]:pL),(0:Int),(1:Int))) else if (decide (O=(4:Int)))=true then tN (s8 (a0K O Z) ((0:Int),([]:pV))) fun aA=>some (((tG aA),(0:Int),(0:Int))) else tN (s8 (Q9 O Z) ((0:Int),([]:pV))) fun aB=>some (((tG aB),(0:Int),(0:Int)))
section
variable (O:Int) (Z:pL)
abbrev Fb:List qK:=[(.val (.int .i64) O,none),(.val .str Z,none)]
abbrev Fc:List qJ:=[]
@[go_sem] def Fd:qT:=⟨[((IY O Z)).isSome=true],[(.val .str ((val (IY O Z)).1),none),(.val (.int .i64) ((val (IY O Z)).2.1),none),(.val (.int .i64) ((val (IY O Z)).2.2),none)],[]⟩
def a0L:List qK→List qJ→Option qT:=rX (V:=(Int×pL)) (fun x=>Fb x.1 x.2) (fun x=>Fc) fun x=>Fd x.1 x.2
@[go_sem] def aFo:a0L (no_index (Fb O Z)) (no_index Fc)=some (Fd O Z):=rZ (fun⟨a0,a1⟩ ⟨b0,b1⟩ h1 h2=>by cases h1;cases h2;rfl) (O,Z)
end
@[go_sem] abbrev a0M:Nat×rH:=(149,⟨[.v,.v],a0L,[],[],none⟩)
def uS:rF prog [sO,I9] (rG [YT,a0J,YN,Wc,Wf,MY,a0H]):=⟨⟨sP,⟨N1,trivial⟩⟩,qW qj (qW a9h (qW nw (qW a8r (qW a8s (qW SE (qW a9g rU)))))),rI⟩
def a9i:rL prog a0M:=by
 refine s5 uS func149 (c:=_) rfl (N:=58) qC (ts:=[(4,none),(5,none),(6,none)]) rfl (fun _ _=>rfl) ?_;intro⟨O,Z⟩ hs hrow;dsimp only[Fb,Fc,Fd,rV,r5,rD,rJ,rW,Nat.reduceAdd] at hs hrow|-;have hz:=hs;obtain⟨z0,d⟩:=aFB.1 hz
 try rw[sC d]
 clear hz hs;unfold IY at d;refine qI uS ?_;refine qV (qI uS ?_);refine qZ d ?_ ?_<;>intro d Y
 .refine qI uS ?_;refine qU (rC ?_);cases d;exact pN []
 refine r9 (qS (qI uS ?_));refine qV (qI uS ?_);refine qZ d ?_ ?_<;>intro d Y
 .refine rP uS ?_;refine qS (qI uS ?_);refine qV (qI uS ?_);refine sA ?_;obtain⟨y1,hy1,d⟩:=vD d;refine uE 0 (fun s=> ∃v,y1= .inl v∧s=(fun x=>⟨[(9,.val .ref (some (0,0)),none)],[(0,.cells wZ ((some (0,0)),(x,())) [(1,1)]),(1,.grow 5 1 (x.length))],2,58,0⟩) v) ?_ ?_
  .refine uA hy1 (fun x=>⟨[(0,.val (.int .i64) O,none),(1,.val .str Z,none),(7,.val (.int .u8) (38:Int),none),(8,.val .clo (some (181,[])),none),(9,.val .ref (some (0,0)),none),(10,.val (.int .i64) x.1,none)],[(0,.cells wZ ((some (0,0)),(x.2,())) [(1,1)]),(1,.grow 5 1 (x.2.length))],2,58,0⟩) ⟨[0,1,7,8,9,10],[(0,384),(1,385)]⟩ qD ?_;intro x1 w1 n1 e f;obtain⟨aA,aB⟩:=x1;unfold a0K at e;dsimp only at e|-;refine qV (qI uS ?_);refine qZ e ?_ ?_<;>intro e Y
   .refine r9 (qS (sA (sA ?_)));obtain⟨X,e⟩:=qP e;refine qI uS ?_ (hp:=by exact X);refine qZ e ?_ ?_<;>intro e Y
    .obtain⟨W,e⟩:=qP e;obtain⟨aC,hv3,hw3,e⟩:=rQ e
     try simp only[go_sem] at hw3
     refine qI uS ?_ (hp:=by exact⟨W,(rO hv3)⟩) (h:=by simp only[go_sem,hw3];rfl);refine qV (qI uS ?_);refine qZ e ?_ ?_<;>intro e Y
     .refine qI uS ?_;refine qU (rC (s7 (s7 (uY (vN (s7 (rC ?_)))))));cases e;cases f;dsimp only at d;cases d;exact pN []
     refine r9 (qS ?_);obtain⟨aD,hv4,hw4,e⟩:=rQ e
     try simp only[go_sem] at hw4
     refine qI uS ?_ (hp:=by exact⟨qB,(rO hv4)⟩) (h:=by simp only[go_sem,hw4];rfl)
     obtain⟨V,e⟩:=qP e;refine rP uS ?_ (hp:=by exact V);refine sI (sI ?_);cases e;exact tB ⟨⟨[0,1,7,8,9,10],[(0,0),(1,1)]⟩,_,by rfl,f⟩
    obtain⟨U,e⟩:=qP e;refine qI uS ?_ (hp:=by exact U);refine qZ e ?_ ?_<;>intro e Y
    .refine qI uS ?_;refine qU (s7 (s7 (uY (vN (s7 (rC ?_))))));cases e;cases f;dsimp only at d;cases d;exact pN []
    obtain⟨T,e⟩:=qP e;obtain⟨aE,hv8,hw8,e⟩:=rQ e
    try simp only[go_sem] at hw8
    refine qI uS ?_ (hp:=by exact⟨T,qB,(rO hv8)⟩) (h:=by simp only[go_sem,hw8];rfl)
    obtain⟨S,e⟩:=qP e;refine rP uS ?_ (hp:=by exact S);refine sI (sI ?_);cases e;exact tB ⟨⟨[0,1,7,8,9,10],[(0,0),(1,1)]⟩,_,by rfl,f⟩
   refine tY (tV (tZ ?_));cases e;cases f;exact uF ⟨⟨[9],[(0,0),(1,1)]⟩,_,rfl,by rfl⟩
  rintro _ ⟨aF,rfl,rfl⟩;dsimp only at d|-;refine tX (qS ?_);refine qI uS ?_ (hp:=by first|rfl|trivial)
  refine qU ?_;cases d;exact pN []
 refine r9 (qS (qI uS ?_));refine qV (qI uS ?_);refine sA ?_;obtain⟨y1,hy1,d⟩:=vD d;refine uE 0 (fun s=> ∃v,y1= .inl v∧s=(fun x=>⟨[(9,.val .ref (some (0,0)),none)],[(0,.cells wZ ((some (0,0)),(x,())) [(1,1)]),(1,.grow 5 1 (x.length))],2,58,0⟩) v) ?_ ?_
 .refine uA hy1 (fun x=>⟨[(0,.val (.int .i64) O,none),(1,.val .str Z,none),(7,.val (.int .u8) (92:Int),none),(8,.val .clo (some (180,[])),none),(9,.val .ref (some (0,0)),none),(10,.val (.int .i64) x.1,none)],[(0,.cells wZ ((some (0,0)),(x.2,())) [(1,1)]),(1,.grow 5 1 (x.2.length))],2,58,0⟩) ⟨[0,1,7,8,9,10],[(0,320),(1,321)]⟩ qD ?_;intro x1 w1 n1 e f;obtain⟨aG,aH⟩:=x1;unfold Q9 at e;dsimp only at e|-;refine qV (qI uS ?_);refine qZ e ?_ ?_<;>intro e Y
  .refine r9 (qS (sA (sA ?_)));obtain⟨R,e⟩:=qP e;refine qI uS ?_ (hp:=by exact R);refine qZ e ?_ ?_<;>intro e Y
   .obtain⟨Q,e⟩:=qP e;obtain⟨aI,hv12,hw12,e⟩:=rQ e
    try simp only[go_sem] at hw12
    refine qI uS ?_ (hp:=by exact⟨Q,(rO hv12)⟩) (h:=by simp only[go_sem,hw12];rfl);refine qV (qI uS ?_);refine qZ e ?_ ?_<;>intro e Y
    .refine qI uS ?_;refine qU (rC (s7 (s7 (uY (vN (s7 (rC ?_)))))));cases e;cases f;dsimp only at d;cases d;exact pN []
    refine r9 (qS ?_);obtain⟨aJ,hv13,hw13,e⟩:=rQ e
    try simp only[go_sem] at hw13
    refine qI uS ?_ (hp:=by exact⟨qB,(rO hv13)⟩) (h:=by simp only[go_sem,hw13];rfl)
    obtain⟨P,e⟩:=qP e;refine rP uS ?_ (hp:=by exact P);refine sI (sI ?_);cases e;exact tB ⟨⟨[0,1,7,8,9,10],[(0,0),(1,1)]⟩,_,by rfl,f⟩
   obtain⟨M,e⟩:=qP e;refine qI uS ?_ (hp:=by exact M);refine qZ e ?_ ?_<;>intro e Y
   .refine qI uS ?_;refine qU (s7 (s7 (uY (vN (s7 (rC ?_))))));cases e;cases f;dsimp only at d;cases d;exact pN []
   obtain⟨L,e⟩:=qP e;obtain⟨aK,hv17,hw17,e⟩:=rQ e
   try simp only[go_sem] at hw17
   refine qI uS ?_ (hp:=by exact⟨L,qB,(rO hv17)⟩) (h:=by simp only[go_sem,hw17];rfl)
   obtain⟨K,e⟩:=qP e;refine rP uS ?_ (hp:=by exact K);refine sI (sI ?_);cases e;exact tB ⟨⟨[0,1,7,8,9,10],[(0,0),(1,1)]⟩,_,by rfl,f⟩
  refine tY (tV (tZ ?_));cases e;cases f;exact uF ⟨⟨[9],[(0,0),(1,1)]⟩,_,rfl,by rfl⟩
 rintro _ ⟨aL,rfl,rfl⟩;dsimp only at d|-;refine tX (qS ?_);refine qI uS ?_ (hp:=by first|rfl|trivial)
 refine qU ?_;cases d;exact pN []
attribute [irreducible] Q8 IY
end
noncomputable section
def DK (O:(pL×(Bool×Unit))):Option (Bool×pL×Bool×pL×Bool):=if ((decide ((Lib.trimLeftS O.1 ([32,9]:pL))=([]:pL)))||O.2.1)=true then some ((false,([]:pL),false,(Lib.trimLeftS O.1 ([32,9]:pL)),O.2.1)) else if 0≤(0:Int)∧(0:Int)<((Lib.trimLeftS O.1 ([32,9]:pL)).length:Int) then if (!decide ((sE (Lib.trimLeftS O.1 ([32,9]:pL)) (0:Int))=(34:Int)))=true then if List.length (Lib.trimLeftS O.1 ([32,9]:pL))<4294967281 then uO (σ:=Int) (if (decide ((PG (Lib.trimLeftS O.1 ([32,9]:pL)) ([32,9,34]:pL))<(0:Int)))=true then some (((Lib.trimLeftS O.1 ([32,9]:pL)).length:Int)) else some ((PG (Lib.trimLeftS O.1 ([32,9]:pL)) ([32,9,34]:pL))) ) fun Z=>if 0≤(0:Int)∧(0:Int)≤Z∧Z≤((Lib.trimLeftS O.1 ([32,9]:pL)).length:Int) then if 0≤Z∧Z≤((Lib.trimLeftS O.1 ([32,9]:pL)).length:Int)∧((Lib.trimLeftS O.1 ([32,9]:pL)).length:Int)≤((Lib.trimLeftS O.1 ([32,9]:pL)).length:Int) then (PY (sL (Lib.trimLeftS O.1 ([32,9]:pL)) Z ((Lib.trimLeftS O.1 ([32,9]:pL)).length:Int)) ([34]:pL)).bind fun aA=>some ((false,(sL (Lib.trimLeftS O.1 ([32,9]:pL)) (0:Int) Z),(!((decide ((([34]:pL).length:Int)≤((sL (Lib.trimLeftS O.1 ([32,9]:pL)) Z ((Lib.trimLeftS O.1 ([32,9]:pL)).length:Int)).length:Int)))&&(decide ((sL (sL (Lib.trimLeftS O.1 ([32,9]:pL)) Z ((Lib.trimLeftS O.1 ([32,9]:pL)).length:Int)) (0:Int) (([34]:pL).length:Int))=([34]:pL))))),(sL (Lib.trimLeftS O.1 ([32,9]:pL)) Z ((Lib.trimLeftS O.1 ([32,9]:pL)).length:Int)),((decide ((([34]:pL).length:Int)≤((sL (Lib.trimLeftS O.1 ([32,9]:pL)) Z ((Lib.trimLeftS O.1 ([32,9]:pL)).length:Int)).length:Int)))&&(decide ((sL (sL (Lib.trimLeftS O.1 ([32,9]:pL)) Z ((Lib.trimLeftS O.1 ([32,9]:pL)).length:Int)) (0:Int) (([34]:pL).length:Int))=([34]:pL)))))) else none else none else none else if 0≤(1:Int)∧(1:Int)≤((Lib.trimLeftS O.1 ([32,9]:pL)).length:Int)∧((Lib.trimLeftS O.1 ([32,9]:pL)).length:Int)≤((Lib.trimLeftS O.1 ([32,9]:pL)).length:Int) then (N5 (2:Int) (sL (Lib.trimLeftS O.1 ([32,9]:pL)) (1:Int) ((Lib.trimLeftS O.1 ([32,9]:pL)).length:Int)) (34:Int)).bind fun aB=>if (decide (aB<(0:Int)))=true then some ((false,([]:pL),false,(Lib.trimLeftS O.1 ([32,9]:pL)),true)) else if qM (aB+(1:Int)) then if 0≤(1:Int)∧(1:Int)≤(aB+(1:Int))∧(aB+(1:Int))≤((Lib.trimLeftS O.1 ([32,9]:pL)).length:Int) then (IY (2:Int) (sL (Lib.trimLeftS O.1 ([32,9]:pL)) (1:Int) (aB+(1:Int)))).bind fun aC=>if qM (aB+(2:Int)) then if 0≤(aB+(2:Int))∧(aB+(2:Int))≤((Lib.trimLeftS O.1 ([32,9]:pL)).length:Int)∧((Lib.trimLeftS O.1 ([32,9]:pL)).length:Int)≤((Lib.trimLeftS O.1 ([32,9]:pL)).length:Int) then if (((!decide (aC.2.2=(0:Int)))==false)=true→((EC aC.1)).isSome=true) then if (((((!decide (aC.2.2=(0:Int)))||(!((decide ((aC.1.length:Int)≤(4000:Int)))&&(Lib.validD aC.1))))==false)&&((!decide ((sL (Lib.trimLeftS O.1 ([32,9]:pL)) (aB+(2:Int)) ((Lib.trimLeftS O.1 ([32,9]:pL)).length:Int))=([]:pL)))==true))=true→0≤(0:Int)∧(0:Int)<((sL (Lib.trimLeftS O.1 ([32,9]:pL)) (aB+(2:Int)) ((Lib.trimLeftS O.1 ([32,9]:pL)).length:Int)).length:Int)) then if (((((!decide (aC.2.2=(0:Int)))||(!((decide ((aC.1.length:Int)≤(4000:Int)))&&(Lib.validD aC.1))))==false)&&(((!decide ((sL (Lib.trimLeftS O.1 ([32,9]:pL)) (aB+(2:Int)) ((Lib.trimLeftS O.1 ([32,9]:pL)).length:Int))=([]:pL)))&&(!decide ((sE (sL (Lib.trimLeftS O.1 ([32,9]:pL)) (aB+(2:Int)) ((Lib.trimLeftS O.1 ([32,9]:pL)).length:Int)) (0:Int))=(32:Int))))==true))=true→0≤(0:Int)∧(0:Int)<((sL (Lib.trimLeftS O.1 ([32,9]:pL)) (aB+(2:Int)) ((Lib.trimLeftS O.1 ([32,9]:pL)).length:Int)).length:Int)) then some ((true,aC.1,(!(((!decide (aC.2.2=(0:Int)))||(!((decide ((aC.1.length:Int)≤(4000:Int)))&&(Lib.validD aC.1))))||(((!decide ((sL (Lib.trimLeftS O.1 ([32,9]:pL)) (aB+(2:Int)) ((Lib.trimLeftS O.1 ([32,9]:pL)).length:Int))=([]:pL)))&&(!decide ((sE (sL (Lib.trimLeftS O.1 ([32,9]:pL)) (aB+(2:Int)) ((Lib.trimLeftS O.1 ([32,9]:pL)).length:Int)) (0:Int))=(32:Int))))&&(!decide ((sE (sL (Lib.trimLeftS O.1 ([32,9]:pL)) (aB+(2:Int)) ((Lib.trimLeftS O.1 ([32,9]:pL)).length:Int)) (0:Int))=(9:Int)))))),(sL (Lib.trimLeftS O.1 ([32,9]:pL)) (aB+(2:Int)) ((Lib.trimLeftS O.1 ([32,9]:pL)).length:Int)),(((!decide (aC.2.2=(0:Int)))||(!((decide ((aC.1.length:Int)≤(4000:Int)))&&(Lib.validD aC.1))))||(((!decide ((sL (Lib.trimLeftS O.1 ([32,9]:pL)) (aB+(2:Int)) ((Lib.trimLeftS O.1 ([32,9]:pL)).length:Int))=([]:pL)))&&(!decide ((sE (sL (Lib.trimLeftS O.1 ([32,9]:pL)) (aB+(2:Int)) ((Lib.trimLeftS O.1 ([32,9]:pL)).length:Int)) (0:Int))=(32:Int))))&&(!decide ((sE (sL (Lib.trimLeftS O.1 ([32,9]:pL)) (aB+(2:Int)) ((Lib.trimLeftS O.1 ([32,9]:pL)).length:Int)) (0:Int))=(9:Int))))))) else none else none else none else none else none else none else none else none else none
section
variable (O:(pL×(Bool×Unit)))
abbrev Fe:List qK:=[(.val .ref (some (0,0)),none)]
abbrev Ff:List qJ:=[.cells (.pair .str (.pair .bool .unit)) O []]
@[go_sem] def Fg:qT:=⟨[((DK O)).isSome=true],[(.val rK ((val (DK O)).1,((val (DK O)).2.1,())),none),(.val .bool ((val (DK O)).2.2.1),none)],[.cells (.pair .str (.pair .bool .unit)) ((val (DK O)).2.2.2.1,((val (DK O)).2.2.2.2,())) []]⟩
def a0N:List qK→List qJ→Option qT:=rX (V:=(pL×(Bool×Unit))) (fun x=>Fe) (Ff) fun x=>Fg x
@[go_sem] def aFp:a0N (no_index Fe) (no_index (Ff O))=some (Fg O):=rZ (fun a0 b0 h1 h2=>by cases h1;cases h2;rfl) O
end
@[go_sem] abbrev a0O:Nat×rH:=(115,⟨[.p (.pair .str (.pair .bool .unit)) []],a0N,[],[],none⟩)
def yO:rF prog [wK,sO,wU,YM] (rG [SD,Tq,Xx,Vs,a0M,ND]):=⟨⟨x7,⟨sP,⟨xK,⟨Tp,trivial⟩⟩⟩⟩,qW lj (qW a8a (qW a8H (qW a8p (qW a9i (qW SZ rU))))),rI⟩
def a9j:rL prog a0O:=by
 refine s5 yO func115 (c:=_) rfl (N:=152) qC (ts:=[(2,some 121),(3,none)]) rfl (fun _ _=>rfl) ?_;intro O hs hrow;dsimp only[Fe,Ff,Fg,rV,r5,rD,rJ,rW,Nat.reduceAdd] at hs hrow|-;have hz:=hs;obtain⟨z0,e⟩:=aFB.1 hz
 try rw[sC e]
 clear hz hs;unfold DK at e;refine qI yO ?_;refine qI yO ?_ (hp:=by exact⟨pQ,pQ⟩);refine qV (qI yO ?_ (hp:=by exact⟨id,id,id,tC⟩));refine qZ e ?_ ?_<;>intro e Y
 .refine qI yO ?_;refine qU (rC ?_);cases e;exact pN [(0,0)]
 refine r9 (qS (qV ?_));obtain⟨X,e⟩:=qP e;refine qI yO ?_ (hp:=by exact X);refine qZ e ?_ ?_<;>intro e Y
 .obtain⟨W,e⟩:=qP e;refine qI yO ?_ (hp:=by exact W);refine qV (qI yO ?_);obtain⟨Z,f,e⟩:=r8 e;refine D0 (fun s=>s=(fun x=>⟨[(0,.val .ref (some (0,0)),none),(2,.val .ref (some (1,0)),none),(4,.val (.int .i64) x,none)],[(0,.cells (.pair .str (.pair .bool .unit)) ((Lib.trimLeftS O.1 ([32,9]:pL)),O.2) []),(1,.cells rK (false,(([]:pL),())) [])],2,152,1⟩) Z) ?_ ?_
  .refine qZ f ?_ ?_<;>intro f Y
   .refine rP yO ?_;cases f;exact vV ⟨⟨[0,2,4],[(0,0),(1,1)]⟩,by rfl⟩
   refine r9 ?_;cases f;exact vV ⟨⟨[0,2,4],[(0,0),(1,1)]⟩,by rfl⟩
  rintro _ rfl;dsimp only at e|-;refine qS ?_;obtain⟨V,e⟩:=qP e;refine qI yO ?_ (hp:=by exact V);obtain⟨U,e⟩:=qP e;refine qI yO ?_ (hp:=by exact U);obtain⟨aA,hv5,hw5,e⟩:=rQ e
  try simp only[go_sem] at hw5
  refine qI yO ?_ (hp:=by exact(rO hv5)) (h:=by simp only[go_sem,hw5];rfl);refine xH yO ?_;refine qU (rC ?_);cases e;exact pN [(0,0)]
 refine r9 (qS ?_);obtain⟨T,e⟩:=qP e;obtain⟨aB,hv7,hw7,e⟩:=rQ e
 try simp only[go_sem] at hw7
 refine qI yO ?_ (hp:=by exact⟨T,(rO hv7)⟩) (h:=by simp only[go_sem,hw7];rfl);refine qV (qI yO ?_);refine qZ e ?_ ?_<;>intro e Y
 .refine qI yO ?_;refine qI yO ?_;refine qU (rC ?_);cases e;exact pN [(0,0)]
 refine r9 (qS ?_);obtain⟨S,R,e⟩:=pK e;obtain⟨aC,hv10,hw10,e⟩:=rQ e
 try simp only[go_sem] at hw10
 refine qI yO ?_ (hp:=by exact⟨S,R,(rO hv10)⟩) (h:=by simp only[go_sem,hw10];rfl);obtain⟨Q,P,e⟩:=pK e;refine qI yO ?_ (hp:=by exact⟨Q,P⟩);obtain⟨M,L,e⟩:=pK e;obtain⟨K,e⟩:=qP e;refine qI yO ?_ (hp:=by exact⟨id,M,id,tC,id,id,id,id,id,id,id,id,id,L,id,id,fun hG d=>GD hG d,id,id,id,id,id,K,id,id,fun hG d=>GD hG d,tC⟩);refine xH yO ?_;refine qU ?_;cases e;exact pN [(0,0)]
attribute [irreducible] DK
end
noncomputable section
def QA:((List (Bool×(pL×Unit)))×Bool×pL×Bool×Bool×pL)→Option (((List (Bool×(pL×Unit)))×Bool×pL×Bool×Bool×pL)⊕((List (Bool×(pL×Unit)))×pL×Bool)):=fun(O,Z,aA,aB,aC,aD)=>if Z=true then if (O.length+([(aC,(aD,()))]:List (Bool×(pL×Unit))).length)*24≤140737488355328 then (DK (aA,(aB,()))).bind fun aE=>some (.inl ((O++([(aC,(aD,()))]:List (Bool×(pL×Unit)))),aE.2.2.1,aE.2.2.2.1,aE.2.2.2.2,aE.1,aE.2.1)) else none else some (.inr (O,aA,aB))
def FG (O:pL):Option ((List (Bool×(pL×Unit)))×Bool):=(DK (O,(false,()))).bind fun Z=>uO (s8 QA (([]:List (Bool×(pL×Unit))),Z.2.2.1,Z.2.2.2.1,Z.2.2.2.2,Z.1,Z.2.1)) fun(aA,aB,aC)=>some ((aA,(!aC)))
section
variable (O:pL)
abbrev Fh:List qK:=[(.val .str O,none)]
abbrev Fi:List qJ:=[]
@[go_sem] def Fj:qT:=⟨[((FG O)).isSome=true],[(.val (.list rK) ((val (FG O)).1),some 0),(.val .bool ((val (FG O)).2),none)],[.grow 121 2 (((val (FG O)).1).length)]⟩
def a0P:List qK→List qJ→Option qT:=rX (V:=pL) (Fh) (fun x=>Fi) fun x=>Fj x
@[go_sem] def aFq:a0P (no_index (Fh O)) (no_index Fi)=some (Fj O):=rZ (fun a0 b0 h1 h2=>by cases h1;cases h2;rfl) O
end
@[go_sem] abbrev BU:Nat×rH:=(81,⟨[.v],a0P,[],[],none⟩)
def FH:rF prog [wK,x8,wU,YM] (rG [a0O]):=⟨⟨x7,⟨y6,⟨xK,⟨Tp,trivial⟩⟩⟩⟩,qW a9j rU,rI⟩
def NZ:rL prog BU:=by
 refine s5 FH func81 (c:=_) rfl (N:=33) qC (ts:=[(2,none),(3,none)]) rfl (fun _ _=>rfl) ?_;intro O hs hrow;dsimp only[Fh,Fi,Fj,rV,r5,rD,rJ,rW,Nat.reduceAdd] at hs hrow|-;have hz:=hs;obtain⟨z0,e⟩:=aFB.1 hz
 try rw[sC e]
 clear hz hs;unfold FG at e;refine qI FH ?_;refine qI FH ?_;refine qI FH ?_;refine qV ?_;obtain⟨Z,hv1,hw1,e⟩:=rQ e
 try simp only[go_sem] at hw1
 refine qI FH ?_ (hp:=by exact(rO hv1)) (h:=by simp only[go_sem,hw1];rfl);refine sA ?_;obtain⟨y1,hy1,e⟩:=r8 e;refine uE 0 (fun s=>s=(fun x=>⟨[(4,.val .ref (some (0,0)),none),(5,(.val (.list rK) x.1,some 1))],[(0,.cells (.pair .str (.pair .bool .unit)) (x.2.1,(x.2.2,())) []),(1,.grow 121 2 (x.1.length))],2,33,0⟩) y1) ?_ ?_
 .refine uA hy1 (fun x=>⟨[(4,.val .ref (some (0,0)),none),(5,(.val (.list rK) x.1,some 1)),(6,(.val .ref (some (2,0)),none)),(7,.val .bool x.2.1,none)],[(0,.cells (.pair .str (.pair .bool .unit)) (x.2.2.1,(x.2.2.2.1,())) []),(1,.grow 121 2 (x.1.length)),(2,.cells rK (x.2.2.2.2.1,(x.2.2.2.2.2,())) [])],3,33,0⟩) ⟨[4,5,6,7],[(0,128),(1,192),(2,384)]⟩ qD ?_;intro x1 w1 n1 d f;obtain⟨aA,aB,aC,aD,aE,aF⟩:=x1;unfold QA at d;dsimp only at d|-;refine qV (qI FH ?_);refine qZ d ?_ ?_<;>intro d Y
  .refine r9 (qS (qV (sA ?_)));obtain⟨X,d⟩:=qP d;refine rP FH ?_ (hp:=by exact⟨qB,X⟩)
   refine sI (qS (qV (qI FH ?_)));refine rP FH ?_;refine qS ?_;obtain⟨aG,hv3,hw3,d⟩:=rQ d
   try simp only[go_sem] at hw3
   refine rP FH ?_ (hp:=by exact(rO hv3)) (h:=by simp only[go_sem,hw3];rfl);cases d;exact tB ⟨⟨[4,5,6,7],[(0,0),(1,1),(2,227)]⟩,_,by rfl,f⟩
  refine tY (tV (tZ ?_));cases d;cases f;exact uF ⟨⟨[4,5],[(0,0),(1,1)]⟩,by rfl⟩
 rintro _ rfl;obtain⟨aH,aI,aJ⟩:=y1;dsimp only at e|-;refine tX (qS ?_);refine xH FH ?_;refine qU ?_;cases e;exact pN [(0,1)]
attribute [irreducible] FG
end
noncomputable section
def uZ (O:sB) (Z:Int) (aA:pL) (aB:pL) (aC:pL) (aD:pM) (aE:Int) (aF:Nat) (aG:(pV×Unit)) (aH:pL) (aI:Int) (aJ:(Option pM)) (aK:Nat) (aL:(Option (List r6))) (aM:Nat) (aN:pT) (aO:pT):Option (Int×pL×pM×(List r6)×(List sN)×Int×pL×pL×pL×pM×Int×Nat×pV×pT×(Option pM)×Nat×(Option (List r6))×Nat×pT):=(FG aH).bind fun aP=>if (!aP.2)=true then some (((3:Int),O.1,O.2.1,O.2.2.1,O.2.2.2.1,Z,aA,aB,aC,aD,aE,aF,aG.1,aO,aJ,aK,aL,aM,aN)) else if 0≤(0:Int)∧(0:Int)<(aP.1.length:Int) then if (qR rK aP.1 (0:Int)).1=true then (AM O Z aA aB aC aD aE aF aG aP.1 aJ aK aL aM aN aO).bind fun aQ=>some ((aQ.1,O.1,O.2.1,O.2.2.1,O.2.2.2.1,Z,aA,aQ.2.1,aQ.2.2.1,aD,aE,aF,aG.1,aO,aQ.2.2.2.1,aQ.2.2.2.2.1,aQ.2.2.2.2.2.1,aQ.2.2.2.2.2.2,aN)) else if ((decide (Z=(0:Int)))||(decide (Z=(2:Int))))=true then (x9 O Z aA aB aC aD aE aG aP.1 aJ aK aL aM aN aO).bind fun aR=>some ((aR.1,aR.2.1,O.2.1,O.2.2.1,O.2.2.2.1,aR.2.2.1,aR.2.2.2.1,aR.2.2.2.2.1,aR.2.2.2.2.2.1,aR.2.2.2.2.2.2.1,aR.2.2.2.2.2.2.2.1,0,aG.1,aR.2.2.2.2.2.2.2.2.1,aR.2.2.2.2.2.2.2.2.2.1,aR.2.2.2.2.2.2.2.2.2.2.1,aR.2.2.2.2.2.2.2.2.2.2.2.1,aR.2.2.2.2.2.2.2.2.2.2.2.2.1,aR.2.2.2.2.2.2.2.2.2.2.2.2.2)) else if 0≤(0:Int)∧(0:Int)<(aP.1.length:Int) then if (decide ((qR rK aP.1 (0:Int)).2.1=([101,110,100]:pL)))=true then aJ.bind fun aS=>aL.bind fun aT=>if 0≤(1:Int)∧(1:Int)≤(aP.1.length:Int)∧(aP.1.length:Int)≤(aP.1.length:Int) then (zL O Z aA aB aC aD aE aG (sL aP.1 (1:Int) (aP.1.length:Int)) aI aS aT aN aO).bind fun aU=>some ((aU.1,O.1,aU.2.1,aU.2.2.1,aU.2.2.2.1,aU.2.2.2.2.1,aA,aB,aC,aD,aE,0,aU.2.2.2.2.2.1,aO,aU.2.2.2.2.2.2.1,(aS.length),aU.2.2.2.2.2.2.2.1,aU.2.2.2.2.2.2.2.2,aN)) else none else if 0≤(0:Int)∧(0:Int)<(aP.1.length:Int) then BF (GN ((qR rK aP.1 (0:Int)).2.1)) fun aV=>if ((zO aV.1)||((decide (Z=(1:Int)))&&(!aV.2)))=true then some (((3:Int),O.1,O.2.1,O.2.2.1,O.2.2.2.1,Z,aA,aB,aC,aD,aE,0,aG.1,aO,aJ,aK,aL,aM,aN)) else BF aV.1 fun aW=>if aW=some 117 then aJ.bind fun aX=>aL.bind fun aY=>if 0≤(1:Int)∧(1:Int)≤(aP.1.length:Int)∧(aP.1.length:Int)≤(aP.1.length:Int) then (DB O Z aA aB aC aD aE aG (sL aP.1 (1:Int) (aP.1.length:Int)) aX aY aN aO).bind fun aZ=>some ((aZ.1,O.1,O.2.1,O.2.2.1,O.2.2.2.1,Z,aA,aB,aC,aD,aE,aZ.2.1,aG.1,aO,(some aZ.2.2),(aZ.2.2.length),(some aY),(aY.length),aN)) else none else if aW=some 118 then aJ.bind fun bA=>aL.bind fun bB=>if 0≤(1:Int)∧(1:Int)≤(aP.1.length:Int)∧(aP.1.length:Int)≤(aP.1.length:Int) then (DG O Z aA aB aC aD aE aG (sL aP.1 (1:Int) (aP.1.length:Int)) bA bB aN aO).bind fun bC=>some ((bC.1,O.1,O.2.1,O.2.2.1,O.2.2.2.1,Z,aA,aB,aC,aD,aE,bC.2.1,aG.1,aO,(some bA),(bA.length),(some bC.2.2),(bC.2.2.length),aN)) else none else if aW=some 119 then aJ.bind fun bD=>aL.bind fun bE=>if 0≤(1:Int)∧(1:Int)≤(aP.1.length:Int)∧(aP.1.length:Int)≤(aP.1.length:Int) then (F9 O Z aA aB aC aD aE aG (sL aP.1 (1:Int) (aP.1.length:Int)) bD bE aN aO).bind fun bF=>some ((bF.1,O.1,O.2.1,O.2.2.1,O.2.2.2.1,Z,aA,bF.2.1,aC,aD,aE,bF.2.2.1,aG.1,aO,(some bD),(bD.length),(some bE),(bE.length),bF.2.2.2)) else none else if aW=some 120 then aJ.bind fun bG=>aL.bind fun bH=>if 0≤(1:Int)∧(1:Int)≤(aP.1.length:Int)∧(aP.1.length:Int)≤(aP.1.length:Int) then (FA O Z aA aB aC aD aE aG (sL aP.1 (1:Int) (aP.1.length:Int)) bG bH aN aO).bind fun bI=>some ((bI.1,O.1,O.2.1,O.2.2.1,O.2.2.2.1,Z,aA,aB,bI.2.1,aD,aE,bI.2.2.1,aG.1,aO,(some bG),(bG.length),(some bH),(bH.length),bI.2.2.2)) else none else if aW=some 121 then aJ.bind fun bJ=>aL.bind fun bK=>if 0≤(1:Int)∧(1:Int)≤(aP.1.length:Int)∧(aP.1.length:Int)≤(aP.1.length:Int) then (GR O Z aA aB aC aD aE aG (sL aP.1 (1:Int) (aP.1.length:Int)) bJ bK aN aO).bind fun bM=>some ((bM.1,O.1,O.2.1,O.2.2.1,O.2.2.2.1,Z,aA,aB,aC,aD,bM.2.1,0,aG.1,aO,(some bJ),(bJ.length),(some bK),(bK.length),bM.2.2)) else none else if aW=some 122 then aJ.bind fun bN=>aL.bind fun bO=>if 0≤(1:Int)∧(1:Int)≤(aP.1.length:Int)∧(aP.1.length:Int)≤(aP.1.length:Int) then (GO O Z aA aB aC aD aE aG (sL aP.1 (1:Int) (aP.1.length:Int)) bN bO aN aO).bind fun bP=>some ((bP.1,O.1,O.2.1,O.2.2.1,O.2.2.2.1,Z,aA,aB,aC,bP.2.1,aE,0,aG.1,aO,(some bN),(bN.length),(some bO),(bO.length),bP.2.2)) else none else none else none else none else none
section
variable (O:pL) (Z:Int) (aA:sB) (aB:Int) (aC:pL) (aD:pL) (aE:pL) (aF:Nat) (aG:pM) (aH:Int) (aI:Nat) (aJ:Nat) (aK:Nat) (aL:Nat) (aM:(pV×Unit)) (aN:Nat) (aO:Nat) (aP:(Option pM)) (aQ:Nat) (aR:(Option (List r6))) (aS:Nat) (aT:pT) (aU:pT)
abbrev ZH:List qK:=[(.val .ref (some (0,0)),none),(.val .str O,none),(.val (.int .i64) Z,none)]
abbrev Fk:List qJ:=[.cells sS (aA,(aB,((aC,(aD,(aE,((some (3,aF)),(aG,(aH,((some (4,aI)),()))))))),((some 5),((some 6),((aJ,0,(3,aK),(4,aL)),aM)))))) [(3,1),(15,2)],.grow 45 7 aN,.grow 3 1 aO,sG 9 .str aP aQ,sG 110 rM aR aS,.map .str .bool aT,.map .str .bool aU]
@[go_sem] def ZI:qT:=⟨[aN=(aA.2.2.2.1.length),aO=(aM.1.length),aF=aQ,aI=aS,aK=aQ,aL=aS,((uZ aA aB aC aD aE aG aH aJ aM O Z aP aQ aR aS aT aU)).isSome=true],[(.val (.int .i64) ((val (uZ aA aB aC aD aE aG aH aJ aM O Z aP aQ aR aS aT aU)).1),none)],[.cells sS (((val (uZ aA aB aC aD aE aG aH aJ aM O Z aP aQ aR aS aT aU)).2.1,((val (uZ aA aB aC aD aE aG aH aJ aM O Z aP aQ aR aS aT aU)).2.2.1,((val (uZ aA aB aC aD aE aG aH aJ aM O Z aP aQ aR aS aT aU)).2.2.2.1,((val (uZ aA aB aC aD aE aG aH aJ aM O Z aP aQ aR aS aT aU)).2.2.2.2.1,())))),((val (uZ aA aB aC aD aE aG aH aJ aM O Z aP aQ aR aS aT aU)).2.2.2.2.2.1,(((val (uZ aA aB aC aD aE aG aH aJ aM O Z aP aQ aR aS aT aU)).2.2.2.2.2.2.1,((val (uZ aA aB aC aD aE aG aH aJ aM O Z aP aQ aR aS aT aU)).2.2.2.2.2.2.2.1,((val (uZ aA aB aC aD aE aG aH aJ aM O Z aP aQ aR aS aT aU)).2.2.2.2.2.2.2.2.1,((some (7,(val (uZ aA aB aC aD aE aG aH aJ aM O Z aP aQ aR aS aT aU)).2.2.2.2.2.2.2.2.2.2.2.2.2.2.2.1)),((val (uZ aA aB aC aD aE aG aH aJ aM O Z aP aQ aR aS aT aU)).2.2.2.2.2.2.2.2.2.1,((val (uZ aA aB aC aD aE aG aH aJ aM O Z aP aQ aR aS aT aU)).2.2.2.2.2.2.2.2.2.2.1,((some (8,(val (uZ aA aB aC aD aE aG aH aJ aM O Z aP aQ aR aS aT aU)).2.2.2.2.2.2.2.2.2.2.2.2.2.2.2.2.2.1)),()))))))),((some 9),((some 6),(((val (uZ aA aB aC aD aE aG aH aJ aM O Z aP aQ aR aS aT aU)).2.2.2.2.2.2.2.2.2.2.2.1,0,(7,(val (uZ aA aB aC aD aE aG aH aJ aM O Z aP aQ aR aS aT aU)).2.2.2.2.2.2.2.2.2.2.2.2.2.2.2.1),(8,(val (uZ aA aB aC aD aE aG aH aJ aM O Z aP aQ aR aS aT aU)).2.2.2.2.2.2.2.2.2.2.2.2.2.2.2.2.2.1)),((val (uZ aA aB aC aD aE aG aH aJ aM O Z aP aQ aR aS aT aU)).2.2.2.2.2.2.2.2.2.2.2.2.1,()))))))) [(3,1),(15,2)],.grow 45 7 (((val (uZ aA aB aC aD aE aG aH aJ aM O Z aP aQ aR aS aT aU)).2.2.2.2.1).length),.grow 3 1 (((val (uZ aA aB aC aD aE aG aH aJ aM O Z aP aQ aR aS aT aU)).2.2.2.2.2.2.2.2.2.2.2.2.1).length),.dead,.dead,.dead,.map .str .bool ((val (uZ aA aB aC aD aE aG aH aJ aM O Z aP aQ aR aS aT aU)).2.2.2.2.2.2.2.2.2.2.2.2.2.1),sG 9 .str ((val (uZ aA aB aC aD aE aG aH aJ aM O Z aP aQ aR aS aT aU)).2.2.2.2.2.2.2.2.2.2.2.2.2.2.1) ((val (uZ aA aB aC aD aE aG aH aJ aM O Z aP aQ aR aS aT aU)).2.2.2.2.2.2.2.2.2.2.2.2.2.2.2.1),sG 110 rM ((val (uZ aA aB aC aD aE aG aH aJ aM O Z aP aQ aR aS aT aU)).2.2.2.2.2.2.2.2.2.2.2.2.2.2.2.2.1) ((val (uZ aA aB aC aD aE aG aH aJ aM O Z aP aQ aR aS aT aU)).2.2.2.2.2.2.2.2.2.2.2.2.2.2.2.2.2.1),.map .str .bool ((val (uZ aA aB aC aD aE aG aH aJ aM O Z aP aQ aR aS aT aU)).2.2.2.2.2.2.2.2.2.2.2.2.2.2.2.2.2.2)]⟩
def Fl:List qK→List qJ→Option qT:=rX (V:=(pL×Int×sB×Int×pL×pL×pL×Nat×pM×Int×Nat×Nat×Nat×Nat×(pV×Unit)×Nat×Nat×(Option pM)×Nat×(Option (List r6))×Nat×pT×pT)) (fun x=>ZH x.1 x.2.1) (fun x=>Fk x.2.2.1 x.2.2.2.1 x.2.2.2.2.1 x.2.2.2.2.2.1 x.2.2.2.2.2.2.1 x.2.2.2.2.2.2.2.1 x.2.2.2.2.2.2.2.2.1 x.2.2.2.2.2.2.2.2.2.1 x.2.2.2.2.2.2.2.2.2.2.1 x.2.2.2.2.2.2.2.2.2.2.2.1 x.2.2.2.2.2.2.2.2.2.2.2.2.1 x.2.2.2.2.2.2.2.2.2.2.2.2.2.1 x.2.2.2.2.2.2.2.2.2.2.2.2.2.2.1 x.2.2.2.2.2.2.2.2.2.2.2.2.2.2.2.1 x.2.2.2.2.2.2.2.2.2.2.2.2.2.2.2.2.1 x.2.2.2.2.2.2.2.2.2.2.2.2.2.2.2.2.2.1 x.2.2.2.2.2.2.2.2.2.2.2.2.2.2.2.2.2.2.1 x.2.2.2.2.2.2.2.2.2.2.2.2.2.2.2.2.2.2.2.1 x.2.2.2.2.2.2.2.2.2.2.2.2.2.2.2.2.2.2.2.2.1 x.2.2.2.2.2.2.2.2.2.2.2.2.2.2.2.2.2.2.2.2.2.1 x.2.2.2.2.2.2.2.2.2.2.2.2.2.2.2.2.2.2.2.2.2.2) fun x=>ZI x.1 x.2.1 x.2.2.1 x.2.2.2.1 x.2.2.2.2.1 x.2.2.2.2.2.1 x.2.2.2.2.2.2.1 x.2.2.2.2.2.2.2.1 x.2.2.2.2.2.2.2.2.1 x.2.2.2.2.2.2.2.2.2.1 x.2.2.2.2.2.2.2.2.2.2.1 x.2.2.2.2.2.2.2.2.2.2.2.1 x.2.2.2.2.2.2.2.2.2.2.2.2.1 x.2.2.2.2.2.2.2.2.2.2.2.2.2.1 x.2.2.2.2.2.2.2.2.2.2.2.2.2.2.1 x.2.2.2.2.2.2.2.2.2.2.2.2.2.2.2.1 x.2.2.2.2.2.2.2.2.2.2.2.2.2.2.2.2.1 x.2.2.2.2.2.2.2.2.2.2.2.2.2.2.2.2.2.1 x.2.2.2.2.2.2.2.2.2.2.2.2.2.2.2.2.2.2.1 x.2.2.2.2.2.2.2.2.2.2.2.2.2.2.2.2.2.2.2.1 x.2.2.2.2.2.2.2.2.2.2.2.2.2.2.2.2.2.2.2.2.1 x.2.2.2.2.2.2.2.2.2.2.2.2.2.2.2.2.2.2.2.2.2.1 x.2.2.2.2.2.2.2.2.2.2.2.2.2.2.2.2.2.2.2.2.2.2
@[go_sem] def a9k:Fl (no_index (ZH O Z)) (no_index (Fk aA aB aC aD aE aF aG aH aI aJ aK aL aM aN aO aP aQ aR aS aT aU))=some (ZI O Z aA aB aC aD aE aF aG aH aI aJ aK aL aM aN aO aP aQ aR aS aT aU):=rZ (fun⟨a0,a1,a2,a3,a4,a5,a6,a7,a8,a9,a10,a11,a12,a13,a14,a15,a16,a17,a18,a19,a20,a21,a22⟩ ⟨b0,b1,b2,b3,b4,b5,b6,b7,b8,b9,b10,b11,b12,b13,b14,b15,b16,b17,b18,b19,b20,b21,b22⟩ h1 h2=>by cases h1;injection h2 with p0 h2;injection h2 with p1 h2;injection h2 with p2 h2;injection h2 with p3 h2;injection h2 with p4 h2;injection h2 with p5 h2;injection h2 with p6 h2;obtain⟨q3,r3⟩:=AY p3;cases q3;cases r3;obtain⟨q4,r4⟩:=AY p4;cases q4;cases r4;cases p0;cases p1;cases p2;cases p5;cases p6;rfl) (O,Z,aA,aB,aC,aD,aE,aF,aG,aH,aI,aJ,aK,aL,aM,aN,aO,aP,aQ,aR,aS,aT,aU)
end
@[go_sem] def aFr (O:pL) (Z:Int) (aA:sB) (aB:Int) (aC:pL) (aD:pL) (aE:pL) (aF:Nat) (aG:pM) (aH:Int) (aI:Nat) (aJ:Nat) (aK:Nat) (aL:Nat) (aM:(pV×Unit)) (aN:Nat) (aO:Nat) (aP:pM) (aQ:Nat) (aR:List r6) (aS:Nat) (aT:pT) (aU:pT):Fl (no_index (ZH O Z)) (no_index ([.cells sS (aA,(aB,((aC,(aD,(aE,((some (3,aF)),(aG,(aH,((some (4,aI)),()))))))),((some 5),((some 6),((aJ,0,(3,aK),(4,aL)),aM)))))) [(3,1),(15,2)],.grow 45 7 aN,.grow 3 1 aO,.row 9 .str aP aQ,.row 110 rM aR aS,.map .str .bool aT,.map .str .bool aU]:List qJ))=some (ZI O Z aA aB aC aD aE aF aG aH aI aJ aK aL aM aN aO (some aP) aQ (some aR) aS aT aU):=a9k O Z aA aB aC aD aE aF aG aH aI aJ aK aL aM aN aO (some aP) aQ (some aR) aS aT aU
@[go_sem] abbrev TN:Nat×rH:=(56,⟨[.p sS [3,15],.v,.v],Fl,[(0,8,.r),(0,11,.r),(0,12,.m),(0,13,.m)],[],none⟩)
def a0Q:rF prog [] (rG [BU,Ay,yl,BL,BI,BJ,BR,BN,BO,BP,BK]):=⟨trivial,qW NZ (qW a8Z (qW a8J (qW NE (qW N9 (qW NA (qW NT (qW NO (qW NP (qW NQ (qW NC rU)))))))))),rI⟩
def zB:rF prog [vO,wK,sO,BH,vP,x8,wU,IB] (rG [BU,Ay,yl,BL,BI,BJ,BR,BN,BO,BP,BK]):=⟨⟨w4,⟨x7,⟨sP,⟨D3,⟨w5,⟨y6,⟨xK,⟨N3,trivial⟩⟩⟩⟩⟩⟩⟩⟩,a0Q.Γ,rI⟩
def a0R:rL prog TN:=by
 refine s5 a0Q func56 (c:=_) rfl (N:=81) qC (ts:=[(6,none)]) rfl (fun _ _=>rfl) ?_ (h3:=by intro _;repeat (first|exact trivial|refine K7 rfl ?_ |refine ⟨rfl,?_⟩))
 intro⟨O,Z,aA,aB,aC,aD,aE,aF,aG,aH,aI,aJ,aK,aL,aM,aN,aO,aP,aQ,aR,aS,aT,aU⟩ hs hrow;dsimp only[ZH,Fk,ZI,rV,r5,rD,rJ,rW,Nat.reduceAdd] at hs hrow|-;obtain⟨rfl,rfl,hps2,hps3,hps4,hps5,hz⟩:=hs;obtain rfl:=hps2.symm;obtain rfl:=hps3.symm;obtain rfl:=hps4.symm;obtain rfl:=hps5.symm;obtain⟨z0,d⟩:=aFB.1 hz
 try rw[sC d]
 clear hz;unfold uZ at d;refine qI zB ?_;obtain⟨aV,hv1,hw1,d⟩:=rQ d
 try simp only[go_sem] at hw1
 refine qI zB ?_ (hp:=by exact(rO hv1)) (h:=by simp only[go_sem,hw1];rfl);refine qV (sA (qI zB ?_));refine qZ d ?_ ?_<;>intro d Y
 .refine qI zB ?_;refine qU (s7 (rC ?_));cases d;exact pO [(0,0),(1,1),(2,2),(6,6),(7,3),(8,4),(9,5)]
 obtain⟨X,d⟩:=qP d;refine qI zB ?_ (hp:=by exact X);refine qZ d ?_ ?_<;>intro d Y
 .obtain⟨aW,hv3,hw3,d⟩:=rQ d
  try simp only[go_sem] at hw3
  refine qI zB ?_ (hp:=by exact⟨qB,qB,qB,qB,qB,qB,qB,qB,qB,qB,(rO hv3)⟩) (h:=by simp only[go_sem,hw3];rfl)
  refine qU (s7 (rC ?_));cases d;exact pO [(0,0),(1,1),(2,2),(6,6),(7,3),(8,4),(9,5)]
 refine r9 (sI (qS (qI zB ?_)));refine qV (qI zB ?_ (hp:=by exact⟨id,id,id,id,tC⟩));refine qZ d ?_ ?_<;>intro d Y
 .refine qV (zV 0 (0,(3,aQ),(4,aS)) (x2:=(aA,(aB,((aC,(aD,(aE,((some (3,aQ)),(aG,(aH,((some (4,aS)),()))))))),((some 5),((some 6),((0,0,(3,aQ),(4,aS)),aM))))))) rfl qE ?_)
  obtain⟨aX,hv4,hw4,d⟩:=rQ d
  try simp only[go_sem] at hw4
  refine rP zB ?_ (hp:=by exact⟨qB,qB,qB,qB,qB,qB,qB,qB,(rO hv4)⟩) (h:=by simp only[go_sem,hw4];rfl)
  refine qS (qU (rC ?_));cases d;exact pO [(0,0),(1,1),(2,2),(6,6),(7,1102),(8,1103),(9,1104)]
 refine r9 (qS (qV ?_));obtain⟨W,d⟩:=qP d;refine qI zB ?_ (hp:=by exact W);refine qZ d ?_ ?_<;>intro d Y
 .refine qV (zV 0 (0,(3,aQ),(4,aS)) (x2:=(aA,(aB,((aC,(aD,(aE,((some (3,aQ)),(aG,(aH,((some (4,aS)),()))))))),((some 5),((some 6),((0,0,(3,aQ),(4,aS)),aM))))))) rfl qE ?_)
  obtain⟨aY,hal6,hAhal6⟩:=AZ d;subst hal6;obtain⟨aZ,hal7,hAhal7⟩:=AZ hAhal6;subst hal7;rw[show sG 9 .str (some aY:Option pM) aQ= .row 9 .str aY aQ from rfl];rw[show sG 110 rM (some aZ:Option (List r6)) aS= .row 110 rM aZ aS from rfl];refine B0 3 rfl fun hln=>?_;subst hln;refine B0 4 rfl fun hln=>?_;subst hln;have d:=hAhal7;obtain⟨V,d⟩:=qP d;obtain⟨bA,hv9,hw9,d⟩:=rQ d
  try simp only[go_sem] at hw9
  refine rP zB ?_ (hp:=by exact⟨V,qB,qB,qB,qB,qB,qB,qB,qB,(rO hv9)⟩) (h:=by simp only[go_sem,hw9];rfl)
  refine qS (qU (rC ?_));cases d;exact pO [(0,0),(1,1),(2,2),(6,6),(7,3),(8,1326),(9,5)]
 refine r9 (qS ?_);obtain⟨U,d⟩:=qP d;obtain⟨bB,hw_89,d⟩:=S8 d
 try simp only[go_sem] at hw_89
 refine qI zB ?_ (hp:=by exact U) (h:=by simp only[go_sem,hw_89];rfl);refine qV (qI zB ?_ (hp:=by exact⟨id,id,id,id,id,id,id,fun hG e=>GD hG e,tC⟩));refine qZ d ?_ ?_<;>intro d Y
 .refine qI zB ?_;refine zV 0 (0,(3,aQ),(4,aS)) (x2:=(aA,(aB,((aC,(aD,(aE,((some (3,aQ)),(aG,(aH,((some (4,aS)),()))))))),((some 5),((some 6),((0,0,(3,aQ),(4,aS)),aM))))))) rfl qE ?_
  refine qU (rC ?_);cases d;exact pO [(0,0),(1,1),(2,2),(6,6),(7,3),(8,4),(9,5)]
 refine r9 (qS (qV ?_));replace d:=kq d;generalize bB.1=bC at d|-;by_cases hfn:bC=some 117
 .subst hfn;rw[aFz rfl] at d;refine zV 0 (0,(3,aQ),(4,aS)) (x2:=(aA,(aB,((aC,(aD,(aE,((some (3,aQ)),(aG,(aH,((some (4,aS)),()))))))),((some 5),((some 6),((0,0,(3,aQ),(4,aS)),aM))))))) rfl qE ?_
  obtain⟨bD,hal11,hAhal11⟩:=AZ d;subst hal11;obtain⟨bE,hal12,hAhal12⟩:=AZ hAhal11;subst hal12;rw[show sG 9 .str (some bD:Option pM) aQ= .row 9 .str bD aQ from rfl];rw[show sG 110 rM (some bE:Option (List r6)) aS= .row 110 rM bE aS from rfl];refine B0 3 rfl fun hln=>?_;subst hln;refine B0 4 rfl fun hln=>?_;subst hln;have d:=hAhal12;obtain⟨T,d⟩:=qP d;obtain⟨bF,hv14,hw14,d⟩:=rQ d
  try simp only[go_sem] at hw14
  refine rP zB ?_ (hp:=by exact⟨T,qB,qB,qB,qB,qB,qB,qB,qB,qB,qB,qB,(rO hv14)⟩) (h:=by simp only[go_sem,hw14];rfl)
  refine qS (qU ?_);cases d;exact pO [(0,0),(1,1),(2,2),(6,6),(7,3),(8,4),(9,5)]
 rw[aFA hfn] at d;clear hfn;by_cases hfn:bC=some 118
 .subst hfn;rw[aFz rfl] at d;refine zV 0 (0,(3,aQ),(4,aS)) (x2:=(aA,(aB,((aC,(aD,(aE,((some (3,aQ)),(aG,(aH,((some (4,aS)),()))))))),((some 5),((some 6),((0,0,(3,aQ),(4,aS)),aM))))))) rfl qE ?_
  obtain⟨bG,hal15,hAhal15⟩:=AZ d;subst hal15;obtain⟨bH,hal16,hAhal16⟩:=AZ hAhal15;subst hal16;rw[show sG 9 .str (some bG:Option pM) aQ= .row 9 .str bG aQ from rfl];rw[show sG 110 rM (some bH:Option (List r6)) aS= .row 110 rM bH aS from rfl];refine B0 3 rfl fun hln=>?_;subst hln;refine B0 4 rfl fun hln=>?_;subst hln;have d:=hAhal16;obtain⟨S,d⟩:=qP d;obtain⟨bI,hv18,hw18,d⟩:=rQ d
  try simp only[go_sem] at hw18
  refine rP zB ?_ (hp:=by exact⟨S,qB,qB,qB,qB,qB,qB,qB,qB,qB,qB,qB,(rO hv18)⟩) (h:=by simp only[go_sem,hw18];rfl)
  refine qS (qU ?_);cases d;exact pO [(0,0),(1,1),(2,2),(6,6),(7,3),(8,4),(9,5)]
 rw[aFA hfn] at d;clear hfn;by_cases hfn:bC=some 119
 .subst hfn;rw[aFz rfl] at d;refine zV 0 (0,(3,aQ),(4,aS)) (x2:=(aA,(aB,((aC,(aD,(aE,((some (3,aQ)),(aG,(aH,((some (4,aS)),()))))))),((some 5),((some 6),((0,0,(3,aQ),(4,aS)),aM))))))) rfl qE ?_
  obtain⟨bJ,hal19,hAhal19⟩:=AZ d;subst hal19;obtain⟨bK,hal20,hAhal20⟩:=AZ hAhal19;subst hal20;rw[show sG 9 .str (some bJ:Option pM) aQ= .row 9 .str bJ aQ from rfl];rw[show sG 110 rM (some bK:Option (List r6)) aS= .row 110 rM bK aS from rfl];refine B0 3 rfl fun hln=>?_;subst hln;refine B0 4 rfl fun hln=>?_;subst hln;have d:=hAhal20;obtain⟨R,d⟩:=qP d;obtain⟨bM,hv22,hw22,d⟩:=rQ d
  try simp only[go_sem] at hw22
  refine rP zB ?_ (hp:=by exact⟨R,qB,qB,qB,qB,qB,qB,qB,qB,qB,qB,qB,(rO hv22)⟩) (h:=by simp only[go_sem,hw22];rfl)
  refine qS (qU ?_);cases d;exact pO [(0,0),(1,1),(2,2),(6,6),(7,3),(8,4),(9,5)]
 rw[aFA hfn] at d;clear hfn;by_cases hfn:bC=some 120
 .subst hfn;rw[aFz rfl] at d;refine zV 0 (0,(3,aQ),(4,aS)) (x2:=(aA,(aB,((aC,(aD,(aE,((some (3,aQ)),(aG,(aH,((some (4,aS)),()))))))),((some 5),((some 6),((0,0,(3,aQ),(4,aS)),aM))))))) rfl qE ?_
  obtain⟨bN,hal23,hAhal23⟩:=AZ d;subst hal23;obtain⟨bO,hal24,hAhal24⟩:=AZ hAhal23;subst hal24;rw[show sG 9 .str (some bN:Option pM) aQ= .row 9 .str bN aQ from rfl];rw[show sG 110 rM (some bO:Option (List r6)) aS= .row 110 rM bO aS from rfl];refine B0 3 rfl fun hln=>?_;subst hln;refine B0 4 rfl fun hln=>?_;subst hln;have d:=hAhal24;obtain⟨Q,d⟩:=qP d;obtain⟨bP,hv26,hw26,d⟩:=rQ d
  try simp only[go_sem] at hw26
  refine rP zB ?_ (hp:=by exact⟨Q,qB,qB,qB,qB,qB,qB,qB,qB,qB,qB,qB,(rO hv26)⟩) (h:=by simp only[go_sem,hw26];rfl)
  refine qS (qU ?_);cases d;exact pO [(0,0),(1,1),(2,2),(6,6),(7,3),(8,4),(9,5)]
 rw[aFA hfn] at d;clear hfn;by_cases hfn:bC=some 121
 .subst hfn;rw[aFz rfl] at d;refine zV 0 (0,(3,aQ),(4,aS)) (x2:=(aA,(aB,((aC,(aD,(aE,((some (3,aQ)),(aG,(aH,((some (4,aS)),()))))))),((some 5),((some 6),((0,0,(3,aQ),(4,aS)),aM))))))) rfl qE ?_
  obtain⟨bQ,hal27,hAhal27⟩:=AZ d;subst hal27;obtain⟨bR,hal28,hAhal28⟩:=AZ hAhal27;subst hal28;rw[show sG 9 .str (some bQ:Option pM) aQ= .row 9 .str bQ aQ from rfl];rw[show sG 110 rM (some bR:Option (List r6)) aS= .row 110 rM bR aS from rfl];refine B0 3 rfl fun hln=>?_;subst hln;refine B0 4 rfl fun hln=>?_;subst hln;have d:=hAhal28;obtain⟨P,d⟩:=qP d;obtain⟨bS,hv30,hw30,d⟩:=rQ d
  try simp only[go_sem] at hw30
  refine rP zB ?_ (hp:=by exact⟨P,qB,qB,qB,qB,qB,qB,qB,qB,qB,qB,qB,(rO hv30)⟩) (h:=by simp only[go_sem,hw30];rfl)
  refine qS (qU ?_);cases d;exact pO [(0,0),(1,1),(2,2),(6,6),(7,3),(8,4),(9,5)]
 rw[aFA hfn] at d;clear hfn;by_cases hfn:bC=some 122
 .subst hfn;rw[aFz rfl] at d;refine zV 0 (0,(3,aQ),(4,aS)) (x2:=(aA,(aB,((aC,(aD,(aE,((some (3,aQ)),(aG,(aH,((some (4,aS)),()))))))),((some 5),((some 6),((0,0,(3,aQ),(4,aS)),aM))))))) rfl qE ?_
  obtain⟨bT,hal31,hAhal31⟩:=AZ d;subst hal31;obtain⟨bU,hal32,hAhal32⟩:=AZ hAhal31;subst hal32;rw[show sG 9 .str (some bT:Option pM) aQ= .row 9 .str bT aQ from rfl];rw[show sG 110 rM (some bU:Option (List r6)) aS= .row 110 rM bU aS from rfl];refine B0 3 rfl fun hln=>?_;subst hln;refine B0 4 rfl fun hln=>?_;subst hln;have d:=hAhal32;obtain⟨M,d⟩:=qP d;obtain⟨bV,hv34,hw34,d⟩:=rQ d
  try simp only[go_sem] at hw34
  refine rP zB ?_ (hp:=by exact⟨M,qB,qB,qB,qB,qB,qB,qB,qB,qB,qB,qB,(rO hv34)⟩) (h:=by simp only[go_sem,hw34];rfl)
  refine qS (qU ?_);cases d;exact pO [(0,0),(1,1),(2,2),(6,6),(7,3),(8,4),(9,5)]
 rw[aFA hfn] at d;clear hfn;cases d
attribute [irreducible] uZ
end
noncomputable section
def A2 (O:sB) (Z:Int) (aA:pL) (aB:pL) (aC:pL) (aD:pM) (aE:Int) (aF:(pV×Unit)) (aG:pL) (aH:Int) (aI:(Option pM)) (aJ:Nat) (aK:(Option (List r6))) (aL:Nat) (aM:pT):Option (pL×Int×pL×pT):=(FG aG).bind fun aN=>if (!aN.2)=true then none else if 0≤(0:Int)∧(0:Int)<(aN.1.length:Int) then if (qR rK aN.1 (0:Int)).1=true then (NK O Z aA aB aC aD aE aF aN.1 aI aJ aK aL aM).bind fun aO=>none else if ((decide (Z=(0:Int)))||(decide (Z=(2:Int))))=true then if ((BM O Z aA aB aC aD aE aF aN.1 aI aJ aK aL aM)).isSome=true then (BM O Z aA aB aC aD aE aF aN.1 aI aJ aK aL aM).bind fun aP=>some ((aP.1,aP.2.1,aP.2.2.1,aP.2.2.2)) else (KN O Z aA aB aC aD aE aF aN.1 aI aJ aK aL aM).bind fun aQ=>none else if 0≤(0:Int)∧(0:Int)<(aN.1.length:Int) then if (decide ((qR rK aN.1 (0:Int)).2.1=([101,110,100]:pL)))=true then none else if 0≤(0:Int)∧(0:Int)<(aN.1.length:Int) then BF (GN ((qR rK aN.1 (0:Int)).2.1)) fun aR=>if ((zO aR.1)||((decide (Z=(1:Int)))&&(!aR.2)))=true then none else BF aR.1 fun aS=>if aS=some 117 then none else if aS=some 118 then none else if aS=some 119 then none else if aS=some 120 then none else if aS=some 121 then none else if aS=some 122 then none else none else none else none else none
section
variable (O:pL) (Z:Int) (aA:sB) (aB:Int) (aC:pL) (aD:pL) (aE:pL) (aF:Nat) (aG:pM) (aH:Int) (aI:Nat) (aJ:Nat) (aK:Nat) (aL:(pV×Unit)) (aM:Nat) (aN:Nat) (aO:(Option pM)) (aP:Nat) (aQ:(Option (List r6))) (aR:Nat) (aS:pT)
abbrev ZJ:List qK:=[(.val .ref (some (0,0)),none),(.val .str O,none),(.val (.int .i64) Z,none)]
abbrev Fm:List qJ:=[.cells sS (aA,(aB,((aC,(aD,(aE,((some (3,aF)),(aG,(aH,((some (4,aI)),()))))))),(none,((some 5),((0,0,(3,aJ),(4,aK)),aL)))))) [(3,1),(15,2)],.grow 45 7 aM,.grow 3 1 aN,sG 9 .str aO aP,sG 110 rM aQ aR,.map .str .bool aS]
@[go_sem] def ZK:qT:=⟨[aM=(aA.2.2.2.1.length),aN=(aL.1.length),aF=aP,aI=aR,aJ=aP,aK=aR,((A2 aA aB aC aD aE aG aH aL O Z aO aP aQ aR aS)).isSome=true],[(.val (.int .i64) (0:Int),none)],[.cells sS (((val (A2 aA aB aC aD aE aG aH aL O Z aO aP aQ aR aS)).1,(aA.2.1,(aA.2.2.1,(aA.2.2.2.1,())))),((val (A2 aA aB aC aD aE aG aH aL O Z aO aP aQ aR aS)).2.1,(((val (A2 aA aB aC aD aE aG aH aL O Z aO aP aQ aR aS)).2.2.1,(([]:pL),(([]:pL),((some (6,0)),(([]:pM),((0:Int),((some (7,0)),()))))))),((some 8),((some 5),((0,0,(6,0),(7,0)),(aL.1,()))))))) [(3,1),(9,9),(15,2)],.grow 45 7 (aA.2.2.2.1.length),.grow 3 1 (aL.1.length),sG 9 .str aO aP,sG 110 rM aQ aR,.map .str .bool ((val (A2 aA aB aC aD aE aG aH aL O Z aO aP aQ aR aS)).2.2.2),.row 9 .str ([]:pM) 0,.row 110 rM ([]:List r6) 0,.map .str .bool ([]:pT),.grow 9 1 (([]:pM).length)]⟩
def Fn:List qK→List qJ→Option qT:=rX (V:=(pL×Int×sB×Int×pL×pL×pL×Nat×pM×Int×Nat×Nat×Nat×(pV×Unit)×Nat×Nat×(Option pM)×Nat×(Option (List r6))×Nat×pT)) (fun x=>ZJ x.1 x.2.1) (fun x=>Fm x.2.2.1 x.2.2.2.1 x.2.2.2.2.1 x.2.2.2.2.2.1 x.2.2.2.2.2.2.1 x.2.2.2.2.2.2.2.1 x.2.2.2.2.2.2.2.2.1 x.2.2.2.2.2.2.2.2.2.1 x.2.2.2.2.2.2.2.2.2.2.1 x.2.2.2.2.2.2.2.2.2.2.2.1 x.2.2.2.2.2.2.2.2.2.2.2.2.1 x.2.2.2.2.2.2.2.2.2.2.2.2.2.1 x.2.2.2.2.2.2.2.2.2.2.2.2.2.2.1 x.2.2.2.2.2.2.2.2.2.2.2.2.2.2.2.1 x.2.2.2.2.2.2.2.2.2.2.2.2.2.2.2.2.1 x.2.2.2.2.2.2.2.2.2.2.2.2.2.2.2.2.2.1 x.2.2.2.2.2.2.2.2.2.2.2.2.2.2.2.2.2.2.1 x.2.2.2.2.2.2.2.2.2.2.2.2.2.2.2.2.2.2.2.1 x.2.2.2.2.2.2.2.2.2.2.2.2.2.2.2.2.2.2.2.2) fun x=>ZK x.1 x.2.1 x.2.2.1 x.2.2.2.1 x.2.2.2.2.1 x.2.2.2.2.2.1 x.2.2.2.2.2.2.1 x.2.2.2.2.2.2.2.1 x.2.2.2.2.2.2.2.2.1 x.2.2.2.2.2.2.2.2.2.1 x.2.2.2.2.2.2.2.2.2.2.1 x.2.2.2.2.2.2.2.2.2.2.2.1 x.2.2.2.2.2.2.2.2.2.2.2.2.1 x.2.2.2.2.2.2.2.2.2.2.2.2.2.1 x.2.2.2.2.2.2.2.2.2.2.2.2.2.2.1 x.2.2.2.2.2.2.2.2.2.2.2.2.2.2.2.1 x.2.2.2.2.2.2.2.2.2.2.2.2.2.2.2.2.1 x.2.2.2.2.2.2.2.2.2.2.2.2.2.2.2.2.2.1 x.2.2.2.2.2.2.2.2.2.2.2.2.2.2.2.2.2.2.1 x.2.2.2.2.2.2.2.2.2.2.2.2.2.2.2.2.2.2.2.1 x.2.2.2.2.2.2.2.2.2.2.2.2.2.2.2.2.2.2.2.2
@[go_sem] def a9l:Fn (no_index (ZJ O Z)) (no_index (Fm aA aB aC aD aE aF aG aH aI aJ aK aL aM aN aO aP aQ aR aS))=some (ZK O Z aA aB aC aD aE aF aG aH aI aJ aK aL aM aN aO aP aQ aR aS):=rZ (fun⟨a0,a1,a2,a3,a4,a5,a6,a7,a8,a9,a10,a11,a12,a13,a14,a15,a16,a17,a18,a19,a20⟩ ⟨b0,b1,b2,b3,b4,b5,b6,b7,b8,b9,b10,b11,b12,b13,b14,b15,b16,b17,b18,b19,b20⟩ h1 h2=>by cases h1;injection h2 with p0 h2;injection h2 with p1 h2;injection h2 with p2 h2;injection h2 with p3 h2;injection h2 with p4 h2;injection h2 with p5 h2;obtain⟨q3,r3⟩:=AY p3;cases q3;cases r3;obtain⟨q4,r4⟩:=AY p4;cases q4;cases r4;cases p0;cases p1;cases p2;cases p5;rfl) (O,Z,aA,aB,aC,aD,aE,aF,aG,aH,aI,aJ,aK,aL,aM,aN,aO,aP,aQ,aR,aS)
end
@[go_sem] def aFs (O:pL) (Z:Int) (aA:sB) (aB:Int) (aC:pL) (aD:pL) (aE:pL) (aF:Nat) (aG:pM) (aH:Int) (aI:Nat) (aJ:Nat) (aK:Nat) (aL:(pV×Unit)) (aM:Nat) (aN:Nat) (aO:pM) (aP:Nat) (aQ:List r6) (aR:Nat) (aS:pT):Fn (no_index (ZJ O Z)) (no_index ([.cells sS (aA,(aB,((aC,(aD,(aE,((some (3,aF)),(aG,(aH,((some (4,aI)),()))))))),(none,((some 5),((0,0,(3,aJ),(4,aK)),aL)))))) [(3,1),(15,2)],.grow 45 7 aM,.grow 3 1 aN,.row 9 .str aO aP,.row 110 rM aQ aR,.map .str .bool aS]:List qJ))=some (ZK O Z aA aB aC aD aE aF aG aH aI aJ aK aL aM aN (some aO) aP (some aQ) aR aS):=a9l O Z aA aB aC aD aE aF aG aH aI aJ aK aL aM aN (some aO) aP (some aQ) aR aS
@[go_sem] abbrev TO:Nat×rH:=(56,⟨[.p sS [3,15],.v,.v],Fn,[(0,8,.r),(0,11,.r),(0,13,.m)],[1,2,3,4],none⟩)
def a0S:rF prog [] (rG [BU,DD,IP,BL,BI,BJ,BR,BN,BO,BP,BK]):=⟨trivial,qW NZ (qW Q0 (qW Z6 (qW NE (qW N9 (qW NA (qW NT (qW NO (qW NP (qW NQ (qW NC rU)))))))))),rI⟩
def FI:rF prog [vO,wK,sO,BH,vP,x8,wU,IB] (rG [BU,DD,IP,BL,BI,BJ,BR,BN,BO,BP,BK]):=⟨⟨w4,⟨x7,⟨sP,⟨D3,⟨w5,⟨y6,⟨xK,⟨N3,trivial⟩⟩⟩⟩⟩⟩⟩⟩,a0S.Γ,rI⟩
def a9m:rF prog [] (rG [BU,DD,IP,BL,BI,BJ,BR,BN,BO,BP,BK]):=⟨trivial,qW NZ (qW Q0 (qW Z6 (qW NE (qW N9 (qW NA (qW NT (qW NO (qW NP (qW NQ (qW NC rU)))))))))),rI⟩
def a0T:rF prog [vO,wK,sO,BH,vP,x8,wU,IB] (rG [BU,DD,IP,BL,BI,BJ,BR,BN,BO,BP,BK]):=⟨⟨w4,⟨x7,⟨sP,⟨D3,⟨w5,⟨y6,⟨xK,⟨N3,trivial⟩⟩⟩⟩⟩⟩⟩⟩,a9m.Γ,rI⟩
def a9n:rF prog [] (rG [BU,DD,T0,BL,BI,BJ,BR,BN,BO,BP,BK]):=⟨trivial,qW NZ (qW Q0 (qW Yc (qW NE (qW N9 (qW NA (qW NT (qW NO (qW NP (qW NQ (qW NC rU)))))))))),rI⟩
def a9o:rF prog [vO,wK,sO,BH,vP,x8,wU,IB] (rG [BU,DD,T0,BL,BI,BJ,BR,BN,BO,BP,BK]):=⟨⟨w4,⟨x7,⟨sP,⟨D3,⟨w5,⟨y6,⟨xK,⟨N3,trivial⟩⟩⟩⟩⟩⟩⟩⟩,a9n.Γ,rI⟩
def a0U:rL prog TO:=by
 refine s5 a0S func56 (c:=_) rfl (N:=81) qC (ts:=[(6,none)]) rfl (fun _ _=>rfl) ?_ (h3:=by intro _;repeat (first|exact trivial|refine K7 rfl ?_ |refine ⟨rfl,?_⟩))
 intro⟨O,Z,aA,aB,aC,aD,aE,aF,aG,aH,aI,aJ,aK,aL,aM,aN,aO,aP,aQ,aR,aS⟩ hs hrow;dsimp only[ZJ,Fm,ZK,rV,r5,rD,rJ,rW,Nat.reduceAdd] at hs hrow|-;obtain⟨rfl,rfl,hps2,hps3,hps4,hps5,hz⟩:=hs;obtain rfl:=hps2.symm;obtain rfl:=hps3.symm;obtain rfl:=hps4.symm;obtain rfl:=hps5.symm;obtain⟨z0,d⟩:=aFB.1 hz
 try rw[sC d]
 clear hz;unfold A2 at d;refine qI FI ?_;obtain⟨aT,hv1,hw1,d⟩:=rQ d
 try simp only[go_sem] at hw1
 refine qI FI ?_ (hp:=by exact(rO hv1)) (h:=by simp only[go_sem,hw1];rfl);refine qV (sA (qI FI ?_));refine qZ d ?_ ?_<;>intro d Y
 .refine qV (rP FI ?_);cases d
 obtain⟨X,d⟩:=qP d;refine qI FI ?_ (hp:=by exact X);refine qZ d ?_ ?_<;>intro d Y
 .refine qV ?_;obtain⟨aU,hv3,hw3,d⟩:=rQ d
  try simp only[go_sem] at hw3
  refine rP a0T ?_ (hp:=by exact⟨qB,qB,qB,qB,qB,qB,qB,qB,qB,qB,qB,(rO hv3)⟩) (h:=by simp only[go_sem,hw3];rfl)
  cases d
 refine r9 (sI (qS (qI FI ?_)));refine qV (qI FI ?_ (hp:=by exact⟨id,id,id,id,tC⟩));refine qZ d ?_ ?_<;>intro d Y
 .refine qV (zV 0 (0,(3,aP),(4,aR)) (x2:=(aA,(aB,((aC,(aD,(aE,((some (3,aP)),(aG,(aH,((some (4,aR)),()))))))),(none,((some 5),((0,0,(3,aP),(4,aR)),aL))))))) rfl qE ?_)
  by_cases hva4:((BM aA aB aC aD aE aG aH aL aT.1 aO aP aQ aR aS)).isSome=true
  .rw[aFz hva4] at d;obtain⟨aV,hv4,hw4,d⟩:=rQ d
   try simp only[go_sem] at hw4
   refine rP a0T ?_ (hp:=by exact⟨qB,qB,qB,qB,qB,qB,qB,qB,qB,qB,(rO hv4)⟩) (h:=by simp only[go_sem,hw4];rfl)
   refine qS (qU (rC ?_));cases d;exact pO [(0,0),(1,1),(2,2),(3,3),(4,4),(5,5),(6,1100),(7,1101),(8,1102),(9,1103)]
  rw[aFA hva4] at d;obtain⟨aW,hv5,hw5,d⟩:=rQ d
  try simp only[go_sem] at hw5
  refine rP a9o ?_ (hp:=by exact⟨qB,qB,qB,qB,qB,qB,qB,qB,qB,qB,qB,(rO hv5)⟩) (h:=by simp only[go_sem,hw5];rfl)
  cases d
 refine r9 (qS (qV ?_));obtain⟨W,d⟩:=qP d;refine qI FI ?_ (hp:=by exact W);refine qZ d ?_ ?_<;>intro d Y
 .cases d
 refine r9 (qS ?_);obtain⟨V,d⟩:=qP d;obtain⟨aX,hw_46,d⟩:=S8 d
 try simp only[go_sem] at hw_46
 refine qI FI ?_ (hp:=by exact V) (h:=by simp only[go_sem,hw_46];rfl);refine qV (qI FI ?_ (hp:=by exact⟨id,id,id,id,id,id,id,fun hG e=>GD hG e,tC⟩));refine qZ d ?_ ?_<;>intro d Y
 .refine qV (rP FI ?_);cases d
 refine r9 (qS (qV ?_));replace d:=kq d;generalize aX.1=aY at d|-;by_cases hfn:aY=some 117
 .subst hfn;rw[aFz rfl] at d;cases d
 rw[aFA hfn] at d;clear hfn;by_cases hfn:aY=some 118
 .subst hfn;rw[aFz rfl] at d;cases d
 rw[aFA hfn] at d;clear hfn;by_cases hfn:aY=some 119
 .subst hfn;rw[aFz rfl] at d;cases d
 rw[aFA hfn] at d;clear hfn;by_cases hfn:aY=some 120
 .subst hfn;rw[aFz rfl] at d;cases d
 rw[aFA hfn] at d;clear hfn;by_cases hfn:aY=some 121
 .subst hfn;rw[aFz rfl] at d;cases d
 rw[aFA hfn] at d;clear hfn;by_cases hfn:aY=some 122
 .subst hfn;rw[aFz rfl] at d;cases d
 rw[aFA hfn] at d;clear hfn;cases d
attribute [irreducible] A2
end
noncomputable section
def GX (O:sB) (Z:Int) (aA:pL) (aB:pL) (aC:pL) (aD:pM) (aE:Int) (aF:(pV×Unit)) (aG:pL) (aH:Int) (aI:(Option pM)) (aJ:Nat) (aK:(Option (List r6))) (aL:Nat) (aM:pT):Option Int:=(FG aG).bind fun aN=>if (!aN.2)=true then some ((3:Int)) else if 0≤(0:Int)∧(0:Int)<(aN.1.length:Int) then if (qR rK aN.1 (0:Int)).1=true then (NK O Z aA aB aC aD aE aF aN.1 aI aJ aK aL aM).bind fun aO=>some (aO) else if ((decide (Z=(0:Int)))||(decide (Z=(2:Int))))=true then if ((BM O Z aA aB aC aD aE aF aN.1 aI aJ aK aL aM)).isSome=true then (BM O Z aA aB aC aD aE aF aN.1 aI aJ aK aL aM).bind fun aP=>none else (KN O Z aA aB aC aD aE aF aN.1 aI aJ aK aL aM).bind fun aQ=>some (aQ) else if 0≤(0:Int)∧(0:Int)<(aN.1.length:Int) then if (decide ((qR rK aN.1 (0:Int)).2.1=([101,110,100]:pL)))=true then none else if 0≤(0:Int)∧(0:Int)<(aN.1.length:Int) then BF (GN ((qR rK aN.1 (0:Int)).2.1)) fun aR=>if ((zO aR.1)||((decide (Z=(1:Int)))&&(!aR.2)))=true then some ((3:Int)) else BF aR.1 fun aS=>if aS=some 117 then none else if aS=some 118 then none else if aS=some 119 then none else if aS=some 120 then none else if aS=some 121 then none else if aS=some 122 then none else none else none else none else none
section
variable (O:pL) (Z:Int) (aA:sB) (aB:Int) (aC:pL) (aD:pL) (aE:pL) (aF:Nat) (aG:pM) (aH:Int) (aI:Nat) (aJ:Nat) (aK:Nat) (aL:(pV×Unit)) (aM:Nat) (aN:Nat) (aO:(Option pM)) (aP:Nat) (aQ:(Option (List r6))) (aR:Nat) (aS:pT)
abbrev ZL:List qK:=[(.val .ref (some (0,0)),none),(.val .str O,none),(.val (.int .i64) Z,none)]
abbrev Fo:List qJ:=[.cells sS (aA,(aB,((aC,(aD,(aE,((some (3,aF)),(aG,(aH,((some (4,aI)),()))))))),(none,((some 5),((0,0,(3,aJ),(4,aK)),aL)))))) [(3,1),(15,2)],.grow 45 7 aM,.grow 3 1 aN,sG 9 .str aO aP,sG 110 rM aQ aR,.map .str .bool aS]
@[go_sem] def ZM:qT:=⟨[aM=(aA.2.2.2.1.length),aN=(aL.1.length),aF=aP,aI=aR,aJ=aP,aK=aR,((GX aA aB aC aD aE aG aH aL O Z aO aP aQ aR aS)).isSome=true],[(.val (.int .i64) (val (GX aA aB aC aD aE aG aH aL O Z aO aP aQ aR aS)),none)],[.cells sS ((aA.1,(aA.2.1,(aA.2.2.1,(aA.2.2.2.1,())))),(aB,((aC,(aD,(aE,((some (3,aP)),(aG,(aH,((some (4,aR)),()))))))),(none,((some 5),((0,0,(3,aP),(4,aR)),(aL.1,()))))))) [(3,1),(15,2)],.grow 45 7 (aA.2.2.2.1.length),.grow 3 1 (aL.1.length),sG 9 .str aO aP,sG 110 rM aQ aR,.map .str .bool aS]⟩
def Fp:List qK→List qJ→Option qT:=rX (V:=(pL×Int×sB×Int×pL×pL×pL×Nat×pM×Int×Nat×Nat×Nat×(pV×Unit)×Nat×Nat×(Option pM)×Nat×(Option (List r6))×Nat×pT)) (fun x=>ZL x.1 x.2.1) (fun x=>Fo x.2.2.1 x.2.2.2.1 x.2.2.2.2.1 x.2.2.2.2.2.1 x.2.2.2.2.2.2.1 x.2.2.2.2.2.2.2.1 x.2.2.2.2.2.2.2.2.1 x.2.2.2.2.2.2.2.2.2.1 x.2.2.2.2.2.2.2.2.2.2.1 x.2.2.2.2.2.2.2.2.2.2.2.1 x.2.2.2.2.2.2.2.2.2.2.2.2.1 x.2.2.2.2.2.2.2.2.2.2.2.2.2.1 x.2.2.2.2.2.2.2.2.2.2.2.2.2.2.1 x.2.2.2.2.2.2.2.2.2.2.2.2.2.2.2.1 x.2.2.2.2.2.2.2.2.2.2.2.2.2.2.2.2.1 x.2.2.2.2.2.2.2.2.2.2.2.2.2.2.2.2.2.1 x.2.2.2.2.2.2.2.2.2.2.2.2.2.2.2.2.2.2.1 x.2.2.2.2.2.2.2.2.2.2.2.2.2.2.2.2.2.2.2.1 x.2.2.2.2.2.2.2.2.2.2.2.2.2.2.2.2.2.2.2.2) fun x=>ZM x.1 x.2.1 x.2.2.1 x.2.2.2.1 x.2.2.2.2.1 x.2.2.2.2.2.1 x.2.2.2.2.2.2.1 x.2.2.2.2.2.2.2.1 x.2.2.2.2.2.2.2.2.1 x.2.2.2.2.2.2.2.2.2.1 x.2.2.2.2.2.2.2.2.2.2.1 x.2.2.2.2.2.2.2.2.2.2.2.1 x.2.2.2.2.2.2.2.2.2.2.2.2.1 x.2.2.2.2.2.2.2.2.2.2.2.2.2.1 x.2.2.2.2.2.2.2.2.2.2.2.2.2.2.1 x.2.2.2.2.2.2.2.2.2.2.2.2.2.2.2.1 x.2.2.2.2.2.2.2.2.2.2.2.2.2.2.2.2.1 x.2.2.2.2.2.2.2.2.2.2.2.2.2.2.2.2.2.1 x.2.2.2.2.2.2.2.2.2.2.2.2.2.2.2.2.2.2.1 x.2.2.2.2.2.2.2.2.2.2.2.2.2.2.2.2.2.2.2.1 x.2.2.2.2.2.2.2.2.2.2.2.2.2.2.2.2.2.2.2.2
@[go_sem] def a9p:Fp (no_index (ZL O Z)) (no_index (Fo aA aB aC aD aE aF aG aH aI aJ aK aL aM aN aO aP aQ aR aS))=some (ZM O Z aA aB aC aD aE aF aG aH aI aJ aK aL aM aN aO aP aQ aR aS):=rZ (fun⟨a0,a1,a2,a3,a4,a5,a6,a7,a8,a9,a10,a11,a12,a13,a14,a15,a16,a17,a18,a19,a20⟩ ⟨b0,b1,b2,b3,b4,b5,b6,b7,b8,b9,b10,b11,b12,b13,b14,b15,b16,b17,b18,b19,b20⟩ h1 h2=>by cases h1;injection h2 with p0 h2;injection h2 with p1 h2;injection h2 with p2 h2;injection h2 with p3 h2;injection h2 with p4 h2;injection h2 with p5 h2;obtain⟨q3,r3⟩:=AY p3;cases q3;cases r3;obtain⟨q4,r4⟩:=AY p4;cases q4;cases r4;cases p0;cases p1;cases p2;cases p5;rfl) (O,Z,aA,aB,aC,aD,aE,aF,aG,aH,aI,aJ,aK,aL,aM,aN,aO,aP,aQ,aR,aS)
end
@[go_sem] def aFt (O:pL) (Z:Int) (aA:sB) (aB:Int) (aC:pL) (aD:pL) (aE:pL) (aF:Nat) (aG:pM) (aH:Int) (aI:Nat) (aJ:Nat) (aK:Nat) (aL:(pV×Unit)) (aM:Nat) (aN:Nat) (aO:pM) (aP:Nat) (aQ:List r6) (aR:Nat) (aS:pT):Fp (no_index (ZL O Z)) (no_index ([.cells sS (aA,(aB,((aC,(aD,(aE,((some (3,aF)),(aG,(aH,((some (4,aI)),()))))))),(none,((some 5),((0,0,(3,aJ),(4,aK)),aL)))))) [(3,1),(15,2)],.grow 45 7 aM,.grow 3 1 aN,.row 9 .str aO aP,.row 110 rM aQ aR,.map .str .bool aS]:List qJ))=some (ZM O Z aA aB aC aD aE aF aG aH aI aJ aK aL aM aN (some aO) aP (some aQ) aR aS):=a9p O Z aA aB aC aD aE aF aG aH aI aJ aK aL aM aN (some aO) aP (some aQ) aR aS
@[go_sem] abbrev TP:Nat×rH:=(56,⟨[.p sS [3,15],.v,.v],Fp,[(0,8,.r),(0,11,.r),(0,13,.m)],[1,2,3,4,5],none⟩)
def a0V:rF prog [] (rG [BU,DD,IP,BL,BI,BJ,BR,BN,BO,BP,BK]):=⟨trivial,qW NZ (qW Q0 (qW Z6 (qW NE (qW N9 (qW NA (qW NT (qW NO (qW NP (qW NQ (qW NC rU)))))))))),rI⟩
def FJ:rF prog [vO,wK,sO,BH,vP,x8,wU,IB] (rG [BU,DD,IP,BL,BI,BJ,BR,BN,BO,BP,BK]):=⟨⟨w4,⟨x7,⟨sP,⟨D3,⟨w5,⟨y6,⟨xK,⟨N3,trivial⟩⟩⟩⟩⟩⟩⟩⟩,a0V.Γ,rI⟩
def a9q:rF prog [] (rG [BU,DD,IP,BL,BI,BJ,BR,BN,BO,BP,BK]):=⟨trivial,qW NZ (qW Q0 (qW Z6 (qW NE (qW N9 (qW NA (qW NT (qW NO (qW NP (qW NQ (qW NC rU)))))))))),rI⟩
def a0W:rF prog [vO,wK,sO,BH,vP,x8,wU,IB] (rG [BU,DD,IP,BL,BI,BJ,BR,BN,BO,BP,BK]):=⟨⟨w4,⟨x7,⟨sP,⟨D3,⟨w5,⟨y6,⟨xK,⟨N3,trivial⟩⟩⟩⟩⟩⟩⟩⟩,a9q.Γ,rI⟩
def a9r:rF prog [] (rG [BU,DD,T0,BL,BI,BJ,BR,BN,BO,BP,BK]):=⟨trivial,qW NZ (qW Q0 (qW Yc (qW NE (qW N9 (qW NA (qW NT (qW NO (qW NP (qW NQ (qW NC rU)))))))))),rI⟩
def a9s:rF prog [vO,wK,sO,BH,vP,x8,wU,IB] (rG [BU,DD,T0,BL,BI,BJ,BR,BN,BO,BP,BK]):=⟨⟨w4,⟨x7,⟨sP,⟨D3,⟨w5,⟨y6,⟨xK,⟨N3,trivial⟩⟩⟩⟩⟩⟩⟩⟩,a9r.Γ,rI⟩
def a0X:rL prog TP:=by
 refine s5 a0V func56 (c:=_) rfl (N:=81) qC (ts:=[(6,none)]) rfl (fun _ _=>rfl) ?_ (h3:=by intro _;repeat (first|exact trivial|refine K7 rfl ?_ |refine ⟨rfl,?_⟩))
 intro⟨O,Z,aA,aB,aC,aD,aE,aF,aG,aH,aI,aJ,aK,aL,aM,aN,aO,aP,aQ,aR,aS⟩ hs hrow;dsimp only[ZL,Fo,ZM,rV,r5,rD,rJ,rW,Nat.reduceAdd] at hs hrow|-;obtain⟨rfl,rfl,hps2,hps3,hps4,hps5,hz⟩:=hs;obtain rfl:=hps2.symm;obtain rfl:=hps3.symm;obtain rfl:=hps4.symm;obtain rfl:=hps5.symm;obtain⟨z0,d⟩:=aFB.1 hz
 try rw[sC d]
 clear hz;unfold GX at d;refine qI FJ ?_;obtain⟨aT,hv1,hw1,d⟩:=rQ d
 try simp only[go_sem] at hw1
 refine qI FJ ?_ (hp:=by exact(rO hv1)) (h:=by simp only[go_sem,hw1];rfl);refine qV (sA (qI FJ ?_));refine qZ d ?_ ?_<;>intro d Y
 .refine qI FJ ?_;refine qU (s7 (rC ?_));cases d;exact pO [(0,0),(1,1),(2,2),(3,3),(4,4),(5,5)]
 obtain⟨X,d⟩:=qP d;refine qI FJ ?_ (hp:=by exact X);refine qZ d ?_ ?_<;>intro d Y
 .obtain⟨aU,hv3,hw3,d⟩:=rQ d
  try simp only[go_sem] at hw3
  refine qI a0W ?_ (hp:=by exact⟨qB,qB,qB,qB,qB,qB,qB,qB,qB,qB,qB,(rO hv3)⟩) (h:=by simp only[go_sem,hw3];rfl)
  refine qU (s7 (rC ?_));cases d;exact pO [(0,0),(1,1),(2,2),(3,3),(4,4),(5,5)]
 refine r9 (sI (qS (qI FJ ?_)));refine qV (qI FJ ?_ (hp:=by exact⟨id,id,id,id,tC⟩));refine qZ d ?_ ?_<;>intro d Y
 .refine qV (zV 0 (0,(3,aP),(4,aR)) (x2:=(aA,(aB,((aC,(aD,(aE,((some (3,aP)),(aG,(aH,((some (4,aR)),()))))))),(none,((some 5),((0,0,(3,aP),(4,aR)),aL))))))) rfl qE ?_)
  by_cases hva4:((BM aA aB aC aD aE aG aH aL aT.1 aO aP aQ aR aS)).isSome=true
  .rw[aFz hva4] at d;obtain⟨aV,hv4,hw4,d⟩:=rQ d
   try simp only[go_sem] at hw4
   refine rP a0W ?_ (hp:=by exact⟨qB,qB,qB,qB,qB,qB,qB,qB,qB,qB,(rO hv4)⟩) (h:=by simp only[go_sem,hw4];rfl)
   cases d
  rw[aFA hva4] at d;obtain⟨aW,hv5,hw5,d⟩:=rQ d
  try simp only[go_sem] at hw5
  refine rP a9s ?_ (hp:=by exact⟨qB,qB,qB,qB,qB,qB,qB,qB,qB,qB,qB,(rO hv5)⟩) (h:=by simp only[go_sem,hw5];rfl)
  refine qS (qU (rC ?_));cases d;exact pO [(0,0),(1,1),(2,2),(3,3),(4,4),(5,5)]
 refine r9 (qS (qV ?_));obtain⟨W,d⟩:=qP d;refine qI FJ ?_ (hp:=by exact W);refine qZ d ?_ ?_<;>intro d Y
 .cases d
 refine r9 (qS ?_);obtain⟨V,d⟩:=qP d;obtain⟨aX,hw_43,d⟩:=S8 d
 try simp only[go_sem] at hw_43
 refine qI FJ ?_ (hp:=by exact V) (h:=by simp only[go_sem,hw_43];rfl);refine qV (qI FJ ?_ (hp:=by exact⟨id,id,id,id,id,id,id,fun hG e=>GD hG e,tC⟩));refine qZ d ?_ ?_<;>intro d Y
 .refine qI FJ ?_;refine zV 0 (0,(3,aP),(4,aR)) (x2:=(aA,(aB,((aC,(aD,(aE,((some (3,aP)),(aG,(aH,((some (4,aR)),()))))))),(none,((some 5),((0,0,(3,aP),(4,aR)),aL))))))) rfl qE ?_
  refine qU (rC ?_);cases d;exact pO [(0,0),(1,1),(2,2),(3,3),(4,4),(5,5)]
 refine r9 (qS (qV ?_));replace d:=kq d;generalize aX.1=aY at d|-;by_cases hfn:aY=some 117
 .subst hfn;rw[aFz rfl] at d;cases d
 rw[aFA hfn] at d;clear hfn;by_cases hfn:aY=some 118
 .subst hfn;rw[aFz rfl] at d;cases d
 rw[aFA hfn] at d;clear hfn;by_cases hfn:aY=some 119
 .subst hfn;rw[aFz rfl] at d;cases d
 rw[aFA hfn] at d;clear hfn;by_cases hfn:aY=some 120
 .subst hfn;rw[aFz rfl] at d;cases d
 rw[aFA hfn] at d;clear hfn;by_cases hfn:aY=some 121
 .subst hfn;rw[aFz rfl] at d;cases d
 rw[aFA hfn] at d;clear hfn;by_cases hfn:aY=some 122
 .subst hfn;rw[aFz rfl] at d;cases d
 rw[aFA hfn] at d;clear hfn;cases d
attribute [irreducible] GX
end
noncomputable section
def B1 (O:pL):(Int⊕(Int×pL×pM×(List r6)×(List sN)×Int×pL×pL×pL×pM×Int×Nat×pV×(Option pM)×Nat×(Option (List r6))×Nat×pT×pT))→Option ((Int⊕(Int×pL×pM×(List r6)×(List sN)×Int×pL×pL×pL×pM×Int×Nat×pV×(Option pM)×Nat×(Option (List r6))×Nat×pT×pT))⊕(pL×pM×(List r6)×(List sN)×Int×pL×pL×pL×pM×Int×Nat×pV×(Option pM)×Nat×(Option (List r6))×Nat×pT×pT)):=fun x=>match x with
 | .inl Z=>
  if (decide (Z<(O.length:Int)))=true then
   if 0≤Z∧Z≤(O.length:Int)∧(O.length:Int)≤(O.length:Int) then
    (D9 (sL O Z (O.length:Int)) ([10]:pL)).bind fun aA=>
    if qM (Z+(aA.1.length:Int)) then
     if qM ((Z+(aA.1.length:Int))+(1:Int)) then
      (IC aA.1).bind fun aB=>
      if (!((decide ((Lib.trimLeftS aA.1 ([32,9]:pL))=([]:pL)))||(decide ((sE (Lib.trimLeftS aA.1 ([32,9]:pL)) (0:Int))=(35:Int)))))=true then
       if ((A2 (([]:pL),(([]:pM),(([]:List r6),(([]:List sN),())))) (0:Int) ([]:pL) ([]:pL) ([]:pL) ([]:pM) (0:Int) (([]:pV),()) aA.1 (min (O.length:Int) ((Z+(aA.1.length:Int))+(1:Int))) (some ([]:pM)) 0 (some ([]:List r6)) 0 ([]:pT))).isSome=true then
        (A2 (([]:pL),(([]:pM),(([]:List r6),(([]:List sN),())))) (0:Int) ([]:pL) ([]:pL) ([]:pL) ([]:pM) (0:Int) (([]:pV),()) aA.1 (min (O.length:Int) ((Z+(aA.1.length:Int))+(1:Int))) (some ([]:pM)) 0 (some ([]:List r6)) 0 ([]:pT)).bind fun aC=>
        if (!decide ((0:Int)=(0:Int)))=true then
         none
        else
         some (.inl (.inr ((min (O.length:Int) ((Z+(aA.1.length:Int))+(1:Int))),aC.1,([]:pM),([]:List r6),([]:List sN),aC.2.1,aC.2.2.1,([]:pL),([]:pL),([]:pM),(0:Int),0,([]:pV),(some ([]:pM)),0,(some ([]:List r6)),0,([]:pT),aC.2.2.2)))
       else
        (GX (([]:pL),(([]:pM),(([]:List r6),(([]:List sN),())))) (0:Int) ([]:pL) ([]:pL) ([]:pL) ([]:pM) (0:Int) (([]:pV),()) aA.1 (min (O.length:Int) ((Z+(aA.1.length:Int))+(1:Int))) (some ([]:pM)) 0 (some ([]:List r6)) 0 ([]:pT)).bind fun aD=>
        if (!decide (aD=(0:Int)))=true then
         none
        else
         some (.inl (.inl (min (O.length:Int) ((Z+(aA.1.length:Int))+(1:Int)))))
      else
       some (.inl (.inl (min (O.length:Int) ((Z+(aA.1.length:Int))+(1:Int)))))
     else none
    else none
   else none
  else
   if (!decide ((0:Int)=(2:Int)))=true then
    none
   else
    none
 | .inr (aE,aF,aG,aH,aI,aJ,aK,aL,aM,aN,aO,aP,aQ,aR,aS,aT,aU,aV,aW)=>
  if (decide (aE<(O.length:Int)))=true then
   if 0≤aE∧aE≤(O.length:Int)∧(O.length:Int)≤(O.length:Int) then
    (D9 (sL O aE (O.length:Int)) ([10]:pL)).bind fun aX=>
    if qM (aE+(aX.1.length:Int)) then
     if qM ((aE+(aX.1.length:Int))+(1:Int)) then
      (IC aX.1).bind fun aY=>
      if (!((decide ((Lib.trimLeftS aX.1 ([32,9]:pL))=([]:pL)))||(decide ((sE (Lib.trimLeftS aX.1 ([32,9]:pL)) (0:Int))=(35:Int)))))=true then
       (uZ (aF,(aG,(aH,(aI,())))) aJ aK aL aM aN aO aP (aQ,()) aX.1 (min (O.length:Int) ((aE+(aX.1.length:Int))+(1:Int))) aR aS aT aU aV aW).bind fun aZ=>
       if (!decide (aZ.1=(0:Int)))=true then
        none
       else
        some (.inl (.inr ((min (O.length:Int) ((aE+(aX.1.length:Int))+(1:Int))),aZ.2.1,aZ.2.2.1,aZ.2.2.2.1,aZ.2.2.2.2.1,aZ.2.2.2.2.2.1,aZ.2.2.2.2.2.2.1,aZ.2.2.2.2.2.2.2.1,aZ.2.2.2.2.2.2.2.2.1,aZ.2.2.2.2.2.2.2.2.2.1,aZ.2.2.2.2.2.2.2.2.2.2.1,aZ.2.2.2.2.2.2.2.2.2.2.2.1,aZ.2.2.2.2.2.2.2.2.2.2.2.2.1,aZ.2.2.2.2.2.2.2.2.2.2.2.2.2.2.1,aZ.2.2.2.2.2.2.2.2.2.2.2.2.2.2.2.1,aZ.2.2.2.2.2.2.2.2.2.2.2.2.2.2.2.2.1,aZ.2.2.2.2.2.2.2.2.2.2.2.2.2.2.2.2.2.1,aZ.2.2.2.2.2.2.2.2.2.2.2.2.2.2.2.2.2.2,aZ.2.2.2.2.2.2.2.2.2.2.2.2.2.1)))
      else
       some (.inl (.inr ((min (O.length:Int) ((aE+(aX.1.length:Int))+(1:Int))),aF,aG,aH,aI,aJ,aK,aL,aM,aN,aO,aP,aQ,aR,aS,aT,aU,aV,aW)))
     else none
    else none
   else none
  else
   if (!decide (aJ=(2:Int)))=true then
    none
   else
    some (.inr ((aF,aG,aH,aI,aJ,aK,aL,aM,aN,aO,aP,aQ,aR,aS,aT,aU,aV,aW)))
def v6 (O:pL):Option (pL×pM×(List r6)×(List sN)×Int×pL×pL×pL×pM×Int×Nat×pV×(Option pM)×Nat×(Option (List r6))×Nat×pT×pT):=s8 (B1 O) (.inl (0:Int))
section
variable (O:pL)
abbrev Fq:List qK:=[(.val .str O,none)]
abbrev Fs:List qJ:=[]
@[go_sem] def Ft:qT:=⟨[((v6 O)).isSome=true],[(.val .ref (some (0,0)),none),(.val (.int .i64) (0:Int),none),(.val (.int .i64) (0:Int),none)],[.cells sS (((val (v6 O)).1,((val (v6 O)).2.1,((val (v6 O)).2.2.1,((val (v6 O)).2.2.2.1,())))),((val (v6 O)).2.2.2.2.1,(((val (v6 O)).2.2.2.2.2.1,((val (v6 O)).2.2.2.2.2.2.1,((val (v6 O)).2.2.2.2.2.2.2.1,((some (1,(val (v6 O)).2.2.2.2.2.2.2.2.2.2.2.2.2.1)),((val (v6 O)).2.2.2.2.2.2.2.2.1,((val (v6 O)).2.2.2.2.2.2.2.2.2.1,((some (2,(val (v6 O)).2.2.2.2.2.2.2.2.2.2.2.2.2.2.2.1)),()))))))),((some 3),((some 4),(((val (v6 O)).2.2.2.2.2.2.2.2.2.2.1,0,(1,(val (v6 O)).2.2.2.2.2.2.2.2.2.2.2.2.2.1),(2,(val (v6 O)).2.2.2.2.2.2.2.2.2.2.2.2.2.2.2.1)),((val (v6 O)).2.2.2.2.2.2.2.2.2.2.2.1,()))))))) [(3,5),(15,6)],sG 9 .str ((val (v6 O)).2.2.2.2.2.2.2.2.2.2.2.2.1) ((val (v6 O)).2.2.2.2.2.2.2.2.2.2.2.2.2.1),sG 110 rM ((val (v6 O)).2.2.2.2.2.2.2.2.2.2.2.2.2.2.1) ((val (v6 O)).2.2.2.2.2.2.2.2.2.2.2.2.2.2.2.1),.map .str .bool ((val (v6 O)).2.2.2.2.2.2.2.2.2.2.2.2.2.2.2.2.1),.map .str .bool ((val (v6 O)).2.2.2.2.2.2.2.2.2.2.2.2.2.2.2.2.2),.grow 45 7 (((val (v6 O)).2.2.2.1).length),.grow 3 1 (((val (v6 O)).2.2.2.2.2.2.2.2.2.2.2.1).length)]⟩
def a0Y:List qK→List qJ→Option qT:=rX (V:=pL) (Fq) (fun x=>Fs) fun x=>Ft x
@[go_sem] def aFu:a0Y (no_index (Fq O)) (no_index Fs)=some (Ft O):=rZ (fun a0 b0 h1 h2=>by cases h1;cases h2;rfl) O
end
@[go_sem] abbrev Fu:Nat×rH:=(29,⟨[.v],a0Y,[],[],none⟩)
def Fv:rF prog [] (rG [DA,D5,TN]):=⟨trivial,qW PU (qW PI (qW a0R rU)),rI⟩
def w6:rF prog [vO,wK,sO,D4,vP] (rG [DA,D5,TN]):=⟨⟨w4,⟨x7,⟨sP,⟨F0,⟨w5,trivial⟩⟩⟩⟩⟩,Fv.Γ,rI⟩
def a9t:rF prog [] (rG [DA,D5,TO]):=⟨trivial,qW PU (qW PI (qW a0U rU)),rI⟩
def a9u:rF prog [vO,wK,sO,D4,vP] (rG [DA,D5,TO]):=⟨⟨w4,⟨x7,⟨sP,⟨F0,⟨w5,trivial⟩⟩⟩⟩⟩,a9t.Γ,rI⟩
def a9v:rF prog [] (rG [DA,D5,TP]):=⟨trivial,qW PU (qW PI (qW a0X rU)),rI⟩
def a9w:rF prog [vO,wK,sO,D4,vP] (rG [DA,D5,TP]):=⟨⟨w4,⟨x7,⟨sP,⟨F0,⟨w5,trivial⟩⟩⟩⟩⟩,a9v.Γ,rI⟩
def a9x:rL prog Fu:=by
 refine s5 Fv func29 (c:=_) rfl (N:=55) qC (ts:=[(2,none),(3,none),(4,none)]) rfl (fun _ _=>rfl) ?_;intro O hs hrow;dsimp only[Fq,Fs,Ft,rV,r5,rD,rJ,rW,Nat.reduceAdd] at hs hrow|-;have hz:=hs;obtain⟨z0,f⟩:=aFB.1 hz
 try rw[sC f]
 clear hz hs;unfold v6 at f;refine qI Fv ?_;refine qI w6 ?_;refine qV (qI w6 ?_);refine sA (zV 160 (160,(166,0),(167,0)) (x2:=((([]:pL),(([]:pM),(([]:List r6),(([]:List sN),())))),((0:Int),((([]:pL),(([]:pL),(([]:pL),((some (166,0)),(([]:pM),((0:Int),((some (167,0)),()))))))),(none,((some 96),((0,160,(166,0),(167,0)),(([]:pV),())))))))) rfl qE ?_)
 have hy1:=f;refine uA hy1 (fun x=>match x with| .inl x=>⟨[(0,.val .str O,none),(5,.val .ref (some (0,0)),none),(6,.val (.int .i64) x,none)],[(0,.cells sS ((([]:pL),(([]:pM),(([]:List r6),(([]:List sN),())))),((0:Int),((([]:pL),(([]:pL),(([]:pL),((some (1,0)),(([]:pM),((0:Int),((some (2,0)),()))))))),(none,((some 3),((0,0,(1,0),(2,0)),(([]:pV),()))))))) [(3,4),(15,5)]),(1,.row 9 .str ([]:pM) 0),(2,.row 110 rM ([]:List r6) 0),(3,.map .str .bool ([]:pT)),(4,.grow 45 7 (([]:List sN).length)),(5,.grow 3 1 (([]:pV).length))],6,55,0⟩ | .inr x=>⟨[(0,.val .str O,none),(5,.val .ref (some (0,0)),none),(6,.val (.int .i64) x.1,none)],[(0,.cells sS ((x.2.1,(x.2.2.1,(x.2.2.2.1,(x.2.2.2.2.1,())))),(x.2.2.2.2.2.1,((x.2.2.2.2.2.2.1,(x.2.2.2.2.2.2.2.1,(x.2.2.2.2.2.2.2.2.1,((some (1,x.2.2.2.2.2.2.2.2.2.2.2.2.2.2.1)),(x.2.2.2.2.2.2.2.2.2.1,(x.2.2.2.2.2.2.2.2.2.2.1,((some (2,x.2.2.2.2.2.2.2.2.2.2.2.2.2.2.2.2.1)),()))))))),((some 3),((some 4),((x.2.2.2.2.2.2.2.2.2.2.2.1,0,(1,x.2.2.2.2.2.2.2.2.2.2.2.2.2.2.1),(2,x.2.2.2.2.2.2.2.2.2.2.2.2.2.2.2.2.1)),(x.2.2.2.2.2.2.2.2.2.2.2.2.1,()))))))) [(3,5),(15,6)]),(1,sG 9 .str x.2.2.2.2.2.2.2.2.2.2.2.2.2.1 x.2.2.2.2.2.2.2.2.2.2.2.2.2.2.1),(2,sG 110 rM x.2.2.2.2.2.2.2.2.2.2.2.2.2.2.2.1 x.2.2.2.2.2.2.2.2.2.2.2.2.2.2.2.2.1),(3,.map .str .bool x.2.2.2.2.2.2.2.2.2.2.2.2.2.2.2.2.2.1),(4,.map .str .bool x.2.2.2.2.2.2.2.2.2.2.2.2.2.2.2.2.2.2),(5,.grow 45 7 (x.2.2.2.2.1.length)),(6,.grow 3 1 (x.2.2.2.2.2.2.2.2.2.2.2.2.1.length))],7,55,0⟩) ⟨[0,5,6],[(0,160),(1,166),(2,167),(3,96),(4,163),(5,165)]⟩ qE ?_
 intro x1 w1 n1 d e;rcases x1 with x1|x1
 .obtain⟨Z,hvx⟩: ∃v,v=x1:=⟨_,rfl⟩;subst hvx;unfold B1 at d;dsimp only at d|-;refine qV (qI w6 ?_);refine qZ d ?_ ?_<;>intro d Y
  .refine r9 (qS (sA ?_));obtain⟨X,d⟩:=qP d;obtain⟨aA,hv2,hw2,d⟩:=rQ d
   try simp only[go_sem] at hw2
   refine qI w6 ?_ (hp:=by exact⟨X,(rO hv2)⟩) (h:=by simp only[go_sem,hw2];rfl);obtain⟨W,V,d⟩:=pK d;refine qI w6 ?_ (hp:=by exact⟨W,V⟩);refine qV ?_;obtain⟨aB,hv5,hw5,d⟩:=rQ d
   try simp only[go_sem] at hw5
   refine qI w6 ?_ (hp:=by exact(rO hv5)) (h:=by simp only[go_sem,hw5];rfl);refine qZ d ?_ ?_<;>intro d Y
   .refine qV ?_;by_cases hva3:((A2 (([]:pL),(([]:pM),(([]:List r6),(([]:List sN),())))) (0:Int) ([]:pL) ([]:pL) ([]:pL) ([]:pM) (0:Int) (([]:pV),()) aA.1 (min (O.length:Int) ((Z+(aA.1.length:Int))+(1:Int))) (some ([]:pM)) 0 (some ([]:List r6)) 0 ([]:pT))).isSome=true
    .rw[aFz hva3] at d;obtain⟨aC,hv6,hw6,d⟩:=rQ d
     try simp only[go_sem] at hw6
     refine rP a9u ?_ (hp:=by exact⟨qB,qB,qB,qB,qB,qB,qB,qB,qB,qB,(rO hv6)⟩) (h:=by simp only[go_sem,hw6];rfl)
     refine qS (qI w6 ?_);refine qZ d ?_ ?_<;>intro d Y
     .refine qV (rP w6 ?_);cases d
     refine r9 (qS (rP w6 ?_));refine sI ?_;cases d;exact tB ⟨⟨[0,5,6],[(0,0),(1,972),(2,973),(3,974),(4,3),(5,4),(6,5)]⟩,_,qE,e⟩
    rw[aFA hva3] at d;obtain⟨aD,hv7,hw7,d⟩:=rQ d
    try simp only[go_sem] at hw7
    refine rP a9w ?_ (hp:=by exact⟨qB,qB,qB,qB,qB,qB,qB,qB,qB,qB,qB,(rO hv7)⟩) (h:=by simp only[go_sem,hw7];rfl)
    refine qS (qI w6 ?_);refine qZ d ?_ ?_<;>intro d Y
    .refine qV (rP w6 ?_);cases d
    refine r9 (qS (rP w6 ?_));refine sI ?_;cases d;exact tB ⟨⟨[0,5,6],[(0,0),(1,1),(2,2),(3,3),(4,4),(5,5)]⟩,_,qE,e⟩
   refine r9 (qS (rP w6 ?_));refine sI ?_;cases d;exact tB ⟨⟨[0,5,6],[(0,0),(1,1),(2,2),(3,3),(4,4),(5,5)]⟩,_,qE,e⟩
  refine tY (tV (tZ (tX (qS (qV ?_)))));refine qI w6 ?_;refine qZ d ?_ ?_<;>intro d Y
  .refine qV (rP w6 ?_);cases d
  refine r9 (qS (qV (rP w6 ?_)));cases d
 obtain⟨aE,aF,aG,aH,aI,aJ,aK,aL,aM,aN,aO,aP,aQ,aR,aS,aT,aU,aV,aW⟩:=x1;unfold B1 at d;dsimp only at d|-;refine qV (qI w6 ?_);refine qZ d ?_ ?_<;>intro d Y
 .refine r9 (qS (sA ?_));obtain⟨U,d⟩:=qP d;obtain⟨aX,hv9,hw9,d⟩:=rQ d
  try simp only[go_sem] at hw9
  refine qI w6 ?_ (hp:=by exact⟨U,(rO hv9)⟩) (h:=by simp only[go_sem,hw9];rfl);obtain⟨T,S,d⟩:=pK d;refine qI w6 ?_ (hp:=by exact⟨T,S⟩);refine qV ?_;obtain⟨aY,hv12,hw12,d⟩:=rQ d
  try simp only[go_sem] at hw12
  refine qI w6 ?_ (hp:=by exact(rO hv12)) (h:=by simp only[go_sem,hw12];rfl);refine qZ d ?_ ?_<;>intro d Y
  .obtain⟨aZ,hv13,hw13,d⟩:=rQ d
   try simp only[go_sem] at hw13
   refine qI w6 ?_ (hp:=by exact⟨qB,qB,qB,qB,qB,qB,(rO hv13)⟩) (h:=by simp only[go_sem,hw13];rfl)
   refine qI w6 ?_;refine qZ d ?_ ?_<;>intro d Y
   .refine qV (rP w6 ?_);cases d
   refine r9 (qS (rP w6 ?_));refine sI ?_;cases d;exact tB ⟨⟨[0,5,6],[(0,0),(1,974),(2,975),(3,976),(4,4),(5,5),(6,6)]⟩,_,qE,e⟩
  refine r9 (qS (rP w6 ?_));refine sI ?_;cases d;exact tB ⟨⟨[0,5,6],[(0,0),(1,1),(2,2),(3,3),(4,4),(5,5),(6,6)]⟩,_,qE,e⟩
 refine tY (tV (tZ (tX (qS (qV ?_)))));refine qI w6 ?_;refine qZ d ?_ ?_<;>intro d Y
 .refine qV (rP w6 ?_);cases d
 refine r9 (qS (qI w6 ?_));refine qU ?_;cases d;have f:=aFZ some (show _=_ from e);cases f;exact pO [(0,0),(1,1),(2,2),(3,3),(4,4),(5,5),(6,6)]
attribute [irreducible] v6
end
noncomputable section
def B2 (O:pL):(Int⊕(Int×pL×pM×(List r6)×(List sN)×Int×pL×pL×pL×pM×Int×Nat×pV×(Option pM)×Nat×(Option (List r6))×Nat×pT×pT))→Option ((Int⊕(Int×pL×pM×(List r6)×(List sN)×Int×pL×pL×pL×pM×Int×Nat×pV×(Option pM)×Nat×(Option (List r6))×Nat×pT×pT))⊕(Int×Int)):=fun x=>match x with
 | .inl Z=>
  if (decide (Z<(O.length:Int)))=true then
   if 0≤Z∧Z≤(O.length:Int)∧(O.length:Int)≤(O.length:Int) then
    (D9 (sL O Z (O.length:Int)) ([10]:pL)).bind fun aA=>
    if qM (Z+(aA.1.length:Int)) then
     if qM ((Z+(aA.1.length:Int))+(1:Int)) then
      (IC aA.1).bind fun aB=>
      if (!((decide ((Lib.trimLeftS aA.1 ([32,9]:pL))=([]:pL)))||(decide ((sE (Lib.trimLeftS aA.1 ([32,9]:pL)) (0:Int))=(35:Int)))))=true then
       if ((A2 (([]:pL),(([]:pM),(([]:List r6),(([]:List sN),())))) (0:Int) ([]:pL) ([]:pL) ([]:pL) ([]:pM) (0:Int) (([]:pV),()) aA.1 (min (O.length:Int) ((Z+(aA.1.length:Int))+(1:Int))) (some ([]:pM)) 0 (some ([]:List r6)) 0 ([]:pT))).isSome=true then
        (A2 (([]:pL),(([]:pM),(([]:List r6),(([]:List sN),())))) (0:Int) ([]:pL) ([]:pL) ([]:pL) ([]:pM) (0:Int) (([]:pV),()) aA.1 (min (O.length:Int) ((Z+(aA.1.length:Int))+(1:Int))) (some ([]:pM)) 0 (some ([]:List r6)) 0 ([]:pT)).bind fun aC=>
        if (!decide ((0:Int)=(0:Int)))=true then
         some (.inr ((Z,(0:Int))))
        else
         some (.inl (.inr ((min (O.length:Int) ((Z+(aA.1.length:Int))+(1:Int))),aC.1,([]:pM),([]:List r6),([]:List sN),aC.2.1,aC.2.2.1,([]:pL),([]:pL),([]:pM),(0:Int),0,([]:pV),(some ([]:pM)),0,(some ([]:List r6)),0,([]:pT),aC.2.2.2)))
       else
        (GX (([]:pL),(([]:pM),(([]:List r6),(([]:List sN),())))) (0:Int) ([]:pL) ([]:pL) ([]:pL) ([]:pM) (0:Int) (([]:pV),()) aA.1 (min (O.length:Int) ((Z+(aA.1.length:Int))+(1:Int))) (some ([]:pM)) 0 (some ([]:List r6)) 0 ([]:pT)).bind fun aD=>
        if (!decide (aD=(0:Int)))=true then
         some (.inr ((Z,aD)))
        else
         some (.inl (.inl (min (O.length:Int) ((Z+(aA.1.length:Int))+(1:Int)))))
      else
       some (.inl (.inl (min (O.length:Int) ((Z+(aA.1.length:Int))+(1:Int)))))
     else none
    else none
   else none
  else
   if (!decide ((0:Int)=(2:Int)))=true then
    some (.inr (((O.length:Int),(3:Int))))
   else
    none
 | .inr (aE,aF,aG,aH,aI,aJ,aK,aL,aM,aN,aO,aP,aQ,aR,aS,aT,aU,aV,aW)=>
  if (decide (aE<(O.length:Int)))=true then
   if 0≤aE∧aE≤(O.length:Int)∧(O.length:Int)≤(O.length:Int) then
    (D9 (sL O aE (O.length:Int)) ([10]:pL)).bind fun aX=>
    if qM (aE+(aX.1.length:Int)) then
     if qM ((aE+(aX.1.length:Int))+(1:Int)) then
      (IC aX.1).bind fun aY=>
      if (!((decide ((Lib.trimLeftS aX.1 ([32,9]:pL))=([]:pL)))||(decide ((sE (Lib.trimLeftS aX.1 ([32,9]:pL)) (0:Int))=(35:Int)))))=true then
       (uZ (aF,(aG,(aH,(aI,())))) aJ aK aL aM aN aO aP (aQ,()) aX.1 (min (O.length:Int) ((aE+(aX.1.length:Int))+(1:Int))) aR aS aT aU aV aW).bind fun aZ=>
       if (!decide (aZ.1=(0:Int)))=true then
        some (.inr ((aE,aZ.1)))
       else
        some (.inl (.inr ((min (O.length:Int) ((aE+(aX.1.length:Int))+(1:Int))),aZ.2.1,aZ.2.2.1,aZ.2.2.2.1,aZ.2.2.2.2.1,aZ.2.2.2.2.2.1,aZ.2.2.2.2.2.2.1,aZ.2.2.2.2.2.2.2.1,aZ.2.2.2.2.2.2.2.2.1,aZ.2.2.2.2.2.2.2.2.2.1,aZ.2.2.2.2.2.2.2.2.2.2.1,aZ.2.2.2.2.2.2.2.2.2.2.2.1,aZ.2.2.2.2.2.2.2.2.2.2.2.2.1,aZ.2.2.2.2.2.2.2.2.2.2.2.2.2.2.1,aZ.2.2.2.2.2.2.2.2.2.2.2.2.2.2.2.1,aZ.2.2.2.2.2.2.2.2.2.2.2.2.2.2.2.2.1,aZ.2.2.2.2.2.2.2.2.2.2.2.2.2.2.2.2.2.1,aZ.2.2.2.2.2.2.2.2.2.2.2.2.2.2.2.2.2.2,aZ.2.2.2.2.2.2.2.2.2.2.2.2.2.1)))
      else
       some (.inl (.inr ((min (O.length:Int) ((aE+(aX.1.length:Int))+(1:Int))),aF,aG,aH,aI,aJ,aK,aL,aM,aN,aO,aP,aQ,aR,aS,aT,aU,aV,aW)))
     else none
    else none
   else none
  else
   if (!decide (aJ=(2:Int)))=true then
    some (.inr (((O.length:Int),(3:Int))))
   else
    none
def L2 (O:pL):Option (Int×Int):=s8 (B2 O) (.inl (0:Int))
section
variable (O:pL)
abbrev Fw:List qK:=[(.val .str O,none)]
abbrev Fx:List qJ:=[]
@[go_sem] def Fy:qT:=⟨[((L2 O)).isSome=true],[(.val .ref none,none),(.val (.int .i64) ((val (L2 O)).1),none),(.val (.int .i64) ((val (L2 O)).2),none)],[]⟩
def a0Z:List qK→List qJ→Option qT:=rX (V:=pL) (Fw) (fun x=>Fx) fun x=>Fy x
@[go_sem] def aFv:a0Z (no_index (Fw O)) (no_index Fx)=some (Fy O):=rZ (fun a0 b0 h1 h2=>by cases h1;cases h2;rfl) O
end
@[go_sem] abbrev a00:Nat×rH:=(29,⟨[.v],a0Z,[],[],none⟩)
def Fz:rF prog [] (rG [DA,D5,TN]):=⟨trivial,qW PU (qW PI (qW a0R rU)),rI⟩
def w7:rF prog [vO,wK,sO,D4,vP] (rG [DA,D5,TN]):=⟨⟨w4,⟨x7,⟨sP,⟨F0,⟨w5,trivial⟩⟩⟩⟩⟩,Fz.Γ,rI⟩
def a9y:rF prog [] (rG [DA,D5,TO]):=⟨trivial,qW PU (qW PI (qW a0U rU)),rI⟩
def a9z:rF prog [vO,wK,sO,D4,vP] (rG [DA,D5,TO]):=⟨⟨w4,⟨x7,⟨sP,⟨F0,⟨w5,trivial⟩⟩⟩⟩⟩,a9y.Γ,rI⟩
def a9A:rF prog [] (rG [DA,D5,TP]):=⟨trivial,qW PU (qW PI (qW a0X rU)),rI⟩
def a9B:rF prog [vO,wK,sO,D4,vP] (rG [DA,D5,TP]):=⟨⟨w4,⟨x7,⟨sP,⟨F0,⟨w5,trivial⟩⟩⟩⟩⟩,a9A.Γ,rI⟩
def a9C:rL prog a00:=by
 refine s5 Fz func29 (c:=_) rfl (N:=55) qC (ts:=[(2,none),(3,none),(4,none)]) rfl (fun _ _=>rfl) ?_;intro O hs hrow;dsimp only[Fw,Fx,Fy,rV,r5,rD,rJ,rW,Nat.reduceAdd] at hs hrow|-;have hz:=hs;obtain⟨z0,e⟩:=aFB.1 hz
 try rw[sC e]
 clear hz hs;unfold L2 at e;refine qI Fz ?_;refine qI w7 ?_;refine qV (qI w7 ?_);refine sA (zV 160 (160,(166,0),(167,0)) (x2:=((([]:pL),(([]:pM),(([]:List r6),(([]:List sN),())))),((0:Int),((([]:pL),(([]:pL),(([]:pL),((some (166,0)),(([]:pM),((0:Int),((some (167,0)),()))))))),(none,((some 96),((0,160,(166,0),(167,0)),(([]:pV),())))))))) rfl qE ?_)
 have hy1:=e;refine uA hy1 (fun x=>match x with| .inl x=>⟨[(0,.val .str O,none),(5,.val .ref (some (0,0)),none),(6,.val (.int .i64) x,none)],[(0,.cells sS ((([]:pL),(([]:pM),(([]:List r6),(([]:List sN),())))),((0:Int),((([]:pL),(([]:pL),(([]:pL),((some (1,0)),(([]:pM),((0:Int),((some (2,0)),()))))))),(none,((some 3),((0,0,(1,0),(2,0)),(([]:pV),()))))))) [(3,4),(15,5)]),(1,.row 9 .str ([]:pM) 0),(2,.row 110 rM ([]:List r6) 0),(3,.map .str .bool ([]:pT)),(4,.grow 45 7 (([]:List sN).length)),(5,.grow 3 1 (([]:pV).length))],6,55,0⟩ | .inr x=>⟨[(0,.val .str O,none),(5,.val .ref (some (0,0)),none),(6,.val (.int .i64) x.1,none)],[(0,.cells sS ((x.2.1,(x.2.2.1,(x.2.2.2.1,(x.2.2.2.2.1,())))),(x.2.2.2.2.2.1,((x.2.2.2.2.2.2.1,(x.2.2.2.2.2.2.2.1,(x.2.2.2.2.2.2.2.2.1,((some (1,x.2.2.2.2.2.2.2.2.2.2.2.2.2.2.1)),(x.2.2.2.2.2.2.2.2.2.1,(x.2.2.2.2.2.2.2.2.2.2.1,((some (2,x.2.2.2.2.2.2.2.2.2.2.2.2.2.2.2.2.1)),()))))))),((some 3),((some 4),((x.2.2.2.2.2.2.2.2.2.2.2.1,0,(1,x.2.2.2.2.2.2.2.2.2.2.2.2.2.2.1),(2,x.2.2.2.2.2.2.2.2.2.2.2.2.2.2.2.2.1)),(x.2.2.2.2.2.2.2.2.2.2.2.2.1,()))))))) [(3,5),(15,6)]),(1,sG 9 .str x.2.2.2.2.2.2.2.2.2.2.2.2.2.1 x.2.2.2.2.2.2.2.2.2.2.2.2.2.2.1),(2,sG 110 rM x.2.2.2.2.2.2.2.2.2.2.2.2.2.2.2.1 x.2.2.2.2.2.2.2.2.2.2.2.2.2.2.2.2.1),(3,.map .str .bool x.2.2.2.2.2.2.2.2.2.2.2.2.2.2.2.2.2.1),(4,.map .str .bool x.2.2.2.2.2.2.2.2.2.2.2.2.2.2.2.2.2.2),(5,.grow 45 7 (x.2.2.2.2.1.length)),(6,.grow 3 1 (x.2.2.2.2.2.2.2.2.2.2.2.2.1.length))],7,55,0⟩) ⟨[0,5,6],[(0,160),(1,166),(2,167),(3,96),(4,163),(5,165)]⟩ qE ?_
 intro x1 w1 n1 d f;rcases x1 with x1|x1
 .obtain⟨Z,hvx⟩: ∃v,v=x1:=⟨_,rfl⟩;subst hvx;unfold B2 at d;dsimp only at d|-;refine qV (qI w7 ?_);refine qZ d ?_ ?_<;>intro d Y
  .refine r9 (qS (sA ?_));obtain⟨X,d⟩:=qP d;obtain⟨aA,hv2,hw2,d⟩:=rQ d
   try simp only[go_sem] at hw2
   refine qI w7 ?_ (hp:=by exact⟨X,(rO hv2)⟩) (h:=by simp only[go_sem,hw2];rfl);obtain⟨W,V,d⟩:=pK d;refine qI w7 ?_ (hp:=by exact⟨W,V⟩);refine qV ?_;obtain⟨aB,hv5,hw5,d⟩:=rQ d
   try simp only[go_sem] at hw5
   refine qI w7 ?_ (hp:=by exact(rO hv5)) (h:=by simp only[go_sem,hw5];rfl);refine qZ d ?_ ?_<;>intro d Y
   .refine qV ?_;by_cases hva3:((A2 (([]:pL),(([]:pM),(([]:List r6),(([]:List sN),())))) (0:Int) ([]:pL) ([]:pL) ([]:pL) ([]:pM) (0:Int) (([]:pV),()) aA.1 (min (O.length:Int) ((Z+(aA.1.length:Int))+(1:Int))) (some ([]:pM)) 0 (some ([]:List r6)) 0 ([]:pT))).isSome=true
    .rw[aFz hva3] at d;obtain⟨aC,hv6,hw6,d⟩:=rQ d
     try simp only[go_sem] at hw6
     refine rP a9z ?_ (hp:=by exact⟨qB,qB,qB,qB,qB,qB,qB,qB,qB,qB,(rO hv6)⟩) (h:=by simp only[go_sem,hw6];rfl)
     refine qS (qI w7 ?_);refine qZ d ?_ ?_<;>intro d Y
     .refine qI w7 ?_;refine qU (rC (s7 (uY (s7 (rC ?_)))));cases d;have e:=aFZ some (show _=_ from f);cases e;exact pO []
     refine r9 (qS (rP w7 ?_));refine sI ?_;cases d;exact tB ⟨⟨[0,5,6],[(0,0),(1,972),(2,973),(3,974),(4,3),(5,4),(6,5)]⟩,_,qE,f⟩
    rw[aFA hva3] at d;obtain⟨aD,hv7,hw7,d⟩:=rQ d
    try simp only[go_sem] at hw7
    refine rP a9B ?_ (hp:=by exact⟨qB,qB,qB,qB,qB,qB,qB,qB,qB,qB,qB,(rO hv7)⟩) (h:=by simp only[go_sem,hw7];rfl)
    refine qS (qI w7 ?_);refine qZ d ?_ ?_<;>intro d Y
    .refine qI w7 ?_;refine qU (rC (s7 (uY (s7 (rC ?_)))));cases d;have e:=aFZ some (show _=_ from f);cases e;exact pO []
    refine r9 (qS (rP w7 ?_));refine sI ?_;cases d;exact tB ⟨⟨[0,5,6],[(0,0),(1,1),(2,2),(3,3),(4,4),(5,5)]⟩,_,qE,f⟩
   refine r9 (qS (rP w7 ?_));refine sI ?_;cases d;exact tB ⟨⟨[0,5,6],[(0,0),(1,1),(2,2),(3,3),(4,4),(5,5)]⟩,_,qE,f⟩
  refine tY (tV (tZ (tX (qS (qV ?_)))));refine qI w7 ?_;refine qZ d ?_ ?_<;>intro d Y
  .refine qI w7 ?_;refine qU (rC ?_);cases d;have e:=aFZ some (show _=_ from f);cases e;exact pO []
  refine r9 (qS (qV (rP w7 ?_)));cases d
 obtain⟨aE,aF,aG,aH,aI,aJ,aK,aL,aM,aN,aO,aP,aQ,aR,aS,aT,aU,aV,aW⟩:=x1;unfold B2 at d;dsimp only at d|-;refine qV (qI w7 ?_);refine qZ d ?_ ?_<;>intro d Y
 .refine r9 (qS (sA ?_));obtain⟨U,d⟩:=qP d;obtain⟨aX,hv9,hw9,d⟩:=rQ d
  try simp only[go_sem] at hw9
  refine qI w7 ?_ (hp:=by exact⟨U,(rO hv9)⟩) (h:=by simp only[go_sem,hw9];rfl);obtain⟨T,S,d⟩:=pK d;refine qI w7 ?_ (hp:=by exact⟨T,S⟩);refine qV ?_;obtain⟨aY,hv12,hw12,d⟩:=rQ d
  try simp only[go_sem] at hw12
  refine qI w7 ?_ (hp:=by exact(rO hv12)) (h:=by simp only[go_sem,hw12];rfl);refine qZ d ?_ ?_<;>intro d Y
  .obtain⟨aZ,hv13,hw13,d⟩:=rQ d
   try simp only[go_sem] at hw13
   refine qI w7 ?_ (hp:=by exact⟨qB,qB,qB,qB,qB,qB,(rO hv13)⟩) (h:=by simp only[go_sem,hw13];rfl)
   refine qI w7 ?_;refine qZ d ?_ ?_<;>intro d Y
   .refine qI w7 ?_;refine qU (rC (s7 (uY (s7 (rC ?_)))));cases d;have e:=aFZ some (show _=_ from f);cases e;exact pO []
   refine r9 (qS (rP w7 ?_));refine sI ?_;cases d;exact tB ⟨⟨[0,5,6],[(0,0),(1,974),(2,975),(3,976),(4,4),(5,5),(6,6)]⟩,_,qE,f⟩
  refine r9 (qS (rP w7 ?_));refine sI ?_;cases d;exact tB ⟨⟨[0,5,6],[(0,0),(1,1),(2,2),(3,3),(4,4),(5,5),(6,6)]⟩,_,qE,f⟩
 refine tY (tV (tZ (tX (qS (qV ?_)))));refine qI w7 ?_;refine qZ d ?_ ?_<;>intro d Y
 .refine qI w7 ?_;refine qU (rC ?_);cases d;have e:=aFZ some (show _=_ from f);cases e;exact pO []
 refine r9 (qS (qV (rP w7 ?_)));cases d
attribute [irreducible] L2
end
noncomputable section
def zM (O:pL):Option (pL×pM×(List r6)×(List sN)×Int×Int):=if ((v6 O)).isSome=true then (v6 O).bind fun Z=>if (!decide ((0:Int)=(0:Int)))=true then some ((([]:pL),([]:pM),([]:List r6),([]:List sN),(0:Int),(0:Int))) else some ((Z.1,Z.2.1,Z.2.2.1,Z.2.2.2.1,(0:Int),(0:Int))) else (L2 O).bind fun aA=>if (!decide (aA.2=(0:Int)))=true then some ((([]:pL),([]:pM),([]:List r6),([]:List sN),aA.1,aA.2)) else none
section
variable (O:pL)
abbrev Ga:List qK:=[(.val .str O,none)]
abbrev Gb:List qJ:=[]
@[go_sem] def Gc:qT:=⟨[((zM O)).isSome=true],[(.val wY ((val (zM O)).1,((val (zM O)).2.1,((val (zM O)).2.2.1,((val (zM O)).2.2.2.1,())))),none),(.val (.int .i64) ((val (zM O)).2.2.2.2.1),none),(.val (.int .i64) ((val (zM O)).2.2.2.2.2),none)],[]⟩
def a01:List qK→List qJ→Option qT:=rX (V:=pL) (Ga) (fun x=>Gb) fun x=>Gc x
@[go_sem] def aFw:a01 (no_index (Ga O)) (no_index Gb)=some (Gc O):=rZ (fun a0 b0 h1 h2=>by cases h1;cases h2;rfl) O
end
@[go_sem] abbrev Gd:Nat×rH:=(11,⟨[.v],a01,[],[],none⟩)
def QB:rF prog [z8] (rG [Fu]):=⟨⟨zW,trivial⟩,qW a9x rU,rI⟩
def Ge:rF prog [z8,vP] (rG [Fu]):=⟨⟨zW,⟨w5,trivial⟩⟩,QB.Γ,rI⟩
def a9D:rF prog [z8] (rG [a00]):=⟨⟨zW,trivial⟩,qW a9C rU,rI⟩
def a02:rL prog Gd:=by
 refine s5 QB func11 (c:=_) rfl (N:=23) qC (ts:=[(2,some 27),(3,none),(4,none)]) rfl (fun _ _=>rfl) ?_;intro O hs hrow;dsimp only[Ga,Gb,Gc,rV,r5,rD,rJ,rW,Nat.reduceAdd] at hs hrow|-;have hz:=hs;obtain⟨z0,e⟩:=aFB.1 hz
 try rw[sC e]
 clear hz hs;unfold zM at e;refine qI QB ?_;refine qV ?_;by_cases hva1:((v6 O)).isSome=true
 .rw[aFz hva1] at e;obtain⟨Z,hv1,hw1,e⟩:=rQ e
  try simp only[go_sem] at hw1
  refine rP QB ?_ (hp:=by exact(rO hv1)) (h:=by simp only[go_sem,hw1];rfl);refine qS (qV (qI Ge ?_));refine qZ e ?_ ?_<;>intro e Y
  .refine qI Ge ?_;refine qU (rC ?_);cases e;exact pN []
  refine r9 (qS (qI Ge ?_));refine qU ?_;cases e;exact pN []
 rw[aFA hva1] at e;obtain⟨aA,hv2,hw2,e⟩:=rQ e
 try simp only[go_sem] at hw2
 refine rP a9D ?_ (hp:=by exact(rO hv2)) (h:=by simp only[go_sem,hw2];rfl);refine qS (qV (qI QB ?_));refine qZ e ?_ ?_<;>intro e Y
 .refine qI QB ?_;refine qU (rC ?_);cases e;exact pN []
 cases e
def QC:Option Bool:=(zM ([99,97,116,97,108,111,103,32,34,100,101,34,10,99,111,109,109,101,110,116,32,34,97,98,34,10,34,99,100,34,10,101,110,100,10,10,101,110,116,114,121,32,34,97,34,10,101,110,100]:pL)).bind fun O=>if (((((decide (O.2.2.2.2.2=(0:Int)))&&(decide (O.1=([100,101]:pL))))&&(decide ((O.2.1.length:Int)=(1:Int))))==true)=true→0≤(0:Int)∧(0:Int)<(O.2.1.length:Int)) then if (((((((decide (O.2.2.2.2.2=(0:Int)))&&(decide (O.1=([100,101]:pL))))&&(decide ((O.2.1.length:Int)=(1:Int))))&&(decide ((qR .str O.2.1 (0:Int))=([97,98,99,100]:pL))))&&(decide ((O.2.2.2.1.length:Int)=(1:Int))))==true)=true→0≤(0:Int)∧(0:Int)<(O.2.2.2.1.length:Int)) then some (((((((decide (O.2.2.2.2.2=(0:Int)))&&(decide (O.1=([100,101]:pL))))&&(decide ((O.2.1.length:Int)=(1:Int))))&&(decide ((qR .str O.2.1 (0:Int))=([97,98,99,100]:pL))))&&(decide ((O.2.2.2.1.length:Int)=(1:Int))))&&(decide ((qR sR O.2.2.2.1 (0:Int)).1=([97]:pL))))) else none else none
section
abbrev Gf:List qK:=[]
abbrev Gg:List qJ:=[]
@[go_sem] def Gi:qT:=⟨[(QC).isSome=true],[(.val .bool (val QC),none)],[]⟩
def a03:List qK→List qJ→Option qT:=rX (V:=Unit) (fun x=>Gf) (fun x=>Gg) fun x=>Gi
@[go_sem] def aFx:a03 (no_index Gf) (no_index Gg)=some Gi:=rZ (fun _ _ h1 h2=>by cases h1;cases h2;rfl) ()
end
@[go_sem] abbrev a04:Nat×rH:=(10,⟨[],a03,[],[],none⟩)
def ZN:rF prog [sO,x6,CE,z8,CF] (rG [Gd]):=⟨⟨sP,⟨y5,⟨E7,⟨zW,⟨E8,trivial⟩⟩⟩⟩⟩,qW a02 rU,rI⟩
def a9E:rL prog a04:=by
 refine s5 ZN func10 (c:=_) rfl (N:=43) qC (ts:=[(0,none)]) rfl (fun _ _=>rfl) ?_;intro⟨⟩ hs hrow;dsimp only[Gf,Gg,Gi,rV,r5,rD,rJ,rW,Nat.reduceAdd] at hs hrow|-;have hz:=hs;obtain⟨z0,e⟩:=aFB.1 hz
 try rw[sC e]
 clear hz hs;unfold QC at e;refine qI ZN ?_;obtain⟨O,hv1,hw1,e⟩:=rQ e
 try simp only[go_sem] at hw1
 refine qI ZN ?_ (hp:=by exact(rO hv1)) (h:=by simp only[go_sem,hw1];rfl);obtain⟨Y,X,e⟩:=pK e;refine qI ZN ?_ (hp:=by exact⟨id,id,sJ,id,id,id,sJ,id,id,Y,id,id,sJ,id,id,id,sJ,id,id,X,id,id,id,sJ⟩);refine qU ?_;cases e;exact pN []
attribute [irreducible] zM QC
end
end Go.Proofs.YtcpbaddnmpeipaaGreatDoor
namespace Go.Proofs.YtcpbaddnmpeipaaGreatDoor
open Vc
end Go.Proofs.YtcpbaddnmpeipaaGreatDoor
namespace Go.Proofs.YtcpbaddnmpeipaaGreatDoor
open Vc
open Tryz
noncomputable section
def O0 (O:sB) (Z:pL):Option Bool:=QC.bind fun aA=>if (!aA)=true then some (false) else (NS O).bind fun aB=>if ((!aB)||(decide ((4000:Int)<(Z.length:Int))))=true then some (true) else (GW O).bind fun aC=>tN (σ:=Unit) (if aC=true then (FF O).bind fun aD=>(zM aD.1).bind fun aE=>if ((((!decide (aD.2=(0:Int)))||(!decide (aE.2.2.2.2.2=(0:Int))))==false)=true→((DE (aE.1,(aE.2.1,(aE.2.2.1,(aE.2.2.2.1,())))) O)).isSome=true) then if (((!decide (aD.2=(0:Int)))||(!decide (aE.2.2.2.2.2=(0:Int))))||(!((((decide (aE.1=O.1))&&(val (wV aE.2.1 O.2.1)))&&(val (zY aE.2.2.1 O.2.2.1)))&&(val (DC aE.2.2.2.1 O.2.2.2.1)))))=true then some (.inr (false)) else some (.inl ()) else none else some (.inl ()) ) fun _=>(zM Z).bind fun aF=>if (!decide (aF.2.2.2.2.2=(0:Int)))=true then (DE (aF.1,(aF.2.1,(aF.2.2.1,(aF.2.2.2.1,())))) (([]:pL),(([]:pM),(([]:List r6),(([]:List sN),()))))).bind fun aG=>some (((((decide (aF.1=([]:pL)))&&(val (wV aF.2.1 ([]:pM))))&&(val (zY aF.2.2.1 ([]:List r6))))&&(val (DC aF.2.2.2.1 ([]:List sN))))) else (FF (aF.1,(aF.2.1,(aF.2.2.1,(aF.2.2.2.1,()))))).bind fun aH=>(zM aH.1).bind fun aI=>(FF (aI.1,(aI.2.1,(aI.2.2.1,(aI.2.2.2.1,()))))).bind fun aJ=>if (((((decide (aH.2=(0:Int)))&&(decide (aI.2.2.2.2.2=(0:Int))))&&(decide (aJ.2=(0:Int))))==true)=true→((GW (aF.1,(aF.2.1,(aF.2.2.1,(aF.2.2.2.1,())))))).isSome=true) then if ((((((decide (aH.2=(0:Int)))&&(decide (aI.2.2.2.2.2=(0:Int))))&&(decide (aJ.2=(0:Int))))&&(val (GW (aF.1,(aF.2.1,(aF.2.2.1,(aF.2.2.2.1,())))))))==true)=true→((DE (aF.1,(aF.2.1,(aF.2.2.1,(aF.2.2.2.1,())))) (aI.1,(aI.2.1,(aI.2.2.1,(aI.2.2.2.1,())))))).isSome=true) then some (((((((decide (aH.2=(0:Int)))&&(decide (aI.2.2.2.2.2=(0:Int))))&&(decide (aJ.2=(0:Int))))&&(val (GW (aF.1,(aF.2.1,(aF.2.2.1,(aF.2.2.2.1,())))))))&&((((decide (aF.1=aI.1))&&(val (wV aF.2.1 aI.2.1)))&&(val (zY aF.2.2.1 aI.2.2.1)))&&(val (DC aF.2.2.2.1 aI.2.2.2.1))))&&(decide (aH.1=aJ.1)))) else none else none
section
variable (O:sB) (Z:pL)
abbrev TQ:List qK:=[(.val wY O,none),(.val .str Z,none)]
abbrev ZO:List qJ:=[]
@[go_sem] def QD:qT:=⟨[((O0 O Z)).isSome=true],[(.val .bool (val (O0 O Z)),none)],[]⟩
def Gj:List qK→List qJ→Option qT:=rX (V:=(sB×pL)) (fun x=>TQ x.1 x.2) (fun x=>ZO) fun x=>QD x.1 x.2
@[go_sem] def a9F:Gj (no_index (TQ O Z)) (no_index ZO)=some (QD O Z):=rZ (fun⟨a0,a1⟩ ⟨b0,b1⟩ h1 h2=>by cases h1;cases h2;rfl) (O,Z)
end
@[go_sem] abbrev a9G:Nat×rH:=(7,⟨[.v,.v],Gj,[],[],none⟩)
def A3:rF prog [sO,z8] (rG [a04,Zf,a0B,a0F,Gd,Zb]):=⟨⟨sP,⟨zW,trivial⟩⟩,qW a9E (qW a8W (qW a9d (qW a9f (qW a02 (qW a8V rU))))),rI⟩
def a9H:rL prog a9G:=by
 refine s5 A3 func7 (c:=_) rfl (N:=106) qC (ts:=[(4,none)]) rfl (fun _ _=>rfl) ?_;intro⟨O,Z⟩ hs hrow;dsimp only[TQ,ZO,QD,rV,r5,rD,rJ,rW,Nat.reduceAdd] at hs hrow|-;have hz:=hs;obtain⟨z0,e⟩:=aFB.1 hz
 try rw[sC e]
 clear hz hs;unfold O0 at e;refine qI A3 ?_;refine qV ?_;obtain⟨aA,hv1,hw1,e⟩:=rQ e
 try simp only[go_sem] at hw1
 refine qI A3 ?_ (hp:=by exact(rO hv1)) (h:=by simp only[go_sem,hw1];rfl);refine qZ e ?_ ?_<;>intro e Y
 .refine qI A3 ?_;refine qU (rC ?_);cases e;exact pN []
 refine r9 (qS (qV ?_));obtain⟨aB,hv2,hw2,e⟩:=rQ e
 try simp only[go_sem] at hw2
 refine qI A3 ?_ (hp:=by exact⟨rO hv2,id,id,tC⟩) (h:=by simp only[go_sem,hw2];rfl);refine qZ e ?_ ?_<;>intro e Y
 .refine qI A3 ?_;refine qU (rC ?_);cases e;exact pN []
 refine r9 (qS (qV ?_));obtain⟨aC,hv3,hw3,e⟩:=rQ e
 try simp only[go_sem] at hw3
 refine qI A3 ?_ (hp:=by exact(rO hv3)) (h:=by simp only[go_sem,hw3];rfl);obtain⟨y1,f,e⟩:=vD e;refine D0 (fun s=> ∃v,y1= .inl v∧s=(fun _=>⟨[(1,.val .str Z,none)],[],0,106,0⟩) v) ?_ ?_
 .refine qZ f ?_ ?_<;>intro f Y
  .obtain⟨aD,hv4,hw4,f⟩:=rQ f
   try simp only[go_sem] at hw4
   refine qI A3 ?_ (hp:=by exact(rO hv4)) (h:=by simp only[go_sem,hw4];rfl);obtain⟨aE,hv5,hw5,f⟩:=rQ f
   try simp only[go_sem] at hw5
   refine qI A3 ?_ (hp:=by exact(rO hv5)) (h:=by simp only[go_sem,hw5];rfl);obtain⟨X,f⟩:=qP f;refine qI A3 ?_ (hp:=by exact⟨id,tC,id,id,X,id,tC⟩);refine qZ f ?_ ?_<;>intro f Y
   .refine qI A3 ?_;refine qU (kp (rC ?_));cases f;dsimp only at e;cases e;exact pN []
   refine r9 ?_;cases f;exact vV ⟨⟨[1],[]⟩,_,rfl,by rfl⟩
  refine r9 ?_;cases f;exact vV ⟨⟨[1],[]⟩,_,rfl,by rfl⟩
 rintro _ ⟨v,rfl,rfl⟩;dsimp only at e|-;refine qS ?_;obtain⟨aF,hv7,hw7,e⟩:=rQ e
 try simp only[go_sem] at hw7
 refine qI A3 ?_ (hp:=by exact(rO hv7)) (h:=by simp only[go_sem,hw7];rfl);refine qV (qI A3 ?_);refine qZ e ?_ ?_<;>intro e Y
 .obtain⟨aG,hv8,hw8,e⟩:=rQ e
  try simp only[go_sem] at hw8
  refine qI A3 ?_ (hp:=by exact(rO hv8)) (h:=by simp only[go_sem,hw8];rfl);refine qU (rC ?_);cases e;exact pN []
 refine r9 (qS ?_);obtain⟨aH,hv9,hw9,e⟩:=rQ e
 try simp only[go_sem] at hw9
 refine qI A3 ?_ (hp:=by exact(rO hv9)) (h:=by simp only[go_sem,hw9];rfl);obtain⟨aI,hv10,hw10,e⟩:=rQ e
 try simp only[go_sem] at hw10
 refine qI A3 ?_ (hp:=by exact(rO hv10)) (h:=by simp only[go_sem,hw10];rfl);obtain⟨aJ,hv11,hw11,e⟩:=rQ e
 try simp only[go_sem] at hw11
 refine qI A3 ?_ (hp:=by exact(rO hv11)) (h:=by simp only[go_sem,hw11];rfl);obtain⟨W,V,e⟩:=pK e;refine qI A3 ?_ (hp:=by exact⟨id,sJ,id,sJ,id,W,sJ,id,id,V,sJ,id,id,sJ⟩);refine qU ?_;cases e;exact pN []
attribute [irreducible] O0
end
end Go.Proofs.YtcpbaddnmpeipaaGreatDoor
section
end
