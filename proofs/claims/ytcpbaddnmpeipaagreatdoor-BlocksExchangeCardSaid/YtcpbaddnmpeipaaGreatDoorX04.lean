/- Packed by a program of mine (wip/tools/pack.py): the same texts with short names and few blanks. -/
import Derived.KernelRfl
import Derived.Test.YtcpbaddnmpeipaaGreatDoorX03
set_option linter.defProp false
set_option linter.unusedVariables false
set_option linter.unusedSimpArgs false
set_option linter.unusedSectionVars false
set_option maxRecDepth 100000
set_option maxHeartbeats 4000000
namespace Go.Proofs.YtcpbaddnmpeipaaGreatDoor
open Vc
open Tryz
noncomputable section
def QB (O:sQ):Option Unit:=if ((((!decide (O.1=([]:pP)))&&(decide ((O.1.length:Int)<=(200:Int))))==true)=true->((H6 O.1)).isSome=true) then if (((((!decide (O.1=([]:pP)))&&(decide ((O.1.length:Int)<=(200:Int))))&&((decide ((O.1.length:Int)<=(4000:Int)))&&(val (uZ O.1))))==true)=true->((H6 O.2.1)).isSome=true) then if ((((((!decide (O.1=([]:pP)))&&(decide ((O.1.length:Int)<=(200:Int))))&&((decide ((O.1.length:Int)<=(4000:Int)))&&(val (uZ O.1))))&&((decide ((O.2.1.length:Int)<=(4000:Int)))&&(val (uZ O.2.1))))==true)=true->((H6 O.2.2.1)).isSome=true) then if (((((((!decide (O.1=([]:pP)))&&(decide ((O.1.length:Int)<=(200:Int))))&&((decide ((O.1.length:Int)<=(4000:Int)))&&(val (uZ O.1))))&&((decide ((O.2.1.length:Int)<=(4000:Int)))&&(val (uZ O.2.1))))&&((decide ((O.2.2.1.length:Int)<=(4000:Int)))&&(val (uZ O.2.2.1))))==true)=true->((EP O.2.2.2.1)).isSome=true) then if ((((((((!decide (O.1=([]:pP)))&&(decide ((O.1.length:Int)<=(200:Int))))&&((decide ((O.1.length:Int)<=(4000:Int)))&&(val (uZ O.1))))&&((decide ((O.2.1.length:Int)<=(4000:Int)))&&(val (uZ O.2.1))))&&((decide ((O.2.2.1.length:Int)<=(4000:Int)))&&(val (uZ O.2.2.1))))&&(val (EP O.2.2.2.1)))==true)=true->((FQ O.2.2.2.2.1)).isSome=true) then if (((((((((((!decide (O.1=([]:pP)))&&(decide ((O.1.length:Int)<=(200:Int))))&&((decide ((O.1.length:Int)<=(4000:Int)))&&(val (uZ O.1))))&&((decide ((O.2.1.length:Int)<=(4000:Int)))&&(val (uZ O.2.1))))&&((decide ((O.2.2.1.length:Int)<=(4000:Int)))&&(val (uZ O.2.2.1))))&&(val (EP O.2.2.2.1)))&&(val (FQ O.2.2.2.2.1)))&&(decide ((0:Int)<=O.2.2.2.2.2.1)))&&(decide (O.2.2.2.2.2.1<=(4:Int))))==true)=true->((H8 O.2.2.2.2.2.2.1)).isSome=true) then some (()) else none else none else none else none else none else none
section
variable (O:sQ)
abbrev Eb:List qQ:=[(.val tE O,none)]
abbrev Ec:List qP:=[]
@[go_sem] def Ed:r5:=⟨[((QB O)).isSome=true],[(.val .bool ((((((((((!decide (O.1=([]:pP)))&&(decide ((O.1.length:Int)<=(200:Int))))&&((decide ((O.1.length:Int)<=(4000:Int)))&&(val (uZ O.1))))&&((decide ((O.2.1.length:Int)<=(4000:Int)))&&(val (uZ O.2.1))))&&((decide ((O.2.2.1.length:Int)<=(4000:Int)))&&(val (uZ O.2.2.1))))&&(val (EP O.2.2.2.1)))&&(val (FQ O.2.2.2.2.1)))&&(decide ((0:Int)<=O.2.2.2.2.2.1)))&&(decide (O.2.2.2.2.2.1<=(4:Int))))&&(val (H8 O.2.2.2.2.2.2.1))),none)],[]⟩
def a0p:List qQ->List qP->Option r5:=s9 (V:=sQ) (Eb) (fun x=>Ec) fun x=>Ed x
@[go_sem] def aFx:a0p (no_index (Eb O)) (no_index Ec)=some (Ed O):=sB (fun a0 b0 h1 h2=>by cases h1;cases h2;rfl) O
end
@[go_sem] abbrev Ee:Nat×rM:=(26,⟨[.v],a0p,[],[],none⟩)
def Ef:rJ prog [vG,sS,xM,wX,DG] (rK [ZN,a0g,Zh,a0i]):=⟨⟨vR,⟨sU,⟨yX,⟨yV,⟨FC,trivial⟩⟩⟩⟩⟩,r7 Ch (r7 a9f (r7 a87 (r7 a9g rZ))),rL⟩
def a9j:rS prog Ee:=by
 refine sC Ef func26 (c:=_) rfl (N:=52) qH (ts:=[(2,none)]) rfl (fun _ _=>rfl) ?_;intro O hs hrow;dsimp only[Eb,Ec,Ed,s7,rC,rI,rN,s8,Nat.reduceAdd] at hs hrow|-;have hz:=hs;obtain⟨z0,e⟩:=aFS.1 hz
 try rw[sH e]
 clear hz hs;unfold QB at e;refine qO Ef ?_;obtain⟨Y,X,e⟩:=pO e;obtain⟨W,V,e⟩:=pO e;obtain⟨U,T,e⟩:=pO e;refine qO Ef ?_ (hp:=by exact⟨id,id,id,sR,id,id,Y,sR,id,id,X,sR,id,id,W,sR,id,id,V,sR,id,id,U,sR,id,id,sR,id,id,sR,id,id,T,sR⟩);refine qZ ?_;cases e;exact pR []
def O2 (O:sN):(Int×pX)->Option ((Int×pX)⊕(Unit⊕Bool)):=fun(Z,aA)=>if (decide (Z<(O.2.2.2.1.length:Int)))=true then if 0<=Z/\Z<(O.2.2.2.1.length:Int) then if (((sW .str .bool aA ((qV tE O.2.2.2.1 Z).1))==false)=true->((LB (qV tE O.2.2.2.1 Z))).isSome=true) then if ((sW .str .bool aA ((qV tE O.2.2.2.1 Z).1))||(!(val (LB (qV tE O.2.2.2.1 Z)))))=true then some (.inr (.inr (false))) else if qR (Z+(1:Int)) then some (.inl ((Z+(1:Int)),(tA .str .bool ((qV tE O.2.2.2.1 Z).1) true aA))) else none else none else none else some (.inr (.inl ()))
def O3 (O:sN):Option Bool:=(DK O.1).bind fun Z=>if (((!Z)==false)=true->((O1 O.2.1)).isSome=true) then if ((((!Z)||(!((decide ((O.2.1.length:Int)<=(20:Int)))&&(!(val (CU O.2.1))))))==false)=true->((H5 O.2.2.1)).isSome=true) then if ((((!Z)||(!((decide ((O.2.1.length:Int)<=(20:Int)))&&(!(val (CU O.2.1))))))||(!(val (H5 O.2.2.1))))||(decide ((1000:Int)<(O.2.2.2.1.length:Int))))=true then some (false) else uB (sA (O2 O) ((0:Int),([]:pX))) fun _=>some (true) else none else none
section
variable (O:sN)
abbrev Eg:List qQ:=[(.val DE O,none)]
abbrev Eh:List qP:=[]
@[go_sem] def Ei:r5:=⟨[((O3 O)).isSome=true],[(.val .bool (val (O3 O)),none)],[]⟩
def a0q:List qQ->List qP->Option r5:=s9 (V:=sN) (Eg) (fun x=>Eh) fun x=>Ei x
@[go_sem] def aFy:a0q (no_index (Eg O)) (no_index Eh)=some (Ei O):=sB (fun a0 b0 h1 h2=>by cases h1;cases h2;rfl) O
end
@[go_sem] abbrev a0r:Nat×rM:=(36,⟨[.v],a0q,[],[],none⟩)
def DW:rJ prog [wP,sS,xM,wX,EI,AN,DG,DI] (rK [KO,Dt,Bq,a0m]):=⟨⟨xA,⟨sU,⟨yX,⟨yV,⟨GR,⟨BT,⟨FC,⟨FE,trivial⟩⟩⟩⟩⟩⟩⟩⟩,r7 Z1 (r7 a0k (r7 Zj (r7 a9h rZ))),rL⟩
def a9k:rS prog a0r:=by
 refine sC DW func36 (c:=_) rfl (N:=49) qH (ts:=[(2,none)]) rfl (fun _ _=>rfl) ?_;intro O hs hrow;dsimp only[Eg,Eh,Ei,s7,rC,rI,rN,s8,Nat.reduceAdd] at hs hrow|-;have hz:=hs;obtain⟨z0,e⟩:=aFS.1 hz
 try rw[sH e]
 clear hz hs;unfold O3 at e;refine qO DW ?_;refine qY ?_;obtain⟨Z,hv1,hw1,e⟩:=rW e
 try simp only[go_sem] at hw1
 obtain⟨X,W,e⟩:=pO e;refine qO DW ?_ (hp:=by exact⟨rV hv1,id,id,X,id,tK,id,id,W,id,tK,id,id,id,tK⟩) (h:=by simp only[go_sem,hw1];rfl);refine r8 e ?_ ?_<;>intro e Y
 .refine qO DW ?_;refine qZ (rG ?_);cases e;exact pR []
 refine rF (qW (qO DW ?_));refine qY (qO DW ?_);refine sF ?_;obtain⟨y1,hy1,e⟩:=w8 e;refine uQ 0 (fun s=> ∃v,y1= .inl v/\s=(fun _=>⟨[],[],0,49,0⟩) v) ?_ ?_
 .refine uJ hy1 (fun x=>⟨[(3,.val .mp (some 0),none),(30,.val (.list tE) O.2.2.2.1,none),(31,.val (.int .i64) (O.2.2.2.1.length:Int),none),(32,.val (.int .i64) x.1,none)],[(0,.map .str .bool x.2)],1,49,0⟩) ⟨[3,30,31,32],[(0,768)]⟩ qI ?_;intro x1 w1 n1 f g;obtain⟨aA,aB⟩:=x1;unfold O2 at f;dsimp only at f|-;refine qO DW ?_;refine qY (r8 f (fun f Y=>?_) (fun f Y=>?_))
  .refine rF (qW (qY (sF ?_)));obtain⟨V,f⟩:=qT f;refine qO DW ?_ (hp:=by exact V);refine qY ?_;obtain⟨U,f⟩:=qT f;refine qO DW ?_ (hp:=by exact⟨id,U,id,tK⟩);refine r8 f ?_ ?_<;>intro f Y
   .refine qO DW ?_;refine qZ (rG (sD (rG (vQ (wI (sD (rG ?_)))))));cases f;cases g;dsimp only at e;cases e;exact pR []
   refine rF (qW (rT DW ?_));refine sM (qW ?_);obtain⟨T,f⟩:=qT f;refine rT DW ?_ (hp:=by exact T);cases f;exact tH ⟨⟨[3,30,31,32],[(0,0)]⟩,_,by rfl,g⟩
  refine uF (uD (uG ?_));cases f;cases g;exact uR ⟨⟨[],[]⟩,_,rfl,by rfl⟩
 rintro _ ⟨v,rfl,rfl⟩;dsimp only at e|-;refine uE (qW ?_);refine qO DW ?_;refine qZ ?_;cases e;exact pR []
def LC (O:Int):Option pP:=(QA ([O]:pZ)).bind fun Z=>some (Z)
section
variable (O:Int)
abbrev Ej:List qQ:=[(.val (.int .i64) O,none)]
abbrev Ek:List qP:=[]
@[go_sem] def El:r5:=⟨[((LC O)).isSome=true],[(.val .str (val (LC O)),none),(.val .bool ((decide (O<=(1114111:Int)))&&((decide (O<(55296:Int)))||(decide ((57343:Int)<O)))),none)],[]⟩
def a0s:List qQ->List qP->Option r5:=s9 (V:=Int) (Ej) (fun x=>Ek) fun x=>El x
@[go_sem] def aFz:a0s (no_index (Ej O)) (no_index Ek)=some (El O):=sB (fun a0 b0 h1 h2=>by cases h1;cases h2;rfl) O
end
@[go_sem] abbrev Em:Nat×rM:=(201,⟨[.v],a0s,[],[],none⟩)
def ZP:rJ prog [KJ] (rK [a0o]):=⟨⟨PN,trivial⟩,r7 a9i rZ,rL⟩
def a0t:rS prog Em:=by
 refine sC ZP func201 (c:=_) rfl (N:=19) qH (ts:=[(2,none),(3,none)]) rfl (fun _ _=>rfl) ?_;intro O hs hrow;dsimp only[Ej,Ek,El,s7,rC,rI,rN,s8,Nat.reduceAdd] at hs hrow|-;have hz:=hs;obtain⟨z0,e⟩:=aFS.1 hz
 try rw[sH e]
 clear hz hs;unfold LC at e;refine qO ZP ?_;refine qO ZP ?_ (hp:=by exact⟨id,id,id,id,fun hG d=>KB hG d,sR⟩);obtain⟨Z,hv1,hw1,e⟩:=rW e
 try simp only[go_sem] at hw1
 refine qO ZP ?_ (hp:=by exact(rV hv1)) (h:=by simp only[go_sem,hw1];rfl);refine qZ ?_;cases e;exact pR []
attribute [irreducible] QB O3 LC
end
noncomputable section
def TX (O:sN):(Int×pQ)->Option ((Int×pQ)⊕pQ):=fun(Z,aA)=>if (decide (Z<(O.2.2.2.1.length:Int)))=true then if 0<=Z/\Z<(O.2.2.2.1.length:Int) then (O0 (qV tE O.2.2.2.1 Z)).bind fun aB=>if (aA.length+([aB]:pQ).length)*16<=140737488355328 then if qR (Z+(1:Int)) then some (.inl ((Z+(1:Int)),(aA++([aB]:pQ)))) else none else none else none else some (.inr aA)
def H9 (O:sN):Option (pP×pQ×Int):=(O3 O).bind fun Z=>if (!Z)=true then some ((([]:pP),([]:pQ),(1:Int))) else (C6 O.1).bind fun aA=>if ((([99,97,116,97,108,111,103,32]:pP)++aA).length:Int)<=9223372036854775807 then if (((([99,97,116,97,108,111,103,32]:pP)++aA)++([10]:pP)).length:Int)<=9223372036854775807 then (L8 O.2.1).bind fun aB=>if ((((([99,97,116,97,108,111,103,32]:pP)++aA)++([10]:pP))++aB).length:Int)<=9223372036854775807 then (J6 O.2.2.1).bind fun aC=>if (((((([99,97,116,97,108,111,103,32]:pP)++aA)++([10]:pP))++aB)++aC).length:Int)<=9223372036854775807 then if ((((((([99,97,116,97,108,111,103,32]:pP)++aA)++([10]:pP))++aB)++aC)++([101,110,100,10]:pP)).length:Int)<=9223372036854775807 then uS (sA (TX O) ((0:Int),([]:pQ))) fun aD=>some (((((((([99,97,116,97,108,111,103,32]:pP)++aA)++([10]:pP))++aB)++aC)++([101,110,100,10]:pP)),aD,(0:Int))) else none else none else none else none else none
section
variable (O:sN)
abbrev En:List qQ:=[(.val DE O,none)]
abbrev Eo:List qP:=[]
@[go_sem] def Ep:r5:=⟨[((H9 O)).isSome=true],[(.val BR ((val (H9 O)).1,((val (H9 O)).2.1,(([]:pP),()))),none),(.val (.int .i64) ((val (H9 O)).2.2),none)],[]⟩
def a0u:List qQ->List qP->Option r5:=s9 (V:=sN) (En) (fun x=>Eo) fun x=>Ep x
@[go_sem] def aFA:a0u (no_index (En O)) (no_index Eo)=some (Ep O):=sB (fun a0 b0 h1 h2=>by cases h1;cases h2;rfl) O
end
@[go_sem] abbrev Er:Nat×rM:=(19,⟨[.v],a0u,[],[],none⟩)
def FS:rJ prog [sS,xM,wX,EI,AN,GQ,DG] (rK [a0r,TQ,Dc,Dg,a0e]):=⟨⟨sU,⟨yX,⟨yV,⟨GR,⟨BT,⟨KH,⟨FC,trivial⟩⟩⟩⟩⟩⟩⟩,r7 a9k (r7 ZO (r7 a0a (r7 a0c (r7 a9e rZ)))),rL⟩
def a9l:rS prog Er:=by
 refine sC FS func19 (c:=_) rfl (N:=42) qH (ts:=[(2,some 34),(3,none)]) rfl (fun _ _=>rfl) ?_;intro O hs hrow;dsimp only[En,Eo,Ep,s7,rC,rI,rN,s8,Nat.reduceAdd] at hs hrow|-;have hz:=hs;obtain⟨z0,d⟩:=aFS.1 hz
 try rw[sH d]
 clear hz hs;unfold H9 at d;refine qO FS ?_;refine qY ?_;obtain⟨Z,hv1,hw1,d⟩:=rW d
 try simp only[go_sem] at hw1
 refine qO FS ?_ (hp:=by exact(rV hv1)) (h:=by simp only[go_sem,hw1];rfl);refine r8 d ?_ ?_<;>intro d Y
 .refine qO FS ?_;refine qZ (rG ?_);cases d;exact pR []
 refine rF (qW ?_);obtain⟨aA,hv2,hw2,d⟩:=rW d
 try simp only[go_sem] at hw2
 obtain⟨X,W,d⟩:=pO d;obtain⟨aB,hv5,hw5,d⟩:=rW d
 try simp only[go_sem] at hw5
 obtain⟨V,d⟩:=qT d;obtain⟨aC,hv7,hw7,d⟩:=rW d
 try simp only[go_sem] at hw7
 obtain⟨U,T,d⟩:=pO d;refine x8 FS ?_ (hp:=by exact⟨rV hv2,X,W,rV hv5,V,rV hv7,U,T⟩) (h:=by simp only[go_sem,hw2,hw5,hw7];rfl);refine qY (qO FS ?_);refine sF ?_;obtain⟨aD,hy1,d⟩:=rE d;refine uQ 0 (fun s=>s=(fun x=>⟨[(2,.val .ref (some (0,0)),none),(4,.val .ref (some (1,0)),none)],[(0,.cells BR (([]:pP),(([]:pQ),(([]:pP),()))) [(1,2)]),(1,.cells BR ((((((([99,97,116,97,108,111,103,32]:pP)++aA)++([10]:pP))++aB)++aC)++([101,110,100,10]:pP)),(x,(([]:pP),()))) [(1,3)]),(2,.grow 9 1 (([]:pQ).length)),(3,.grow 9 1 (x.length))],4,42,0⟩) aD) ?_ ?_
 .refine uJ hy1 (fun x=>⟨[(2,.val .ref (some (0,0)),none),(4,.val .ref (some (1,0)),none),(27,.val (.list tE) O.2.2.2.1,none),(28,.val (.int .i64) (O.2.2.2.1.length:Int),none),(29,.val (.int .i64) x.1,none)],[(0,.cells BR (([]:pP),(([]:pQ),(([]:pP),()))) [(1,2)]),(1,.cells BR ((((((([99,97,116,97,108,111,103,32]:pP)++aA)++([10]:pP))++aB)++aC)++([101,110,100,10]:pP)),(x.2,(([]:pP),()))) [(1,3)]),(2,.grow 9 1 (([]:pQ).length)),(3,.grow 9 1 (x.2.length))],4,42,0⟩) ⟨[2,4,27,28,29],[(0,32),(1,672),(2,33),(3,704)]⟩ qI ?_;intro x1 w1 n1 e g;obtain⟨aE,aF⟩:=x1;unfold TX at e;dsimp only at e|-;refine qO FS ?_;refine qY (r8 e (fun e Y=>?_) (fun e Y=>?_))
  .refine rF (qW (qY (sF ?_)));obtain⟨S,e⟩:=qT e;refine qO FS ?_ (hp:=by exact S);obtain⟨aG,hv11,hw11,e⟩:=rW e
   try simp only[go_sem] at hw11
   obtain⟨R,e⟩:=qT e;refine II FS ?_ (hp:=by exact⟨rV hv11,qG,R⟩) (h:=by simp only[go_sem,hw11];rfl)
   refine sM (qW ?_);obtain⟨Q,e⟩:=qT e;refine rT FS ?_ (hp:=by exact Q);cases e;exact tH ⟨⟨[2,4,27,28,29],[(0,0),(1,1),(2,2),(3,3)]⟩,_,by rfl,g⟩
  refine uF (uD (uG ?_));cases e;cases g;exact uR ⟨⟨[2,4],[(0,0),(1,1),(2,2),(3,3)]⟩,by rfl⟩
 rintro _ rfl;dsimp only at d|-;refine uE (qW ?_);refine qO FS ?_;refine qZ ?_;cases d;exact pR []
def J8 (O:pP):Option (pP×Int):=if (decide ((O.length:Int)<(2:Int)))=true then some ((([]:pP),(0:Int))) else if 0<=(1:Int)/\(1:Int)<(O.length:Int) then if (decide ((sK O (1:Int))=(110:Int)))=true then some ((([10]:pP),(2:Int))) else if (decide ((sK O (1:Int))=(114:Int)))=true then some ((([13]:pP),(2:Int))) else if (decide ((sK O (1:Int))=(116:Int)))=true then some ((([9]:pP),(2:Int))) else if (decide ((sK O (1:Int))=(120:Int)))=true then if (decide ((4:Int)<=(O.length:Int)))=true then if 0<=(2:Int)/\(2:Int)<=(4:Int)/\(4:Int)<=(O.length:Int) then (GX (sG O (2:Int) (4:Int)) (16:Int)).bind fun Z=>if (Z.2&&(decide (Z.1<=(127:Int))))=true then some (((tO ([(IntKind.wrap .u8 Z.1)]:pZ)),(4:Int))) else some ((([]:pP),(0:Int))) else none else some ((([]:pP),(0:Int))) else if (decide ((sK O (1:Int))=(117:Int)))=true then if (decide ((6:Int)<=(O.length:Int)))=true then if 0<=(2:Int)/\(2:Int)<=(6:Int)/\(6:Int)<=(O.length:Int) then (GX (sG O (2:Int) (6:Int)) (16:Int)).bind fun aA=>if aA.2=true then (LC aA.1).bind fun aB=>if ((decide (aA.1<=(1114111:Int)))&&((decide (aA.1<(55296:Int)))||(decide ((57343:Int)<aA.1))))=true then some ((aB,(6:Int))) else some ((([]:pP),(0:Int))) else some ((([]:pP),(0:Int))) else none else some ((([]:pP),(0:Int))) else if (decide ((0:Int)<=(vW ([92,34,61,58,35,33,123,125,32]:pP) (sK O (1:Int)))))=true then if 0<=(1:Int)/\(1:Int)<=(2:Int)/\(2:Int)<=(O.length:Int) then some (((sG O (1:Int) (2:Int)),(2:Int))) else none else some ((([]:pP),(0:Int))) else none
section
variable (O:pP)
abbrev Es:List qQ:=[(.val .str O,none)]
abbrev Et:List qP:=[]
@[go_sem] def Eu:r5:=⟨[((J8 O)).isSome=true],[(.val .str ((val (J8 O)).1),none),(.val (.int .i64) ((val (J8 O)).2),none)],[]⟩
def a0v:List qQ->List qP->Option r5:=s9 (V:=pP) (Es) (fun x=>Et) fun x=>Eu x
@[go_sem] def aFB:a0v (no_index (Es O)) (no_index Et)=some (Eu O):=sB (fun a0 b0 h1 h2=>by cases h1;cases h2;rfl) O
end
@[go_sem] abbrev a0w:Nat×rM:=(180,⟨[.v],a0v,[],[],none⟩)
def vH:rJ prog [vG,FD,sS,GS] (rK [ut,Em,N7]):=⟨⟨vR,⟨IN,⟨sU,⟨KI,trivial⟩⟩⟩⟩,r7 Wl (r7 a0t (r7 SP rZ)),rL⟩
def a9m:rS prog a0w:=by
 refine sC vH func180 (c:=_) rfl (N:=67) qH (ts:=[(2,none),(3,none)]) rfl (fun _ _=>rfl) ?_;intro O hs hrow;dsimp only[Es,Et,Eu,s7,rC,rI,rN,s8,Nat.reduceAdd] at hs hrow|-;have hz:=hs;obtain⟨z0,d⟩:=aFS.1 hz
 try rw[sH d]
 clear hz hs;unfold J8 at d;refine qO vH ?_;refine qY (qO vH ?_);refine r8 d ?_ ?_<;>intro d Y
 .refine qO vH ?_;refine qZ (rG ?_);cases d;exact pR []
 refine rF (qW (qY ?_));obtain⟨X,d⟩:=qT d;refine qO vH ?_ (hp:=by exact X);refine qO vH ?_;refine sF (qO vH ?_);refine r8 d ?_ ?_<;>intro d Y
 .refine qO vH ?_;refine qZ (sD (rG ?_));cases d;exact pR []
 refine qO vH ?_;refine r8 d ?_ ?_<;>intro d Y
 .refine qO vH ?_;refine qZ (sD (rG ?_));cases d;exact pR []
 refine qO vH ?_;refine r8 d ?_ ?_<;>intro d Y
 .refine qO vH ?_;refine qZ (sD (rG ?_));cases d;exact pR []
 refine qO vH ?_;refine r8 d ?_ ?_<;>intro d Y
 .refine qO vH ?_;refine r8 d ?_ ?_<;>intro d Y
  .obtain⟨W,d⟩:=qT d;obtain⟨Z,hv3,hw3,d⟩:=rW d
   try simp only[go_sem] at hw3
   refine qO vH ?_ (hp:=by exact⟨W,(rV hv3)⟩) (h:=by simp only[go_sem,hw3];rfl);refine qO vH ?_ (hp:=by exact⟨id,sR⟩);refine r8 d ?_ ?_<;>intro d Y
   .refine qO vH ?_;refine qZ (sD (rG ?_));cases d;exact pR []
   refine rF (sM (qW (qO vH ?_)));refine qZ ?_;cases d;exact pR []
  refine rF (sM (qW (qO vH ?_)));refine qZ ?_;cases d;exact pR []
 refine qO vH ?_;refine r8 d ?_ ?_<;>intro d Y
 .refine qO vH ?_;refine r8 d ?_ ?_<;>intro d Y
  .obtain⟨V,d⟩:=qT d;obtain⟨aA,hv5,hw5,d⟩:=rW d
   try simp only[go_sem] at hw5
   refine qO vH ?_ (hp:=by exact⟨V,(rV hv5)⟩) (h:=by simp only[go_sem,hw5];rfl);refine qO vH ?_;refine r8 d ?_ ?_<;>intro d Y
   .obtain⟨aB,hv6,hw6,d⟩:=rW d
    try simp only[go_sem] at hw6
    refine qO vH ?_ (hp:=by exact(rV hv6)) (h:=by simp only[go_sem,hw6];rfl);refine qO vH ?_;refine r8 d ?_ ?_<;>intro d Y
    .refine qO vH ?_;refine qZ (sD (rG ?_));cases d;exact pR []
    refine rF (sM (qW (qO vH ?_)));refine qZ ?_;cases d;exact pR []
   refine rF (sM (qW (qO vH ?_)));refine qZ ?_;cases d;exact pR []
  refine rF (sM (qW (qO vH ?_)));refine qZ ?_;cases d;exact pR []
 refine qO vH ?_;refine r8 d ?_ ?_<;>intro d Y
 .obtain⟨U,d⟩:=qT d;refine qO vH ?_ (hp:=by exact U);refine qZ (sD (rG ?_));cases d;exact pR []
 refine rF (sM (qW (qO vH ?_)));refine qZ ?_;cases d;exact pR []
attribute [irreducible] H9 J8
end
noncomputable section
def QC (O:pP):Option (pP×Int):=if (decide ((vW O (59:Int))<(0:Int)))=true then some ((([]:pP),(0:Int))) else if 0<=(1:Int)/\(1:Int)<=(vW O (59:Int))/\(vW O (59:Int))<=(O.length:Int) then if (decide ((sG O (1:Int) (vW O (59:Int)))=([97,109,112]:pP)))=true then if qR ((vW O (59:Int))+(1:Int)) then some ((([38]:pP),((vW O (59:Int))+(1:Int)))) else none else if (decide ((sG O (1:Int) (vW O (59:Int)))=([108,116]:pP)))=true then if qR ((vW O (59:Int))+(1:Int)) then some ((([60]:pP),((vW O (59:Int))+(1:Int)))) else none else if (decide ((sG O (1:Int) (vW O (59:Int)))=([103,116]:pP)))=true then if qR ((vW O (59:Int))+(1:Int)) then some ((([62]:pP),((vW O (59:Int))+(1:Int)))) else none else if (decide ((sG O (1:Int) (vW O (59:Int)))=([113,117,111,116]:pP)))=true then if qR ((vW O (59:Int))+(1:Int)) then some ((([34]:pP),((vW O (59:Int))+(1:Int)))) else none else if (decide ((sG O (1:Int) (vW O (59:Int)))=([97,112,111,115]:pP)))=true then if qR ((vW O (59:Int))+(1:Int)) then some ((([39]:pP),((vW O (59:Int))+(1:Int)))) else none else (NU (sG O (1:Int) (vW O (59:Int))) ([35]:pP)).bind fun Z=>if (!Z.2)=true then some ((([]:pP),(0:Int))) else (NU Z.1 ([120]:pP)).bind fun aA=>uS (σ:=(pP×Int×Int)) (if aA.2=true then some ((aA.1,(16:Int),(6:Int))) else some ((Z.1,(10:Int),(7:Int))) ) fun(aB,aC,aD)=>(GX aB aC).bind fun aE=>if ((!aE.2)||(decide (aD<(aB.length:Int))))=true then some ((([]:pP),(0:Int))) else (LC aE.1).bind fun aF=>if (!((decide (aE.1<=(1114111:Int)))&&((decide (aE.1<(55296:Int)))||(decide ((57343:Int)<aE.1)))))=true then some ((([]:pP),(0:Int))) else if qR ((vW O (59:Int))+(1:Int)) then some ((aF,((vW O (59:Int))+(1:Int)))) else none else none
section
variable (O:pP)
abbrev Ew:List qQ:=[(.val .str O,none)]
abbrev Ey:List qP:=[]
@[go_sem] def Ez:r5:=⟨[((QC O)).isSome=true],[(.val .str ((val (QC O)).1),none),(.val (.int .i64) ((val (QC O)).2),none)],[]⟩
def a0x:List qQ->List qP->Option r5:=s9 (V:=pP) (Ew) (fun x=>Ey) fun x=>Ez x
@[go_sem] def aFC:a0x (no_index (Ew O)) (no_index Ey)=some (Ez O):=sB (fun a0 b0 h1 h2=>by cases h1;cases h2;rfl) O
end
@[go_sem] abbrev a0y:Nat×rM:=(181,⟨[.v],a0x,[],[],none⟩)
def vN:rJ prog [sS] (rK [N7,Yr,ut,Em]):=⟨⟨sU,trivial⟩,r7 SP (r7 a81 (r7 Wl (r7 a0t rZ))),rL⟩
def a9n:rS prog a0y:=by
 refine sC vN func181 (c:=_) rfl (N:=80) qH (ts:=[(2,none),(3,none)]) rfl (fun _ _=>rfl) ?_;intro O hs hrow;dsimp only[Ew,Ey,Ez,s7,rC,rI,rN,s8,Nat.reduceAdd] at hs hrow|-;have hz:=hs;obtain⟨z0,d⟩:=aFS.1 hz
 try rw[sH d]
 clear hz hs;unfold QC at d;refine qO vN ?_;refine qO vN ?_;refine qY (qO vN ?_);refine r8 d ?_ ?_<;>intro d Y
 .refine qO vN ?_;refine qZ (rG ?_);cases d;exact pR []
 refine rF (qW ?_);obtain⟨X,d⟩:=qT d;refine qO vN ?_ (hp:=by exact X);refine qY (qO vN ?_);refine sF (qO vN ?_);refine r8 d ?_ ?_<;>intro d Y
 .obtain⟨W,d⟩:=qT d;refine qO vN ?_ (hp:=by exact W);refine qZ (sD (rG ?_));cases d;exact pR []
 refine qO vN ?_;refine r8 d ?_ ?_<;>intro d Y
 .obtain⟨V,d⟩:=qT d;refine qO vN ?_ (hp:=by exact V);refine qZ (sD (rG ?_));cases d;exact pR []
 refine qO vN ?_;refine r8 d ?_ ?_<;>intro d Y
 .obtain⟨U,d⟩:=qT d;refine qO vN ?_ (hp:=by exact U);refine qZ (sD (rG ?_));cases d;exact pR []
 refine qO vN ?_;refine r8 d ?_ ?_<;>intro d Y
 .obtain⟨T,d⟩:=qT d;refine qO vN ?_ (hp:=by exact T);refine qZ (sD (rG ?_));cases d;exact pR []
 refine qO vN ?_;refine r8 d ?_ ?_<;>intro d Y
 .obtain⟨S,d⟩:=qT d;refine qO vN ?_ (hp:=by exact S);refine qZ (sD (rG ?_));cases d;exact pR []
 refine rF (sM (qW ?_));obtain⟨Z,hv7,hw7,d⟩:=rW d
 try simp only[go_sem] at hw7
 refine qO vN ?_ (hp:=by exact(rV hv7)) (h:=by simp only[go_sem,hw7];rfl);refine qY (qO vN ?_);refine r8 d ?_ ?_<;>intro d Y
 .refine qO vN ?_;refine qZ (rG ?_);cases d;exact pR []
 refine rF (qW (qO vN ?_));refine qY ?_;obtain⟨aA,hv8,hw8,d⟩:=rW d
 try simp only[go_sem] at hw8
 refine qO vN ?_ (hp:=by exact(rV hv8)) (h:=by simp only[go_sem,hw8];rfl);refine qO vN ?_;obtain⟨y1,e,d⟩:=rE d;refine EE (fun s=>s=(fun x=>⟨[(4,.val (.int .i64) (vW O (59:Int)),none),(6,.val .str x.1,none),(8,.val (.int .i64) x.2.1,none),(9,.val (.int .i64) x.2.2,none)],[],0,80,0⟩) y1) ?_ ?_
 .refine r8 e ?_ ?_<;>intro e Y
  .refine rT vN ?_;cases e;exact wJ ⟨⟨[4,6,8,9],[]⟩,by rfl⟩
  refine rF ?_;cases e;exact wJ ⟨⟨[4,6,8,9],[]⟩,by rfl⟩
 rintro _ rfl;obtain⟨aB,aC,aD⟩:=y1;dsimp only at d|-;refine qW ?_;obtain⟨aE,hv9,hw9,d⟩:=rW d
 try simp only[go_sem] at hw9
 refine qO vN ?_ (hp:=by exact(rV hv9)) (h:=by simp only[go_sem,hw9];rfl);refine qY (qO vN ?_ (hp:=by exact⟨id,id,id,tK⟩));refine r8 d ?_ ?_<;>intro d Y
 .refine qO vN ?_;refine qZ (rG ?_);cases d;exact pR []
 refine rF (qW ?_);obtain⟨aF,hv10,hw10,d⟩:=rW d
 try simp only[go_sem] at hw10
 refine qO vN ?_ (hp:=by exact(rV hv10)) (h:=by simp only[go_sem,hw10];rfl);refine qY (qO vN ?_);refine r8 d ?_ ?_<;>intro d Y
 .refine qO vN ?_;refine qZ (rG ?_);cases d;exact pR []
 refine rF (qW ?_);obtain⟨R,d⟩:=qT d;refine qO vN ?_ (hp:=by exact R);refine qZ ?_;cases d;exact pR []
def a0z (O:Int) (Z:pP):(Int×pZ)->Option ((Int×pZ)⊕(pZ⊕(pP×Int×Int))):=fun(aA,aB)=>if (decide (aA<(Z.length:Int)))=true then if 0<=aA/\aA<(Z.length:Int) then if (decide ((sK Z aA)=(38:Int)))=true then if 0<=aA/\aA<=(Z.length:Int)/\(Z.length:Int)<=(Z.length:Int) then (QC (sG Z aA (Z.length:Int))).bind fun aC=>if (decide (aC.2=(0:Int)))=true then some (.inr (.inr ((([]:pP),aA,(3:Int))))) else (EL (aB,()) aC.1).bind fun aD=>if qR (aA+aC.2) then some (.inl ((aA+aC.2),(aB++uY aC.1))) else none else none else if 0<=aA/\aA<(Z.length:Int) then if (NF O (sK Z aA))=true then some (.inr (.inr ((([]:pP),aA,(3:Int))))) else if 0<=aA/\aA<(Z.length:Int) then (NH (aB,()) (sK Z aA)).bind fun aE=>if qR (aA+(1:Int)) then some (.inl ((aA+(1:Int)),(aB++([(sK Z aA)]:pZ)))) else none else none else none else none else some (.inr (.inl aB))
def QD (O:Int) (Z:pP):(Int×pZ)->Option ((Int×pZ)⊕(pZ⊕(pP×Int×Int))):=fun(aA,aB)=>if (decide (aA<(Z.length:Int)))=true then if 0<=aA/\aA<(Z.length:Int) then if (decide ((sK Z aA)=(92:Int)))=true then if 0<=aA/\aA<=(Z.length:Int)/\(Z.length:Int)<=(Z.length:Int) then (J8 (sG Z aA (Z.length:Int))).bind fun aC=>if (decide (aC.2=(0:Int)))=true then some (.inr (.inr ((([]:pP),aA,(3:Int))))) else (EL (aB,()) aC.1).bind fun aD=>if qR (aA+aC.2) then some (.inl ((aA+aC.2),(aB++uY aC.1))) else none else none else if 0<=aA/\aA<(Z.length:Int) then if (NF O (sK Z aA))=true then some (.inr (.inr ((([]:pP),aA,(3:Int))))) else if 0<=aA/\aA<(Z.length:Int) then (NH (aB,()) (sK Z aA)).bind fun aE=>if qR (aA+(1:Int)) then some (.inl ((aA+(1:Int)),(aB++([(sK Z aA)]:pZ)))) else none else none else none else none else some (.inr (.inl aB))
def J9 (O:Int) (Z:pP):Option (pP×Int×Int):=if (!((decide ((1:Int)<=O))&&(decide (O<=(4:Int)))))=true then some ((([]:pP),(0:Int),(1:Int))) else if (decide (O=(4:Int)))=true then uB (sA (a0z O Z) ((0:Int),([]:pZ))) fun aA=>some (((tO aA),(0:Int),(0:Int))) else uB (sA (QD O Z) ((0:Int),([]:pZ))) fun aB=>some (((tO aB),(0:Int),(0:Int)))
section
variable (O:Int) (Z:pP)
abbrev Fa:List qQ:=[(.val (.int .i64) O,none),(.val .str Z,none)]
abbrev Fb:List qP:=[]
@[go_sem] def Fc:r5:=⟨[((J9 O Z)).isSome=true],[(.val .str ((val (J9 O Z)).1),none),(.val (.int .i64) ((val (J9 O Z)).2.1),none),(.val (.int .i64) ((val (J9 O Z)).2.2),none)],[]⟩
def a0A:List qQ->List qP->Option r5:=s9 (V:=(Int×pP)) (fun x=>Fa x.1 x.2) (fun x=>Fb) fun x=>Fc x.1 x.2
@[go_sem] def aFD:a0A (no_index (Fa O Z)) (no_index Fb)=some (Fc O Z):=sB (fun⟨_,_⟩⟨_,_⟩ x y=>by cases x;cases y;rfl) (O,Z)
end
@[go_sem] abbrev a0B:Nat×rM:=(149,⟨[.v,.v],a0A,[],[],none⟩)
def v6:rJ prog [sS,IM] (rK [Z3,a0y,YX,Wh,Wj,N8,a0w]):=⟨⟨sU,⟨NB,trivial⟩⟩,r7 rg (r7 a9n (r7 pg (r7 a8A (r7 a8B (r7 SR (r7 a9m rZ)))))),rL⟩
def a9o:rS prog a0B:=by
 refine sC v6 func149 (c:=_) rfl (N:=58) qH (ts:=[(4,none),(5,none),(6,none)]) rfl (fun _ _=>rfl) ?_;intro⟨O,Z⟩ hs hrow;dsimp only[Fa,Fb,Fc,s7,rC,rI,rN,s8,Nat.reduceAdd] at hs hrow|-;have hz:=hs;obtain⟨z0,d⟩:=aFS.1 hz
 try rw[sH d]
 clear hz hs;unfold J9 at d;refine qO v6 ?_;refine qY (qO v6 ?_);refine r8 d ?_ ?_<;>intro d Y
 .refine qO v6 ?_;refine qZ (rG ?_);cases d;exact pR []
 refine rF (qW (qO v6 ?_));refine qY (qO v6 ?_);refine r8 d ?_ ?_<;>intro d Y
 .refine rT v6 ?_;refine qW (qO v6 ?_);refine qY (qO v6 ?_);refine sF ?_;obtain⟨y1,hy1,d⟩:=w8 d;refine uQ 0 (fun s=> ∃v,y1= .inl v/\s=(fun x=>⟨[(9,.val .ref (some (0,0)),none)],[(0,.cells x9 ((some (0,0)),(x,())) [(1,1)]),(1,.grow 5 1 (x.length))],2,58,0⟩) v) ?_ ?_
  .refine uJ hy1 (fun x=>⟨[(0,.val (.int .i64) O,none),(1,.val .str Z,none),(7,.val (.int .u8) (38:Int),none),(8,.val .clo (some (181,[])),none),(9,.val .ref (some (0,0)),none),(10,.val (.int .i64) x.1,none)],[(0,.cells x9 ((some (0,0)),(x.2,())) [(1,1)]),(1,.grow 5 1 (x.2.length))],2,58,0⟩) ⟨[0,1,7,8,9,10],[(0,384),(1,385)]⟩ qI ?_;intro x1 w1 n1 e f;obtain⟨aA,aB⟩:=x1;unfold a0z at e;dsimp only at e|-;refine qY (qO v6 ?_);refine r8 e ?_ ?_<;>intro e Y
   .refine rF (qW (sF (sF ?_)));obtain⟨X,e⟩:=qT e;refine qO v6 ?_ (hp:=by exact X);refine r8 e ?_ ?_<;>intro e Y
    .obtain⟨W,e⟩:=qT e;obtain⟨aC,hv3,hw3,e⟩:=rW e
     try simp only[go_sem] at hw3
     refine qO v6 ?_ (hp:=by exact⟨W,(rV hv3)⟩) (h:=by simp only[go_sem,hw3];rfl);refine qY (qO v6 ?_);refine r8 e ?_ ?_<;>intro e Y
     .refine qO v6 ?_;refine qZ (rG (sD (sD (vQ (wI (sD (rG ?_)))))));cases e;cases f;dsimp only at d;cases d;exact pR []
     refine rF (qW ?_);obtain⟨aD,hv4,hw4,e⟩:=rW e
     try simp only[go_sem] at hw4
     refine qO v6 ?_ (hp:=by exact⟨qG,(rV hv4)⟩) (h:=by simp only[go_sem,hw4];rfl)
     obtain⟨V,e⟩:=qT e;refine rT v6 ?_ (hp:=by exact V);refine sM (sM ?_);cases e;exact tH ⟨⟨[0,1,7,8,9,10],[(0,0),(1,1)]⟩,_,by rfl,f⟩
    obtain⟨U,e⟩:=qT e;refine qO v6 ?_ (hp:=by exact U);refine r8 e ?_ ?_<;>intro e Y
    .refine qO v6 ?_;refine qZ (sD (sD (vQ (wI (sD (rG ?_))))));cases e;cases f;dsimp only at d;cases d;exact pR []
    obtain⟨T,e⟩:=qT e;obtain⟨aE,hv8,hw8,e⟩:=rW e
    try simp only[go_sem] at hw8
    refine qO v6 ?_ (hp:=by exact⟨T,qG,(rV hv8)⟩) (h:=by simp only[go_sem,hw8];rfl)
    obtain⟨S,e⟩:=qT e;refine rT v6 ?_ (hp:=by exact S);refine sM (sM ?_);cases e;exact tH ⟨⟨[0,1,7,8,9,10],[(0,0),(1,1)]⟩,_,by rfl,f⟩
   refine uF (uD (uG ?_));cases e;cases f;exact uR ⟨⟨[9],[(0,0),(1,1)]⟩,_,rfl,by rfl⟩
  rintro _ ⟨aF,rfl,rfl⟩;dsimp only at d|-;refine uE (qW ?_);refine qO v6 ?_ (hp:=by first|rfl|trivial)
  refine qZ ?_;cases d;exact pR []
 refine rF (qW (qO v6 ?_));refine qY (qO v6 ?_);refine sF ?_;obtain⟨y1,hy1,d⟩:=w8 d;refine uQ 0 (fun s=> ∃v,y1= .inl v/\s=(fun x=>⟨[(9,.val .ref (some (0,0)),none)],[(0,.cells x9 ((some (0,0)),(x,())) [(1,1)]),(1,.grow 5 1 (x.length))],2,58,0⟩) v) ?_ ?_
 .refine uJ hy1 (fun x=>⟨[(0,.val (.int .i64) O,none),(1,.val .str Z,none),(7,.val (.int .u8) (92:Int),none),(8,.val .clo (some (180,[])),none),(9,.val .ref (some (0,0)),none),(10,.val (.int .i64) x.1,none)],[(0,.cells x9 ((some (0,0)),(x.2,())) [(1,1)]),(1,.grow 5 1 (x.2.length))],2,58,0⟩) ⟨[0,1,7,8,9,10],[(0,320),(1,321)]⟩ qI ?_;intro x1 w1 n1 e f;obtain⟨aG,aH⟩:=x1;unfold QD at e;dsimp only at e|-;refine qY (qO v6 ?_);refine r8 e ?_ ?_<;>intro e Y
  .refine rF (qW (sF (sF ?_)));obtain⟨R,e⟩:=qT e;refine qO v6 ?_ (hp:=by exact R);refine r8 e ?_ ?_<;>intro e Y
   .obtain⟨Q,e⟩:=qT e;obtain⟨aI,hv12,hw12,e⟩:=rW e
    try simp only[go_sem] at hw12
    refine qO v6 ?_ (hp:=by exact⟨Q,(rV hv12)⟩) (h:=by simp only[go_sem,hw12];rfl);refine qY (qO v6 ?_);refine r8 e ?_ ?_<;>intro e Y
    .refine qO v6 ?_;refine qZ (rG (sD (sD (vQ (wI (sD (rG ?_)))))));cases e;cases f;dsimp only at d;cases d;exact pR []
    refine rF (qW ?_);obtain⟨aJ,hv13,hw13,e⟩:=rW e
    try simp only[go_sem] at hw13
    refine qO v6 ?_ (hp:=by exact⟨qG,(rV hv13)⟩) (h:=by simp only[go_sem,hw13];rfl)
    obtain⟨P,e⟩:=qT e;refine rT v6 ?_ (hp:=by exact P);refine sM (sM ?_);cases e;exact tH ⟨⟨[0,1,7,8,9,10],[(0,0),(1,1)]⟩,_,by rfl,f⟩
   obtain⟨M,e⟩:=qT e;refine qO v6 ?_ (hp:=by exact M);refine r8 e ?_ ?_<;>intro e Y
   .refine qO v6 ?_;refine qZ (sD (sD (vQ (wI (sD (rG ?_))))));cases e;cases f;dsimp only at d;cases d;exact pR []
   obtain⟨L,e⟩:=qT e;obtain⟨aK,hv17,hw17,e⟩:=rW e
   try simp only[go_sem] at hw17
   refine qO v6 ?_ (hp:=by exact⟨L,qG,(rV hv17)⟩) (h:=by simp only[go_sem,hw17];rfl)
   obtain⟨K,e⟩:=qT e;refine rT v6 ?_ (hp:=by exact K);refine sM (sM ?_);cases e;exact tH ⟨⟨[0,1,7,8,9,10],[(0,0),(1,1)]⟩,_,by rfl,f⟩
  refine uF (uD (uG ?_));cases e;cases f;exact uR ⟨⟨[9],[(0,0),(1,1)]⟩,_,rfl,by rfl⟩
 rintro _ ⟨aL,rfl,rfl⟩;dsimp only at d|-;refine uE (qW ?_);refine qO v6 ?_ (hp:=by first|rfl|trivial)
 refine qZ ?_;cases d;exact pR []
attribute [irreducible] QC J9
end
noncomputable section
def DX (O:(pP×(Bool×Unit))):Option (Bool×pP×Bool×pP×Bool):=if ((decide ((Lib.trimLeftS O.1 ([32,9]:pP))=([]:pP)))||O.2.1)=true then some ((false,([]:pP),false,(Lib.trimLeftS O.1 ([32,9]:pP)),O.2.1)) else if 0<=(0:Int)/\(0:Int)<((Lib.trimLeftS O.1 ([32,9]:pP)).length:Int) then if (!decide ((sK (Lib.trimLeftS O.1 ([32,9]:pP)) (0:Int))=(34:Int)))=true then if List.length (Lib.trimLeftS O.1 ([32,9]:pP))<4294967281 then uS (σ:=Int) (if (decide ((PL (Lib.trimLeftS O.1 ([32,9]:pP)) ([32,9,34]:pP))<(0:Int)))=true then some (((Lib.trimLeftS O.1 ([32,9]:pP)).length:Int)) else some ((PL (Lib.trimLeftS O.1 ([32,9]:pP)) ([32,9,34]:pP))) ) fun Z=>if 0<=(0:Int)/\(0:Int)<=Z/\Z<=((Lib.trimLeftS O.1 ([32,9]:pP)).length:Int) then if 0<=Z/\Z<=((Lib.trimLeftS O.1 ([32,9]:pP)).length:Int)/\((Lib.trimLeftS O.1 ([32,9]:pP)).length:Int)<=((Lib.trimLeftS O.1 ([32,9]:pP)).length:Int) then (Q2 (sG (Lib.trimLeftS O.1 ([32,9]:pP)) Z ((Lib.trimLeftS O.1 ([32,9]:pP)).length:Int)) ([34]:pP)).bind fun aA=>some ((false,(sG (Lib.trimLeftS O.1 ([32,9]:pP)) (0:Int) Z),(!((decide ((([34]:pP).length:Int)<=((sG (Lib.trimLeftS O.1 ([32,9]:pP)) Z ((Lib.trimLeftS O.1 ([32,9]:pP)).length:Int)).length:Int)))&&(decide ((sG (sG (Lib.trimLeftS O.1 ([32,9]:pP)) Z ((Lib.trimLeftS O.1 ([32,9]:pP)).length:Int)) (0:Int) (([34]:pP).length:Int))=([34]:pP))))),(sG (Lib.trimLeftS O.1 ([32,9]:pP)) Z ((Lib.trimLeftS O.1 ([32,9]:pP)).length:Int)),((decide ((([34]:pP).length:Int)<=((sG (Lib.trimLeftS O.1 ([32,9]:pP)) Z ((Lib.trimLeftS O.1 ([32,9]:pP)).length:Int)).length:Int)))&&(decide ((sG (sG (Lib.trimLeftS O.1 ([32,9]:pP)) Z ((Lib.trimLeftS O.1 ([32,9]:pP)).length:Int)) (0:Int) (([34]:pP).length:Int))=([34]:pP)))))) else none else none else none else if 0<=(1:Int)/\(1:Int)<=((Lib.trimLeftS O.1 ([32,9]:pP)).length:Int)/\((Lib.trimLeftS O.1 ([32,9]:pP)).length:Int)<=((Lib.trimLeftS O.1 ([32,9]:pP)).length:Int) then (NE (2:Int) (sG (Lib.trimLeftS O.1 ([32,9]:pP)) (1:Int) ((Lib.trimLeftS O.1 ([32,9]:pP)).length:Int)) (34:Int)).bind fun aB=>if (decide (aB<(0:Int)))=true then some ((false,([]:pP),false,(Lib.trimLeftS O.1 ([32,9]:pP)),true)) else if qR (aB+(1:Int)) then if 0<=(1:Int)/\(1:Int)<=(aB+(1:Int))/\(aB+(1:Int))<=((Lib.trimLeftS O.1 ([32,9]:pP)).length:Int) then (J9 (2:Int) (sG (Lib.trimLeftS O.1 ([32,9]:pP)) (1:Int) (aB+(1:Int)))).bind fun aC=>if qR (aB+(2:Int)) then if 0<=(aB+(2:Int))/\(aB+(2:Int))<=((Lib.trimLeftS O.1 ([32,9]:pP)).length:Int)/\((Lib.trimLeftS O.1 ([32,9]:pP)).length:Int)<=((Lib.trimLeftS O.1 ([32,9]:pP)).length:Int) then if (((!decide (aC.2.2=(0:Int)))==false)=true->((EN aC.1)).isSome=true) then if (((((!decide (aC.2.2=(0:Int)))||(!((decide ((aC.1.length:Int)<=(4000:Int)))&&(Lib.validD aC.1))))==false)&&((!decide ((sG (Lib.trimLeftS O.1 ([32,9]:pP)) (aB+(2:Int)) ((Lib.trimLeftS O.1 ([32,9]:pP)).length:Int))=([]:pP)))==true))=true->0<=(0:Int)/\(0:Int)<((sG (Lib.trimLeftS O.1 ([32,9]:pP)) (aB+(2:Int)) ((Lib.trimLeftS O.1 ([32,9]:pP)).length:Int)).length:Int)) then if (((((!decide (aC.2.2=(0:Int)))||(!((decide ((aC.1.length:Int)<=(4000:Int)))&&(Lib.validD aC.1))))==false)&&(((!decide ((sG (Lib.trimLeftS O.1 ([32,9]:pP)) (aB+(2:Int)) ((Lib.trimLeftS O.1 ([32,9]:pP)).length:Int))=([]:pP)))&&(!decide ((sK (sG (Lib.trimLeftS O.1 ([32,9]:pP)) (aB+(2:Int)) ((Lib.trimLeftS O.1 ([32,9]:pP)).length:Int)) (0:Int))=(32:Int))))==true))=true->0<=(0:Int)/\(0:Int)<((sG (Lib.trimLeftS O.1 ([32,9]:pP)) (aB+(2:Int)) ((Lib.trimLeftS O.1 ([32,9]:pP)).length:Int)).length:Int)) then some ((true,aC.1,(!(((!decide (aC.2.2=(0:Int)))||(!((decide ((aC.1.length:Int)<=(4000:Int)))&&(Lib.validD aC.1))))||(((!decide ((sG (Lib.trimLeftS O.1 ([32,9]:pP)) (aB+(2:Int)) ((Lib.trimLeftS O.1 ([32,9]:pP)).length:Int))=([]:pP)))&&(!decide ((sK (sG (Lib.trimLeftS O.1 ([32,9]:pP)) (aB+(2:Int)) ((Lib.trimLeftS O.1 ([32,9]:pP)).length:Int)) (0:Int))=(32:Int))))&&(!decide ((sK (sG (Lib.trimLeftS O.1 ([32,9]:pP)) (aB+(2:Int)) ((Lib.trimLeftS O.1 ([32,9]:pP)).length:Int)) (0:Int))=(9:Int)))))),(sG (Lib.trimLeftS O.1 ([32,9]:pP)) (aB+(2:Int)) ((Lib.trimLeftS O.1 ([32,9]:pP)).length:Int)),(((!decide (aC.2.2=(0:Int)))||(!((decide ((aC.1.length:Int)<=(4000:Int)))&&(Lib.validD aC.1))))||(((!decide ((sG (Lib.trimLeftS O.1 ([32,9]:pP)) (aB+(2:Int)) ((Lib.trimLeftS O.1 ([32,9]:pP)).length:Int))=([]:pP)))&&(!decide ((sK (sG (Lib.trimLeftS O.1 ([32,9]:pP)) (aB+(2:Int)) ((Lib.trimLeftS O.1 ([32,9]:pP)).length:Int)) (0:Int))=(32:Int))))&&(!decide ((sK (sG (Lib.trimLeftS O.1 ([32,9]:pP)) (aB+(2:Int)) ((Lib.trimLeftS O.1 ([32,9]:pP)).length:Int)) (0:Int))=(9:Int))))))) else none else none else none else none else none else none else none else none else none
section
variable (O:(pP×(Bool×Unit)))
abbrev Fd:List qQ:=[(.val .ref (some (0,0)),none)]
abbrev Fe:List qP:=[.cells (.pair .str (.pair .bool .unit)) O []]
@[go_sem] def Ff:r5:=⟨[((DX O)).isSome=true],[(.val rO ((val (DX O)).1,((val (DX O)).2.1,())),none),(.val .bool ((val (DX O)).2.2.1),none)],[.cells (.pair .str (.pair .bool .unit)) ((val (DX O)).2.2.2.1,((val (DX O)).2.2.2.2,())) []]⟩
def a0C:List qQ->List qP->Option r5:=s9 (V:=(pP×(Bool×Unit))) (fun x=>Fd) (Fe) fun x=>Ff x
@[go_sem] def aFE:a0C (no_index Fd) (no_index (Fe O))=some (Ff O):=sB (fun a0 b0 h1 h2=>by cases h1;cases h2;rfl) O
end
@[go_sem] abbrev a0D:Nat×rM:=(115,⟨[.p (.pair .str (.pair .bool .unit)) []],a0C,[],[],none⟩)
def yY:rJ prog [wP,sS,wY,YV] (rK [SQ,Tv,Xz,Vw,a0B,NN]):=⟨⟨xA,⟨sU,⟨xN,⟨Tt,trivial⟩⟩⟩⟩,r7 ma (r7 a8g (r7 a8Q (r7 a8y (r7 a9o (r7 TG rZ))))),rL⟩
def a9p:rS prog a0D:=by
 refine sC yY func115 (c:=_) rfl (N:=152) qH (ts:=[(2,some 121),(3,none)]) rfl (fun _ _=>rfl) ?_;intro O hs hrow;dsimp only[Fd,Fe,Ff,s7,rC,rI,rN,s8,Nat.reduceAdd] at hs hrow|-;have hz:=hs;obtain⟨z0,e⟩:=aFS.1 hz
 try rw[sH e]
 clear hz hs;unfold DX at e;refine qO yY ?_;refine qO yY ?_ (hp:=by exact⟨pU,pU⟩);refine qY (qO yY ?_ (hp:=by exact⟨id,id,id,tK⟩));refine r8 e ?_ ?_<;>intro e Y
 .refine qO yY ?_;refine qZ (rG ?_);cases e;exact pR [(0,0)]
 refine rF (qW (qY ?_));obtain⟨X,e⟩:=qT e;refine qO yY ?_ (hp:=by exact X);refine r8 e ?_ ?_<;>intro e Y
 .obtain⟨W,e⟩:=qT e;refine qO yY ?_ (hp:=by exact W);refine qY (qO yY ?_);obtain⟨Z,f,e⟩:=rE e;refine EE (fun s=>s=(fun x=>⟨[(0,.val .ref (some (0,0)),none),(2,.val .ref (some (1,0)),none),(4,.val (.int .i64) x,none)],[(0,.cells (.pair .str (.pair .bool .unit)) ((Lib.trimLeftS O.1 ([32,9]:pP)),O.2) []),(1,.cells rO (false,(([]:pP),())) [])],2,152,1⟩) Z) ?_ ?_
  .refine r8 f ?_ ?_<;>intro f Y
   .refine rT yY ?_;cases f;exact wJ ⟨⟨[0,2,4],[(0,0),(1,1)]⟩,by rfl⟩
   refine rF ?_;cases f;exact wJ ⟨⟨[0,2,4],[(0,0),(1,1)]⟩,by rfl⟩
  rintro _ rfl;dsimp only at e|-;refine qW ?_;obtain⟨V,e⟩:=qT e;refine qO yY ?_ (hp:=by exact V);obtain⟨U,e⟩:=qT e;refine qO yY ?_ (hp:=by exact U);obtain⟨aA,hv5,hw5,e⟩:=rW e
  try simp only[go_sem] at hw5
  refine qO yY ?_ (hp:=by exact(rV hv5)) (h:=by simp only[go_sem,hw5];rfl);refine x8 yY ?_;refine qZ (rG ?_);cases e;exact pR [(0,0)]
 refine rF (qW ?_);obtain⟨T,e⟩:=qT e;obtain⟨aB,hv7,hw7,e⟩:=rW e
 try simp only[go_sem] at hw7
 refine qO yY ?_ (hp:=by exact⟨T,(rV hv7)⟩) (h:=by simp only[go_sem,hw7];rfl);refine qY (qO yY ?_);refine r8 e ?_ ?_<;>intro e Y
 .refine qO yY ?_;refine qO yY ?_;refine qZ (rG ?_);cases e;exact pR [(0,0)]
 refine rF (qW ?_);obtain⟨S,R,e⟩:=pO e;obtain⟨aC,hv10,hw10,e⟩:=rW e
 try simp only[go_sem] at hw10
 refine qO yY ?_ (hp:=by exact⟨S,R,(rV hv10)⟩) (h:=by simp only[go_sem,hw10];rfl);obtain⟨Q,P,e⟩:=pO e;refine qO yY ?_ (hp:=by exact⟨Q,P⟩);obtain⟨M,L,e⟩:=pO e;obtain⟨K,e⟩:=qT e;refine qO yY ?_ (hp:=by exact⟨id,M,id,tK,id,id,id,id,id,id,id,id,id,L,id,id,fun hG d=>GN hG d,id,id,id,id,id,K,id,id,fun hG d=>GN hG d,tK⟩);refine x8 yY ?_;refine qZ ?_;cases e;exact pR [(0,0)]
attribute [irreducible] DX
end
noncomputable section
def QE:((List (Bool×(pP×Unit)))×Bool×pP×Bool×Bool×pP)->Option (((List (Bool×(pP×Unit)))×Bool×pP×Bool×Bool×pP)⊕((List (Bool×(pP×Unit)))×pP×Bool)):=fun(O,Z,aA,aB,aC,aD)=>if Z=true then if (O.length+([(aC,(aD,()))]:List (Bool×(pP×Unit))).length)*24<=140737488355328 then (DX (aA,(aB,()))).bind fun aE=>some (.inl ((O++([(aC,(aD,()))]:List (Bool×(pP×Unit)))),aE.2.2.1,aE.2.2.2.1,aE.2.2.2.2,aE.1,aE.2.1)) else none else some (.inr (O,aA,aB))
def FT (O:pP):Option ((List (Bool×(pP×Unit)))×Bool):=(DX (O,(false,()))).bind fun Z=>uS (sA QE (([]:List (Bool×(pP×Unit))),Z.2.2.1,Z.2.2.2.1,Z.2.2.2.2,Z.1,Z.2.1)) fun(aA,aB,aC)=>some ((aA,(!aC)))
section
variable (O:pP)
abbrev Fg:List qQ:=[(.val .str O,none)]
abbrev Fh:List qP:=[]
@[go_sem] def Fi:r5:=⟨[((FT O)).isSome=true],[(.val (.list rO) ((val (FT O)).1),some 0),(.val .bool ((val (FT O)).2),none)],[.grow 121 2 (((val (FT O)).1).length)]⟩
def a0E:List qQ->List qP->Option r5:=s9 (V:=pP) (Fg) (fun x=>Fh) fun x=>Fi x
@[go_sem] def aFF:a0E (no_index (Fg O)) (no_index Fh)=some (Fi O):=sB (fun a0 b0 h1 h2=>by cases h1;cases h2;rfl) O
end
@[go_sem] abbrev C7:Nat×rM:=(81,⟨[.v],a0E,[],[],none⟩)
def FU:rJ prog [wP,xB,wY,YV] (rK [a0D]):=⟨⟨xA,⟨yA,⟨xN,⟨Tt,trivial⟩⟩⟩⟩,r7 a9p rZ,rL⟩
def O4:rS prog C7:=by
 refine sC FU func81 (c:=_) rfl (N:=33) qH (ts:=[(2,none),(3,none)]) rfl (fun _ _=>rfl) ?_;intro O hs hrow;dsimp only[Fg,Fh,Fi,s7,rC,rI,rN,s8,Nat.reduceAdd] at hs hrow|-;have hz:=hs;obtain⟨z0,e⟩:=aFS.1 hz
 try rw[sH e]
 clear hz hs;unfold FT at e;refine qO FU ?_;refine qO FU ?_;refine qO FU ?_;refine qY ?_;obtain⟨Z,hv1,hw1,e⟩:=rW e
 try simp only[go_sem] at hw1
 refine qO FU ?_ (hp:=by exact(rV hv1)) (h:=by simp only[go_sem,hw1];rfl);refine sF ?_;obtain⟨y1,hy1,e⟩:=rE e;refine uQ 0 (fun s=>s=(fun x=>⟨[(4,.val .ref (some (0,0)),none),(5,(.val (.list rO) x.1,some 1))],[(0,.cells (.pair .str (.pair .bool .unit)) (x.2.1,(x.2.2,())) []),(1,.grow 121 2 (x.1.length))],2,33,0⟩) y1) ?_ ?_
 .refine uJ hy1 (fun x=>⟨[(4,.val .ref (some (0,0)),none),(5,(.val (.list rO) x.1,some 1)),(6,(.val .ref (some (2,0)),none)),(7,.val .bool x.2.1,none)],[(0,.cells (.pair .str (.pair .bool .unit)) (x.2.2.1,(x.2.2.2.1,())) []),(1,.grow 121 2 (x.1.length)),(2,.cells rO (x.2.2.2.2.1,(x.2.2.2.2.2,())) [])],3,33,0⟩) ⟨[4,5,6,7],[(0,128),(1,192),(2,384)]⟩ qI ?_;intro x1 w1 n1 d f;obtain⟨aA,aB,aC,aD,aE,aF⟩:=x1;unfold QE at d;dsimp only at d|-;refine qY (qO FU ?_);refine r8 d ?_ ?_<;>intro d Y
  .refine rF (qW (qY (sF ?_)));obtain⟨X,d⟩:=qT d;refine rT FU ?_ (hp:=by exact⟨qG,X⟩)
   refine sM (qW (qY (qO FU ?_)));refine rT FU ?_;refine qW ?_;obtain⟨aG,hv3,hw3,d⟩:=rW d
   try simp only[go_sem] at hw3
   refine rT FU ?_ (hp:=by exact(rV hv3)) (h:=by simp only[go_sem,hw3];rfl);cases d;exact tH ⟨⟨[4,5,6,7],[(0,0),(1,1),(2,227)]⟩,_,by rfl,f⟩
  refine uF (uD (uG ?_));cases d;cases f;exact uR ⟨⟨[4,5],[(0,0),(1,1)]⟩,by rfl⟩
 rintro _ rfl;obtain⟨aH,aI,aJ⟩:=y1;dsimp only at e|-;refine uE (qW ?_);refine x8 FU ?_;refine qZ ?_;cases e;exact pR [(0,1)]
attribute [irreducible] FT
end
noncomputable section
def vC (O:sN) (Z:Int) (aA:pP) (aB:pP) (aC:pP) (aD:pQ) (aE:Int) (aF:Nat) (aG:(pZ×Unit)) (aH:pP) (aI:Int) (aJ:(Option pQ)) (aK:Nat) (aL:(Option (List r9))) (aM:Nat) (aN:pX) (aO:pX):Option (Int×pP×pQ×(List r9)×(List sQ)×Int×pP×pP×pP×pQ×Int×Nat×pZ×pX×(Option pQ)×Nat×(Option (List r9))×Nat×pX):=(FT aH).bind fun aP=>if (!aP.2)=true then some (((3:Int),O.1,O.2.1,O.2.2.1,O.2.2.2.1,Z,aA,aB,aC,aD,aE,aF,aG.1,aO,aJ,aK,aL,aM,aN)) else if 0<=(0:Int)/\(0:Int)<(aP.1.length:Int) then if (qV rO aP.1 (0:Int)).1=true then (AO O Z aA aB aC aD aE aF aG aP.1 aJ aK aL aM aN aO).bind fun aQ=>some ((aQ.1,O.1,O.2.1,O.2.2.1,O.2.2.2.1,Z,aA,aQ.2.1,aQ.2.2.1,aD,aE,aF,aG.1,aO,aQ.2.2.2.1,aQ.2.2.2.2.1,aQ.2.2.2.2.2.1,aQ.2.2.2.2.2.2,aN)) else if ((decide (Z=(0:Int)))||(decide (Z=(2:Int))))=true then (xC O Z aA aB aC aD aE aG aP.1 aJ aK aL aM aN aO).bind fun aR=>some ((aR.1,aR.2.1,O.2.1,O.2.2.1,O.2.2.2.1,aR.2.2.1,aR.2.2.2.1,aR.2.2.2.2.1,aR.2.2.2.2.2.1,aR.2.2.2.2.2.2.1,aR.2.2.2.2.2.2.2.1,0,aG.1,aR.2.2.2.2.2.2.2.2.1,aR.2.2.2.2.2.2.2.2.2.1,aR.2.2.2.2.2.2.2.2.2.2.1,aR.2.2.2.2.2.2.2.2.2.2.2.1,aR.2.2.2.2.2.2.2.2.2.2.2.2.1,aR.2.2.2.2.2.2.2.2.2.2.2.2.2)) else if 0<=(0:Int)/\(0:Int)<(aP.1.length:Int) then if (decide ((qV rO aP.1 (0:Int)).2.1=([101,110,100]:pP)))=true then aJ.bind fun aS=>aL.bind fun aT=>if 0<=(1:Int)/\(1:Int)<=(aP.1.length:Int)/\(aP.1.length:Int)<=(aP.1.length:Int) then (zO O Z aA aB aC aD aE aG (sG aP.1 (1:Int) (aP.1.length:Int)) aI aS aT aN aO).bind fun aU=>some ((aU.1,O.1,aU.2.1,aU.2.2.1,aU.2.2.2.1,aU.2.2.2.2.1,aA,aB,aC,aD,aE,0,aU.2.2.2.2.2.1,aO,aU.2.2.2.2.2.2.1,(aS.length),aU.2.2.2.2.2.2.2.1,aU.2.2.2.2.2.2.2.2,aN)) else none else if 0<=(0:Int)/\(0:Int)<(aP.1.length:Int) then BQ (GY ((qV rO aP.1 (0:Int)).2.1)) fun aV=>if ((zS aV.1)||((decide (Z=(1:Int)))&&(!aV.2)))=true then some (((3:Int),O.1,O.2.1,O.2.2.1,O.2.2.2.1,Z,aA,aB,aC,aD,aE,0,aG.1,aO,aJ,aK,aL,aM,aN)) else BQ aV.1 fun aW=>if aW=some 117 then aJ.bind fun aX=>aL.bind fun aY=>if 0<=(1:Int)/\(1:Int)<=(aP.1.length:Int)/\(aP.1.length:Int)<=(aP.1.length:Int) then (DP O Z aA aB aC aD aE aG (sG aP.1 (1:Int) (aP.1.length:Int)) aX aY aN aO).bind fun aZ=>some ((aZ.1,O.1,O.2.1,O.2.2.1,O.2.2.2.1,Z,aA,aB,aC,aD,aE,aZ.2.1,aG.1,aO,(some aZ.2.2),(aZ.2.2.length),(some aY),(aY.length),aN)) else none else if aW=some 118 then aJ.bind fun bA=>aL.bind fun bB=>if 0<=(1:Int)/\(1:Int)<=(aP.1.length:Int)/\(aP.1.length:Int)<=(aP.1.length:Int) then (DS O Z aA aB aC aD aE aG (sG aP.1 (1:Int) (aP.1.length:Int)) bA bB aN aO).bind fun bC=>some ((bC.1,O.1,O.2.1,O.2.2.1,O.2.2.2.1,Z,aA,aB,aC,aD,aE,bC.2.1,aG.1,aO,(some bA),(bA.length),(some bC.2.2),(bC.2.2.length),aN)) else none else if aW=some 119 then aJ.bind fun bD=>aL.bind fun bE=>if 0<=(1:Int)/\(1:Int)<=(aP.1.length:Int)/\(aP.1.length:Int)<=(aP.1.length:Int) then (FO O Z aA aB aC aD aE aG (sG aP.1 (1:Int) (aP.1.length:Int)) bD bE aN aO).bind fun bF=>some ((bF.1,O.1,O.2.1,O.2.2.1,O.2.2.2.1,Z,aA,bF.2.1,aC,aD,aE,bF.2.2.1,aG.1,aO,(some bD),(bD.length),(some bE),(bE.length),bF.2.2.2)) else none else if aW=some 120 then aJ.bind fun bG=>aL.bind fun bH=>if 0<=(1:Int)/\(1:Int)<=(aP.1.length:Int)/\(aP.1.length:Int)<=(aP.1.length:Int) then (FP O Z aA aB aC aD aE aG (sG aP.1 (1:Int) (aP.1.length:Int)) bG bH aN aO).bind fun bI=>some ((bI.1,O.1,O.2.1,O.2.2.1,O.2.2.2.1,Z,aA,aB,bI.2.1,aD,aE,bI.2.2.1,aG.1,aO,(some bG),(bG.length),(some bH),(bH.length),bI.2.2.2)) else none else if aW=some 121 then aJ.bind fun bJ=>aL.bind fun bK=>if 0<=(1:Int)/\(1:Int)<=(aP.1.length:Int)/\(aP.1.length:Int)<=(aP.1.length:Int) then (H4 O Z aA aB aC aD aE aG (sG aP.1 (1:Int) (aP.1.length:Int)) bJ bK aN aO).bind fun bM=>some ((bM.1,O.1,O.2.1,O.2.2.1,O.2.2.2.1,Z,aA,aB,aC,aD,bM.2.1,0,aG.1,aO,(some bJ),(bJ.length),(some bK),(bK.length),bM.2.2)) else none else if aW=some 122 then aJ.bind fun bN=>aL.bind fun bO=>if 0<=(1:Int)/\(1:Int)<=(aP.1.length:Int)/\(aP.1.length:Int)<=(aP.1.length:Int) then (GZ O Z aA aB aC aD aE aG (sG aP.1 (1:Int) (aP.1.length:Int)) bN bO aN aO).bind fun bP=>some ((bP.1,O.1,O.2.1,O.2.2.1,O.2.2.2.1,Z,aA,aB,aC,bP.2.1,aE,0,aG.1,aO,(some bN),(bN.length),(some bO),(bO.length),bP.2.2)) else none else none else none else none else none
section
variable (O:pP) (Z:Int) (aA:sN) (aB:Int) (aC:pP) (aD:pP) (aE:pP) (aF:Nat) (aG:pQ) (aH:Int) (aI:Nat) (aJ:Nat) (aK:Nat) (aL:Nat) (aM:(pZ×Unit)) (aN:Nat) (aO:Nat) (aP:(Option pQ)) (aQ:Nat) (aR:(Option (List r9))) (aS:Nat) (aT:pX) (aU:pX)
abbrev ZQ:List qQ:=[(.val .ref (some (0,0)),none),(.val .str O,none),(.val (.int .i64) Z,none)]
abbrev Fj:List qP:=[.cells sV (aA,(aB,((aC,(aD,(aE,((some (3,aF)),(aG,(aH,((some (4,aI)),()))))))),((some 5),((some 6),((aJ,0,(3,aK),(4,aL)),aM)))))) [(3,1),(15,2)],.grow 45 7 aN,.grow 3 1 aO,sI 9 .str aP aQ,sI 110 rP aR aS,.map .str .bool aT,.map .str .bool aU]
@[go_sem] def ZR:r5:=⟨[aN=(aA.2.2.2.1.length),aO=(aM.1.length),aF=aQ,aI=aS,aK=aQ,aL=aS,((vC aA aB aC aD aE aG aH aJ aM O Z aP aQ aR aS aT aU)).isSome=true],[(.val (.int .i64) ((val (vC aA aB aC aD aE aG aH aJ aM O Z aP aQ aR aS aT aU)).1),none)],[.cells sV (((val (vC aA aB aC aD aE aG aH aJ aM O Z aP aQ aR aS aT aU)).2.1,((val (vC aA aB aC aD aE aG aH aJ aM O Z aP aQ aR aS aT aU)).2.2.1,((val (vC aA aB aC aD aE aG aH aJ aM O Z aP aQ aR aS aT aU)).2.2.2.1,((val (vC aA aB aC aD aE aG aH aJ aM O Z aP aQ aR aS aT aU)).2.2.2.2.1,())))),((val (vC aA aB aC aD aE aG aH aJ aM O Z aP aQ aR aS aT aU)).2.2.2.2.2.1,(((val (vC aA aB aC aD aE aG aH aJ aM O Z aP aQ aR aS aT aU)).2.2.2.2.2.2.1,((val (vC aA aB aC aD aE aG aH aJ aM O Z aP aQ aR aS aT aU)).2.2.2.2.2.2.2.1,((val (vC aA aB aC aD aE aG aH aJ aM O Z aP aQ aR aS aT aU)).2.2.2.2.2.2.2.2.1,((some (7,(val (vC aA aB aC aD aE aG aH aJ aM O Z aP aQ aR aS aT aU)).2.2.2.2.2.2.2.2.2.2.2.2.2.2.2.1)),((val (vC aA aB aC aD aE aG aH aJ aM O Z aP aQ aR aS aT aU)).2.2.2.2.2.2.2.2.2.1,((val (vC aA aB aC aD aE aG aH aJ aM O Z aP aQ aR aS aT aU)).2.2.2.2.2.2.2.2.2.2.1,((some (8,(val (vC aA aB aC aD aE aG aH aJ aM O Z aP aQ aR aS aT aU)).2.2.2.2.2.2.2.2.2.2.2.2.2.2.2.2.2.1)),()))))))),((some 9),((some 6),(((val (vC aA aB aC aD aE aG aH aJ aM O Z aP aQ aR aS aT aU)).2.2.2.2.2.2.2.2.2.2.2.1,0,(7,(val (vC aA aB aC aD aE aG aH aJ aM O Z aP aQ aR aS aT aU)).2.2.2.2.2.2.2.2.2.2.2.2.2.2.2.1),(8,(val (vC aA aB aC aD aE aG aH aJ aM O Z aP aQ aR aS aT aU)).2.2.2.2.2.2.2.2.2.2.2.2.2.2.2.2.2.1)),((val (vC aA aB aC aD aE aG aH aJ aM O Z aP aQ aR aS aT aU)).2.2.2.2.2.2.2.2.2.2.2.2.1,()))))))) [(3,1),(15,2)],.grow 45 7 (((val (vC aA aB aC aD aE aG aH aJ aM O Z aP aQ aR aS aT aU)).2.2.2.2.1).length),.grow 3 1 (((val (vC aA aB aC aD aE aG aH aJ aM O Z aP aQ aR aS aT aU)).2.2.2.2.2.2.2.2.2.2.2.2.1).length),.dead,.dead,.dead,.map .str .bool ((val (vC aA aB aC aD aE aG aH aJ aM O Z aP aQ aR aS aT aU)).2.2.2.2.2.2.2.2.2.2.2.2.2.1),sI 9 .str ((val (vC aA aB aC aD aE aG aH aJ aM O Z aP aQ aR aS aT aU)).2.2.2.2.2.2.2.2.2.2.2.2.2.2.1) ((val (vC aA aB aC aD aE aG aH aJ aM O Z aP aQ aR aS aT aU)).2.2.2.2.2.2.2.2.2.2.2.2.2.2.2.1),sI 110 rP ((val (vC aA aB aC aD aE aG aH aJ aM O Z aP aQ aR aS aT aU)).2.2.2.2.2.2.2.2.2.2.2.2.2.2.2.2.1) ((val (vC aA aB aC aD aE aG aH aJ aM O Z aP aQ aR aS aT aU)).2.2.2.2.2.2.2.2.2.2.2.2.2.2.2.2.2.1),.map .str .bool ((val (vC aA aB aC aD aE aG aH aJ aM O Z aP aQ aR aS aT aU)).2.2.2.2.2.2.2.2.2.2.2.2.2.2.2.2.2.2)]⟩
def Fk:List qQ->List qP->Option r5:=s9 (V:=(pP×Int×sN×Int×pP×pP×pP×Nat×pQ×Int×Nat×Nat×Nat×Nat×(pZ×Unit)×Nat×Nat×(Option pQ)×Nat×(Option (List r9))×Nat×pX×pX)) (fun x=>ZQ x.1 x.2.1) (fun(_,_,c,d,e,f,g,h,i,j,k,l,n,o,t,u,w,x,y,z,A,B,C)=>Fj c d e f g h i j k l n o t u w x y z A B C) fun(a,b,c,d,e,f,g,h,i,j,k,l,n,o,t,u,w,x,y,z,A,B,C)=>ZR a b c d e f g h i j k l n o t u w x y z A B C
@[go_sem] def a9q:Fk (no_index (ZQ O Z)) (no_index (Fj aA aB aC aD aE aF aG aH aI aJ aK aL aM aN aO aP aQ aR aS aT aU))=some (ZR O Z aA aB aC aD aE aF aG aH aI aJ aK aL aM aN aO aP aQ aR aS aT aU):=sB (fun⟨a0,a1,a2,a3,a4,a5,a6,a7,a8,a9,a10,a11,a12,a13,a14,a15,a16,a17,a18,a19,a20,a21,a22⟩ ⟨b0,b1,b2,b3,b4,b5,b6,b7,b8,b9,b10,b11,b12,b13,b14,b15,b16,b17,b18,b19,b20,b21,b22⟩ h1 h2=>by cases h1;injection h2 with p0 h2;injection h2 with p1 h2;injection h2 with p2 h2;injection h2 with p3 h2;injection h2 with p4 h2;injection h2 with p5 h2;injection h2 with p6 h2;obtain⟨q3,r3⟩:=B5 p3;cases q3;cases r3;obtain⟨q4,r4⟩:=B5 p4;cases q4;cases r4;cases p0;cases p1;cases p2;cases p5;cases p6;rfl) (O,Z,aA,aB,aC,aD,aE,aF,aG,aH,aI,aJ,aK,aL,aM,aN,aO,aP,aQ,aR,aS,aT,aU)
end
@[go_sem] def aFG (O:pP) (Z:Int) (aA:sN) (aB:Int) (aC:pP) (aD:pP) (aE:pP) (aF:Nat) (aG:pQ) (aH:Int) (aI:Nat) (aJ:Nat) (aK:Nat) (aL:Nat) (aM:(pZ×Unit)) (aN:Nat) (aO:Nat) (aP:pQ) (aQ:Nat) (aR:List r9) (aS:Nat) (aT:pX) (aU:pX):Fk (no_index (ZQ O Z)) (no_index ([.cells sV (aA,(aB,((aC,(aD,(aE,((some (3,aF)),(aG,(aH,((some (4,aI)),()))))))),((some 5),((some 6),((aJ,0,(3,aK),(4,aL)),aM)))))) [(3,1),(15,2)],.grow 45 7 aN,.grow 3 1 aO,.row 9 .str aP aQ,.row 110 rP aR aS,.map .str .bool aT,.map .str .bool aU]:List qP))=some (ZR O Z aA aB aC aD aE aF aG aH aI aJ aK aL aM aN aO (some aP) aQ (some aR) aS aT aU):=a9q O Z aA aB aC aD aE aF aG aH aI aJ aK aL aM aN aO (some aP) aQ (some aR) aS aT aU
@[go_sem] abbrev TY:Nat×rM:=(56,⟨[.p sV [3,15],.v,.v],Fk,[(0,8,.r),(0,11,.r),(0,12,.m),(0,13,.m)],[],none⟩)
def a0F:rJ prog [] (rK [C7,Bi,zb,BY,BV,BW,C5,C0,C1,C2,BX]):=⟨trivial,r7 O4 (r7 a86 (r7 a8S (r7 NO (r7 NJ (r7 NK (r7 NZ (r7 NV (r7 NW (r7 NY (r7 NM rZ)))))))))),rL⟩
def zH:rJ prog [vG,wP,sS,BU,vM,xB,wY,IP] (rK [C7,Bi,zb,BY,BV,BW,C5,C0,C1,C2,BX]):=⟨⟨vR,⟨xA,⟨sU,⟨DH,⟨vY,⟨yA,⟨xN,⟨NC,trivial⟩⟩⟩⟩⟩⟩⟩⟩,a0F.Γ,rL⟩
def a0G:rS prog TY:=by
 refine sC a0F func56 (c:=_) rfl (N:=81) qH (ts:=[(6,none)]) rfl (fun _ _=>rfl) ?_ (h3:=by intro _;repeat (first|exact trivial|refine KG rfl ?_ |refine ⟨rfl,?_⟩))
 intro⟨O,Z,aA,aB,aC,aD,aE,aF,aG,aH,aI,aJ,aK,aL,aM,aN,aO,aP,aQ,aR,aS,aT,aU⟩ hs hrow;dsimp only[ZQ,Fj,ZR,s7,rC,rI,rN,s8,Nat.reduceAdd] at hs hrow|-;obtain⟨rfl,rfl,hps2,hps3,hps4,hps5,hz⟩:=hs;obtain rfl:=hps2.symm;obtain rfl:=hps3.symm;obtain rfl:=hps4.symm;obtain rfl:=hps5.symm;obtain⟨z0,d⟩:=aFS.1 hz
 try rw[sH d]
 clear hz;unfold vC at d;refine qO zH ?_;obtain⟨aV,hv1,hw1,d⟩:=rW d
 try simp only[go_sem] at hw1
 refine qO zH ?_ (hp:=by exact(rV hv1)) (h:=by simp only[go_sem,hw1];rfl);refine qY (sF (qO zH ?_));refine r8 d ?_ ?_<;>intro d Y
 .refine qO zH ?_;refine qZ (sD (rG ?_));cases d;exact pS [(0,0),(1,1),(2,2),(6,6),(7,3),(8,4),(9,5)]
 obtain⟨X,d⟩:=qT d;refine qO zH ?_ (hp:=by exact X);refine r8 d ?_ ?_<;>intro d Y
 .obtain⟨aW,hv3,hw3,d⟩:=rW d
  try simp only[go_sem] at hw3
  refine qO zH ?_ (hp:=by exact⟨qG,qG,qG,qG,qG,qG,qG,qG,qG,qG,(rV hv3)⟩) (h:=by simp only[go_sem,hw3];rfl)
  refine qZ (sD (rG ?_));cases d;exact pS [(0,0),(1,1),(2,2),(6,6),(7,3),(8,4),(9,5)]
 refine rF (sM (qW (qO zH ?_)));refine qY (qO zH ?_ (hp:=by exact⟨id,id,id,id,tK⟩));refine r8 d ?_ ?_<;>intro d Y
 .refine qY (A0 0 (0,(3,aQ),(4,aS)) (x2:=(aA,(aB,((aC,(aD,(aE,((some (3,aQ)),(aG,(aH,((some (4,aS)),()))))))),((some 5),((some 6),((0,0,(3,aQ),(4,aS)),aM))))))) rfl qJ ?_)
  obtain⟨aX,hv4,hw4,d⟩:=rW d
  try simp only[go_sem] at hw4
  refine rT zH ?_ (hp:=by exact⟨qG,qG,qG,qG,qG,qG,qG,qG,(rV hv4)⟩) (h:=by simp only[go_sem,hw4];rfl)
  refine qW (qZ (rG ?_));cases d;exact pS [(0,0),(1,1),(2,2),(6,6),(7,1102),(8,1103),(9,1104)]
 refine rF (qW (qY ?_));obtain⟨W,d⟩:=qT d;refine qO zH ?_ (hp:=by exact W);refine r8 d ?_ ?_<;>intro d Y
 .refine qY (A0 0 (0,(3,aQ),(4,aS)) (x2:=(aA,(aB,((aC,(aD,(aE,((some (3,aQ)),(aG,(aH,((some (4,aS)),()))))))),((some 5),((some 6),((0,0,(3,aQ),(4,aS)),aM))))))) rfl qJ ?_)
  obtain⟨aY,hal6,hAhal6⟩:=B6 d;subst hal6;obtain⟨aZ,hal7,hAhal7⟩:=B6 hAhal6;subst hal7;rw[show sI 9 .str (some aY:Option pQ) aQ= .row 9 .str aY aQ from rfl];rw[show sI 110 rP (some aZ:Option (List r9)) aS= .row 110 rP aZ aS from rfl];refine B7 3 rfl fun hln=>?_;subst hln;refine B7 4 rfl fun hln=>?_;subst hln;have d:=hAhal7;obtain⟨V,d⟩:=qT d;obtain⟨bA,hv9,hw9,d⟩:=rW d
  try simp only[go_sem] at hw9
  refine rT zH ?_ (hp:=by exact⟨V,qG,qG,qG,qG,qG,qG,qG,qG,(rV hv9)⟩) (h:=by simp only[go_sem,hw9];rfl)
  refine qW (qZ (rG ?_));cases d;exact pS [(0,0),(1,1),(2,2),(6,6),(7,3),(8,1326),(9,5)]
 refine rF (qW ?_);obtain⟨U,d⟩:=qT d;obtain⟨bB,hw_89,d⟩:=SL d
 try simp only[go_sem] at hw_89
 refine qO zH ?_ (hp:=by exact U) (h:=by simp only[go_sem,hw_89];rfl);refine qY (qO zH ?_ (hp:=by exact⟨id,id,id,id,id,id,id,fun hG e=>GN hG e,tK⟩));refine r8 d ?_ ?_<;>intro d Y
 .refine qO zH ?_;refine A0 0 (0,(3,aQ),(4,aS)) (x2:=(aA,(aB,((aC,(aD,(aE,((some (3,aQ)),(aG,(aH,((some (4,aS)),()))))))),((some 5),((some 6),((0,0,(3,aQ),(4,aS)),aM))))))) rfl qJ ?_
  refine qZ (rG ?_);cases d;exact pS [(0,0),(1,1),(2,2),(6,6),(7,3),(8,4),(9,5)]
 refine rF (qW (qY ?_));replace d:=lj d;generalize bB.1=bC at d|-;by_cases hfn:bC=some 117
 .subst hfn;rw[aFP rfl] at d;refine A0 0 (0,(3,aQ),(4,aS)) (x2:=(aA,(aB,((aC,(aD,(aE,((some (3,aQ)),(aG,(aH,((some (4,aS)),()))))))),((some 5),((some 6),((0,0,(3,aQ),(4,aS)),aM))))))) rfl qJ ?_
  obtain⟨bD,hal11,hAhal11⟩:=B6 d;subst hal11;obtain⟨bE,hal12,hAhal12⟩:=B6 hAhal11;subst hal12;rw[show sI 9 .str (some bD:Option pQ) aQ= .row 9 .str bD aQ from rfl];rw[show sI 110 rP (some bE:Option (List r9)) aS= .row 110 rP bE aS from rfl];refine B7 3 rfl fun hln=>?_;subst hln;refine B7 4 rfl fun hln=>?_;subst hln;have d:=hAhal12;obtain⟨T,d⟩:=qT d;obtain⟨bF,hv14,hw14,d⟩:=rW d
  try simp only[go_sem] at hw14
  refine rT zH ?_ (hp:=by exact⟨T,qG,qG,qG,qG,qG,qG,qG,qG,qG,qG,qG,(rV hv14)⟩) (h:=by simp only[go_sem,hw14];rfl)
  refine qW (qZ ?_);cases d;exact pS [(0,0),(1,1),(2,2),(6,6),(7,3),(8,4),(9,5)]
 rw[aFQ hfn] at d;clear hfn;by_cases hfn:bC=some 118
 .subst hfn;rw[aFP rfl] at d;refine A0 0 (0,(3,aQ),(4,aS)) (x2:=(aA,(aB,((aC,(aD,(aE,((some (3,aQ)),(aG,(aH,((some (4,aS)),()))))))),((some 5),((some 6),((0,0,(3,aQ),(4,aS)),aM))))))) rfl qJ ?_
  obtain⟨bG,hal15,hAhal15⟩:=B6 d;subst hal15;obtain⟨bH,hal16,hAhal16⟩:=B6 hAhal15;subst hal16;rw[show sI 9 .str (some bG:Option pQ) aQ= .row 9 .str bG aQ from rfl];rw[show sI 110 rP (some bH:Option (List r9)) aS= .row 110 rP bH aS from rfl];refine B7 3 rfl fun hln=>?_;subst hln;refine B7 4 rfl fun hln=>?_;subst hln;have d:=hAhal16;obtain⟨S,d⟩:=qT d;obtain⟨bI,hv18,hw18,d⟩:=rW d
  try simp only[go_sem] at hw18
  refine rT zH ?_ (hp:=by exact⟨S,qG,qG,qG,qG,qG,qG,qG,qG,qG,qG,qG,(rV hv18)⟩) (h:=by simp only[go_sem,hw18];rfl)
  refine qW (qZ ?_);cases d;exact pS [(0,0),(1,1),(2,2),(6,6),(7,3),(8,4),(9,5)]
 rw[aFQ hfn] at d;clear hfn;by_cases hfn:bC=some 119
 .subst hfn;rw[aFP rfl] at d;refine A0 0 (0,(3,aQ),(4,aS)) (x2:=(aA,(aB,((aC,(aD,(aE,((some (3,aQ)),(aG,(aH,((some (4,aS)),()))))))),((some 5),((some 6),((0,0,(3,aQ),(4,aS)),aM))))))) rfl qJ ?_
  obtain⟨bJ,hal19,hAhal19⟩:=B6 d;subst hal19;obtain⟨bK,hal20,hAhal20⟩:=B6 hAhal19;subst hal20;rw[show sI 9 .str (some bJ:Option pQ) aQ= .row 9 .str bJ aQ from rfl];rw[show sI 110 rP (some bK:Option (List r9)) aS= .row 110 rP bK aS from rfl];refine B7 3 rfl fun hln=>?_;subst hln;refine B7 4 rfl fun hln=>?_;subst hln;have d:=hAhal20;obtain⟨R,d⟩:=qT d;obtain⟨bM,hv22,hw22,d⟩:=rW d
  try simp only[go_sem] at hw22
  refine rT zH ?_ (hp:=by exact⟨R,qG,qG,qG,qG,qG,qG,qG,qG,qG,qG,qG,(rV hv22)⟩) (h:=by simp only[go_sem,hw22];rfl)
  refine qW (qZ ?_);cases d;exact pS [(0,0),(1,1),(2,2),(6,6),(7,3),(8,4),(9,5)]
 rw[aFQ hfn] at d;clear hfn;by_cases hfn:bC=some 120
 .subst hfn;rw[aFP rfl] at d;refine A0 0 (0,(3,aQ),(4,aS)) (x2:=(aA,(aB,((aC,(aD,(aE,((some (3,aQ)),(aG,(aH,((some (4,aS)),()))))))),((some 5),((some 6),((0,0,(3,aQ),(4,aS)),aM))))))) rfl qJ ?_
  obtain⟨bN,hal23,hAhal23⟩:=B6 d;subst hal23;obtain⟨bO,hal24,hAhal24⟩:=B6 hAhal23;subst hal24;rw[show sI 9 .str (some bN:Option pQ) aQ= .row 9 .str bN aQ from rfl];rw[show sI 110 rP (some bO:Option (List r9)) aS= .row 110 rP bO aS from rfl];refine B7 3 rfl fun hln=>?_;subst hln;refine B7 4 rfl fun hln=>?_;subst hln;have d:=hAhal24;obtain⟨Q,d⟩:=qT d;obtain⟨bP,hv26,hw26,d⟩:=rW d
  try simp only[go_sem] at hw26
  refine rT zH ?_ (hp:=by exact⟨Q,qG,qG,qG,qG,qG,qG,qG,qG,qG,qG,qG,(rV hv26)⟩) (h:=by simp only[go_sem,hw26];rfl)
  refine qW (qZ ?_);cases d;exact pS [(0,0),(1,1),(2,2),(6,6),(7,3),(8,4),(9,5)]
 rw[aFQ hfn] at d;clear hfn;by_cases hfn:bC=some 121
 .subst hfn;rw[aFP rfl] at d;refine A0 0 (0,(3,aQ),(4,aS)) (x2:=(aA,(aB,((aC,(aD,(aE,((some (3,aQ)),(aG,(aH,((some (4,aS)),()))))))),((some 5),((some 6),((0,0,(3,aQ),(4,aS)),aM))))))) rfl qJ ?_
  obtain⟨bQ,hal27,hAhal27⟩:=B6 d;subst hal27;obtain⟨bR,hal28,hAhal28⟩:=B6 hAhal27;subst hal28;rw[show sI 9 .str (some bQ:Option pQ) aQ= .row 9 .str bQ aQ from rfl];rw[show sI 110 rP (some bR:Option (List r9)) aS= .row 110 rP bR aS from rfl];refine B7 3 rfl fun hln=>?_;subst hln;refine B7 4 rfl fun hln=>?_;subst hln;have d:=hAhal28;obtain⟨P,d⟩:=qT d;obtain⟨bS,hv30,hw30,d⟩:=rW d
  try simp only[go_sem] at hw30
  refine rT zH ?_ (hp:=by exact⟨P,qG,qG,qG,qG,qG,qG,qG,qG,qG,qG,qG,(rV hv30)⟩) (h:=by simp only[go_sem,hw30];rfl)
  refine qW (qZ ?_);cases d;exact pS [(0,0),(1,1),(2,2),(6,6),(7,3),(8,4),(9,5)]
 rw[aFQ hfn] at d;clear hfn;by_cases hfn:bC=some 122
 .subst hfn;rw[aFP rfl] at d;refine A0 0 (0,(3,aQ),(4,aS)) (x2:=(aA,(aB,((aC,(aD,(aE,((some (3,aQ)),(aG,(aH,((some (4,aS)),()))))))),((some 5),((some 6),((0,0,(3,aQ),(4,aS)),aM))))))) rfl qJ ?_
  obtain⟨bT,hal31,hAhal31⟩:=B6 d;subst hal31;obtain⟨bU,hal32,hAhal32⟩:=B6 hAhal31;subst hal32;rw[show sI 9 .str (some bT:Option pQ) aQ= .row 9 .str bT aQ from rfl];rw[show sI 110 rP (some bU:Option (List r9)) aS= .row 110 rP bU aS from rfl];refine B7 3 rfl fun hln=>?_;subst hln;refine B7 4 rfl fun hln=>?_;subst hln;have d:=hAhal32;obtain⟨M,d⟩:=qT d;obtain⟨bV,hv34,hw34,d⟩:=rW d
  try simp only[go_sem] at hw34
  refine rT zH ?_ (hp:=by exact⟨M,qG,qG,qG,qG,qG,qG,qG,qG,qG,qG,qG,(rV hv34)⟩) (h:=by simp only[go_sem,hw34];rfl)
  refine qW (qZ ?_);cases d;exact pS [(0,0),(1,1),(2,2),(6,6),(7,3),(8,4),(9,5)]
 rw[aFQ hfn] at d;clear hfn;cases d
attribute [irreducible] vC
end
noncomputable section
def A5 (O:sN) (Z:Int) (aA:pP) (aB:pP) (aC:pP) (aD:pQ) (aE:Int) (aF:(pZ×Unit)) (aG:pP) (aH:Int) (aI:(Option pQ)) (aJ:Nat) (aK:(Option (List r9))) (aL:Nat) (aM:pX):Option (pP×Int×pP×pX):=(FT aG).bind fun aN=>if (!aN.2)=true then none else if 0<=(0:Int)/\(0:Int)<(aN.1.length:Int) then if (qV rO aN.1 (0:Int)).1=true then (NS O Z aA aB aC aD aE aF aN.1 aI aJ aK aL aM).bind fun aO=>none else if ((decide (Z=(0:Int)))||(decide (Z=(2:Int))))=true then if ((BZ O Z aA aB aC aD aE aF aN.1 aI aJ aK aL aM)).isSome=true then (BZ O Z aA aB aC aD aE aF aN.1 aI aJ aK aL aM).bind fun aP=>some ((aP.1,aP.2.1,aP.2.2.1,aP.2.2.2)) else (KY O Z aA aB aC aD aE aF aN.1 aI aJ aK aL aM).bind fun aQ=>none else if 0<=(0:Int)/\(0:Int)<(aN.1.length:Int) then if (decide ((qV rO aN.1 (0:Int)).2.1=([101,110,100]:pP)))=true then none else if 0<=(0:Int)/\(0:Int)<(aN.1.length:Int) then BQ (GY ((qV rO aN.1 (0:Int)).2.1)) fun aR=>if ((zS aR.1)||((decide (Z=(1:Int)))&&(!aR.2)))=true then none else BQ aR.1 fun aS=>if aS=some 117 then none else if aS=some 118 then none else if aS=some 119 then none else if aS=some 120 then none else if aS=some 121 then none else if aS=some 122 then none else none else none else none else none
section
variable (O:pP) (Z:Int) (aA:sN) (aB:Int) (aC:pP) (aD:pP) (aE:pP) (aF:Nat) (aG:pQ) (aH:Int) (aI:Nat) (aJ:Nat) (aK:Nat) (aL:(pZ×Unit)) (aM:Nat) (aN:Nat) (aO:(Option pQ)) (aP:Nat) (aQ:(Option (List r9))) (aR:Nat) (aS:pX)
abbrev ZS:List qQ:=[(.val .ref (some (0,0)),none),(.val .str O,none),(.val (.int .i64) Z,none)]
abbrev Fl:List qP:=[.cells sV (aA,(aB,((aC,(aD,(aE,((some (3,aF)),(aG,(aH,((some (4,aI)),()))))))),(none,((some 5),((0,0,(3,aJ),(4,aK)),aL)))))) [(3,1),(15,2)],.grow 45 7 aM,.grow 3 1 aN,sI 9 .str aO aP,sI 110 rP aQ aR,.map .str .bool aS]
@[go_sem] def ZT:r5:=⟨[aM=(aA.2.2.2.1.length),aN=(aL.1.length),aF=aP,aI=aR,aJ=aP,aK=aR,((A5 aA aB aC aD aE aG aH aL O Z aO aP aQ aR aS)).isSome=true],[(.val (.int .i64) (0:Int),none)],[.cells sV (((val (A5 aA aB aC aD aE aG aH aL O Z aO aP aQ aR aS)).1,(aA.2.1,(aA.2.2.1,(aA.2.2.2.1,())))),((val (A5 aA aB aC aD aE aG aH aL O Z aO aP aQ aR aS)).2.1,(((val (A5 aA aB aC aD aE aG aH aL O Z aO aP aQ aR aS)).2.2.1,(([]:pP),(([]:pP),((some (6,0)),(([]:pQ),((0:Int),((some (7,0)),()))))))),((some 8),((some 5),((0,0,(6,0),(7,0)),(aL.1,()))))))) [(3,1),(9,9),(15,2)],.grow 45 7 (aA.2.2.2.1.length),.grow 3 1 (aL.1.length),sI 9 .str aO aP,sI 110 rP aQ aR,.map .str .bool ((val (A5 aA aB aC aD aE aG aH aL O Z aO aP aQ aR aS)).2.2.2),.row 9 .str ([]:pQ) 0,.row 110 rP ([]:List r9) 0,.map .str .bool ([]:pX),.grow 9 1 (([]:pQ).length)]⟩
def Fm:List qQ->List qP->Option r5:=s9 (V:=(pP×Int×sN×Int×pP×pP×pP×Nat×pQ×Int×Nat×Nat×Nat×(pZ×Unit)×Nat×Nat×(Option pQ)×Nat×(Option (List r9))×Nat×pX)) (fun x=>ZS x.1 x.2.1) (fun(_,_,c,d,e,f,g,h,i,j,k,l,n,o,t,u,w,x,y,z,A)=>Fl c d e f g h i j k l n o t u w x y z A) fun(a,b,c,d,e,f,g,h,i,j,k,l,n,o,t,u,w,x,y,z,A)=>ZT a b c d e f g h i j k l n o t u w x y z A
@[go_sem] def a9r:Fm (no_index (ZS O Z)) (no_index (Fl aA aB aC aD aE aF aG aH aI aJ aK aL aM aN aO aP aQ aR aS))=some (ZT O Z aA aB aC aD aE aF aG aH aI aJ aK aL aM aN aO aP aQ aR aS):=sB (fun⟨a0,a1,a2,a3,a4,a5,a6,a7,a8,a9,a10,a11,a12,a13,a14,a15,a16,a17,a18,a19,a20⟩ ⟨b0,b1,b2,b3,b4,b5,b6,b7,b8,b9,b10,b11,b12,b13,b14,b15,b16,b17,b18,b19,b20⟩ h1 h2=>by cases h1;injection h2 with p0 h2;injection h2 with p1 h2;injection h2 with p2 h2;injection h2 with p3 h2;injection h2 with p4 h2;injection h2 with p5 h2;obtain⟨q3,r3⟩:=B5 p3;cases q3;cases r3;obtain⟨q4,r4⟩:=B5 p4;cases q4;cases r4;cases p0;cases p1;cases p2;cases p5;rfl) (O,Z,aA,aB,aC,aD,aE,aF,aG,aH,aI,aJ,aK,aL,aM,aN,aO,aP,aQ,aR,aS)
end
@[go_sem] def aFH (O:pP) (Z:Int) (aA:sN) (aB:Int) (aC:pP) (aD:pP) (aE:pP) (aF:Nat) (aG:pQ) (aH:Int) (aI:Nat) (aJ:Nat) (aK:Nat) (aL:(pZ×Unit)) (aM:Nat) (aN:Nat) (aO:pQ) (aP:Nat) (aQ:List r9) (aR:Nat) (aS:pX):Fm (no_index (ZS O Z)) (no_index ([.cells sV (aA,(aB,((aC,(aD,(aE,((some (3,aF)),(aG,(aH,((some (4,aI)),()))))))),(none,((some 5),((0,0,(3,aJ),(4,aK)),aL)))))) [(3,1),(15,2)],.grow 45 7 aM,.grow 3 1 aN,.row 9 .str aO aP,.row 110 rP aQ aR,.map .str .bool aS]:List qP))=some (ZT O Z aA aB aC aD aE aF aG aH aI aJ aK aL aM aN (some aO) aP (some aQ) aR aS):=a9r O Z aA aB aC aD aE aF aG aH aI aJ aK aL aM aN (some aO) aP (some aQ) aR aS
@[go_sem] abbrev TZ:Nat×rM:=(56,⟨[.p sV [3,15],.v,.v],Fm,[(0,8,.r),(0,11,.r),(0,13,.m)],[1,2,3,4],none⟩)
def a0H:rJ prog [] (rK [C7,DQ,J2,BY,BV,BW,C5,C0,C1,C2,BX]):=⟨trivial,r7 O4 (r7 Q4 (r7 ZG (r7 NO (r7 NJ (r7 NK (r7 NZ (r7 NV (r7 NW (r7 NY (r7 NM rZ)))))))))),rL⟩
def FV:rJ prog [vG,wP,sS,BU,vM,xB,wY,IP] (rK [C7,DQ,J2,BY,BV,BW,C5,C0,C1,C2,BX]):=⟨⟨vR,⟨xA,⟨sU,⟨DH,⟨vY,⟨yA,⟨xN,⟨NC,trivial⟩⟩⟩⟩⟩⟩⟩⟩,a0H.Γ,rL⟩
def a9s:rJ prog [] (rK [C7,DQ,J2,BY,BV,BW,C5,C0,C1,C2,BX]):=⟨trivial,r7 O4 (r7 Q4 (r7 ZG (r7 NO (r7 NJ (r7 NK (r7 NZ (r7 NV (r7 NW (r7 NY (r7 NM rZ)))))))))),rL⟩
def a0I:rJ prog [vG,wP,sS,BU,vM,xB,wY,IP] (rK [C7,DQ,J2,BY,BV,BW,C5,C0,C1,C2,BX]):=⟨⟨vR,⟨xA,⟨sU,⟨DH,⟨vY,⟨yA,⟨xN,⟨NC,trivial⟩⟩⟩⟩⟩⟩⟩⟩,a9s.Γ,rL⟩
def a9t:rJ prog [] (rK [C7,DQ,TH,BY,BV,BW,C5,C0,C1,C2,BX]):=⟨trivial,r7 O4 (r7 Q4 (r7 Ye (r7 NO (r7 NJ (r7 NK (r7 NZ (r7 NV (r7 NW (r7 NY (r7 NM rZ)))))))))),rL⟩
def a9u:rJ prog [vG,wP,sS,BU,vM,xB,wY,IP] (rK [C7,DQ,TH,BY,BV,BW,C5,C0,C1,C2,BX]):=⟨⟨vR,⟨xA,⟨sU,⟨DH,⟨vY,⟨yA,⟨xN,⟨NC,trivial⟩⟩⟩⟩⟩⟩⟩⟩,a9t.Γ,rL⟩
def a0J:rS prog TZ:=by
 refine sC a0H func56 (c:=_) rfl (N:=81) qH (ts:=[(6,none)]) rfl (fun _ _=>rfl) ?_ (h3:=by intro _;repeat (first|exact trivial|refine KG rfl ?_ |refine ⟨rfl,?_⟩))
 intro⟨O,Z,aA,aB,aC,aD,aE,aF,aG,aH,aI,aJ,aK,aL,aM,aN,aO,aP,aQ,aR,aS⟩ hs hrow;dsimp only[ZS,Fl,ZT,s7,rC,rI,rN,s8,Nat.reduceAdd] at hs hrow|-;obtain⟨rfl,rfl,hps2,hps3,hps4,hps5,hz⟩:=hs;obtain rfl:=hps2.symm;obtain rfl:=hps3.symm;obtain rfl:=hps4.symm;obtain rfl:=hps5.symm;obtain⟨z0,d⟩:=aFS.1 hz
 try rw[sH d]
 clear hz;unfold A5 at d;refine qO FV ?_;obtain⟨aT,hv1,hw1,d⟩:=rW d
 try simp only[go_sem] at hw1
 refine qO FV ?_ (hp:=by exact(rV hv1)) (h:=by simp only[go_sem,hw1];rfl);refine qY (sF (qO FV ?_));refine r8 d ?_ ?_<;>intro d Y
 .refine qY (rT FV ?_);cases d
 obtain⟨X,d⟩:=qT d;refine qO FV ?_ (hp:=by exact X);refine r8 d ?_ ?_<;>intro d Y
 .refine qY ?_;obtain⟨aU,hv3,hw3,d⟩:=rW d
  try simp only[go_sem] at hw3
  refine rT a0I ?_ (hp:=by exact⟨qG,qG,qG,qG,qG,qG,qG,qG,qG,qG,qG,(rV hv3)⟩) (h:=by simp only[go_sem,hw3];rfl)
  cases d
 refine rF (sM (qW (qO FV ?_)));refine qY (qO FV ?_ (hp:=by exact⟨id,id,id,id,tK⟩));refine r8 d ?_ ?_<;>intro d Y
 .refine qY (A0 0 (0,(3,aP),(4,aR)) (x2:=(aA,(aB,((aC,(aD,(aE,((some (3,aP)),(aG,(aH,((some (4,aR)),()))))))),(none,((some 5),((0,0,(3,aP),(4,aR)),aL))))))) rfl qJ ?_)
  by_cases hva4:((BZ aA aB aC aD aE aG aH aL aT.1 aO aP aQ aR aS)).isSome=true
  .rw[aFP hva4] at d;obtain⟨aV,hv4,hw4,d⟩:=rW d
   try simp only[go_sem] at hw4
   refine rT a0I ?_ (hp:=by exact⟨qG,qG,qG,qG,qG,qG,qG,qG,qG,qG,(rV hv4)⟩) (h:=by simp only[go_sem,hw4];rfl)
   refine qW (qZ (rG ?_));cases d;exact pS [(0,0),(1,1),(2,2),(3,3),(4,4),(5,5),(6,1100),(7,1101),(8,1102),(9,1103)]
  rw[aFQ hva4] at d;obtain⟨aW,hv5,hw5,d⟩:=rW d
  try simp only[go_sem] at hw5
  refine rT a9u ?_ (hp:=by exact⟨qG,qG,qG,qG,qG,qG,qG,qG,qG,qG,qG,(rV hv5)⟩) (h:=by simp only[go_sem,hw5];rfl)
  cases d
 refine rF (qW (qY ?_));obtain⟨W,d⟩:=qT d;refine qO FV ?_ (hp:=by exact W);refine r8 d ?_ ?_<;>intro d Y
 .cases d
 refine rF (qW ?_);obtain⟨V,d⟩:=qT d;obtain⟨aX,hw_46,d⟩:=SL d
 try simp only[go_sem] at hw_46
 refine qO FV ?_ (hp:=by exact V) (h:=by simp only[go_sem,hw_46];rfl);refine qY (qO FV ?_ (hp:=by exact⟨id,id,id,id,id,id,id,fun hG e=>GN hG e,tK⟩));refine r8 d ?_ ?_<;>intro d Y
 .refine qY (rT FV ?_);cases d
 refine rF (qW (qY ?_));replace d:=lj d;generalize aX.1=aY at d|-;by_cases hfn:aY=some 117
 .subst hfn;rw[aFP rfl] at d;cases d
 rw[aFQ hfn] at d;clear hfn;by_cases hfn:aY=some 118
 .subst hfn;rw[aFP rfl] at d;cases d
 rw[aFQ hfn] at d;clear hfn;by_cases hfn:aY=some 119
 .subst hfn;rw[aFP rfl] at d;cases d
 rw[aFQ hfn] at d;clear hfn;by_cases hfn:aY=some 120
 .subst hfn;rw[aFP rfl] at d;cases d
 rw[aFQ hfn] at d;clear hfn;by_cases hfn:aY=some 121
 .subst hfn;rw[aFP rfl] at d;cases d
 rw[aFQ hfn] at d;clear hfn;by_cases hfn:aY=some 122
 .subst hfn;rw[aFP rfl] at d;cases d
 rw[aFQ hfn] at d;clear hfn;cases d
attribute [irreducible] A5
end
noncomputable section
def HC (O:sN) (Z:Int) (aA:pP) (aB:pP) (aC:pP) (aD:pQ) (aE:Int) (aF:(pZ×Unit)) (aG:pP) (aH:Int) (aI:(Option pQ)) (aJ:Nat) (aK:(Option (List r9))) (aL:Nat) (aM:pX):Option Int:=(FT aG).bind fun aN=>if (!aN.2)=true then some ((3:Int)) else if 0<=(0:Int)/\(0:Int)<(aN.1.length:Int) then if (qV rO aN.1 (0:Int)).1=true then (NS O Z aA aB aC aD aE aF aN.1 aI aJ aK aL aM).bind fun aO=>some (aO) else if ((decide (Z=(0:Int)))||(decide (Z=(2:Int))))=true then if ((BZ O Z aA aB aC aD aE aF aN.1 aI aJ aK aL aM)).isSome=true then (BZ O Z aA aB aC aD aE aF aN.1 aI aJ aK aL aM).bind fun aP=>none else (KY O Z aA aB aC aD aE aF aN.1 aI aJ aK aL aM).bind fun aQ=>some (aQ) else if 0<=(0:Int)/\(0:Int)<(aN.1.length:Int) then if (decide ((qV rO aN.1 (0:Int)).2.1=([101,110,100]:pP)))=true then none else if 0<=(0:Int)/\(0:Int)<(aN.1.length:Int) then BQ (GY ((qV rO aN.1 (0:Int)).2.1)) fun aR=>if ((zS aR.1)||((decide (Z=(1:Int)))&&(!aR.2)))=true then some ((3:Int)) else BQ aR.1 fun aS=>if aS=some 117 then none else if aS=some 118 then none else if aS=some 119 then none else if aS=some 120 then none else if aS=some 121 then none else if aS=some 122 then none else none else none else none else none
section
variable (O:pP) (Z:Int) (aA:sN) (aB:Int) (aC:pP) (aD:pP) (aE:pP) (aF:Nat) (aG:pQ) (aH:Int) (aI:Nat) (aJ:Nat) (aK:Nat) (aL:(pZ×Unit)) (aM:Nat) (aN:Nat) (aO:(Option pQ)) (aP:Nat) (aQ:(Option (List r9))) (aR:Nat) (aS:pX)
abbrev ZU:List qQ:=[(.val .ref (some (0,0)),none),(.val .str O,none),(.val (.int .i64) Z,none)]
abbrev Fn:List qP:=[.cells sV (aA,(aB,((aC,(aD,(aE,((some (3,aF)),(aG,(aH,((some (4,aI)),()))))))),(none,((some 5),((0,0,(3,aJ),(4,aK)),aL)))))) [(3,1),(15,2)],.grow 45 7 aM,.grow 3 1 aN,sI 9 .str aO aP,sI 110 rP aQ aR,.map .str .bool aS]
@[go_sem] def ZV:r5:=⟨[aM=(aA.2.2.2.1.length),aN=(aL.1.length),aF=aP,aI=aR,aJ=aP,aK=aR,((HC aA aB aC aD aE aG aH aL O Z aO aP aQ aR aS)).isSome=true],[(.val (.int .i64) (val (HC aA aB aC aD aE aG aH aL O Z aO aP aQ aR aS)),none)],[.cells sV ((aA.1,(aA.2.1,(aA.2.2.1,(aA.2.2.2.1,())))),(aB,((aC,(aD,(aE,((some (3,aP)),(aG,(aH,((some (4,aR)),()))))))),(none,((some 5),((0,0,(3,aP),(4,aR)),(aL.1,()))))))) [(3,1),(15,2)],.grow 45 7 (aA.2.2.2.1.length),.grow 3 1 (aL.1.length),sI 9 .str aO aP,sI 110 rP aQ aR,.map .str .bool aS]⟩
def Fo:List qQ->List qP->Option r5:=s9 (V:=(pP×Int×sN×Int×pP×pP×pP×Nat×pQ×Int×Nat×Nat×Nat×(pZ×Unit)×Nat×Nat×(Option pQ)×Nat×(Option (List r9))×Nat×pX)) (fun x=>ZU x.1 x.2.1) (fun(_,_,c,d,e,f,g,h,i,j,k,l,n,o,t,u,w,x,y,z,A)=>Fn c d e f g h i j k l n o t u w x y z A) fun(a,b,c,d,e,f,g,h,i,j,k,l,n,o,t,u,w,x,y,z,A)=>ZV a b c d e f g h i j k l n o t u w x y z A
@[go_sem] def a9v:Fo (no_index (ZU O Z)) (no_index (Fn aA aB aC aD aE aF aG aH aI aJ aK aL aM aN aO aP aQ aR aS))=some (ZV O Z aA aB aC aD aE aF aG aH aI aJ aK aL aM aN aO aP aQ aR aS):=sB (fun⟨a0,a1,a2,a3,a4,a5,a6,a7,a8,a9,a10,a11,a12,a13,a14,a15,a16,a17,a18,a19,a20⟩ ⟨b0,b1,b2,b3,b4,b5,b6,b7,b8,b9,b10,b11,b12,b13,b14,b15,b16,b17,b18,b19,b20⟩ h1 h2=>by cases h1;injection h2 with p0 h2;injection h2 with p1 h2;injection h2 with p2 h2;injection h2 with p3 h2;injection h2 with p4 h2;injection h2 with p5 h2;obtain⟨q3,r3⟩:=B5 p3;cases q3;cases r3;obtain⟨q4,r4⟩:=B5 p4;cases q4;cases r4;cases p0;cases p1;cases p2;cases p5;rfl) (O,Z,aA,aB,aC,aD,aE,aF,aG,aH,aI,aJ,aK,aL,aM,aN,aO,aP,aQ,aR,aS)
end
@[go_sem] def aFI (O:pP) (Z:Int) (aA:sN) (aB:Int) (aC:pP) (aD:pP) (aE:pP) (aF:Nat) (aG:pQ) (aH:Int) (aI:Nat) (aJ:Nat) (aK:Nat) (aL:(pZ×Unit)) (aM:Nat) (aN:Nat) (aO:pQ) (aP:Nat) (aQ:List r9) (aR:Nat) (aS:pX):Fo (no_index (ZU O Z)) (no_index ([.cells sV (aA,(aB,((aC,(aD,(aE,((some (3,aF)),(aG,(aH,((some (4,aI)),()))))))),(none,((some 5),((0,0,(3,aJ),(4,aK)),aL)))))) [(3,1),(15,2)],.grow 45 7 aM,.grow 3 1 aN,.row 9 .str aO aP,.row 110 rP aQ aR,.map .str .bool aS]:List qP))=some (ZV O Z aA aB aC aD aE aF aG aH aI aJ aK aL aM aN (some aO) aP (some aQ) aR aS):=a9v O Z aA aB aC aD aE aF aG aH aI aJ aK aL aM aN (some aO) aP (some aQ) aR aS
@[go_sem] abbrev U0:Nat×rM:=(56,⟨[.p sV [3,15],.v,.v],Fo,[(0,8,.r),(0,11,.r),(0,13,.m)],[1,2,3,4,5],none⟩)
def a0K:rJ prog [] (rK [C7,DQ,J2,BY,BV,BW,C5,C0,C1,C2,BX]):=⟨trivial,r7 O4 (r7 Q4 (r7 ZG (r7 NO (r7 NJ (r7 NK (r7 NZ (r7 NV (r7 NW (r7 NY (r7 NM rZ)))))))))),rL⟩
def FW:rJ prog [vG,wP,sS,BU,vM,xB,wY,IP] (rK [C7,DQ,J2,BY,BV,BW,C5,C0,C1,C2,BX]):=⟨⟨vR,⟨xA,⟨sU,⟨DH,⟨vY,⟨yA,⟨xN,⟨NC,trivial⟩⟩⟩⟩⟩⟩⟩⟩,a0K.Γ,rL⟩
def a9w:rJ prog [] (rK [C7,DQ,J2,BY,BV,BW,C5,C0,C1,C2,BX]):=⟨trivial,r7 O4 (r7 Q4 (r7 ZG (r7 NO (r7 NJ (r7 NK (r7 NZ (r7 NV (r7 NW (r7 NY (r7 NM rZ)))))))))),rL⟩
def a0L:rJ prog [vG,wP,sS,BU,vM,xB,wY,IP] (rK [C7,DQ,J2,BY,BV,BW,C5,C0,C1,C2,BX]):=⟨⟨vR,⟨xA,⟨sU,⟨DH,⟨vY,⟨yA,⟨xN,⟨NC,trivial⟩⟩⟩⟩⟩⟩⟩⟩,a9w.Γ,rL⟩
def a9x:rJ prog [] (rK [C7,DQ,TH,BY,BV,BW,C5,C0,C1,C2,BX]):=⟨trivial,r7 O4 (r7 Q4 (r7 Ye (r7 NO (r7 NJ (r7 NK (r7 NZ (r7 NV (r7 NW (r7 NY (r7 NM rZ)))))))))),rL⟩
def a9y:rJ prog [vG,wP,sS,BU,vM,xB,wY,IP] (rK [C7,DQ,TH,BY,BV,BW,C5,C0,C1,C2,BX]):=⟨⟨vR,⟨xA,⟨sU,⟨DH,⟨vY,⟨yA,⟨xN,⟨NC,trivial⟩⟩⟩⟩⟩⟩⟩⟩,a9x.Γ,rL⟩
def a0M:rS prog U0:=by
 refine sC a0K func56 (c:=_) rfl (N:=81) qH (ts:=[(6,none)]) rfl (fun _ _=>rfl) ?_ (h3:=by intro _;repeat (first|exact trivial|refine KG rfl ?_ |refine ⟨rfl,?_⟩))
 intro⟨O,Z,aA,aB,aC,aD,aE,aF,aG,aH,aI,aJ,aK,aL,aM,aN,aO,aP,aQ,aR,aS⟩ hs hrow;dsimp only[ZU,Fn,ZV,s7,rC,rI,rN,s8,Nat.reduceAdd] at hs hrow|-;obtain⟨rfl,rfl,hps2,hps3,hps4,hps5,hz⟩:=hs;obtain rfl:=hps2.symm;obtain rfl:=hps3.symm;obtain rfl:=hps4.symm;obtain rfl:=hps5.symm;obtain⟨z0,d⟩:=aFS.1 hz
 try rw[sH d]
 clear hz;unfold HC at d;refine qO FW ?_;obtain⟨aT,hv1,hw1,d⟩:=rW d
 try simp only[go_sem] at hw1
 refine qO FW ?_ (hp:=by exact(rV hv1)) (h:=by simp only[go_sem,hw1];rfl);refine qY (sF (qO FW ?_));refine r8 d ?_ ?_<;>intro d Y
 .refine qO FW ?_;refine qZ (sD (rG ?_));cases d;exact pS [(0,0),(1,1),(2,2),(3,3),(4,4),(5,5)]
 obtain⟨X,d⟩:=qT d;refine qO FW ?_ (hp:=by exact X);refine r8 d ?_ ?_<;>intro d Y
 .obtain⟨aU,hv3,hw3,d⟩:=rW d
  try simp only[go_sem] at hw3
  refine qO a0L ?_ (hp:=by exact⟨qG,qG,qG,qG,qG,qG,qG,qG,qG,qG,qG,(rV hv3)⟩) (h:=by simp only[go_sem,hw3];rfl)
  refine qZ (sD (rG ?_));cases d;exact pS [(0,0),(1,1),(2,2),(3,3),(4,4),(5,5)]
 refine rF (sM (qW (qO FW ?_)));refine qY (qO FW ?_ (hp:=by exact⟨id,id,id,id,tK⟩));refine r8 d ?_ ?_<;>intro d Y
 .refine qY (A0 0 (0,(3,aP),(4,aR)) (x2:=(aA,(aB,((aC,(aD,(aE,((some (3,aP)),(aG,(aH,((some (4,aR)),()))))))),(none,((some 5),((0,0,(3,aP),(4,aR)),aL))))))) rfl qJ ?_)
  by_cases hva4:((BZ aA aB aC aD aE aG aH aL aT.1 aO aP aQ aR aS)).isSome=true
  .rw[aFP hva4] at d;obtain⟨aV,hv4,hw4,d⟩:=rW d
   try simp only[go_sem] at hw4
   refine rT a0L ?_ (hp:=by exact⟨qG,qG,qG,qG,qG,qG,qG,qG,qG,qG,(rV hv4)⟩) (h:=by simp only[go_sem,hw4];rfl)
   cases d
  rw[aFQ hva4] at d;obtain⟨aW,hv5,hw5,d⟩:=rW d
  try simp only[go_sem] at hw5
  refine rT a9y ?_ (hp:=by exact⟨qG,qG,qG,qG,qG,qG,qG,qG,qG,qG,qG,(rV hv5)⟩) (h:=by simp only[go_sem,hw5];rfl)
  refine qW (qZ (rG ?_));cases d;exact pS [(0,0),(1,1),(2,2),(3,3),(4,4),(5,5)]
 refine rF (qW (qY ?_));obtain⟨W,d⟩:=qT d;refine qO FW ?_ (hp:=by exact W);refine r8 d ?_ ?_<;>intro d Y
 .cases d
 refine rF (qW ?_);obtain⟨V,d⟩:=qT d;obtain⟨aX,hw_43,d⟩:=SL d
 try simp only[go_sem] at hw_43
 refine qO FW ?_ (hp:=by exact V) (h:=by simp only[go_sem,hw_43];rfl);refine qY (qO FW ?_ (hp:=by exact⟨id,id,id,id,id,id,id,fun hG e=>GN hG e,tK⟩));refine r8 d ?_ ?_<;>intro d Y
 .refine qO FW ?_;refine A0 0 (0,(3,aP),(4,aR)) (x2:=(aA,(aB,((aC,(aD,(aE,((some (3,aP)),(aG,(aH,((some (4,aR)),()))))))),(none,((some 5),((0,0,(3,aP),(4,aR)),aL))))))) rfl qJ ?_
  refine qZ (rG ?_);cases d;exact pS [(0,0),(1,1),(2,2),(3,3),(4,4),(5,5)]
 refine rF (qW (qY ?_));replace d:=lj d;generalize aX.1=aY at d|-;by_cases hfn:aY=some 117
 .subst hfn;rw[aFP rfl] at d;cases d
 rw[aFQ hfn] at d;clear hfn;by_cases hfn:aY=some 118
 .subst hfn;rw[aFP rfl] at d;cases d
 rw[aFQ hfn] at d;clear hfn;by_cases hfn:aY=some 119
 .subst hfn;rw[aFP rfl] at d;cases d
 rw[aFQ hfn] at d;clear hfn;by_cases hfn:aY=some 120
 .subst hfn;rw[aFP rfl] at d;cases d
 rw[aFQ hfn] at d;clear hfn;by_cases hfn:aY=some 121
 .subst hfn;rw[aFP rfl] at d;cases d
 rw[aFQ hfn] at d;clear hfn;by_cases hfn:aY=some 122
 .subst hfn;rw[aFP rfl] at d;cases d
 rw[aFQ hfn] at d;clear hfn;cases d
attribute [irreducible] HC
end
noncomputable section
def B9 (O:pP):(Int⊕(Int×pP×pQ×(List r9)×(List sQ)×Int×pP×pP×pP×pQ×Int×Nat×pZ×(Option pQ)×Nat×(Option (List r9))×Nat×pX×pX))->Option ((Int⊕(Int×pP×pQ×(List r9)×(List sQ)×Int×pP×pP×pP×pQ×Int×Nat×pZ×(Option pQ)×Nat×(Option (List r9))×Nat×pX×pX))⊕(pP×pQ×(List r9)×(List sQ)×Int×pP×pP×pP×pQ×Int×Nat×pZ×(Option pQ)×Nat×(Option (List r9))×Nat×pX×pX)):=fun x=>match x with
 | .inl Z=>
  if (decide (Z<(O.length:Int)))=true then
   if 0<=Z/\Z<=(O.length:Int)/\(O.length:Int)<=(O.length:Int) then
    (DN (sG O Z (O.length:Int)) ([10]:pP)).bind fun aA=>
    if qR (Z+(aA.1.length:Int)) then
     if qR ((Z+(aA.1.length:Int))+(1:Int)) then
      (IQ aA.1).bind fun aB=>
      if (!((decide ((Lib.trimLeftS aA.1 ([32,9]:pP))=([]:pP)))||(decide ((sK (Lib.trimLeftS aA.1 ([32,9]:pP)) (0:Int))=(35:Int)))))=true then
       if ((A5 (([]:pP),(([]:pQ),(([]:List r9),(([]:List sQ),())))) (0:Int) ([]:pP) ([]:pP) ([]:pP) ([]:pQ) (0:Int) (([]:pZ),()) aA.1 (min (O.length:Int) ((Z+(aA.1.length:Int))+(1:Int))) (some ([]:pQ)) 0 (some ([]:List r9)) 0 ([]:pX))).isSome=true then
        (A5 (([]:pP),(([]:pQ),(([]:List r9),(([]:List sQ),())))) (0:Int) ([]:pP) ([]:pP) ([]:pP) ([]:pQ) (0:Int) (([]:pZ),()) aA.1 (min (O.length:Int) ((Z+(aA.1.length:Int))+(1:Int))) (some ([]:pQ)) 0 (some ([]:List r9)) 0 ([]:pX)).bind fun aC=>
        if (!decide ((0:Int)=(0:Int)))=true then
         none
        else
         some (.inl (.inr ((min (O.length:Int) ((Z+(aA.1.length:Int))+(1:Int))),aC.1,([]:pQ),([]:List r9),([]:List sQ),aC.2.1,aC.2.2.1,([]:pP),([]:pP),([]:pQ),(0:Int),0,([]:pZ),(some ([]:pQ)),0,(some ([]:List r9)),0,([]:pX),aC.2.2.2)))
       else
        (HC (([]:pP),(([]:pQ),(([]:List r9),(([]:List sQ),())))) (0:Int) ([]:pP) ([]:pP) ([]:pP) ([]:pQ) (0:Int) (([]:pZ),()) aA.1 (min (O.length:Int) ((Z+(aA.1.length:Int))+(1:Int))) (some ([]:pQ)) 0 (some ([]:List r9)) 0 ([]:pX)).bind fun aD=>
        if (!decide (aD=(0:Int)))=true then
         none
        else
         some (.inl (.inl (min (O.length:Int) ((Z+(aA.1.length:Int))+(1:Int)))))
      else
       some (.inl (.inl (min (O.length:Int) ((Z+(aA.1.length:Int))+(1:Int)))))
     else none
    else none
   else none
  else
   if (!decide ((0:Int)=(2:Int)))=true then
    none
   else
    none
 | .inr (aE,aF,aG,aH,aI,aJ,aK,aL,aM,aN,aO,aP,aQ,aR,aS,aT,aU,aV,aW)=>
  if (decide (aE<(O.length:Int)))=true then
   if 0<=aE/\aE<=(O.length:Int)/\(O.length:Int)<=(O.length:Int) then
    (DN (sG O aE (O.length:Int)) ([10]:pP)).bind fun aX=>
    if qR (aE+(aX.1.length:Int)) then
     if qR ((aE+(aX.1.length:Int))+(1:Int)) then
      (IQ aX.1).bind fun aY=>
      if (!((decide ((Lib.trimLeftS aX.1 ([32,9]:pP))=([]:pP)))||(decide ((sK (Lib.trimLeftS aX.1 ([32,9]:pP)) (0:Int))=(35:Int)))))=true then
       (vC (aF,(aG,(aH,(aI,())))) aJ aK aL aM aN aO aP (aQ,()) aX.1 (min (O.length:Int) ((aE+(aX.1.length:Int))+(1:Int))) aR aS aT aU aV aW).bind fun aZ=>
       if (!decide (aZ.1=(0:Int)))=true then
        none
       else
        some (.inl (.inr ((min (O.length:Int) ((aE+(aX.1.length:Int))+(1:Int))),aZ.2.1,aZ.2.2.1,aZ.2.2.2.1,aZ.2.2.2.2.1,aZ.2.2.2.2.2.1,aZ.2.2.2.2.2.2.1,aZ.2.2.2.2.2.2.2.1,aZ.2.2.2.2.2.2.2.2.1,aZ.2.2.2.2.2.2.2.2.2.1,aZ.2.2.2.2.2.2.2.2.2.2.1,aZ.2.2.2.2.2.2.2.2.2.2.2.1,aZ.2.2.2.2.2.2.2.2.2.2.2.2.1,aZ.2.2.2.2.2.2.2.2.2.2.2.2.2.2.1,aZ.2.2.2.2.2.2.2.2.2.2.2.2.2.2.2.1,aZ.2.2.2.2.2.2.2.2.2.2.2.2.2.2.2.2.1,aZ.2.2.2.2.2.2.2.2.2.2.2.2.2.2.2.2.2.1,aZ.2.2.2.2.2.2.2.2.2.2.2.2.2.2.2.2.2.2,aZ.2.2.2.2.2.2.2.2.2.2.2.2.2.1)))
      else
       some (.inl (.inr ((min (O.length:Int) ((aE+(aX.1.length:Int))+(1:Int))),aF,aG,aH,aI,aJ,aK,aL,aM,aN,aO,aP,aQ,aR,aS,aT,aU,aV,aW)))
     else none
    else none
   else none
  else
   if (!decide (aJ=(2:Int)))=true then
    none
   else
    some (.inr ((aF,aG,aH,aI,aJ,aK,aL,aM,aN,aO,aP,aQ,aR,aS,aT,aU,aV,aW)))
def uU (O:pP):Option (pP×pQ×(List r9)×(List sQ)×Int×pP×pP×pP×pQ×Int×Nat×pZ×(Option pQ)×Nat×(Option (List r9))×Nat×pX×pX):=sA (B9 O) (.inl (0:Int))
section
variable (O:pP)
abbrev Fp:List qQ:=[(.val .str O,none)]
abbrev Fq:List qP:=[]
@[go_sem] def Fs:r5:=⟨[((uU O)).isSome=true],[(.val .ref (some (0,0)),none),(.val (.int .i64) (0:Int),none),(.val (.int .i64) (0:Int),none)],[.cells sV (((val (uU O)).1,((val (uU O)).2.1,((val (uU O)).2.2.1,((val (uU O)).2.2.2.1,())))),((val (uU O)).2.2.2.2.1,(((val (uU O)).2.2.2.2.2.1,((val (uU O)).2.2.2.2.2.2.1,((val (uU O)).2.2.2.2.2.2.2.1,((some (1,(val (uU O)).2.2.2.2.2.2.2.2.2.2.2.2.2.1)),((val (uU O)).2.2.2.2.2.2.2.2.1,((val (uU O)).2.2.2.2.2.2.2.2.2.1,((some (2,(val (uU O)).2.2.2.2.2.2.2.2.2.2.2.2.2.2.2.1)),()))))))),((some 3),((some 4),(((val (uU O)).2.2.2.2.2.2.2.2.2.2.1,0,(1,(val (uU O)).2.2.2.2.2.2.2.2.2.2.2.2.2.1),(2,(val (uU O)).2.2.2.2.2.2.2.2.2.2.2.2.2.2.2.1)),((val (uU O)).2.2.2.2.2.2.2.2.2.2.2.1,()))))))) [(3,5),(15,6)],sI 9 .str ((val (uU O)).2.2.2.2.2.2.2.2.2.2.2.2.1) ((val (uU O)).2.2.2.2.2.2.2.2.2.2.2.2.2.1),sI 110 rP ((val (uU O)).2.2.2.2.2.2.2.2.2.2.2.2.2.2.1) ((val (uU O)).2.2.2.2.2.2.2.2.2.2.2.2.2.2.2.1),.map .str .bool ((val (uU O)).2.2.2.2.2.2.2.2.2.2.2.2.2.2.2.2.1),.map .str .bool ((val (uU O)).2.2.2.2.2.2.2.2.2.2.2.2.2.2.2.2.2),.grow 45 7 (((val (uU O)).2.2.2.1).length),.grow 3 1 (((val (uU O)).2.2.2.2.2.2.2.2.2.2.2.1).length)]⟩
def a0N:List qQ->List qP->Option r5:=s9 (V:=pP) (Fp) (fun x=>Fq) fun x=>Fs x
@[go_sem] def aFJ:a0N (no_index (Fp O)) (no_index Fq)=some (Fs O):=sB (fun a0 b0 h1 h2=>by cases h1;cases h2;rfl) O
end
@[go_sem] abbrev U1:Nat×rM:=(29,⟨[.v],a0N,[],[],none⟩)
def Ft:rJ prog [] (rK [DO,DJ,TY]):=⟨trivial,r7 PZ (r7 PO (r7 a0G rZ)),rL⟩
def w9:rJ prog [vG,wP,sS,DI,vM] (rK [DO,DJ,TY]):=⟨⟨vR,⟨xA,⟨sU,⟨FE,⟨vY,trivial⟩⟩⟩⟩⟩,Ft.Γ,rL⟩
def a9z:rJ prog [] (rK [DO,DJ,TZ]):=⟨trivial,r7 PZ (r7 PO (r7 a0J rZ)),rL⟩
def a9A:rJ prog [vG,wP,sS,DI,vM] (rK [DO,DJ,TZ]):=⟨⟨vR,⟨xA,⟨sU,⟨FE,⟨vY,trivial⟩⟩⟩⟩⟩,a9z.Γ,rL⟩
def a9B:rJ prog [] (rK [DO,DJ,U0]):=⟨trivial,r7 PZ (r7 PO (r7 a0M rZ)),rL⟩
def a9C:rJ prog [vG,wP,sS,DI,vM] (rK [DO,DJ,U0]):=⟨⟨vR,⟨xA,⟨sU,⟨FE,⟨vY,trivial⟩⟩⟩⟩⟩,a9B.Γ,rL⟩
def a0O:rS prog U1:=by
 refine sC Ft func29 (c:=_) rfl (N:=55) qH (ts:=[(2,none),(3,none),(4,none)]) rfl (fun _ _=>rfl) ?_;intro O hs hrow;dsimp only[Fp,Fq,Fs,s7,rC,rI,rN,s8,Nat.reduceAdd] at hs hrow|-;have hz:=hs;obtain⟨z0,f⟩:=aFS.1 hz
 try rw[sH f]
 clear hz hs;unfold uU at f;refine qO Ft ?_;refine qO w9 ?_;refine qY (qO w9 ?_);refine sF (A0 160 (160,(166,0),(167,0)) (x2:=((([]:pP),(([]:pQ),(([]:List r9),(([]:List sQ),())))),((0:Int),((([]:pP),(([]:pP),(([]:pP),((some (166,0)),(([]:pQ),((0:Int),((some (167,0)),()))))))),(none,((some 96),((0,160,(166,0),(167,0)),(([]:pZ),())))))))) rfl qJ ?_)
 have hy1:=f;refine uJ hy1 (fun x=>match x with| .inl x=>⟨[(0,.val .str O,none),(5,.val .ref (some (0,0)),none),(6,.val (.int .i64) x,none)],[(0,.cells sV ((([]:pP),(([]:pQ),(([]:List r9),(([]:List sQ),())))),((0:Int),((([]:pP),(([]:pP),(([]:pP),((some (1,0)),(([]:pQ),((0:Int),((some (2,0)),()))))))),(none,((some 3),((0,0,(1,0),(2,0)),(([]:pZ),()))))))) [(3,4),(15,5)]),(1,.row 9 .str ([]:pQ) 0),(2,.row 110 rP ([]:List r9) 0),(3,.map .str .bool ([]:pX)),(4,.grow 45 7 (([]:List sQ).length)),(5,.grow 3 1 (([]:pZ).length))],6,55,0⟩ | .inr x=>⟨[(0,.val .str O,none),(5,.val .ref (some (0,0)),none),(6,.val (.int .i64) x.1,none)],[(0,.cells sV ((x.2.1,(x.2.2.1,(x.2.2.2.1,(x.2.2.2.2.1,())))),(x.2.2.2.2.2.1,((x.2.2.2.2.2.2.1,(x.2.2.2.2.2.2.2.1,(x.2.2.2.2.2.2.2.2.1,((some (1,x.2.2.2.2.2.2.2.2.2.2.2.2.2.2.1)),(x.2.2.2.2.2.2.2.2.2.1,(x.2.2.2.2.2.2.2.2.2.2.1,((some (2,x.2.2.2.2.2.2.2.2.2.2.2.2.2.2.2.2.1)),()))))))),((some 3),((some 4),((x.2.2.2.2.2.2.2.2.2.2.2.1,0,(1,x.2.2.2.2.2.2.2.2.2.2.2.2.2.2.1),(2,x.2.2.2.2.2.2.2.2.2.2.2.2.2.2.2.2.1)),(x.2.2.2.2.2.2.2.2.2.2.2.2.1,()))))))) [(3,5),(15,6)]),(1,sI 9 .str x.2.2.2.2.2.2.2.2.2.2.2.2.2.1 x.2.2.2.2.2.2.2.2.2.2.2.2.2.2.1),(2,sI 110 rP x.2.2.2.2.2.2.2.2.2.2.2.2.2.2.2.1 x.2.2.2.2.2.2.2.2.2.2.2.2.2.2.2.2.1),(3,.map .str .bool x.2.2.2.2.2.2.2.2.2.2.2.2.2.2.2.2.2.1),(4,.map .str .bool x.2.2.2.2.2.2.2.2.2.2.2.2.2.2.2.2.2.2),(5,.grow 45 7 (x.2.2.2.2.1.length)),(6,.grow 3 1 (x.2.2.2.2.2.2.2.2.2.2.2.2.1.length))],7,55,0⟩) ⟨[0,5,6],[(0,160),(1,166),(2,167),(3,96),(4,163),(5,165)]⟩ qJ ?_
 intro x1 w1 n1 d e;rcases x1 with x1|x1
 .obtain⟨Z,hvx⟩: ∃v,v=x1:=⟨_,rfl⟩;subst hvx;unfold B9 at d;dsimp only at d|-;refine qY (qO w9 ?_);refine r8 d ?_ ?_<;>intro d Y
  .refine rF (qW (sF ?_));obtain⟨X,d⟩:=qT d;obtain⟨aA,hv2,hw2,d⟩:=rW d
   try simp only[go_sem] at hw2
   refine qO w9 ?_ (hp:=by exact⟨X,(rV hv2)⟩) (h:=by simp only[go_sem,hw2];rfl);obtain⟨W,V,d⟩:=pO d;refine qO w9 ?_ (hp:=by exact⟨W,V⟩);refine qY ?_;obtain⟨aB,hv5,hw5,d⟩:=rW d
   try simp only[go_sem] at hw5
   refine qO w9 ?_ (hp:=by exact(rV hv5)) (h:=by simp only[go_sem,hw5];rfl);refine r8 d ?_ ?_<;>intro d Y
   .refine qY ?_;by_cases hva3:((A5 (([]:pP),(([]:pQ),(([]:List r9),(([]:List sQ),())))) (0:Int) ([]:pP) ([]:pP) ([]:pP) ([]:pQ) (0:Int) (([]:pZ),()) aA.1 (min (O.length:Int) ((Z+(aA.1.length:Int))+(1:Int))) (some ([]:pQ)) 0 (some ([]:List r9)) 0 ([]:pX))).isSome=true
    .rw[aFP hva3] at d;obtain⟨aC,hv6,hw6,d⟩:=rW d
     try simp only[go_sem] at hw6
     refine rT a9A ?_ (hp:=by exact⟨qG,qG,qG,qG,qG,qG,qG,qG,qG,qG,(rV hv6)⟩) (h:=by simp only[go_sem,hw6];rfl)
     refine qW (qO w9 ?_);refine r8 d ?_ ?_<;>intro d Y
     .refine qY (rT w9 ?_);cases d
     refine rF (qW (rT w9 ?_));refine sM ?_;cases d;exact tH ⟨⟨[0,5,6],[(0,0),(1,972),(2,973),(3,974),(4,3),(5,4),(6,5)]⟩,_,qJ,e⟩
    rw[aFQ hva3] at d;obtain⟨aD,hv7,hw7,d⟩:=rW d
    try simp only[go_sem] at hw7
    refine rT a9C ?_ (hp:=by exact⟨qG,qG,qG,qG,qG,qG,qG,qG,qG,qG,qG,(rV hv7)⟩) (h:=by simp only[go_sem,hw7];rfl)
    refine qW (qO w9 ?_);refine r8 d ?_ ?_<;>intro d Y
    .refine qY (rT w9 ?_);cases d
    refine rF (qW (rT w9 ?_));refine sM ?_;cases d;exact tH ⟨⟨[0,5,6],[(0,0),(1,1),(2,2),(3,3),(4,4),(5,5)]⟩,_,qJ,e⟩
   refine rF (qW (rT w9 ?_));refine sM ?_;cases d;exact tH ⟨⟨[0,5,6],[(0,0),(1,1),(2,2),(3,3),(4,4),(5,5)]⟩,_,qJ,e⟩
  refine uF (uD (uG (uE (qW (qY ?_)))));refine qO w9 ?_;refine r8 d ?_ ?_<;>intro d Y
  .refine qY (rT w9 ?_);cases d
  refine rF (qW (qY (rT w9 ?_)));cases d
 obtain⟨aE,aF,aG,aH,aI,aJ,aK,aL,aM,aN,aO,aP,aQ,aR,aS,aT,aU,aV,aW⟩:=x1;unfold B9 at d;dsimp only at d|-;refine qY (qO w9 ?_);refine r8 d ?_ ?_<;>intro d Y
 .refine rF (qW (sF ?_));obtain⟨U,d⟩:=qT d;obtain⟨aX,hv9,hw9,d⟩:=rW d
  try simp only[go_sem] at hw9
  refine qO w9 ?_ (hp:=by exact⟨U,(rV hv9)⟩) (h:=by simp only[go_sem,hw9];rfl);obtain⟨T,S,d⟩:=pO d;refine qO w9 ?_ (hp:=by exact⟨T,S⟩);refine qY ?_;obtain⟨aY,hv12,hw12,d⟩:=rW d
  try simp only[go_sem] at hw12
  refine qO w9 ?_ (hp:=by exact(rV hv12)) (h:=by simp only[go_sem,hw12];rfl);refine r8 d ?_ ?_<;>intro d Y
  .obtain⟨aZ,hv13,hw13,d⟩:=rW d
   try simp only[go_sem] at hw13
   refine qO w9 ?_ (hp:=by exact⟨qG,qG,qG,qG,qG,qG,(rV hv13)⟩) (h:=by simp only[go_sem,hw13];rfl)
   refine qO w9 ?_;refine r8 d ?_ ?_<;>intro d Y
   .refine qY (rT w9 ?_);cases d
   refine rF (qW (rT w9 ?_));refine sM ?_;cases d;exact tH ⟨⟨[0,5,6],[(0,0),(1,974),(2,975),(3,976),(4,4),(5,5),(6,6)]⟩,_,qJ,e⟩
  refine rF (qW (rT w9 ?_));refine sM ?_;cases d;exact tH ⟨⟨[0,5,6],[(0,0),(1,1),(2,2),(3,3),(4,4),(5,5),(6,6)]⟩,_,qJ,e⟩
 refine uF (uD (uG (uE (qW (qY ?_)))));refine qO w9 ?_;refine r8 d ?_ ?_<;>intro d Y
 .refine qY (rT w9 ?_);cases d
 refine rF (qW (qO w9 ?_));refine qZ ?_;cases d;have f:=aGd some (show _=_ from e);cases f;exact pS [(0,0),(1,1),(2,2),(3,3),(4,4),(5,5),(6,6)]
attribute [irreducible] uU
end
noncomputable section
def BA (O:pP):(Int⊕(Int×pP×pQ×(List r9)×(List sQ)×Int×pP×pP×pP×pQ×Int×Nat×pZ×(Option pQ)×Nat×(Option (List r9))×Nat×pX×pX))->Option ((Int⊕(Int×pP×pQ×(List r9)×(List sQ)×Int×pP×pP×pP×pQ×Int×Nat×pZ×(Option pQ)×Nat×(Option (List r9))×Nat×pX×pX))⊕(Int×Int)):=fun x=>match x with
 | .inl Z=>
  if (decide (Z<(O.length:Int)))=true then
   if 0<=Z/\Z<=(O.length:Int)/\(O.length:Int)<=(O.length:Int) then
    (DN (sG O Z (O.length:Int)) ([10]:pP)).bind fun aA=>
    if qR (Z+(aA.1.length:Int)) then
     if qR ((Z+(aA.1.length:Int))+(1:Int)) then
      (IQ aA.1).bind fun aB=>
      if (!((decide ((Lib.trimLeftS aA.1 ([32,9]:pP))=([]:pP)))||(decide ((sK (Lib.trimLeftS aA.1 ([32,9]:pP)) (0:Int))=(35:Int)))))=true then
       if ((A5 (([]:pP),(([]:pQ),(([]:List r9),(([]:List sQ),())))) (0:Int) ([]:pP) ([]:pP) ([]:pP) ([]:pQ) (0:Int) (([]:pZ),()) aA.1 (min (O.length:Int) ((Z+(aA.1.length:Int))+(1:Int))) (some ([]:pQ)) 0 (some ([]:List r9)) 0 ([]:pX))).isSome=true then
        (A5 (([]:pP),(([]:pQ),(([]:List r9),(([]:List sQ),())))) (0:Int) ([]:pP) ([]:pP) ([]:pP) ([]:pQ) (0:Int) (([]:pZ),()) aA.1 (min (O.length:Int) ((Z+(aA.1.length:Int))+(1:Int))) (some ([]:pQ)) 0 (some ([]:List r9)) 0 ([]:pX)).bind fun aC=>
        if (!decide ((0:Int)=(0:Int)))=true then
         some (.inr ((Z,(0:Int))))
        else
         some (.inl (.inr ((min (O.length:Int) ((Z+(aA.1.length:Int))+(1:Int))),aC.1,([]:pQ),([]:List r9),([]:List sQ),aC.2.1,aC.2.2.1,([]:pP),([]:pP),([]:pQ),(0:Int),0,([]:pZ),(some ([]:pQ)),0,(some ([]:List r9)),0,([]:pX),aC.2.2.2)))
       else
        (HC (([]:pP),(([]:pQ),(([]:List r9),(([]:List sQ),())))) (0:Int) ([]:pP) ([]:pP) ([]:pP) ([]:pQ) (0:Int) (([]:pZ),()) aA.1 (min (O.length:Int) ((Z+(aA.1.length:Int))+(1:Int))) (some ([]:pQ)) 0 (some ([]:List r9)) 0 ([]:pX)).bind fun aD=>
        if (!decide (aD=(0:Int)))=true then
         some (.inr ((Z,aD)))
        else
         some (.inl (.inl (min (O.length:Int) ((Z+(aA.1.length:Int))+(1:Int)))))
      else
       some (.inl (.inl (min (O.length:Int) ((Z+(aA.1.length:Int))+(1:Int)))))
     else none
    else none
   else none
  else
   if (!decide ((0:Int)=(2:Int)))=true then
    some (.inr (((O.length:Int),(3:Int))))
   else
    none
 | .inr (aE,aF,aG,aH,aI,aJ,aK,aL,aM,aN,aO,aP,aQ,aR,aS,aT,aU,aV,aW)=>
  if (decide (aE<(O.length:Int)))=true then
   if 0<=aE/\aE<=(O.length:Int)/\(O.length:Int)<=(O.length:Int) then
    (DN (sG O aE (O.length:Int)) ([10]:pP)).bind fun aX=>
    if qR (aE+(aX.1.length:Int)) then
     if qR ((aE+(aX.1.length:Int))+(1:Int)) then
      (IQ aX.1).bind fun aY=>
      if (!((decide ((Lib.trimLeftS aX.1 ([32,9]:pP))=([]:pP)))||(decide ((sK (Lib.trimLeftS aX.1 ([32,9]:pP)) (0:Int))=(35:Int)))))=true then
       (vC (aF,(aG,(aH,(aI,())))) aJ aK aL aM aN aO aP (aQ,()) aX.1 (min (O.length:Int) ((aE+(aX.1.length:Int))+(1:Int))) aR aS aT aU aV aW).bind fun aZ=>
       if (!decide (aZ.1=(0:Int)))=true then
        some (.inr ((aE,aZ.1)))
       else
        some (.inl (.inr ((min (O.length:Int) ((aE+(aX.1.length:Int))+(1:Int))),aZ.2.1,aZ.2.2.1,aZ.2.2.2.1,aZ.2.2.2.2.1,aZ.2.2.2.2.2.1,aZ.2.2.2.2.2.2.1,aZ.2.2.2.2.2.2.2.1,aZ.2.2.2.2.2.2.2.2.1,aZ.2.2.2.2.2.2.2.2.2.1,aZ.2.2.2.2.2.2.2.2.2.2.1,aZ.2.2.2.2.2.2.2.2.2.2.2.1,aZ.2.2.2.2.2.2.2.2.2.2.2.2.1,aZ.2.2.2.2.2.2.2.2.2.2.2.2.2.2.1,aZ.2.2.2.2.2.2.2.2.2.2.2.2.2.2.2.1,aZ.2.2.2.2.2.2.2.2.2.2.2.2.2.2.2.2.1,aZ.2.2.2.2.2.2.2.2.2.2.2.2.2.2.2.2.2.1,aZ.2.2.2.2.2.2.2.2.2.2.2.2.2.2.2.2.2.2,aZ.2.2.2.2.2.2.2.2.2.2.2.2.2.1)))
      else
       some (.inl (.inr ((min (O.length:Int) ((aE+(aX.1.length:Int))+(1:Int))),aF,aG,aH,aI,aJ,aK,aL,aM,aN,aO,aP,aQ,aR,aS,aT,aU,aV,aW)))
     else none
    else none
   else none
  else
   if (!decide (aJ=(2:Int)))=true then
    some (.inr (((O.length:Int),(3:Int))))
   else
    none
def JA (O:pP):Option (Int×Int):=sA (BA O) (.inl (0:Int))
section
variable (O:pP)
abbrev Fu:List qQ:=[(.val .str O,none)]
abbrev Fv:List qP:=[]
@[go_sem] def Fw:r5:=⟨[((JA O)).isSome=true],[(.val .ref none,none),(.val (.int .i64) ((val (JA O)).1),none),(.val (.int .i64) ((val (JA O)).2),none)],[]⟩
def a0P:List qQ->List qP->Option r5:=s9 (V:=pP) (Fu) (fun x=>Fv) fun x=>Fw x
@[go_sem] def aFK:a0P (no_index (Fu O)) (no_index Fv)=some (Fw O):=sB (fun a0 b0 h1 h2=>by cases h1;cases h2;rfl) O
end
@[go_sem] abbrev Fx:Nat×rM:=(29,⟨[.v],a0P,[],[],none⟩)
def Fy:rJ prog [] (rK [DO,DJ,TY]):=⟨trivial,r7 PZ (r7 PO (r7 a0G rZ)),rL⟩
def wA:rJ prog [vG,wP,sS,DI,vM] (rK [DO,DJ,TY]):=⟨⟨vR,⟨xA,⟨sU,⟨FE,⟨vY,trivial⟩⟩⟩⟩⟩,Fy.Γ,rL⟩
def a9D:rJ prog [] (rK [DO,DJ,TZ]):=⟨trivial,r7 PZ (r7 PO (r7 a0J rZ)),rL⟩
def a9E:rJ prog [vG,wP,sS,DI,vM] (rK [DO,DJ,TZ]):=⟨⟨vR,⟨xA,⟨sU,⟨FE,⟨vY,trivial⟩⟩⟩⟩⟩,a9D.Γ,rL⟩
def a9F:rJ prog [] (rK [DO,DJ,U0]):=⟨trivial,r7 PZ (r7 PO (r7 a0M rZ)),rL⟩
def a9G:rJ prog [vG,wP,sS,DI,vM] (rK [DO,DJ,U0]):=⟨⟨vR,⟨xA,⟨sU,⟨FE,⟨vY,trivial⟩⟩⟩⟩⟩,a9F.Γ,rL⟩
def a0Q:rS prog Fx:=by
 refine sC Fy func29 (c:=_) rfl (N:=55) qH (ts:=[(2,none),(3,none),(4,none)]) rfl (fun _ _=>rfl) ?_;intro O hs hrow;dsimp only[Fu,Fv,Fw,s7,rC,rI,rN,s8,Nat.reduceAdd] at hs hrow|-;have hz:=hs;obtain⟨z0,e⟩:=aFS.1 hz
 try rw[sH e]
 clear hz hs;unfold JA at e;refine qO Fy ?_;refine qO wA ?_;refine qY (qO wA ?_);refine sF (A0 160 (160,(166,0),(167,0)) (x2:=((([]:pP),(([]:pQ),(([]:List r9),(([]:List sQ),())))),((0:Int),((([]:pP),(([]:pP),(([]:pP),((some (166,0)),(([]:pQ),((0:Int),((some (167,0)),()))))))),(none,((some 96),((0,160,(166,0),(167,0)),(([]:pZ),())))))))) rfl qJ ?_)
 have hy1:=e;refine uJ hy1 (fun x=>match x with| .inl x=>⟨[(0,.val .str O,none),(5,.val .ref (some (0,0)),none),(6,.val (.int .i64) x,none)],[(0,.cells sV ((([]:pP),(([]:pQ),(([]:List r9),(([]:List sQ),())))),((0:Int),((([]:pP),(([]:pP),(([]:pP),((some (1,0)),(([]:pQ),((0:Int),((some (2,0)),()))))))),(none,((some 3),((0,0,(1,0),(2,0)),(([]:pZ),()))))))) [(3,4),(15,5)]),(1,.row 9 .str ([]:pQ) 0),(2,.row 110 rP ([]:List r9) 0),(3,.map .str .bool ([]:pX)),(4,.grow 45 7 (([]:List sQ).length)),(5,.grow 3 1 (([]:pZ).length))],6,55,0⟩ | .inr x=>⟨[(0,.val .str O,none),(5,.val .ref (some (0,0)),none),(6,.val (.int .i64) x.1,none)],[(0,.cells sV ((x.2.1,(x.2.2.1,(x.2.2.2.1,(x.2.2.2.2.1,())))),(x.2.2.2.2.2.1,((x.2.2.2.2.2.2.1,(x.2.2.2.2.2.2.2.1,(x.2.2.2.2.2.2.2.2.1,((some (1,x.2.2.2.2.2.2.2.2.2.2.2.2.2.2.1)),(x.2.2.2.2.2.2.2.2.2.1,(x.2.2.2.2.2.2.2.2.2.2.1,((some (2,x.2.2.2.2.2.2.2.2.2.2.2.2.2.2.2.2.1)),()))))))),((some 3),((some 4),((x.2.2.2.2.2.2.2.2.2.2.2.1,0,(1,x.2.2.2.2.2.2.2.2.2.2.2.2.2.2.1),(2,x.2.2.2.2.2.2.2.2.2.2.2.2.2.2.2.2.1)),(x.2.2.2.2.2.2.2.2.2.2.2.2.1,()))))))) [(3,5),(15,6)]),(1,sI 9 .str x.2.2.2.2.2.2.2.2.2.2.2.2.2.1 x.2.2.2.2.2.2.2.2.2.2.2.2.2.2.1),(2,sI 110 rP x.2.2.2.2.2.2.2.2.2.2.2.2.2.2.2.1 x.2.2.2.2.2.2.2.2.2.2.2.2.2.2.2.2.1),(3,.map .str .bool x.2.2.2.2.2.2.2.2.2.2.2.2.2.2.2.2.2.1),(4,.map .str .bool x.2.2.2.2.2.2.2.2.2.2.2.2.2.2.2.2.2.2),(5,.grow 45 7 (x.2.2.2.2.1.length)),(6,.grow 3 1 (x.2.2.2.2.2.2.2.2.2.2.2.2.1.length))],7,55,0⟩) ⟨[0,5,6],[(0,160),(1,166),(2,167),(3,96),(4,163),(5,165)]⟩ qJ ?_
 intro x1 w1 n1 d f;rcases x1 with x1|x1
 .obtain⟨Z,hvx⟩: ∃v,v=x1:=⟨_,rfl⟩;subst hvx;unfold BA at d;dsimp only at d|-;refine qY (qO wA ?_);refine r8 d ?_ ?_<;>intro d Y
  .refine rF (qW (sF ?_));obtain⟨X,d⟩:=qT d;obtain⟨aA,hv2,hw2,d⟩:=rW d
   try simp only[go_sem] at hw2
   refine qO wA ?_ (hp:=by exact⟨X,(rV hv2)⟩) (h:=by simp only[go_sem,hw2];rfl);obtain⟨W,V,d⟩:=pO d;refine qO wA ?_ (hp:=by exact⟨W,V⟩);refine qY ?_;obtain⟨aB,hv5,hw5,d⟩:=rW d
   try simp only[go_sem] at hw5
   refine qO wA ?_ (hp:=by exact(rV hv5)) (h:=by simp only[go_sem,hw5];rfl);refine r8 d ?_ ?_<;>intro d Y
   .refine qY ?_;by_cases hva3:((A5 (([]:pP),(([]:pQ),(([]:List r9),(([]:List sQ),())))) (0:Int) ([]:pP) ([]:pP) ([]:pP) ([]:pQ) (0:Int) (([]:pZ),()) aA.1 (min (O.length:Int) ((Z+(aA.1.length:Int))+(1:Int))) (some ([]:pQ)) 0 (some ([]:List r9)) 0 ([]:pX))).isSome=true
    .rw[aFP hva3] at d;obtain⟨aC,hv6,hw6,d⟩:=rW d
     try simp only[go_sem] at hw6
     refine rT a9E ?_ (hp:=by exact⟨qG,qG,qG,qG,qG,qG,qG,qG,qG,qG,(rV hv6)⟩) (h:=by simp only[go_sem,hw6];rfl)
     refine qW (qO wA ?_);refine r8 d ?_ ?_<;>intro d Y
     .refine qO wA ?_;refine qZ (rG (sD (vQ (sD (rG ?_)))));cases d;have e:=aGd some (show _=_ from f);cases e;exact pS []
     refine rF (qW (rT wA ?_));refine sM ?_;cases d;exact tH ⟨⟨[0,5,6],[(0,0),(1,972),(2,973),(3,974),(4,3),(5,4),(6,5)]⟩,_,qJ,f⟩
    rw[aFQ hva3] at d;obtain⟨aD,hv7,hw7,d⟩:=rW d
    try simp only[go_sem] at hw7
    refine rT a9G ?_ (hp:=by exact⟨qG,qG,qG,qG,qG,qG,qG,qG,qG,qG,qG,(rV hv7)⟩) (h:=by simp only[go_sem,hw7];rfl)
    refine qW (qO wA ?_);refine r8 d ?_ ?_<;>intro d Y
    .refine qO wA ?_;refine qZ (rG (sD (vQ (sD (rG ?_)))));cases d;have e:=aGd some (show _=_ from f);cases e;exact pS []
    refine rF (qW (rT wA ?_));refine sM ?_;cases d;exact tH ⟨⟨[0,5,6],[(0,0),(1,1),(2,2),(3,3),(4,4),(5,5)]⟩,_,qJ,f⟩
   refine rF (qW (rT wA ?_));refine sM ?_;cases d;exact tH ⟨⟨[0,5,6],[(0,0),(1,1),(2,2),(3,3),(4,4),(5,5)]⟩,_,qJ,f⟩
  refine uF (uD (uG (uE (qW (qY ?_)))));refine qO wA ?_;refine r8 d ?_ ?_<;>intro d Y
  .refine qO wA ?_;refine qZ (rG ?_);cases d;have e:=aGd some (show _=_ from f);cases e;exact pS []
  refine rF (qW (qY (rT wA ?_)));cases d
 obtain⟨aE,aF,aG,aH,aI,aJ,aK,aL,aM,aN,aO,aP,aQ,aR,aS,aT,aU,aV,aW⟩:=x1;unfold BA at d;dsimp only at d|-;refine qY (qO wA ?_);refine r8 d ?_ ?_<;>intro d Y
 .refine rF (qW (sF ?_));obtain⟨U,d⟩:=qT d;obtain⟨aX,hv9,hw9,d⟩:=rW d
  try simp only[go_sem] at hw9
  refine qO wA ?_ (hp:=by exact⟨U,(rV hv9)⟩) (h:=by simp only[go_sem,hw9];rfl);obtain⟨T,S,d⟩:=pO d;refine qO wA ?_ (hp:=by exact⟨T,S⟩);refine qY ?_;obtain⟨aY,hv12,hw12,d⟩:=rW d
  try simp only[go_sem] at hw12
  refine qO wA ?_ (hp:=by exact(rV hv12)) (h:=by simp only[go_sem,hw12];rfl);refine r8 d ?_ ?_<;>intro d Y
  .obtain⟨aZ,hv13,hw13,d⟩:=rW d
   try simp only[go_sem] at hw13
   refine qO wA ?_ (hp:=by exact⟨qG,qG,qG,qG,qG,qG,(rV hv13)⟩) (h:=by simp only[go_sem,hw13];rfl)
   refine qO wA ?_;refine r8 d ?_ ?_<;>intro d Y
   .refine qO wA ?_;refine qZ (rG (sD (vQ (sD (rG ?_)))));cases d;have e:=aGd some (show _=_ from f);cases e;exact pS []
   refine rF (qW (rT wA ?_));refine sM ?_;cases d;exact tH ⟨⟨[0,5,6],[(0,0),(1,974),(2,975),(3,976),(4,4),(5,5),(6,6)]⟩,_,qJ,f⟩
  refine rF (qW (rT wA ?_));refine sM ?_;cases d;exact tH ⟨⟨[0,5,6],[(0,0),(1,1),(2,2),(3,3),(4,4),(5,5),(6,6)]⟩,_,qJ,f⟩
 refine uF (uD (uG (uE (qW (qY ?_)))));refine qO wA ?_;refine r8 d ?_ ?_<;>intro d Y
 .refine qO wA ?_;refine qZ (rG ?_);cases d;have e:=aGd some (show _=_ from f);cases e;exact pS []
 refine rF (qW (qY (rT wA ?_)));cases d
attribute [irreducible] JA
end
noncomputable section
def A6 (O:pP):Option (pP×pQ×(List r9)×(List sQ)×Int×Int):=if ((uU O)).isSome=true then (uU O).bind fun Z=>if (!decide ((0:Int)=(0:Int)))=true then some ((([]:pP),([]:pQ),([]:List r9),([]:List sQ),(0:Int),(0:Int))) else some ((Z.1,Z.2.1,Z.2.2.1,Z.2.2.2.1,(0:Int),(0:Int))) else (JA O).bind fun aA=>if (!decide (aA.2=(0:Int)))=true then some ((([]:pP),([]:pQ),([]:List r9),([]:List sQ),aA.1,aA.2)) else none
section
variable (O:pP)
abbrev Fz:List qQ:=[(.val .str O,none)]
abbrev Ga:List qP:=[]
@[go_sem] def Gb:r5:=⟨[((A6 O)).isSome=true],[(.val DE ((val (A6 O)).1,((val (A6 O)).2.1,((val (A6 O)).2.2.1,((val (A6 O)).2.2.2.1,())))),none),(.val (.int .i64) ((val (A6 O)).2.2.2.2.1),none),(.val (.int .i64) ((val (A6 O)).2.2.2.2.2),none)],[]⟩
def a0R:List qQ->List qP->Option r5:=s9 (V:=pP) (Fz) (fun x=>Ga) fun x=>Gb x
@[go_sem] def aFL:a0R (no_index (Fz O)) (no_index Ga)=some (Gb O):=sB (fun a0 b0 h1 h2=>by cases h1;cases h2;rfl) O
end
@[go_sem] abbrev ZW:Nat×rM:=(11,⟨[.v],a0R,[],[],none⟩)
def QF:rJ prog [AN] (rK [U1]):=⟨⟨BT,trivial⟩,r7 a0O rZ,rL⟩
def Gc:rJ prog [AN,vM] (rK [U1]):=⟨⟨BT,⟨vY,trivial⟩⟩,QF.Γ,rL⟩
def a9H:rJ prog [AN] (rK [Fx]):=⟨⟨BT,trivial⟩,r7 a0Q rZ,rL⟩
def a0S:rS prog ZW:=by
 refine sC QF func11 (c:=_) rfl (N:=23) qH (ts:=[(2,some 27),(3,none),(4,none)]) rfl (fun _ _=>rfl) ?_;intro O hs hrow;dsimp only[Fz,Ga,Gb,s7,rC,rI,rN,s8,Nat.reduceAdd] at hs hrow|-;have hz:=hs;obtain⟨z0,d⟩:=aFS.1 hz
 try rw[sH d]
 clear hz hs;unfold A6 at d;refine qO QF ?_;refine qY ?_;by_cases hva1:((uU O)).isSome=true
 .rw[aFP hva1] at d;obtain⟨Z,hv1,hw1,d⟩:=rW d
  try simp only[go_sem] at hw1
  refine rT QF ?_ (hp:=by exact(rV hv1)) (h:=by simp only[go_sem,hw1];rfl);refine qW (qY (qO Gc ?_));refine r8 d ?_ ?_<;>intro d Y
  .refine qO Gc ?_;refine qZ (rG ?_);cases d;exact pR []
  refine rF (qW (qO Gc ?_));refine qZ ?_;cases d;exact pR []
 rw[aFQ hva1] at d;obtain⟨aA,hv2,hw2,d⟩:=rW d
 try simp only[go_sem] at hw2
 refine rT a9H ?_ (hp:=by exact(rV hv2)) (h:=by simp only[go_sem,hw2];rfl);refine qW (qY (qO QF ?_));refine r8 d ?_ ?_<;>intro d Y
 .refine qO QF ?_;refine qZ (rG ?_);cases d;exact pR []
 cases d
def QG (O:pP) (Z:(pP×pQ×(List r9)×(List sQ)×Int×pP×pP×pP×pQ×Int×Nat×pZ×(Option pQ)×Nat×(Option (List r9))×Nat×pX×pX)):(Int×pQ)->Option ((Int×pQ)⊕pQ):=fun(aA,aB)=>if (decide (aA<(Z.2.2.2.2.2.2.2.2.2.2.2.1.length:Int)))=true then if qR (aA- (1:Int)) then if 0<=(aA- (1:Int))/\(aA- (1:Int))<(Z.2.2.2.2.2.2.2.2.2.2.2.1.length:Int) then if 0<=aA/\aA<(Z.2.2.2.2.2.2.2.2.2.2.2.1.length:Int) then if 0<=(qV (.int .i64) Z.2.2.2.2.2.2.2.2.2.2.2.1 (aA- (1:Int)))/\(qV (.int .i64) Z.2.2.2.2.2.2.2.2.2.2.2.1 (aA- (1:Int)))<=(qV (.int .i64) Z.2.2.2.2.2.2.2.2.2.2.2.1 aA)/\(qV (.int .i64) Z.2.2.2.2.2.2.2.2.2.2.2.1 aA)<=(O.length:Int) then if (aB.length+([(sG O (qV (.int .i64) Z.2.2.2.2.2.2.2.2.2.2.2.1 (aA- (1:Int))) (qV (.int .i64) Z.2.2.2.2.2.2.2.2.2.2.2.1 aA))]:pQ).length)*16<=140737488355328 then if qR (aA+(1:Int)) then some (.inl ((aA+(1:Int)),(aB++([(sG O (qV (.int .i64) Z.2.2.2.2.2.2.2.2.2.2.2.1 (aA- (1:Int))) (qV (.int .i64) Z.2.2.2.2.2.2.2.2.2.2.2.1 aA))]:pQ)))) else none else none else none else none else none else none else some (.inr aB)
def DY (O:pP):Option (pP×pQ×pP×Int):=if ((uU O)).isSome=true then (uU O).bind fun Z=>if (!decide ((0:Int)=(0:Int)))=true then some ((([]:pP),([]:pQ),([]:pP),(0:Int))) else if 0<=(0:Int)/\(0:Int)<(Z.2.2.2.2.2.2.2.2.2.2.2.1.length:Int) then if 0<=(0:Int)/\(0:Int)<=(qV (.int .i64) Z.2.2.2.2.2.2.2.2.2.2.2.1 (0:Int))/\(qV (.int .i64) Z.2.2.2.2.2.2.2.2.2.2.2.1 (0:Int))<=(O.length:Int) then if qR ((Z.2.2.2.2.2.2.2.2.2.2.2.1.length:Int)- (1:Int)) then if 0<=((Z.2.2.2.2.2.2.2.2.2.2.2.1.length:Int)- (1:Int))/\((Z.2.2.2.2.2.2.2.2.2.2.2.1.length:Int)- (1:Int))<(Z.2.2.2.2.2.2.2.2.2.2.2.1.length:Int) then if 0<=(qV (.int .i64) Z.2.2.2.2.2.2.2.2.2.2.2.1 ((Z.2.2.2.2.2.2.2.2.2.2.2.1.length:Int)- (1:Int)))/\(qV (.int .i64) Z.2.2.2.2.2.2.2.2.2.2.2.1 ((Z.2.2.2.2.2.2.2.2.2.2.2.1.length:Int)- (1:Int)))<=(O.length:Int)/\(O.length:Int)<=(O.length:Int) then uS (sA (QG O Z) ((1:Int),([]:pQ))) fun aA=>some (((sG O (0:Int) (qV (.int .i64) Z.2.2.2.2.2.2.2.2.2.2.2.1 (0:Int))),aA,(sG O (qV (.int .i64) Z.2.2.2.2.2.2.2.2.2.2.2.1 ((Z.2.2.2.2.2.2.2.2.2.2.2.1.length:Int)- (1:Int))) (O.length:Int)),(0:Int))) else none else none else none else none else none else (JA O).bind fun aB=>if (!decide (aB.2=(0:Int)))=true then some ((([]:pP),([]:pQ),([]:pP),aB.2)) else none
section
variable (O:pP)
abbrev Gd:List qQ:=[(.val .str O,none)]
abbrev Ge:List qP:=[]
@[go_sem] def Gf:r5:=⟨[((DY O)).isSome=true],[(.val BR ((val (DY O)).1,((val (DY O)).2.1,((val (DY O)).2.2.1,()))),none),(.val (.int .i64) ((val (DY O)).2.2.2),none)],[]⟩
def a0T:List qQ->List qP->Option r5:=s9 (V:=pP) (Gd) (fun x=>Ge) fun x=>Gf x
@[go_sem] def aFM:a0T (no_index (Gd O)) (no_index Ge)=some (Gf O):=sB (fun a0 b0 h1 h2=>by cases h1;cases h2;rfl) O
end
@[go_sem] abbrev Gg:Nat×rM:=(14,⟨[.v],a0T,[],[],none⟩)
def O5:rJ prog [GQ] (rK [U1]):=⟨⟨KH,trivial⟩,r7 a0O rZ,rL⟩
def O6:rJ prog [vG,sS,xM,GQ,KJ,vM] (rK [U1]):=⟨⟨vR,⟨sU,⟨yX,⟨KH,⟨PN,⟨vY,trivial⟩⟩⟩⟩⟩⟩,O5.Γ,rL⟩
def a9I:rJ prog [GQ] (rK [Fx]):=⟨⟨KH,trivial⟩,r7 a0Q rZ,rL⟩
def a9J:rS prog Gg:=by
 refine sC O5 func14 (c:=_) rfl (N:=74) qH (ts:=[(2,some 34),(3,none)]) rfl (fun _ _=>rfl) ?_;intro O hs hrow;dsimp only[Gd,Ge,Gf,s7,rC,rI,rN,s8,Nat.reduceAdd] at hs hrow|-;have hz:=hs;obtain⟨z0,d⟩:=aFS.1 hz
 try rw[sH d]
 clear hz hs;unfold DY at d;refine qO O5 ?_;refine qY ?_;by_cases hva1:((uU O)).isSome=true
 .rw[aFP hva1] at d;obtain⟨Z,hv1,hw1,d⟩:=rW d
  try simp only[go_sem] at hw1
  refine rT O5 ?_ (hp:=by exact(rV hv1)) (h:=by simp only[go_sem,hw1];rfl);refine qW (qY (qO O6 ?_));refine r8 d ?_ ?_<;>intro d Y
  .refine qO O6 ?_;refine qZ (rG ?_);cases d;exact pS []
  refine rF (qW ?_);obtain⟨X,W,d⟩:=pO d;obtain⟨V,U,d⟩:=pO d;obtain⟨T,d⟩:=qT d;refine x8 O6 ?_ (hp:=by exact⟨X,W,V,U,T⟩);refine qY (qO O6 ?_);refine sF ?_;obtain⟨aA,hy1,d⟩:=rE d;refine uQ 0 (fun s=>s=(fun x=>⟨[(2,.val .ref (some (0,0)),none),(7,.val .ref (some (1,0)),none)],[(0,.cells BR (([]:pP),(([]:pQ),(([]:pP),()))) [(1,2)]),(1,.cells BR ((sG O (0:Int) (qV (.int .i64) Z.2.2.2.2.2.2.2.2.2.2.2.1 (0:Int))),(x,((sG O (qV (.int .i64) Z.2.2.2.2.2.2.2.2.2.2.2.1 ((Z.2.2.2.2.2.2.2.2.2.2.2.1.length:Int)- (1:Int))) (O.length:Int)),()))) [(1,3)]),(2,.grow 9 1 (([]:pQ).length)),(3,.grow 9 1 (x.length))],4,74,0⟩) aA) ?_ ?_
  .refine uJ hy1 (fun x=>⟨[(0,.val .str O,none),(2,.val .ref (some (0,0)),none),(4,.val .ref (some (1,0)),none),(7,.val .ref (some (2,0)),none),(8,.val (.int .i64) x.1,none)],[(0,.cells BR (([]:pP),(([]:pQ),(([]:pP),()))) [(1,3)]),(1,.cells sV ((Z.1,(Z.2.1,(Z.2.2.1,(Z.2.2.2.1,())))),(Z.2.2.2.2.1,((Z.2.2.2.2.2.1,(Z.2.2.2.2.2.2.1,(Z.2.2.2.2.2.2.2.1,((some (4,Z.2.2.2.2.2.2.2.2.2.2.2.2.2.1)),(Z.2.2.2.2.2.2.2.2.1,(Z.2.2.2.2.2.2.2.2.2.1,((some (5,Z.2.2.2.2.2.2.2.2.2.2.2.2.2.2.2.1)),()))))))),((some 6),((some 7),((Z.2.2.2.2.2.2.2.2.2.2.1,1,(4,Z.2.2.2.2.2.2.2.2.2.2.2.2.2.1),(5,Z.2.2.2.2.2.2.2.2.2.2.2.2.2.2.2.1)),(Z.2.2.2.2.2.2.2.2.2.2.2.1,()))))))) [(3,8),(15,9)]),(2,.cells BR ((sG O (0:Int) (qV (.int .i64) Z.2.2.2.2.2.2.2.2.2.2.2.1 (0:Int))),(x.2,((sG O (qV (.int .i64) Z.2.2.2.2.2.2.2.2.2.2.2.1 ((Z.2.2.2.2.2.2.2.2.2.2.2.1.length:Int)- (1:Int))) (O.length:Int)),()))) [(1,10)]),(3,.grow 9 1 (([]:pQ).length)),(4,sI 9 .str Z.2.2.2.2.2.2.2.2.2.2.2.2.1 Z.2.2.2.2.2.2.2.2.2.2.2.2.2.1),(5,sI 110 rP Z.2.2.2.2.2.2.2.2.2.2.2.2.2.2.1 Z.2.2.2.2.2.2.2.2.2.2.2.2.2.2.2.1),(6,.map .str .bool Z.2.2.2.2.2.2.2.2.2.2.2.2.2.2.2.2.1),(7,.map .str .bool Z.2.2.2.2.2.2.2.2.2.2.2.2.2.2.2.2.2),(8,.grow 45 7 (Z.2.2.2.1.length)),(9,.grow 3 1 (Z.2.2.2.2.2.2.2.2.2.2.2.1.length)),(10,.grow 9 1 (x.2.length))],11,74,0⟩) ⟨[0,2,4,7,8],[(0,0),(1,96),(2,1152),(3,1),(4,97),(5,98),(6,99),(7,100),(8,101),(9,102),(10,1184)]⟩ qJ ?_
   intro x1 w1 n1 f g;obtain⟨aB,aC⟩:=x1;unfold QG at f;dsimp only at f|-;refine qY (qO O6 ?_);refine r8 f ?_ ?_<;>intro f Y
   .refine rF (qW (qY (sF ?_)));obtain⟨S,R,f⟩:=pO f;obtain⟨Q,P,f⟩:=pO f;obtain⟨M,f⟩:=qT f;refine II O6 ?_ (hp:=by exact⟨S,R,Q,P,qG,M⟩)
    refine sM (qW ?_);obtain⟨L,f⟩:=qT f;refine rT O6 ?_ (hp:=by exact L);cases f;exact tH ⟨⟨[0,2,4,7,8],[(0,0),(1,1),(2,2),(3,3),(4,4),(5,5),(6,6),(7,7),(8,8),(9,9),(10,10)]⟩,_,qJ,g⟩
   refine uF (uD (uG ?_));cases f;cases g;exact uR ⟨⟨[2,7],[(0,0),(1,2),(2,3),(3,10)]⟩,qJ⟩
  rintro _ rfl;dsimp only at d|-;refine uE (qW ?_);refine qO O5 ?_;refine qZ ?_;cases d;exact pS []
 rw[aFQ hva1] at d;obtain⟨aD,hv13,hw13,d⟩:=rW d
 try simp only[go_sem] at hw13
 refine rT a9I ?_ (hp:=by exact(rV hv13)) (h:=by simp only[go_sem,hw13];rfl);refine qW (qY (qO O5 ?_));refine r8 d ?_ ?_<;>intro d Y
 .refine qO O5 ?_;refine qZ (rG ?_);cases d;exact pS []
 cases d
def QH:Option Bool:=(A6 ([99,97,116,97,108,111,103,32,34,100,101,34,10,99,111,109,109,101,110,116,32,34,97,98,34,10,34,99,100,34,10,101,110,100,10,10,101,110,116,114,121,32,34,97,34,10,101,110,100]:pP)).bind fun O=>if (((((decide (O.2.2.2.2.2=(0:Int)))&&(decide (O.1=([100,101]:pP))))&&(decide ((O.2.1.length:Int)=(1:Int))))==true)=true->0<=(0:Int)/\(0:Int)<(O.2.1.length:Int)) then if (((((((decide (O.2.2.2.2.2=(0:Int)))&&(decide (O.1=([100,101]:pP))))&&(decide ((O.2.1.length:Int)=(1:Int))))&&(decide ((qV .str O.2.1 (0:Int))=([97,98,99,100]:pP))))&&(decide ((O.2.2.2.1.length:Int)=(1:Int))))==true)=true->0<=(0:Int)/\(0:Int)<(O.2.2.2.1.length:Int)) then some (((((((decide (O.2.2.2.2.2=(0:Int)))&&(decide (O.1=([100,101]:pP))))&&(decide ((O.2.1.length:Int)=(1:Int))))&&(decide ((qV .str O.2.1 (0:Int))=([97,98,99,100]:pP))))&&(decide ((O.2.2.2.1.length:Int)=(1:Int))))&&(decide ((qV tE O.2.2.2.1 (0:Int)).1=([97]:pP))))) else none else none
section
abbrev Gi:List qQ:=[]
abbrev Gj:List qP:=[]
@[go_sem] def Gk:r5:=⟨[(QH).isSome=true],[(.val .bool (val QH),none)],[]⟩
def a0U:List qQ->List qP->Option r5:=s9 (V:=Unit) (fun x=>Gi) (fun x=>Gj) fun x=>Gk
@[go_sem] def aFN:a0U (no_index Gi) (no_index Gj)=some Gk:=sB (fun _ _ h1 h2=>by cases h1;cases h2;rfl) ()
end
@[go_sem] abbrev Gl:Nat×rM:=(10,⟨[],a0U,[],[],none⟩)
def ZX:rJ prog [sS,xM,EI,AN,DG] (rK [ZW]):=⟨⟨sU,⟨yX,⟨GR,⟨BT,⟨FC,trivial⟩⟩⟩⟩⟩,r7 a0S rZ,rL⟩
def a9K:rS prog Gl:=by
 refine sC ZX func10 (c:=_) rfl (N:=43) qH (ts:=[(0,none)]) rfl (fun _ _=>rfl) ?_;intro⟨⟩ hs hrow;dsimp only[Gi,Gj,Gk,s7,rC,rI,rN,s8,Nat.reduceAdd] at hs hrow|-;have hz:=hs;obtain⟨z0,d⟩:=aFS.1 hz
 try rw[sH d]
 clear hz hs;unfold QH at d;refine qO ZX ?_;obtain⟨O,hv1,hw1,d⟩:=rW d
 try simp only[go_sem] at hw1
 refine qO ZX ?_ (hp:=by exact(rV hv1)) (h:=by simp only[go_sem,hw1];rfl);obtain⟨Y,X,d⟩:=pO d;refine qO ZX ?_ (hp:=by exact⟨id,id,sR,id,id,id,sR,id,id,Y,id,id,sR,id,id,id,sR,id,id,X,id,id,id,sR⟩);refine qZ ?_;cases d;exact pR []
attribute [irreducible] A6 DY QH
end
end Go.Proofs.YtcpbaddnmpeipaaGreatDoor
namespace Go.Proofs.YtcpbaddnmpeipaaGreatDoor
open Vc
end Go.Proofs.YtcpbaddnmpeipaaGreatDoor
namespace Go.Proofs.YtcpbaddnmpeipaaGreatDoor
open Vc
open Tryz
noncomputable section
def O7 (O:pP) (Z:Int) (aA:sQ):Option Bool:=QH.bind fun aB=>if (!aB)=true then some (false) else if (((decide ((4000:Int)<(O.length:Int)))==false)=true->((Q1 aA)).isSome=true) then if ((((decide ((4000:Int)<(O.length:Int)))||(!((decide ((((aA.1.length:Int)+(aA.2.1.length:Int))+(aA.2.2.1.length:Int))<=(6000:Int)))&&(decide (((val (A1 aA.2.2.2.1 aA.2.2.2.2.2.2.1))+(val (A1 aA.2.2.2.2.1 ([]:List r9))))<=(6000:Int))))))==false)=true->((QB aA)).isSome=true) then if (((decide ((4000:Int)<(O.length:Int)))||(!((decide ((((aA.1.length:Int)+(aA.2.1.length:Int))+(aA.2.2.1.length:Int))<=(6000:Int)))&&(decide (((val (A1 aA.2.2.2.1 aA.2.2.2.2.2.2.1))+(val (A1 aA.2.2.2.2.1 ([]:List r9))))<=(6000:Int))))))||(!((((((((((!decide (aA.1=([]:pP)))&&(decide ((aA.1.length:Int)<=(200:Int))))&&((decide ((aA.1.length:Int)<=(4000:Int)))&&(val (uZ aA.1))))&&((decide ((aA.2.1.length:Int)<=(4000:Int)))&&(val (uZ aA.2.1))))&&((decide ((aA.2.2.1.length:Int)<=(4000:Int)))&&(val (uZ aA.2.2.1))))&&(val (EP aA.2.2.2.1)))&&(val (FQ aA.2.2.2.2.1)))&&(decide ((0:Int)<=aA.2.2.2.2.2.1)))&&(decide (aA.2.2.2.2.2.1<=(4:Int))))&&(val (H8 aA.2.2.2.2.2.2.1)))))=true then some (true) else (DY O).bind fun aC=>(A6 O).bind fun aD=>if ((!decide (aC.2.2.2=(0:Int)))||(!decide (aD.2.2.2.2.2=(0:Int))))=true then some ((decide (aC.2.2.2=aD.2.2.2.2.2))) else (H9 (aD.1,(aD.2.1,(aD.2.2.1,(aD.2.2.2.1,()))))).bind fun aE=>(H9 (([120]:pP),(([]:pQ),(([]:List r9),(([aA]:List sQ),()))))).bind fun aF=>if ((((!decide (aE.2.2=(0:Int)))||(!decide (aF.2.2=(0:Int))))||(!decide ((aF.2.1.length:Int)=(1:Int))))||(!decide ((aC.2.1.length:Int)=(aD.2.2.2.1.length:Int))))=true then some (false) else (KX (aE.1,(aC.2.1,(([]:pP),())))).bind fun aG=>(A6 aG).bind fun aH=>if (((!decide (aH.2.2.2.2.2=(0:Int)))==false)=true->((NX (aH.1,(aH.2.1,(aH.2.2.1,(aH.2.2.2.1,())))) (aD.1,(aD.2.1,(aD.2.2.1,(aD.2.2.2.1,())))))).isSome=true) then if ((!decide (aH.2.2.2.2.2=(0:Int)))||(!((((decide (aH.1=aD.1))&&(val (xO aH.2.1 aD.2.1)))&&(val (B8 aH.2.2.1 aD.2.2.1)))&&(val (FL aH.2.2.2.1 aD.2.2.2.1)))))=true then some (false) else if (decide ((aC.2.1.length:Int)=(0:Int)))=true then some (true) else if (aC.2.1.length:Int)≠0 then (KK (aD.1,(aD.2.1,(aD.2.2.1,(aD.2.2.2.1,())))) aA.1).bind fun aI=>if (aI.2&&(!decide (aI.1=(Int.tmod (IntKind.wrap .i64 Z) (aC.2.1.length:Int)))))=true then some (true) else if (0+aC.2.1.length)*16<=140737488355328 then if 0<=(0:Int)/\(0:Int)<(aF.2.1.length:Int) then if 0<=(Int.tmod (IntKind.wrap .i64 Z) (aC.2.1.length:Int))/\(Int.tmod (IntKind.wrap .i64 Z) (aC.2.1.length:Int))<((((([]:pQ)++aC.2.1).length):Nat):Int) then if (0+aD.2.2.2.1.length)*128<=140737488355328 then if 0<=(Int.tmod (IntKind.wrap .i64 Z) (aC.2.1.length:Int))/\(Int.tmod (IntKind.wrap .i64 Z) (aC.2.1.length:Int))<((((([]:List sQ)++aD.2.2.2.1).length):Nat):Int) then (KX (aC.1,((List.set (([]:pQ)++aC.2.1) (Int.toNat (Int.tmod (IntKind.wrap .i64 Z) (aC.2.1.length:Int))) (qV .str aF.2.1 (0:Int))),(aC.2.2.1,())))).bind fun aJ=>(A6 aJ).bind fun aK=>if ((decide (aK.2.2.2.2.2=(0:Int)))==true)=true then if (((decide (aK.2.2.2.2.2=(0:Int)))==true)=true->((NX (aK.1,(aK.2.1,(aK.2.2.1,(aK.2.2.2.1,())))) (aD.1,(aD.2.1,(aD.2.2.1,((List.set (([]:List sQ)++aD.2.2.2.1) (Int.toNat (Int.tmod (IntKind.wrap .i64 Z) (aC.2.1.length:Int))) aA),())))))).isSome=true) then some (((decide (aK.2.2.2.2.2=(0:Int)))&&((((decide (aK.1=aD.1))&&(val (xO aK.2.1 aD.2.1)))&&(val (B8 aK.2.2.1 aD.2.2.1)))&&(val (FL aK.2.2.2.1 (List.set (([]:List sQ)++aD.2.2.2.1) (Int.toNat (Int.tmod (IntKind.wrap .i64 Z) (aC.2.1.length:Int))) aA)))))) else none else none else none else none else none else none else none else none else none else none else none
section
variable (O:pP) (Z:Int) (aA:sQ)
abbrev U3:List qQ:=[(.val .str O,none),(.val (.int .u8) Z,none),(.val tE aA,none)]
abbrev ZY:List qP:=[]
@[go_sem] def QI:r5:=⟨[((O7 O Z aA)).isSome=true],[(.val .bool (val (O7 O Z aA)),none)],[]⟩
def Gm:List qQ->List qP->Option r5:=s9 (V:=(pP×Int×sQ)) (fun x=>U3 x.1 x.2.1 x.2.2) (fun x=>ZY) fun x=>QI x.1 x.2.1 x.2.2
@[go_sem] def a9L:Gm (no_index (U3 O Z aA)) (no_index ZY)=some (QI O Z aA):=sB (fun⟨_,_,_⟩⟨_,_,_⟩ x y=>by cases x;cases y;rfl) (O,Z,aA)
end
@[go_sem] abbrev a9M:Nat×rM:=(8,⟨[.v,.v,.v],Gm,[],[],none⟩)
def vZ:rJ prog [vG,FD,sS,PM,YW,AN,GQ,DG] (rK [Gl,yd,Ee,Gg,ZW,Er,yp,Aw,nz]):=⟨⟨vR,⟨IN,⟨sU,⟨YU,⟨Tu,⟨BT,⟨KH,⟨FC,trivial⟩⟩⟩⟩⟩⟩⟩⟩,r7 a9K (r7 a8N (r7 a9j (r7 a9J (r7 a0S (r7 a9l (r7 a8O (r7 a83 (r7 a8l rZ)))))))),rL⟩
def U4:rJ prog [sS,PM,YW,AN,GQ,EJ] (rK [Gl,yd,Ee,Gg,ZW,Er,yp,Aw,nz]):=⟨⟨sU,⟨YU,⟨Tu,⟨BT,⟨KH,⟨GT,trivial⟩⟩⟩⟩⟩⟩,vZ.Γ,rL⟩
def a9N:rS prog a9M:=by
 refine sC vZ func8 (c:=_) rfl (N:=177) qH (ts:=[(6,none)]) rfl (fun _ _=>rfl) ?_;intro⟨O,Z,aA⟩ hs hrow;dsimp only[U3,ZY,QI,s7,rC,rI,rN,s8,Nat.reduceAdd] at hs hrow|-;have hz:=hs;obtain⟨z0,d⟩:=aFS.1 hz
 try rw[sH d]
 clear hz hs;unfold O7 at d;refine qO vZ ?_;refine qY ?_;obtain⟨aB,hv1,hw1,d⟩:=rW d
 try simp only[go_sem] at hw1
 refine qO vZ ?_ (hp:=by exact(rV hv1)) (h:=by simp (maxSteps:=2000000) only[go_sem,hw1];rfl);refine r8 d ?_ ?_<;>intro d Y
 .refine qO vZ ?_;refine qZ (rG ?_);cases d;exact pR []
 refine rF (qW (qY ?_));obtain⟨X,W,d⟩:=pO d;refine qO vZ ?_ (hp:=by exact⟨id,X,id,tK,id,W,id,tK⟩);refine r8 d ?_ ?_<;>intro d Y
 .refine qO vZ ?_;refine qZ (rG ?_);cases d;exact pR []
 refine rF (qW ?_);obtain⟨aC,hv4,hw4,d⟩:=rW d
 try simp only[go_sem] at hw4
 refine qO vZ ?_ (hp:=by exact(rV hv4)) (h:=by simp (maxSteps:=2000000) only[go_sem,hw4];rfl);obtain⟨aD,hv5,hw5,d⟩:=rW d
 try simp only[go_sem] at hw5
 refine qO vZ ?_ (hp:=by exact(rV hv5)) (h:=by simp (maxSteps:=2000000) only[go_sem,hw5];rfl);refine qY (qO vZ ?_ (hp:=by exact⟨id,tK⟩));refine r8 d ?_ ?_<;>intro d Y
 .refine qO vZ ?_;refine qZ (rG ?_);cases d;exact pR []
 refine rF (qW ?_);obtain⟨aE,hv6,hw6,d⟩:=rW d
 try simp only[go_sem] at hw6
 refine qO vZ ?_ (hp:=by exact(rV hv6)) (h:=by simp (maxSteps:=2000000) only[go_sem,hw6];rfl);obtain⟨aF,hv7,hw7,d⟩:=rW d
 try simp only[go_sem] at hw7
 refine qO vZ ?_ (hp:=by exact(rV hv7)) (h:=by simp (maxSteps:=2000000) only[go_sem,hw7];rfl);refine qY (qO vZ ?_ (hp:=by exact⟨id,tK,id,id,id,tK,id,id,id,id,id,id,tK⟩));refine r8 d ?_ ?_<;>intro d Y
 .refine qO vZ ?_;refine qZ (rG ?_);cases d;exact pR []
 refine rF (qW (qO vZ ?_));refine qO vZ ?_;obtain⟨aG,hv8,hw8,d⟩:=rW d
 try simp only[go_sem] at hw8
 obtain⟨aH,hv9,hw9,d⟩:=rW d
 try simp only[go_sem] at hw9
 refine qO vZ ?_ (hp:=by exact⟨rV hv8,(rV hv9)⟩) (h:=by simp (maxSteps:=2000000) only[go_sem,hw8,hw9];rfl);refine qY ?_;obtain⟨V,d⟩:=qT d;refine qO vZ ?_ (hp:=by exact⟨id,id,V,id,tK⟩);refine r8 d ?_ ?_<;>intro d Y
 .refine qO vZ ?_;refine qZ (rG ?_);cases d;exact pR []
 refine rF (qW (qY (qO vZ ?_)));refine r8 d ?_ ?_<;>intro d Y
 .refine qO vZ ?_;refine qZ (rG ?_);cases d;exact pR []
 refine rF (qW ?_);obtain⟨U,d⟩:=qT d;refine qO vZ ?_ (hp:=by exact U);refine qY ?_;obtain⟨aI,hv12,hw12,d⟩:=rW d
 try simp only[go_sem] at hw12
 refine qO vZ ?_ (hp:=by exact(rV hv12)) (h:=by simp (maxSteps:=2000000) only[go_sem,hw12];rfl);refine qO vZ ?_ (hp:=by exact⟨id,id,sR⟩);refine r8 d ?_ ?_<;>intro d Y
 .refine qO vZ ?_;refine qZ (rG ?_);cases d;exact pR []
 refine rF (qW (qO vZ ?_));obtain⟨T,d⟩:=qT d;refine qO vZ ?_ (hp:=by exact⟨qG,T⟩)
 obtain⟨S,R,d⟩:=pO d;refine x8 U4 ?_ (hp:=by exact⟨S,R,qG⟩)
 refine qO U4 ?_;obtain⟨Q,d⟩:=qT d;refine qO U4 ?_ (hp:=by exact⟨qG,Q⟩)
 obtain⟨P,d⟩:=qT d;refine qO vZ ?_ (hp:=by exact⟨P,qG⟩)
 obtain⟨aJ,hv18,hw18,d⟩:=rW d
 try simp only[go_sem] at hw18
 obtain⟨aK,hv19,hw19,d⟩:=rW d
 try simp only[go_sem] at hw19
 refine qO U4 ?_ (hp:=by exact⟨qG,rV hv18,(rV hv19)⟩) (h:=by simp (maxSteps:=2000000) only[go_sem,hw18,hw19];rfl)
 obtain⟨M,L,d⟩:=pO d;refine qO U4 ?_ (hp:=by exact⟨M,fun _=>(by first|rfl|trivial),id,L,sR⟩)
 refine qZ ?_;cases d;exact pR []
attribute [irreducible] O7
end
end Go.Proofs.YtcpbaddnmpeipaaGreatDoor
section
end
