/- Packed by a program of mine (wip/tools/pack.py): the same texts with short names and few blanks. -/
import Derived.KernelRfl
import Derived.Test.YtbbpilohihldiaaGreatDoorJ02
set_option linter.unusedVariables false
set_option linter.unusedSimpArgs false
set_option linter.unusedSectionVars false
set_option maxRecDepth 100000
set_option maxHeartbeats 4000000
namespace Go.Proofs.YtbbpilohihldiaaGreatDoor
open Vc
noncomputable section
def KC (O:qZ):Int→Option (Int⊕(Unit⊕Bool)):=fun Z=>if (decide (Z<(O.2.2.2.1.length:Int)))=true then if 0≤Z∧Z<(O.2.2.2.1.length:Int) then (MP (pU rN O.2.2.2.1 Z)).bind fun aA=>if (!((decide ((((((pU rN O.2.2.2.1 Z).1).length:Int)+(((pU rN O.2.2.2.1 Z).2.1).length:Int))+(((pU rN O.2.2.2.1 Z).2.2.1).length:Int))≤(6000:Int)))&&(decide (((val (yE ((pU rN O.2.2.2.1 Z).2.2.2.1) ((pU rN O.2.2.2.1 Z).2.2.2.2.2.2.1)))+(val (yE ((pU rN O.2.2.2.1 Z).2.2.2.2.1) ([]:List pV))))≤(6000:Int)))))=true then some (.inr (.inr (false))) else if pE (Z+(1:Int)) then some (.inl (Z+(1:Int))) else none else none else some (.inr (.inl ()))
def KD (O:qZ):Option Bool:=if (((decide ((100:Int)<(O.1.length:Int)))==false)=true→((yE O.2.1 O.2.2.1)).isSome=true) then if (((decide ((100:Int)<(O.1.length:Int)))||(decide ((6000:Int)<(val (yE O.2.1 O.2.2.1)))))||(decide ((12:Int)<(O.2.2.2.1.length:Int))))=true then some (false) else rW (qB (KC O) (0:Int)) fun _=>some (true) else none
section
variable (O:qZ)
abbrev a4Z:List pD:=[(.val wH O,none)]
abbrev a40:List pC:=[]
@[go_sem] def a41:pJ:=⟨[((KD O)).isSome=true],[(.val .bool (val (KD O)),none)],[]⟩
def aER:List pD→List pC→Option pJ:=qP (V:=qZ) (fun x=>a4Z x) (fun x=>a40) fun x=>a41 x
@[go_sem] theorem aSI:aER (no_index (a4Z O)) (no_index a40)=some (a41 O):=qQ (fun a0 b0 h1 h2=>by cases h1;cases h2;rfl) O
end
@[go_sem] abbrev aES:Nat×qC:=(29,⟨[.v],aER,[],[],none⟩)
theorem F7:qG Tryz.prog [rP,uW,w5,DN,zR,yZ] (qE [a0X,aEf]):=⟨⟨rQ,⟨vJ,⟨wU,⟨G8,⟨BD,⟨AL,trivial⟩⟩⟩⟩⟩⟩,pM aCI (pM aMG qS),qI⟩
theorem aMW:qJ Tryz.prog aES:=by
 refine qR F7 Tryz.func29 (c:=_) rfl (N:=36) (by kernel_rfl) (ts:=[(2,none)]) rfl (fun _ _=>rfl) ?_;intro O hs hrow;dsimp only[a4Z,a40,a41,qM,pN,pW,qH,qO,Nat.reduceAdd] at hs hrow⊢;have hz:=hs;obtain⟨z0,hC0⟩:=aTF.1 hz
 try rw[r8 hC0]
 clear hz hs;unfold KD at hC0;refine pB F7 ?_;refine pP ?_;obtain⟨hg1,hC0⟩:=pI hC0;refine pB F7 ?_ (hp:=by exact⟨fun hh=>hh,fun hh=>hh,fun hh=>hh,fun hh=>hh,hg1,fun hh=>hh,fun hh=>sR hh,fun hh=>hh,fun hh=>hh,fun hh=>hh,(fun hh=>sR hh)⟩);refine pO hC0 (fun hC0 hc1=> ?_) (fun hC0 hc1=> ?_)
 ·refine pB F7 ?_;refine pK (qW ?_);cases hC0;exact⟨[],by rfl,by rfl,by rfl⟩
 ·refine qD (pL (pP ?_));refine pB F7 ?_;refine rC ?_;obtain⟨y1,hy1,hC0⟩:=uI hC0;refine t7 0 (fun s=> ∃v,y1= .inl v∧s=(fun _=>⟨[],[],0,36,0⟩) v) ?_ ?_
  ·refine t6 hy1 (fun x=>⟨[(1,(.val .ref (some (0,0)),none)),(3,(.val (.int .i64) x,none))],[(0,.cells wH O [])],1,36,0⟩) ⟨[1,3],[(0,0)]⟩ (by rfl) ?_;intro Z w1 n1 hC1 hN1;unfold KC at hC1;dsimp only at hC1⊢;refine pP ?_;refine pB F7 ?_;refine pO hC1 (fun hC1 hc2=> ?_) (fun hC1 hc2=> ?_)
   ·refine qD (pL (pP (rC ?_)));obtain⟨hg2,hC1⟩:=pI hC1;obtain⟨aA,hv3,hw3,hC1⟩:=pZ hC1
    try simp only[go_sem] at hw3
    refine pB F7 ?_ (hp:=by exact⟨hg2,(pY hv3)⟩) (h:=by simp only[go_sem,hw3];rfl);refine pO hC1 (fun hC1 hc3=> ?_) (fun hC1 hc3=> ?_)
    ·refine pB F7 ?_;refine pK (rE (qW (uL (uK (rE (qW ?_))))));cases hC1;cases hN1;dsimp only at hC0;cases hC0;exact⟨[],by rfl,by rfl,by rfl⟩
    ·refine qD (qY (pL ?_));obtain⟨hg4,hC1⟩:=pI hC1;refine qU F7 ?_ (hp:=by exact hg4);cases hC1;exact s7 ⟨⟨[1,3],[(0,0)]⟩,_,by rfl,hN1⟩
   ·refine sO (sW (sQ ?_));cases hC1;cases hN1;exact sP ⟨⟨[],[]⟩,_,rfl,by rfl⟩
  ·rintro _ ⟨v,rfl,rfl⟩;dsimp only at hC0⊢;refine sZ (pL ?_);refine pB F7 ?_;refine pK ?_;cases hC0;exact⟨[],by rfl,by rfl,by rfl⟩
attribute [irreducible] KD
def QB (O:(List (List UInt8))):Int→Option (Int⊕(Unit⊕Bool)):=fun Z=>if (decide (Z<(O.length:Int)))=true then if 0≤Z∧Z<(O.length:Int) then (F6 (pU .str O Z)).bind fun aA=>if ((((!aA)==false)&&((decide ((0:Int)<Z))==true))=true→0≤Z∧Z<(O.length:Int)) then if ((((!aA)==false)&&((decide ((0:Int)<Z))==true))=true→pE (Z- (1:Int))) then if ((((!aA)==false)&&((decide ((0:Int)<Z))==true))=true→0≤(Z- (1:Int))∧(Z- (1:Int))<(O.length:Int)) then if ((!aA)||((decide ((0:Int)<Z))&&(Op.bytesLess (pU .str O Z) (pU .str O (Z- (1:Int)))||decide ((pU .str O Z)=(pU .str O (Z- (1:Int)))))))=true then some (.inr (.inr (false))) else if pE (Z+(1:Int)) then some (.inl (Z+(1:Int))) else none else none else none else none else none else some (.inr (.inl ()))
def E2 (O:(List (List UInt8))):Option Bool:=rW (qB (QB O) (0:Int)) fun _=>some ((decide ((O.length:Int)≤(20:Int))))
section
variable (O:(List (List UInt8)))
abbrev a42:List pD:=[(.val (.list .str) O,none)]
abbrev a43:List pC:=[]
@[go_sem] def a44:pJ:=⟨[((E2 O)).isSome=true],[(.val .bool (val (E2 O)),none)],[]⟩
def aET:List pD→List pC→Option pJ:=qP (V:=(List (List UInt8))) (fun x=>a42 x) (fun x=>a43) fun x=>a44 x
@[go_sem] theorem aSJ:aET (no_index (a42 O)) (no_index a43)=some (a44 O):=qQ (fun a0 b0 h1 h2=>by cases h1;cases h2;rfl) O
end
@[go_sem] abbrev aEU:Nat×qC:=(71,⟨[.v],aET,[],[],none⟩)
theorem IA:qG Tryz.prog [rP,uW] (qE [a33]):=⟨⟨rQ,⟨vJ,trivial⟩⟩,pM aEn qS,qI⟩
theorem aMX:qJ Tryz.prog aEU:=by
 refine qR IA Tryz.func71 (c:=_) rfl (N:=35) (by kernel_rfl) (ts:=[(2,none)]) rfl (fun _ _=>rfl) ?_;intro O hs hrow;dsimp only[a42,a43,a44,qM,pN,pW,qH,qO,Nat.reduceAdd] at hs hrow⊢;have hz:=hs;obtain⟨z0,hC0⟩:=aTF.1 hz
 try rw[r8 hC0]
 clear hz hs;unfold E2 at hC0;refine pB IA ?_;refine pP ?_;refine pB IA ?_;refine rC ?_;obtain⟨y1,hy1,hC0⟩:=uI hC0;refine t7 0 (fun s=> ∃v,y1= .inl v∧s=(fun _=>⟨[(0,(.val (.list .str) O,none))],[],0,35,0⟩) v) ?_ ?_
 ·refine t6 hy1 (fun x=>⟨[(0,(.val (.list .str) O,none)),(3,(.val (.int .i64) x,none))],[],0,35,0⟩) ⟨[0,3],[]⟩ (by rfl) ?_;intro Z w1 n1 hC1 hN1;unfold QB at hC1;dsimp only at hC1⊢;refine pP ?_;refine pB IA ?_;refine pO hC1 (fun hC1 hc1=> ?_) (fun hC1 hc1=> ?_)
  ·refine qD (pL (pP (rC ?_)));obtain⟨hg1,hC1⟩:=pI hC1;obtain⟨aA,hv2,hw2,hC1⟩:=pZ hC1
   try simp only[go_sem] at hw2
   obtain⟨hg3,hC1⟩:=pI hC1;obtain⟨hg4,hC1⟩:=pI hC1;obtain⟨hg5,hC1⟩:=pI hC1;refine xD IA ?_ (hp:=by exact⟨hg1,pY hv2,fun hh=>hh,fun hh=>hh,fun hh=>hh,fun hh=>hh,hg3,fun hh=>hh,fun hh=>hh,hg4,fun hh=>hh,fun hh=>hh,hg5,fun hh=>hh,fun hh=>hh,fun hh=>hh,fun hh=>hh,fun hG hh=>EV hG hh,(fun hh=>sR hh)⟩) (h:=by simp only[go_sem,hw2];rfl);refine pO hC1 (fun hC1 hc2=> ?_) (fun hC1 hc2=> ?_)
   ·refine pB IA ?_;refine pK (rE (qW (uL (uK (rE (qW ?_))))));cases hC1;cases hN1;dsimp only at hC0;cases hC0;exact⟨[],by rfl,by rfl,by rfl⟩
   ·refine qD (qY (pL ?_));obtain⟨hg6,hC1⟩:=pI hC1;refine qU IA ?_ (hp:=by exact hg6);cases hC1;exact s7 ⟨⟨[0,3],[]⟩,_,by rfl,hN1⟩
  ·refine sO (sW (sQ ?_));cases hC1;cases hN1;exact sP ⟨⟨[0],[]⟩,_,rfl,by rfl⟩
 ·rintro _ ⟨v,rfl,rfl⟩;dsimp only at hC0⊢;refine sZ (pL ?_);refine pB IA ?_;refine pK ?_;cases hC0;exact⟨[],by rfl,by rfl,by rfl⟩
attribute [irreducible] E2
def QC (O:(List pV)):Int→Option (Int⊕(Unit⊕Bool)):=fun Z=>if (decide (Z<(O.length:Int)))=true then if 0≤Z∧Z<(O.length:Int) then (CX ((pU (.pair .str (.pair .str .unit)) O Z).1)).bind fun aA=>if (((!aA)==false)=true→((DY ((pU (.pair .str (.pair .str .unit)) O Z).2.1))).isSome=true) then if (((((!aA)||(!((decide ((((pU (.pair .str (.pair .str .unit)) O Z).2.1).length:Int)≤(4000:Int)))&&(Lib.validD ((pU (.pair .str (.pair .str .unit)) O Z).2.1)))))==false)&&((decide ((0:Int)<Z))==true))=true→pE (Z- (1:Int))) then if (((((!aA)||(!((decide ((((pU (.pair .str (.pair .str .unit)) O Z).2.1).length:Int)≤(4000:Int)))&&(Lib.validD ((pU (.pair .str (.pair .str .unit)) O Z).2.1)))))==false)&&((decide ((0:Int)<Z))==true))=true→0≤(Z- (1:Int))∧(Z- (1:Int))<(O.length:Int)) then if (((!aA)||(!((decide ((((pU (.pair .str (.pair .str .unit)) O Z).2.1).length:Int)≤(4000:Int)))&&(Lib.validD ((pU (.pair .str (.pair .str .unit)) O Z).2.1)))))||((decide ((0:Int)<Z))&&(!Op.bytesLess (pU (.pair .str (.pair .str .unit)) O (Z- (1:Int))).1 (pU (.pair .str (.pair .str .unit)) O Z).1)))=true then some (.inr (.inr (false))) else if pE (Z+(1:Int)) then some (.inl (Z+(1:Int))) else none else none else none else none else none else some (.inr (.inl ()))
def F8 (O:(List pV)):Option Bool:=rW (qB (QC O) (0:Int)) fun _=>some ((decide ((O.length:Int)≤(20:Int))))
section
variable (O:(List pV))
abbrev a45:List pD:=[(.val (.list (.pair .str (.pair .str .unit))) O,none)]
abbrev a47:List pC:=[]
@[go_sem] def a48:pJ:=⟨[((F8 O)).isSome=true],[(.val .bool (val (F8 O)),none)],[]⟩
def aEV:List pD→List pC→Option pJ:=qP (V:=(List pV)) (fun x=>a45 x) (fun x=>a47) fun x=>a48 x
@[go_sem] theorem aSK:aEV (no_index (a45 O)) (no_index a47)=some (a48 O):=qQ (fun a0 b0 h1 h2=>by cases h1;cases h2;rfl) O
end
@[go_sem] abbrev a49:Nat×qC:=(108,⟨[.v],aEV,[],[],none⟩)
theorem GP:qG Tryz.prog [rP,w5,C3] (qE [JZ,Q8]):=⟨⟨rQ,⟨wU,⟨DO,trivial⟩⟩⟩,pM V4 (pM VD qS),qI⟩
theorem aEW:qJ Tryz.prog a49:=by
 refine qR GP Tryz.func108 (c:=_) rfl (N:=41) (by kernel_rfl) (ts:=[(2,none)]) rfl (fun _ _=>rfl) ?_;intro O hs hrow;dsimp only[a45,a47,a48,qM,pN,pW,qH,qO,Nat.reduceAdd] at hs hrow⊢;have hz:=hs;obtain⟨z0,hC0⟩:=aTF.1 hz
 try rw[r8 hC0]
 clear hz hs;unfold F8 at hC0;refine pB GP ?_;refine pP ?_;refine pB GP ?_;refine rC ?_;obtain⟨y1,hy1,hC0⟩:=uI hC0;refine t7 0 (fun s=> ∃v,y1= .inl v∧s=(fun _=>⟨[(0,(.val (.list (.pair .str (.pair .str .unit))) O,none))],[],0,41,0⟩) v) ?_ ?_
 ·refine t6 hy1 (fun x=>⟨[(0,(.val (.list (.pair .str (.pair .str .unit))) O,none)),(5,(.val (.list (.pair .str (.pair .str .unit))) O,none)),(6,(.val (.int .i64) (O.length:Int),none)),(7,(.val (.int .i64) x,none))],[],0,41,0⟩) ⟨[0,5,6,7],[]⟩ (by rfl) ?_;intro Z w1 n1 hC1 hN1;unfold QC at hC1;dsimp only at hC1⊢;refine pB GP ?_;refine pP ?_;refine pO hC1 (fun hC1 hc1=> ?_) (fun hC1 hc1=> ?_)
  ·refine qD (pL (pP (rC ?_)));obtain⟨hg1,hC1⟩:=pI hC1;refine pB GP ?_ (hp:=by exact hg1);obtain⟨aA,hv2,hw2,hC1⟩:=pZ hC1
   try simp only[go_sem] at hw2
   obtain⟨hg3,hC1⟩:=pI hC1;obtain⟨hg4,hC1⟩:=pI hC1;obtain⟨hg5,hC1⟩:=pI hC1;refine xD GP ?_ (hp:=by exact⟨pY hv2,fun hh=>hh,fun hh=>hh,hg3,fun hh=>hh,fun hh=>sR hh,fun hh=>hh,fun hh=>hh,fun hh=>hh,hg4,fun hh=>hh,fun hh=>hh,hg5,fun hh=>hh,fun hh=>hh,fun hh=>hh,fun hh=>hh,fun hh=>hh,fun hh=>hh,fun hG hh=>EV hG hh,(fun hh=>sR hh)⟩) (h:=by simp only[go_sem,hw2];rfl);refine pO hC1 (fun hC1 hc2=> ?_) (fun hC1 hc2=> ?_)
   ·refine pB GP ?_;refine pK (rE (qW (uL (uK (rE (qW ?_))))));cases hC1;cases hN1;dsimp only at hC0;cases hC0;exact⟨[],by rfl,by rfl,by rfl⟩
   ·refine qD (qY (pL ?_));obtain⟨hg6,hC1⟩:=pI hC1;refine qU GP ?_ (hp:=by exact hg6);cases hC1;exact s7 ⟨⟨[0,5,6,7],[]⟩,_,by rfl,hN1⟩
  ·refine sO (sW (sQ ?_));cases hC1;cases hN1;exact sP ⟨⟨[0],[]⟩,_,rfl,by rfl⟩
 ·rintro _ ⟨v,rfl,rfl⟩;dsimp only at hC0⊢;refine sZ (pL ?_);refine pB GP ?_;refine pK ?_;cases hC0;exact⟨[],by rfl,by rfl,by rfl⟩
attribute [irreducible] F8
def QD (O:Int) (Z:(List UInt8)):(Int×(List Int))→Option ((Int×(List Int))⊕(List Int)):=fun(aA,aB)=>if (decide (aA<(Z.length:Int)))=true then if (decide (O=(4:Int)))=true then if 0≤aA∧aA<(Z.length:Int) then if False then (CV (aB,()) (UJ (pR Z aA))).bind fun aC=>if pE (aA+(1:Int)) then some (.inl ((aA+(1:Int)),(aB++sJ (UJ (pR Z aA))))) else none else none else none else if 0≤aA∧aA<(Z.length:Int) then (GM O (pR Z aA) (decide (aA=(0:Int)))).bind fun aD=>(CV (aB,()) aD).bind fun aE=>if pE (aA+(1:Int)) then some (.inl ((aA+(1:Int)),(aB++sJ aD))) else none else none else some (.inr aB)
def IB (O:Int) (Z:(List UInt8)):Option (List UInt8):=if (!((decide ((1:Int)≤O))&&(decide (O≤(4:Int)))))=true then some (([]:List UInt8)) else rH (qB (QD O Z) ((0:Int),([]:List Int))) fun aA=>some ((s5 aA))
section
variable (O:Int) (Z:(List UInt8))
abbrev a5a:List pD:=[(.val (.int .i64) O,none),(.val .str Z,none)]
abbrev a5b:List pC:=[]
@[go_sem] def a5c:pJ:=⟨[((IB O Z)).isSome=true],[(.val .str (val (IB O Z)),none)],[]⟩
def aEX:List pD→List pC→Option pJ:=qP (V:=(Int×(List UInt8))) (fun x=>a5a x.1 x.2) (fun x=>a5b) fun x=>a5c x.1 x.2
@[go_sem] theorem aSL:aEX (no_index (a5a O Z)) (no_index a5b)=some (a5c O Z):=qQ (fun⟨a0,a1⟩ ⟨b0,b1⟩ h1 h2=>by cases h1;cases h2;rfl) (O,Z)
end
@[go_sem] abbrev aEY:Nat×qC:=(110,⟨[.v,.v],aEX,[],[],none⟩)
theorem BI:qG Tryz.prog [rP,G9] (qE [UY,aCw,UU,aEx,PP]):=⟨⟨rQ,⟨JX,trivial⟩⟩,pM a1K (pM aMc (pM a0T (pM aMN (pM UT qS)))),qI⟩
theorem aMY:qJ Tryz.prog aEY:=by
 refine qR BI Tryz.func110 (c:=_) rfl (N:=32) (by kernel_rfl) (ts:=[(4,none)]) rfl (fun _ _=>rfl) ?_;intro⟨O,Z⟩ hs hrow;dsimp only[a5a,a5b,a5c,qM,pN,pW,qH,qO,Nat.reduceAdd] at hs hrow⊢;have hz:=hs;obtain⟨z0,hC0⟩:=aTF.1 hz
 try rw[r8 hC0]
 clear hz hs;unfold IB at hC0;refine pB BI ?_;refine pP ?_;refine pB BI ?_;refine pO hC0 (fun hC0 hc1=> ?_) (fun hC0 hc1=> ?_)
 ·refine pB BI ?_;refine pK (qW ?_);cases hC0;exact⟨[],by rfl,by rfl,by rfl⟩
 ·refine qD (pL ?_);refine pB BI ?_;refine pP ?_;refine pB BI ?_;refine rC ?_;obtain⟨aA,hy1,hC0⟩:=pF hC0;refine t7 0 (fun s=>s=(fun x=>⟨[(5,(.val .ref (some (0,0)),none))],[(0,.cells wT ((some (0,0)),(x,())) [(1,1)]),(1,.grow 5 1 (x.length))],2,32,0⟩) aA) ?_ ?_
  ·refine t6 hy1 (fun x=>⟨[(0,(.val (.int .i64) O,none)),(1,(.val .str Z,none)),(5,(.val .ref (some (0,0)),none)),(11,(.val (.int .i64) (Z.length:Int),none)),(12,(.val (.int .i64) x.1,none))],[(0,.cells wT ((some (0,0)),(x.2,())) [(1,1)]),(1,.grow 5 1 (x.2.length))],2,32,0⟩) ⟨[0,1,5,11,12],[(0,128),(1,129)]⟩ (by rfl) ?_;intro x1 w1 n1 hC1 hN1;obtain⟨aB,aC⟩:=x1;unfold QD at hC1;dsimp only at hC1⊢;refine pB BI ?_;refine pP ?_;refine pO hC1 (fun hC1 hc2=> ?_) (fun hC1 hc2=> ?_)
   ·refine qD (pL (pP (rC ?_)));refine pB BI ?_;refine pB BI ?_;refine pO hC1 (fun hC1 hc3=> ?_) (fun hC1 hc3=> ?_)
    ·obtain⟨hg1,hC1⟩:=pI hC1;obtain⟨hg2,hC1⟩:=pI hC1;obtain⟨aD,hv3,hw3,hC1⟩:=pZ hC1
     try simp only[go_sem] at hw3
     refine qU BI ?_ (hp:=by exact⟨hg1,hg2,by first|rfl|trivial,(pY hv3)⟩) (h:=by simp only[go_sem,hw3];rfl)
     refine qY (pL ?_);obtain⟨hg4,hC1⟩:=pI hC1;refine qU BI ?_ (hp:=by exact hg4);cases hC1;exact s7 ⟨⟨[0,1,5,11,12],[(0,0),(1,1)]⟩,_,by rfl,hN1⟩
    ·obtain⟨hg5,hC1⟩:=pI hC1;obtain⟨aE,hv6,hw6,hC1⟩:=pZ hC1
     try simp only[go_sem] at hw6
     obtain⟨aF,hv7,hw7,hC1⟩:=pZ hC1
     try simp only[go_sem] at hw7
     refine qU BI ?_ (hp:=by exact⟨hg5,pY hv6,by first|rfl|trivial,(pY hv7)⟩) (h:=by simp only[go_sem,hw6,hw7];rfl)
     refine qY (pL ?_);obtain⟨hg8,hC1⟩:=pI hC1;refine qU BI ?_ (hp:=by exact hg8);cases hC1;exact s7 ⟨⟨[0,1,5,11,12],[(0,0),(1,1)]⟩,_,by rfl,hN1⟩
   ·refine sO (sW (sQ ?_));cases hC1;cases hN1;exact sP ⟨⟨[5],[(0,0),(1,1)]⟩,by rfl⟩
  ·rintro _ rfl;dsimp only at hC0⊢;refine sZ (pL ?_);refine pB BI ?_ (hp:=by first|rfl|trivial)
   refine pK ?_;cases hC0;exact⟨[],by rfl,by rfl,by rfl⟩
attribute [irreducible] IB
end
noncomputable section
def tM (O:(List UInt8)):Option Bool:=(I4 O).bind fun Z=>(KA Z).bind fun aA=>some ((decide (aA=O)))
section
variable (O:(List UInt8))
abbrev a5d:List pD:=[(.val .str O,none)]
abbrev a5e:List pC:=[]
@[go_sem] def a5f:pJ:=⟨[((tM O)).isSome=true],[(.val .bool (val (tM O)),none)],[]⟩
def aEZ:List pD→List pC→Option pJ:=qP (V:=(List UInt8)) (fun x=>a5d x) (fun x=>a5e) fun x=>a5f x
@[go_sem] theorem aSM:aEZ (no_index (a5d O)) (no_index a5e)=some (a5f O):=qQ (fun a0 b0 h1 h2=>by cases h1;cases h2;rfl) O
end
@[go_sem] abbrev aE0:Nat×qC:=(115,⟨[.v],aEZ,[],[],none⟩)
theorem a5g:qG Tryz.prog [] (qE [aEB,aEz]):=⟨trivial,pM aMP (pM aMO qS),qI⟩
theorem aMZ:qJ Tryz.prog aE0:=by
 refine qR a5g Tryz.func115 (c:=_) rfl (N:=8) (by kernel_rfl) (ts:=[(2,none)]) rfl (fun _ _=>rfl) ?_;intro O hs hrow;dsimp only[a5d,a5e,a5f,qM,pN,pW,qH,qO,Nat.reduceAdd] at hs hrow⊢;have hz:=hs;obtain⟨z0,hC0⟩:=aTF.1 hz
 try rw[r8 hC0]
 clear hz hs;unfold tM at hC0;refine pB a5g ?_;obtain⟨Z,hv1,hw1,hC0⟩:=pZ hC0
 try simp only[go_sem] at hw1
 obtain⟨aA,hv2,hw2,hC0⟩:=pZ hC0
 try simp only[go_sem] at hw2
 refine pB a5g ?_ (hp:=by exact⟨pY hv1,(pY hv2)⟩) (h:=by simp only[go_sem,hw1,hw2];rfl);refine pK ?_;cases hC0;exact⟨[],by rfl,by rfl,by rfl⟩
attribute [irreducible] tM
def QE (O:(List UInt8)):Option Unit:=(DY O).bind fun Z=>some (())
section
variable (O:(List UInt8))
abbrev a5h:List pD:=[(.val .str O,none)]
abbrev a5i:List pC:=[]
@[go_sem] def a5j:pJ:=⟨[((QE O)).isSome=true],[(.val .bool (!((decide ((O.length:Int)≤(4000:Int)))&&(Lib.validD O))),none)],[]⟩
def aE1:List pD→List pC→Option pJ:=qP (V:=(List UInt8)) (fun x=>a5h x) (fun x=>a5i) fun x=>a5j x
@[go_sem] theorem aSN:aE1 (no_index (a5h O)) (no_index a5i)=some (a5j O):=qQ (fun a0 b0 h1 h2=>by cases h1;cases h2;rfl) O
end
@[go_sem] abbrev aE2:Nat×qC:=(160,⟨[.v],aE1,[],[],none⟩)
theorem a5k:qG Tryz.prog [] (qE [Q8]):=⟨trivial,pM VD qS,qI⟩
theorem aM0:qJ Tryz.prog aE2:=by
 refine qR a5k Tryz.func160 (c:=_) rfl (N:=6) (by kernel_rfl) (ts:=[(2,none)]) rfl (fun _ _=>rfl) ?_;intro O hs hrow;dsimp only[a5h,a5i,a5j,qM,pN,pW,qH,qO,Nat.reduceAdd] at hs hrow⊢;have hz:=hs;obtain⟨z0,hC0⟩:=aTF.1 hz
 try rw[r8 hC0]
 clear hz hs;unfold QE at hC0;refine pB a5k ?_;obtain⟨Z,hv1,hw1,hC0⟩:=pZ hC0
 try simp only[go_sem] at hw1
 refine pB a5k ?_ (hp:=by exact(pY hv1)) (h:=by simp only[go_sem,hw1];rfl);refine pK ?_;cases hC0;exact⟨[],by rfl,by rfl,by rfl⟩
attribute [irreducible] QE
def AM (O:(List UInt8)):Option (List UInt8):=(IB (3:Int) O).bind fun Z=>if ((([34]:List UInt8)++Z).length:Int)≤9223372036854775807 then if (((([34]:List UInt8)++Z)++([34]:List UInt8)).length:Int)≤9223372036854775807 then some (((([34]:List UInt8)++Z)++([34]:List UInt8))) else none else none
section
variable (O:(List UInt8))
abbrev a5l:List pD:=[(.val .str O,none)]
abbrev a5m:List pC:=[]
@[go_sem] def a5n:pJ:=⟨[((AM O)).isSome=true],[(.val .str (val (AM O)),none)],[]⟩
def aE3:List pD→List pC→Option pJ:=qP (V:=(List UInt8)) (fun x=>a5l x) (fun x=>a5m) fun x=>a5n x
@[go_sem] theorem aSO:aE3 (no_index (a5l O)) (no_index a5m)=some (a5n O):=qQ (fun a0 b0 h1 h2=>by cases h1;cases h2;rfl) O
end
@[go_sem] abbrev QF:Nat×qC:=(60,⟨[.v],aE3,[],[],none⟩)
theorem a5o:qG Tryz.prog [] (qE [aEY]):=⟨trivial,pM aMY qS,qI⟩
theorem VG:qJ Tryz.prog QF:=by
 refine qR a5o Tryz.func60 (c:=_) rfl (N:=7) (by kernel_rfl) (ts:=[(2,none)]) rfl (fun _ _=>rfl) ?_;intro O hs hrow;dsimp only[a5l,a5m,a5n,qM,pN,pW,qH,qO,Nat.reduceAdd] at hs hrow⊢;have hz:=hs;obtain⟨z0,hC0⟩:=aTF.1 hz
 try rw[r8 hC0]
 clear hz hs;unfold AM at hC0;refine pB a5o ?_;obtain⟨Z,hv1,hw1,hC0⟩:=pZ hC0
 try simp only[go_sem] at hw1
 obtain⟨hg2,hC0⟩:=pI hC0;obtain⟨hg3,hC0⟩:=pI hC0;refine pB a5o ?_ (hp:=by exact⟨pY hv1,hg2,hg3⟩) (h:=by simp only[go_sem,hw1];rfl);refine pK ?_;cases hC0;exact⟨[],by rfl,by rfl,by rfl⟩
attribute [irreducible] AM
end
noncomputable section
def GQ (O:((List UInt8)×(Int×Unit))):Int→Option (Int⊕(Int⊕(Bool×Int))):=fun Z=>if (decide (Z<(O.1.length:Int)))=true then if 0≤Z∧Z≤(O.1.length:Int)∧(O.1.length:Int)≤(O.1.length:Int) then if 0≤(0:Int)∧(0:Int)<((pT O.1 Z (O.1.length:Int)).length:Int) then if (decide ((0:Int)≤(tK ([32,9,10,13]:List UInt8) (pR (pT O.1 Z (O.1.length:Int)) (0:Int)))))=true then if pE (Z+(1:Int)) then some (.inl (Z+(1:Int))) else none else (K7 (pT O.1 Z (O.1.length:Int)) ([47,47]:List UInt8)).bind fun aA=>if ((decide ((([47,47]:List UInt8).length:Int)≤((pT O.1 Z (O.1.length:Int)).length:Int)))&&(decide ((pT (pT O.1 Z (O.1.length:Int)) (0:Int) (([47,47]:List UInt8).length:Int))=([47,47]:List UInt8))))=true then if (decide ((tK (pT O.1 Z (O.1.length:Int)) (10:Int))<(0:Int)))=true then if pE (((pT O.1 Z (O.1.length:Int)).length:Int)- (1:Int)) then if pE ((((pT O.1 Z (O.1.length:Int)).length:Int)- (1:Int))+(1:Int)) then if pE (Z+((((pT O.1 Z (O.1.length:Int)).length:Int)- (1:Int))+(1:Int))) then some (.inl (Z+((((pT O.1 Z (O.1.length:Int)).length:Int)- (1:Int))+(1:Int)))) else none else none else none else if pE ((tK (pT O.1 Z (O.1.length:Int)) (10:Int))+(1:Int)) then if pE (Z+((tK (pT O.1 Z (O.1.length:Int)) (10:Int))+(1:Int))) then some (.inl (Z+((tK (pT O.1 Z (O.1.length:Int)) (10:Int))+(1:Int)))) else none else none else (K7 (pT O.1 Z (O.1.length:Int)) ([47,42]:List UInt8)).bind fun aB=>if ((decide ((([47,42]:List UInt8).length:Int)≤((pT O.1 Z (O.1.length:Int)).length:Int)))&&(decide ((pT (pT O.1 Z (O.1.length:Int)) (0:Int) (([47,42]:List UInt8).length:Int))=([47,42]:List UInt8))))=true then if 0≤(2:Int)∧(2:Int)≤((pT O.1 Z (O.1.length:Int)).length:Int)∧((pT O.1 Z (O.1.length:Int)).length:Int)≤((pT O.1 Z (O.1.length:Int)).length:Int) then if List.length (pT (pT O.1 Z (O.1.length:Int)) (2:Int) ((pT O.1 Z (O.1.length:Int)).length:Int))<4294967281 then if (decide ((M2 (pT (pT O.1 Z (O.1.length:Int)) (2:Int) ((pT O.1 Z (O.1.length:Int)).length:Int)) ([42,47]:List UInt8))<(0:Int)))=true then some (.inr (.inr ((false,Z)))) else if pE ((M2 (pT (pT O.1 Z (O.1.length:Int)) (2:Int) ((pT O.1 Z (O.1.length:Int)).length:Int)) ([42,47]:List UInt8))+(4:Int)) then if pE (Z+((M2 (pT (pT O.1 Z (O.1.length:Int)) (2:Int) ((pT O.1 Z (O.1.length:Int)).length:Int)) ([42,47]:List UInt8))+(4:Int))) then some (.inl (Z+((M2 (pT (pT O.1 Z (O.1.length:Int)) (2:Int) ((pT O.1 Z (O.1.length:Int)).length:Int)) ([42,47]:List UInt8))+(4:Int)))) else none else none else none else none else some (.inr (.inl Z)) else none else none else some (.inr (.inl Z))
def IC (O:((List UInt8)×(Int×Unit))):Option (Bool×Int):=rW (qB (GQ O) O.2.1) fun Z=>some ((true,Z))
section
variable (O:((List UInt8)×(Int×Unit)))
abbrev a5p:List pD:=[(.val .ref (some (0,0)),none)]
abbrev a5q:List pC:=[.cells DM O []]
@[go_sem] def a5r:pJ:=⟨[((IC O)).isSome=true],[(.val .bool ((val (IC O)).1),none)],[.cells DM (O.1,((val (IC O)).2,())) []]⟩
def aE4:List pD→List pC→Option pJ:=qP (V:=((List UInt8)×(Int×Unit))) (fun x=>a5p) (fun x=>a5q x) fun x=>a5r x
@[go_sem] theorem aSP:aE4 (no_index a5p) (no_index (a5q O))=some (a5r O):=qQ (fun a0 b0 h1 h2=>by cases h1;cases h2;rfl) O
end
@[go_sem] abbrev aE5:Nat×qC:=(118,⟨[.p DM []],aE4,[],[],none⟩)
theorem yG:qG Tryz.prog [uX,rP,PN] (qE [MA,aEp,aCs]):=⟨⟨vK,⟨rQ,⟨a0E,trivial⟩⟩⟩,pM PO (pM aMK (pM aL8 qS)),qI⟩
theorem aM1:qJ Tryz.prog aE5:=by
 refine qR yG Tryz.func118 (c:=_) rfl (N:=73) (by kernel_rfl) (ts:=[(2,none)]) rfl (fun _ _=>rfl) ?_;intro O hs hrow;dsimp only[a5p,a5q,a5r,qM,pN,pW,qH,qO,Nat.reduceAdd] at hs hrow⊢;have hz:=hs;obtain⟨z0,hC0⟩:=aTF.1 hz
 try rw[r8 hC0]
 clear hz hs;unfold IC at hC0;refine pB yG ?_;refine aK2 (pP (aKZ (pL (pP (rC ?_)))));obtain⟨y1,hy1,hC0⟩:=uI hC0;refine t7 0 (fun s=> ∃v,y1= .inl v∧s=(fun x=>⟨[],[(0,.cells DM (O.1,(x,())) [])],1,73,1⟩) v) ?_ ?_
 ·refine t6 hy1 (fun x=>⟨[(0,(.val .ref (some (0,0)),none))],[(0,.cells DM (O.1,(x,())) [])],1,73,1⟩) ⟨[0],[(0,0)]⟩ (by rfl) ?_;intro Z w1 n1 hC1 hN1;unfold GQ at hC1;dsimp only at hC1⊢;refine pP ?_;refine xD yG ?_;refine pO hC1 (fun hC1 hc1=> ?_) (fun hC1 hc1=> ?_)
  ·refine qD (pL (rC ?_));obtain⟨hg1,hC1⟩:=pI hC1;refine xD yG ?_ (hp:=by exact hg1);refine rC ?_;obtain⟨hg2,hC1⟩:=pI hC1;refine pB yG ?_ (hp:=by exact hg2);refine pO hC1 (fun hC1 hc2=> ?_) (fun hC1 hc2=> ?_)
   ·obtain⟨hg3,hC1⟩:=pI hC1;refine qU yG ?_ (hp:=by exact hg3);refine qY (qY ?_);cases hC1;exact s7 ⟨⟨[0],[(0,0)]⟩,_,by rfl,hN1⟩
   ·obtain⟨aA,hv4,hw4,hC1⟩:=pZ hC1
    try simp only[go_sem] at hw4
    refine pB yG ?_ (hp:=by exact(pY hv4)) (h:=by simp only[go_sem,hw4];rfl);refine pO hC1 (fun hC1 hc3=> ?_) (fun hC1 hc3=> ?_)
    ·refine pB yG ?_;refine pP ?_;refine pB yG ?_;refine pO hC1 (fun hC1 hc4=> ?_) (fun hC1 hc4=> ?_)
     ·obtain⟨hg5,hC1⟩:=pI hC1;refine qU yG ?_ (hp:=by exact hg5);refine pL ?_;obtain⟨hg6,hC1⟩:=pI hC1;obtain⟨hg7,hC1⟩:=pI hC1;refine qU yG ?_ (hp:=by exact⟨hg6,hg7⟩);refine qY (qY ?_);cases hC1;exact s7 ⟨⟨[0],[(0,0)]⟩,_,by rfl,hN1⟩
     ·refine qD (pL ?_);obtain⟨hg8,hC1⟩:=pI hC1;obtain⟨hg9,hC1⟩:=pI hC1;refine qU yG ?_ (hp:=by exact⟨hg8,hg9⟩);refine qY (qY ?_);cases hC1;exact s7 ⟨⟨[0],[(0,0)]⟩,_,by rfl,hN1⟩
    ·obtain⟨aB,hv10,hw10,hC1⟩:=pZ hC1
     try simp only[go_sem] at hw10
     refine pB yG ?_ (hp:=by exact(pY hv10)) (h:=by simp only[go_sem,hw10];rfl);refine pO hC1 (fun hC1 hc5=> ?_) (fun hC1 hc5=> ?_)
     ·obtain⟨hg11,hC1⟩:=pI hC1;obtain⟨hg12,hC1⟩:=pI hC1;refine pB yG ?_ (hp:=by exact⟨hg11,hg12⟩);refine pP ?_;refine pB yG ?_;refine pO hC1 (fun hC1 hc6=> ?_) (fun hC1 hc6=> ?_)
      ·refine pB yG ?_;refine pK (qW (rE (rE (uL (uK (rE (qW ?_)))))));cases hC1;cases hN1;dsimp only at hC0;cases hC0;exact⟨[(0,0)],by rfl,by rfl,by rfl⟩
      ·refine qD (pL ?_);obtain⟨hg13,hC1⟩:=pI hC1;obtain⟨hg14,hC1⟩:=pI hC1;refine qU yG ?_ (hp:=by exact⟨hg13,hg14⟩);refine qY (qY ?_);cases hC1;exact s7 ⟨⟨[0],[(0,0)]⟩,_,by rfl,hN1⟩
     ·refine sO (a0e (by decide) (a0e (by decide) (sQ ?_)));cases hC1;cases hN1;exact sP ⟨⟨[],[(0,0)]⟩,_,rfl,by rfl⟩
  ·refine sO (sW (sQ ?_));cases hC1;cases hN1;exact sP ⟨⟨[],[(0,0)]⟩,_,rfl,by rfl⟩
 ·rintro _ ⟨aC,rfl,rfl⟩;dsimp only at hC0⊢;refine sZ (pL ?_);refine pB yG ?_;refine pK ?_;cases hC0;exact⟨[(0,0)],by rfl,by rfl,by rfl⟩
attribute [irreducible] IC
def QG (O:(List UInt8)):Option ((List UInt8)×Int):=if (decide ((O.length:Int)<(2:Int)))=true then some ((([]:List UInt8),(0:Int))) else if 0≤(1:Int)∧(1:Int)<(O.length:Int) then if (decide ((pR O (1:Int))=(110:Int)))=true then some ((([10]:List UInt8),(2:Int))) else if (decide ((pR O (1:Int))=(114:Int)))=true then some ((([13]:List UInt8),(2:Int))) else if (decide ((pR O (1:Int))=(116:Int)))=true then some ((([9]:List UInt8),(2:Int))) else (DS (pR O (1:Int)) ([92,34,61,58,35,33,123,125,32]:List UInt8)).bind fun Z=>if Z=true then if 0≤(1:Int)∧(1:Int)≤(2:Int)∧(2:Int)≤(O.length:Int) then some (((pT O (1:Int) (2:Int)),(2:Int))) else none else if ((decide ((pR O (1:Int))=(120:Int)))&&(decide ((4:Int)≤(O.length:Int))))=true then if 0≤(2:Int)∧(2:Int)≤(4:Int)∧(4:Int)≤(O.length:Int) then (KB (pT O (2:Int) (4:Int)) (16:Int)).bind fun aA=>if ((decide ((0:Int)≤aA))&&(decide (aA≤(127:Int))))=true then some (((s5 ([(IntKind.wrap .u8 aA)]:List Int)),(4:Int))) else some ((([]:List UInt8),(0:Int))) else none else if ((decide ((pR O (1:Int))=(117:Int)))&&(decide ((6:Int)≤(O.length:Int))))=true then if 0≤(2:Int)∧(2:Int)≤(6:Int)∧(6:Int)≤(O.length:Int) then (KB (pT O (2:Int) (6:Int)) (16:Int)).bind fun aB=>if ((decide ((0:Int)≤aB))&&(((decide ((0:Int)≤aB))&&(decide (aB≤(1114111:Int))))&&((decide (aB<(55296:Int)))||(decide ((57343:Int)<aB)))))=true then (BG aB).bind fun aC=>some ((aC,(6:Int))) else some ((([]:List UInt8),(0:Int))) else none else some ((([]:List UInt8),(0:Int))) else none
attribute [irreducible] QG
def MW (O:(List UInt8)) (Z:(List UInt8)) (aA:(List UInt8)) (aB:(List UInt8)) (aC:(List (List UInt8))) (aD:(Int×((List pV)×Unit))) (aE:Bool) (aF:(List (List UInt8))) (aG:(List ((List UInt8)×Bool))):Option Bool:=(I6 aD.2.1 O).bind fun aH=>some (aH.2)
section
variable (O:(List UInt8)) (Z:(List UInt8)) (aA:(List UInt8)) (aB:(List UInt8)) (aC:(List (List UInt8))) (aD:Nat) (aE:(Int×((List pV)×Unit))) (aF:Bool) (aG:Nat) (aH:Nat) (aI:(List (List UInt8))) (aJ:Nat) (aK:(List ((List UInt8)×Bool)))
abbrev a5s:List pD:=[(.val .str O,none),(.val .ref (some (0,0)),none)]
abbrev a5t:List pC:=[.cells .ref (some (1,0)) [],.cells sS ((Z,(aA,(aB,(aC,((some (4,aD)),aE))))),(aF,((some 5),()))) [(3,2),(6,3)],.grow 9 1 aG,.grow 149 2 aH,.row 9 .str aI aJ,.map .str .bool aK]
@[go_sem] def a5u:pJ:=⟨[aG=(aC.length),aH=(aE.2.1.length),aD=aJ,((MW O Z aA aB aC aE aF aI aK)).isSome=true],[(.val .bool (val (MW O Z aA aB aC aE aF aI aK)),none)],[.cells .ref (some (1,0)) [],.cells sS ((Z,(aA,(aB,(aC,((some (4,(aI.length))),(aE.1,(aE.2.1,()))))))),(aF,((some 5),()))) [(3,2),(6,3)],.grow 9 1 (aC.length),.grow 149 2 (aE.2.1.length),.row 9 .str aI (aI.length),.map .str .bool aK]⟩
def aE6:List pD→List pC→Option pJ:=qP (V:=((List UInt8)×(List UInt8)×(List UInt8)×(List UInt8)×(List (List UInt8))×Nat×(Int×((List pV)×Unit))×Bool×Nat×Nat×(List (List UInt8))×Nat×(List ((List UInt8)×Bool)))) (fun x=>a5s x.1) (fun x=>a5t x.2.1 x.2.2.1 x.2.2.2.1 x.2.2.2.2.1 x.2.2.2.2.2.1 x.2.2.2.2.2.2.1 x.2.2.2.2.2.2.2.1 x.2.2.2.2.2.2.2.2.1 x.2.2.2.2.2.2.2.2.2.1 x.2.2.2.2.2.2.2.2.2.2.1 x.2.2.2.2.2.2.2.2.2.2.2.1 x.2.2.2.2.2.2.2.2.2.2.2.2) fun x=>a5u x.1 x.2.1 x.2.2.1 x.2.2.2.1 x.2.2.2.2.1 x.2.2.2.2.2.1 x.2.2.2.2.2.2.1 x.2.2.2.2.2.2.2.1 x.2.2.2.2.2.2.2.2.1 x.2.2.2.2.2.2.2.2.2.1 x.2.2.2.2.2.2.2.2.2.2.1 x.2.2.2.2.2.2.2.2.2.2.2.1 x.2.2.2.2.2.2.2.2.2.2.2.2
@[go_sem] theorem aSQ:aE6 (no_index (a5s O)) (no_index (a5t Z aA aB aC aD aE aF aG aH aI aJ aK))=some (a5u O Z aA aB aC aD aE aF aG aH aI aJ aK):=qQ (fun⟨a0,a1,a2,a3,a4,a5,a6,a7,a8,a9,a10,a11,a12⟩ ⟨b0,b1,b2,b3,b4,b5,b6,b7,b8,b9,b10,b11,b12⟩ h1 h2=>by cases h1;cases h2;rfl) (O,Z,aA,aB,aC,aD,aE,aF,aG,aH,aI,aJ,aK)
end
@[go_sem] abbrev a5v:Nat×qC:=(254,⟨[.v,.p .ref []],aE6,[(0,0,.p sS [3,6]),(1,4,.r),(1,8,.m)],[0,1,2,3,4,5],none⟩)
theorem aE7:qG Tryz.prog [] (qE [a4F]):=⟨trivial,pM aMQ qS,qI⟩
theorem a5w:qG Tryz.prog [w5,DR,M9,C5] (qE [a4F]):=⟨⟨wU,⟨GB,⟨UR,⟨DQ,trivial⟩⟩⟩⟩,aE7.Γ,qI⟩
theorem aM2:qJ Tryz.prog a5v:=by
 refine qR aE7 Tryz.func254 (c:=_) rfl (N:=17) (by kernel_rfl) (ts:=[(3,none)]) rfl (fun _ _=>rfl) ?_;intro⟨O,Z,aA,aB,aC,aD,aE,aF,aG,aH,aI,aJ,aK⟩ hs hrow;dsimp only[a5s,a5t,a5u,qM,pN,pW,qH,qO,Nat.reduceAdd] at hs hrow⊢;obtain⟨rfl,rfl,rfl,hz⟩:=hs;obtain⟨rfl,_⟩:=hrow;obtain⟨z0,hC0⟩:=aTF.1 hz
 try rw[r8 hC0]
 clear hz;unfold MW at hC0;refine pB a5w ?_;obtain⟨aL,hv1,hw1,hC0⟩:=pZ hC0
 try simp only[go_sem] at hw1
 refine pB a5w ?_ (hp:=by exact(pY hv1)) (h:=by simp only[go_sem,hw1];rfl);refine pB a5w ?_;refine pK ?_;cases hC0;exact⟨[(0,0),(1,1),(2,2),(3,3),(4,4),(5,5)],by rfl,by rfl,by rfl⟩
attribute [irreducible] MW
end
noncomputable section
def F9 (O:((List Int)×Unit)) (Z:Int):Option (Int×(List Int)):=(I8 O.1 Z).bind fun aA=>if pE ((aA.length:Int)- (O.1.length:Int)) then some ((((aA.length:Int)- (O.1.length:Int)),aA)) else none
section
variable (O:Int) (Z:((List Int)×Unit)) (aA:Nat)
abbrev a5x:List pD:=[(.val .ref (some (0,0)),none),(.val (.int .i32) O,none)]
abbrev a5y:List pC:=[.cells wT ((some (0,0)),Z) [(1,1)],.grow 5 1 aA]
@[go_sem] def a5z:pJ:=⟨[aA=(Z.1.length),((F9 Z O)).isSome=true],[(.val (.int .i64) ((val (F9 Z O)).1),none),(.any,none)],[.cells wT ((some (0,0)),((val (F9 Z O)).2,())) [(1,1)],.grow 5 1 (((val (F9 Z O)).2).length)]⟩
def aE8:List pD→List pC→Option pJ:=qP (V:=(Int×((List Int)×Unit)×Nat)) (fun x=>a5x x.1) (fun x=>a5y x.2.1 x.2.2) fun x=>a5z x.1 x.2.1 x.2.2
@[go_sem] theorem aSR:aE8 (no_index (a5x O)) (no_index (a5y Z aA))=some (a5z O Z aA):=qQ (fun⟨a0,a1,a2⟩ ⟨b0,b1,b2⟩ h1 h2=>by cases h1;cases h2;rfl) (O,Z,aA)
end
@[go_sem] abbrev aE9:Nat×qC:=(290,⟨[.p wT [1],.v],aE8,[],[],none⟩)
theorem MX:qG Tryz.prog [EY,G9] (qE [US,aEN]):=⟨⟨HT,⟨JX,trivial⟩⟩,pM a0G (pM aMT qS),qI⟩
theorem aM3:qJ Tryz.prog aE9:=by
 refine qR MX Tryz.func290 (c:=_) rfl (N:=30) (by kernel_rfl) (ts:=[(4,none),(5,none)]) rfl (fun _ _=>rfl) ?_;intro⟨O,Z,aA⟩ hs hrow;dsimp only[a5x,a5y,a5z,qM,pN,pW,qH,qO,Nat.reduceAdd] at hs hrow⊢;obtain⟨rfl,hz⟩:=hs;obtain⟨z0,hC0⟩:=aTF.1 hz
 try rw[r8 hC0]
 clear hz;unfold F9 at hC0;refine pB MX ?_;refine pB MX ?_ (hp:=by first|rfl|trivial)
 refine pB MX ?_;obtain⟨aB,hv1,hw1,hC0⟩:=pZ hC0
 try simp only[go_sem] at hw1
 refine pB MX ?_ (hp:=by exact⟨by first|rfl|trivial,(pY hv1)⟩) (h:=by simp only[go_sem,hw1];rfl)
 obtain⟨hg2,hC0⟩:=pI hC0;refine pB MX ?_ (hp:=by exact hg2);refine pK ?_;cases hC0;exact⟨[(0,0),(1,1)],by rfl,by rfl,by rfl⟩
attribute [irreducible] F9
end
noncomputable section
def aM4 (O:(List UInt8)):Int→Option (Int⊕Int):=fun Z=>if ((((decide (Z<(O.length:Int)))&&(decide (Z<(12:Int))))==true)=true→0≤Z∧Z<(O.length:Int)) then if (((decide (Z<(O.length:Int)))&&(decide (Z<(12:Int))))&&(!decide ((pR O Z)=(59:Int))))=true then if pE (Z+(1:Int)) then some (.inl (Z+(1:Int))) else none else some (.inr Z) else none
def aFa (O:(List UInt8)):Option ((List UInt8)×Int):=rH (qB (aM4 O) (0:Int)) fun Z=>if (((decide (Z=(O.length:Int)))==false)=true→0≤Z∧Z<(O.length:Int)) then if ((decide (Z=(O.length:Int)))||(!decide ((pR O Z)=(59:Int))))=true then some ((([]:List UInt8),(0:Int))) else if 0≤(1:Int)∧(1:Int)≤Z∧Z≤(O.length:Int) then if (decide ((pT O (1:Int) Z)=([97,109,112]:List UInt8)))=true then if pE (Z+(1:Int)) then some ((([38]:List UInt8),(Z+(1:Int)))) else none else if (decide ((pT O (1:Int) Z)=([108,116]:List UInt8)))=true then if pE (Z+(1:Int)) then some ((([60]:List UInt8),(Z+(1:Int)))) else none else if (decide ((pT O (1:Int) Z)=([103,116]:List UInt8)))=true then if pE (Z+(1:Int)) then some ((([62]:List UInt8),(Z+(1:Int)))) else none else if (decide ((pT O (1:Int) Z)=([113,117,111,116]:List UInt8)))=true then if pE (Z+(1:Int)) then some ((([34]:List UInt8),(Z+(1:Int)))) else none else if (decide ((pT O (1:Int) Z)=([97,112,111,115]:List UInt8)))=true then if pE (Z+(1:Int)) then some ((([39]:List UInt8),(Z+(1:Int)))) else none else rH (σ:=Int) (if ((((decide ((3:Int)≤((pT O (1:Int) Z).length:Int)))&&(decide (((pT O (1:Int) Z).length:Int)≤(8:Int))))==true)=true→0≤(0:Int)∧(0:Int)≤(2:Int)∧(2:Int)≤((pT O (1:Int) Z).length:Int)) then if (((decide ((3:Int)≤((pT O (1:Int) Z).length:Int)))&&(decide (((pT O (1:Int) Z).length:Int)≤(8:Int))))&&(decide ((pT (pT O (1:Int) Z) (0:Int) (2:Int))=([35,120]:List UInt8))))=true then if 0≤(2:Int)∧(2:Int)≤((pT O (1:Int) Z).length:Int)∧((pT O (1:Int) Z).length:Int)≤((pT O (1:Int) Z).length:Int) then (KB (pT (pT O (1:Int) Z) (2:Int) ((pT O (1:Int) Z).length:Int)) (16:Int)).bind fun aA=>some (aA) else none else if ((((decide ((2:Int)≤((pT O (1:Int) Z).length:Int)))&&(decide (((pT O (1:Int) Z).length:Int)≤(8:Int))))==true)=true→0≤(0:Int)∧(0:Int)≤(1:Int)∧(1:Int)≤((pT O (1:Int) Z).length:Int)) then if (((decide ((2:Int)≤((pT O (1:Int) Z).length:Int)))&&(decide (((pT O (1:Int) Z).length:Int)≤(8:Int))))&&(decide ((pT (pT O (1:Int) Z) (0:Int) (1:Int))=([35]:List UInt8))))=true then if 0≤(1:Int)∧(1:Int)≤((pT O (1:Int) Z).length:Int)∧((pT O (1:Int) Z).length:Int)≤((pT O (1:Int) Z).length:Int) then (KB (pT (pT O (1:Int) Z) (1:Int) ((pT O (1:Int) Z).length:Int)) (10:Int)).bind fun aB=>some (aB) else none else some ((-1:Int)) else none else none ) fun aC=>if ((decide (aC<(0:Int)))||(!(((decide ((0:Int)≤aC))&&(decide (aC≤(1114111:Int))))&&((decide (aC<(55296:Int)))||(decide ((57343:Int)<aC))))))=true then some ((([]:List UInt8),(0:Int))) else (BG aC).bind fun aD=>if pE (Z+(1:Int)) then some ((aD,(Z+(1:Int)))) else none else none else none
attribute [irreducible] aFa
def QH (O:(List (List UInt8))):Int→Option (Int⊕(Unit⊕Int)):=fun Z=>if (decide (Z<(O.length:Int)))=true then if 0≤Z∧Z<(O.length:Int) then (QE (pU .str O Z)).bind fun aA=>if (!((decide (((pU .str O Z).length:Int)≤(4000:Int)))&&(Lib.validD (pU .str O Z))))=true then some (.inr (.inr (Z))) else if pE (Z+(1:Int)) then some (.inl (Z+(1:Int))) else none else none else some (.inr (.inl ()))
def MY (O:(List (List UInt8))):Option Int:=rW (qB (QH O) (0:Int)) fun _=>some ((-1:Int))
section
variable (O:(List (List UInt8)))
abbrev a5A:List pD:=[(.val (.list .str) O,none),(.val .clo (some (160,[])),none)]
abbrev a5B:List pC:=[]
@[go_sem] def a5C:pJ:=⟨[((MY O)).isSome=true],[(.val (.int .i64) (val (MY O)),none)],[]⟩
def aFb:List pD→List pC→Option pJ:=qP (V:=(List (List UInt8))) (fun x=>a5A x) (fun x=>a5B) fun x=>a5C x
@[go_sem] theorem aSS:aFb (no_index (a5A O)) (no_index a5B)=some (a5C O):=qQ (fun a0 b0 h1 h2=>by cases h1;cases h2;rfl) O
end
@[go_sem] abbrev aFc:Nat×qC:=(197,⟨[.v,.v],aFb,[],[],none⟩)
theorem GR:qG Tryz.prog [rP,uW] (qE [aE2]):=⟨⟨rQ,⟨vJ,trivial⟩⟩,pM aM0 qS,qI⟩
theorem aM5:qJ Tryz.prog aFc:=by
 refine qR GR Tryz.func197 (c:=_) rfl (N:=19) (by kernel_rfl) (ts:=[(4,none)]) rfl (fun _ _=>rfl) ?_;intro O hs hrow;dsimp only[a5A,a5B,a5C,qM,pN,pW,qH,qO,Nat.reduceAdd] at hs hrow⊢;have hz:=hs;obtain⟨z0,hC0⟩:=aTF.1 hz
 try rw[r8 hC0]
 clear hz hs;unfold MY at hC0;refine pB GR ?_;refine pP ?_;refine pB GR ?_;refine rC ?_;obtain⟨y1,hy1,hC0⟩:=uI hC0;refine t7 0 (fun s=> ∃v,y1= .inl v∧s=(fun _=>⟨[],[],0,19,0⟩) v) ?_ ?_
 ·refine t6 hy1 (fun x=>⟨[(0,(.val (.list .str) O,none)),(1,(.val .clo (some (160,[])),none)),(7,(.val (.int .i64) (O.length:Int),none)),(8,(.val (.int .i64) x,none))],[],0,19,0⟩) ⟨[0,1,7,8],[]⟩ (by rfl) ?_;intro Z w1 n1 hC1 hN1;unfold QH at hC1;dsimp only at hC1⊢;refine pB GR ?_;refine pP ?_;refine pO hC1 (fun hC1 hc1=> ?_) (fun hC1 hc1=> ?_)
  ·refine qD (pL (pP (rC ?_)));refine pB GR ?_;obtain⟨hg1,hC1⟩:=pI hC1;obtain⟨aA,hv2,hw2,hC1⟩:=pZ hC1
   try simp only[go_sem] at hw2
   refine pB GR ?_ (hp:=by exact⟨hg1,(pY hv2)⟩) (h:=by simp only[go_sem,hw2];rfl);refine pO hC1 (fun hC1 hc2=> ?_) (fun hC1 hc2=> ?_)
   ·refine pB GR ?_;refine pK (rE (qW (uL (uK (rE (qW ?_))))));cases hC1;cases hN1;dsimp only at hC0;cases hC0;exact⟨[],by rfl,by rfl,by rfl⟩
   ·refine qD (qY (pL ?_));obtain⟨hg3,hC1⟩:=pI hC1;refine qU GR ?_ (hp:=by exact hg3);cases hC1;exact s7 ⟨⟨[0,1,7,8],[]⟩,_,by rfl,hN1⟩
  ·refine sO (sW (sQ ?_));cases hC1;cases hN1;exact sP ⟨⟨[],[]⟩,_,rfl,by rfl⟩
 ·rintro _ ⟨v,rfl,rfl⟩;dsimp only at hC0⊢;refine sZ (pL ?_);refine pB GR ?_;refine pK ?_;cases hC0;exact⟨[],by rfl,by rfl,by rfl⟩
attribute [irreducible] MY
def BJ (O:(List (List UInt8))):Option Bool:=(MY O).bind fun Z=>some ((decide ((0:Int)≤Z)))
section
variable (O:(List (List UInt8)))
abbrev a5D:List pD:=[(.val (.list .str) O,none),(.val .clo (some (160,[])),none)]
abbrev a5E:List pC:=[]
@[go_sem] def a5F:pJ:=⟨[((BJ O)).isSome=true],[(.val .bool (val (BJ O)),none)],[]⟩
def aFd:List pD→List pC→Option pJ:=qP (V:=(List (List UInt8))) (fun x=>a5D x) (fun x=>a5E) fun x=>a5F x
@[go_sem] theorem aST:aFd (no_index (a5D O)) (no_index a5E)=some (a5F O):=qQ (fun a0 b0 h1 h2=>by cases h1;cases h2;rfl) O
end
@[go_sem] abbrev aFe:Nat×qC:=(159,⟨[.v,.v],aFd,[],[],none⟩)
theorem a5G:qG Tryz.prog [] (qE [aFc]):=⟨trivial,pM aM5 qS,qI⟩
theorem aM6:qJ Tryz.prog aFe:=by
 refine qR a5G Tryz.func159 (c:=_) rfl (N:=9) (by kernel_rfl) (ts:=[(4,none)]) rfl (fun _ _=>rfl) ?_;intro O hs hrow;dsimp only[a5D,a5E,a5F,qM,pN,pW,qH,qO,Nat.reduceAdd] at hs hrow⊢;have hz:=hs;obtain⟨z0,hC0⟩:=aTF.1 hz
 try rw[r8 hC0]
 clear hz hs;unfold BJ at hC0;refine pB a5G ?_;obtain⟨Z,hv1,hw1,hC0⟩:=pZ hC0
 try simp only[go_sem] at hw1
 refine pB a5G ?_ (hp:=by exact(pY hv1)) (h:=by simp only[go_sem,hw1];rfl);refine pK ?_;cases hC0;exact⟨[],by rfl,by rfl,by rfl⟩
attribute [irreducible] BJ
def QI (O:(List (List UInt8))):((List UInt8)×Int)→Option (((List UInt8)×Int)⊕(List UInt8)):=fun(Z,aA)=>if (decide (aA<(O.length:Int)))=true then if 0≤aA∧aA<(O.length:Int) then (AM (pU .str O aA)).bind fun aB=>if ((([10,32,32,99,111,109,109,101,110,116,32]:List UInt8)++aB).length:Int)≤9223372036854775807 then if ((Z++(([10,32,32,99,111,109,109,101,110,116,32]:List UInt8)++aB)).length:Int)≤9223372036854775807 then if pE (aA+(1:Int)) then some (.inl ((Z++(([10,32,32,99,111,109,109,101,110,116,32]:List UInt8)++aB)),(aA+(1:Int)))) else none else none else none else none else some (.inr Z)
def ID (O:(List (List UInt8))):Option (List UInt8):=rH (qB (QI O) (([]:List UInt8),(0:Int))) fun Z=>some (Z)
section
variable (O:(List (List UInt8)))
abbrev a5H:List pD:=[(.val (.list .str) O,none)]
abbrev a5I:List pC:=[]
@[go_sem] def a5J:pJ:=⟨[((ID O)).isSome=true],[(.val .str (val (ID O)),none)],[]⟩
def aFf:List pD→List pC→Option pJ:=qP (V:=(List (List UInt8))) (fun x=>a5H x) (fun x=>a5I) fun x=>a5J x
@[go_sem] theorem aSU:aFf (no_index (a5H O)) (no_index a5I)=some (a5J O):=qQ (fun a0 b0 h1 h2=>by cases h1;cases h2;rfl) O
end
@[go_sem] abbrev a5K:Nat×qC:=(61,⟨[.v],aFf,[],[],none⟩)
theorem GS:qG Tryz.prog [rP,uW] (qE [QF]):=⟨⟨rQ,⟨vJ,trivial⟩⟩,pM VG qS,qI⟩
theorem aFg:qJ Tryz.prog a5K:=by
 refine qR GS Tryz.func61 (c:=_) rfl (N:=19) (by kernel_rfl) (ts:=[(2,none)]) rfl (fun _ _=>rfl) ?_;intro O hs hrow;dsimp only[a5H,a5I,a5J,qM,pN,pW,qH,qO,Nat.reduceAdd] at hs hrow⊢;have hz:=hs;obtain⟨z0,hC0⟩:=aTF.1 hz
 try rw[r8 hC0]
 clear hz hs;unfold ID at hC0;refine pB GS ?_;refine pB GS ?_;refine pP ?_;refine pB GS ?_;refine rC ?_;obtain⟨Z,hy1,hC0⟩:=pF hC0;refine t7 0 (fun s=>s=(fun x=>⟨[(3,(.val .str x,none))],[],0,19,0⟩) Z) ?_ ?_
 ·refine t6 hy1 (fun x=>⟨[(3,(.val .str x.1,none)),(6,(.val (.list .str) O,none)),(7,(.val (.int .i64) (O.length:Int),none)),(8,(.val (.int .i64) x.2,none))],[],0,19,0⟩) ⟨[3,6,7,8],[]⟩ (by rfl) ?_;intro x1 w1 n1 hC1 hN1;obtain⟨aA,aB⟩:=x1;unfold QI at hC1;dsimp only at hC1⊢;refine pB GS ?_;refine pP ?_;refine pO hC1 (fun hC1 hc1=> ?_) (fun hC1 hc1=> ?_)
  ·refine qD (pL (pP (rC ?_)));obtain⟨hg1,hC1⟩:=pI hC1;refine pB GS ?_ (hp:=by exact hg1);obtain⟨aC,hv2,hw2,hC1⟩:=pZ hC1
   try simp only[go_sem] at hw2
   obtain⟨hg3,hC1⟩:=pI hC1;obtain⟨hg4,hC1⟩:=pI hC1;refine qU GS ?_ (hp:=by exact⟨pY hv2,hg3,hg4⟩) (h:=by simp only[go_sem,hw2];rfl);refine qY (pL ?_);obtain⟨hg5,hC1⟩:=pI hC1;refine qU GS ?_ (hp:=by exact hg5);cases hC1;exact s7 ⟨⟨[3,6,7,8],[]⟩,_,by rfl,hN1⟩
  ·refine sO (sW (sQ ?_));cases hC1;cases hN1;exact sP ⟨⟨[3],[]⟩,by rfl⟩
 ·rintro _ rfl;dsimp only at hC0⊢;refine sZ (pL ?_);refine pB GS ?_;refine pK ?_;cases hC0;exact⟨[],by rfl,by rfl,by rfl⟩
attribute [irreducible] ID
end
noncomputable section
def QJ (O:(List pV)):((List UInt8)×Int)→Option (((List UInt8)×Int)⊕(List UInt8)):=fun(Z,aA)=>if (decide (aA<(O.length:Int)))=true then if 0≤aA∧aA<(O.length:Int) then (AM ((pU (.pair .str (.pair .str .unit)) O aA).1)).bind fun aB=>if ((([10,32,32,102,105,101,108,100,32]:List UInt8)++aB).length:Int)≤9223372036854775807 then if (((([10,32,32,102,105,101,108,100,32]:List UInt8)++aB)++([32]:List UInt8)).length:Int)≤9223372036854775807 then (AM ((pU (.pair .str (.pair .str .unit)) O aA).2.1)).bind fun aC=>if ((((([10,32,32,102,105,101,108,100,32]:List UInt8)++aB)++([32]:List UInt8))++aC).length:Int)≤9223372036854775807 then if ((Z++(((([10,32,32,102,105,101,108,100,32]:List UInt8)++aB)++([32]:List UInt8))++aC)).length:Int)≤9223372036854775807 then if pE (aA+(1:Int)) then some (.inl ((Z++(((([10,32,32,102,105,101,108,100,32]:List UInt8)++aB)++([32]:List UInt8))++aC)),(aA+(1:Int)))) else none else none else none else none else none else none else some (.inr Z)
def IE (O:(List pV)):Option (List UInt8):=rH (qB (QJ O) (([]:List UInt8),(0:Int))) fun Z=>some (Z)
section
variable (O:(List pV))
abbrev a5L:List pD:=[(.val (.list (.pair .str (.pair .str .unit))) O,none)]
abbrev a5M:List pC:=[]
@[go_sem] def a5N:pJ:=⟨[((IE O)).isSome=true],[(.val .str (val (IE O)),none)],[]⟩
def aFh:List pD→List pC→Option pJ:=qP (V:=(List pV)) (fun x=>a5L x) (fun x=>a5M) fun x=>a5N x
@[go_sem] theorem aSV:aFh (no_index (a5L O)) (no_index a5M)=some (a5N O):=qQ (fun a0 b0 h1 h2=>by cases h1;cases h2;rfl) O
end
@[go_sem] abbrev a5O:Nat×qC:=(62,⟨[.v],aFh,[],[],none⟩)
theorem GT:qG Tryz.prog [rP,w5,C3] (qE [QF]):=⟨⟨rQ,⟨wU,⟨DO,trivial⟩⟩⟩,pM VG qS,qI⟩
theorem aFi:qJ Tryz.prog a5O:=by
 refine qR GT Tryz.func62 (c:=_) rfl (N:=25) (by kernel_rfl) (ts:=[(2,none)]) rfl (fun _ _=>rfl) ?_;intro O hs hrow;dsimp only[a5L,a5M,a5N,qM,pN,pW,qH,qO,Nat.reduceAdd] at hs hrow⊢;have hz:=hs;obtain⟨z0,hC0⟩:=aTF.1 hz
 try rw[r8 hC0]
 clear hz hs;unfold IE at hC0;refine pB GT ?_;refine pB GT ?_;refine pP ?_;refine pB GT ?_;refine rC ?_;obtain⟨Z,hy1,hC0⟩:=pF hC0;refine t7 0 (fun s=>s=(fun x=>⟨[(3,(.val .str x,none))],[],0,25,0⟩) Z) ?_ ?_
 ·refine t6 hy1 (fun x=>⟨[(3,(.val .str x.1,none)),(6,(.val (.list (.pair .str (.pair .str .unit))) O,none)),(7,(.val (.int .i64) (O.length:Int),none)),(8,(.val (.int .i64) x.2,none))],[],0,25,0⟩) ⟨[3,6,7,8],[]⟩ (by rfl) ?_;intro x1 w1 n1 hC1 hN1;obtain⟨aA,aB⟩:=x1;unfold QJ at hC1;dsimp only at hC1⊢;refine pB GT ?_;refine pP ?_;refine pO hC1 (fun hC1 hc1=> ?_) (fun hC1 hc1=> ?_)
  ·refine qD (pL (pP (rC ?_)));obtain⟨hg1,hC1⟩:=pI hC1;refine pB GT ?_ (hp:=by exact hg1);obtain⟨aC,hv2,hw2,hC1⟩:=pZ hC1
   try simp only[go_sem] at hw2
   obtain⟨hg3,hC1⟩:=pI hC1;obtain⟨hg4,hC1⟩:=pI hC1;obtain⟨aD,hv5,hw5,hC1⟩:=pZ hC1
   try simp only[go_sem] at hw5
   obtain⟨hg6,hC1⟩:=pI hC1;obtain⟨hg7,hC1⟩:=pI hC1;refine G5 GT ?_ (hp:=by exact⟨pY hv2,hg3,hg4,pY hv5,hg6,hg7⟩) (h:=by simp only[go_sem,hw2,hw5];rfl);refine qY (pL ?_);obtain⟨hg8,hC1⟩:=pI hC1;refine qU GT ?_ (hp:=by exact hg8);cases hC1;exact s7 ⟨⟨[3,6,7,8],[]⟩,_,by rfl,hN1⟩
  ·refine sO (sW (sQ ?_));cases hC1;cases hN1;exact sP ⟨⟨[3],[]⟩,by rfl⟩
 ·rintro _ rfl;dsimp only at hC0⊢;refine sZ (pL ?_);refine pB GT ?_;refine pK ?_;cases hC0;exact⟨[],by rfl,by rfl,by rfl⟩
attribute [irreducible] IE
def MZ (O:rD):((List UInt8)×Int)→Option (((List UInt8)×Int)⊕(List UInt8)):=fun(Z,aA)=>if (decide (aA<(O.2.2.2.2.1.length:Int)))=true then if 0≤aA∧aA<(O.2.2.2.2.1.length:Int) then if ((([10,32,32,102,108,97,103,32]:List UInt8)++(pU .str O.2.2.2.2.1 aA)).length:Int)≤9223372036854775807 then if ((Z++(([10,32,32,102,108,97,103,32]:List UInt8)++(pU .str O.2.2.2.2.1 aA))).length:Int)≤9223372036854775807 then if pE (aA+(1:Int)) then some (.inl ((Z++(([10,32,32,102,108,97,103,32]:List UInt8)++(pU .str O.2.2.2.2.1 aA))),(aA+(1:Int)))) else none else none else none else none else some (.inr Z)
def KE (O:rD):Option (List UInt8):=(AM O.1).bind fun Z=>if ((([10,10,101,110,116,114,121,32]:List UInt8)++Z).length:Int)≤9223372036854775807 then if (((([10,10,101,110,116,114,121,32]:List UInt8)++Z)++([32,123]:List UInt8)).length:Int)≤9223372036854775807 then (ID O.2.2.2.1).bind fun aA=>if ((((([10,10,101,110,116,114,121,32]:List UInt8)++Z)++([32,123]:List UInt8))++aA).length:Int)≤9223372036854775807 then rH (σ:=(List UInt8)) (if (!decide (O.2.1=([]:List UInt8)))=true then (AM O.2.1).bind fun aB=>if ((([10,32,32,115,111,117,114,99,101,32]:List UInt8)++aB).length:Int)≤9223372036854775807 then if (((((([10,10,101,110,116,114,121,32]:List UInt8)++Z)++([32,123]:List UInt8))++aA)++(([10,32,32,115,111,117,114,99,101,32]:List UInt8)++aB)).length:Int)≤9223372036854775807 then some (((((([10,10,101,110,116,114,121,32]:List UInt8)++Z)++([32,123]:List UInt8))++aA)++(([10,32,32,115,111,117,114,99,101,32]:List UInt8)++aB))) else none else none else some ((((([10,10,101,110,116,114,121,32]:List UInt8)++Z)++([32,123]:List UInt8))++aA)) ) fun aC=>rH (σ:=(List UInt8)) (if (!decide (O.2.2.1=([]:List UInt8)))=true then (AM O.2.2.1).bind fun aD=>if ((([10,32,32,116,97,114,103,101,116,32]:List UInt8)++aD).length:Int)≤9223372036854775807 then if ((aC++(([10,32,32,116,97,114,103,101,116,32]:List UInt8)++aD)).length:Int)≤9223372036854775807 then some ((aC++(([10,32,32,116,97,114,103,101,116,32]:List UInt8)++aD))) else none else none else some (aC) ) fun aE=>rH (σ:=(List UInt8)) (if (!decide (O.2.2.2.2.2.1=(0:Int)))=true then if 0≤O.2.2.2.2.2.1∧O.2.2.2.2.2.1<(([([110,101,119]:List UInt8),([102,117,122,122,121]:List UInt8),([116,114,97,110,115,108,97,116,101,100]:List UInt8),([114,101,118,105,101,119,101,100]:List UInt8),([111,98,115,111,108,101,116,101]:List UInt8)]:List (List UInt8)).length:Int) then if ((([10,32,32,115,116,97,116,101,32]:List UInt8)++(pU .str ([([110,101,119]:List UInt8),([102,117,122,122,121]:List UInt8),([116,114,97,110,115,108,97,116,101,100]:List UInt8),([114,101,118,105,101,119,101,100]:List UInt8),([111,98,115,111,108,101,116,101]:List UInt8)]:List (List UInt8)) O.2.2.2.2.2.1)).length:Int)≤9223372036854775807 then if ((aE++(([10,32,32,115,116,97,116,101,32]:List UInt8)++(pU .str ([([110,101,119]:List UInt8),([102,117,122,122,121]:List UInt8),([116,114,97,110,115,108,97,116,101,100]:List UInt8),([114,101,118,105,101,119,101,100]:List UInt8),([111,98,115,111,108,101,116,101]:List UInt8)]:List (List UInt8)) O.2.2.2.2.2.1))).length:Int)≤9223372036854775807 then some ((aE++(([10,32,32,115,116,97,116,101,32]:List UInt8)++(pU .str ([([110,101,119]:List UInt8),([102,117,122,122,121]:List UInt8),([116,114,97,110,115,108,97,116,101,100]:List UInt8),([114,101,118,105,101,119,101,100]:List UInt8),([111,98,115,111,108,101,116,101]:List UInt8)]:List (List UInt8)) O.2.2.2.2.2.1)))) else none else none else none else some (aE) ) fun aF=>rH (qB (MZ O) (aF,(0:Int))) fun aG=>(IE O.2.2.2.2.2.2.1).bind fun aH=>if ((aG++aH).length:Int)≤9223372036854775807 then if (((aG++aH)++([10,125]:List UInt8)).length:Int)≤9223372036854775807 then some (((aG++aH)++([10,125]:List UInt8))) else none else none else none else none else none
section
variable (O:rD)
abbrev a5P:List pD:=[(.val rN O,none)]
abbrev a5Q:List pC:=[]
@[go_sem] def a5R:pJ:=⟨[((KE O)).isSome=true],[(.val .str (val (KE O)),none)],[]⟩
def aFj:List pD→List pC→Option pJ:=qP (V:=rD) (fun x=>a5P x) (fun x=>a5Q) fun x=>a5R x
@[go_sem] theorem aSW:aFj (no_index (a5P O)) (no_index a5Q)=some (a5R O):=qQ (fun a0 b0 h1 h2=>by cases h1;cases h2;rfl) O
end
@[go_sem] abbrev aFk:Nat×qC:=(63,⟨[.v],aFj,[],[],none⟩)
theorem AN:qG Tryz.prog [uX,rP,uW,w5,yZ] (qE [QF,a5K,PS,a5O]):=⟨⟨vK,⟨rQ,⟨vJ,⟨wU,⟨AL,trivial⟩⟩⟩⟩⟩,pM VG (pM aFg (pM a1e (pM aFi qS))),qI⟩
theorem aM7:qJ Tryz.prog aFk:=by
 refine qR AN Tryz.func63 (c:=_) rfl (N:=62) (by kernel_rfl) (ts:=[(2,none)]) rfl (fun _ _=>rfl) ?_;intro O hs hrow;dsimp only[a5P,a5Q,a5R,qM,pN,pW,qH,qO,Nat.reduceAdd] at hs hrow⊢;have hz:=hs;obtain⟨z0,hC0⟩:=aTF.1 hz
 try rw[r8 hC0]
 clear hz hs;unfold KE at hC0;refine pB AN ?_;obtain⟨Z,hv1,hw1,hC0⟩:=pZ hC0
 try simp only[go_sem] at hw1
 obtain⟨hg2,hC0⟩:=pI hC0;obtain⟨hg3,hC0⟩:=pI hC0;obtain⟨aA,hv4,hw4,hC0⟩:=pZ hC0
 try simp only[go_sem] at hw4
 obtain⟨hg5,hC0⟩:=pI hC0;refine xD AN ?_ (hp:=by exact⟨pY hv1,hg2,hg3,pY hv4,hg5⟩) (h:=by simp only[go_sem,hw1,hw4];rfl);refine pP ?_;refine pB AN ?_;obtain⟨aB,hC1,hC0⟩:=pF hC0;refine BB (fun s=>s=(fun x=>⟨[(1,(.val .ref (some (0,0)),none)),(3,(.val .str x,none))],[(0,.cells rN O [])],1,62,0⟩) aB) ?_ ?_
 ·refine pO hC1 (fun hC1 hc1=> ?_) (fun hC1 hc1=> ?_)
  ·obtain⟨aC,hv6,hw6,hC1⟩:=pZ hC1
   try simp only[go_sem] at hw6
   obtain⟨hg7,hC1⟩:=pI hC1;obtain⟨hg8,hC1⟩:=pI hC1;refine qU AN ?_ (hp:=by exact⟨pY hv6,hg7,hg8⟩) (h:=by simp only[go_sem,hw6];rfl);cases hC1;exact uE ⟨⟨[1,3],[(0,0)]⟩,by rfl⟩
  ·refine qD ?_;cases hC1;exact uE ⟨⟨[1,3],[(0,0)]⟩,by rfl⟩
 ·rintro _ rfl;dsimp only at hC0⊢;refine pL (pP ?_);refine pB AN ?_;obtain⟨aD,hC1,hC0⟩:=pF hC0;refine BB (fun s=>s=(fun x=>⟨[(1,(.val .ref (some (0,0)),none)),(3,(.val .str x,none))],[(0,.cells rN O [])],1,62,0⟩) aD) ?_ ?_
  ·refine pO hC1 (fun hC1 hc2=> ?_) (fun hC1 hc2=> ?_)
   ·obtain⟨aE,hv9,hw9,hC1⟩:=pZ hC1
    try simp only[go_sem] at hw9
    obtain⟨hg10,hC1⟩:=pI hC1;obtain⟨hg11,hC1⟩:=pI hC1;refine qU AN ?_ (hp:=by exact⟨pY hv9,hg10,hg11⟩) (h:=by simp only[go_sem,hw9];rfl);cases hC1;exact uE ⟨⟨[1,3],[(0,0)]⟩,by rfl⟩
   ·refine qD ?_;cases hC1;exact uE ⟨⟨[1,3],[(0,0)]⟩,by rfl⟩
  ·rintro _ rfl;dsimp only at hC0⊢;refine pL (pP ?_);refine pB AN ?_;obtain⟨aF,hC1,hC0⟩:=pF hC0;refine BB (fun s=>s=(fun x=>⟨[(1,(.val .ref (some (0,0)),none)),(3,(.val .str x,none))],[(0,.cells rN O [])],1,62,0⟩) aF) ?_ ?_
   ·refine pO hC1 (fun hC1 hc3=> ?_) (fun hC1 hc3=> ?_)
    ·obtain⟨hg12,hC1⟩:=pI hC1;obtain⟨hg13,hC1⟩:=pI hC1;obtain⟨hg14,hC1⟩:=pI hC1;refine G5 AN ?_ (hp:=by exact⟨hg12,hg13,hg14⟩);cases hC1;exact uE ⟨⟨[1,3],[(0,0)]⟩,by rfl⟩
    ·refine qD ?_;cases hC1;exact uE ⟨⟨[1,3],[(0,0)]⟩,by rfl⟩
   ·rintro _ rfl;dsimp only at hC0⊢;refine pL (pP ?_);refine pB AN ?_;refine rC ?_;obtain⟨aG,hy1,hC0⟩:=pF hC0;refine t7 0 (fun s=>s=(fun x=>⟨[(1,(.val .ref (some (0,0)),none)),(3,(.val .str x,none))],[(0,.cells rN O [])],1,62,0⟩) aG) ?_ ?_
    ·refine t6 hy1 (fun x=>⟨[(1,(.val .ref (some (0,0)),none)),(3,(.val .str x.1,none)),(45,(.val (.list .str) O.2.2.2.2.1,none)),(46,(.val (.int .i64) (O.2.2.2.2.1.length:Int),none)),(47,(.val (.int .i64) x.2,none))],[(0,.cells rN O [])],1,62,0⟩) ⟨[1,3,45,46,47],[(0,0)]⟩ (by rfl) ?_;intro x1 w1 n1 hC1 hN1;obtain⟨aH,aI⟩:=x1;unfold MZ at hC1;dsimp only at hC1⊢;refine pB AN ?_;refine pP ?_;refine pO hC1 (fun hC1 hc4=> ?_) (fun hC1 hc4=> ?_)
     ·refine qD (pL (pP (rC ?_)));obtain⟨hg15,hC1⟩:=pI hC1;refine pB AN ?_ (hp:=by exact hg15);obtain⟨hg16,hC1⟩:=pI hC1;obtain⟨hg17,hC1⟩:=pI hC1;refine qU AN ?_ (hp:=by exact⟨hg16,hg17⟩);refine qY (pL ?_);obtain⟨hg18,hC1⟩:=pI hC1;refine qU AN ?_ (hp:=by exact hg18);cases hC1;exact s7 ⟨⟨[1,3,45,46,47],[(0,0)]⟩,_,by rfl,hN1⟩
     ·refine sO (sW (sQ ?_));cases hC1;cases hN1;exact sP ⟨⟨[1,3],[(0,0)]⟩,by rfl⟩
    ·rintro _ rfl;dsimp only at hC0⊢;refine sZ (pL ?_);obtain⟨aJ,hv19,hw19,hC0⟩:=pZ hC0
     try simp only[go_sem] at hw19
     obtain⟨hg20,hC0⟩:=pI hC0;obtain⟨hg21,hC0⟩:=pI hC0;refine pB AN ?_ (hp:=by exact⟨pY hv19,hg20,hg21⟩) (h:=by simp only[go_sem,hw19];rfl);refine pK ?_;cases hC0;exact⟨[],by rfl,by rfl,by rfl⟩
attribute [irreducible] KE
end
noncomputable section
def E3 (O:(List UInt8)):Option Unit:=if (((decide ((O.length:Int)≤(4000:Int)))==true)=true→((tM O)).isSome=true) then some (()) else none
section
variable (O:(List UInt8))
abbrev a5S:List pD:=[(.val .str O,none)]
abbrev a5T:List pC:=[]
@[go_sem] def a5U:pJ:=⟨[((E3 O)).isSome=true],[(.val .bool ((decide ((O.length:Int)≤(4000:Int)))&&(val (tM O))),none)],[]⟩
def aFl:List pD→List pC→Option pJ:=qP (V:=(List UInt8)) (fun x=>a5S x) (fun x=>a5T) fun x=>a5U x
@[go_sem] theorem aSX:aFl (no_index (a5S O)) (no_index a5T)=some (a5U O):=qQ (fun a0 b0 h1 h2=>by cases h1;cases h2;rfl) O
end
@[go_sem] abbrev VH:Nat×qC:=(69,⟨[.v],aFl,[],[],none⟩)
theorem a5V:qG Tryz.prog [rP] (qE [aE0]):=⟨⟨rQ,trivial⟩,pM aMZ qS,qI⟩
theorem a5W:qJ Tryz.prog VH:=by
 refine qR a5V Tryz.func69 (c:=_) rfl (N:=10) (by kernel_rfl) (ts:=[(2,none)]) rfl (fun _ _=>rfl) ?_;intro O hs hrow;dsimp only[a5S,a5T,a5U,qM,pN,pW,qH,qO,Nat.reduceAdd] at hs hrow⊢;have hz:=hs;obtain⟨z0,hC0⟩:=aTF.1 hz
 try rw[r8 hC0]
 clear hz hs;unfold E3 at hC0;refine pB a5V ?_;obtain⟨hg1,hC0⟩:=pI hC0;refine pB a5V ?_ (hp:=by exact⟨fun hh=>hh,hg1,(fun hh=>rL hh)⟩);refine pK ?_;cases hC0;exact⟨[],by rfl,by rfl,by rfl⟩
attribute [irreducible] E3
def QK (O:(List (List UInt8))):Int→Option (Int⊕(Unit⊕Bool)):=fun Z=>if (decide (Z<(O.length:Int)))=true then if 0≤Z∧Z<(O.length:Int) then (E3 (pU .str O Z)).bind fun aA=>if (!((decide (((pU .str O Z).length:Int)≤(4000:Int)))&&(val (tM (pU .str O Z)))))=true then some (.inr (.inr (false))) else if pE (Z+(1:Int)) then some (.inl (Z+(1:Int))) else none else none else some (.inr (.inl ()))
def AO (O:(List (List UInt8))):Option Bool:=rW (qB (QK O) (0:Int)) fun _=>some ((decide ((O.length:Int)≤(20:Int))))
section
variable (O:(List (List UInt8)))
abbrev a5X:List pD:=[(.val (.list .str) O,none)]
abbrev a5Y:List pC:=[]
@[go_sem] def a5Z:pJ:=⟨[((AO O)).isSome=true],[(.val .bool (val (AO O)),none)],[]⟩
def aFm:List pD→List pC→Option pJ:=qP (V:=(List (List UInt8))) (fun x=>a5X x) (fun x=>a5Y) fun x=>a5Z x
@[go_sem] theorem aSY:aFm (no_index (a5X O)) (no_index a5Y)=some (a5Z O):=qQ (fun a0 b0 h1 h2=>by cases h1;cases h2;rfl) O
end
@[go_sem] abbrev a50:Nat×qC:=(70,⟨[.v],aFm,[],[],none⟩)
theorem IF:qG Tryz.prog [rP,uW] (qE [VH]):=⟨⟨rQ,⟨vJ,trivial⟩⟩,pM a5W qS,qI⟩
theorem aFn:qJ Tryz.prog a50:=by
 refine qR IF Tryz.func70 (c:=_) rfl (N:=19) (by kernel_rfl) (ts:=[(2,none)]) rfl (fun _ _=>rfl) ?_;intro O hs hrow;dsimp only[a5X,a5Y,a5Z,qM,pN,pW,qH,qO,Nat.reduceAdd] at hs hrow⊢;have hz:=hs;obtain⟨z0,hC0⟩:=aTF.1 hz
 try rw[r8 hC0]
 clear hz hs;unfold AO at hC0;refine pB IF ?_;refine pP ?_;refine pB IF ?_;refine rC ?_;obtain⟨y1,hy1,hC0⟩:=uI hC0;refine t7 0 (fun s=> ∃v,y1= .inl v∧s=(fun _=>⟨[(0,(.val (.list .str) O,none))],[],0,19,0⟩) v) ?_ ?_
 ·refine t6 hy1 (fun x=>⟨[(0,(.val (.list .str) O,none)),(3,(.val (.int .i64) x,none))],[],0,19,0⟩) ⟨[0,3],[]⟩ (by rfl) ?_;intro Z w1 n1 hC1 hN1;unfold QK at hC1;dsimp only at hC1⊢;refine pP ?_;refine pB IF ?_;refine pO hC1 (fun hC1 hc1=> ?_) (fun hC1 hc1=> ?_)
  ·refine qD (pL (pP (rC ?_)));obtain⟨hg1,hC1⟩:=pI hC1;obtain⟨aA,hv2,hw2,hC1⟩:=pZ hC1
   try simp only[go_sem] at hw2
   refine pB IF ?_ (hp:=by exact⟨hg1,(pY hv2)⟩) (h:=by simp only[go_sem,hw2];rfl);refine pO hC1 (fun hC1 hc2=> ?_) (fun hC1 hc2=> ?_)
   ·refine pB IF ?_;refine pK (rE (qW (uL (uK (rE (qW ?_))))));cases hC1;cases hN1;dsimp only at hC0;cases hC0;exact⟨[],by rfl,by rfl,by rfl⟩
   ·refine qD (qY (pL ?_));obtain⟨hg3,hC1⟩:=pI hC1;refine qU IF ?_ (hp:=by exact hg3);cases hC1;exact s7 ⟨⟨[0,3],[]⟩,_,by rfl,hN1⟩
  ·refine sO (sW (sQ ?_));cases hC1;cases hN1;exact sP ⟨⟨[0],[]⟩,_,rfl,by rfl⟩
 ·rintro _ ⟨v,rfl,rfl⟩;dsimp only at hC0⊢;refine sZ (pL ?_);refine pB IF ?_;refine pK ?_;cases hC0;exact⟨[],by rfl,by rfl,by rfl⟩
attribute [irreducible] AO
def QL (O:(List pV)):Int→Option (Int⊕(Unit⊕Bool)):=fun Z=>if (decide (Z<(O.length:Int)))=true then if 0≤Z∧Z<(O.length:Int) then (F6 ((pU (.pair .str (.pair .str .unit)) O Z).1)).bind fun aA=>if (((!aA)==false)=true→0≤Z∧Z<(O.length:Int)) then if (((!aA)==false)=true→((E3 ((pU (.pair .str (.pair .str .unit)) O Z).2.1))).isSome=true) then if (((((!aA)||(!((decide ((((pU (.pair .str (.pair .str .unit)) O Z).2.1).length:Int)≤(4000:Int)))&&(val (tM ((pU (.pair .str (.pair .str .unit)) O Z).2.1))))))==false)&&((decide ((0:Int)<Z))==true))=true→0≤Z∧Z<(O.length:Int)) then if (((((!aA)||(!((decide ((((pU (.pair .str (.pair .str .unit)) O Z).2.1).length:Int)≤(4000:Int)))&&(val (tM ((pU (.pair .str (.pair .str .unit)) O Z).2.1))))))==false)&&((decide ((0:Int)<Z))==true))=true→pE (Z- (1:Int))) then if (((((!aA)||(!((decide ((((pU (.pair .str (.pair .str .unit)) O Z).2.1).length:Int)≤(4000:Int)))&&(val (tM ((pU (.pair .str (.pair .str .unit)) O Z).2.1))))))==false)&&((decide ((0:Int)<Z))==true))=true→0≤(Z- (1:Int))∧(Z- (1:Int))<(O.length:Int)) then if (((!aA)||(!((decide ((((pU (.pair .str (.pair .str .unit)) O Z).2.1).length:Int)≤(4000:Int)))&&(val (tM ((pU (.pair .str (.pair .str .unit)) O Z).2.1))))))||((decide ((0:Int)<Z))&&(Op.bytesLess (pU (.pair .str (.pair .str .unit)) O Z).1 (pU (.pair .str (.pair .str .unit)) O (Z- (1:Int))).1||decide ((pU (.pair .str (.pair .str .unit)) O Z).1=(pU (.pair .str (.pair .str .unit)) O (Z- (1:Int))).1))))=true then some (.inr (.inr (false))) else if pE (Z+(1:Int)) then some (.inl (Z+(1:Int))) else none else none else none else none else none else none else none else some (.inr (.inl ()))
def CZ (O:(List pV)):Option Bool:=rW (qB (QL O) (0:Int)) fun _=>some ((decide ((O.length:Int)≤(20:Int))))
section
variable (O:(List pV))
abbrev a52:List pD:=[(.val (.list (.pair .str (.pair .str .unit))) O,none)]
abbrev a54:List pC:=[]
@[go_sem] def a55:pJ:=⟨[((CZ O)).isSome=true],[(.val .bool (val (CZ O)),none)],[]⟩
def aFo:List pD→List pC→Option pJ:=qP (V:=(List pV)) (fun x=>a52 x) (fun x=>a54) fun x=>a55 x
@[go_sem] theorem aSZ:aFo (no_index (a52 O)) (no_index a54)=some (a55 O):=qQ (fun a0 b0 h1 h2=>by cases h1;cases h2;rfl) O
end
@[go_sem] abbrev a56:Nat×qC:=(72,⟨[.v],aFo,[],[],none⟩)
theorem IG:qG Tryz.prog [rP,w5,C3] (qE [a33,VH]):=⟨⟨rQ,⟨wU,⟨DO,trivial⟩⟩⟩,pM aEn (pM a5W qS),qI⟩
theorem aFp:qJ Tryz.prog a56:=by
 refine qR IG Tryz.func72 (c:=_) rfl (N:=47) (by kernel_rfl) (ts:=[(2,none)]) rfl (fun _ _=>rfl) ?_;intro O hs hrow;dsimp only[a52,a54,a55,qM,pN,pW,qH,qO,Nat.reduceAdd] at hs hrow⊢;have hz:=hs;obtain⟨z0,hC0⟩:=aTF.1 hz
 try rw[r8 hC0]
 clear hz hs;unfold CZ at hC0;refine pB IG ?_;refine pP ?_;refine pB IG ?_;refine rC ?_;obtain⟨y1,hy1,hC0⟩:=uI hC0;refine t7 0 (fun s=> ∃v,y1= .inl v∧s=(fun _=>⟨[(0,(.val (.list (.pair .str (.pair .str .unit))) O,none))],[],0,47,0⟩) v) ?_ ?_
 ·refine t6 hy1 (fun x=>⟨[(0,(.val (.list (.pair .str (.pair .str .unit))) O,none)),(3,(.val (.int .i64) x,none))],[],0,47,0⟩) ⟨[0,3],[]⟩ (by rfl) ?_;intro Z w1 n1 hC1 hN1;unfold QL at hC1;dsimp only at hC1⊢;refine pP ?_;refine pB IG ?_;refine pO hC1 (fun hC1 hc1=> ?_) (fun hC1 hc1=> ?_)
  ·refine qD (pL (pP (rC ?_)));obtain⟨hg1,hC1⟩:=pI hC1;obtain⟨aA,hv2,hw2,hC1⟩:=pZ hC1
   try simp only[go_sem] at hw2
   obtain⟨hg3,hC1⟩:=pI hC1;obtain⟨hg4,hC1⟩:=pI hC1;obtain⟨hg5,hC1⟩:=pI hC1;obtain⟨hg6,hC1⟩:=pI hC1;obtain⟨hg7,hC1⟩:=pI hC1;refine xD IG ?_ (hp:=by exact⟨hg1,pY hv2,fun hh=>hh,fun hh=>hh,hg3,fun hh=>hh,fun hh=>hh,fun hh=>hh,hg4,fun hh=>hh,fun hh=>sR hh,fun hh=>hh,fun hh=>hh,fun hh=>hh,fun hh=>hh,hg5,fun hh=>hh,fun hh=>hh,fun hh=>hh,hg6,fun hh=>hh,fun hh=>hh,hg7,fun hh=>hh,fun hh=>hh,fun hh=>hh,fun hh=>hh,fun hh=>hh,fun hG hh=>EV hG hh,(fun hh=>sR hh)⟩) (h:=by simp only[go_sem,hw2];rfl);refine pO hC1 (fun hC1 hc2=> ?_) (fun hC1 hc2=> ?_)
   ·refine pB IG ?_;refine pK (rE (qW (uL (uK (rE (qW ?_))))));cases hC1;cases hN1;dsimp only at hC0;cases hC0;exact⟨[],by rfl,by rfl,by rfl⟩
   ·refine qD (qY (pL ?_));obtain⟨hg8,hC1⟩:=pI hC1;refine qU IG ?_ (hp:=by exact hg8);cases hC1;exact s7 ⟨⟨[0,3],[]⟩,_,by rfl,hN1⟩
  ·refine sO (sW (sQ ?_));cases hC1;cases hN1;exact sP ⟨⟨[0],[]⟩,_,rfl,by rfl⟩
 ·rintro _ ⟨v,rfl,rfl⟩;dsimp only at hC0⊢;refine sZ (pL ?_);refine pB IG ?_;refine pK ?_;cases hC0;exact⟨[],by rfl,by rfl,by rfl⟩
attribute [irreducible] CZ
end
noncomputable section
def KF (O:(List (List UInt8))):Option Unit:=if (((decide ((O.length:Int)≤(20:Int)))==true)=true→((BJ O)).isSome=true) then some (()) else none
section
variable (O:(List (List UInt8)))
abbrev a57:List pD:=[(.val (.list .str) O,none)]
abbrev a58:List pC:=[]
@[go_sem] def a59:pJ:=⟨[((KF O)).isSome=true],[(.val .bool ((decide ((O.length:Int)≤(20:Int)))&&(!(val (BJ O)))),none)],[]⟩
def aFq:List pD→List pC→Option pJ:=qP (V:=(List (List UInt8))) (fun x=>a57 x) (fun x=>a58) fun x=>a59 x
@[go_sem] theorem aS0:aFq (no_index (a57 O)) (no_index a58)=some (a59 O):=qQ (fun a0 b0 h1 h2=>by cases h1;cases h2;rfl) O
end
@[go_sem] abbrev a6a:Nat×qC:=(107,⟨[.v],aFq,[],[],none⟩)
theorem a6b:qG Tryz.prog [uW] (qE [aFe]):=⟨⟨vJ,trivial⟩,pM aM6 qS,qI⟩
theorem aFr:qJ Tryz.prog a6a:=by
 refine qR a6b Tryz.func107 (c:=_) rfl (N:=11) (by kernel_rfl) (ts:=[(2,none)]) rfl (fun _ _=>rfl) ?_;intro O hs hrow;dsimp only[a57,a58,a59,qM,pN,pW,qH,qO,Nat.reduceAdd] at hs hrow⊢;have hz:=hs;obtain⟨z0,hC0⟩:=aTF.1 hz
 try rw[r8 hC0]
 clear hz hs;unfold KF at hC0;refine pB a6b ?_;obtain⟨hg1,hC0⟩:=pI hC0;refine pB a6b ?_ (hp:=by exact⟨fun hh=>hh,hg1,fun hh=>hh,(fun hh=>rL hh)⟩);refine pK ?_;cases hC0;exact⟨[],by rfl,by rfl,by rfl⟩
attribute [irreducible] KF
def KG (O:qZ):Option Bool:=(DW O.1).bind fun Z=>if ((Z==true)=true→((AO O.2.1)).isSome=true) then if (((Z&&(val (AO O.2.1)))==true)=true→((CZ O.2.2.1)).isSome=true) then some (((Z&&(val (AO O.2.1)))&&(val (CZ O.2.2.1)))) else none else none
section
variable (O:qZ)
abbrev a6c:List pD:=[(.val wH O,none)]
abbrev a6d:List pC:=[]
@[go_sem] def a6e:pJ:=⟨[((KG O)).isSome=true],[(.val .bool (val (KG O)),none)],[]⟩
def aFs:List pD→List pC→Option pJ:=qP (V:=qZ) (fun x=>a6c x) (fun x=>a6d) fun x=>a6e x
@[go_sem] theorem aS1:aFs (no_index (a6c O)) (no_index a6d)=some (a6e O):=qQ (fun a0 b0 h1 h2=>by cases h1;cases h2;rfl) O
end
@[go_sem] abbrev aFt:Nat×qC:=(68,⟨[.v],aFs,[],[],none⟩)
theorem a6f:qG Tryz.prog [rP,uW,w5,zR] (qE [aEl,a50,a56]):=⟨⟨rQ,⟨vJ,⟨wU,⟨BD,trivial⟩⟩⟩⟩,pM aMJ (pM aFn (pM aFp qS)),qI⟩
theorem aM8:qJ Tryz.prog aFt:=by
 refine qR a6f Tryz.func68 (c:=_) rfl (N:=16) (by kernel_rfl) (ts:=[(2,none)]) rfl (fun _ _=>rfl) ?_;intro O hs hrow;dsimp only[a6c,a6d,a6e,qM,pN,pW,qH,qO,Nat.reduceAdd] at hs hrow⊢;have hz:=hs;obtain⟨z0,hC0⟩:=aTF.1 hz
 try rw[r8 hC0]
 clear hz hs;unfold KG at hC0;refine pB a6f ?_;obtain⟨Z,hv1,hw1,hC0⟩:=pZ hC0
 try simp only[go_sem] at hw1
 obtain⟨hg2,hC0⟩:=pI hC0;obtain⟨hg3,hC0⟩:=pI hC0;refine pB a6f ?_ (hp:=by exact⟨pY hv1,fun hh=>hh,fun hh=>hh,hg2,fun hh=>rL hh,fun hh=>hh,fun hh=>hh,hg3,(fun hh=>rL hh)⟩) (h:=by simp only[go_sem,hw1];rfl);refine pK ?_;cases hC0;exact⟨[],by rfl,by rfl,by rfl⟩
attribute [irreducible] KG
end
noncomputable section
def IH (O:rD):Option Bool:=if ((((decide (O.1=([]:List UInt8)))||(decide ((200:Int)<(O.1.length:Int))))==false)=true→((DY O.1)).isSome=true) then if (((((decide (O.1=([]:List UInt8)))||(decide ((200:Int)<(O.1.length:Int))))||(!((decide ((O.1.length:Int)≤(4000:Int)))&&(Lib.validD O.1))))||(decide (O.2.2.2.2.2.1<(0:Int))))||(decide ((4:Int)<O.2.2.2.2.2.1)))=true then some (false) else (DY O.2.1).bind fun Z=>if ((((decide ((O.2.1.length:Int)≤(4000:Int)))&&(Lib.validD O.2.1))==true)=true→((DY O.2.2.1)).isSome=true) then if (((((decide ((O.2.1.length:Int)≤(4000:Int)))&&(Lib.validD O.2.1))&&((decide ((O.2.2.1.length:Int)≤(4000:Int)))&&(Lib.validD O.2.2.1)))==true)=true→((KF O.2.2.2.1)).isSome=true) then if ((((((decide ((O.2.1.length:Int)≤(4000:Int)))&&(Lib.validD O.2.1))&&((decide ((O.2.2.1.length:Int)≤(4000:Int)))&&(Lib.validD O.2.2.1)))&&((decide ((O.2.2.2.1.length:Int)≤(20:Int)))&&(!(val (BJ O.2.2.2.1)))))==true)=true→((GE O.2.2.2.2.1)).isSome=true) then if (((((((decide ((O.2.1.length:Int)≤(4000:Int)))&&(Lib.validD O.2.1))&&((decide ((O.2.2.1.length:Int)≤(4000:Int)))&&(Lib.validD O.2.2.1)))&&((decide ((O.2.2.2.1.length:Int)≤(20:Int)))&&(!(val (BJ O.2.2.2.1)))))&&(val (GE O.2.2.2.2.1)))==true)=true→((F8 O.2.2.2.2.2.2.1)).isSome=true) then some (((((((decide ((O.2.1.length:Int)≤(4000:Int)))&&(Lib.validD O.2.1))&&((decide ((O.2.2.1.length:Int)≤(4000:Int)))&&(Lib.validD O.2.2.1)))&&((decide ((O.2.2.2.1.length:Int)≤(20:Int)))&&(!(val (BJ O.2.2.2.1)))))&&(val (GE O.2.2.2.2.1)))&&(val (F8 O.2.2.2.2.2.2.1)))) else none else none else none else none else none
section
variable (O:rD)
abbrev a6g:List pD:=[(.val rN O,none)]
abbrev a6h:List pC:=[]
@[go_sem] def a6i:pJ:=⟨[((IH O)).isSome=true],[(.val .bool (val (IH O)),none)],[]⟩
def aFu:List pD→List pC→Option pJ:=qP (V:=rD) (fun x=>a6g x) (fun x=>a6h) fun x=>a6i x
@[go_sem] theorem aS2:aFu (no_index (a6g O)) (no_index a6h)=some (a6i O):=qQ (fun a0 b0 h1 h2=>by cases h1;cases h2;rfl) O
end
@[go_sem] abbrev aFv:Nat×qC:=(109,⟨[.v],aFu,[],[],none⟩)
theorem QM:qG Tryz.prog [uX,rP,uW,w5,yZ] (qE [Q8,a6a,aDb,a49]):=⟨⟨vK,⟨rQ,⟨vJ,⟨wU,⟨AL,trivial⟩⟩⟩⟩⟩,pM VD (pM aFr (pM aMl (pM aEW qS))),qI⟩
theorem aM9:qJ Tryz.prog aFv:=by
 refine qR QM Tryz.func109 (c:=_) rfl (N:=51) (by kernel_rfl) (ts:=[(2,none)]) rfl (fun _ _=>rfl) ?_;intro O hs hrow;dsimp only[a6g,a6h,a6i,qM,pN,pW,qH,qO,Nat.reduceAdd] at hs hrow⊢;have hz:=hs;obtain⟨z0,hC0⟩:=aTF.1 hz
 try rw[r8 hC0]
 clear hz hs;unfold IH at hC0;refine pB QM ?_;refine pP ?_;obtain⟨hg1,hC0⟩:=pI hC0;refine pB QM ?_ (hp:=by exact⟨fun hh=>hh,fun hh=>hh,fun hh=>hh,fun hh=>sR hh,fun hh=>hh,fun hh=>hh,hg1,fun hh=>hh,fun hh=>sR hh,fun hh=>hh,fun hh=>hh,fun hh=>sR hh,fun hh=>hh,fun hh=>hh,(fun hh=>sR hh)⟩);refine pO hC0 (fun hC0 hc1=> ?_) (fun hC0 hc1=> ?_)
 ·refine pB QM ?_;refine pK (qW ?_);cases hC0;exact⟨[],by rfl,by rfl,by rfl⟩
 ·refine qD (pL ?_);obtain⟨Z,hv2,hw2,hC0⟩:=pZ hC0
  try simp only[go_sem] at hw2
  obtain⟨hg3,hC0⟩:=pI hC0;obtain⟨hg4,hC0⟩:=pI hC0;obtain⟨hg5,hC0⟩:=pI hC0;obtain⟨hg6,hC0⟩:=pI hC0;refine pB QM ?_ (hp:=by exact⟨pY hv2,fun hh=>hh,fun hh=>hh,hg3,fun hh=>rL hh,fun hh=>hh,fun hh=>hh,hg4,fun hh=>rL hh,fun hh=>hh,fun hh=>hh,hg5,fun hh=>rL hh,fun hh=>hh,fun hh=>hh,hg6,(fun hh=>rL hh)⟩) (h:=by simp only[go_sem,hw2];rfl);refine pK ?_;cases hC0;exact⟨[],by rfl,by rfl,by rfl⟩
attribute [irreducible] IH
def QN (O:(List Int)):(Int×(List Int))→Option ((Int×(List Int))⊕(List Int)):=fun(Z,aA)=>if (decide (Z<(O.length:Int)))=true then if 0≤Z∧Z<(O.length:Int) then if (!(((decide ((0:Int)≤(pU (.int .i64) O Z)))&&(decide ((pU (.int .i64) O Z)≤(1114111:Int))))&&((decide ((pU (.int .i64) O Z)<(55296:Int)))||(decide ((57343:Int)<(pU (.int .i64) O Z))))))=true then (F9 (aA,()) (IntKind.wrap .i32 (65533:Int))).bind fun aB=>if pE (Z+(1:Int)) then some (.inl ((Z+(1:Int)),aB.2)) else none else (F9 (aA,()) (IntKind.wrap .i32 (pU (.int .i64) O Z))).bind fun aC=>if pE (Z+(1:Int)) then some (.inl ((Z+(1:Int)),aC.2)) else none else none else some (.inr aA)
def N0 (O:(List Int)):Option (List UInt8):=rH (qB (QN O) ((0:Int),([]:List Int))) fun Z=>some ((s5 Z))
section
variable (O:(List Int))
abbrev a6j:List pD:=[(.val (.list (.int .i64)) O,none)]
abbrev a6k:List pC:=[]
@[go_sem] def a6l:pJ:=⟨[((N0 O)).isSome=true],[(.val .str (val (N0 O)),none)],[]⟩
def aFw:List pD→List pC→Option pJ:=qP (V:=(List Int)) (fun x=>a6j x) (fun x=>a6k) fun x=>a6l x
@[go_sem] theorem aS3:aFw (no_index (a6j O)) (no_index a6k)=some (a6l O):=qQ (fun a0 b0 h1 h2=>by cases h1;cases h2;rfl) O
end
@[go_sem] abbrev aFx:Nat×qC:=(277,⟨[.v],aFw,[],[],none⟩)
theorem CA:qG Tryz.prog [uX,M7,JY,G9] (qE [aDZ,aE9,PP]):=⟨⟨vK,⟨UL,⟨PM,⟨JX,trivial⟩⟩⟩⟩,pM aMy (pM aM3 (pM UT qS)),qI⟩
theorem aNa:qJ Tryz.prog aFx:=by
 refine qR CA Tryz.func277 (c:=_) rfl (N:=20) (by kernel_rfl) (ts:=[(2,none)]) rfl (fun _ _=>rfl) ?_;intro O hs hrow;dsimp only[a6j,a6k,a6l,qM,pN,pW,qH,qO,Nat.reduceAdd] at hs hrow⊢;have hz:=hs;obtain⟨z0,hC0⟩:=aTF.1 hz
 try rw[r8 hC0]
 clear hz hs;unfold N0 at hC0;refine pB CA ?_;refine pB CA ?_;refine pP ?_;refine pB CA ?_;refine rC ?_;obtain⟨Z,hy1,hC0⟩:=pF hC0;refine t7 0 (fun s=>s=(fun x=>⟨[(3,(.val .ref (some (0,0)),none))],[(0,.cells wT ((some (0,0)),(x,())) [(1,1)]),(1,.grow 5 1 (x.length))],2,20,0⟩) Z) ?_ ?_
 ·refine t6 hy1 (fun x=>⟨[(3,(.val .ref (some (0,0)),none)),(6,(.val (.list (.int .i64)) O,none)),(7,(.val (.int .i64) (O.length:Int),none)),(8,(.val (.int .i64) x.1,none))],[(0,.cells wT ((some (0,0)),(x.2,())) [(1,1)]),(1,.grow 5 1 (x.2.length))],2,20,0⟩) ⟨[3,6,7,8],[(0,32),(1,33)]⟩ (by rfl) ?_;intro x1 w1 n1 hC1 hN1;obtain⟨aA,aB⟩:=x1;unfold QN at hC1;dsimp only at hC1⊢;refine pB CA ?_;refine pP ?_;refine pO hC1 (fun hC1 hc1=> ?_) (fun hC1 hc1=> ?_)
  ·refine qD (pL (pP (rC ?_)));obtain⟨hg1,hC1⟩:=pI hC1;refine pB CA ?_ (hp:=by exact hg1);refine pP ?_;refine pB CA ?_;refine pO hC1 (fun hC1 hc2=> ?_) (fun hC1 hc2=> ?_)
   ·refine qU CA ?_;refine pL ?_;obtain⟨aC,hv2,hw2,hC1⟩:=pZ hC1
    try simp only[go_sem] at hw2
    refine qU CA ?_ (hp:=by exact⟨by first|rfl|trivial,(pY hv2)⟩) (h:=by simp only[go_sem,hw2];rfl)
    refine qY (pL ?_);obtain⟨hg3,hC1⟩:=pI hC1;refine qU CA ?_ (hp:=by exact hg3);cases hC1;exact s7 ⟨⟨[3,6,7,8],[(0,0),(1,1)]⟩,_,by rfl,hN1⟩
   ·refine qD (pL ?_);obtain⟨aD,hv4,hw4,hC1⟩:=pZ hC1
    try simp only[go_sem] at hw4
    refine qU CA ?_ (hp:=by exact⟨by first|rfl|trivial,(pY hv4)⟩) (h:=by simp only[go_sem,hw4];rfl)
    refine qY (pL ?_);obtain⟨hg5,hC1⟩:=pI hC1;refine qU CA ?_ (hp:=by exact hg5);cases hC1;exact s7 ⟨⟨[3,6,7,8],[(0,0),(1,1)]⟩,_,by rfl,hN1⟩
  ·refine sO (sW (sQ ?_));cases hC1;cases hN1;exact sP ⟨⟨[3],[(0,0),(1,1)]⟩,by rfl⟩
 ·rintro _ rfl;dsimp only at hC0⊢;refine sZ (pL ?_);refine pB CA ?_ (hp:=by first|rfl|trivial)
  refine pK ?_;cases hC0;exact⟨[],by rfl,by rfl,by rfl⟩
attribute [irreducible] N0
end
noncomputable section
def QO (O:Int) (Z:(List UInt8)):((List Int)×Int)→Option (((List Int)×Int)⊕((List Int)⊕((List UInt8)×Int×Int))):=fun(aA,aB)=>if (decide (aB<(Z.length:Int)))=true then if 0≤aB∧aB<(Z.length:Int) then if pE (aB+(1:Int)) then if 0≤aB∧aB≤(aB+(1:Int))∧(aB+(1:Int))≤(Z.length:Int) then rH (σ:=((List UInt8)×Int)) (if ((!decide (O=(4:Int)))&&(decide ((pR Z aB)=(92:Int))))=true then if 0≤aB∧aB≤(Z.length:Int)∧(Z.length:Int)≤(Z.length:Int) then (QG (pT Z aB (Z.length:Int))).bind fun aC=>some ((aC.1,aC.2)) else none else if ((decide (O=(4:Int)))&&(decide ((pR Z aB)=(38:Int))))=true then if 0≤aB∧aB≤(Z.length:Int)∧(Z.length:Int)≤(Z.length:Int) then (aFa (pT Z aB (Z.length:Int))).bind fun aD=>some ((aD.1,aD.2)) else none else if ((!decide (O=(4:Int)))&&(decide ((pR Z aB)=(10:Int))))=true then if ((!decide (O=(4:Int)))&&(decide ((pR Z aB)=(10:Int))))=true then some (((pT Z aB (aB+(1:Int))),(0:Int))) else some (((pT Z aB (aB+(1:Int))),(1:Int))) else if (((decide (O=(2:Int)))||(decide (O=(3:Int))))&&(decide ((pR Z aB)=(34:Int))))=true then if (((decide (O=(2:Int)))||(decide (O=(3:Int))))&&(decide ((pR Z aB)=(34:Int))))=true then some (((pT Z aB (aB+(1:Int))),(0:Int))) else some (((pT Z aB (aB+(1:Int))),(1:Int))) else if (((decide (O=(4:Int)))==true)=true→((DS (pR Z aB) ([60,34]:List UInt8))).isSome=true) then if ((decide (O=(4:Int)))&&(val (DS (pR Z aB) ([60,34]:List UInt8))))=true then some (((pT Z aB (aB+(1:Int))),(0:Int))) else some (((pT Z aB (aB+(1:Int))),(1:Int))) else none ) fun(aE,aF)=>if (decide (aF=(0:Int)))=true then some (.inr (.inr ((([]:List UInt8),aB,(3:Int))))) else if List.length aA+aE.length≤140737488355328 then if pE (aB+aF) then some (.inl ((aA++sJ aE),(aB+aF))) else none else none else none else none else none else some (.inr (.inl aA))
def QP (O:Int) (Z:(List UInt8)):Option ((List UInt8)×Int×Int):=if (!((decide ((1:Int)≤O))&&(decide (O≤(4:Int)))))=true then some ((([]:List UInt8),(0:Int),(1:Int))) else rW (qB (QO O Z) (([]:List Int),(0:Int))) fun aA=>some (((s5 aA),(0:Int),(0:Int)))
attribute [irreducible] QP
def N1 (O:rD):Option Unit:=if ((((!decide (O.1=([]:List UInt8)))&&(decide ((O.1.length:Int)≤(200:Int))))==true)=true→((E3 O.1)).isSome=true) then if (((((!decide (O.1=([]:List UInt8)))&&(decide ((O.1.length:Int)≤(200:Int))))&&((decide ((O.1.length:Int)≤(4000:Int)))&&(val (tM O.1))))==true)=true→((E3 O.2.1)).isSome=true) then if ((((((!decide (O.1=([]:List UInt8)))&&(decide ((O.1.length:Int)≤(200:Int))))&&((decide ((O.1.length:Int)≤(4000:Int)))&&(val (tM O.1))))&&((decide ((O.2.1.length:Int)≤(4000:Int)))&&(val (tM O.2.1))))==true)=true→((E3 O.2.2.1)).isSome=true) then if (((((((!decide (O.1=([]:List UInt8)))&&(decide ((O.1.length:Int)≤(200:Int))))&&((decide ((O.1.length:Int)≤(4000:Int)))&&(val (tM O.1))))&&((decide ((O.2.1.length:Int)≤(4000:Int)))&&(val (tM O.2.1))))&&((decide ((O.2.2.1.length:Int)≤(4000:Int)))&&(val (tM O.2.2.1))))==true)=true→((AO O.2.2.2.1)).isSome=true) then if ((((((((!decide (O.1=([]:List UInt8)))&&(decide ((O.1.length:Int)≤(200:Int))))&&((decide ((O.1.length:Int)≤(4000:Int)))&&(val (tM O.1))))&&((decide ((O.2.1.length:Int)≤(4000:Int)))&&(val (tM O.2.1))))&&((decide ((O.2.2.1.length:Int)≤(4000:Int)))&&(val (tM O.2.2.1))))&&(val (AO O.2.2.2.1)))==true)=true→((E2 O.2.2.2.2.1)).isSome=true) then if (((((((((((!decide (O.1=([]:List UInt8)))&&(decide ((O.1.length:Int)≤(200:Int))))&&((decide ((O.1.length:Int)≤(4000:Int)))&&(val (tM O.1))))&&((decide ((O.2.1.length:Int)≤(4000:Int)))&&(val (tM O.2.1))))&&((decide ((O.2.2.1.length:Int)≤(4000:Int)))&&(val (tM O.2.2.1))))&&(val (AO O.2.2.2.1)))&&(val (E2 O.2.2.2.2.1)))&&(decide ((0:Int)≤O.2.2.2.2.2.1)))&&(decide (O.2.2.2.2.2.1≤(4:Int))))==true)=true→((CZ O.2.2.2.2.2.2.1)).isSome=true) then some (()) else none else none else none else none else none else none
section
variable (O:rD)
abbrev a6m:List pD:=[(.val rN O,none)]
abbrev a6n:List pC:=[]
@[go_sem] def a6o:pJ:=⟨[((N1 O)).isSome=true],[(.val .bool ((((((((((!decide (O.1=([]:List UInt8)))&&(decide ((O.1.length:Int)≤(200:Int))))&&((decide ((O.1.length:Int)≤(4000:Int)))&&(val (tM O.1))))&&((decide ((O.2.1.length:Int)≤(4000:Int)))&&(val (tM O.2.1))))&&((decide ((O.2.2.1.length:Int)≤(4000:Int)))&&(val (tM O.2.2.1))))&&(val (AO O.2.2.2.1)))&&(val (E2 O.2.2.2.2.1)))&&(decide ((0:Int)≤O.2.2.2.2.2.1)))&&(decide (O.2.2.2.2.2.1≤(4:Int))))&&(val (CZ O.2.2.2.2.2.2.1))),none)],[]⟩
def aFy:List pD→List pC→Option pJ:=qP (V:=rD) (fun x=>a6m x) (fun x=>a6n) fun x=>a6o x
@[go_sem] theorem aS4:aFy (no_index (a6m O)) (no_index a6n)=some (a6o O):=qQ (fun a0 b0 h1 h2=>by cases h1;cases h2;rfl) O
end
@[go_sem] abbrev aFz:Nat×qC:=(36,⟨[.v],aFy,[],[],none⟩)
theorem a6p:qG Tryz.prog [uX,rP,uW,w5,yZ] (qE [VH,a50,aEU,a56]):=⟨⟨vK,⟨rQ,⟨vJ,⟨wU,⟨AL,trivial⟩⟩⟩⟩⟩,pM a5W (pM aFn (pM aMX (pM aFp qS))),qI⟩
theorem aNb:qJ Tryz.prog aFz:=by
 refine qR a6p Tryz.func36 (c:=_) rfl (N:=52) (by kernel_rfl) (ts:=[(2,none)]) rfl (fun _ _=>rfl) ?_;intro O hs hrow;dsimp only[a6m,a6n,a6o,qM,pN,pW,qH,qO,Nat.reduceAdd] at hs hrow⊢;have hz:=hs;obtain⟨z0,hC0⟩:=aTF.1 hz
 try rw[r8 hC0]
 clear hz hs;unfold N1 at hC0;refine pB a6p ?_;obtain⟨hg1,hC0⟩:=pI hC0;obtain⟨hg2,hC0⟩:=pI hC0;obtain⟨hg3,hC0⟩:=pI hC0;obtain⟨hg4,hC0⟩:=pI hC0;obtain⟨hg5,hC0⟩:=pI hC0;obtain⟨hg6,hC0⟩:=pI hC0;refine pB a6p ?_ (hp:=by exact⟨fun hh=>hh,fun hh=>hh,fun hh=>hh,fun hh=>rL hh,fun hh=>hh,fun hh=>hh,hg1,fun hh=>rL hh,fun hh=>hh,fun hh=>hh,hg2,fun hh=>rL hh,fun hh=>hh,fun hh=>hh,hg3,fun hh=>rL hh,fun hh=>hh,fun hh=>hh,hg4,fun hh=>rL hh,fun hh=>hh,fun hh=>hh,hg5,fun hh=>rL hh,fun hh=>hh,fun hh=>hh,fun hh=>rL hh,fun hh=>hh,fun hh=>hh,fun hh=>rL hh,fun hh=>hh,fun hh=>hh,hg6,(fun hh=>rL hh)⟩);refine pK ?_;cases hC0;exact⟨[],by rfl,by rfl,by rfl⟩
attribute [irreducible] N1
def KH (O:qZ):(Int×(List ((List UInt8)×Bool)))→Option ((Int×(List ((List UInt8)×Bool)))⊕(Unit⊕Bool)):=fun(Z,aA)=>if (decide (Z<(O.2.2.2.1.length:Int)))=true then if 0≤Z∧Z<(O.2.2.2.1.length:Int) then if (((rV .str .bool aA ((pU rN O.2.2.2.1 Z).1))==false)=true→((IH (pU rN O.2.2.2.1 Z))).isSome=true) then if ((rV .str .bool aA ((pU rN O.2.2.2.1 Z).1))||(!(val (IH (pU rN O.2.2.2.1 Z)))))=true then some (.inr (.inr (false))) else if pE (Z+(1:Int)) then some (.inl ((Z+(1:Int)),(sL .str .bool ((pU rN O.2.2.2.1 Z).1) true aA))) else none else none else none else some (.inr (.inl ()))
def KI (O:qZ):Option Bool:=(GD O.1).bind fun Z=>if (((!Z)==false)=true→((KF O.2.1)).isSome=true) then if ((((!Z)||(!((decide ((O.2.1.length:Int)≤(20:Int)))&&(!(val (BJ O.2.1))))))==false)=true→((F8 O.2.2.1)).isSome=true) then if ((((!Z)||(!((decide ((O.2.1.length:Int)≤(20:Int)))&&(!(val (BJ O.2.1))))))||(!(val (F8 O.2.2.1))))||(decide ((1000:Int)<(O.2.2.2.1.length:Int))))=true then some (false) else rW (qB (KH O) ((0:Int),([]:List ((List UInt8)×Bool)))) fun _=>some (true) else none else none
section
variable (O:qZ)
abbrev a6q:List pD:=[(.val wH O,none)]
abbrev a6r:List pC:=[]
@[go_sem] def a6s:pJ:=⟨[((KI O)).isSome=true],[(.val .bool (val (KI O)),none)],[]⟩
def aFA:List pD→List pC→Option pJ:=qP (V:=qZ) (fun x=>a6q x) (fun x=>a6r) fun x=>a6s x
@[go_sem] theorem aS5:aFA (no_index (a6q O)) (no_index a6r)=some (a6s O):=qQ (fun a0 b0 h1 h2=>by cases h1;cases h2;rfl) O
end
@[go_sem] abbrev aFB:Nat×qC:=(59,⟨[.v],aFA,[],[],none⟩)
theorem CB:qG Tryz.prog [EZ,rP,uW,w5,DN,zR,yZ,HV] (qE [a1j,a6a,a49,aFv]):=⟨⟨HU,⟨rQ,⟨vJ,⟨wU,⟨G8,⟨BD,⟨AL,⟨M6,trivial⟩⟩⟩⟩⟩⟩⟩⟩,pM aCS (pM aFr (pM aEW (pM aM9 qS))),qI⟩
theorem aNc:qJ Tryz.prog aFB:=by
 refine qR CB Tryz.func59 (c:=_) rfl (N:=49) (by kernel_rfl) (ts:=[(2,none)]) rfl (fun _ _=>rfl) ?_;intro O hs hrow;dsimp only[a6q,a6r,a6s,qM,pN,pW,qH,qO,Nat.reduceAdd] at hs hrow⊢;have hz:=hs;obtain⟨z0,hC0⟩:=aTF.1 hz
 try rw[r8 hC0]
 clear hz hs;unfold KI at hC0;refine pB CB ?_;refine pP ?_;obtain⟨Z,hv1,hw1,hC0⟩:=pZ hC0
 try simp only[go_sem] at hw1
 obtain⟨hg2,hC0⟩:=pI hC0;obtain⟨hg3,hC0⟩:=pI hC0;refine pB CB ?_ (hp:=by exact⟨pY hv1,fun hh=>hh,fun hh=>hh,hg2,fun hh=>hh,fun hh=>sR hh,fun hh=>hh,fun hh=>hh,hg3,fun hh=>hh,fun hh=>sR hh,fun hh=>hh,fun hh=>hh,fun hh=>hh,(fun hh=>sR hh)⟩) (h:=by simp only[go_sem,hw1];rfl);refine pO hC0 (fun hC0 hc1=> ?_) (fun hC0 hc1=> ?_)
 ·refine pB CB ?_;refine pK (qW ?_);cases hC0;exact⟨[],by rfl,by rfl,by rfl⟩
 ·refine qD (pL ?_);refine pB CB ?_;refine pP ?_;refine pB CB ?_;refine rC ?_;obtain⟨y1,hy1,hC0⟩:=uI hC0;refine t7 0 (fun s=> ∃v,y1= .inl v∧s=(fun _=>⟨[],[],0,49,0⟩) v) ?_ ?_
  ·refine t6 hy1 (fun x=>⟨[(3,(.val .mp (some 0),none)),(30,(.val (.list rN) O.2.2.2.1,none)),(31,(.val (.int .i64) (O.2.2.2.1.length:Int),none)),(32,(.val (.int .i64) x.1,none))],[(0,.map .str .bool x.2)],1,49,0⟩) ⟨[3,30,31,32],[(0,768)]⟩ (by rfl) ?_;intro x1 w1 n1 hC1 hN1;obtain⟨aA,aB⟩:=x1;unfold KH at hC1;dsimp only at hC1⊢;refine pB CB ?_;refine pP ?_;refine pO hC1 (fun hC1 hc2=> ?_) (fun hC1 hc2=> ?_)
   ·refine qD (pL (pP (rC ?_)));obtain⟨hg4,hC1⟩:=pI hC1;refine pB CB ?_ (hp:=by exact hg4);refine pP ?_;obtain⟨hg5,hC1⟩:=pI hC1;refine pB CB ?_ (hp:=by exact⟨fun hh=>hh,hg5,fun hh=>hh,(fun hh=>sR hh)⟩);refine pO hC1 (fun hC1 hc3=> ?_) (fun hC1 hc3=> ?_)
    ·refine pB CB ?_;refine pK (qW (rE (qW (uL (uK (rE (qW ?_)))))));cases hC1;cases hN1;dsimp only at hC0;cases hC0;exact⟨[],by rfl,by rfl,by rfl⟩
    ·refine qD (pL ?_);refine qU CB ?_;refine qY (pL ?_);obtain⟨hg6,hC1⟩:=pI hC1;refine qU CB ?_ (hp:=by exact hg6);cases hC1;exact s7 ⟨⟨[3,30,31,32],[(0,0)]⟩,_,by rfl,hN1⟩
   ·refine sO (sW (sQ ?_));cases hC1;cases hN1;exact sP ⟨⟨[],[]⟩,_,rfl,by rfl⟩
  ·rintro _ ⟨v,rfl,rfl⟩;dsimp only at hC0⊢;refine sZ (pL ?_);refine pB CB ?_;refine pK ?_;cases hC0;exact⟨[],by rfl,by rfl,by rfl⟩
attribute [irreducible] KI
end
noncomputable section
def QQ (O:(List UInt8)):Int→Option (Int⊕Int):=fun Z=>if (((decide (Z<(O.length:Int)))==true)=true→0≤Z∧Z<(O.length:Int)) then if ((((decide (Z<(O.length:Int)))==true)&&((((decide ((97:Int)≤(pR O Z)))&&(decide ((pR O Z)≤(122:Int))))||((decide ((65:Int)≤(pR O Z)))&&(decide ((pR O Z)≤(90:Int)))))==false))=true→0≤Z∧Z<(O.length:Int)) then if (((((decide (Z<(O.length:Int)))==true)&&((((decide ((97:Int)≤(pR O Z)))&&(decide ((pR O Z)≤(122:Int))))||((decide ((65:Int)≤(pR O Z)))&&(decide ((pR O Z)≤(90:Int)))))==false))&&((decide ((48:Int)≤(pR O Z)))==true))=true→0≤Z∧Z<(O.length:Int)) then if ((((decide (Z<(O.length:Int)))==true)&&(((((decide ((97:Int)≤(pR O Z)))&&(decide ((pR O Z)≤(122:Int))))||((decide ((65:Int)≤(pR O Z)))&&(decide ((pR O Z)≤(90:Int)))))||((decide ((48:Int)≤(pR O Z)))&&(decide ((pR O Z)≤(57:Int)))))==false))=true→0≤Z∧Z<(O.length:Int)) then if ((((decide (Z<(O.length:Int)))==true)&&((((((decide ((97:Int)≤(pR O Z)))&&(decide ((pR O Z)≤(122:Int))))||((decide ((65:Int)≤(pR O Z)))&&(decide ((pR O Z)≤(90:Int)))))||((decide ((48:Int)≤(pR O Z)))&&(decide ((pR O Z)≤(57:Int)))))||(decide ((pR O Z)=(45:Int))))==false))=true→0≤Z∧Z<(O.length:Int)) then if ((((decide (Z<(O.length:Int)))==true)&&(((((((decide ((97:Int)≤(pR O Z)))&&(decide ((pR O Z)≤(122:Int))))||((decide ((65:Int)≤(pR O Z)))&&(decide ((pR O Z)≤(90:Int)))))||((decide ((48:Int)≤(pR O Z)))&&(decide ((pR O Z)≤(57:Int)))))||(decide ((pR O Z)=(45:Int))))||(decide ((pR O Z)=(95:Int))))==false))=true→0≤Z∧Z<(O.length:Int)) then if ((decide (Z<(O.length:Int)))&&(((((((decide ((97:Int)≤(pR O Z)))&&(decide ((pR O Z)≤(122:Int))))||((decide ((65:Int)≤(pR O Z)))&&(decide ((pR O Z)≤(90:Int)))))||((decide ((48:Int)≤(pR O Z)))&&(decide ((pR O Z)≤(57:Int)))))||(decide ((pR O Z)=(45:Int))))||(decide ((pR O Z)=(95:Int))))||(decide ((pR O Z)=(46:Int)))))=true then if pE (Z+(1:Int)) then some (.inl (Z+(1:Int))) else none else some (.inr Z) else none else none else none else none else none else none
def N2 (O:(List UInt8)) (Z:Int):Option (Int×(List UInt8)×Int×Int):=(MR O Z).bind fun aA=>if (decide (aA=(O.length:Int)))=true then some (((0:Int),([]:List UInt8),aA,aA)) else if 0≤aA∧aA<(O.length:Int) then if ((decide ((pR O aA)=(123:Int)))||(decide ((pR O aA)=(125:Int))))=true then if pE (aA+(1:Int)) then if 0≤aA∧aA≤(aA+(1:Int))∧(aA+(1:Int))≤(O.length:Int) then if pE (aA+(1:Int)) then some (((3:Int),(pT O aA (aA+(1:Int))),aA,(aA+(1:Int)))) else none else none else none else if (decide ((pR O aA)=(34:Int)))=true then if pE (aA+(1:Int)) then if 0≤(aA+(1:Int))∧(aA+(1:Int))≤(O.length:Int)∧(O.length:Int)≤(O.length:Int) then (MK (3:Int) (pT O (aA+(1:Int)) (O.length:Int)) (34:Int)).bind fun aB=>if (decide (aB<(0:Int)))=true then some (((0:Int),([]:List UInt8),aA,aA)) else if pE (aA+(1:Int)) then if pE (aA+(1:Int)) then if pE ((aA+(1:Int))+aB) then if 0≤(aA+(1:Int))∧(aA+(1:Int))≤((aA+(1:Int))+aB)∧((aA+(1:Int))+aB)≤(O.length:Int) then (QP (3:Int) (pT O (aA+(1:Int)) ((aA+(1:Int))+aB))).bind fun aC=>if (((!decide (aC.2.2=(0:Int)))==false)=true→((E3 aC.1)).isSome=true) then if ((!decide (aC.2.2=(0:Int)))||(!((decide ((aC.1.length:Int)≤(4000:Int)))&&(val (tM aC.1)))))=true then some (((0:Int),([]:List UInt8),aA,aA)) else if pE (aA+aB) then if pE ((aA+aB)+(2:Int)) then some (((1:Int),aC.1,aA,((aA+aB)+(2:Int)))) else none else none else none else none else none else none else none else none else none else if (((decide ((97:Int)≤(pR O aA)))&&(decide ((pR O aA)≤(122:Int))))||((decide ((65:Int)≤(pR O aA)))&&(decide ((pR O aA)≤(90:Int)))))=true then rH (qB (QQ O) aA) fun aD=>if 0≤aA∧aA≤aD∧aD≤(O.length:Int) then some (((2:Int),(pT O aA aD),aA,aD)) else none else some (((0:Int),([]:List UInt8),aA,aA)) else none
attribute [irreducible] N2
def II (O:Int):Option (List UInt8):=(N0 ([O]:List Int)).bind fun Z=>some (Z)
section
variable (O:Int)
abbrev a6t:List pD:=[(.val (.int .i64) O,none)]
abbrev a6u:List pC:=[]
@[go_sem] def a6v:pJ:=⟨[((II O)).isSome=true],[(.val .str (val (II O)),none),(.val .bool ((decide (O≤(1114111:Int)))&&((decide (O<(55296:Int)))||(decide ((57343:Int)<O)))),none)],[]⟩
def aFC:List pD→List pC→Option pJ:=qP (V:=Int) (fun x=>a6t x) (fun x=>a6u) fun x=>a6v x
@[go_sem] theorem aS6:aFC (no_index (a6t O)) (no_index a6u)=some (a6v O):=qQ (fun a0 b0 h1 h2=>by cases h1;cases h2;rfl) O
end
@[go_sem] abbrev a6w:Nat×qC:=(252,⟨[.v],aFC,[],[],none⟩)
theorem VI:qG Tryz.prog [JY] (qE [aFx]):=⟨⟨PM,trivial⟩,pM aNa qS,qI⟩
theorem aFD:qJ Tryz.prog a6w:=by
 refine qR VI Tryz.func252 (c:=_) rfl (N:=19) (by kernel_rfl) (ts:=[(2,none),(3,none)]) rfl (fun _ _=>rfl) ?_;intro O hs hrow;dsimp only[a6t,a6u,a6v,qM,pN,pW,qH,qO,Nat.reduceAdd] at hs hrow⊢;have hz:=hs;obtain⟨z0,hC0⟩:=aTF.1 hz
 try rw[r8 hC0]
 clear hz hs;unfold II at hC0;refine pB VI ?_;refine pB VI ?_ (hp:=by exact⟨fun hh=>hh,fun hh=>hh,fun hh=>hh,fun hh=>hh,fun hG hh=>EW hG hh,(fun hh=>rL hh)⟩);obtain⟨Z,hv1,hw1,hC0⟩:=pZ hC0
 try simp only[go_sem] at hw1
 refine pB VI ?_ (hp:=by exact(pY hv1)) (h:=by simp only[go_sem,hw1];rfl);refine pK ?_;cases hC0;exact⟨[],by rfl,by rfl,by rfl⟩
attribute [irreducible] II
end
noncomputable section
def QR (O:qZ):(Int×(List (List UInt8)))→Option ((Int×(List (List UInt8)))⊕(List (List UInt8))):=fun(Z,aA)=>if (decide (Z<(O.2.2.2.1.length:Int)))=true then if 0≤Z∧Z<(O.2.2.2.1.length:Int) then (KE (pU rN O.2.2.2.1 Z)).bind fun aB=>if (aA.length+([aB]:List (List UInt8)).length)*16≤140737488355328 then if pE (Z+(1:Int)) then some (.inl ((Z+(1:Int)),(aA++([aB]:List (List UInt8))))) else none else none else none else some (.inr aA)
def FA (O:qZ):Option ((List UInt8)×(List (List UInt8))×(List UInt8)×Int):=(KI O).bind fun Z=>if (!Z)=true then some ((([]:List UInt8),([]:List (List UInt8)),([]:List UInt8),(1:Int))) else (AM O.1).bind fun aA=>if ((([99,97,116,97,108,111,103,32]:List UInt8)++aA).length:Int)≤9223372036854775807 then if (((([99,97,116,97,108,111,103,32]:List UInt8)++aA)++([32,123]:List UInt8)).length:Int)≤9223372036854775807 then (ID O.2.1).bind fun aB=>if ((((([99,97,116,97,108,111,103,32]:List UInt8)++aA)++([32,123]:List UInt8))++aB).length:Int)≤9223372036854775807 then (IE O.2.2.1).bind fun aC=>if (((((([99,97,116,97,108,111,103,32]:List UInt8)++aA)++([32,123]:List UInt8))++aB)++aC).length:Int)≤9223372036854775807 then if ((((((([99,97,116,97,108,111,103,32]:List UInt8)++aA)++([32,123]:List UInt8))++aB)++aC)++([10,125]:List UInt8)).length:Int)≤9223372036854775807 then rH (qB (QR O) ((0:Int),([]:List (List UInt8)))) fun aD=>some (((((((([99,97,116,97,108,111,103,32]:List UInt8)++aA)++([32,123]:List UInt8))++aB)++aC)++([10,125]:List UInt8)),aD,([10]:List UInt8),(0:Int))) else none else none else none else none else none
section
variable (O:qZ)
abbrev a6x:List pD:=[(.val wH O,none)]
abbrev a6y:List pC:=[]
@[go_sem] def a6z:pJ:=⟨[((FA O)).isSome=true],[(.val G6 ((val (FA O)).1,((val (FA O)).2.1,((val (FA O)).2.2.1,()))),none),(.val (.int .i64) ((val (FA O)).2.2.2),none)],[]⟩
def aFE:List pD→List pC→Option pJ:=qP (V:=qZ) (fun x=>a6x x) (fun x=>a6y) fun x=>a6z x
@[go_sem] theorem aS7:aFE (no_index (a6x O)) (no_index a6y)=some (a6z O):=qQ (fun a0 b0 h1 h2=>by cases h1;cases h2;rfl) O
end
@[go_sem] abbrev aFF:Nat×qC:=(32,⟨[.v],aFE,[],[],none⟩)
theorem E4:qG Tryz.prog [rP,uW,w5,DN,zR,M5,yZ] (qE [aFB,QF,a5K,a5O,aFk]):=⟨⟨rQ,⟨vJ,⟨wU,⟨G8,⟨BD,⟨UK,⟨AL,trivial⟩⟩⟩⟩⟩⟩⟩,pM aNc (pM VG (pM aFg (pM aFi (pM aM7 qS)))),qI⟩
theorem aNd:qJ Tryz.prog aFF:=by
 refine qR E4 Tryz.func32 (c:=_) rfl (N:=42) (by kernel_rfl) (ts:=[(2,some 34),(3,none)]) rfl (fun _ _=>rfl) ?_;intro O hs hrow;dsimp only[a6x,a6y,a6z,qM,pN,pW,qH,qO,Nat.reduceAdd] at hs hrow⊢;have hz:=hs;obtain⟨z0,hC0⟩:=aTF.1 hz
 try rw[r8 hC0]
 clear hz hs;unfold FA at hC0;refine pB E4 ?_;refine pP ?_;obtain⟨Z,hv1,hw1,hC0⟩:=pZ hC0
 try simp only[go_sem] at hw1
 refine pB E4 ?_ (hp:=by exact(pY hv1)) (h:=by simp only[go_sem,hw1];rfl);refine pO hC0 (fun hC0 hc1=> ?_) (fun hC0 hc1=> ?_)
 ·refine pB E4 ?_;refine pK (qW ?_);cases hC0;exact⟨[],by rfl,by rfl,by rfl⟩
 ·refine qD (pL ?_);obtain⟨aA,hv2,hw2,hC0⟩:=pZ hC0
  try simp only[go_sem] at hw2
  obtain⟨hg3,hC0⟩:=pI hC0;obtain⟨hg4,hC0⟩:=pI hC0;obtain⟨aB,hv5,hw5,hC0⟩:=pZ hC0
  try simp only[go_sem] at hw5
  obtain⟨hg6,hC0⟩:=pI hC0;obtain⟨aC,hv7,hw7,hC0⟩:=pZ hC0
  try simp only[go_sem] at hw7
  obtain⟨hg8,hC0⟩:=pI hC0;obtain⟨hg9,hC0⟩:=pI hC0;refine xD E4 ?_ (hp:=by exact⟨pY hv2,hg3,hg4,pY hv5,hg6,pY hv7,hg8,hg9⟩) (h:=by simp only[go_sem,hw2,hw5,hw7];rfl);refine pP ?_;refine pB E4 ?_;refine rC ?_;obtain⟨aD,hy1,hC0⟩:=pF hC0;refine t7 0 (fun s=>s=(fun x=>⟨[(2,(.val .ref (some (0,0)),none)),(4,(.val .ref (some (1,0)),none))],[(0,.cells G6 (([]:List UInt8),(([]:List (List UInt8)),(([]:List UInt8),()))) [(1,2)]),(1,.cells G6 ((((((([99,97,116,97,108,111,103,32]:List UInt8)++aA)++([32,123]:List UInt8))++aB)++aC)++([10,125]:List UInt8)),(x,(([10]:List UInt8),()))) [(1,3)]),(2,.grow 9 1 (([]:List (List UInt8)).length)),(3,.grow 9 1 (x.length))],4,42,0⟩) aD) ?_ ?_
  ·refine t6 hy1 (fun x=>⟨[(2,(.val .ref (some (0,0)),none)),(4,(.val .ref (some (1,0)),none)),(27,(.val (.list rN) O.2.2.2.1,none)),(28,(.val (.int .i64) (O.2.2.2.1.length:Int),none)),(29,(.val (.int .i64) x.1,none))],[(0,.cells G6 (([]:List UInt8),(([]:List (List UInt8)),(([]:List UInt8),()))) [(1,2)]),(1,.cells G6 ((((((([99,97,116,97,108,111,103,32]:List UInt8)++aA)++([32,123]:List UInt8))++aB)++aC)++([10,125]:List UInt8)),(x.2,(([10]:List UInt8),()))) [(1,3)]),(2,.grow 9 1 (([]:List (List UInt8)).length)),(3,.grow 9 1 (x.2.length))],4,42,0⟩) ⟨[2,4,27,28,29],[(0,32),(1,672),(2,33),(3,704)]⟩ (by rfl) ?_;intro x1 w1 n1 hC1 hN1;obtain⟨aE,aF⟩:=x1;unfold QR at hC1;dsimp only at hC1⊢;refine pB E4 ?_;refine pP ?_;refine pO hC1 (fun hC1 hc2=> ?_) (fun hC1 hc2=> ?_)
   ·refine qD (pL (pP (rC ?_)));obtain⟨hg10,hC1⟩:=pI hC1;refine pB E4 ?_ (hp:=by exact hg10);obtain⟨aG,hv11,hw11,hC1⟩:=pZ hC1
    try simp only[go_sem] at hw11
    obtain⟨hg12,hC1⟩:=pI hC1;refine G5 E4 ?_ (hp:=by exact⟨pY hv11,by first|rfl|trivial,hg12⟩) (h:=by simp only[go_sem,hw11];rfl)
    refine qY (pL ?_);obtain⟨hg13,hC1⟩:=pI hC1;refine qU E4 ?_ (hp:=by exact hg13);cases hC1;exact s7 ⟨⟨[2,4,27,28,29],[(0,0),(1,1),(2,2),(3,3)]⟩,_,by rfl,hN1⟩
   ·refine sO (sW (sQ ?_));cases hC1;cases hN1;exact sP ⟨⟨[2,4],[(0,0),(1,1),(2,2),(3,3)]⟩,by rfl⟩
  ·rintro _ rfl;dsimp only at hC0⊢;refine sZ (pL ?_);refine pB E4 ?_;refine pK ?_;cases hC0;exact⟨[],by rfl,by rfl,by rfl⟩
attribute [irreducible] FA
def QS (O:qZ):Int→Option (Int⊕(Unit⊕Bool)):=fun Z=>if (decide (Z<(O.2.2.2.1.length:Int)))=true then if 0≤Z∧Z<(O.2.2.2.1.length:Int) then (GC O ((pU rN O.2.2.2.1 Z).1)).bind fun aA=>if (((!decide (aA.1=Z))==false)=true→0≤Z∧Z<(O.2.2.2.1.length:Int)) then if (((!decide (aA.1=Z))==false)=true→((N1 (pU rN O.2.2.2.1 Z))).isSome=true) then if ((!decide (aA.1=Z))||(!((((((((((!decide (((pU rN O.2.2.2.1 Z).1)=([]:List UInt8)))&&(decide ((((pU rN O.2.2.2.1 Z).1).length:Int)≤(200:Int))))&&((decide ((((pU rN O.2.2.2.1 Z).1).length:Int)≤(4000:Int)))&&(val (tM ((pU rN O.2.2.2.1 Z).1)))))&&((decide ((((pU rN O.2.2.2.1 Z).2.1).length:Int)≤(4000:Int)))&&(val (tM ((pU rN O.2.2.2.1 Z).2.1)))))&&((decide ((((pU rN O.2.2.2.1 Z).2.2.1).length:Int)≤(4000:Int)))&&(val (tM ((pU rN O.2.2.2.1 Z).2.2.1)))))&&(val (AO ((pU rN O.2.2.2.1 Z).2.2.2.1))))&&(val (E2 ((pU rN O.2.2.2.1 Z).2.2.2.2.1))))&&(decide ((0:Int)≤((pU rN O.2.2.2.1 Z).2.2.2.2.2.1))))&&(decide (((pU rN O.2.2.2.1 Z).2.2.2.2.2.1)≤(4:Int))))&&(val (CZ ((pU rN O.2.2.2.1 Z).2.2.2.2.2.2.1))))))=true then some (.inr (.inr (false))) else if pE (Z+(1:Int)) then some (.inl (Z+(1:Int))) else none else none else none else none else some (.inr (.inl ()))
def FB (O:qZ):Option Bool:=(KG O).bind fun Z=>if ((!Z)||(decide ((1000:Int)<(O.2.2.2.1.length:Int))))=true then some (false) else rW (qB (QS O) (0:Int)) fun _=>some (true)
section
variable (O:qZ)
abbrev a6A:List pD:=[(.val wH O,none)]
abbrev a6B:List pC:=[]
@[go_sem] def a6C:pJ:=⟨[((FB O)).isSome=true],[(.val .bool (val (FB O)),none)],[]⟩
def aFG:List pD→List pC→Option pJ:=qP (V:=qZ) (fun x=>a6A x) (fun x=>a6B) fun x=>a6C x
@[go_sem] theorem aS8:aFG (no_index (a6A O)) (no_index a6B)=some (a6C O):=qQ (fun a0 b0 h1 h2=>by cases h1;cases h2;rfl) O
end
@[go_sem] abbrev aFH:Nat×qC:=(34,⟨[.v],aFG,[],[],none⟩)
theorem E6:qG Tryz.prog [rP,DN,zR,yZ] (qE [aFt,aCC,aFz]):=⟨⟨rQ,⟨G8,⟨BD,⟨AL,trivial⟩⟩⟩⟩,pM aM8 (pM aMf (pM aNb qS)),qI⟩
theorem aNe:qJ Tryz.prog aFH:=by
 refine qR E6 Tryz.func34 (c:=_) rfl (N:=45) (by kernel_rfl) (ts:=[(2,none)]) rfl (fun _ _=>rfl) ?_;intro O hs hrow;dsimp only[a6A,a6B,a6C,qM,pN,pW,qH,qO,Nat.reduceAdd] at hs hrow⊢;have hz:=hs;obtain⟨z0,hC0⟩:=aTF.1 hz
 try rw[r8 hC0]
 clear hz hs;unfold FB at hC0;refine pB E6 ?_;refine pP ?_;obtain⟨Z,hv1,hw1,hC0⟩:=pZ hC0
 try simp only[go_sem] at hw1
 refine pB E6 ?_ (hp:=by exact⟨pY hv1,fun hh=>hh,fun hh=>hh,fun hh=>hh,(fun hh=>sR hh)⟩) (h:=by simp only[go_sem,hw1];rfl);refine pO hC0 (fun hC0 hc1=> ?_) (fun hC0 hc1=> ?_)
 ·refine pB E6 ?_;refine pK (qW ?_);cases hC0;exact⟨[],by rfl,by rfl,by rfl⟩
 ·refine qD (pL (pP ?_));refine pB E6 ?_;refine rC ?_;obtain⟨y1,hy1,hC0⟩:=uI hC0;refine t7 0 (fun s=> ∃v,y1= .inl v∧s=(fun _=>⟨[],[],0,45,0⟩) v) ?_ ?_
  ·refine t6 hy1 (fun x=>⟨[(1,(.val .ref (some (0,0)),none)),(3,(.val (.int .i64) x,none))],[(0,.cells wH O [])],1,45,0⟩) ⟨[1,3],[(0,0)]⟩ (by rfl) ?_;intro aA w1 n1 hC1 hN1;unfold QS at hC1;dsimp only at hC1⊢;refine pP ?_;refine pB E6 ?_;refine pO hC1 (fun hC1 hc2=> ?_) (fun hC1 hc2=> ?_)
   ·refine qD (pL (pP (rC ?_)));obtain⟨hg2,hC1⟩:=pI hC1;obtain⟨aB,hv3,hw3,hC1⟩:=pZ hC1
    try simp only[go_sem] at hw3
    refine xD E6 ?_ (hp:=by exact⟨hg2,(pY hv3)⟩) (h:=by simp only[go_sem,hw3];rfl);obtain⟨hg4,hC1⟩:=pI hC1;obtain⟨hg5,hC1⟩:=pI hC1;refine pB E6 ?_ (hp:=by exact⟨fun hh=>hh,fun hh=>hh,fun hh=>hh,hg4,fun hh=>hh,fun hh=>hh,hg5,fun hh=>hh,(fun hh=>sR hh)⟩);refine pO hC1 (fun hC1 hc3=> ?_) (fun hC1 hc3=> ?_)
    ·refine pB E6 ?_;refine pK (rE (qW (uL (uK (rE (qW ?_))))));cases hC1;cases hN1;dsimp only at hC0;cases hC0;exact⟨[],by rfl,by rfl,by rfl⟩
    ·refine qD (qY (pL ?_));obtain⟨hg6,hC1⟩:=pI hC1;refine qU E6 ?_ (hp:=by exact hg6);cases hC1;exact s7 ⟨⟨[1,3],[(0,0)]⟩,_,by rfl,hN1⟩
   ·refine sO (sW (sQ ?_));cases hC1;cases hN1;exact sP ⟨⟨[],[]⟩,_,rfl,by rfl⟩
  ·rintro _ ⟨v,rfl,rfl⟩;dsimp only at hC0⊢;refine sZ (pL ?_);refine pB E6 ?_;refine pK ?_;cases hC0;exact⟨[],by rfl,by rfl,by rfl⟩
attribute [irreducible] FB
def E8 (O:qZ):Option ((List UInt8)×Int):=(FA O).bind fun Z=>(K4 (Z.1,(Z.2.1,(Z.2.2.1,())))).bind fun aA=>some ((aA,Z.2.2.2))
section
variable (O:qZ)
abbrev a6D:List pD:=[(.val wH O,none)]
abbrev a6E:List pC:=[]
@[go_sem] def a6F:pJ:=⟨[((E8 O)).isSome=true],[(.val .str ((val (E8 O)).1),none),(.val (.int .i64) ((val (E8 O)).2),none)],[]⟩
def aFI:List pD→List pC→Option pJ:=qP (V:=qZ) (fun x=>a6D x) (fun x=>a6E) fun x=>a6F x
@[go_sem] theorem aS9:aFI (no_index (a6D O)) (no_index a6E)=some (a6F O):=qQ (fun a0 b0 h1 h2=>by cases h1;cases h2;rfl) O
end
@[go_sem] abbrev aFJ:Nat×qC:=(30,⟨[.v],aFI,[],[],none⟩)
theorem VJ:qG Tryz.prog [zR,M5] (qE [aFF,aEd]):=⟨⟨BD,⟨UK,trivial⟩⟩,pM aNd (pM aMF qS),qI⟩
theorem aNf:qJ Tryz.prog aFJ:=by
 refine qR VJ Tryz.func30 (c:=_) rfl (N:=14) (by kernel_rfl) (ts:=[(2,none),(3,none)]) rfl (fun _ _=>rfl) ?_;intro O hs hrow;dsimp only[a6D,a6E,a6F,qM,pN,pW,qH,qO,Nat.reduceAdd] at hs hrow⊢;have hz:=hs;obtain⟨z0,hC0⟩:=aTF.1 hz
 try rw[r8 hC0]
 clear hz hs;unfold E8 at hC0;refine pB VJ ?_;obtain⟨Z,hv1,hw1,hC0⟩:=pZ hC0
 try simp only[go_sem] at hw1
 refine pB VJ ?_ (hp:=by exact(pY hv1)) (h:=by simp only[go_sem,hw1];rfl);obtain⟨aA,hv2,hw2,hC0⟩:=pZ hC0
 try simp only[go_sem] at hw2
 refine pB VJ ?_ (hp:=by exact(pY hv2)) (h:=by simp only[go_sem,hw2];rfl);refine pK ?_;cases hC0;exact⟨[],by rfl,by rfl,by rfl⟩
attribute [irreducible] E8
end
noncomputable section
def w7 (O:G7) (Z:Int) (aA:(List UInt8)):Option (Int×Int×Int×Int×(List UInt8)×Int×Int):=(N2 O.1 O.2.1).bind fun aB=>if (!decide (O.2.2.2.1=(0:Int)))=true then some ((O.2.1,O.2.2.1,O.2.2.2.1,aB.1,aB.2.1,aB.2.2.1,aB.2.2.2)) else if ((!decide (aB.1=Z))||((!decide (aA=([]:List UInt8)))&&(!decide (aB.2.1=aA))))=true then rM (xX O (aB.1,(aB.2.1,(aB.2.2.1,(aB.2.2.2,())))) (3:Int)) fun aC=>some ((O.2.1,aC.1,aC.2,aB.1,aB.2.1,aB.2.2.1,aB.2.2.2)) else some ((aB.2.2.2,O.2.2.1,O.2.2.2.1,aB.1,aB.2.1,aB.2.2.1,aB.2.2.2))
attribute [irreducible] w7
end
noncomputable section
def GU (O:(List UInt8)):Option ((List UInt8)×Int):=if (decide ((O.length:Int)<(2:Int)))=true then some ((([]:List UInt8),(0:Int))) else if 0≤(1:Int)∧(1:Int)<(O.length:Int) then if (decide ((pR O (1:Int))=(110:Int)))=true then some ((([10]:List UInt8),(2:Int))) else if (decide ((pR O (1:Int))=(114:Int)))=true then some ((([13]:List UInt8),(2:Int))) else if (decide ((pR O (1:Int))=(116:Int)))=true then some ((([9]:List UInt8),(2:Int))) else if (decide ((pR O (1:Int))=(120:Int)))=true then if (decide ((4:Int)≤(O.length:Int)))=true then if 0≤(2:Int)∧(2:Int)≤(4:Int)∧(4:Int)≤(O.length:Int) then (F4 (pT O (2:Int) (4:Int)) (16:Int)).bind fun Z=>if (Z.2&&(decide (Z.1≤(127:Int))))=true then some (((s5 ([(IntKind.wrap .u8 Z.1)]:List Int)),(4:Int))) else some ((([]:List UInt8),(0:Int))) else none else some ((([]:List UInt8),(0:Int))) else if (decide ((pR O (1:Int))=(117:Int)))=true then if (decide ((6:Int)≤(O.length:Int)))=true then if 0≤(2:Int)∧(2:Int)≤(6:Int)∧(6:Int)≤(O.length:Int) then (F4 (pT O (2:Int) (6:Int)) (16:Int)).bind fun aA=>if aA.2=true then (II aA.1).bind fun aB=>if ((decide (aA.1≤(1114111:Int)))&&((decide (aA.1<(55296:Int)))||(decide ((57343:Int)<aA.1))))=true then some ((aB,(6:Int))) else some ((([]:List UInt8),(0:Int))) else some ((([]:List UInt8),(0:Int))) else none else some ((([]:List UInt8),(0:Int))) else if (decide ((0:Int)≤(tK ([92,34,61,58,35,33,123,125,32]:List UInt8) (pR O (1:Int)))))=true then if 0≤(1:Int)∧(1:Int)≤(2:Int)∧(2:Int)≤(O.length:Int) then some (((pT O (1:Int) (2:Int)),(2:Int))) else none else some ((([]:List UInt8),(0:Int))) else none
section
variable (O:(List UInt8))
abbrev a6G:List pD:=[(.val .str O,none)]
abbrev a6H:List pC:=[]
@[go_sem] def a6I:pJ:=⟨[((GU O)).isSome=true],[(.val .str ((val (GU O)).1),none),(.val (.int .i64) ((val (GU O)).2),none)],[]⟩
def aFK:List pD→List pC→Option pJ:=qP (V:=(List UInt8)) (fun x=>a6G x) (fun x=>a6H) fun x=>a6I x
@[go_sem] theorem aTa:aFK (no_index (a6G O)) (no_index a6H)=some (a6I O):=qQ (fun a0 b0 h1 h2=>by cases h1;cases h2;rfl) O
end
@[go_sem] abbrev aFL:Nat×qC:=(209,⟨[.v],aFK,[],[],none⟩)
theorem uC:qG Tryz.prog [uX,DP,rP,EY] (qE [a3c,a6w,MA]):=⟨⟨vK,⟨GA,⟨rQ,⟨HT,trivial⟩⟩⟩⟩,pM aDQ (pM aFD (pM PO qS)),qI⟩
theorem aNg:qJ Tryz.prog aFL:=by
 refine qR uC Tryz.func209 (c:=_) rfl (N:=67) (by kernel_rfl) (ts:=[(2,none),(3,none)]) rfl (fun _ _=>rfl) ?_;intro O hs hrow;dsimp only[a6G,a6H,a6I,qM,pN,pW,qH,qO,Nat.reduceAdd] at hs hrow⊢;have hz:=hs;obtain⟨z0,hC0⟩:=aTF.1 hz
 try rw[r8 hC0]
 clear hz hs;unfold GU at hC0;refine pB uC ?_;refine pP ?_;refine pB uC ?_;refine pO hC0 (fun hC0 hc1=> ?_) (fun hC0 hc1=> ?_)
 ·refine pB uC ?_;refine pK (qW ?_);cases hC0;exact⟨[],by rfl,by rfl,by rfl⟩
 ·refine qD (pL (pP ?_));obtain⟨hg1,hC0⟩:=pI hC0;refine pB uC ?_ (hp:=by exact hg1);refine pB uC ?_;refine rC ?_;refine pB uC ?_;refine pO hC0 (fun hC0 hc2=> ?_) (fun hC0 hc2=> ?_)
  ·refine pB uC ?_;refine pK (rE (qW ?_));cases hC0;exact⟨[],by rfl,by rfl,by rfl⟩
  ·refine pB uC ?_;refine pO hC0 (fun hC0 hc3=> ?_) (fun hC0 hc3=> ?_)
   ·refine pB uC ?_;refine pK (rE (qW ?_));cases hC0;exact⟨[],by rfl,by rfl,by rfl⟩
   ·refine pB uC ?_;refine pO hC0 (fun hC0 hc4=> ?_) (fun hC0 hc4=> ?_)
    ·refine pB uC ?_;refine pK (rE (qW ?_));cases hC0;exact⟨[],by rfl,by rfl,by rfl⟩
    ·refine pB uC ?_;refine pO hC0 (fun hC0 hc5=> ?_) (fun hC0 hc5=> ?_)
     ·refine pB uC ?_;refine pO hC0 (fun hC0 hc6=> ?_) (fun hC0 hc6=> ?_)
      ·obtain⟨hg2,hC0⟩:=pI hC0;obtain⟨Z,hv3,hw3,hC0⟩:=pZ hC0
       try simp only[go_sem] at hw3
       refine pB uC ?_ (hp:=by exact⟨hg2,(pY hv3)⟩) (h:=by simp only[go_sem,hw3];rfl);refine pB uC ?_ (hp:=by exact⟨fun hh=>hh,(fun hh=>rL hh)⟩);refine pO hC0 (fun hC0 hc7=> ?_) (fun hC0 hc7=> ?_)
       ·refine pB uC ?_;refine pK (rE (qW ?_));cases hC0;exact⟨[],by rfl,by rfl,by rfl⟩
       ·refine qD (qY (pL ?_));refine pB uC ?_;refine pK ?_;cases hC0;exact⟨[],by rfl,by rfl,by rfl⟩
      ·refine qD (qY (pL ?_));refine pB uC ?_;refine pK ?_;cases hC0;exact⟨[],by rfl,by rfl,by rfl⟩
     ·refine pB uC ?_;refine pO hC0 (fun hC0 hc8=> ?_) (fun hC0 hc8=> ?_)
      ·refine pB uC ?_;refine pO hC0 (fun hC0 hc9=> ?_) (fun hC0 hc9=> ?_)
       ·obtain⟨hg4,hC0⟩:=pI hC0;obtain⟨aA,hv5,hw5,hC0⟩:=pZ hC0
        try simp only[go_sem] at hw5
        refine pB uC ?_ (hp:=by exact⟨hg4,(pY hv5)⟩) (h:=by simp only[go_sem,hw5];rfl);refine pB uC ?_;refine pO hC0 (fun hC0 hc10=> ?_) (fun hC0 hc10=> ?_)
        ·obtain⟨aB,hv6,hw6,hC0⟩:=pZ hC0
         try simp only[go_sem] at hw6
         refine pB uC ?_ (hp:=by exact(pY hv6)) (h:=by simp only[go_sem,hw6];rfl);refine pB uC ?_;refine pO hC0 (fun hC0 hc11=> ?_) (fun hC0 hc11=> ?_)
         ·refine pB uC ?_;refine pK (rE (qW ?_));cases hC0;exact⟨[],by rfl,by rfl,by rfl⟩
         ·refine qD (qY (pL ?_));refine pB uC ?_;refine pK ?_;cases hC0;exact⟨[],by rfl,by rfl,by rfl⟩
        ·refine qD (qY (pL ?_));refine pB uC ?_;refine pK ?_;cases hC0;exact⟨[],by rfl,by rfl,by rfl⟩
       ·refine qD (qY (pL ?_));refine pB uC ?_;refine pK ?_;cases hC0;exact⟨[],by rfl,by rfl,by rfl⟩
      ·refine pB uC ?_;refine pO hC0 (fun hC0 hc12=> ?_) (fun hC0 hc12=> ?_)
       ·obtain⟨hg7,hC0⟩:=pI hC0;refine pB uC ?_ (hp:=by exact hg7);refine pK (rE (qW ?_));cases hC0;exact⟨[],by rfl,by rfl,by rfl⟩
       ·refine qD (qY (pL ?_));refine pB uC ?_;refine pK ?_;cases hC0;exact⟨[],by rfl,by rfl,by rfl⟩
attribute [irreducible] GU
def N3 (O:(List UInt8)):Option ((List UInt8)×Int):=if (decide ((tK O (59:Int))<(0:Int)))=true then some ((([]:List UInt8),(0:Int))) else if 0≤(1:Int)∧(1:Int)≤(tK O (59:Int))∧(tK O (59:Int))≤(O.length:Int) then if (decide ((pT O (1:Int) (tK O (59:Int)))=([97,109,112]:List UInt8)))=true then if pE ((tK O (59:Int))+(1:Int)) then some ((([38]:List UInt8),((tK O (59:Int))+(1:Int)))) else none else if (decide ((pT O (1:Int) (tK O (59:Int)))=([108,116]:List UInt8)))=true then if pE ((tK O (59:Int))+(1:Int)) then some ((([60]:List UInt8),((tK O (59:Int))+(1:Int)))) else none else if (decide ((pT O (1:Int) (tK O (59:Int)))=([103,116]:List UInt8)))=true then if pE ((tK O (59:Int))+(1:Int)) then some ((([62]:List UInt8),((tK O (59:Int))+(1:Int)))) else none else if (decide ((pT O (1:Int) (tK O (59:Int)))=([113,117,111,116]:List UInt8)))=true then if pE ((tK O (59:Int))+(1:Int)) then some ((([34]:List UInt8),((tK O (59:Int))+(1:Int)))) else none else if (decide ((pT O (1:Int) (tK O (59:Int)))=([97,112,111,115]:List UInt8)))=true then if pE ((tK O (59:Int))+(1:Int)) then some ((([39]:List UInt8),((tK O (59:Int))+(1:Int)))) else none else (K8 (pT O (1:Int) (tK O (59:Int))) ([35]:List UInt8)).bind fun Z=>if (!Z.2)=true then some ((([]:List UInt8),(0:Int))) else (K8 Z.1 ([120]:List UInt8)).bind fun aA=>rH (σ:=((List UInt8)×Int×Int)) (if aA.2=true then some ((aA.1,(16:Int),(6:Int))) else some ((Z.1,(10:Int),(7:Int))) ) fun(aB,aC,aD)=>(F4 aB aC).bind fun aE=>if ((!aE.2)||(decide (aD<(aB.length:Int))))=true then some ((([]:List UInt8),(0:Int))) else (II aE.1).bind fun aF=>if (!((decide (aE.1≤(1114111:Int)))&&((decide (aE.1<(55296:Int)))||(decide ((57343:Int)<aE.1)))))=true then some ((([]:List UInt8),(0:Int))) else if pE ((tK O (59:Int))+(1:Int)) then some ((aF,((tK O (59:Int))+(1:Int)))) else none else none
section
variable (O:(List UInt8))
abbrev a6J:List pD:=[(.val .str O,none)]
abbrev a6K:List pC:=[]
@[go_sem] def a6L:pJ:=⟨[((N3 O)).isSome=true],[(.val .str ((val (N3 O)).1),none),(.val (.int .i64) ((val (N3 O)).2),none)],[]⟩
def aFM:List pD→List pC→Option pJ:=qP (V:=(List UInt8)) (fun x=>a6J x) (fun x=>a6K) fun x=>a6L x
@[go_sem] theorem aTb:aFM (no_index (a6J O)) (no_index a6K)=some (a6L O):=qQ (fun a0 b0 h1 h2=>by cases h1;cases h2;rfl) O
end
@[go_sem] abbrev aFN:Nat×qC:=(210,⟨[.v],aFM,[],[],none⟩)
theorem uF:qG Tryz.prog [rP] (qE [MA,aEr,a3c,a6w]):=⟨⟨rQ,trivial⟩,pM PO (pM aML (pM aDQ (pM aFD qS))),qI⟩
theorem aNh:qJ Tryz.prog aFN:=by
 refine qR uF Tryz.func210 (c:=_) rfl (N:=80) (by kernel_rfl) (ts:=[(2,none),(3,none)]) rfl (fun _ _=>rfl) ?_;intro O hs hrow;dsimp only[a6J,a6K,a6L,qM,pN,pW,qH,qO,Nat.reduceAdd] at hs hrow⊢;have hz:=hs;obtain⟨z0,hC0⟩:=aTF.1 hz
 try rw[r8 hC0]
 clear hz hs;unfold N3 at hC0;refine pB uF ?_;refine pB uF ?_;refine pP ?_;refine pB uF ?_;refine pO hC0 (fun hC0 hc1=> ?_) (fun hC0 hc1=> ?_)
 ·refine pB uF ?_;refine pK (qW ?_);cases hC0;exact⟨[],by rfl,by rfl,by rfl⟩
 ·refine qD (pL ?_);obtain⟨hg1,hC0⟩:=pI hC0;refine pB uF ?_ (hp:=by exact hg1);refine pP ?_;refine pB uF ?_;refine rC ?_;refine pB uF ?_;refine pO hC0 (fun hC0 hc2=> ?_) (fun hC0 hc2=> ?_)
  ·obtain⟨hg2,hC0⟩:=pI hC0;refine pB uF ?_ (hp:=by exact hg2);refine pK (rE (qW ?_));cases hC0;exact⟨[],by rfl,by rfl,by rfl⟩
  ·refine pB uF ?_;refine pO hC0 (fun hC0 hc3=> ?_) (fun hC0 hc3=> ?_)
   ·obtain⟨hg3,hC0⟩:=pI hC0;refine pB uF ?_ (hp:=by exact hg3);refine pK (rE (qW ?_));cases hC0;exact⟨[],by rfl,by rfl,by rfl⟩
   ·refine pB uF ?_;refine pO hC0 (fun hC0 hc4=> ?_) (fun hC0 hc4=> ?_)
    ·obtain⟨hg4,hC0⟩:=pI hC0;refine pB uF ?_ (hp:=by exact hg4);refine pK (rE (qW ?_));cases hC0;exact⟨[],by rfl,by rfl,by rfl⟩
    ·refine pB uF ?_;refine pO hC0 (fun hC0 hc5=> ?_) (fun hC0 hc5=> ?_)
     ·obtain⟨hg5,hC0⟩:=pI hC0;refine pB uF ?_ (hp:=by exact hg5);refine pK (rE (qW ?_));cases hC0;exact⟨[],by rfl,by rfl,by rfl⟩
     ·refine pB uF ?_;refine pO hC0 (fun hC0 hc6=> ?_) (fun hC0 hc6=> ?_)
      ·obtain⟨hg6,hC0⟩:=pI hC0;refine pB uF ?_ (hp:=by exact hg6);refine pK (rE (qW ?_));cases hC0;exact⟨[],by rfl,by rfl,by rfl⟩
      ·refine qD (qY (pL ?_));obtain⟨Z,hv7,hw7,hC0⟩:=pZ hC0
       try simp only[go_sem] at hw7
       refine pB uF ?_ (hp:=by exact(pY hv7)) (h:=by simp only[go_sem,hw7];rfl);refine pP ?_;refine pB uF ?_;refine pO hC0 (fun hC0 hc7=> ?_) (fun hC0 hc7=> ?_)
       ·refine pB uF ?_;refine pK (qW ?_);cases hC0;exact⟨[],by rfl,by rfl,by rfl⟩
       ·refine qD (pL ?_);refine pB uF ?_;refine pP ?_;obtain⟨aA,hv8,hw8,hC0⟩:=pZ hC0
        try simp only[go_sem] at hw8
        refine pB uF ?_ (hp:=by exact(pY hv8)) (h:=by simp only[go_sem,hw8];rfl);refine pB uF ?_;obtain⟨y1,hC1,hC0⟩:=pF hC0;refine BB (fun s=>s=(fun x=>⟨[(4,(.val (.int .i64) (tK O (59:Int)),none)),(6,(.val .str x.1,none)),(8,(.val (.int .i64) x.2.1,none)),(9,(.val (.int .i64) x.2.2,none))],[],0,80,0⟩) y1) ?_ ?_
        ·refine pO hC1 (fun hC1 hc8=> ?_) (fun hC1 hc8=> ?_)
         ·refine qU uF ?_;cases hC1;exact uE ⟨⟨[4,6,8,9],[]⟩,by rfl⟩
         ·refine qD ?_;cases hC1;exact uE ⟨⟨[4,6,8,9],[]⟩,by rfl⟩
        ·rintro _ rfl;obtain⟨aB,aC,aD⟩:=y1;dsimp only at hC0⊢;refine pL ?_;obtain⟨aE,hv9,hw9,hC0⟩:=pZ hC0
         try simp only[go_sem] at hw9
         refine pB uF ?_ (hp:=by exact(pY hv9)) (h:=by simp only[go_sem,hw9];rfl);refine pP ?_;refine pB uF ?_ (hp:=by exact⟨fun hh=>hh,fun hh=>hh,fun hh=>hh,(fun hh=>sR hh)⟩);refine pO hC0 (fun hC0 hc9=> ?_) (fun hC0 hc9=> ?_)
         ·refine pB uF ?_;refine pK (qW ?_);cases hC0;exact⟨[],by rfl,by rfl,by rfl⟩
         ·refine qD (pL ?_);obtain⟨aF,hv10,hw10,hC0⟩:=pZ hC0
          try simp only[go_sem] at hw10
          refine pB uF ?_ (hp:=by exact(pY hv10)) (h:=by simp only[go_sem,hw10];rfl);refine pP ?_;refine pB uF ?_;refine pO hC0 (fun hC0 hc10=> ?_) (fun hC0 hc10=> ?_)
          ·refine pB uF ?_;refine pK (qW ?_);cases hC0;exact⟨[],by rfl,by rfl,by rfl⟩
          ·refine qD (pL ?_);obtain⟨hg11,hC0⟩:=pI hC0;refine pB uF ?_ (hp:=by exact hg11);refine pK ?_;cases hC0;exact⟨[],by rfl,by rfl,by rfl⟩
attribute [irreducible] N3
end
noncomputable section
def VK (O:G7) (Z:rD):Option (Int×Int×Int×(List pV)):=(w7 O (1:Int) ([]:List UInt8)).bind fun aA=>if (!decide (aA.2.2.1=(0:Int)))=true then some ((aA.1,aA.2.1,aA.2.2.1,Z.2.2.2.2.2.2.1)) else (V1 Z.2.2.2.2.2.2.1 aA.2.2.2.2.1).bind fun aB=>(F6 aA.2.2.2.2.1).bind fun aC=>if (!aC)=true then rM (xX (O.1,(aA.1,(aA.2.1,(aA.2.2.1,((O.2.2.2.2.1.1,(O.2.2.2.2.1.2.1,(O.2.2.2.2.1.2.2.1,(O.2.2.2.2.1.2.2.2.1,())))),(O.2.2.2.2.2.1,())))))) (aA.2.2.2.1,(aA.2.2.2.2.1,(aA.2.2.2.2.2.1,(aA.2.2.2.2.2.2,())))) (3:Int)) fun aD=>some ((aA.1,aD.1,aD.2,Z.2.2.2.2.2.2.1)) else if aB.2=true then rM (xX (O.1,(aA.1,(aA.2.1,(aA.2.2.1,((O.2.2.2.2.1.1,(O.2.2.2.2.1.2.1,(O.2.2.2.2.1.2.2.1,(O.2.2.2.2.1.2.2.2.1,())))),(O.2.2.2.2.2.1,())))))) (aA.2.2.2.1,(aA.2.2.2.2.1,(aA.2.2.2.2.2.1,(aA.2.2.2.2.2.2,())))) (9:Int)) fun aE=>some ((aA.1,aE.1,aE.2,Z.2.2.2.2.2.2.1)) else if (decide ((20:Int)≤(Z.2.2.2.2.2.2.1.length:Int)))=true then rM (xX (O.1,(aA.1,(aA.2.1,(aA.2.2.1,((O.2.2.2.2.1.1,(O.2.2.2.2.1.2.1,(O.2.2.2.2.1.2.2.1,(O.2.2.2.2.1.2.2.2.1,())))),(O.2.2.2.2.2.1,())))))) (aA.2.2.2.1,(aA.2.2.2.2.1,(aA.2.2.2.2.2.1,(aA.2.2.2.2.2.2,())))) (6:Int)) fun aF=>some ((aA.1,aF.1,aF.2,Z.2.2.2.2.2.2.1)) else (w7 (O.1,(aA.1,(aA.2.1,(aA.2.2.1,((O.2.2.2.2.1.1,(O.2.2.2.2.1.2.1,(O.2.2.2.2.1.2.2.1,(O.2.2.2.2.1.2.2.2.1,())))),(O.2.2.2.2.2.1,())))))) (1:Int) ([]:List UInt8)).bind fun aG=>(V3 Z.2.2.2.2.2.2.1 aA.2.2.2.2.1 aG.2.2.2.2.1).bind fun aH=>some ((aG.1,aG.2.1,aG.2.2.1,aH))
attribute [irreducible] VK
def VL (O:rD) (Z:(Int×Int×Int×Int×(List UInt8)×Int×Int)):Int→Option (Int⊕Int):=fun aA=>if (((decide (aA<(O.2.2.2.2.1.length:Int)))==true)=true→0≤aA∧aA<(O.2.2.2.2.1.length:Int)) then if ((decide (aA<(O.2.2.2.2.1.length:Int)))&&(Op.bytesLess (pU .str O.2.2.2.2.1 aA) Z.2.2.2.2.1))=true then if pE (aA+(1:Int)) then some (.inl (aA+(1:Int))) else none else some (.inr aA) else none
def VM (O:G7) (Z:rD):Option (Int×Int×Int×(List (List UInt8))):=(w7 O (2:Int) ([]:List UInt8)).bind fun aA=>if (!decide (aA.2.2.1=(0:Int)))=true then some ((aA.1,aA.2.1,aA.2.2.1,Z.2.2.2.2.1)) else (F6 aA.2.2.2.2.1).bind fun aB=>if (!aB)=true then rM (xX (O.1,(aA.1,(aA.2.1,(aA.2.2.1,((O.2.2.2.2.1.1,(O.2.2.2.2.1.2.1,(O.2.2.2.2.1.2.2.1,(O.2.2.2.2.1.2.2.2.1,())))),(O.2.2.2.2.2.1,())))))) (aA.2.2.2.1,(aA.2.2.2.2.1,(aA.2.2.2.2.2.1,(aA.2.2.2.2.2.2,())))) (3:Int)) fun aC=>some ((aA.1,aC.1,aC.2,Z.2.2.2.2.1)) else (V9 Z.2.2.2.2.1 aA.2.2.2.2.1).bind fun aD=>if aD=true then rM (xX (O.1,(aA.1,(aA.2.1,(aA.2.2.1,((O.2.2.2.2.1.1,(O.2.2.2.2.1.2.1,(O.2.2.2.2.1.2.2.1,(O.2.2.2.2.1.2.2.2.1,())))),(O.2.2.2.2.2.1,())))))) (aA.2.2.2.1,(aA.2.2.2.2.1,(aA.2.2.2.2.2.1,(aA.2.2.2.2.2.2,())))) (9:Int)) fun aE=>some ((aA.1,aE.1,aE.2,Z.2.2.2.2.1)) else if (decide ((20:Int)≤(Z.2.2.2.2.1.length:Int)))=true then rM (xX (O.1,(aA.1,(aA.2.1,(aA.2.2.1,((O.2.2.2.2.1.1,(O.2.2.2.2.1.2.1,(O.2.2.2.2.1.2.2.1,(O.2.2.2.2.1.2.2.2.1,())))),(O.2.2.2.2.2.1,())))))) (aA.2.2.2.1,(aA.2.2.2.2.1,(aA.2.2.2.2.2.1,(aA.2.2.2.2.2.2,())))) (6:Int)) fun aF=>some ((aA.1,aF.1,aF.2,Z.2.2.2.2.1)) else rH (qB (VL Z aA) (0:Int)) fun aG=>if 0≤(0:Int)∧(0:Int)≤aG∧aG≤(Z.2.2.2.2.1.length:Int) then if (([]:List (List UInt8)).length+(pT Z.2.2.2.2.1 (0:Int) aG).length)*16≤140737488355328 then if ((([]:List (List UInt8))++(pT Z.2.2.2.2.1 (0:Int) aG)).length+([aA.2.2.2.2.1]:List (List UInt8)).length)*16≤140737488355328 then if 0≤aG∧aG≤(Z.2.2.2.2.1.length:Int)∧(Z.2.2.2.2.1.length:Int)≤(Z.2.2.2.2.1.length:Int) then if (((([]:List (List UInt8))++(pT Z.2.2.2.2.1 (0:Int) aG))++([aA.2.2.2.2.1]:List (List UInt8))).length+(pT Z.2.2.2.2.1 aG (Z.2.2.2.2.1.length:Int)).length)*16≤140737488355328 then some ((aA.1,aA.2.1,aA.2.2.1,(((([]:List (List UInt8))++(pT Z.2.2.2.2.1 (0:Int) aG))++([aA.2.2.2.2.1]:List (List UInt8)))++(pT Z.2.2.2.2.1 aG (Z.2.2.2.2.1.length:Int))))) else none else none else none else none else none
attribute [irreducible] VM
end
noncomputable section
def aFO (O:Int) (Z:(List UInt8)):(Int×(List Int))→Option ((Int×(List Int))⊕((List Int)⊕((List UInt8)×Int×Int))):=fun(aA,aB)=>if (decide (aA<(Z.length:Int)))=true then if 0≤aA∧aA<(Z.length:Int) then if (decide ((pR Z aA)=(38:Int)))=true then if 0≤aA∧aA≤(Z.length:Int)∧(Z.length:Int)≤(Z.length:Int) then (N3 (pT Z aA (Z.length:Int))).bind fun aC=>if (decide (aC.2=(0:Int)))=true then some (.inr (.inr ((([]:List UInt8),aA,(3:Int))))) else (CV (aB,()) aC.1).bind fun aD=>if pE (aA+aC.2) then some (.inl ((aA+aC.2),(aB++sJ aC.1))) else none else none else if 0≤aA∧aA<(Z.length:Int) then if (K0 O (pR Z aA))=true then some (.inr (.inr ((([]:List UInt8),aA,(3:Int))))) else if 0≤aA∧aA<(Z.length:Int) then (K1 (aB,()) (pR Z aA)).bind fun aE=>if pE (aA+(1:Int)) then some (.inl ((aA+(1:Int)),(aB++([(pR Z aA)]:List Int)))) else none else none else none else none else some (.inr (.inl aB))
def N4 (O:Int) (Z:(List UInt8)):(Int×(List Int))→Option ((Int×(List Int))⊕((List Int)⊕((List UInt8)×Int×Int))):=fun(aA,aB)=>if (decide (aA<(Z.length:Int)))=true then if 0≤aA∧aA<(Z.length:Int) then if (decide ((pR Z aA)=(92:Int)))=true then if 0≤aA∧aA≤(Z.length:Int)∧(Z.length:Int)≤(Z.length:Int) then (GU (pT Z aA (Z.length:Int))).bind fun aC=>if (decide (aC.2=(0:Int)))=true then some (.inr (.inr ((([]:List UInt8),aA,(3:Int))))) else (CV (aB,()) aC.1).bind fun aD=>if pE (aA+aC.2) then some (.inl ((aA+aC.2),(aB++sJ aC.1))) else none else none else if 0≤aA∧aA<(Z.length:Int) then if (K0 O (pR Z aA))=true then some (.inr (.inr ((([]:List UInt8),aA,(3:Int))))) else if 0≤aA∧aA<(Z.length:Int) then (K1 (aB,()) (pR Z aA)).bind fun aE=>if pE (aA+(1:Int)) then some (.inl ((aA+(1:Int)),(aB++([(pR Z aA)]:List Int)))) else none else none else none else none else some (.inr (.inl aB))
def FC (O:Int) (Z:(List UInt8)):Option ((List UInt8)×Int×Int):=if (!((decide ((1:Int)≤O))&&(decide (O≤(4:Int)))))=true then some ((([]:List UInt8),(0:Int),(1:Int))) else if (decide (O=(4:Int)))=true then rW (qB (aFO O Z) ((0:Int),([]:List Int))) fun aA=>some (((s5 aA),(0:Int),(0:Int))) else rW (qB (N4 O Z) ((0:Int),([]:List Int))) fun aB=>some (((s5 aB),(0:Int),(0:Int)))
section
variable (O:Int) (Z:(List UInt8))
abbrev a6M:List pD:=[(.val (.int .i64) O,none),(.val .str Z,none)]
abbrev a6N:List pC:=[]
@[go_sem] def a6O:pJ:=⟨[((FC O Z)).isSome=true],[(.val .str ((val (FC O Z)).1),none),(.val (.int .i64) ((val (FC O Z)).2.1),none),(.val (.int .i64) ((val (FC O Z)).2.2),none)],[]⟩
def aFP:List pD→List pC→Option pJ:=qP (V:=(Int×(List UInt8))) (fun x=>a6M x.1 x.2) (fun x=>a6N) fun x=>a6O x.1 x.2
@[go_sem] theorem aTc:aFP (no_index (a6M O Z)) (no_index a6N)=some (a6O O Z):=qQ (fun⟨a0,a1⟩ ⟨b0,b1⟩ h1 h2=>by cases h1;cases h2;rfl) (O,Z)
end
@[go_sem] abbrev aFQ:Nat×qC:=(174,⟨[.v,.v],aFP,[],[],none⟩)
theorem tT:qG Tryz.prog [rP,G9] (qE [UY,aFN,UU,aDJ,aDL,PP,aFL]):=⟨⟨rQ,⟨JX,trivial⟩⟩,pM a1K (pM aNh (pM a0T (pM aMt (pM aMu (pM UT (pM aNg qS)))))),qI⟩
theorem aNi:qJ Tryz.prog aFQ:=by
 refine qR tT Tryz.func174 (c:=_) rfl (N:=58) (by kernel_rfl) (ts:=[(4,none),(5,none),(6,none)]) rfl (fun _ _=>rfl) ?_;intro⟨O,Z⟩ hs hrow;dsimp only[a6M,a6N,a6O,qM,pN,pW,qH,qO,Nat.reduceAdd] at hs hrow⊢;have hz:=hs;obtain⟨z0,hC0⟩:=aTF.1 hz
 try rw[r8 hC0]
 clear hz hs;unfold FC at hC0;refine pB tT ?_;refine pP ?_;refine pB tT ?_;refine pO hC0 (fun hC0 hc1=> ?_) (fun hC0 hc1=> ?_)
 ·refine pB tT ?_;refine pK (qW ?_);cases hC0;exact⟨[],by rfl,by rfl,by rfl⟩
 ·refine qD (pL ?_);refine pB tT ?_;refine pP ?_;refine pB tT ?_;refine pO hC0 (fun hC0 hc2=> ?_) (fun hC0 hc2=> ?_)
  ·refine qU tT ?_;refine pL ?_;refine pB tT ?_;refine pP ?_;refine pB tT ?_;refine rC ?_;obtain⟨y1,hy1,hC0⟩:=uI hC0;refine t7 0 (fun s=> ∃v,y1= .inl v∧s=(fun x=>⟨[(9,(.val .ref (some (0,0)),none))],[(0,.cells wT ((some (0,0)),(x,())) [(1,1)]),(1,.grow 5 1 (x.length))],2,58,0⟩) v) ?_ ?_
   ·refine t6 hy1 (fun x=>⟨[(0,(.val (.int .i64) O,none)),(1,(.val .str Z,none)),(7,(.val (.int .u8) (38:Int),none)),(8,(.val .clo (some (210,[])),none)),(9,(.val .ref (some (0,0)),none)),(10,(.val (.int .i64) x.1,none))],[(0,.cells wT ((some (0,0)),(x.2,())) [(1,1)]),(1,.grow 5 1 (x.2.length))],2,58,0⟩) ⟨[0,1,7,8,9,10],[(0,384),(1,385)]⟩ (by rfl) ?_;intro x1 w1 n1 hC1 hN1;obtain⟨aA,aB⟩:=x1;unfold aFO at hC1;dsimp only at hC1⊢;refine pP ?_;refine pB tT ?_;refine pO hC1 (fun hC1 hc3=> ?_) (fun hC1 hc3=> ?_)
    ·refine qD (pL (rC (rC ?_)));obtain⟨hg1,hC1⟩:=pI hC1;refine pB tT ?_ (hp:=by exact hg1);refine pO hC1 (fun hC1 hc4=> ?_) (fun hC1 hc4=> ?_)
     ·obtain⟨hg2,hC1⟩:=pI hC1;obtain⟨aC,hv3,hw3,hC1⟩:=pZ hC1
      try simp only[go_sem] at hw3
      refine pB tT ?_ (hp:=by exact⟨hg2,(pY hv3)⟩) (h:=by simp only[go_sem,hw3];rfl);refine pP ?_;refine pB tT ?_;refine pO hC1 (fun hC1 hc5=> ?_) (fun hC1 hc5=> ?_)
      ·refine pB tT ?_;refine pK (qW (rE (rE (uL (uK (rE (qW ?_)))))));cases hC1;cases hN1;dsimp only at hC0;cases hC0;exact⟨[],by rfl,by rfl,by rfl⟩
      ·refine qD (pL ?_);obtain⟨aD,hv4,hw4,hC1⟩:=pZ hC1
       try simp only[go_sem] at hw4
       refine pB tT ?_ (hp:=by exact⟨by first|rfl|trivial,(pY hv4)⟩) (h:=by simp only[go_sem,hw4];rfl)
       obtain⟨hg5,hC1⟩:=pI hC1;refine qU tT ?_ (hp:=by exact hg5);refine qY (qY ?_);cases hC1;exact s7 ⟨⟨[0,1,7,8,9,10],[(0,0),(1,1)]⟩,_,by rfl,hN1⟩
     ·obtain⟨hg6,hC1⟩:=pI hC1;refine pB tT ?_ (hp:=by exact hg6);refine pO hC1 (fun hC1 hc6=> ?_) (fun hC1 hc6=> ?_)
      ·refine pB tT ?_;refine pK (rE (rE (uL (uK (rE (qW ?_))))));cases hC1;cases hN1;dsimp only at hC0;cases hC0;exact⟨[],by rfl,by rfl,by rfl⟩
      ·obtain⟨hg7,hC1⟩:=pI hC1;obtain⟨aE,hv8,hw8,hC1⟩:=pZ hC1
       try simp only[go_sem] at hw8
       refine pB tT ?_ (hp:=by exact⟨hg7,by first|rfl|trivial,(pY hv8)⟩) (h:=by simp only[go_sem,hw8];rfl)
       obtain⟨hg9,hC1⟩:=pI hC1;refine qU tT ?_ (hp:=by exact hg9);refine qY (qY ?_);cases hC1;exact s7 ⟨⟨[0,1,7,8,9,10],[(0,0),(1,1)]⟩,_,by rfl,hN1⟩
    ·refine sO (sW (sQ ?_));cases hC1;cases hN1;exact sP ⟨⟨[9],[(0,0),(1,1)]⟩,_,rfl,by rfl⟩
   ·rintro _ ⟨aF,rfl,rfl⟩;dsimp only at hC0⊢;refine sZ (pL ?_);refine pB tT ?_ (hp:=by first|rfl|trivial)
    refine pK ?_;cases hC0;exact⟨[],by rfl,by rfl,by rfl⟩
  ·refine qD (pL ?_);refine pB tT ?_;refine pP ?_;refine pB tT ?_;refine rC ?_;obtain⟨y1,hy1,hC0⟩:=uI hC0;refine t7 0 (fun s=> ∃v,y1= .inl v∧s=(fun x=>⟨[(9,(.val .ref (some (0,0)),none))],[(0,.cells wT ((some (0,0)),(x,())) [(1,1)]),(1,.grow 5 1 (x.length))],2,58,0⟩) v) ?_ ?_
   ·refine t6 hy1 (fun x=>⟨[(0,(.val (.int .i64) O,none)),(1,(.val .str Z,none)),(7,(.val (.int .u8) (92:Int),none)),(8,(.val .clo (some (209,[])),none)),(9,(.val .ref (some (0,0)),none)),(10,(.val (.int .i64) x.1,none))],[(0,.cells wT ((some (0,0)),(x.2,())) [(1,1)]),(1,.grow 5 1 (x.2.length))],2,58,0⟩) ⟨[0,1,7,8,9,10],[(0,320),(1,321)]⟩ (by rfl) ?_;intro x1 w1 n1 hC1 hN1;obtain⟨aG,aH⟩:=x1;unfold N4 at hC1;dsimp only at hC1⊢;refine pP ?_;refine pB tT ?_;refine pO hC1 (fun hC1 hc7=> ?_) (fun hC1 hc7=> ?_)
    ·refine qD (pL (rC (rC ?_)));obtain⟨hg10,hC1⟩:=pI hC1;refine pB tT ?_ (hp:=by exact hg10);refine pO hC1 (fun hC1 hc8=> ?_) (fun hC1 hc8=> ?_)
     ·obtain⟨hg11,hC1⟩:=pI hC1;obtain⟨aI,hv12,hw12,hC1⟩:=pZ hC1
      try simp only[go_sem] at hw12
      refine pB tT ?_ (hp:=by exact⟨hg11,(pY hv12)⟩) (h:=by simp only[go_sem,hw12];rfl);refine pP ?_;refine pB tT ?_;refine pO hC1 (fun hC1 hc9=> ?_) (fun hC1 hc9=> ?_)
      ·refine pB tT ?_;refine pK (qW (rE (rE (uL (uK (rE (qW ?_)))))));cases hC1;cases hN1;dsimp only at hC0;cases hC0;exact⟨[],by rfl,by rfl,by rfl⟩
      ·refine qD (pL ?_);obtain⟨aJ,hv13,hw13,hC1⟩:=pZ hC1
       try simp only[go_sem] at hw13
       refine pB tT ?_ (hp:=by exact⟨by first|rfl|trivial,(pY hv13)⟩) (h:=by simp only[go_sem,hw13];rfl)
       obtain⟨hg14,hC1⟩:=pI hC1;refine qU tT ?_ (hp:=by exact hg14);refine qY (qY ?_);cases hC1;exact s7 ⟨⟨[0,1,7,8,9,10],[(0,0),(1,1)]⟩,_,by rfl,hN1⟩
     ·obtain⟨hg15,hC1⟩:=pI hC1;refine pB tT ?_ (hp:=by exact hg15);refine pO hC1 (fun hC1 hc10=> ?_) (fun hC1 hc10=> ?_)
      ·refine pB tT ?_;refine pK (rE (rE (uL (uK (rE (qW ?_))))));cases hC1;cases hN1;dsimp only at hC0;cases hC0;exact⟨[],by rfl,by rfl,by rfl⟩
      ·obtain⟨hg16,hC1⟩:=pI hC1;obtain⟨aK,hv17,hw17,hC1⟩:=pZ hC1
       try simp only[go_sem] at hw17
       refine pB tT ?_ (hp:=by exact⟨hg16,by first|rfl|trivial,(pY hv17)⟩) (h:=by simp only[go_sem,hw17];rfl)
       obtain⟨hg18,hC1⟩:=pI hC1;refine qU tT ?_ (hp:=by exact hg18);refine qY (qY ?_);cases hC1;exact s7 ⟨⟨[0,1,7,8,9,10],[(0,0),(1,1)]⟩,_,by rfl,hN1⟩
    ·refine sO (sW (sQ ?_));cases hC1;cases hN1;exact sP ⟨⟨[9],[(0,0),(1,1)]⟩,_,rfl,by rfl⟩
   ·rintro _ ⟨aL,rfl,rfl⟩;dsimp only at hC0⊢;refine sZ (pL ?_);refine pB tT ?_ (hp:=by first|rfl|trivial)
    refine pK ?_;cases hC0;exact⟨[],by rfl,by rfl,by rfl⟩
attribute [irreducible] FC
end
noncomputable section
def GV (O:(List UInt8)) (Z:Int):Option (Int×(List UInt8)×Int):=if 0≤(1:Int)∧(1:Int)≤(O.length:Int)∧(O.length:Int)≤(O.length:Int) then (K9 (3:Int) (pT O (1:Int) (O.length:Int)) (34:Int)).bind fun aA=>if (decide (aA<(0:Int)))=true then some (((0:Int),([]:List UInt8),Z)) else if pE (aA+(1:Int)) then if 0≤(1:Int)∧(1:Int)≤(aA+(1:Int))∧(aA+(1:Int))≤(O.length:Int) then (FC (3:Int) (pT O (1:Int) (aA+(1:Int)))).bind fun aB=>if (((!decide (aB.2.2=(0:Int)))==false)=true→((DY aB.1)).isSome=true) then if ((!decide (aB.2.2=(0:Int)))||(!((decide ((aB.1.length:Int)≤(4000:Int)))&&(Lib.validD aB.1))))=true then some (((0:Int),([]:List UInt8),Z)) else if pE (Z+aA) then if pE ((Z+aA)+(2:Int)) then some (((1:Int),aB.1,((Z+aA)+(2:Int)))) else none else none else none else none else none else none
section
variable (O:(List UInt8)) (Z:Int)
abbrev a6P:List pD:=[(.val .str O,none),(.val (.int .i64) Z,none)]
abbrev a6Q:List pC:=[]
@[go_sem] def a6R:pJ:=⟨[((GV O Z)).isSome=true],[(.val M4 ((val (GV O Z)).1,((val (GV O Z)).2.1,(Z,((val (GV O Z)).2.2,())))),none)],[]⟩
def aFR:List pD→List pC→Option pJ:=qP (V:=((List UInt8)×Int)) (fun x=>a6P x.1 x.2) (fun x=>a6Q) fun x=>a6R x.1 x.2
@[go_sem] theorem aTd:aFR (no_index (a6P O Z)) (no_index a6Q)=some (a6R O Z):=qQ (fun⟨a0,a1⟩ ⟨b0,b1⟩ h1 h2=>by cases h1;cases h2;rfl) (O,Z)
end
@[go_sem] abbrev aFS:Nat×qC:=(119,⟨[.v,.v],aFR,[],[],none⟩)
theorem GW:qG Tryz.prog [rP,zT] (qE [aEu,aFQ,Q8]):=⟨⟨rQ,⟨BE,trivial⟩⟩,pM aMM (pM aNi (pM VD qS)),qI⟩
theorem aNj:qJ Tryz.prog aFS:=by
 refine qR GW Tryz.func119 (c:=_) rfl (N:=43) (by kernel_rfl) (ts:=[(4,some 65)]) rfl (fun _ _=>rfl) ?_;intro⟨O,Z⟩ hs hrow;dsimp only[a6P,a6Q,a6R,qM,pN,pW,qH,qO,Nat.reduceAdd] at hs hrow⊢;have hz:=hs;obtain⟨z0,hC0⟩:=aTF.1 hz
 try rw[r8 hC0]
 clear hz hs;unfold GV at hC0;refine pB GW ?_;obtain⟨hg1,hC0⟩:=pI hC0;obtain⟨aA,hv2,hw2,hC0⟩:=pZ hC0
 try simp only[go_sem] at hw2
 refine pB GW ?_ (hp:=by exact⟨hg1,(pY hv2)⟩) (h:=by simp only[go_sem,hw2];rfl);refine pP ?_;refine pB GW ?_;refine pO hC0 (fun hC0 hc1=> ?_) (fun hC0 hc1=> ?_)
 ·refine pB GW ?_;refine pK (qW ?_);cases hC0;exact⟨[],by rfl,by rfl,by rfl⟩
 ·refine qD (pL ?_);obtain⟨hg3,hC0⟩:=pI hC0;obtain⟨hg4,hC0⟩:=pI hC0;obtain⟨aB,hv5,hw5,hC0⟩:=pZ hC0
  try simp only[go_sem] at hw5
  refine pB GW ?_ (hp:=by exact⟨hg3,hg4,(pY hv5)⟩) (h:=by simp only[go_sem,hw5];rfl);refine pP ?_;obtain⟨hg6,hC0⟩:=pI hC0;refine pB GW ?_ (hp:=by exact⟨fun hh=>hh,hg6,fun hh=>hh,(fun hh=>sR hh)⟩);refine pO hC0 (fun hC0 hc2=> ?_) (fun hC0 hc2=> ?_)
  ·refine pB GW ?_;refine pK (qW ?_);cases hC0;exact⟨[],by rfl,by rfl,by rfl⟩
  ·refine qD (pL ?_);obtain⟨hg7,hC0⟩:=pI hC0;obtain⟨hg8,hC0⟩:=pI hC0;refine pB GW ?_ (hp:=by exact⟨hg7,hg8⟩);refine pK ?_;cases hC0;exact⟨[],by rfl,by rfl,by rfl⟩
attribute [irreducible] GV
end
noncomputable section
def CC (O:((List UInt8)×(Int×Unit))):Option (Int×(List UInt8)×Int×Int×Int):=(IC O).bind fun Z=>if (!Z.1)=true then some (((0:Int),([]:List UInt8),Z.2,Z.2,Z.2)) else if (decide (Z.2=(O.1.length:Int)))=true then some (((4:Int),([]:List UInt8),Z.2,Z.2,Z.2)) else if 0≤Z.2∧Z.2≤(O.1.length:Int)∧(O.1.length:Int)≤(O.1.length:Int) then if 0≤(0:Int)∧(0:Int)<((pT O.1 Z.2 (O.1.length:Int)).length:Int) then if ((decide ((pR (pT O.1 Z.2 (O.1.length:Int)) (0:Int))=(123:Int)))||(decide ((pR (pT O.1 Z.2 (O.1.length:Int)) (0:Int))=(125:Int))))=true then if 0≤(0:Int)∧(0:Int)≤(1:Int)∧(1:Int)≤((pT O.1 Z.2 (O.1.length:Int)).length:Int) then if pE (Z.2+(1:Int)) then some (((3:Int),(pT (pT O.1 Z.2 (O.1.length:Int)) (0:Int) (1:Int)),Z.2,(Z.2+(1:Int)),(Z.2+(1:Int)))) else none else none else if (decide ((pR (pT O.1 Z.2 (O.1.length:Int)) (0:Int))=(34:Int)))=true then (GV (pT O.1 Z.2 (O.1.length:Int)) Z.2).bind fun aA=>some ((aA.1,aA.2.1,Z.2,aA.2.2,aA.2.2)) else if (((decide ((97:Int)≤(pR (pT O.1 Z.2 (O.1.length:Int)) (0:Int))))&&(decide ((pR (pT O.1 Z.2 (O.1.length:Int)) (0:Int))≤(122:Int))))||((decide ((65:Int)≤(pR (pT O.1 Z.2 (O.1.length:Int)) (0:Int))))&&(decide ((pR (pT O.1 Z.2 (O.1.length:Int)) (0:Int))≤(90:Int)))))=true then (K3 (pT O.1 Z.2 (O.1.length:Int))).bind fun aB=>rH (σ:=Int) (if (decide (aB<(0:Int)))=true then some (((pT O.1 Z.2 (O.1.length:Int)).length:Int)) else some (aB) ) fun aC=>if 0≤(0:Int)∧(0:Int)≤aC∧aC≤((pT O.1 Z.2 (O.1.length:Int)).length:Int) then if pE (Z.2+aC) then some (((2:Int),(pT (pT O.1 Z.2 (O.1.length:Int)) (0:Int) aC),Z.2,(Z.2+aC),(Z.2+aC))) else none else none else some (((0:Int),([]:List UInt8),Z.2,Z.2,Z.2)) else none else none
section
variable (O:((List UInt8)×(Int×Unit)))
abbrev a6S:List pD:=[(.val .ref (some (0,0)),none)]
abbrev a6T:List pC:=[.cells DM O []]
@[go_sem] def a6U:pJ:=⟨[((CC O)).isSome=true],[(.val M4 ((val (CC O)).1,((val (CC O)).2.1,((val (CC O)).2.2.1,((val (CC O)).2.2.2.1,())))),none)],[.cells DM (O.1,((val (CC O)).2.2.2.2,())) []]⟩
def aFT:List pD→List pC→Option pJ:=qP (V:=((List UInt8)×(Int×Unit))) (fun x=>a6S) (fun x=>a6T x) fun x=>a6U x
@[go_sem] theorem aTe:aFT (no_index a6S) (no_index (a6T O))=some (a6U O):=qQ (fun a0 b0 h1 h2=>by cases h1;cases h2;rfl) O
end
@[go_sem] abbrev a6V:Nat×qC:=(81,⟨[.p DM []],aFT,[],[],none⟩)
theorem uY:qG Tryz.prog [uX,rP,PN,zT] (qE [aE5,aFS,a1n,aEb]):=⟨⟨vK,⟨rQ,⟨a0E,⟨BE,trivial⟩⟩⟩⟩,pM aM1 (pM aNj (pM aCV (pM aME qS))),qI⟩
theorem aFU:qJ Tryz.prog a6V:=by
 refine qR uY Tryz.func81 (c:=_) rfl (N:=87) (by kernel_rfl) (ts:=[(2,some 65)]) rfl (fun _ _=>rfl) ?_;intro O hs hrow;dsimp only[a6S,a6T,a6U,qM,pN,pW,qH,qO,Nat.reduceAdd] at hs hrow⊢;have hz:=hs;obtain⟨z0,hC0⟩:=aTF.1 hz
 try rw[r8 hC0]
 clear hz hs;unfold CC at hC0;refine pB uY ?_;refine pP ?_;obtain⟨Z,hv1,hw1,hC0⟩:=pZ hC0
 try simp only[go_sem] at hw1
 refine pB uY ?_ (hp:=by exact(pY hv1)) (h:=by simp only[go_sem,hw1];rfl);refine pO hC0 (fun hC0 hc1=> ?_) (fun hC0 hc1=> ?_)
 ·refine xD uY ?_;refine pK (qW ?_);cases hC0;exact⟨[(0,0)],by rfl,by rfl,by rfl⟩
 ·refine qD (pL ?_);refine pB uY ?_;refine pP ?_;refine pB uY ?_;refine pO hC0 (fun hC0 hc2=> ?_) (fun hC0 hc2=> ?_)
  ·refine pB uY ?_;refine pK (qW ?_);cases hC0;exact⟨[(0,0)],by rfl,by rfl,by rfl⟩
  ·refine qD (pL ?_);obtain⟨hg2,hC0⟩:=pI hC0;refine pB uY ?_ (hp:=by exact hg2);refine pB uY ?_;refine pP ?_;obtain⟨hg3,hC0⟩:=pI hC0;refine pB uY ?_ (hp:=by exact hg3);refine rC ?_;refine pB uY ?_ (hp:=by exact⟨fun hh=>hh,(fun hh=>sR hh)⟩);refine pO hC0 (fun hC0 hc3=> ?_) (fun hC0 hc3=> ?_)
   ·obtain⟨hg4,hC0⟩:=pI hC0;obtain⟨hg5,hC0⟩:=pI hC0;refine qU uY ?_ (hp:=by exact⟨hg4,hg5⟩);refine qY (pL ?_);refine pB uY ?_;refine pB uY ?_;refine pK ?_;cases hC0;exact⟨[(0,0)],by rfl,by rfl,by rfl⟩
   ·refine pB uY ?_;refine pO hC0 (fun hC0 hc4=> ?_) (fun hC0 hc4=> ?_)
    ·obtain⟨aA,hv6,hw6,hC0⟩:=pZ hC0
     try simp only[go_sem] at hw6
     refine qU uY ?_ (hp:=by exact(pY hv6)) (h:=by simp only[go_sem,hw6];rfl);refine qY (pL ?_);refine pB uY ?_;refine pB uY ?_;refine pK ?_;cases hC0;exact⟨[(0,0)],by rfl,by rfl,by rfl⟩
    ·refine pB uY ?_;refine pO hC0 (fun hC0 hc5=> ?_) (fun hC0 hc5=> ?_)
     ·obtain⟨aB,hv7,hw7,hC0⟩:=pZ hC0
      try simp only[go_sem] at hw7
      refine pB uY ?_ (hp:=by exact(pY hv7)) (h:=by simp only[go_sem,hw7];rfl);refine pP ?_;refine pB uY ?_;obtain⟨aC,hC1,hC0⟩:=pF hC0;refine BB (fun s=>s=(fun x=>⟨[(0,(.val .ref (some (0,0)),none)),(2,(.val .ref (some (1,0)),none)),(3,(.val (.int .i64) Z.2,none)),(4,(.val .str (pT O.1 Z.2 (O.1.length:Int)),none)),(5,(.val .ref (some (2,0)),none)),(7,(.val (.int .i64) x,none))],[(0,.cells DM (O.1,(Z.2,())) []),(1,.cells M4 ((0:Int),(([]:List UInt8),((0:Int),((0:Int),())))) []),(2,.cells M4 ((0:Int),(([]:List UInt8),(Z.2,(Z.2,())))) [])],3,87,1⟩) aC) ?_ ?_
      ·refine pO hC1 (fun hC1 hc6=> ?_) (fun hC1 hc6=> ?_)
       ·refine qU uY ?_;cases hC1;exact uE ⟨⟨[0,2,3,4,5,7],[(0,0),(1,1),(2,833)]⟩,by rfl⟩
       ·refine qD ?_;cases hC1;exact uE ⟨⟨[0,2,3,4,5,7],[(0,0),(1,1),(2,833)]⟩,by rfl⟩
      ·rintro _ rfl;dsimp only at hC0⊢;refine pL ?_;obtain⟨hg8,hC0⟩:=pI hC0;obtain⟨hg9,hC0⟩:=pI hC0;refine qU uY ?_ (hp:=by exact⟨hg8,hg9⟩);refine qY (pL ?_);refine pB uY ?_;refine pB uY ?_;refine pK ?_;cases hC0;exact⟨[(0,0)],by rfl,by rfl,by rfl⟩
     ·refine qD (qY (pL ?_));refine pB uY ?_;refine pB uY ?_;refine pK ?_;cases hC0;exact⟨[(0,0)],by rfl,by rfl,by rfl⟩
attribute [irreducible] CC
end
noncomputable section
def AP (O:G7) (Z:rD) (aA:(Bool×(Bool×(Bool×Unit)))) (aB:rS) (aC:Bool):Option (Int×Int×Int×(List UInt8)×(List UInt8)×(List (List UInt8))×(List (List UInt8))×Int×(List pV)×Bool×Bool×Bool):=if (decide (aB.2.1=([99,111,109,109,101,110,116]:List UInt8)))=true then if (decide ((20:Int)≤(Z.2.2.2.1.length:Int)))=true then rM (xX O aB (6:Int)) fun aD=>some ((O.2.1,aD.1,aD.2,Z.2.1,Z.2.2.1,Z.2.2.2.1,Z.2.2.2.2.1,Z.2.2.2.2.2.1,Z.2.2.2.2.2.2.1,aA.1,aA.2.1,aA.2.2.1)) else (w7 O (1:Int) ([]:List UInt8)).bind fun aE=>if (([]:List (List UInt8)).length+Z.2.2.2.1.length)*16≤140737488355328 then if ((([]:List (List UInt8))++Z.2.2.2.1).length+([aE.2.2.2.2.1]:List (List UInt8)).length)*16≤140737488355328 then some ((aE.1,aE.2.1,aE.2.2.1,Z.2.1,Z.2.2.1,((([]:List (List UInt8))++Z.2.2.2.1)++([aE.2.2.2.2.1]:List (List UInt8))),Z.2.2.2.2.1,Z.2.2.2.2.2.1,Z.2.2.2.2.2.2.1,aA.1,aA.2.1,aA.2.2.1)) else none else none else if (decide (aB.2.1=([102,105,101,108,100]:List UInt8)))=true then (VK O Z).bind fun aF=>some ((aF.1,aF.2.1,aF.2.2.1,Z.2.1,Z.2.2.1,Z.2.2.2.1,Z.2.2.2.2.1,Z.2.2.2.2.2.1,aF.2.2.2,aA.1,aA.2.1,aA.2.2.1)) else if aC=true then rM (xX O aB (3:Int)) fun aG=>some ((O.2.1,aG.1,aG.2,Z.2.1,Z.2.2.1,Z.2.2.2.1,Z.2.2.2.2.1,Z.2.2.2.2.2.1,Z.2.2.2.2.2.2.1,aA.1,aA.2.1,aA.2.2.1)) else if (decide (aB.2.1=([102,108,97,103]:List UInt8)))=true then (VM O Z).bind fun aH=>some ((aH.1,aH.2.1,aH.2.2.1,Z.2.1,Z.2.2.1,Z.2.2.2.1,aH.2.2.2,Z.2.2.2.2.2.1,Z.2.2.2.2.2.2.1,aA.1,aA.2.1,aA.2.2.1)) else rH (σ:=Bool) (if ((decide (aB.2.1=([115,111,117,114,99,101]:List UInt8)))&&aA.1)=true then some (((decide (aB.2.1=([115,111,117,114,99,101]:List UInt8)))&&aA.1)) else if ((decide (aB.2.1=([116,97,114,103,101,116]:List UInt8)))&&aA.2.1)=true then some (((decide (aB.2.1=([116,97,114,103,101,116]:List UInt8)))&&aA.2.1)) else some (((decide (aB.2.1=([115,116,97,116,101]:List UInt8)))&&aA.2.2.1)) ) fun aI=>if aI=true then rM (xX O aB (9:Int)) fun aJ=>some ((O.2.1,aJ.1,aJ.2,Z.2.1,Z.2.2.1,Z.2.2.2.1,Z.2.2.2.2.1,Z.2.2.2.2.2.1,Z.2.2.2.2.2.2.1,aA.1,aA.2.1,aA.2.2.1)) else if (decide (aB.2.1=([115,111,117,114,99,101]:List UInt8)))=true then (w7 O (1:Int) ([]:List UInt8)).bind fun aK=>some ((aK.1,aK.2.1,aK.2.2.1,aK.2.2.2.2.1,Z.2.2.1,Z.2.2.2.1,Z.2.2.2.2.1,Z.2.2.2.2.2.1,Z.2.2.2.2.2.2.1,true,aA.2.1,aA.2.2.1)) else if (decide (aB.2.1=([116,97,114,103,101,116]:List UInt8)))=true then (w7 O (1:Int) ([]:List UInt8)).bind fun aL=>some ((aL.1,aL.2.1,aL.2.2.1,Z.2.1,aL.2.2.2.2.1,Z.2.2.2.1,Z.2.2.2.2.1,Z.2.2.2.2.2.1,Z.2.2.2.2.2.2.1,aA.1,true,aA.2.2.1)) else if (decide (aB.2.1=([115,116,97,116,101]:List UInt8)))=true then (w7 O (2:Int) ([]:List UInt8)).bind fun aM=>if (((decide (aM.2.2.1=(0:Int)))==true)=true→((MD aM.2.2.2.2.1)).isSome=true) then rH (σ:=(Int×Int)) (if ((decide (aM.2.2.1=(0:Int)))&&(decide ((val (MD aM.2.2.2.2.1))<(0:Int))))=true then rM (xX (O.1,(aM.1,(aM.2.1,(aM.2.2.1,((O.2.2.2.2.1.1,(O.2.2.2.2.1.2.1,(O.2.2.2.2.1.2.2.1,(O.2.2.2.2.1.2.2.2.1,())))),(O.2.2.2.2.2.1,())))))) (aM.2.2.2.1,(aM.2.2.2.2.1,(aM.2.2.2.2.2.1,(aM.2.2.2.2.2.2,())))) (3:Int)) fun aN=>some ((aN.1,aN.2)) else some ((aM.2.1,aM.2.2.1)) ) fun(aO,aP)=>(MD aM.2.2.2.2.1).bind fun aQ=>some ((aM.1,aO,aP,Z.2.1,Z.2.2.1,Z.2.2.2.1,Z.2.2.2.2.1,aQ,Z.2.2.2.2.2.2.1,aA.1,aA.2.1,true)) else none else rM (xX O aB (3:Int)) fun aR=>some ((O.2.1,aR.1,aR.2,Z.2.1,Z.2.2.1,Z.2.2.2.1,Z.2.2.2.2.1,Z.2.2.2.2.2.1,Z.2.2.2.2.2.2.1,aA.1,aA.2.1,aA.2.2.1))
attribute [irreducible] AP
def sF (O:((List UInt8)×(Int×Unit))) (Z:rS) (aA:Int) (aB:Int) (aC:qZ) (aD:((List Int)×(Int×Unit))) (aE:(List ((List UInt8)×Bool))):Option (Int×Int×(List UInt8)×Int×Int×Int):=if (decide (aB=(0:Int)))=true then (CC O).bind fun aF=>some ((aF.2.2.2.2,aF.1,aF.2.1,aF.2.2.1,aF.2.2.2.1,Z.2.2.2.1)) else some ((O.2.1,Z.1,Z.2.1,Z.2.2.1,Z.2.2.2.1,aD.2.1))
section
variable (O:((List UInt8)×(Int×Unit))) (Z:rS) (aA:Int) (aB:Int) (aC:qZ) (aD:((List Int)×(Int×Unit))) (aE:Nat) (aF:Nat) (aG:(List ((List UInt8)×Bool)))
abbrev a6W:List pD:=[(.val .ref (some (0,0)),none)]
abbrev a6X:List pC:=[.cells rO (O,(Z,(aA,(aB,(aC,((some 3),aD)))))) [(11,1),(13,2)],.grow 55 7 aE,.grow 3 1 aF,.map .str .bool aG]
@[go_sem] def a6Y:pJ:=⟨[aE=(aC.2.2.2.1.length),aF=(aD.1.length),((sF O Z aA aB aC aD aG)).isSome=true],[],[.cells rO ((O.1,((val (sF O Z aA aB aC aD aG)).1,())),(((val (sF O Z aA aB aC aD aG)).2.1,((val (sF O Z aA aB aC aD aG)).2.2.1,((val (sF O Z aA aB aC aD aG)).2.2.2.1,((val (sF O Z aA aB aC aD aG)).2.2.2.2.1,())))),(aA,(aB,((aC.1,(aC.2.1,(aC.2.2.1,(aC.2.2.2.1,())))),((some 3),(aD.1,((val (sF O Z aA aB aC aD aG)).2.2.2.2.2,())))))))) [(11,1),(13,2)],.grow 55 7 (aC.2.2.2.1.length),.grow 3 1 (aD.1.length),.map .str .bool aG]⟩
def aFV:List pD→List pC→Option pJ:=qP (V:=(((List UInt8)×(Int×Unit))×rS×Int×Int×qZ×((List Int)×(Int×Unit))×Nat×Nat×(List ((List UInt8)×Bool)))) (fun x=>a6W) (fun x=>a6X x.1 x.2.1 x.2.2.1 x.2.2.2.1 x.2.2.2.2.1 x.2.2.2.2.2.1 x.2.2.2.2.2.2.1 x.2.2.2.2.2.2.2.1 x.2.2.2.2.2.2.2.2) fun x=>a6Y x.1 x.2.1 x.2.2.1 x.2.2.2.1 x.2.2.2.2.1 x.2.2.2.2.2.1 x.2.2.2.2.2.2.1 x.2.2.2.2.2.2.2.1 x.2.2.2.2.2.2.2.2
@[go_sem] theorem aTf:aFV (no_index a6W) (no_index (a6X O Z aA aB aC aD aE aF aG))=some (a6Y O Z aA aB aC aD aE aF aG):=qQ (fun⟨a0,a1,a2,a3,a4,a5,a6,a7,a8⟩ ⟨b0,b1,b2,b3,b4,b5,b6,b7,b8⟩ h1 h2=>by cases h1;cases h2;rfl) (O,Z,aA,aB,aC,aD,aE,aF,aG)
end
@[go_sem] abbrev yH:Nat×qC:=(178,⟨[.p rO [11,13]],aFV,[(0,12,.m)],[1,2,3],none⟩)
theorem VN:qG Tryz.prog [uX,HW,zT,yC] (qE [a6V]):=⟨⟨vK,⟨M8,⟨BE,⟨zS,trivial⟩⟩⟩⟩,pM aFU qS,qI⟩
theorem E9:qJ Tryz.prog yH:=by
 refine qR VN Tryz.func178 (c:=_) rfl (N:=22) (by kernel_rfl) (ts:=[]) rfl (fun _ _=>rfl) ?_;intro⟨O,Z,aA,aB,aC,aD,aE,aF,aG⟩ hs hrow;dsimp only[a6W,a6X,a6Y,qM,pN,pW,qH,qO,Nat.reduceAdd] at hs hrow⊢;obtain⟨rfl,rfl,hz⟩:=hs;obtain⟨z0,hC0⟩:=aTF.1 hz
 try rw[r8 hC0]
 clear hz;unfold sF at hC0;refine pB VN ?_;refine pO hC0 (fun hC0 hc1=> ?_) (fun hC0 hc1=> ?_)
 ·refine pB VN ?_;obtain⟨aH,hv1,hw1,hC0⟩:=pZ hC0
  try simp only[go_sem] at hw1
  refine qU VN ?_ (hp:=by exact(pY hv1)) (h:=by simp only[go_sem,hw1];rfl);cases hC0;exact⟨[(0,0),(1,1),(2,2),(3,3)],by rfl,by rfl,by rfl⟩
 ·refine qD ?_;cases hC0;exact⟨[(0,0),(1,1),(2,2),(3,3)],by rfl,by rfl,by rfl⟩
attribute [irreducible] sF
end
noncomputable section
def uG (O:G7) (Z:rD) (aA:Bool):(Int×Int×Int×(List UInt8)×(List UInt8)×(List (List UInt8))×(List (List UInt8))×Int×(List pV)×Bool×Bool×Bool)→Option ((Int×Int×Int×(List UInt8)×(List UInt8)×(List (List UInt8))×(List (List UInt8))×Int×(List pV)×Bool×Bool×Bool)⊕((Int×Int×Int×(List UInt8)×(List UInt8)×(List (List UInt8))×(List (List UInt8))×Int×(List pV))⊕(Int×Int×Int×(List Int)×(List UInt8)×(List UInt8)×(List (List UInt8))×(List (List UInt8))×Int×(List pV)))):=fun(aB,aC,aD,aE,aF,aG,aH,aI,aJ,aK,aL,aM)=>if (decide (aD=(0:Int)))=true then (N2 O.1 aB).bind fun aN=>if ((decide (aN.1=(3:Int)))&&(decide (aN.2.1=([125]:List UInt8))))=true then if (([]:List Int).length+O.2.2.2.2.2.1.length)*8≤140737488355328 then if ((([]:List Int)++O.2.2.2.2.2.1).length+([aN.2.2.2]:List Int).length)*8≤140737488355328 then some (.inr (.inr ((aN.2.2.2,aC,aD,((([]:List Int)++O.2.2.2.2.2.1)++([aN.2.2.2]:List Int)),aE,aF,aG,aH,aI,aJ)))) else none else none else if (!decide (aN.1=(2:Int)))=true then rM (xX (O.1,(aB,(aC,(aD,((O.2.2.2.2.1.1,(O.2.2.2.2.1.2.1,(O.2.2.2.2.1.2.2.1,(O.2.2.2.2.1.2.2.2.1,())))),(O.2.2.2.2.2.1,())))))) (aN.1,(aN.2.1,(aN.2.2.1,(aN.2.2.2,())))) (3:Int)) fun aO=>some (.inr (.inr ((aB,aO.1,aO.2,O.2.2.2.2.2.1,aE,aF,aG,aH,aI,aJ)))) else (AP (O.1,(aN.2.2.2,(aC,(aD,((O.2.2.2.2.1.1,(O.2.2.2.2.1.2.1,(O.2.2.2.2.1.2.2.1,(O.2.2.2.2.1.2.2.2.1,())))),(O.2.2.2.2.2.1,())))))) (Z.1,(aE,(aF,(aG,(aH,(aI,(aJ,()))))))) (aK,(aL,(aM,()))) (aN.1,(aN.2.1,(aN.2.2.1,(aN.2.2.2,())))) aA).bind fun aP=>some (.inl (aP.1,aP.2.1,aP.2.2.1,aP.2.2.2.1,aP.2.2.2.2.1,aP.2.2.2.2.2.1,aP.2.2.2.2.2.2.1,aP.2.2.2.2.2.2.2.1,aP.2.2.2.2.2.2.2.2.1,aP.2.2.2.2.2.2.2.2.2.1,aP.2.2.2.2.2.2.2.2.2.2.1,aP.2.2.2.2.2.2.2.2.2.2.2)) else some (.inr (.inl (aB,aC,aD,aE,aF,aG,aH,aI,aJ)))
def xE (O:G7) (Z:rD) (aA:Bool):Option (Int×Int×Int×(List Int)×(List UInt8)×(List UInt8)×(List (List UInt8))×(List (List UInt8))×Int×(List pV)):=(w7 O (3:Int) ([123]:List UInt8)).bind fun aB=>rW (qB (uG O Z aA) (aB.1,aB.2.1,aB.2.2.1,Z.2.1,Z.2.2.1,Z.2.2.2.1,Z.2.2.2.2.1,Z.2.2.2.2.2.1,Z.2.2.2.2.2.2.1,false,false,false)) fun(aC,aD,aE,aF,aG,aH,aI,aJ,aK)=>some ((aC,aD,aE,O.2.2.2.2.2.1,aF,aG,aH,aI,aJ,aK))
attribute [irreducible] xE
end
noncomputable section
def zV (O:((List UInt8)×(Int×Unit))) (Z:rS) (aA:Int) (aB:Int) (aC:qZ) (aD:((List Int)×(Int×Unit))) (aE:(List UInt8)) (aF:(List UInt8)) (aG:(List UInt8)) (aH:(List (List UInt8))) (aI:(Int×((List pV)×Unit))) (aJ:Bool) (aK:(List ((List UInt8)×Bool))) (aL:(List (List UInt8))) (aM:(List ((List UInt8)×Bool))):Option (Int×Int×(List UInt8)×Int×Int×Int×Int×Int):=rH (σ:=(Int×Int)) (if (rV .str .bool aM Z.2.1)=true then rM (uB O Z aA aB aC aD (9:Int) aK) fun aN=>some ((aN.1,aN.2)) else some ((aA,aB)) ) fun(aO,aP)=>(sF (O.1,(O.2.1,())) (Z.1,(Z.2.1,(Z.2.2.1,(Z.2.2.2.1,())))) aO aP (aC.1,(aC.2.1,(aC.2.2.1,(aC.2.2.2.1,())))) (aD.1,(aD.2.1,())) aK).bind fun aQ=>some ((aQ.1,aQ.2.1,aQ.2.2.1,aQ.2.2.2.1,aQ.2.2.2.2.1,aO,aP,aQ.2.2.2.2.2))
section
variable (O:((List UInt8)×(Int×Unit))) (Z:rS) (aA:Int) (aB:Int) (aC:qZ) (aD:((List Int)×(Int×Unit))) (aE:Nat) (aF:Nat) (aG:(List UInt8)) (aH:(List UInt8)) (aI:(List UInt8)) (aJ:(List (List UInt8))) (aK:Nat) (aL:(Int×((List pV)×Unit))) (aM:Bool) (aN:Nat) (aO:Nat) (aP:(List ((List UInt8)×Bool))) (aQ:(List (List UInt8))) (aR:Nat) (aS:(List ((List UInt8)×Bool)))
abbrev a6Z:List pD:=[(.val .ref (some (0,0)),none),(.val .ref (some (3,0)),none)]
abbrev a60:List pC:=[.cells rO (O,(Z,(aA,(aB,(aC,((some 6),aD)))))) [(11,1),(13,2)],.grow 55 7 aE,.grow 3 1 aF,.cells sS ((aG,(aH,(aI,(aJ,((some (7,aK)),aL))))),(aM,((some 8),()))) [(3,4),(6,5)],.grow 9 1 aN,.grow 149 2 aO,.map .str .bool aP,.row 9 .str aQ aR,.map .str .bool aS]
@[go_sem] def a61:pJ:=⟨[aE=(aC.2.2.2.1.length),aF=(aD.1.length),aN=(aJ.length),aO=(aL.2.1.length),aK=aR,((zV O Z aA aB aC aD aG aH aI aJ aL aM aP aQ aS)).isSome=true],[],[.cells rO ((O.1,((val (zV O Z aA aB aC aD aG aH aI aJ aL aM aP aQ aS)).1,())),(((val (zV O Z aA aB aC aD aG aH aI aJ aL aM aP aQ aS)).2.1,((val (zV O Z aA aB aC aD aG aH aI aJ aL aM aP aQ aS)).2.2.1,((val (zV O Z aA aB aC aD aG aH aI aJ aL aM aP aQ aS)).2.2.2.1,((val (zV O Z aA aB aC aD aG aH aI aJ aL aM aP aQ aS)).2.2.2.2.1,())))),((val (zV O Z aA aB aC aD aG aH aI aJ aL aM aP aQ aS)).2.2.2.2.2.1,((val (zV O Z aA aB aC aD aG aH aI aJ aL aM aP aQ aS)).2.2.2.2.2.2.1,((aC.1,(aC.2.1,(aC.2.2.1,(aC.2.2.2.1,())))),((some 6),(aD.1,((val (zV O Z aA aB aC aD aG aH aI aJ aL aM aP aQ aS)).2.2.2.2.2.2.2,())))))))) [(11,1),(13,2)],.grow 55 7 (aC.2.2.2.1.length),.grow 3 1 (aD.1.length),.cells sS ((aG,(aH,(aI,(aJ,((some (7,(aQ.length))),(aL.1,(aL.2.1,()))))))),(aM,((some 8),()))) [(3,4),(6,5)],.grow 9 1 (aJ.length),.grow 149 2 (aL.2.1.length),.map .str .bool aP,.row 9 .str aQ (aQ.length),.map .str .bool (sL .str .bool Z.2.1 true aS)]⟩
def aFW:List pD→List pC→Option pJ:=qP (V:=(((List UInt8)×(Int×Unit))×rS×Int×Int×qZ×((List Int)×(Int×Unit))×Nat×Nat×(List UInt8)×(List UInt8)×(List UInt8)×(List (List UInt8))×Nat×(Int×((List pV)×Unit))×Bool×Nat×Nat×(List ((List UInt8)×Bool))×(List (List UInt8))×Nat×(List ((List UInt8)×Bool)))) (fun x=>a6Z) (fun x=>a60 x.1 x.2.1 x.2.2.1 x.2.2.2.1 x.2.2.2.2.1 x.2.2.2.2.2.1 x.2.2.2.2.2.2.1 x.2.2.2.2.2.2.2.1 x.2.2.2.2.2.2.2.2.1 x.2.2.2.2.2.2.2.2.2.1 x.2.2.2.2.2.2.2.2.2.2.1 x.2.2.2.2.2.2.2.2.2.2.2.1 x.2.2.2.2.2.2.2.2.2.2.2.2.1 x.2.2.2.2.2.2.2.2.2.2.2.2.2.1 x.2.2.2.2.2.2.2.2.2.2.2.2.2.2.1 x.2.2.2.2.2.2.2.2.2.2.2.2.2.2.2.1 x.2.2.2.2.2.2.2.2.2.2.2.2.2.2.2.2.1 x.2.2.2.2.2.2.2.2.2.2.2.2.2.2.2.2.2.1 x.2.2.2.2.2.2.2.2.2.2.2.2.2.2.2.2.2.2.1 x.2.2.2.2.2.2.2.2.2.2.2.2.2.2.2.2.2.2.2.1 x.2.2.2.2.2.2.2.2.2.2.2.2.2.2.2.2.2.2.2.2) fun x=>a61 x.1 x.2.1 x.2.2.1 x.2.2.2.1 x.2.2.2.2.1 x.2.2.2.2.2.1 x.2.2.2.2.2.2.1 x.2.2.2.2.2.2.2.1 x.2.2.2.2.2.2.2.2.1 x.2.2.2.2.2.2.2.2.2.1 x.2.2.2.2.2.2.2.2.2.2.1 x.2.2.2.2.2.2.2.2.2.2.2.1 x.2.2.2.2.2.2.2.2.2.2.2.2.1 x.2.2.2.2.2.2.2.2.2.2.2.2.2.1 x.2.2.2.2.2.2.2.2.2.2.2.2.2.2.1 x.2.2.2.2.2.2.2.2.2.2.2.2.2.2.2.1 x.2.2.2.2.2.2.2.2.2.2.2.2.2.2.2.2.1 x.2.2.2.2.2.2.2.2.2.2.2.2.2.2.2.2.2.1 x.2.2.2.2.2.2.2.2.2.2.2.2.2.2.2.2.2.2.1 x.2.2.2.2.2.2.2.2.2.2.2.2.2.2.2.2.2.2.2.1 x.2.2.2.2.2.2.2.2.2.2.2.2.2.2.2.2.2.2.2.2
@[go_sem] theorem aTg:aFW (no_index a6Z) (no_index (a60 O Z aA aB aC aD aE aF aG aH aI aJ aK aL aM aN aO aP aQ aR aS))=some (a61 O Z aA aB aC aD aE aF aG aH aI aJ aK aL aM aN aO aP aQ aR aS):=qQ (fun⟨a0,a1,a2,a3,a4,a5,a6,a7,a8,a9,a10,a11,a12,a13,a14,a15,a16,a17,a18,a19,a20⟩ ⟨b0,b1,b2,b3,b4,b5,b6,b7,b8,b9,b10,b11,b12,b13,b14,s3,b16,b17,b18,b19,b20⟩ h1 h2=>by cases h1;cases h2;rfl) (O,Z,aA,aB,aC,aD,aE,aF,aG,aH,aI,aJ,aK,aL,aM,aN,aO,aP,aQ,aR,aS)
end
@[go_sem] abbrev KJ:Nat×qC:=(256,⟨[.p rO [11,13],.p sS [3,6]],aFW,[(0,12,.m),(3,4,.r),(3,8,.m)],[1,2,3,4,5,6,7],none⟩)
theorem aFX:qG Tryz.prog [] (qE [zU,yH]):=⟨trivial,pM F3 (pM E9 qS),qI⟩
theorem VO:qG Tryz.prog [EZ,rP,zT,HV,yC,C5] (qE [zU,yH]):=⟨⟨HU,⟨rQ,⟨BE,⟨M6,⟨zS,⟨DQ,trivial⟩⟩⟩⟩⟩⟩,aFX.Γ,qI⟩
theorem a62:qJ Tryz.prog KJ:=by
 refine qR aFX Tryz.func256 (c:=_) rfl (N:=27) (by kernel_rfl) (ts:=[]) rfl (fun _ _=>rfl) ?_;intro⟨O,Z,aA,aB,aC,aD,aE,aF,aG,aH,aI,aJ,aK,aL,aM,aN,aO,aP,aQ,aR,aS⟩ hs hrow;dsimp only[a6Z,a60,a61,qM,pN,pW,qH,qO,Nat.reduceAdd] at hs hrow⊢;obtain⟨rfl,rfl,rfl,rfl,rfl,hz⟩:=hs;obtain⟨rfl,_⟩:=hrow;obtain⟨z0,hC0⟩:=aTF.1 hz
 try rw[r8 hC0]
 clear hz;unfold zV at hC0;refine pP ?_;refine xD VO ?_;obtain⟨y1,hC1,hC0⟩:=pF hC0;refine BB (fun s=>s=(fun x=>⟨[(0,(.val .ref (some (0,0)),none)),(1,(.val .ref (some (3,0)),none))],[(0,.cells rO ((O.1,(O.2.1,())),((Z.1,(Z.2.1,(Z.2.2.1,(Z.2.2.2.1,())))),(x.1,(x.2,((aC.1,(aC.2.1,(aC.2.2.1,(aC.2.2.2.1,())))),((some 6),(aD.1,(aD.2.1,())))))))) [(11,1),(13,2)]),(1,.grow 55 7 (aC.2.2.2.1.length)),(2,.grow 3 1 (aD.1.length)),(3,.cells sS ((aG,(aH,(aI,(aJ,((some (7,(aQ.length))),(aL.1,(aL.2.1,()))))))),(aM,((some 8),()))) [(3,4),(6,5)]),(4,.grow 9 1 (aJ.length)),(5,.grow 149 2 (aL.2.1.length)),(6,.map .str .bool aP),(7,.row 9 .str aQ (aQ.length)),(8,.map .str .bool aS)],9,27,9⟩) y1) ?_ ?_
 ·refine pO hC1 (fun hC1 hc1=> ?_) (fun hC1 hc1=> ?_)
  ·obtain⟨aT,hw_38,hC1⟩:=vY hC1
   try simp only[go_sem] at hw_38
   refine qU VO ?_ (hp:=by exact⟨by first|rfl|trivial,by first|rfl|trivial,by first|rfl|trivial,by first|rfl|trivial,(by first|rfl|trivial)⟩) (h:=by simp only[go_sem,hw_38];rfl)
   cases hC1;exact uE ⟨⟨[0,1],[(0,0),(1,1),(2,2),(3,3),(4,4),(5,5),(6,6),(7,7),(8,8)]⟩,by rfl⟩
  ·refine qD ?_;cases hC1;exact uE ⟨⟨[0,1],[(0,0),(1,1),(2,2),(3,3),(4,4),(5,5),(6,6),(7,7),(8,8)]⟩,by rfl⟩
 ·rintro _ rfl;obtain⟨aU,aV⟩:=y1;dsimp only at hC0⊢;refine pL ?_;refine xD VO ?_;obtain⟨aW,hv1,hw1,hC0⟩:=pZ hC0
  try simp only[go_sem] at hw1
  refine qU VO ?_ (hp:=by exact⟨by first|rfl|trivial,by first|rfl|trivial,by first|rfl|trivial,by first|rfl|trivial,by first|rfl|trivial,(pY hv1)⟩) (h:=by simp only[go_sem,hw1];rfl)
  cases hC0;exact⟨[(0,0),(1,1),(2,2),(3,3),(4,4),(5,5),(6,6),(7,7),(8,8)],by rfl,by rfl,by rfl⟩
attribute [irreducible] zV
def zW (O:((List UInt8)×(Int×Unit))) (Z:rS) (aA:Int) (aB:Int) (aC:qZ) (aD:((List Int)×(Int×Unit))) (aE:Int) (aF:Bool) (aG:(List ((List UInt8)×Bool))):Option (Int×Int×(List UInt8)×Int×Int×Int×Int×Int):=if ((!decide (Z.1=aE))||(!true))=true then rM (uB O Z aA aB aC aD (3:Int) aG) fun aH=>(sF (O.1,(O.2.1,())) (Z.1,(Z.2.1,(Z.2.2.1,(Z.2.2.2.1,())))) aH.1 aH.2 (aC.1,(aC.2.1,(aC.2.2.1,(aC.2.2.2.1,())))) (aD.1,(aD.2.1,())) aG).bind fun aI=>some ((aI.1,aI.2.1,aI.2.2.1,aI.2.2.2.1,aI.2.2.2.2.1,aH.1,aH.2,aI.2.2.2.2.2)) else if false=true then rM (uB O Z aA aB aC aD (9:Int) aG) fun aJ=>(sF (O.1,(O.2.1,())) (Z.1,(Z.2.1,(Z.2.2.1,(Z.2.2.2.1,())))) aJ.1 aJ.2 (aC.1,(aC.2.1,(aC.2.2.1,(aC.2.2.2.1,())))) (aD.1,(aD.2.1,())) aG).bind fun aK=>some ((aK.1,aK.2.1,aK.2.2.1,aK.2.2.2.1,aK.2.2.2.2.1,aJ.1,aJ.2,aK.2.2.2.2.2)) else if aF=true then rM (uB O Z aA aB aC aD (6:Int) aG) fun aL=>(sF (O.1,(O.2.1,())) (Z.1,(Z.2.1,(Z.2.2.1,(Z.2.2.2.1,())))) aL.1 aL.2 (aC.1,(aC.2.1,(aC.2.2.1,(aC.2.2.2.1,())))) (aD.1,(aD.2.1,())) aG).bind fun aM=>some ((aM.1,aM.2.1,aM.2.2.1,aM.2.2.2.1,aM.2.2.2.2.1,aL.1,aL.2,aM.2.2.2.2.2)) else (sF O Z aA aB aC aD aG).bind fun aN=>some ((aN.1,aN.2.1,aN.2.2.1,aN.2.2.2.1,aN.2.2.2.2.1,aA,aB,aN.2.2.2.2.2))
section
variable (O:Int) (Z:Bool) (aA:((List UInt8)×(Int×Unit))) (aB:rS) (aC:Int) (aD:Int) (aE:qZ) (aF:((List Int)×(Int×Unit))) (aG:Nat) (aH:Nat) (aI:(List ((List UInt8)×Bool)))
abbrev a63:List pD:=[(.val .ref (some (0,0)),none),(.val (.int .i64) O,none),(.val .clo (some (278,[])),none),(.val .clo (some (125,[])),none),(.val .bool Z,none)]
abbrev a64:List pC:=[.cells rO (aA,(aB,(aC,(aD,(aE,((some 3),aF)))))) [(11,1),(13,2)],.grow 55 7 aG,.grow 3 1 aH,.map .str .bool aI]
@[go_sem] def a65:pJ:=⟨[aG=(aE.2.2.2.1.length),aH=(aF.1.length),((zW aA aB aC aD aE aF O Z aI)).isSome=true],[(.val .str aB.2.1,none)],[.cells rO ((aA.1,((val (zW aA aB aC aD aE aF O Z aI)).1,())),(((val (zW aA aB aC aD aE aF O Z aI)).2.1,((val (zW aA aB aC aD aE aF O Z aI)).2.2.1,((val (zW aA aB aC aD aE aF O Z aI)).2.2.2.1,((val (zW aA aB aC aD aE aF O Z aI)).2.2.2.2.1,())))),((val (zW aA aB aC aD aE aF O Z aI)).2.2.2.2.2.1,((val (zW aA aB aC aD aE aF O Z aI)).2.2.2.2.2.2.1,((aE.1,(aE.2.1,(aE.2.2.1,(aE.2.2.2.1,())))),((some 3),(aF.1,((val (zW aA aB aC aD aE aF O Z aI)).2.2.2.2.2.2.2,())))))))) [(11,1),(13,2)],.grow 55 7 (aE.2.2.2.1.length),.grow 3 1 (aF.1.length),.map .str .bool aI]⟩
def aFY:List pD→List pC→Option pJ:=qP (V:=(Int×Bool×((List UInt8)×(Int×Unit))×rS×Int×Int×qZ×((List Int)×(Int×Unit))×Nat×Nat×(List ((List UInt8)×Bool)))) (fun x=>a63 x.1 x.2.1) (fun x=>a64 x.2.2.1 x.2.2.2.1 x.2.2.2.2.1 x.2.2.2.2.2.1 x.2.2.2.2.2.2.1 x.2.2.2.2.2.2.2.1 x.2.2.2.2.2.2.2.2.1 x.2.2.2.2.2.2.2.2.2.1 x.2.2.2.2.2.2.2.2.2.2) fun x=>a65 x.1 x.2.1 x.2.2.1 x.2.2.2.1 x.2.2.2.2.1 x.2.2.2.2.2.1 x.2.2.2.2.2.2.1 x.2.2.2.2.2.2.2.1 x.2.2.2.2.2.2.2.2.1 x.2.2.2.2.2.2.2.2.2.1 x.2.2.2.2.2.2.2.2.2.2
@[go_sem] theorem aTh:aFY (no_index (a63 O Z)) (no_index (a64 aA aB aC aD aE aF aG aH aI))=some (a65 O Z aA aB aC aD aE aF aG aH aI):=qQ (fun⟨a0,a1,a2,a3,a4,a5,a6,a7,a8,a9,a10⟩ ⟨b0,b1,b2,b3,b4,b5,b6,b7,b8,b9,b10⟩ h1 h2=>by cases h1;cases h2;rfl) (O,Z,aA,aB,aC,aD,aE,aF,aG,aH,aI)
end
@[go_sem] abbrev aFZ:Nat×qC:=(124,⟨[.p rO [11,13],.v,.v,.v,.v],aFY,[(0,12,.m)],[1,2,3],none⟩)
theorem z6:qG Tryz.prog [uX,rP,zT,yC] (qE [aDW,zU,yH,UX]):=⟨⟨vK,⟨rQ,⟨BE,⟨zS,trivial⟩⟩⟩⟩,pM aMx (pM F3 (pM E9 (pM a1x qS))),qI⟩
theorem aNk:qJ Tryz.prog aFZ:=by
 refine qR z6 Tryz.func124 (c:=_) rfl (N:=46) (by kernel_rfl) (ts:=[(10,none)]) rfl (fun _ _=>rfl) ?_;intro⟨O,Z,aA,aB,aC,aD,aE,aF,aG,aH,aI⟩ hs hrow;dsimp only[a63,a64,a65,qM,pN,pW,qH,qO,Nat.reduceAdd] at hs hrow⊢;obtain⟨rfl,rfl,hz⟩:=hs;obtain⟨z0,hC0⟩:=aTF.1 hz
 try rw[r8 hC0]
 clear hz;unfold zW at hC0;refine pB z6 ?_;refine pB z6 ?_;refine pP (rC ?_);refine pB z6 ?_ (hp:=by exact⟨fun hh=>hh,fun hh=>hh,fun hh=>hh,(fun hh=>sR hh)⟩);refine pO hC0 (fun hC0 hc1=> ?_) (fun hC0 hc1=> ?_)
 ·obtain⟨aJ,hw_27,hC0⟩:=vY hC0
  try simp only[go_sem] at hw_27
  refine qU z6 ?_ (hp:=by exact⟨by first|rfl|trivial,by first|rfl|trivial,by first|rfl|trivial,by first|rfl|trivial,(by first|rfl|trivial)⟩) (h:=by simp only[go_sem,hw_27];rfl)
  refine qY (pL ?_);obtain⟨aK,hv1,hw1,hC0⟩:=pZ hC0
  try simp only[go_sem] at hw1
  refine pB z6 ?_ (hp:=by exact⟨by first|rfl|trivial,by first|rfl|trivial,by first|rfl|trivial,by first|rfl|trivial,by first|rfl|trivial,(pY hv1)⟩) (h:=by simp only[go_sem,hw1];rfl)
  refine pB z6 ?_;refine pK ?_;cases hC0;exact⟨[(0,0),(1,1),(2,2),(3,3)],by rfl,by rfl,by rfl⟩
 ·refine pB z6 ?_;refine pO hC0 (fun hC0 hc2=> ?_) (fun hC0 hc2=> ?_)
  ·obtain⟨aL,hw_29,hC0⟩:=vY hC0
   try simp only[go_sem] at hw_29
   refine qU z6 ?_ (hp:=by exact⟨by first|rfl|trivial,by first|rfl|trivial,by first|rfl|trivial,by first|rfl|trivial,(by first|rfl|trivial)⟩) (h:=by simp only[go_sem,hw_29];rfl)
   refine qY (pL ?_);obtain⟨aM,hv2,hw2,hC0⟩:=pZ hC0
   try simp only[go_sem] at hw2
   refine pB z6 ?_ (hp:=by exact⟨by first|rfl|trivial,by first|rfl|trivial,by first|rfl|trivial,by first|rfl|trivial,by first|rfl|trivial,(pY hv2)⟩) (h:=by simp only[go_sem,hw2];rfl)
   refine pB z6 ?_;refine pK ?_;cases hC0;exact⟨[(0,0),(1,1),(2,2),(3,3)],by rfl,by rfl,by rfl⟩
  ·refine pB z6 ?_;refine pO hC0 (fun hC0 hc3=> ?_) (fun hC0 hc3=> ?_)
   ·obtain⟨aN,hw_31,hC0⟩:=vY hC0
    try simp only[go_sem] at hw_31
    refine qU z6 ?_ (hp:=by exact⟨by first|rfl|trivial,by first|rfl|trivial,by first|rfl|trivial,by first|rfl|trivial,(by first|rfl|trivial)⟩) (h:=by simp only[go_sem,hw_31];rfl)
    refine qY (pL ?_);obtain⟨aO,hv3,hw3,hC0⟩:=pZ hC0
    try simp only[go_sem] at hw3
    refine pB z6 ?_ (hp:=by exact⟨by first|rfl|trivial,by first|rfl|trivial,by first|rfl|trivial,by first|rfl|trivial,by first|rfl|trivial,(pY hv3)⟩) (h:=by simp only[go_sem,hw3];rfl)
    refine pB z6 ?_;refine pK ?_;cases hC0;exact⟨[(0,0),(1,1),(2,2),(3,3)],by rfl,by rfl,by rfl⟩
   ·refine qD (qY (pL ?_));obtain⟨aP,hv4,hw4,hC0⟩:=pZ hC0
    try simp only[go_sem] at hw4
    refine pB z6 ?_ (hp:=by exact⟨by first|rfl|trivial,by first|rfl|trivial,by first|rfl|trivial,by first|rfl|trivial,by first|rfl|trivial,(pY hv4)⟩) (h:=by simp only[go_sem,hw4];rfl)
    refine pB z6 ?_;refine pK ?_;cases hC0;exact⟨[(0,0),(1,1),(2,2),(3,3)],by rfl,by rfl,by rfl⟩
attribute [irreducible] zW
end
noncomputable section
def zX (O:((List UInt8)×(Int×Unit))) (Z:rS) (aA:Int) (aB:Int) (aC:qZ) (aD:((List Int)×(Int×Unit))) (aE:Int) (aF:Bool) (aG:(List ((List UInt8)×Bool))):Option (Int×Int×(List UInt8)×Int×Int×Int×Int×Int):=if (((!decide (Z.1=aE))==false)=true→((GD Z.2.1)).isSome=true) then if ((!decide (Z.1=aE))||(!(val (GD Z.2.1))))=true then rM (uB O Z aA aB aC aD (3:Int) aG) fun aH=>(sF (O.1,(O.2.1,())) (Z.1,(Z.2.1,(Z.2.2.1,(Z.2.2.2.1,())))) aH.1 aH.2 (aC.1,(aC.2.1,(aC.2.2.1,(aC.2.2.2.1,())))) (aD.1,(aD.2.1,())) aG).bind fun aI=>some ((aI.1,aI.2.1,aI.2.2.1,aI.2.2.2.1,aI.2.2.2.2.1,aH.1,aH.2,aI.2.2.2.2.2)) else if false=true then rM (uB O Z aA aB aC aD (9:Int) aG) fun aJ=>(sF (O.1,(O.2.1,())) (Z.1,(Z.2.1,(Z.2.2.1,(Z.2.2.2.1,())))) aJ.1 aJ.2 (aC.1,(aC.2.1,(aC.2.2.1,(aC.2.2.2.1,())))) (aD.1,(aD.2.1,())) aG).bind fun aK=>some ((aK.1,aK.2.1,aK.2.2.1,aK.2.2.2.1,aK.2.2.2.2.1,aJ.1,aJ.2,aK.2.2.2.2.2)) else if aF=true then rM (uB O Z aA aB aC aD (6:Int) aG) fun aL=>(sF (O.1,(O.2.1,())) (Z.1,(Z.2.1,(Z.2.2.1,(Z.2.2.2.1,())))) aL.1 aL.2 (aC.1,(aC.2.1,(aC.2.2.1,(aC.2.2.2.1,())))) (aD.1,(aD.2.1,())) aG).bind fun aM=>some ((aM.1,aM.2.1,aM.2.2.1,aM.2.2.2.1,aM.2.2.2.2.1,aL.1,aL.2,aM.2.2.2.2.2)) else (sF O Z aA aB aC aD aG).bind fun aN=>some ((aN.1,aN.2.1,aN.2.2.1,aN.2.2.2.1,aN.2.2.2.2.1,aA,aB,aN.2.2.2.2.2)) else none
section
variable (O:Int) (Z:Bool) (aA:((List UInt8)×(Int×Unit))) (aB:rS) (aC:Int) (aD:Int) (aE:qZ) (aF:((List Int)×(Int×Unit))) (aG:Nat) (aH:Nat) (aI:(List ((List UInt8)×Bool)))
abbrev a66:List pD:=[(.val .ref (some (0,0)),none),(.val (.int .i64) O,none),(.val .clo (some (106,[])),none),(.val .clo (some (125,[])),none),(.val .bool Z,none)]
abbrev a67:List pC:=[.cells rO (aA,(aB,(aC,(aD,(aE,((some 3),aF)))))) [(11,1),(13,2)],.grow 55 7 aG,.grow 3 1 aH,.map .str .bool aI]
@[go_sem] def a68:pJ:=⟨[aG=(aE.2.2.2.1.length),aH=(aF.1.length),((zX aA aB aC aD aE aF O Z aI)).isSome=true],[(.val .str aB.2.1,none)],[.cells rO ((aA.1,((val (zX aA aB aC aD aE aF O Z aI)).1,())),(((val (zX aA aB aC aD aE aF O Z aI)).2.1,((val (zX aA aB aC aD aE aF O Z aI)).2.2.1,((val (zX aA aB aC aD aE aF O Z aI)).2.2.2.1,((val (zX aA aB aC aD aE aF O Z aI)).2.2.2.2.1,())))),((val (zX aA aB aC aD aE aF O Z aI)).2.2.2.2.2.1,((val (zX aA aB aC aD aE aF O Z aI)).2.2.2.2.2.2.1,((aE.1,(aE.2.1,(aE.2.2.1,(aE.2.2.2.1,())))),((some 3),(aF.1,((val (zX aA aB aC aD aE aF O Z aI)).2.2.2.2.2.2.2,())))))))) [(11,1),(13,2)],.grow 55 7 (aE.2.2.2.1.length),.grow 3 1 (aF.1.length),.map .str .bool aI]⟩
def aF0:List pD→List pC→Option pJ:=qP (V:=(Int×Bool×((List UInt8)×(Int×Unit))×rS×Int×Int×qZ×((List Int)×(Int×Unit))×Nat×Nat×(List ((List UInt8)×Bool)))) (fun x=>a66 x.1 x.2.1) (fun x=>a67 x.2.2.1 x.2.2.2.1 x.2.2.2.2.1 x.2.2.2.2.2.1 x.2.2.2.2.2.2.1 x.2.2.2.2.2.2.2.1 x.2.2.2.2.2.2.2.2.1 x.2.2.2.2.2.2.2.2.2.1 x.2.2.2.2.2.2.2.2.2.2) fun x=>a68 x.1 x.2.1 x.2.2.1 x.2.2.2.1 x.2.2.2.2.1 x.2.2.2.2.2.1 x.2.2.2.2.2.2.1 x.2.2.2.2.2.2.2.1 x.2.2.2.2.2.2.2.2.1 x.2.2.2.2.2.2.2.2.2.1 x.2.2.2.2.2.2.2.2.2.2
@[go_sem] theorem aTi:aF0 (no_index (a66 O Z)) (no_index (a67 aA aB aC aD aE aF aG aH aI))=some (a68 O Z aA aB aC aD aE aF aG aH aI):=qQ (fun⟨a0,a1,a2,a3,a4,a5,a6,a7,a8,a9,a10⟩ ⟨b0,b1,b2,b3,b4,b5,b6,b7,b8,b9,b10⟩ h1 h2=>by cases h1;cases h2;rfl) (O,Z,aA,aB,aC,aD,aE,aF,aG,aH,aI)
end
@[go_sem] abbrev aF1:Nat×qC:=(124,⟨[.p rO [11,13],.v,.v,.v,.v],aF0,[(0,12,.m)],[1,2,3],none⟩)
theorem z7:qG Tryz.prog [uX,rP,zT,yC] (qE [a1j,zU,yH,UX]):=⟨⟨vK,⟨rQ,⟨BE,⟨zS,trivial⟩⟩⟩⟩,pM aCS (pM F3 (pM E9 (pM a1x qS))),qI⟩
theorem aNl:qJ Tryz.prog aF1:=by
 refine qR z7 Tryz.func124 (c:=_) rfl (N:=46) (by kernel_rfl) (ts:=[(10,none)]) rfl (fun _ _=>rfl) ?_;intro⟨O,Z,aA,aB,aC,aD,aE,aF,aG,aH,aI⟩ hs hrow;dsimp only[a66,a67,a68,qM,pN,pW,qH,qO,Nat.reduceAdd] at hs hrow⊢;obtain⟨rfl,rfl,hz⟩:=hs;obtain⟨z0,hC0⟩:=aTF.1 hz
 try rw[r8 hC0]
 clear hz;unfold zX at hC0;refine pB z7 ?_;refine pB z7 ?_;refine pP (rC ?_);obtain⟨hg1,hC0⟩:=pI hC0;refine pB z7 ?_ (hp:=by exact⟨fun hh=>hh,fun hh=>hh,hg1,fun hh=>hh,(fun hh=>sR hh)⟩);refine pO hC0 (fun hC0 hc1=> ?_) (fun hC0 hc1=> ?_)
 ·obtain⟨aJ,hw_27,hC0⟩:=vY hC0
  try simp only[go_sem] at hw_27
  refine qU z7 ?_ (hp:=by exact⟨by first|rfl|trivial,by first|rfl|trivial,by first|rfl|trivial,by first|rfl|trivial,(by first|rfl|trivial)⟩) (h:=by simp only[go_sem,hw_27];rfl)
  refine qY (pL ?_);obtain⟨aK,hv2,hw2,hC0⟩:=pZ hC0
  try simp only[go_sem] at hw2
  refine pB z7 ?_ (hp:=by exact⟨by first|rfl|trivial,by first|rfl|trivial,by first|rfl|trivial,by first|rfl|trivial,by first|rfl|trivial,(pY hv2)⟩) (h:=by simp only[go_sem,hw2];rfl)
  refine pB z7 ?_;refine pK ?_;cases hC0;exact⟨[(0,0),(1,1),(2,2),(3,3)],by rfl,by rfl,by rfl⟩
 ·refine pB z7 ?_;refine pO hC0 (fun hC0 hc2=> ?_) (fun hC0 hc2=> ?_)
  ·obtain⟨aL,hw_29,hC0⟩:=vY hC0
   try simp only[go_sem] at hw_29
   refine qU z7 ?_ (hp:=by exact⟨by first|rfl|trivial,by first|rfl|trivial,by first|rfl|trivial,by first|rfl|trivial,(by first|rfl|trivial)⟩) (h:=by simp only[go_sem,hw_29];rfl)
   refine qY (pL ?_);obtain⟨aM,hv3,hw3,hC0⟩:=pZ hC0
   try simp only[go_sem] at hw3
   refine pB z7 ?_ (hp:=by exact⟨by first|rfl|trivial,by first|rfl|trivial,by first|rfl|trivial,by first|rfl|trivial,by first|rfl|trivial,(pY hv3)⟩) (h:=by simp only[go_sem,hw3];rfl)
   refine pB z7 ?_;refine pK ?_;cases hC0;exact⟨[(0,0),(1,1),(2,2),(3,3)],by rfl,by rfl,by rfl⟩
  ·refine pB z7 ?_;refine pO hC0 (fun hC0 hc3=> ?_) (fun hC0 hc3=> ?_)
   ·obtain⟨aN,hw_31,hC0⟩:=vY hC0
    try simp only[go_sem] at hw_31
    refine qU z7 ?_ (hp:=by exact⟨by first|rfl|trivial,by first|rfl|trivial,by first|rfl|trivial,by first|rfl|trivial,(by first|rfl|trivial)⟩) (h:=by simp only[go_sem,hw_31];rfl)
    refine qY (pL ?_);obtain⟨aO,hv4,hw4,hC0⟩:=pZ hC0
    try simp only[go_sem] at hw4
    refine pB z7 ?_ (hp:=by exact⟨by first|rfl|trivial,by first|rfl|trivial,by first|rfl|trivial,by first|rfl|trivial,by first|rfl|trivial,(pY hv4)⟩) (h:=by simp only[go_sem,hw4];rfl)
    refine pB z7 ?_;refine pK ?_;cases hC0;exact⟨[(0,0),(1,1),(2,2),(3,3)],by rfl,by rfl,by rfl⟩
   ·refine qD (qY (pL ?_));obtain⟨aP,hv5,hw5,hC0⟩:=pZ hC0
    try simp only[go_sem] at hw5
    refine pB z7 ?_ (hp:=by exact⟨by first|rfl|trivial,by first|rfl|trivial,by first|rfl|trivial,by first|rfl|trivial,by first|rfl|trivial,(pY hv5)⟩) (h:=by simp only[go_sem,hw5];rfl)
    refine pB z7 ?_;refine pK ?_;cases hC0;exact⟨[(0,0),(1,1),(2,2),(3,3)],by rfl,by rfl,by rfl⟩
attribute [irreducible] zX
def zY (O:((List UInt8)×(Int×Unit))) (Z:rS) (aA:Int) (aB:Int) (aC:qZ) (aD:((List Int)×(Int×Unit))) (aE:Int) (aF:Bool) (aG:(List ((List UInt8)×Bool))):Option (Int×Int×(List UInt8)×Int×Int×Int×Int×Int):=if (((!decide (Z.1=aE))==false)=true→((I7 Z.2.1)).isSome=true) then if ((!decide (Z.1=aE))||(!(val (I7 Z.2.1))))=true then rM (uB O Z aA aB aC aD (3:Int) aG) fun aH=>(sF (O.1,(O.2.1,())) (Z.1,(Z.2.1,(Z.2.2.1,(Z.2.2.2.1,())))) aH.1 aH.2 (aC.1,(aC.2.1,(aC.2.2.1,(aC.2.2.2.1,())))) (aD.1,(aD.2.1,())) aG).bind fun aI=>some ((aI.1,aI.2.1,aI.2.2.1,aI.2.2.2.1,aI.2.2.2.2.1,aH.1,aH.2,aI.2.2.2.2.2)) else if false=true then rM (uB O Z aA aB aC aD (9:Int) aG) fun aJ=>(sF (O.1,(O.2.1,())) (Z.1,(Z.2.1,(Z.2.2.1,(Z.2.2.2.1,())))) aJ.1 aJ.2 (aC.1,(aC.2.1,(aC.2.2.1,(aC.2.2.2.1,())))) (aD.1,(aD.2.1,())) aG).bind fun aK=>some ((aK.1,aK.2.1,aK.2.2.1,aK.2.2.2.1,aK.2.2.2.2.1,aJ.1,aJ.2,aK.2.2.2.2.2)) else if aF=true then rM (uB O Z aA aB aC aD (6:Int) aG) fun aL=>(sF (O.1,(O.2.1,())) (Z.1,(Z.2.1,(Z.2.2.1,(Z.2.2.2.1,())))) aL.1 aL.2 (aC.1,(aC.2.1,(aC.2.2.1,(aC.2.2.2.1,())))) (aD.1,(aD.2.1,())) aG).bind fun aM=>some ((aM.1,aM.2.1,aM.2.2.1,aM.2.2.2.1,aM.2.2.2.2.1,aL.1,aL.2,aM.2.2.2.2.2)) else (sF O Z aA aB aC aD aG).bind fun aN=>some ((aN.1,aN.2.1,aN.2.2.1,aN.2.2.2.1,aN.2.2.2.2.1,aA,aB,aN.2.2.2.2.2)) else none
section
variable (O:Int) (Z:Bool) (aA:((List UInt8)×(Int×Unit))) (aB:rS) (aC:Int) (aD:Int) (aE:qZ) (aF:((List Int)×(Int×Unit))) (aG:Nat) (aH:Nat) (aI:(List ((List UInt8)×Bool)))
abbrev a69:List pD:=[(.val .ref (some (0,0)),none),(.val (.int .i64) O,none),(.val .clo (some (257,[])),none),(.val .clo (some (125,[])),none),(.val .bool Z,none)]
abbrev a7a:List pC:=[.cells rO (aA,(aB,(aC,(aD,(aE,((some 3),aF)))))) [(11,1),(13,2)],.grow 55 7 aG,.grow 3 1 aH,.map .str .bool aI]
@[go_sem] def a7b:pJ:=⟨[aG=(aE.2.2.2.1.length),aH=(aF.1.length),((zY aA aB aC aD aE aF O Z aI)).isSome=true],[(.val .str aB.2.1,none)],[.cells rO ((aA.1,((val (zY aA aB aC aD aE aF O Z aI)).1,())),(((val (zY aA aB aC aD aE aF O Z aI)).2.1,((val (zY aA aB aC aD aE aF O Z aI)).2.2.1,((val (zY aA aB aC aD aE aF O Z aI)).2.2.2.1,((val (zY aA aB aC aD aE aF O Z aI)).2.2.2.2.1,())))),((val (zY aA aB aC aD aE aF O Z aI)).2.2.2.2.2.1,((val (zY aA aB aC aD aE aF O Z aI)).2.2.2.2.2.2.1,((aE.1,(aE.2.1,(aE.2.2.1,(aE.2.2.2.1,())))),((some 3),(aF.1,((val (zY aA aB aC aD aE aF O Z aI)).2.2.2.2.2.2.2,())))))))) [(11,1),(13,2)],.grow 55 7 (aE.2.2.2.1.length),.grow 3 1 (aF.1.length),.map .str .bool aI]⟩
def aF2:List pD→List pC→Option pJ:=qP (V:=(Int×Bool×((List UInt8)×(Int×Unit))×rS×Int×Int×qZ×((List Int)×(Int×Unit))×Nat×Nat×(List ((List UInt8)×Bool)))) (fun x=>a69 x.1 x.2.1) (fun x=>a7a x.2.2.1 x.2.2.2.1 x.2.2.2.2.1 x.2.2.2.2.2.1 x.2.2.2.2.2.2.1 x.2.2.2.2.2.2.2.1 x.2.2.2.2.2.2.2.2.1 x.2.2.2.2.2.2.2.2.2.1 x.2.2.2.2.2.2.2.2.2.2) fun x=>a7b x.1 x.2.1 x.2.2.1 x.2.2.2.1 x.2.2.2.2.1 x.2.2.2.2.2.1 x.2.2.2.2.2.2.1 x.2.2.2.2.2.2.2.1 x.2.2.2.2.2.2.2.2.1 x.2.2.2.2.2.2.2.2.2.1 x.2.2.2.2.2.2.2.2.2.2
@[go_sem] theorem aTj:aF2 (no_index (a69 O Z)) (no_index (a7a aA aB aC aD aE aF aG aH aI))=some (a7b O Z aA aB aC aD aE aF aG aH aI):=qQ (fun⟨a0,a1,a2,a3,a4,a5,a6,a7,a8,a9,a10⟩ ⟨b0,b1,b2,b3,b4,b5,b6,b7,b8,b9,b10⟩ h1 h2=>by cases h1;cases h2;rfl) (O,Z,aA,aB,aC,aD,aE,aF,aG,aH,aI)
end
@[go_sem] abbrev a7c:Nat×qC:=(124,⟨[.p rO [11,13],.v,.v,.v,.v],aF2,[(0,12,.m)],[1,2,3],none⟩)
theorem z8:qG Tryz.prog [uX,rP,zT,yC] (qE [aEI,zU,yH,UX]):=⟨⟨vK,⟨rQ,⟨BE,⟨zS,trivial⟩⟩⟩⟩,pM aMR (pM F3 (pM E9 (pM a1x qS))),qI⟩
theorem aNm:qJ Tryz.prog a7c:=by
 refine qR z8 Tryz.func124 (c:=_) rfl (N:=46) (by kernel_rfl) (ts:=[(10,none)]) rfl (fun _ _=>rfl) ?_;intro⟨O,Z,aA,aB,aC,aD,aE,aF,aG,aH,aI⟩ hs hrow;dsimp only[a69,a7a,a7b,qM,pN,pW,qH,qO,Nat.reduceAdd] at hs hrow⊢;obtain⟨rfl,rfl,hz⟩:=hs;obtain⟨z0,hC0⟩:=aTF.1 hz
 try rw[r8 hC0]
 clear hz;unfold zY at hC0;refine pB z8 ?_;refine pB z8 ?_;refine pP (rC ?_);obtain⟨hg1,hC0⟩:=pI hC0;refine pB z8 ?_ (hp:=by exact⟨fun hh=>hh,fun hh=>hh,hg1,fun hh=>hh,(fun hh=>sR hh)⟩);refine pO hC0 (fun hC0 hc1=> ?_) (fun hC0 hc1=> ?_)
 ·obtain⟨aJ,hw_27,hC0⟩:=vY hC0
  try simp only[go_sem] at hw_27
  refine qU z8 ?_ (hp:=by exact⟨by first|rfl|trivial,by first|rfl|trivial,by first|rfl|trivial,by first|rfl|trivial,(by first|rfl|trivial)⟩) (h:=by simp only[go_sem,hw_27];rfl)
  refine qY (pL ?_);obtain⟨aK,hv2,hw2,hC0⟩:=pZ hC0
  try simp only[go_sem] at hw2
  refine pB z8 ?_ (hp:=by exact⟨by first|rfl|trivial,by first|rfl|trivial,by first|rfl|trivial,by first|rfl|trivial,by first|rfl|trivial,(pY hv2)⟩) (h:=by simp only[go_sem,hw2];rfl)
  refine pB z8 ?_;refine pK ?_;cases hC0;exact⟨[(0,0),(1,1),(2,2),(3,3)],by rfl,by rfl,by rfl⟩
 ·refine pB z8 ?_;refine pO hC0 (fun hC0 hc2=> ?_) (fun hC0 hc2=> ?_)
  ·obtain⟨aL,hw_29,hC0⟩:=vY hC0
   try simp only[go_sem] at hw_29
   refine qU z8 ?_ (hp:=by exact⟨by first|rfl|trivial,by first|rfl|trivial,by first|rfl|trivial,by first|rfl|trivial,(by first|rfl|trivial)⟩) (h:=by simp only[go_sem,hw_29];rfl)
   refine qY (pL ?_);obtain⟨aM,hv3,hw3,hC0⟩:=pZ hC0
   try simp only[go_sem] at hw3
   refine pB z8 ?_ (hp:=by exact⟨by first|rfl|trivial,by first|rfl|trivial,by first|rfl|trivial,by first|rfl|trivial,by first|rfl|trivial,(pY hv3)⟩) (h:=by simp only[go_sem,hw3];rfl)
   refine pB z8 ?_;refine pK ?_;cases hC0;exact⟨[(0,0),(1,1),(2,2),(3,3)],by rfl,by rfl,by rfl⟩
  ·refine pB z8 ?_;refine pO hC0 (fun hC0 hc3=> ?_) (fun hC0 hc3=> ?_)
   ·obtain⟨aN,hw_31,hC0⟩:=vY hC0
    try simp only[go_sem] at hw_31
    refine qU z8 ?_ (hp:=by exact⟨by first|rfl|trivial,by first|rfl|trivial,by first|rfl|trivial,by first|rfl|trivial,(by first|rfl|trivial)⟩) (h:=by simp only[go_sem,hw_31];rfl)
    refine qY (pL ?_);obtain⟨aO,hv4,hw4,hC0⟩:=pZ hC0
    try simp only[go_sem] at hw4
    refine pB z8 ?_ (hp:=by exact⟨by first|rfl|trivial,by first|rfl|trivial,by first|rfl|trivial,by first|rfl|trivial,by first|rfl|trivial,(pY hv4)⟩) (h:=by simp only[go_sem,hw4];rfl)
    refine pB z8 ?_;refine pK ?_;cases hC0;exact⟨[(0,0),(1,1),(2,2),(3,3)],by rfl,by rfl,by rfl⟩
   ·refine qD (qY (pL ?_));obtain⟨aP,hv5,hw5,hC0⟩:=pZ hC0
    try simp only[go_sem] at hw5
    refine pB z8 ?_ (hp:=by exact⟨by first|rfl|trivial,by first|rfl|trivial,by first|rfl|trivial,by first|rfl|trivial,by first|rfl|trivial,(pY hv5)⟩) (h:=by simp only[go_sem,hw5];rfl)
    refine pB z8 ?_;refine pK ?_;cases hC0;exact⟨[(0,0),(1,1),(2,2),(3,3)],by rfl,by rfl,by rfl⟩
attribute [irreducible] zY
end
noncomputable section
def BK (O:((List UInt8)×(Int×Unit))) (Z:rS) (aA:Int) (aB:Int) (aC:qZ) (aD:((List Int)×(Int×Unit))) (aE:Int) (aF:Bool) (aG:(List ((List UInt8)×Bool))) (aH:(List UInt8)) (aI:(List UInt8)) (aJ:(List UInt8)) (aK:(List (List UInt8))) (aL:(Int×((List pV)×Unit))) (aM:Bool) (aN:(List (List UInt8))) (aO:(List ((List UInt8)×Bool))):Option (Int×Int×(List UInt8)×Int×Int×Int×Int×Int):=if (((!decide (Z.1=aE))==false)=true→((CX Z.2.1)).isSome=true) then if ((!decide (Z.1=aE))||(!(val (CX Z.2.1))))=true then rM (uB O Z aA aB aC aD (3:Int) aG) fun aP=>(sF (O.1,(O.2.1,())) (Z.1,(Z.2.1,(Z.2.2.1,(Z.2.2.2.1,())))) aP.1 aP.2 (aC.1,(aC.2.1,(aC.2.2.1,(aC.2.2.2.1,())))) (aD.1,(aD.2.1,())) aG).bind fun aQ=>some ((aQ.1,aQ.2.1,aQ.2.2.1,aQ.2.2.2.1,aQ.2.2.2.2.1,aP.1,aP.2,aQ.2.2.2.2.2)) else (MW Z.2.1 aH aI aJ aK aL aM aN aO).bind fun aR=>if aR=true then rM (uB O Z aA aB aC aD (9:Int) aG) fun aS=>(sF (O.1,(O.2.1,())) (Z.1,(Z.2.1,(Z.2.2.1,(Z.2.2.2.1,())))) aS.1 aS.2 (aC.1,(aC.2.1,(aC.2.2.1,(aC.2.2.2.1,())))) (aD.1,(aD.2.1,())) aG).bind fun aT=>some ((aT.1,aT.2.1,aT.2.2.1,aT.2.2.2.1,aT.2.2.2.2.1,aS.1,aS.2,aT.2.2.2.2.2)) else if aF=true then rM (uB O Z aA aB aC aD (6:Int) aG) fun aU=>(sF (O.1,(O.2.1,())) (Z.1,(Z.2.1,(Z.2.2.1,(Z.2.2.2.1,())))) aU.1 aU.2 (aC.1,(aC.2.1,(aC.2.2.1,(aC.2.2.2.1,())))) (aD.1,(aD.2.1,())) aG).bind fun aV=>some ((aV.1,aV.2.1,aV.2.2.1,aV.2.2.2.1,aV.2.2.2.2.1,aU.1,aU.2,aV.2.2.2.2.2)) else (sF O Z aA aB aC aD aG).bind fun aW=>some ((aW.1,aW.2.1,aW.2.2.1,aW.2.2.2.1,aW.2.2.2.2.1,aA,aB,aW.2.2.2.2.2)) else none
section
variable (O:Int) (Z:Bool) (aA:((List UInt8)×(Int×Unit))) (aB:rS) (aC:Int) (aD:Int) (aE:qZ) (aF:((List Int)×(Int×Unit))) (aG:Nat) (aH:Nat) (aI:(List ((List UInt8)×Bool))) (aJ:(List UInt8)) (aK:(List UInt8)) (aL:(List UInt8)) (aM:(List (List UInt8))) (aN:Nat) (aO:(Int×((List pV)×Unit))) (aP:Bool) (aQ:Nat) (aR:Nat) (aS:(List (List UInt8))) (aT:Nat) (aU:(List ((List UInt8)×Bool)))
abbrev a7d:List pD:=[(.val .ref (some (0,0)),none),(.val (.int .i64) O,none),(.val .clo (some (162,[])),none),(.val .clo (some (254,[(3,0)])),none),(.val .bool Z,none)]
abbrev a7e:List pC:=[.cells rO (aA,(aB,(aC,(aD,(aE,((some 4),aF)))))) [(11,1),(13,2)],.grow 55 7 aG,.grow 3 1 aH,.cells .ref (some (5,0)) [],.map .str .bool aI,.cells sS ((aJ,(aK,(aL,(aM,((some (8,aN)),aO))))),(aP,((some 9),()))) [(3,6),(6,7)],.grow 9 1 aQ,.grow 149 2 aR,.row 9 .str aS aT,.map .str .bool aU]
@[go_sem] def a7f:pJ:=⟨[aG=(aE.2.2.2.1.length),aH=(aF.1.length),aQ=(aM.length),aR=(aO.2.1.length),aN=aT,((BK aA aB aC aD aE aF O Z aI aJ aK aL aM aO aP aS aU)).isSome=true],[(.val .str aB.2.1,none)],[.cells rO ((aA.1,((val (BK aA aB aC aD aE aF O Z aI aJ aK aL aM aO aP aS aU)).1,())),(((val (BK aA aB aC aD aE aF O Z aI aJ aK aL aM aO aP aS aU)).2.1,((val (BK aA aB aC aD aE aF O Z aI aJ aK aL aM aO aP aS aU)).2.2.1,((val (BK aA aB aC aD aE aF O Z aI aJ aK aL aM aO aP aS aU)).2.2.2.1,((val (BK aA aB aC aD aE aF O Z aI aJ aK aL aM aO aP aS aU)).2.2.2.2.1,())))),((val (BK aA aB aC aD aE aF O Z aI aJ aK aL aM aO aP aS aU)).2.2.2.2.2.1,((val (BK aA aB aC aD aE aF O Z aI aJ aK aL aM aO aP aS aU)).2.2.2.2.2.2.1,((aE.1,(aE.2.1,(aE.2.2.1,(aE.2.2.2.1,())))),((some 4),(aF.1,((val (BK aA aB aC aD aE aF O Z aI aJ aK aL aM aO aP aS aU)).2.2.2.2.2.2.2,())))))))) [(11,1),(13,2)],.grow 55 7 (aE.2.2.2.1.length),.grow 3 1 (aF.1.length),.cells .ref (some (5,0)) [],.map .str .bool aI,.cells sS ((aJ,(aK,(aL,(aM,((some (8,(aS.length))),(aO.1,(aO.2.1,()))))))),(aP,((some 9),()))) [(3,6),(6,7)],.grow 9 1 (aM.length),.grow 149 2 (aO.2.1.length),.row 9 .str aS (aS.length),.map .str .bool aU]⟩
def aF3:List pD→List pC→Option pJ:=qP (V:=(Int×Bool×((List UInt8)×(Int×Unit))×rS×Int×Int×qZ×((List Int)×(Int×Unit))×Nat×Nat×(List ((List UInt8)×Bool))×(List UInt8)×(List UInt8)×(List UInt8)×(List (List UInt8))×Nat×(Int×((List pV)×Unit))×Bool×Nat×Nat×(List (List UInt8))×Nat×(List ((List UInt8)×Bool)))) (fun x=>a7d x.1 x.2.1) (fun x=>a7e x.2.2.1 x.2.2.2.1 x.2.2.2.2.1 x.2.2.2.2.2.1 x.2.2.2.2.2.2.1 x.2.2.2.2.2.2.2.1 x.2.2.2.2.2.2.2.2.1 x.2.2.2.2.2.2.2.2.2.1 x.2.2.2.2.2.2.2.2.2.2.1 x.2.2.2.2.2.2.2.2.2.2.2.1 x.2.2.2.2.2.2.2.2.2.2.2.2.1 x.2.2.2.2.2.2.2.2.2.2.2.2.2.1 x.2.2.2.2.2.2.2.2.2.2.2.2.2.2.1 x.2.2.2.2.2.2.2.2.2.2.2.2.2.2.2.1 x.2.2.2.2.2.2.2.2.2.2.2.2.2.2.2.2.1 x.2.2.2.2.2.2.2.2.2.2.2.2.2.2.2.2.2.1 x.2.2.2.2.2.2.2.2.2.2.2.2.2.2.2.2.2.2.1 x.2.2.2.2.2.2.2.2.2.2.2.2.2.2.2.2.2.2.2.1 x.2.2.2.2.2.2.2.2.2.2.2.2.2.2.2.2.2.2.2.2.1 x.2.2.2.2.2.2.2.2.2.2.2.2.2.2.2.2.2.2.2.2.2.1 x.2.2.2.2.2.2.2.2.2.2.2.2.2.2.2.2.2.2.2.2.2.2) fun x=>a7f x.1 x.2.1 x.2.2.1 x.2.2.2.1 x.2.2.2.2.1 x.2.2.2.2.2.1 x.2.2.2.2.2.2.1 x.2.2.2.2.2.2.2.1 x.2.2.2.2.2.2.2.2.1 x.2.2.2.2.2.2.2.2.2.1 x.2.2.2.2.2.2.2.2.2.2.1 x.2.2.2.2.2.2.2.2.2.2.2.1 x.2.2.2.2.2.2.2.2.2.2.2.2.1 x.2.2.2.2.2.2.2.2.2.2.2.2.2.1 x.2.2.2.2.2.2.2.2.2.2.2.2.2.2.1 x.2.2.2.2.2.2.2.2.2.2.2.2.2.2.2.1 x.2.2.2.2.2.2.2.2.2.2.2.2.2.2.2.2.1 x.2.2.2.2.2.2.2.2.2.2.2.2.2.2.2.2.2.1 x.2.2.2.2.2.2.2.2.2.2.2.2.2.2.2.2.2.2.1 x.2.2.2.2.2.2.2.2.2.2.2.2.2.2.2.2.2.2.2.1 x.2.2.2.2.2.2.2.2.2.2.2.2.2.2.2.2.2.2.2.2.1 x.2.2.2.2.2.2.2.2.2.2.2.2.2.2.2.2.2.2.2.2.2.1 x.2.2.2.2.2.2.2.2.2.2.2.2.2.2.2.2.2.2.2.2.2.2
@[go_sem] theorem aTk:aF3 (no_index (a7d O Z)) (no_index (a7e aA aB aC aD aE aF aG aH aI aJ aK aL aM aN aO aP aQ aR aS aT aU))=some (a7f O Z aA aB aC aD aE aF aG aH aI aJ aK aL aM aN aO aP aQ aR aS aT aU):=qQ (fun⟨a0,a1,a2,a3,a4,a5,a6,a7,a8,a9,a10,a11,a12,a13,a14,a15,a16,a17,a18,a19,a20,a21,a22⟩ ⟨b0,b1,b2,b3,b4,b5,b6,b7,b8,b9,b10,b11,b12,b13,b14,s3,b16,b17,b18,b19,b20,b21,b22⟩ h1 h2=>by cases h1;cases h2;rfl) (O,Z,aA,aB,aC,aD,aE,aF,aG,aH,aI,aJ,aK,aL,aM,aN,aO,aP,aQ,aR,aS,aT,aU)
end
@[go_sem] abbrev a7g:Nat×qC:=(124,⟨[.p rO [11,13],.v,.v,.f [(.ref,[])],.v],aF3,[(0,12,.m),(3,0,.p sS [3,6]),(5,4,.r),(5,8,.m)],[1,2,3,4,5,6,7,8,9],none⟩)
theorem aF4:qG Tryz.prog [] (qE [JZ,zU,yH,a5v]):=⟨trivial,pM V4 (pM F3 (pM E9 (pM aM2 qS))),qI⟩
theorem zZ:qG Tryz.prog [uX,rP,zT,yC] (qE [JZ,zU,yH,a5v]):=⟨⟨vK,⟨rQ,⟨BE,⟨zS,trivial⟩⟩⟩⟩,aF4.Γ,qI⟩
theorem aNn:qJ Tryz.prog a7g:=by
 refine qR aF4 Tryz.func124 (c:=_) rfl (N:=46) (by kernel_rfl) (ts:=[(10,none)]) rfl (fun _ _=>rfl) ?_;intro⟨O,Z,aA,aB,aC,aD,aE,aF,aG,aH,aI,aJ,aK,aL,aM,aN,aO,aP,aQ,aR,aS,aT,aU⟩ hs hrow;dsimp only[a7d,a7e,a7f,qM,pN,pW,qH,qO,Nat.reduceAdd] at hs hrow⊢;obtain⟨rfl,rfl,rfl,rfl,rfl,hz⟩:=hs;obtain⟨rfl,_⟩:=hrow;obtain⟨z0,hC0⟩:=aTF.1 hz
 try rw[r8 hC0]
 clear hz;unfold BK at hC0;refine pB zZ ?_;refine pB zZ ?_;refine pP (rC ?_);obtain⟨hg1,hC0⟩:=pI hC0;refine pB zZ ?_ (hp:=by exact⟨fun hh=>hh,fun hh=>hh,hg1,fun hh=>hh,(fun hh=>sR hh)⟩);refine pO hC0 (fun hC0 hc1=> ?_) (fun hC0 hc1=> ?_)
 ·obtain⟨aV,hw_40,hC0⟩:=vY hC0
  try simp only[go_sem] at hw_40
  refine qU zZ ?_ (hp:=by exact⟨by first|rfl|trivial,by first|rfl|trivial,by first|rfl|trivial,by first|rfl|trivial,(by first|rfl|trivial)⟩) (h:=by simp only[go_sem,hw_40];rfl)
  refine qY (pL ?_);obtain⟨aW,hv2,hw2,hC0⟩:=pZ hC0
  try simp only[go_sem] at hw2
  refine pB zZ ?_ (hp:=by exact⟨by first|rfl|trivial,by first|rfl|trivial,by first|rfl|trivial,by first|rfl|trivial,by first|rfl|trivial,(pY hv2)⟩) (h:=by simp only[go_sem,hw2];rfl)
  refine pB zZ ?_;refine pK ?_;cases hC0;exact⟨[(0,0),(1,1),(2,2),(3,3),(4,4),(5,5),(6,6),(7,7),(8,8),(9,9)],by rfl,by rfl,by rfl⟩
 ·obtain⟨aX,hv3,hw3,hC0⟩:=pZ hC0
  try simp only[go_sem] at hw3
  refine pB zZ ?_ (hp:=by exact⟨by first|rfl|trivial,by first|rfl|trivial,by first|rfl|trivial,by first|rfl|trivial,by first|rfl|trivial,by first|rfl|trivial,by first|rfl|trivial,by first|rfl|trivial,by first|rfl|trivial,(pY hv3)⟩) (h:=by simp only[go_sem,hw3];rfl)
  refine pO hC0 (fun hC0 hc2=> ?_) (fun hC0 hc2=> ?_)
  ·obtain⟨aY,hw_43,hC0⟩:=vY hC0
   try simp only[go_sem] at hw_43
   refine qU zZ ?_ (hp:=by exact⟨by first|rfl|trivial,by first|rfl|trivial,by first|rfl|trivial,by first|rfl|trivial,(by first|rfl|trivial)⟩) (h:=by simp only[go_sem,hw_43];rfl)
   refine qY (pL ?_);obtain⟨aZ,hv4,hw4,hC0⟩:=pZ hC0
   try simp only[go_sem] at hw4
   refine pB zZ ?_ (hp:=by exact⟨by first|rfl|trivial,by first|rfl|trivial,by first|rfl|trivial,by first|rfl|trivial,by first|rfl|trivial,(pY hv4)⟩) (h:=by simp only[go_sem,hw4];rfl)
   refine pB zZ ?_;refine pK ?_;cases hC0;exact⟨[(0,0),(1,1),(2,2),(3,3),(4,4),(5,5),(6,6),(7,7),(8,8),(9,9)],by rfl,by rfl,by rfl⟩
  ·refine pB zZ ?_;refine pO hC0 (fun hC0 hc3=> ?_) (fun hC0 hc3=> ?_)
   ·obtain⟨bA,hw_45,hC0⟩:=vY hC0
    try simp only[go_sem] at hw_45
    refine qU zZ ?_ (hp:=by exact⟨by first|rfl|trivial,by first|rfl|trivial,by first|rfl|trivial,by first|rfl|trivial,(by first|rfl|trivial)⟩) (h:=by simp only[go_sem,hw_45];rfl)
    refine qY (pL ?_);obtain⟨bB,hv5,hw5,hC0⟩:=pZ hC0
    try simp only[go_sem] at hw5
    refine pB zZ ?_ (hp:=by exact⟨by first|rfl|trivial,by first|rfl|trivial,by first|rfl|trivial,by first|rfl|trivial,by first|rfl|trivial,(pY hv5)⟩) (h:=by simp only[go_sem,hw5];rfl)
    refine pB zZ ?_;refine pK ?_;cases hC0;exact⟨[(0,0),(1,1),(2,2),(3,3),(4,4),(5,5),(6,6),(7,7),(8,8),(9,9)],by rfl,by rfl,by rfl⟩
   ·refine qD (qY (pL ?_));obtain⟨bC,hv6,hw6,hC0⟩:=pZ hC0
    try simp only[go_sem] at hw6
    refine pB zZ ?_ (hp:=by exact⟨by first|rfl|trivial,by first|rfl|trivial,by first|rfl|trivial,by first|rfl|trivial,by first|rfl|trivial,(pY hv6)⟩) (h:=by simp only[go_sem,hw6];rfl)
    refine pB zZ ?_;refine pK ?_;cases hC0;exact⟨[(0,0),(1,1),(2,2),(3,3),(4,4),(5,5),(6,6),(7,7),(8,8),(9,9)],by rfl,by rfl,by rfl⟩
attribute [irreducible] BK
def GX (O:G7):Option (Int×Int×Int×(List UInt8)×(List (List UInt8))×(List pV)×(List Int)):=(w7 O (2:Int) ([99,97,116,97,108,111,103]:List UInt8)).bind fun Z=>(w7 (O.1,(Z.1,(Z.2.1,(Z.2.2.1,((O.2.2.2.2.1.1,(O.2.2.2.2.1.2.1,(O.2.2.2.2.1.2.2.1,(O.2.2.2.2.1.2.2.2.1,())))),(O.2.2.2.2.2.1,())))))) (1:Int) ([]:List UInt8)).bind fun aA=>if (((decide (aA.2.2.1=(0:Int)))==true)=true→((DW aA.2.2.2.2.1)).isSome=true) then rH (σ:=(Int×Int)) (if ((decide (aA.2.2.1=(0:Int)))&&(!(val (DW aA.2.2.2.2.1))))=true then rM (xX (O.1,(aA.1,(aA.2.1,(aA.2.2.1,((O.2.2.2.2.1.1,(O.2.2.2.2.1.2.1,(O.2.2.2.2.1.2.2.1,(O.2.2.2.2.1.2.2.2.1,())))),(O.2.2.2.2.2.1,())))))) (aA.2.2.2.1,(aA.2.2.2.2.1,(aA.2.2.2.2.2.1,(aA.2.2.2.2.2.2,())))) (3:Int)) fun aB=>some ((aB.1,aB.2)) else some ((aA.2.1,aA.2.2.1)) ) fun(aC,aD)=>(xE (O.1,(aA.1,(aC,(aD,((O.2.2.2.2.1.1,(O.2.2.2.2.1.2.1,(O.2.2.2.2.1.2.2.1,(O.2.2.2.2.1.2.2.2.1,())))),(O.2.2.2.2.2.1,())))))) (([]:List UInt8),(([]:List UInt8),(([]:List UInt8),(([]:List (List UInt8)),(([]:List (List UInt8)),((0:Int),(([]:List pV),()))))))) true).bind fun aE=>some ((aE.1,aE.2.1,aE.2.2.1,aA.2.2.2.2.1,aE.2.2.2.2.2.2.1,aE.2.2.2.2.2.2.2.2.2,aE.2.2.2.1)) else none
attribute [irreducible] GX
end
noncomputable section
def BL (O:((List UInt8)×(Int×Unit))) (Z:rS) (aA:Int) (aB:Int) (aC:qZ) (aD:((List Int)×(Int×Unit))) (aE:Int) (aF:Bool) (aG:(List ((List UInt8)×Bool))) (aH:(List UInt8)) (aI:(List UInt8)) (aJ:(List UInt8)) (aK:(List (List UInt8))) (aL:(Int×((List pV)×Unit))) (aM:Bool) (aN:(List (List UInt8))) (aO:(List ((List UInt8)×Bool))):Option (Int×Int×(List UInt8)×Int×Int×Int×Int×Int):=if (((!decide (Z.1=aE))==false)=true→((CX Z.2.1)).isSome=true) then if ((!decide (Z.1=aE))||(!(val (CX Z.2.1))))=true then rM (uB O Z aA aB aC aD (3:Int) aG) fun aP=>(sF (O.1,(O.2.1,())) (Z.1,(Z.2.1,(Z.2.2.1,(Z.2.2.2.1,())))) aP.1 aP.2 (aC.1,(aC.2.1,(aC.2.2.1,(aC.2.2.2.1,())))) (aD.1,(aD.2.1,())) aG).bind fun aQ=>some ((aQ.1,aQ.2.1,aQ.2.2.1,aQ.2.2.2.1,aQ.2.2.2.2.1,aP.1,aP.2,aQ.2.2.2.2.2)) else (MV Z.2.1 aH aI aJ aK aL aM aN aO).bind fun aR=>if aR=true then rM (uB O Z aA aB aC aD (9:Int) aG) fun aS=>(sF (O.1,(O.2.1,())) (Z.1,(Z.2.1,(Z.2.2.1,(Z.2.2.2.1,())))) aS.1 aS.2 (aC.1,(aC.2.1,(aC.2.2.1,(aC.2.2.2.1,())))) (aD.1,(aD.2.1,())) aG).bind fun aT=>some ((aT.1,aT.2.1,aT.2.2.1,aT.2.2.2.1,aT.2.2.2.2.1,aS.1,aS.2,aT.2.2.2.2.2)) else if aF=true then rM (uB O Z aA aB aC aD (6:Int) aG) fun aU=>(sF (O.1,(O.2.1,())) (Z.1,(Z.2.1,(Z.2.2.1,(Z.2.2.2.1,())))) aU.1 aU.2 (aC.1,(aC.2.1,(aC.2.2.1,(aC.2.2.2.1,())))) (aD.1,(aD.2.1,())) aG).bind fun aV=>some ((aV.1,aV.2.1,aV.2.2.1,aV.2.2.2.1,aV.2.2.2.2.1,aU.1,aU.2,aV.2.2.2.2.2)) else (sF O Z aA aB aC aD aG).bind fun aW=>some ((aW.1,aW.2.1,aW.2.2.1,aW.2.2.2.1,aW.2.2.2.2.1,aA,aB,aW.2.2.2.2.2)) else none
section
variable (O:Int) (Z:Bool) (aA:((List UInt8)×(Int×Unit))) (aB:rS) (aC:Int) (aD:Int) (aE:qZ) (aF:((List Int)×(Int×Unit))) (aG:Nat) (aH:Nat) (aI:(List ((List UInt8)×Bool))) (aJ:(List UInt8)) (aK:(List UInt8)) (aL:(List UInt8)) (aM:(List (List UInt8))) (aN:Nat) (aO:(Int×((List pV)×Unit))) (aP:Bool) (aQ:Nat) (aR:Nat) (aS:(List (List UInt8))) (aT:Nat) (aU:(List ((List UInt8)×Bool)))
abbrev a7h:List pD:=[(.val .ref (some (0,0)),none),(.val (.int .i64) O,none),(.val .clo (some (162,[])),none),(.val .clo (some (258,[(3,0)])),none),(.val .bool Z,none)]
abbrev a7i:List pC:=[.cells rO (aA,(aB,(aC,(aD,(aE,((some 4),aF)))))) [(11,1),(13,2)],.grow 55 7 aG,.grow 3 1 aH,.cells .ref (some (5,0)) [],.map .str .bool aI,.cells sS ((aJ,(aK,(aL,(aM,((some (8,aN)),aO))))),(aP,((some 9),()))) [(3,6),(6,7)],.grow 9 1 aQ,.grow 149 2 aR,.row 9 .str aS aT,.map .str .bool aU]
@[go_sem] def a7j:pJ:=⟨[aG=(aE.2.2.2.1.length),aH=(aF.1.length),aQ=(aM.length),aR=(aO.2.1.length),aN=aT,((BL aA aB aC aD aE aF O Z aI aJ aK aL aM aO aP aS aU)).isSome=true],[(.val .str aB.2.1,none)],[.cells rO ((aA.1,((val (BL aA aB aC aD aE aF O Z aI aJ aK aL aM aO aP aS aU)).1,())),(((val (BL aA aB aC aD aE aF O Z aI aJ aK aL aM aO aP aS aU)).2.1,((val (BL aA aB aC aD aE aF O Z aI aJ aK aL aM aO aP aS aU)).2.2.1,((val (BL aA aB aC aD aE aF O Z aI aJ aK aL aM aO aP aS aU)).2.2.2.1,((val (BL aA aB aC aD aE aF O Z aI aJ aK aL aM aO aP aS aU)).2.2.2.2.1,())))),((val (BL aA aB aC aD aE aF O Z aI aJ aK aL aM aO aP aS aU)).2.2.2.2.2.1,((val (BL aA aB aC aD aE aF O Z aI aJ aK aL aM aO aP aS aU)).2.2.2.2.2.2.1,((aE.1,(aE.2.1,(aE.2.2.1,(aE.2.2.2.1,())))),((some 4),(aF.1,((val (BL aA aB aC aD aE aF O Z aI aJ aK aL aM aO aP aS aU)).2.2.2.2.2.2.2,())))))))) [(11,1),(13,2)],.grow 55 7 (aE.2.2.2.1.length),.grow 3 1 (aF.1.length),.cells .ref (some (5,0)) [],.map .str .bool aI,.cells sS ((aJ,(aK,(aL,(aM,((some (8,(aS.length))),(aO.1,(aO.2.1,()))))))),(aP,((some 9),()))) [(3,6),(6,7)],.grow 9 1 (aM.length),.grow 149 2 (aO.2.1.length),.row 9 .str aS (aS.length),.map .str .bool aU]⟩
def aF5:List pD→List pC→Option pJ:=qP (V:=(Int×Bool×((List UInt8)×(Int×Unit))×rS×Int×Int×qZ×((List Int)×(Int×Unit))×Nat×Nat×(List ((List UInt8)×Bool))×(List UInt8)×(List UInt8)×(List UInt8)×(List (List UInt8))×Nat×(Int×((List pV)×Unit))×Bool×Nat×Nat×(List (List UInt8))×Nat×(List ((List UInt8)×Bool)))) (fun x=>a7h x.1 x.2.1) (fun x=>a7i x.2.2.1 x.2.2.2.1 x.2.2.2.2.1 x.2.2.2.2.2.1 x.2.2.2.2.2.2.1 x.2.2.2.2.2.2.2.1 x.2.2.2.2.2.2.2.2.1 x.2.2.2.2.2.2.2.2.2.1 x.2.2.2.2.2.2.2.2.2.2.1 x.2.2.2.2.2.2.2.2.2.2.2.1 x.2.2.2.2.2.2.2.2.2.2.2.2.1 x.2.2.2.2.2.2.2.2.2.2.2.2.2.1 x.2.2.2.2.2.2.2.2.2.2.2.2.2.2.1 x.2.2.2.2.2.2.2.2.2.2.2.2.2.2.2.1 x.2.2.2.2.2.2.2.2.2.2.2.2.2.2.2.2.1 x.2.2.2.2.2.2.2.2.2.2.2.2.2.2.2.2.2.1 x.2.2.2.2.2.2.2.2.2.2.2.2.2.2.2.2.2.2.1 x.2.2.2.2.2.2.2.2.2.2.2.2.2.2.2.2.2.2.2.1 x.2.2.2.2.2.2.2.2.2.2.2.2.2.2.2.2.2.2.2.2.1 x.2.2.2.2.2.2.2.2.2.2.2.2.2.2.2.2.2.2.2.2.2.1 x.2.2.2.2.2.2.2.2.2.2.2.2.2.2.2.2.2.2.2.2.2.2) fun x=>a7j x.1 x.2.1 x.2.2.1 x.2.2.2.1 x.2.2.2.2.1 x.2.2.2.2.2.1 x.2.2.2.2.2.2.1 x.2.2.2.2.2.2.2.1 x.2.2.2.2.2.2.2.2.1 x.2.2.2.2.2.2.2.2.2.1 x.2.2.2.2.2.2.2.2.2.2.1 x.2.2.2.2.2.2.2.2.2.2.2.1 x.2.2.2.2.2.2.2.2.2.2.2.2.1 x.2.2.2.2.2.2.2.2.2.2.2.2.2.1 x.2.2.2.2.2.2.2.2.2.2.2.2.2.2.1 x.2.2.2.2.2.2.2.2.2.2.2.2.2.2.2.1 x.2.2.2.2.2.2.2.2.2.2.2.2.2.2.2.2.1 x.2.2.2.2.2.2.2.2.2.2.2.2.2.2.2.2.2.1 x.2.2.2.2.2.2.2.2.2.2.2.2.2.2.2.2.2.2.1 x.2.2.2.2.2.2.2.2.2.2.2.2.2.2.2.2.2.2.2.1 x.2.2.2.2.2.2.2.2.2.2.2.2.2.2.2.2.2.2.2.2.1 x.2.2.2.2.2.2.2.2.2.2.2.2.2.2.2.2.2.2.2.2.2.1 x.2.2.2.2.2.2.2.2.2.2.2.2.2.2.2.2.2.2.2.2.2.2
@[go_sem] theorem aTl:aF5 (no_index (a7h O Z)) (no_index (a7i aA aB aC aD aE aF aG aH aI aJ aK aL aM aN aO aP aQ aR aS aT aU))=some (a7j O Z aA aB aC aD aE aF aG aH aI aJ aK aL aM aN aO aP aQ aR aS aT aU):=qQ (fun⟨a0,a1,a2,a3,a4,a5,a6,a7,a8,a9,a10,a11,a12,a13,a14,a15,a16,a17,a18,a19,a20,a21,a22⟩ ⟨b0,b1,b2,b3,b4,b5,b6,b7,b8,b9,b10,b11,b12,b13,b14,s3,b16,b17,b18,b19,b20,b21,b22⟩ h1 h2=>by cases h1;cases h2;rfl) (O,Z,aA,aB,aC,aD,aE,aF,aG,aH,aI,aJ,aK,aL,aM,aN,aO,aP,aQ,aR,aS,aT,aU)
end
@[go_sem] abbrev a7k:Nat×qC:=(124,⟨[.p rO [11,13],.v,.v,.f [(.ref,[])],.v],aF5,[(0,12,.m),(3,0,.p sS [3,6]),(5,4,.r),(5,8,.m)],[1,2,3,4,5,6,7,8,9],none⟩)
theorem aF6:qG Tryz.prog [] (qE [JZ,zU,yH,a4N]):=⟨trivial,pM V4 (pM F3 (pM E9 (pM aMS qS))),qI⟩
theorem A0:qG Tryz.prog [uX,rP,zT,yC] (qE [JZ,zU,yH,a4N]):=⟨⟨vK,⟨rQ,⟨BE,⟨zS,trivial⟩⟩⟩⟩,aF6.Γ,qI⟩
theorem aNo:qJ Tryz.prog a7k:=by
 refine qR aF6 Tryz.func124 (c:=_) rfl (N:=46) (by kernel_rfl) (ts:=[(10,none)]) rfl (fun _ _=>rfl) ?_;intro⟨O,Z,aA,aB,aC,aD,aE,aF,aG,aH,aI,aJ,aK,aL,aM,aN,aO,aP,aQ,aR,aS,aT,aU⟩ hs hrow;dsimp only[a7h,a7i,a7j,qM,pN,pW,qH,qO,Nat.reduceAdd] at hs hrow⊢;obtain⟨rfl,rfl,rfl,rfl,rfl,hz⟩:=hs;obtain⟨rfl,_⟩:=hrow;obtain⟨z0,hC0⟩:=aTF.1 hz
 try rw[r8 hC0]
 clear hz;unfold BL at hC0;refine pB A0 ?_;refine pB A0 ?_;refine pP (rC ?_);obtain⟨hg1,hC0⟩:=pI hC0;refine pB A0 ?_ (hp:=by exact⟨fun hh=>hh,fun hh=>hh,hg1,fun hh=>hh,(fun hh=>sR hh)⟩);refine pO hC0 (fun hC0 hc1=> ?_) (fun hC0 hc1=> ?_)
 ·obtain⟨aV,hw_40,hC0⟩:=vY hC0
  try simp only[go_sem] at hw_40
  refine qU A0 ?_ (hp:=by exact⟨by first|rfl|trivial,by first|rfl|trivial,by first|rfl|trivial,by first|rfl|trivial,(by first|rfl|trivial)⟩) (h:=by simp only[go_sem,hw_40];rfl)
  refine qY (pL ?_);obtain⟨aW,hv2,hw2,hC0⟩:=pZ hC0
  try simp only[go_sem] at hw2
  refine pB A0 ?_ (hp:=by exact⟨by first|rfl|trivial,by first|rfl|trivial,by first|rfl|trivial,by first|rfl|trivial,by first|rfl|trivial,(pY hv2)⟩) (h:=by simp only[go_sem,hw2];rfl)
  refine pB A0 ?_;refine pK ?_;cases hC0;exact⟨[(0,0),(1,1),(2,2),(3,3),(4,4),(5,5),(6,6),(7,7),(8,8),(9,9)],by rfl,by rfl,by rfl⟩
 ·obtain⟨aX,hv3,hw3,hC0⟩:=pZ hC0
  try simp only[go_sem] at hw3
  refine pB A0 ?_ (hp:=by exact⟨by first|rfl|trivial,by first|rfl|trivial,by first|rfl|trivial,by first|rfl|trivial,by first|rfl|trivial,by first|rfl|trivial,by first|rfl|trivial,by first|rfl|trivial,by first|rfl|trivial,(pY hv3)⟩) (h:=by simp only[go_sem,hw3];rfl)
  refine pO hC0 (fun hC0 hc2=> ?_) (fun hC0 hc2=> ?_)
  ·obtain⟨aY,hw_43,hC0⟩:=vY hC0
   try simp only[go_sem] at hw_43
   refine qU A0 ?_ (hp:=by exact⟨by first|rfl|trivial,by first|rfl|trivial,by first|rfl|trivial,by first|rfl|trivial,(by first|rfl|trivial)⟩) (h:=by simp only[go_sem,hw_43];rfl)
   refine qY (pL ?_);obtain⟨aZ,hv4,hw4,hC0⟩:=pZ hC0
   try simp only[go_sem] at hw4
   refine pB A0 ?_ (hp:=by exact⟨by first|rfl|trivial,by first|rfl|trivial,by first|rfl|trivial,by first|rfl|trivial,by first|rfl|trivial,(pY hv4)⟩) (h:=by simp only[go_sem,hw4];rfl)
   refine pB A0 ?_;refine pK ?_;cases hC0;exact⟨[(0,0),(1,1),(2,2),(3,3),(4,4),(5,5),(6,6),(7,7),(8,8),(9,9)],by rfl,by rfl,by rfl⟩
  ·refine pB A0 ?_;refine pO hC0 (fun hC0 hc3=> ?_) (fun hC0 hc3=> ?_)
   ·obtain⟨bA,hw_45,hC0⟩:=vY hC0
    try simp only[go_sem] at hw_45
    refine qU A0 ?_ (hp:=by exact⟨by first|rfl|trivial,by first|rfl|trivial,by first|rfl|trivial,by first|rfl|trivial,(by first|rfl|trivial)⟩) (h:=by simp only[go_sem,hw_45];rfl)
    refine qY (pL ?_);obtain⟨bB,hv5,hw5,hC0⟩:=pZ hC0
    try simp only[go_sem] at hw5
    refine pB A0 ?_ (hp:=by exact⟨by first|rfl|trivial,by first|rfl|trivial,by first|rfl|trivial,by first|rfl|trivial,by first|rfl|trivial,(pY hv5)⟩) (h:=by simp only[go_sem,hw5];rfl)
    refine pB A0 ?_;refine pK ?_;cases hC0;exact⟨[(0,0),(1,1),(2,2),(3,3),(4,4),(5,5),(6,6),(7,7),(8,8),(9,9)],by rfl,by rfl,by rfl⟩
   ·refine qD (qY (pL ?_));obtain⟨bC,hv6,hw6,hC0⟩:=pZ hC0
    try simp only[go_sem] at hw6
    refine pB A0 ?_ (hp:=by exact⟨by first|rfl|trivial,by first|rfl|trivial,by first|rfl|trivial,by first|rfl|trivial,by first|rfl|trivial,(pY hv6)⟩) (h:=by simp only[go_sem,hw6];rfl)
    refine pB A0 ?_;refine pK ?_;cases hC0;exact⟨[(0,0),(1,1),(2,2),(3,3),(4,4),(5,5),(6,6),(7,7),(8,8),(9,9)],by rfl,by rfl,by rfl⟩
attribute [irreducible] BL
def xY (O:((List UInt8)×(Int×Unit))) (Z:rS) (aA:Int) (aB:Int) (aC:qZ) (aD:((List Int)×(Int×Unit))) (aE:Int) (aF:(List UInt8)) (aG:(List ((List UInt8)×Bool))):Option (Int×Int×(List UInt8)×Int×Int×Int×Int×Int):=if (!(((decide (aB=(0:Int)))&&(decide (Z.1=aE)))&&(decide (Z.2.1=aF))))=true then rM (uB O Z aA aB aC aD (3:Int) aG) fun aH=>(sF (O.1,(O.2.1,())) (Z.1,(Z.2.1,(Z.2.2.1,(Z.2.2.2.1,())))) aH.1 aH.2 (aC.1,(aC.2.1,(aC.2.2.1,(aC.2.2.2.1,())))) (aD.1,(aD.2.1,())) aG).bind fun aI=>some ((aI.1,aI.2.1,aI.2.2.1,aI.2.2.2.1,aI.2.2.2.2.1,aH.1,aH.2,aI.2.2.2.2.2)) else (sF O Z aA aB aC aD aG).bind fun aJ=>some ((aJ.1,aJ.2.1,aJ.2.2.1,aJ.2.2.2.1,aJ.2.2.2.2.1,aA,aB,aJ.2.2.2.2.2))
section
variable (O:Int) (Z:(List UInt8)) (aA:((List UInt8)×(Int×Unit))) (aB:rS) (aC:Int) (aD:Int) (aE:qZ) (aF:((List Int)×(Int×Unit))) (aG:Nat) (aH:Nat) (aI:(List ((List UInt8)×Bool)))
abbrev a7l:List pD:=[(.val .ref (some (0,0)),none),(.val (.int .i64) O,none),(.val .str Z,none)]
abbrev a7m:List pC:=[.cells rO (aA,(aB,(aC,(aD,(aE,((some 3),aF)))))) [(11,1),(13,2)],.grow 55 7 aG,.grow 3 1 aH,.map .str .bool aI]
@[go_sem] def a7n:pJ:=⟨[aG=(aE.2.2.2.1.length),aH=(aF.1.length),((xY aA aB aC aD aE aF O Z aI)).isSome=true],[],[.cells rO ((aA.1,((val (xY aA aB aC aD aE aF O Z aI)).1,())),(((val (xY aA aB aC aD aE aF O Z aI)).2.1,((val (xY aA aB aC aD aE aF O Z aI)).2.2.1,((val (xY aA aB aC aD aE aF O Z aI)).2.2.2.1,((val (xY aA aB aC aD aE aF O Z aI)).2.2.2.2.1,())))),((val (xY aA aB aC aD aE aF O Z aI)).2.2.2.2.2.1,((val (xY aA aB aC aD aE aF O Z aI)).2.2.2.2.2.2.1,((aE.1,(aE.2.1,(aE.2.2.1,(aE.2.2.2.1,())))),((some 3),(aF.1,((val (xY aA aB aC aD aE aF O Z aI)).2.2.2.2.2.2.2,())))))))) [(11,1),(13,2)],.grow 55 7 (aE.2.2.2.1.length),.grow 3 1 (aF.1.length),.map .str .bool aI]⟩
def aF7:List pD→List pC→Option pJ:=qP (V:=(Int×(List UInt8)×((List UInt8)×(Int×Unit))×rS×Int×Int×qZ×((List Int)×(Int×Unit))×Nat×Nat×(List ((List UInt8)×Bool)))) (fun x=>a7l x.1 x.2.1) (fun x=>a7m x.2.2.1 x.2.2.2.1 x.2.2.2.2.1 x.2.2.2.2.2.1 x.2.2.2.2.2.2.1 x.2.2.2.2.2.2.2.1 x.2.2.2.2.2.2.2.2.1 x.2.2.2.2.2.2.2.2.2.1 x.2.2.2.2.2.2.2.2.2.2) fun x=>a7n x.1 x.2.1 x.2.2.1 x.2.2.2.1 x.2.2.2.2.1 x.2.2.2.2.2.1 x.2.2.2.2.2.2.1 x.2.2.2.2.2.2.2.1 x.2.2.2.2.2.2.2.2.1 x.2.2.2.2.2.2.2.2.2.1 x.2.2.2.2.2.2.2.2.2.2
@[go_sem] theorem aTm:aF7 (no_index (a7l O Z)) (no_index (a7m aA aB aC aD aE aF aG aH aI))=some (a7n O Z aA aB aC aD aE aF aG aH aI):=qQ (fun⟨a0,a1,a2,a3,a4,a5,a6,a7,a8,a9,a10⟩ ⟨b0,b1,b2,b3,b4,b5,b6,b7,b8,b9,b10⟩ h1 h2=>by cases h1;cases h2;rfl) (O,Z,aA,aB,aC,aD,aE,aF,aG,aH,aI)
end
@[go_sem] abbrev QT:Nat×qC:=(123,⟨[.p rO [11,13],.v,.v],aF7,[(0,12,.m)],[1,2,3],none⟩)
theorem QU:qG Tryz.prog [] (qE [aDk,zU,yH]):=⟨trivial,pM aMm (pM F3 (pM E9 qS)),qI⟩
theorem a7o:qJ Tryz.prog QT:=by
 refine qR QU Tryz.func123 (c:=_) rfl (N:=15) (by kernel_rfl) (ts:=[]) rfl (fun _ _=>rfl) ?_;intro⟨O,Z,aA,aB,aC,aD,aE,aF,aG,aH,aI⟩ hs hrow;dsimp only[a7l,a7m,a7n,qM,pN,pW,qH,qO,Nat.reduceAdd] at hs hrow⊢;obtain⟨rfl,rfl,hz⟩:=hs;obtain⟨z0,hC0⟩:=aTF.1 hz
 try rw[r8 hC0]
 clear hz;unfold xY at hC0;refine pP ?_;refine pB QU ?_ (hp:=by exact⟨by first|rfl|trivial,by first|rfl|trivial,by first|rfl|trivial,by first|rfl|trivial,by first|rfl|trivial,(by first|rfl|trivial)⟩)
 refine pO hC0 (fun hC0 hc1=> ?_) (fun hC0 hc1=> ?_)
 ·obtain⟨aJ,hw_23,hC0⟩:=vY hC0
  try simp only[go_sem] at hw_23
  refine qU QU ?_ (hp:=by exact⟨by first|rfl|trivial,by first|rfl|trivial,by first|rfl|trivial,by first|rfl|trivial,(by first|rfl|trivial)⟩) (h:=by simp only[go_sem,hw_23];rfl)
  refine pL ?_;obtain⟨aK,hv1,hw1,hC0⟩:=pZ hC0
  try simp only[go_sem] at hw1
  refine qU QU ?_ (hp:=by exact⟨by first|rfl|trivial,by first|rfl|trivial,by first|rfl|trivial,by first|rfl|trivial,by first|rfl|trivial,(pY hv1)⟩) (h:=by simp only[go_sem,hw1];rfl)
  cases hC0;exact⟨[(0,0),(1,1),(2,2),(3,3)],by rfl,by rfl,by rfl⟩
 ·refine qD (pL ?_);obtain⟨aL,hv2,hw2,hC0⟩:=pZ hC0
  try simp only[go_sem] at hw2
  refine qU QU ?_ (hp:=by exact⟨by first|rfl|trivial,by first|rfl|trivial,by first|rfl|trivial,by first|rfl|trivial,by first|rfl|trivial,(pY hv2)⟩) (h:=by simp only[go_sem,hw2];rfl)
  cases hC0;exact⟨[(0,0),(1,1),(2,2),(3,3)],by rfl,by rfl,by rfl⟩
attribute [irreducible] xY
end
noncomputable section
def A9 (O:((List UInt8)×(Int×Unit))) (Z:rS) (aA:Int) (aB:Int) (aC:qZ) (aD:((List Int)×(Int×Unit))) (aE:Int) (aF:Bool) (aG:(List ((List UInt8)×Bool))):Option (Int×Int×(List UInt8)×Int×Int×Int×Int×Int):=if ((!decide (Z.1=aE))||(!((!decide (Z.2.1=([]:List UInt8)))&&(decide ((Z.2.1.length:Int)≤(200:Int))))))=true then rM (uB O Z aA aB aC aD (3:Int) aG) fun aH=>(sF (O.1,(O.2.1,())) (Z.1,(Z.2.1,(Z.2.2.1,(Z.2.2.2.1,())))) aH.1 aH.2 (aC.1,(aC.2.1,(aC.2.2.1,(aC.2.2.2.1,())))) (aD.1,(aD.2.1,())) aG).bind fun aI=>some ((aI.1,aI.2.1,aI.2.2.1,aI.2.2.2.1,aI.2.2.2.2.1,aH.1,aH.2,aI.2.2.2.2.2)) else if (rV .str .bool aG Z.2.1)=true then rM (uB O Z aA aB aC aD (9:Int) aG) fun aJ=>(sF (O.1,(O.2.1,())) (Z.1,(Z.2.1,(Z.2.2.1,(Z.2.2.2.1,())))) aJ.1 aJ.2 (aC.1,(aC.2.1,(aC.2.2.1,(aC.2.2.2.1,())))) (aD.1,(aD.2.1,())) aG).bind fun aK=>some ((aK.1,aK.2.1,aK.2.2.1,aK.2.2.2.1,aK.2.2.2.2.1,aJ.1,aJ.2,aK.2.2.2.2.2)) else if aF=true then rM (uB O Z aA aB aC aD (6:Int) aG) fun aL=>(sF (O.1,(O.2.1,())) (Z.1,(Z.2.1,(Z.2.2.1,(Z.2.2.2.1,())))) aL.1 aL.2 (aC.1,(aC.2.1,(aC.2.2.1,(aC.2.2.2.1,())))) (aD.1,(aD.2.1,())) aG).bind fun aM=>some ((aM.1,aM.2.1,aM.2.2.1,aM.2.2.2.1,aM.2.2.2.2.1,aL.1,aL.2,aM.2.2.2.2.2)) else (sF O Z aA aB aC aD aG).bind fun aN=>some ((aN.1,aN.2.1,aN.2.2.1,aN.2.2.2.1,aN.2.2.2.2.1,aA,aB,aN.2.2.2.2.2))
section
variable (O:Int) (Z:Bool) (aA:((List UInt8)×(Int×Unit))) (aB:rS) (aC:Int) (aD:Int) (aE:qZ) (aF:((List Int)×(Int×Unit))) (aG:Nat) (aH:Nat) (aI:(List ((List UInt8)×Bool)))
abbrev a7p:List pD:=[(.val .ref (some (0,0)),none),(.val (.int .i64) O,none),(.val .clo (some (127,[])),none),(.val .clo (some (128,[(3,0)])),none),(.val .bool Z,none)]
abbrev a7q:List pC:=[.cells rO (aA,(aB,(aC,(aD,(aE,((some 4),aF)))))) [(11,1),(13,2)],.grow 55 7 aG,.grow 3 1 aH,.cells .ref (some (0,0)) [],.map .str .bool aI]
@[go_sem] def a7r:pJ:=⟨[aG=(aE.2.2.2.1.length),aH=(aF.1.length),((A9 aA aB aC aD aE aF O Z aI)).isSome=true],[(.val .str aB.2.1,none)],[.cells rO ((aA.1,((val (A9 aA aB aC aD aE aF O Z aI)).1,())),(((val (A9 aA aB aC aD aE aF O Z aI)).2.1,((val (A9 aA aB aC aD aE aF O Z aI)).2.2.1,((val (A9 aA aB aC aD aE aF O Z aI)).2.2.2.1,((val (A9 aA aB aC aD aE aF O Z aI)).2.2.2.2.1,())))),((val (A9 aA aB aC aD aE aF O Z aI)).2.2.2.2.2.1,((val (A9 aA aB aC aD aE aF O Z aI)).2.2.2.2.2.2.1,((aE.1,(aE.2.1,(aE.2.2.1,(aE.2.2.2.1,())))),((some 4),(aF.1,((val (A9 aA aB aC aD aE aF O Z aI)).2.2.2.2.2.2.2,())))))))) [(11,1),(13,2)],.grow 55 7 (aE.2.2.2.1.length),.grow 3 1 (aF.1.length),.cells .ref (some (0,0)) [],.map .str .bool aI]⟩
def aF8:List pD→List pC→Option pJ:=qP (V:=(Int×Bool×((List UInt8)×(Int×Unit))×rS×Int×Int×qZ×((List Int)×(Int×Unit))×Nat×Nat×(List ((List UInt8)×Bool)))) (fun x=>a7p x.1 x.2.1) (fun x=>a7q x.2.2.1 x.2.2.2.1 x.2.2.2.2.1 x.2.2.2.2.2.1 x.2.2.2.2.2.2.1 x.2.2.2.2.2.2.2.1 x.2.2.2.2.2.2.2.2.1 x.2.2.2.2.2.2.2.2.2.1 x.2.2.2.2.2.2.2.2.2.2) fun x=>a7r x.1 x.2.1 x.2.2.1 x.2.2.2.1 x.2.2.2.2.1 x.2.2.2.2.2.1 x.2.2.2.2.2.2.1 x.2.2.2.2.2.2.2.1 x.2.2.2.2.2.2.2.2.1 x.2.2.2.2.2.2.2.2.2.1 x.2.2.2.2.2.2.2.2.2.2
@[go_sem] theorem aTn:aF8 (no_index (a7p O Z)) (no_index (a7q aA aB aC aD aE aF aG aH aI))=some (a7r O Z aA aB aC aD aE aF aG aH aI):=qQ (fun⟨a0,a1,a2,a3,a4,a5,a6,a7,a8,a9,a10⟩ ⟨b0,b1,b2,b3,b4,b5,b6,b7,b8,b9,b10⟩ h1 h2=>by cases h1;cases h2;rfl) (O,Z,aA,aB,aC,aD,aE,aF,aG,aH,aI)
end
@[go_sem] abbrev aF9:Nat×qC:=(124,⟨[.p rO [11,13],.v,.v,.f [(.ref,[])],.v],aF8,[(0,12,.m)],[1,2,3,4],none⟩)
theorem zA:qG Tryz.prog [uX,rP,zT,yC] (qE [aC3,zU,yH,aC6]):=⟨⟨vK,⟨rQ,⟨BE,⟨zS,trivial⟩⟩⟩⟩,pM aMj (pM F3 (pM E9 (pM aMk qS))),qI⟩
theorem aNp:qJ Tryz.prog aF9:=by
 refine qR zA Tryz.func124 (c:=_) rfl (N:=46) (by kernel_rfl) (ts:=[(10,none)]) rfl (fun _ _=>rfl) ?_;intro⟨O,Z,aA,aB,aC,aD,aE,aF,aG,aH,aI⟩ hs hrow;dsimp only[a7p,a7q,a7r,qM,pN,pW,qH,qO,Nat.reduceAdd] at hs hrow⊢;obtain⟨rfl,rfl,hz⟩:=hs;obtain⟨z0,hC0⟩:=aTF.1 hz
 try rw[r8 hC0]
 clear hz;unfold A9 at hC0;refine pB zA ?_;refine pB zA ?_;refine pP (rC ?_);refine pB zA ?_ (hp:=by exact⟨fun hh=>hh,fun hh=>hh,fun hh=>hh,(fun hh=>sR hh)⟩);refine pO hC0 (fun hC0 hc1=> ?_) (fun hC0 hc1=> ?_)
 ·obtain⟨aJ,hw_27,hC0⟩:=vY hC0
  try simp only[go_sem] at hw_27
  refine qU zA ?_ (hp:=by exact⟨by first|rfl|trivial,by first|rfl|trivial,by first|rfl|trivial,by first|rfl|trivial,(by first|rfl|trivial)⟩) (h:=by simp only[go_sem,hw_27];rfl)
  refine qY (pL ?_);obtain⟨aK,hv1,hw1,hC0⟩:=pZ hC0
  try simp only[go_sem] at hw1
  refine pB zA ?_ (hp:=by exact⟨by first|rfl|trivial,by first|rfl|trivial,by first|rfl|trivial,by first|rfl|trivial,by first|rfl|trivial,(pY hv1)⟩) (h:=by simp only[go_sem,hw1];rfl)
  refine pB zA ?_;refine pK ?_;cases hC0;exact⟨[(0,0),(1,1),(2,2),(3,3),(4,4)],by rfl,by rfl,by rfl⟩
 ·refine pB zA ?_ (hp:=by exact⟨by first|rfl|trivial,by first|rfl|trivial,by first|rfl|trivial,by first|rfl|trivial,by first|rfl|trivial,by first|rfl|trivial,(by first|rfl|trivial)⟩)
  refine pO hC0 (fun hC0 hc2=> ?_) (fun hC0 hc2=> ?_)
  ·obtain⟨aL,hw_29,hC0⟩:=vY hC0
   try simp only[go_sem] at hw_29
   refine qU zA ?_ (hp:=by exact⟨by first|rfl|trivial,by first|rfl|trivial,by first|rfl|trivial,by first|rfl|trivial,(by first|rfl|trivial)⟩) (h:=by simp only[go_sem,hw_29];rfl)
   refine qY (pL ?_);obtain⟨aM,hv2,hw2,hC0⟩:=pZ hC0
   try simp only[go_sem] at hw2
   refine pB zA ?_ (hp:=by exact⟨by first|rfl|trivial,by first|rfl|trivial,by first|rfl|trivial,by first|rfl|trivial,by first|rfl|trivial,(pY hv2)⟩) (h:=by simp only[go_sem,hw2];rfl)
   refine pB zA ?_;refine pK ?_;cases hC0;exact⟨[(0,0),(1,1),(2,2),(3,3),(4,4)],by rfl,by rfl,by rfl⟩
  ·refine pB zA ?_;refine pO hC0 (fun hC0 hc3=> ?_) (fun hC0 hc3=> ?_)
   ·obtain⟨aN,hw_31,hC0⟩:=vY hC0
    try simp only[go_sem] at hw_31
    refine qU zA ?_ (hp:=by exact⟨by first|rfl|trivial,by first|rfl|trivial,by first|rfl|trivial,by first|rfl|trivial,(by first|rfl|trivial)⟩) (h:=by simp only[go_sem,hw_31];rfl)
    refine qY (pL ?_);obtain⟨aO,hv3,hw3,hC0⟩:=pZ hC0
    try simp only[go_sem] at hw3
    refine pB zA ?_ (hp:=by exact⟨by first|rfl|trivial,by first|rfl|trivial,by first|rfl|trivial,by first|rfl|trivial,by first|rfl|trivial,(pY hv3)⟩) (h:=by simp only[go_sem,hw3];rfl)
    refine pB zA ?_;refine pK ?_;cases hC0;exact⟨[(0,0),(1,1),(2,2),(3,3),(4,4)],by rfl,by rfl,by rfl⟩
   ·refine qD (qY (pL ?_));obtain⟨aP,hv4,hw4,hC0⟩:=pZ hC0
    try simp only[go_sem] at hw4
    refine pB zA ?_ (hp:=by exact⟨by first|rfl|trivial,by first|rfl|trivial,by first|rfl|trivial,by first|rfl|trivial,by first|rfl|trivial,(pY hv4)⟩) (h:=by simp only[go_sem,hw4];rfl)
    refine pB zA ?_;refine pK ?_;cases hC0;exact⟨[(0,0),(1,1),(2,2),(3,3),(4,4)],by rfl,by rfl,by rfl⟩
attribute [irreducible] A9
def IJ (O:G7):Option (Int×Int×Int×(List rD)×(List Int)):=(w7 O (2:Int) ([101,110,116,114,121]:List UInt8)).bind fun Z=>(w7 (O.1,(Z.1,(Z.2.1,(Z.2.2.1,((O.2.2.2.2.1.1,(O.2.2.2.2.1.2.1,(O.2.2.2.2.1.2.2.1,(O.2.2.2.2.1.2.2.2.1,())))),(O.2.2.2.2.2.1,())))))) (1:Int) ([]:List UInt8)).bind fun aA=>if (!decide (aA.2.2.1=(0:Int)))=true then some ((aA.1,aA.2.1,aA.2.2.1,O.2.2.2.2.1.2.2.2.1,O.2.2.2.2.2.1)) else (GC (O.2.2.2.2.1.1,(O.2.2.2.2.1.2.1,(O.2.2.2.2.1.2.2.1,(O.2.2.2.2.1.2.2.2.1,())))) aA.2.2.2.2.1).bind fun aB=>if ((decide (aA.2.2.2.2.1=([]:List UInt8)))||(decide ((200:Int)<(aA.2.2.2.2.1.length:Int))))=true then rM (xX (O.1,(aA.1,(aA.2.1,(aA.2.2.1,((O.2.2.2.2.1.1,(O.2.2.2.2.1.2.1,(O.2.2.2.2.1.2.2.1,(O.2.2.2.2.1.2.2.2.1,())))),(O.2.2.2.2.2.1,())))))) (aA.2.2.2.1,(aA.2.2.2.2.1,(aA.2.2.2.2.2.1,(aA.2.2.2.2.2.2,())))) (3:Int)) fun aC=>some ((aA.1,aC.1,aC.2,O.2.2.2.2.1.2.2.2.1,O.2.2.2.2.2.1)) else if aB.2=true then rM (xX (O.1,(aA.1,(aA.2.1,(aA.2.2.1,((O.2.2.2.2.1.1,(O.2.2.2.2.1.2.1,(O.2.2.2.2.1.2.2.1,(O.2.2.2.2.1.2.2.2.1,())))),(O.2.2.2.2.2.1,())))))) (aA.2.2.2.1,(aA.2.2.2.2.1,(aA.2.2.2.2.2.1,(aA.2.2.2.2.2.2,())))) (9:Int)) fun aD=>some ((aA.1,aD.1,aD.2,O.2.2.2.2.1.2.2.2.1,O.2.2.2.2.2.1)) else if (decide ((1000:Int)≤(O.2.2.2.2.1.2.2.2.1.length:Int)))=true then rM (xX (O.1,(aA.1,(aA.2.1,(aA.2.2.1,((O.2.2.2.2.1.1,(O.2.2.2.2.1.2.1,(O.2.2.2.2.1.2.2.1,(O.2.2.2.2.1.2.2.2.1,())))),(O.2.2.2.2.2.1,())))))) (aA.2.2.2.1,(aA.2.2.2.2.1,(aA.2.2.2.2.2.1,(aA.2.2.2.2.2.2,())))) (6:Int)) fun aE=>some ((aA.1,aE.1,aE.2,O.2.2.2.2.1.2.2.2.1,O.2.2.2.2.2.1)) else (xE (O.1,(aA.1,(aA.2.1,(aA.2.2.1,((O.2.2.2.2.1.1,(O.2.2.2.2.1.2.1,(O.2.2.2.2.1.2.2.1,(O.2.2.2.2.1.2.2.2.1,())))),(O.2.2.2.2.2.1,())))))) (aA.2.2.2.2.1,(([]:List UInt8),(([]:List UInt8),(([]:List (List UInt8)),(([]:List (List UInt8)),((0:Int),(([]:List pV),()))))))) false).bind fun aF=>if (([]:List rD).length+O.2.2.2.2.1.2.2.2.1.length)*128≤140737488355328 then if ((([]:List rD)++O.2.2.2.2.1.2.2.2.1).length+([(aA.2.2.2.2.1,(aF.2.2.2.2.1,(aF.2.2.2.2.2.1,(aF.2.2.2.2.2.2.1,(aF.2.2.2.2.2.2.2.1,(aF.2.2.2.2.2.2.2.2.1,(aF.2.2.2.2.2.2.2.2.2,())))))))]:List rD).length)*128≤140737488355328 then some ((aF.1,aF.2.1,aF.2.2.1,((([]:List rD)++O.2.2.2.2.1.2.2.2.1)++([(aA.2.2.2.2.1,(aF.2.2.2.2.1,(aF.2.2.2.2.2.1,(aF.2.2.2.2.2.2.1,(aF.2.2.2.2.2.2.2.1,(aF.2.2.2.2.2.2.2.2.1,(aF.2.2.2.2.2.2.2.2.2,())))))))]:List rD)),aF.2.2.2.1)) else none else none
attribute [irreducible] IJ
end
noncomputable section
def xZ (O:((List UInt8)×(Int×Unit))) (Z:rS) (aA:Int) (aB:Int) (aC:qZ) (aD:((List Int)×(Int×Unit))) (aE:(List ((List UInt8)×Bool))):Option (Int×Int×(List UInt8)×Int×Int×Int×Int×Int):=(zW O Z aA aB aC aD (1:Int) false aE).bind fun aF=>some ((aF.1,aF.2.1,aF.2.2.1,aF.2.2.2.1,aF.2.2.2.2.1,aF.2.2.2.2.2.1,aF.2.2.2.2.2.2.1,aF.2.2.2.2.2.2.2))
section
variable (O:((List UInt8)×(Int×Unit))) (Z:rS) (aA:Int) (aB:Int) (aC:qZ) (aD:((List Int)×(Int×Unit))) (aE:Nat) (aF:Nat) (aG:(List ((List UInt8)×Bool)))
abbrev a7s:List pD:=[(.val .ref (some (0,0)),none)]
abbrev a7t:List pC:=[.cells rO (O,(Z,(aA,(aB,(aC,((some 3),aD)))))) [(11,1),(13,2)],.grow 55 7 aE,.grow 3 1 aF,.map .str .bool aG]
@[go_sem] def a7u:pJ:=⟨[aE=(aC.2.2.2.1.length),aF=(aD.1.length),((xZ O Z aA aB aC aD aG)).isSome=true],[(.val .str Z.2.1,none)],[.cells rO ((O.1,((val (xZ O Z aA aB aC aD aG)).1,())),(((val (xZ O Z aA aB aC aD aG)).2.1,((val (xZ O Z aA aB aC aD aG)).2.2.1,((val (xZ O Z aA aB aC aD aG)).2.2.2.1,((val (xZ O Z aA aB aC aD aG)).2.2.2.2.1,())))),((val (xZ O Z aA aB aC aD aG)).2.2.2.2.2.1,((val (xZ O Z aA aB aC aD aG)).2.2.2.2.2.2.1,((aC.1,(aC.2.1,(aC.2.2.1,(aC.2.2.2.1,())))),((some 3),(aD.1,((val (xZ O Z aA aB aC aD aG)).2.2.2.2.2.2.2,())))))))) [(11,1),(13,2)],.grow 55 7 (aC.2.2.2.1.length),.grow 3 1 (aD.1.length),.map .str .bool aG]⟩
def aGa:List pD→List pC→Option pJ:=qP (V:=(((List UInt8)×(Int×Unit))×rS×Int×Int×qZ×((List Int)×(Int×Unit))×Nat×Nat×(List ((List UInt8)×Bool)))) (fun x=>a7s) (fun x=>a7t x.1 x.2.1 x.2.2.1 x.2.2.2.1 x.2.2.2.2.1 x.2.2.2.2.2.1 x.2.2.2.2.2.2.1 x.2.2.2.2.2.2.2.1 x.2.2.2.2.2.2.2.2) fun x=>a7u x.1 x.2.1 x.2.2.1 x.2.2.2.1 x.2.2.2.2.1 x.2.2.2.2.2.1 x.2.2.2.2.2.2.1 x.2.2.2.2.2.2.2.1 x.2.2.2.2.2.2.2.2
@[go_sem] theorem aTo:aGa (no_index a7s) (no_index (a7t O Z aA aB aC aD aE aF aG))=some (a7u O Z aA aB aC aD aE aF aG):=qQ (fun⟨a0,a1,a2,a3,a4,a5,a6,a7,a8⟩ ⟨b0,b1,b2,b3,b4,b5,b6,b7,b8⟩ h1 h2=>by cases h1;cases h2;rfl) (O,Z,aA,aB,aC,aD,aE,aF,aG)
end
@[go_sem] abbrev GY:Nat×qC:=(253,⟨[.p rO [11,13]],aGa,[(0,12,.m)],[1,2,3],none⟩)
theorem a7v:qG Tryz.prog [] (qE [aFZ]):=⟨trivial,pM aNk qS,qI⟩
theorem VP:qJ Tryz.prog GY:=by
 refine qR a7v Tryz.func253 (c:=_) rfl (N:=5) (by kernel_rfl) (ts:=[(2,none)]) rfl (fun _ _=>rfl) ?_;intro⟨O,Z,aA,aB,aC,aD,aE,aF,aG⟩ hs hrow;dsimp only[a7s,a7t,a7u,qM,pN,pW,qH,qO,Nat.reduceAdd] at hs hrow⊢;obtain⟨rfl,rfl,hz⟩:=hs;obtain⟨z0,hC0⟩:=aTF.1 hz
 try rw[r8 hC0]
 clear hz;unfold xZ at hC0;refine pB a7v ?_;obtain⟨aH,hv1,hw1,hC0⟩:=pZ hC0
 try simp only[go_sem] at hw1
 refine pB a7v ?_ (hp:=by exact⟨by first|rfl|trivial,by first|rfl|trivial,by first|rfl|trivial,by first|rfl|trivial,by first|rfl|trivial,(pY hv1)⟩) (h:=by simp only[go_sem,hw1];rfl)
 refine pK ?_;cases hC0;exact⟨[(0,0),(1,1),(2,2),(3,3)],by rfl,by rfl,by rfl⟩
attribute [irreducible] xZ
end
noncomputable section
def AQ (O:((List UInt8)×(Int×Unit))) (Z:rS) (aA:Int) (aB:Int) (aC:qZ) (aD:((List Int)×(Int×Unit))) (aE:(List UInt8)) (aF:(List UInt8)) (aG:(List UInt8)) (aH:(List (List UInt8))) (aI:(Int×((List pV)×Unit))) (aJ:Bool) (aK:(List ((List UInt8)×Bool))) (aL:(List (List UInt8))) (aM:(List ((List UInt8)×Bool))):Option (Int×Int×(List UInt8)×Int×Int×Int×Int×Int×Int):=(zV O Z aA aB aC aD aE aF aG aH aI aJ aK aL aM).bind fun aN=>(zY (O.1,(aN.1,())) (aN.2.1,(aN.2.2.1,(aN.2.2.2.1,(aN.2.2.2.2.1,())))) aN.2.2.2.2.2.1 aN.2.2.2.2.2.2.1 (aC.1,(aC.2.1,(aC.2.2.1,(aC.2.2.2.1,())))) (aD.1,(aN.2.2.2.2.2.2.2,())) (2:Int) false aK).bind fun aO=>(C6 ([([110,101,119]:List UInt8),([102,117,122,122,121]:List UInt8),([116,114,97,110,115,108,97,116,101,100]:List UInt8),([114,101,118,105,101,119,101,100]:List UInt8),([111,98,115,111,108,101,116,101]:List UInt8)]:List (List UInt8)) aN.2.2.1).bind fun aP=>some ((aO.1,aO.2.1,aO.2.2.1,aO.2.2.2.1,aO.2.2.2.2.1,aO.2.2.2.2.2.1,aO.2.2.2.2.2.2.1,aO.2.2.2.2.2.2.2,(max (0:Int) aP)))
section
variable (O:((List UInt8)×(Int×Unit))) (Z:rS) (aA:Int) (aB:Int) (aC:qZ) (aD:((List Int)×(Int×Unit))) (aE:Nat) (aF:Nat) (aG:(List UInt8)) (aH:(List UInt8)) (aI:(List UInt8)) (aJ:(List (List UInt8))) (aK:Nat) (aL:(Int×((List pV)×Unit))) (aM:Bool) (aN:Nat) (aO:Nat) (aP:(List ((List UInt8)×Bool))) (aQ:(List (List UInt8))) (aR:Nat) (aS:(List ((List UInt8)×Bool)))
abbrev a7w:List pD:=[(.val .ref (some (0,0)),none),(.val .ref (some (3,0)),none)]
abbrev a7x:List pC:=[.cells rO (O,(Z,(aA,(aB,(aC,((some 6),aD)))))) [(11,1),(13,2)],.grow 55 7 aE,.grow 3 1 aF,.cells sS ((aG,(aH,(aI,(aJ,((some (7,aK)),aL))))),(aM,((some 8),()))) [(3,4),(6,5)],.grow 9 1 aN,.grow 149 2 aO,.map .str .bool aP,.row 9 .str aQ aR,.map .str .bool aS]
@[go_sem] def a7y:pJ:=⟨[aE=(aC.2.2.2.1.length),aF=(aD.1.length),aN=(aJ.length),aO=(aL.2.1.length),aK=aR,((AQ O Z aA aB aC aD aG aH aI aJ aL aM aP aQ aS)).isSome=true],[],[.cells rO ((O.1,((val (AQ O Z aA aB aC aD aG aH aI aJ aL aM aP aQ aS)).1,())),(((val (AQ O Z aA aB aC aD aG aH aI aJ aL aM aP aQ aS)).2.1,((val (AQ O Z aA aB aC aD aG aH aI aJ aL aM aP aQ aS)).2.2.1,((val (AQ O Z aA aB aC aD aG aH aI aJ aL aM aP aQ aS)).2.2.2.1,((val (AQ O Z aA aB aC aD aG aH aI aJ aL aM aP aQ aS)).2.2.2.2.1,())))),((val (AQ O Z aA aB aC aD aG aH aI aJ aL aM aP aQ aS)).2.2.2.2.2.1,((val (AQ O Z aA aB aC aD aG aH aI aJ aL aM aP aQ aS)).2.2.2.2.2.2.1,((aC.1,(aC.2.1,(aC.2.2.1,(aC.2.2.2.1,())))),((some 6),(aD.1,((val (AQ O Z aA aB aC aD aG aH aI aJ aL aM aP aQ aS)).2.2.2.2.2.2.2.1,())))))))) [(11,1),(13,2)],.grow 55 7 (aC.2.2.2.1.length),.grow 3 1 (aD.1.length),.cells sS ((aG,(aH,(aI,(aJ,((some (7,(aQ.length))),((val (AQ O Z aA aB aC aD aG aH aI aJ aL aM aP aQ aS)).2.2.2.2.2.2.2.2,(aL.2.1,()))))))),(aM,((some 8),()))) [(3,4),(6,5)],.grow 9 1 (aJ.length),.grow 149 2 (aL.2.1.length),.map .str .bool aP,.row 9 .str aQ (aQ.length),.map .str .bool (sL .str .bool Z.2.1 true aS)]⟩
def aGb:List pD→List pC→Option pJ:=qP (V:=(((List UInt8)×(Int×Unit))×rS×Int×Int×qZ×((List Int)×(Int×Unit))×Nat×Nat×(List UInt8)×(List UInt8)×(List UInt8)×(List (List UInt8))×Nat×(Int×((List pV)×Unit))×Bool×Nat×Nat×(List ((List UInt8)×Bool))×(List (List UInt8))×Nat×(List ((List UInt8)×Bool)))) (fun x=>a7w) (fun x=>a7x x.1 x.2.1 x.2.2.1 x.2.2.2.1 x.2.2.2.2.1 x.2.2.2.2.2.1 x.2.2.2.2.2.2.1 x.2.2.2.2.2.2.2.1 x.2.2.2.2.2.2.2.2.1 x.2.2.2.2.2.2.2.2.2.1 x.2.2.2.2.2.2.2.2.2.2.1 x.2.2.2.2.2.2.2.2.2.2.2.1 x.2.2.2.2.2.2.2.2.2.2.2.2.1 x.2.2.2.2.2.2.2.2.2.2.2.2.2.1 x.2.2.2.2.2.2.2.2.2.2.2.2.2.2.1 x.2.2.2.2.2.2.2.2.2.2.2.2.2.2.2.1 x.2.2.2.2.2.2.2.2.2.2.2.2.2.2.2.2.1 x.2.2.2.2.2.2.2.2.2.2.2.2.2.2.2.2.2.1 x.2.2.2.2.2.2.2.2.2.2.2.2.2.2.2.2.2.2.1 x.2.2.2.2.2.2.2.2.2.2.2.2.2.2.2.2.2.2.2.1 x.2.2.2.2.2.2.2.2.2.2.2.2.2.2.2.2.2.2.2.2) fun x=>a7y x.1 x.2.1 x.2.2.1 x.2.2.2.1 x.2.2.2.2.1 x.2.2.2.2.2.1 x.2.2.2.2.2.2.1 x.2.2.2.2.2.2.2.1 x.2.2.2.2.2.2.2.2.1 x.2.2.2.2.2.2.2.2.2.1 x.2.2.2.2.2.2.2.2.2.2.1 x.2.2.2.2.2.2.2.2.2.2.2.1 x.2.2.2.2.2.2.2.2.2.2.2.2.1 x.2.2.2.2.2.2.2.2.2.2.2.2.2.1 x.2.2.2.2.2.2.2.2.2.2.2.2.2.2.1 x.2.2.2.2.2.2.2.2.2.2.2.2.2.2.2.1 x.2.2.2.2.2.2.2.2.2.2.2.2.2.2.2.2.1 x.2.2.2.2.2.2.2.2.2.2.2.2.2.2.2.2.2.1 x.2.2.2.2.2.2.2.2.2.2.2.2.2.2.2.2.2.2.1 x.2.2.2.2.2.2.2.2.2.2.2.2.2.2.2.2.2.2.2.1 x.2.2.2.2.2.2.2.2.2.2.2.2.2.2.2.2.2.2.2.2
@[go_sem] theorem aTp:aGb (no_index a7w) (no_index (a7x O Z aA aB aC aD aE aF aG aH aI aJ aK aL aM aN aO aP aQ aR aS))=some (a7y O Z aA aB aC aD aE aF aG aH aI aJ aK aL aM aN aO aP aQ aR aS):=qQ (fun⟨a0,a1,a2,a3,a4,a5,a6,a7,a8,a9,a10,a11,a12,a13,a14,a15,a16,a17,a18,a19,a20⟩ ⟨b0,b1,b2,b3,b4,b5,b6,b7,b8,b9,b10,b11,b12,b13,b14,s3,b16,b17,b18,b19,b20⟩ h1 h2=>by cases h1;cases h2;rfl) (O,Z,aA,aB,aC,aD,aE,aF,aG,aH,aI,aJ,aK,aL,aM,aN,aO,aP,aQ,aR,aS)
end
@[go_sem] abbrev a7z:Nat×qC:=(217,⟨[.p rO [11,13],.p sS [3,6]],aGb,[(0,12,.m),(3,4,.r),(3,8,.m)],[1,2,4,5,6,7],none⟩)
theorem aGc:qG Tryz.prog [] (qE [KJ,PS,a7c,V5]):=⟨trivial,pM a62 (pM a1e (pM aNm (pM aDt qS))),qI⟩
theorem a7A:qG Tryz.prog [uX,DR,C5] (qE [KJ,PS,a7c,V5]):=⟨⟨vK,⟨GB,⟨DQ,trivial⟩⟩⟩,aGc.Γ,qI⟩
theorem aNq:qJ Tryz.prog a7z:=by
 refine qR aGc Tryz.func217 (c:=_) rfl (N:=18) (by kernel_rfl) (ts:=[]) rfl (fun _ _=>rfl) ?_;intro⟨O,Z,aA,aB,aC,aD,aE,aF,aG,aH,aI,aJ,aK,aL,aM,aN,aO,aP,aQ,aR,aS⟩ hs hrow;dsimp only[a7w,a7x,a7y,qM,pN,pW,qH,qO,Nat.reduceAdd] at hs hrow⊢;obtain⟨rfl,rfl,rfl,rfl,rfl,hz⟩:=hs;obtain⟨rfl,_⟩:=hrow;obtain⟨z0,hC0⟩:=aTF.1 hz
 try rw[r8 hC0]
 clear hz;unfold AQ at hC0;obtain⟨aT,hv1,hw1,hC0⟩:=pZ hC0
 try simp only[go_sem] at hw1
 refine pB a7A ?_ (hp:=by exact⟨by first|rfl|trivial,by first|rfl|trivial,by first|rfl|trivial,by first|rfl|trivial,by first|rfl|trivial,by first|rfl|trivial,by first|rfl|trivial,by first|rfl|trivial,by first|rfl|trivial,by first|rfl|trivial,by first|rfl|trivial,by first|rfl|trivial,(pY hv1)⟩) (h:=by simp only[go_sem,hw1];rfl)
 refine pB a7A ?_;obtain⟨aU,hv2,hw2,hC0⟩:=pZ hC0
 try simp only[go_sem] at hw2
 obtain⟨aV,hv3,hw3,hC0⟩:=pZ hC0
 try simp only[go_sem] at hw3
 refine qU a7A ?_ (hp:=by exact⟨by first|rfl|trivial,by first|rfl|trivial,by first|rfl|trivial,by first|rfl|trivial,by first|rfl|trivial,pY hv2,(pY hv3)⟩) (h:=by simp only[go_sem,hw2,hw3];rfl)
 cases hC0;exact⟨[(0,0),(1,1),(2,2),(3,3),(4,4),(5,5),(6,6),(7,7),(8,8)],by rfl,by rfl,by rfl⟩
attribute [irreducible] AQ
end
noncomputable section
def zB (O:((List UInt8)×(Int×Unit))) (Z:rS) (aA:Int) (aB:Int) (aC:qZ) (aD:((List Int)×(Int×Unit))) (aE:(List UInt8)) (aF:(List UInt8)) (aG:(List UInt8)) (aH:(List (List UInt8))) (aI:(Int×((List pV)×Unit))) (aJ:Bool) (aK:(List ((List UInt8)×Bool))) (aL:(List (List UInt8))) (aM:(List ((List UInt8)×Bool))):Option (Int×Int×(List UInt8)×Int×Int×Int×Int×Int×(List (List UInt8))):=(sF O Z aA aB aC aD aK).bind fun aN=>(BL (O.1,(aN.1,())) (aN.2.1,(aN.2.2.1,(aN.2.2.2.1,(aN.2.2.2.2.1,())))) aA aB (aC.1,(aC.2.1,(aC.2.2.1,(aC.2.2.2.1,())))) (aD.1,(aN.2.2.2.2.2,())) (2:Int) (decide ((((aL.length):Nat):Int)=(20:Int))) aK aE aF aG aH aI aJ aL aM).bind fun aO=>if ((aL.length)+([aN.2.2.1]:List (List UInt8)).length)*16≤140737488355328 then some ((aO.1,aO.2.1,aO.2.2.1,aO.2.2.2.1,aO.2.2.2.2.1,aO.2.2.2.2.2.1,aO.2.2.2.2.2.2.1,aO.2.2.2.2.2.2.2,(aL++([aN.2.2.1]:List (List UInt8))))) else none
section
variable (O:((List UInt8)×(Int×Unit))) (Z:rS) (aA:Int) (aB:Int) (aC:qZ) (aD:((List Int)×(Int×Unit))) (aE:Nat) (aF:Nat) (aG:(List UInt8)) (aH:(List UInt8)) (aI:(List UInt8)) (aJ:(List (List UInt8))) (aK:Nat) (aL:(Int×((List pV)×Unit))) (aM:Bool) (aN:Nat) (aO:Nat) (aP:(List ((List UInt8)×Bool))) (aQ:(List (List UInt8))) (aR:Nat) (aS:(List ((List UInt8)×Bool)))
abbrev a7B:List pD:=[(.val .ref (some (0,0)),none),(.val .ref (some (3,0)),none)]
abbrev a7C:List pC:=[.cells rO (O,(Z,(aA,(aB,(aC,((some 6),aD)))))) [(11,1),(13,2)],.grow 55 7 aE,.grow 3 1 aF,.cells sS ((aG,(aH,(aI,(aJ,((some (7,aK)),aL))))),(aM,((some 8),()))) [(3,4),(6,5)],.grow 9 1 aN,.grow 149 2 aO,.map .str .bool aP,.row 9 .str aQ aR,.map .str .bool aS]
@[go_sem] def a7D:pJ:=⟨[aE=(aC.2.2.2.1.length),aF=(aD.1.length),aN=(aJ.length),aO=(aL.2.1.length),aK=aR,((zB O Z aA aB aC aD aG aH aI aJ aL aM aP aQ aS)).isSome=true],[],[.cells rO ((O.1,((val (zB O Z aA aB aC aD aG aH aI aJ aL aM aP aQ aS)).1,())),(((val (zB O Z aA aB aC aD aG aH aI aJ aL aM aP aQ aS)).2.1,((val (zB O Z aA aB aC aD aG aH aI aJ aL aM aP aQ aS)).2.2.1,((val (zB O Z aA aB aC aD aG aH aI aJ aL aM aP aQ aS)).2.2.2.1,((val (zB O Z aA aB aC aD aG aH aI aJ aL aM aP aQ aS)).2.2.2.2.1,())))),((val (zB O Z aA aB aC aD aG aH aI aJ aL aM aP aQ aS)).2.2.2.2.2.1,((val (zB O Z aA aB aC aD aG aH aI aJ aL aM aP aQ aS)).2.2.2.2.2.2.1,((aC.1,(aC.2.1,(aC.2.2.1,(aC.2.2.2.1,())))),((some 6),(aD.1,((val (zB O Z aA aB aC aD aG aH aI aJ aL aM aP aQ aS)).2.2.2.2.2.2.2.1,())))))))) [(11,1),(13,2)],.grow 55 7 (aC.2.2.2.1.length),.grow 3 1 (aD.1.length),.cells sS ((aG,(aH,(aI,(aJ,((some (7,(((val (zB O Z aA aB aC aD aG aH aI aJ aL aM aP aQ aS)).2.2.2.2.2.2.2.2).length))),(aL.1,(aL.2.1,()))))))),(aM,((some 8),()))) [(3,4),(6,5)],.grow 9 1 (aJ.length),.grow 149 2 (aL.2.1.length),.map .str .bool aP,.row 9 .str ((val (zB O Z aA aB aC aD aG aH aI aJ aL aM aP aQ aS)).2.2.2.2.2.2.2.2) (((val (zB O Z aA aB aC aD aG aH aI aJ aL aM aP aQ aS)).2.2.2.2.2.2.2.2).length),.map .str .bool aS]⟩
def aGd:List pD→List pC→Option pJ:=qP (V:=(((List UInt8)×(Int×Unit))×rS×Int×Int×qZ×((List Int)×(Int×Unit))×Nat×Nat×(List UInt8)×(List UInt8)×(List UInt8)×(List (List UInt8))×Nat×(Int×((List pV)×Unit))×Bool×Nat×Nat×(List ((List UInt8)×Bool))×(List (List UInt8))×Nat×(List ((List UInt8)×Bool)))) (fun x=>a7B) (fun x=>a7C x.1 x.2.1 x.2.2.1 x.2.2.2.1 x.2.2.2.2.1 x.2.2.2.2.2.1 x.2.2.2.2.2.2.1 x.2.2.2.2.2.2.2.1 x.2.2.2.2.2.2.2.2.1 x.2.2.2.2.2.2.2.2.2.1 x.2.2.2.2.2.2.2.2.2.2.1 x.2.2.2.2.2.2.2.2.2.2.2.1 x.2.2.2.2.2.2.2.2.2.2.2.2.1 x.2.2.2.2.2.2.2.2.2.2.2.2.2.1 x.2.2.2.2.2.2.2.2.2.2.2.2.2.2.1 x.2.2.2.2.2.2.2.2.2.2.2.2.2.2.2.1 x.2.2.2.2.2.2.2.2.2.2.2.2.2.2.2.2.1 x.2.2.2.2.2.2.2.2.2.2.2.2.2.2.2.2.2.1 x.2.2.2.2.2.2.2.2.2.2.2.2.2.2.2.2.2.2.1 x.2.2.2.2.2.2.2.2.2.2.2.2.2.2.2.2.2.2.2.1 x.2.2.2.2.2.2.2.2.2.2.2.2.2.2.2.2.2.2.2.2) fun x=>a7D x.1 x.2.1 x.2.2.1 x.2.2.2.1 x.2.2.2.2.1 x.2.2.2.2.2.1 x.2.2.2.2.2.2.1 x.2.2.2.2.2.2.2.1 x.2.2.2.2.2.2.2.2.1 x.2.2.2.2.2.2.2.2.2.1 x.2.2.2.2.2.2.2.2.2.2.1 x.2.2.2.2.2.2.2.2.2.2.2.1 x.2.2.2.2.2.2.2.2.2.2.2.2.1 x.2.2.2.2.2.2.2.2.2.2.2.2.2.1 x.2.2.2.2.2.2.2.2.2.2.2.2.2.2.1 x.2.2.2.2.2.2.2.2.2.2.2.2.2.2.2.1 x.2.2.2.2.2.2.2.2.2.2.2.2.2.2.2.2.1 x.2.2.2.2.2.2.2.2.2.2.2.2.2.2.2.2.2.1 x.2.2.2.2.2.2.2.2.2.2.2.2.2.2.2.2.2.2.1 x.2.2.2.2.2.2.2.2.2.2.2.2.2.2.2.2.2.2.2.1 x.2.2.2.2.2.2.2.2.2.2.2.2.2.2.2.2.2.2.2.2
@[go_sem] theorem aTq:aGd (no_index a7B) (no_index (a7C O Z aA aB aC aD aE aF aG aH aI aJ aK aL aM aN aO aP aQ aR aS))=some (a7D O Z aA aB aC aD aE aF aG aH aI aJ aK aL aM aN aO aP aQ aR aS):=qQ (fun⟨a0,a1,a2,a3,a4,a5,a6,a7,a8,a9,a10,a11,a12,a13,a14,a15,a16,a17,a18,a19,a20⟩ ⟨b0,b1,b2,b3,b4,b5,b6,b7,b8,b9,b10,b11,b12,b13,b14,s3,b16,b17,b18,b19,b20⟩ h1 h2=>by cases h1;cases h2;rfl) (O,Z,aA,aB,aC,aD,aE,aF,aG,aH,aI,aJ,aK,aL,aM,aN,aO,aP,aQ,aR,aS)
end
@[go_sem] abbrev a7E:Nat×qC:=(218,⟨[.p rO [11,13],.p sS [3,6]],aGd,[(0,12,.m),(3,4,.r),(3,8,.m)],[1,2,4,5,6,8],none⟩)
theorem aGe:qG Tryz.prog [] (qE [yH,a7k]):=⟨trivial,pM E9 (pM aNo qS),qI⟩
theorem VQ:qG Tryz.prog [uW,DR,M9,C5] (qE [yH,a7k]):=⟨⟨vJ,⟨GB,⟨UR,⟨DQ,trivial⟩⟩⟩⟩,aGe.Γ,qI⟩
theorem aNr:qJ Tryz.prog a7E:=by
 refine qR aGe Tryz.func218 (c:=_) rfl (N:=29) (by kernel_rfl) (ts:=[]) rfl (fun _ _=>rfl) ?_;intro⟨O,Z,aA,aB,aC,aD,aE,aF,aG,aH,aI,aJ,aK,aL,aM,aN,aO,aP,aQ,aR,aS⟩ hs hrow;dsimp only[a7B,a7C,a7D,qM,pN,pW,qH,qO,Nat.reduceAdd] at hs hrow⊢;obtain⟨rfl,rfl,rfl,rfl,rfl,hz⟩:=hs;obtain⟨rfl,_⟩:=hrow;obtain⟨z0,hC0⟩:=aTF.1 hz
 try rw[r8 hC0]
 clear hz;unfold zB at hC0;refine pB VQ ?_;obtain⟨aT,hv1,hw1,hC0⟩:=pZ hC0
 try simp only[go_sem] at hw1
 refine pB VQ ?_ (hp:=by exact⟨by first|rfl|trivial,by first|rfl|trivial,by first|rfl|trivial,by first|rfl|trivial,by first|rfl|trivial,(pY hv1)⟩) (h:=by simp only[go_sem,hw1];rfl)
 refine pB VQ ?_;obtain⟨aU,hv2,hw2,hC0⟩:=pZ hC0
 try simp only[go_sem] at hw2
 obtain⟨hg3,hC0⟩:=pI hC0;refine G5 VQ ?_ (hp:=by exact⟨by first|rfl|trivial,by first|rfl|trivial,by first|rfl|trivial,by first|rfl|trivial,by first|rfl|trivial,by first|rfl|trivial,by first|rfl|trivial,by first|rfl|trivial,by first|rfl|trivial,by first|rfl|trivial,by first|rfl|trivial,by first|rfl|trivial,by first|rfl|trivial,by first|rfl|trivial,pY hv2,by first|rfl|trivial,hg3⟩) (h:=by simp only[go_sem,hw2];rfl)
 cases hC0;exact⟨[(0,0),(1,1),(2,2),(3,3),(4,4),(5,5),(6,6),(7,7),(8,8)],by rfl,by rfl,by rfl⟩
attribute [irreducible] zB
def w8 (O:(List UInt8)) (Z:(Int×Int×Int×(List UInt8)×(List (List UInt8))×(List pV)×(List Int))):(Int×Int×Int×(List rD)×(List Int))→Option ((Int×Int×Int×(List rD)×(List Int))⊕(Int×Int×Int×(List rD)×(List Int))):=fun(aA,aB,aC,aD,aE)=>if (((decide (aC=(0:Int)))==true)=true→((MR O aA)).isSome=true) then if ((decide (aC=(0:Int)))&&(decide ((val (MR O aA))<(O.length:Int))))=true then (IJ (O,(aA,(aB,(aC,((Z.2.2.2.1,(Z.2.2.2.2.1,(Z.2.2.2.2.2.1,(aD,())))),(aE,()))))))).bind fun aF=>some (.inl (aF.1,aF.2.1,aF.2.2.1,aF.2.2.2.1,aF.2.2.2.2)) else some (.inr (aA,aB,aC,aD,aE)) else none
def KK (O:(List UInt8)):Option ((List UInt8)×(List (List UInt8))×(List pV)×(List rD)×(List Int)×Int×Int):=(GX (O,((0:Int),((0:Int),((0:Int),((([]:List UInt8),(([]:List (List UInt8)),(([]:List pV),(([]:List rD),())))),(([]:List Int),()))))))).bind fun Z=>rH (qB (w8 O Z) (Z.1,Z.2.1,Z.2.2.1,([]:List rD),Z.2.2.2.2.2.2)) fun(aA,aB,aC,aD,aE)=>if (!decide (aC=(0:Int)))=true then some ((([]:List UInt8),([]:List (List UInt8)),([]:List pV),([]:List rD),([]:List Int),aB,aC)) else some ((Z.2.2.2.1,Z.2.2.2.2.1,Z.2.2.2.2.2.1,aD,aE,(0:Int),(0:Int)))
attribute [irreducible] KK
def N5 (O:(List UInt8)):Option ((List UInt8)×(List (List UInt8))×(List pV)×(List rD)×Int×Int):=(KK O).bind fun Z=>some ((Z.1,Z.2.1,Z.2.2.1,Z.2.2.2.1,Z.2.2.2.2.2.1,Z.2.2.2.2.2.2))
attribute [irreducible] N5
end
noncomputable section
def yI (O:((List UInt8)×(Int×Unit))) (Z:rS) (aA:Int) (aB:Int) (aC:qZ) (aD:((List Int)×(Int×Unit))) (aE:(List UInt8)) (aF:(List UInt8)) (aG:(List UInt8)) (aH:(List (List UInt8))) (aI:(Int×((List pV)×Unit))) (aJ:Bool) (aK:(List ((List UInt8)×Bool))) (aL:(List (List UInt8))) (aM:(List ((List UInt8)×Bool))):Option (Int×Int×(List UInt8)×Int×Int×Int×Int×Int×(List (List UInt8))):=rH (σ:=(Int×Int)) (if (decide ((aH.length:Int)=(20:Int)))=true then rM (uB O Z aA aB aC aD (6:Int) aK) fun aN=>some ((aN.1,aN.2)) else some ((aA,aB)) ) fun(aO,aP)=>(sF (O.1,(O.2.1,())) (Z.1,(Z.2.1,(Z.2.2.1,(Z.2.2.2.1,())))) aO aP (aC.1,(aC.2.1,(aC.2.2.1,(aC.2.2.2.1,())))) (aD.1,(aD.2.1,())) aK).bind fun aQ=>(xZ (O.1,(aQ.1,())) (aQ.2.1,(aQ.2.2.1,(aQ.2.2.2.1,(aQ.2.2.2.2.1,())))) aO aP (aC.1,(aC.2.1,(aC.2.2.1,(aC.2.2.2.1,())))) (aD.1,(aQ.2.2.2.2.2,())) aK).bind fun aR=>if (aH.length+([aQ.2.2.1]:List (List UInt8)).length)*16≤140737488355328 then some ((aR.1,aR.2.1,aR.2.2.1,aR.2.2.2.1,aR.2.2.2.2.1,aR.2.2.2.2.2.1,aR.2.2.2.2.2.2.1,aR.2.2.2.2.2.2.2,(aH++([aQ.2.2.1]:List (List UInt8))))) else none
section
variable (O:((List UInt8)×(Int×Unit))) (Z:rS) (aA:Int) (aB:Int) (aC:qZ) (aD:((List Int)×(Int×Unit))) (aE:Nat) (aF:Nat) (aG:(List UInt8)) (aH:(List UInt8)) (aI:(List UInt8)) (aJ:(List (List UInt8))) (aK:Nat) (aL:(Int×((List pV)×Unit))) (aM:Bool) (aN:Nat) (aO:Nat) (aP:(List ((List UInt8)×Bool))) (aQ:(List (List UInt8))) (aR:Nat) (aS:(List ((List UInt8)×Bool)))
abbrev a7F:List pD:=[(.val .ref (some (0,0)),none),(.val .ref (some (3,0)),none)]
abbrev a7G:List pC:=[.cells rO (O,(Z,(aA,(aB,(aC,((some 6),aD)))))) [(11,1),(13,2)],.grow 55 7 aE,.grow 3 1 aF,.cells sS ((aG,(aH,(aI,(aJ,((some (7,aK)),aL))))),(aM,((some 8),()))) [(3,4),(6,5)],.grow 9 1 aN,.grow 149 2 aO,.map .str .bool aP,.row 9 .str aQ aR,.map .str .bool aS]
@[go_sem] def a7H:pJ:=⟨[aE=(aC.2.2.2.1.length),aF=(aD.1.length),aN=(aJ.length),aO=(aL.2.1.length),aK=aR,((yI O Z aA aB aC aD aG aH aI aJ aL aM aP aQ aS)).isSome=true],[],[.cells rO ((O.1,((val (yI O Z aA aB aC aD aG aH aI aJ aL aM aP aQ aS)).1,())),(((val (yI O Z aA aB aC aD aG aH aI aJ aL aM aP aQ aS)).2.1,((val (yI O Z aA aB aC aD aG aH aI aJ aL aM aP aQ aS)).2.2.1,((val (yI O Z aA aB aC aD aG aH aI aJ aL aM aP aQ aS)).2.2.2.1,((val (yI O Z aA aB aC aD aG aH aI aJ aL aM aP aQ aS)).2.2.2.2.1,())))),((val (yI O Z aA aB aC aD aG aH aI aJ aL aM aP aQ aS)).2.2.2.2.2.1,((val (yI O Z aA aB aC aD aG aH aI aJ aL aM aP aQ aS)).2.2.2.2.2.2.1,((aC.1,(aC.2.1,(aC.2.2.1,(aC.2.2.2.1,())))),((some 6),(aD.1,((val (yI O Z aA aB aC aD aG aH aI aJ aL aM aP aQ aS)).2.2.2.2.2.2.2.1,())))))))) [(11,1),(13,2)],.grow 55 7 (aC.2.2.2.1.length),.grow 3 1 (aD.1.length),.cells sS ((aG,(aH,(aI,((val (yI O Z aA aB aC aD aG aH aI aJ aL aM aP aQ aS)).2.2.2.2.2.2.2.2,((some (7,(aQ.length))),(aL.1,(aL.2.1,()))))))),(aM,((some 8),()))) [(3,4),(6,5)],.grow 9 1 (((val (yI O Z aA aB aC aD aG aH aI aJ aL aM aP aQ aS)).2.2.2.2.2.2.2.2).length),.grow 149 2 (aL.2.1.length),.map .str .bool aP,.row 9 .str aQ (aQ.length),.map .str .bool aS]⟩
def aGf:List pD→List pC→Option pJ:=qP (V:=(((List UInt8)×(Int×Unit))×rS×Int×Int×qZ×((List Int)×(Int×Unit))×Nat×Nat×(List UInt8)×(List UInt8)×(List UInt8)×(List (List UInt8))×Nat×(Int×((List pV)×Unit))×Bool×Nat×Nat×(List ((List UInt8)×Bool))×(List (List UInt8))×Nat×(List ((List UInt8)×Bool)))) (fun x=>a7F) (fun x=>a7G x.1 x.2.1 x.2.2.1 x.2.2.2.1 x.2.2.2.2.1 x.2.2.2.2.2.1 x.2.2.2.2.2.2.1 x.2.2.2.2.2.2.2.1 x.2.2.2.2.2.2.2.2.1 x.2.2.2.2.2.2.2.2.2.1 x.2.2.2.2.2.2.2.2.2.2.1 x.2.2.2.2.2.2.2.2.2.2.2.1 x.2.2.2.2.2.2.2.2.2.2.2.2.1 x.2.2.2.2.2.2.2.2.2.2.2.2.2.1 x.2.2.2.2.2.2.2.2.2.2.2.2.2.2.1 x.2.2.2.2.2.2.2.2.2.2.2.2.2.2.2.1 x.2.2.2.2.2.2.2.2.2.2.2.2.2.2.2.2.1 x.2.2.2.2.2.2.2.2.2.2.2.2.2.2.2.2.2.1 x.2.2.2.2.2.2.2.2.2.2.2.2.2.2.2.2.2.2.1 x.2.2.2.2.2.2.2.2.2.2.2.2.2.2.2.2.2.2.2.1 x.2.2.2.2.2.2.2.2.2.2.2.2.2.2.2.2.2.2.2.2) fun x=>a7H x.1 x.2.1 x.2.2.1 x.2.2.2.1 x.2.2.2.2.1 x.2.2.2.2.2.1 x.2.2.2.2.2.2.1 x.2.2.2.2.2.2.2.1 x.2.2.2.2.2.2.2.2.1 x.2.2.2.2.2.2.2.2.2.1 x.2.2.2.2.2.2.2.2.2.2.1 x.2.2.2.2.2.2.2.2.2.2.2.1 x.2.2.2.2.2.2.2.2.2.2.2.2.1 x.2.2.2.2.2.2.2.2.2.2.2.2.2.1 x.2.2.2.2.2.2.2.2.2.2.2.2.2.2.1 x.2.2.2.2.2.2.2.2.2.2.2.2.2.2.2.1 x.2.2.2.2.2.2.2.2.2.2.2.2.2.2.2.2.1 x.2.2.2.2.2.2.2.2.2.2.2.2.2.2.2.2.2.1 x.2.2.2.2.2.2.2.2.2.2.2.2.2.2.2.2.2.2.1 x.2.2.2.2.2.2.2.2.2.2.2.2.2.2.2.2.2.2.2.1 x.2.2.2.2.2.2.2.2.2.2.2.2.2.2.2.2.2.2.2.2
@[go_sem] theorem aTr:aGf (no_index a7F) (no_index (a7G O Z aA aB aC aD aE aF aG aH aI aJ aK aL aM aN aO aP aQ aR aS))=some (a7H O Z aA aB aC aD aE aF aG aH aI aJ aK aL aM aN aO aP aQ aR aS):=qQ (fun⟨a0,a1,a2,a3,a4,a5,a6,a7,a8,a9,a10,a11,a12,a13,a14,a15,a16,a17,a18,a19,a20⟩ ⟨b0,b1,b2,b3,b4,b5,b6,b7,b8,b9,b10,b11,b12,b13,b14,s3,b16,b17,b18,b19,b20⟩ h1 h2=>by cases h1;cases h2;rfl) (O,Z,aA,aB,aC,aD,aE,aF,aG,aH,aI,aJ,aK,aL,aM,aN,aO,aP,aQ,aR,aS)
end
@[go_sem] abbrev a7I:Nat×qC:=(213,⟨[.p rO [11,13],.p sS [3,6]],aGf,[(0,12,.m),(3,4,.r),(3,8,.m)],[1,2,5,6,7,8],none⟩)
theorem aGg:qG Tryz.prog [] (qE [zU,yH,GY]):=⟨trivial,pM F3 (pM E9 (pM VP qS)),qI⟩
theorem VR:qG Tryz.prog [uW,DR,C5] (qE [zU,yH,GY]):=⟨⟨vJ,⟨GB,⟨DQ,trivial⟩⟩⟩,aGg.Γ,qI⟩
theorem aNs:qJ Tryz.prog a7I:=by
 refine qR aGg Tryz.func213 (c:=_) rfl (N:=28) (by kernel_rfl) (ts:=[]) rfl (fun _ _=>rfl) ?_;intro⟨O,Z,aA,aB,aC,aD,aE,aF,aG,aH,aI,aJ,aK,aL,aM,aN,aO,aP,aQ,aR,aS⟩ hs hrow;dsimp only[a7F,a7G,a7H,qM,pN,pW,qH,qO,Nat.reduceAdd] at hs hrow⊢;obtain⟨rfl,rfl,rfl,rfl,rfl,hz⟩:=hs;obtain⟨rfl,_⟩:=hrow;obtain⟨z0,hC0⟩:=aTF.1 hz
 try rw[r8 hC0]
 clear hz;unfold yI at hC0;refine pP ?_;refine pB VR ?_;obtain⟨y1,hC1,hC0⟩:=pF hC0;refine BB (fun s=>s=(fun x=>⟨[(0,(.val .ref (some (0,0)),none)),(1,(.val .ref (some (3,0)),none))],[(0,.cells rO ((O.1,(O.2.1,())),((Z.1,(Z.2.1,(Z.2.2.1,(Z.2.2.2.1,())))),(x.1,(x.2,((aC.1,(aC.2.1,(aC.2.2.1,(aC.2.2.2.1,())))),((some 6),(aD.1,(aD.2.1,())))))))) [(11,1),(13,2)]),(1,.grow 55 7 (aC.2.2.2.1.length)),(2,.grow 3 1 (aD.1.length)),(3,.cells sS ((aG,(aH,(aI,(aJ,((some (7,(aQ.length))),(aL.1,(aL.2.1,()))))))),(aM,((some 8),()))) [(3,4),(6,5)]),(4,.grow 9 1 (aJ.length)),(5,.grow 149 2 (aL.2.1.length)),(6,.map .str .bool aP),(7,.row 9 .str aQ (aQ.length)),(8,.map .str .bool aS)],9,28,9⟩) y1) ?_ ?_
 ·refine pO hC1 (fun hC1 hc1=> ?_) (fun hC1 hc1=> ?_)
  ·obtain⟨aT,hw_40,hC1⟩:=vY hC1
   try simp only[go_sem] at hw_40
   refine qU VR ?_ (hp:=by exact⟨by first|rfl|trivial,by first|rfl|trivial,by first|rfl|trivial,by first|rfl|trivial,(by first|rfl|trivial)⟩) (h:=by simp only[go_sem,hw_40];rfl)
   cases hC1;exact uE ⟨⟨[0,1],[(0,0),(1,1),(2,2),(3,3),(4,4),(5,5),(6,6),(7,7),(8,8)]⟩,by rfl⟩
  ·refine qD ?_;cases hC1;exact uE ⟨⟨[0,1],[(0,0),(1,1),(2,2),(3,3),(4,4),(5,5),(6,6),(7,7),(8,8)]⟩,by rfl⟩
 ·rintro _ rfl;obtain⟨aU,aV⟩:=y1;dsimp only at hC0⊢;refine pL ?_;obtain⟨aW,hv1,hw1,hC0⟩:=pZ hC0
  try simp only[go_sem] at hw1
  refine pB VR ?_ (hp:=by exact⟨by first|rfl|trivial,by first|rfl|trivial,by first|rfl|trivial,by first|rfl|trivial,by first|rfl|trivial,(pY hv1)⟩) (h:=by simp only[go_sem,hw1];rfl)
  obtain⟨aX,hv2,hw2,hC0⟩:=pZ hC0
  try simp only[go_sem] at hw2
  obtain⟨hg3,hC0⟩:=pI hC0;refine G5 VR ?_ (hp:=by exact⟨by first|rfl|trivial,by first|rfl|trivial,by first|rfl|trivial,by first|rfl|trivial,by first|rfl|trivial,pY hv2,by first|rfl|trivial,hg3⟩) (h:=by simp only[go_sem,hw2];rfl)
  cases hC0;exact⟨[(0,0),(1,1),(2,2),(3,3),(4,4),(5,5),(6,6),(7,7),(8,8)],by rfl,by rfl,by rfl⟩
attribute [irreducible] yI
def AA (O:((List UInt8)×(Int×Unit))) (Z:rS) (aA:Int) (aB:Int) (aC:qZ) (aD:((List Int)×(Int×Unit))) (aE:(List UInt8)) (aF:(List UInt8)) (aG:(List UInt8)) (aH:(List (List UInt8))) (aI:(Int×((List pV)×Unit))) (aJ:Bool) (aK:(List ((List UInt8)×Bool))) (aL:(List (List UInt8))) (aM:(List ((List UInt8)×Bool))):Option (Int×Int×(List UInt8)×Int×Int×Int×Int×Int×(List pV)):=(sF O Z aA aB aC aD aK).bind fun aN=>(BK (O.1,(aN.1,())) (aN.2.1,(aN.2.2.1,(aN.2.2.2.1,(aN.2.2.2.2.1,())))) aA aB (aC.1,(aC.2.1,(aC.2.2.1,(aC.2.2.2.1,())))) (aD.1,(aN.2.2.2.2.2,())) (1:Int) (decide ((aI.2.1.length:Int)=(20:Int))) aK aE aF aG aH aI aJ aL aM).bind fun aO=>(xZ (O.1,(aO.1,())) (aO.2.1,(aO.2.2.1,(aO.2.2.2.1,(aO.2.2.2.2.1,())))) aO.2.2.2.2.2.1 aO.2.2.2.2.2.2.1 (aC.1,(aC.2.1,(aC.2.2.1,(aC.2.2.2.1,())))) (aD.1,(aO.2.2.2.2.2.2.2,())) aK).bind fun aP=>(I9 aI.2.1 aN.2.2.1 aO.2.2.1).bind fun aQ=>some ((aP.1,aP.2.1,aP.2.2.1,aP.2.2.2.1,aP.2.2.2.2.1,aP.2.2.2.2.2.1,aP.2.2.2.2.2.2.1,aP.2.2.2.2.2.2.2,aQ))
section
variable (O:((List UInt8)×(Int×Unit))) (Z:rS) (aA:Int) (aB:Int) (aC:qZ) (aD:((List Int)×(Int×Unit))) (aE:Nat) (aF:Nat) (aG:(List UInt8)) (aH:(List UInt8)) (aI:(List UInt8)) (aJ:(List (List UInt8))) (aK:Nat) (aL:(Int×((List pV)×Unit))) (aM:Bool) (aN:Nat) (aO:Nat) (aP:(List ((List UInt8)×Bool))) (aQ:(List (List UInt8))) (aR:Nat) (aS:(List ((List UInt8)×Bool)))
abbrev a7J:List pD:=[(.val .ref (some (0,0)),none),(.val .ref (some (3,0)),none)]
abbrev a7K:List pC:=[.cells rO (O,(Z,(aA,(aB,(aC,((some 6),aD)))))) [(11,1),(13,2)],.grow 55 7 aE,.grow 3 1 aF,.cells sS ((aG,(aH,(aI,(aJ,((some (7,aK)),aL))))),(aM,((some 8),()))) [(3,4),(6,5)],.grow 9 1 aN,.grow 149 2 aO,.map .str .bool aP,.row 9 .str aQ aR,.map .str .bool aS]
@[go_sem] def a7L:pJ:=⟨[aE=(aC.2.2.2.1.length),aF=(aD.1.length),aN=(aJ.length),aO=(aL.2.1.length),aK=aR,((AA O Z aA aB aC aD aG aH aI aJ aL aM aP aQ aS)).isSome=true],[],[.cells rO ((O.1,((val (AA O Z aA aB aC aD aG aH aI aJ aL aM aP aQ aS)).1,())),(((val (AA O Z aA aB aC aD aG aH aI aJ aL aM aP aQ aS)).2.1,((val (AA O Z aA aB aC aD aG aH aI aJ aL aM aP aQ aS)).2.2.1,((val (AA O Z aA aB aC aD aG aH aI aJ aL aM aP aQ aS)).2.2.2.1,((val (AA O Z aA aB aC aD aG aH aI aJ aL aM aP aQ aS)).2.2.2.2.1,())))),((val (AA O Z aA aB aC aD aG aH aI aJ aL aM aP aQ aS)).2.2.2.2.2.1,((val (AA O Z aA aB aC aD aG aH aI aJ aL aM aP aQ aS)).2.2.2.2.2.2.1,((aC.1,(aC.2.1,(aC.2.2.1,(aC.2.2.2.1,())))),((some 6),(aD.1,((val (AA O Z aA aB aC aD aG aH aI aJ aL aM aP aQ aS)).2.2.2.2.2.2.2.1,())))))))) [(11,1),(13,2)],.grow 55 7 (aC.2.2.2.1.length),.grow 3 1 (aD.1.length),.cells sS ((aG,(aH,(aI,(aJ,((some (7,(aQ.length))),(aL.1,((val (AA O Z aA aB aC aD aG aH aI aJ aL aM aP aQ aS)).2.2.2.2.2.2.2.2,()))))))),(aM,((some 8),()))) [(3,4),(6,9)],.grow 9 1 (aJ.length),.grow 149 2 (aL.2.1.length),.map .str .bool aP,.row 9 .str aQ (aQ.length),.map .str .bool aS,.grow 149 2 (((val (AA O Z aA aB aC aD aG aH aI aJ aL aM aP aQ aS)).2.2.2.2.2.2.2.2).length)]⟩
def aGh:List pD→List pC→Option pJ:=qP (V:=(((List UInt8)×(Int×Unit))×rS×Int×Int×qZ×((List Int)×(Int×Unit))×Nat×Nat×(List UInt8)×(List UInt8)×(List UInt8)×(List (List UInt8))×Nat×(Int×((List pV)×Unit))×Bool×Nat×Nat×(List ((List UInt8)×Bool))×(List (List UInt8))×Nat×(List ((List UInt8)×Bool)))) (fun x=>a7J) (fun x=>a7K x.1 x.2.1 x.2.2.1 x.2.2.2.1 x.2.2.2.2.1 x.2.2.2.2.2.1 x.2.2.2.2.2.2.1 x.2.2.2.2.2.2.2.1 x.2.2.2.2.2.2.2.2.1 x.2.2.2.2.2.2.2.2.2.1 x.2.2.2.2.2.2.2.2.2.2.1 x.2.2.2.2.2.2.2.2.2.2.2.1 x.2.2.2.2.2.2.2.2.2.2.2.2.1 x.2.2.2.2.2.2.2.2.2.2.2.2.2.1 x.2.2.2.2.2.2.2.2.2.2.2.2.2.2.1 x.2.2.2.2.2.2.2.2.2.2.2.2.2.2.2.1 x.2.2.2.2.2.2.2.2.2.2.2.2.2.2.2.2.1 x.2.2.2.2.2.2.2.2.2.2.2.2.2.2.2.2.2.1 x.2.2.2.2.2.2.2.2.2.2.2.2.2.2.2.2.2.2.1 x.2.2.2.2.2.2.2.2.2.2.2.2.2.2.2.2.2.2.2.1 x.2.2.2.2.2.2.2.2.2.2.2.2.2.2.2.2.2.2.2.2) fun x=>a7L x.1 x.2.1 x.2.2.1 x.2.2.2.1 x.2.2.2.2.1 x.2.2.2.2.2.1 x.2.2.2.2.2.2.1 x.2.2.2.2.2.2.2.1 x.2.2.2.2.2.2.2.2.1 x.2.2.2.2.2.2.2.2.2.1 x.2.2.2.2.2.2.2.2.2.2.1 x.2.2.2.2.2.2.2.2.2.2.2.1 x.2.2.2.2.2.2.2.2.2.2.2.2.1 x.2.2.2.2.2.2.2.2.2.2.2.2.2.1 x.2.2.2.2.2.2.2.2.2.2.2.2.2.2.1 x.2.2.2.2.2.2.2.2.2.2.2.2.2.2.2.1 x.2.2.2.2.2.2.2.2.2.2.2.2.2.2.2.2.1 x.2.2.2.2.2.2.2.2.2.2.2.2.2.2.2.2.2.1 x.2.2.2.2.2.2.2.2.2.2.2.2.2.2.2.2.2.2.1 x.2.2.2.2.2.2.2.2.2.2.2.2.2.2.2.2.2.2.2.1 x.2.2.2.2.2.2.2.2.2.2.2.2.2.2.2.2.2.2.2.2
@[go_sem] theorem aTs:aGh (no_index a7J) (no_index (a7K O Z aA aB aC aD aE aF aG aH aI aJ aK aL aM aN aO aP aQ aR aS))=some (a7L O Z aA aB aC aD aE aF aG aH aI aJ aK aL aM aN aO aP aQ aR aS):=qQ (fun⟨a0,a1,a2,a3,a4,a5,a6,a7,a8,a9,a10,a11,a12,a13,a14,a15,a16,a17,a18,a19,a20⟩ ⟨b0,b1,b2,b3,b4,b5,b6,b7,b8,b9,b10,b11,b12,b13,b14,s3,b16,b17,b18,b19,b20⟩ h1 h2=>by cases h1;cases h2;rfl) (O,Z,aA,aB,aC,aD,aE,aF,aG,aH,aI,aJ,aK,aL,aM,aN,aO,aP,aQ,aR,aS)
end
@[go_sem] abbrev a7M:Nat×qC:=(214,⟨[.p rO [11,13],.p sS [3,6]],aGh,[(0,12,.m),(3,4,.r),(3,8,.m)],[1,2,4,5,6,7,8],none⟩)
theorem aGi:qG Tryz.prog [] (qE [yH,a7g,GY,a4U]):=⟨trivial,pM E9 (pM aNn (pM VP (pM aMU qS))),qI⟩
theorem QV:qG Tryz.prog [w5,DR,M9,C5] (qE [yH,a7g,GY,a4U]):=⟨⟨wU,⟨GB,⟨UR,⟨DQ,trivial⟩⟩⟩⟩,aGi.Γ,qI⟩
theorem aNt:qJ Tryz.prog a7M:=by
 refine qR aGi Tryz.func214 (c:=_) rfl (N:=32) (by kernel_rfl) (ts:=[]) rfl (fun _ _=>rfl) ?_;intro⟨O,Z,aA,aB,aC,aD,aE,aF,aG,aH,aI,aJ,aK,aL,aM,aN,aO,aP,aQ,aR,aS⟩ hs hrow;dsimp only[a7J,a7K,a7L,qM,pN,pW,qH,qO,Nat.reduceAdd] at hs hrow⊢;obtain⟨rfl,rfl,rfl,rfl,rfl,hz⟩:=hs;obtain⟨rfl,_⟩:=hrow;obtain⟨z0,hC0⟩:=aTF.1 hz
 try rw[r8 hC0]
 clear hz;unfold AA at hC0;refine pB QV ?_;obtain⟨aT,hv1,hw1,hC0⟩:=pZ hC0
 try simp only[go_sem] at hw1
 refine pB QV ?_ (hp:=by exact⟨by first|rfl|trivial,by first|rfl|trivial,by first|rfl|trivial,by first|rfl|trivial,by first|rfl|trivial,(pY hv1)⟩) (h:=by simp only[go_sem,hw1];rfl)
 refine pB QV ?_;obtain⟨aU,hv2,hw2,hC0⟩:=pZ hC0
 try simp only[go_sem] at hw2
 refine pB QV ?_ (hp:=by exact⟨by first|rfl|trivial,by first|rfl|trivial,by first|rfl|trivial,by first|rfl|trivial,by first|rfl|trivial,by first|rfl|trivial,by first|rfl|trivial,by first|rfl|trivial,by first|rfl|trivial,by first|rfl|trivial,by first|rfl|trivial,by first|rfl|trivial,by first|rfl|trivial,by first|rfl|trivial,(pY hv2)⟩) (h:=by simp only[go_sem,hw2];rfl)
 obtain⟨aV,hv3,hw3,hC0⟩:=pZ hC0
 try simp only[go_sem] at hw3
 obtain⟨aW,hv4,hw4,hC0⟩:=pZ hC0
 try simp only[go_sem] at hw4
 refine G5 QV ?_ (hp:=by exact⟨by first|rfl|trivial,by first|rfl|trivial,by first|rfl|trivial,by first|rfl|trivial,by first|rfl|trivial,pY hv3,(pY hv4)⟩) (h:=by simp only[go_sem,hw3,hw4];rfl)
 cases hC0;exact⟨[(0,0),(1,1),(2,2),(3,3),(4,4),(5,5),(6,6),(7,7),(8,8),(9,809)],by rfl,by rfl,by rfl⟩
attribute [irreducible] AA
end
noncomputable section
def AR (O:((List UInt8)×(Int×Unit))) (Z:rS) (aA:Int) (aB:Int) (aC:qZ) (aD:((List Int)×(Int×Unit))) (aE:(List UInt8)) (aF:(List UInt8)) (aG:(List UInt8)) (aH:(List (List UInt8))) (aI:(Int×((List pV)×Unit))) (aJ:Bool) (aK:(List ((List UInt8)×Bool))) (aL:(List (List UInt8))) (aM:(List ((List UInt8)×Bool))):Option (Int×Int×(List UInt8)×Int×Int×Int×Int×Int×(List UInt8)):=(zV O Z aA aB aC aD aE aF aG aH aI aJ aK aL aM).bind fun aN=>(xZ (O.1,(aN.1,())) (aN.2.1,(aN.2.2.1,(aN.2.2.2.1,(aN.2.2.2.2.1,())))) aN.2.2.2.2.2.1 aN.2.2.2.2.2.2.1 (aC.1,(aC.2.1,(aC.2.2.1,(aC.2.2.2.1,())))) (aD.1,(aN.2.2.2.2.2.2.2,())) aK).bind fun aO=>some ((aO.1,aO.2.1,aO.2.2.1,aO.2.2.2.1,aO.2.2.2.2.1,aO.2.2.2.2.2.1,aO.2.2.2.2.2.2.1,aO.2.2.2.2.2.2.2,aN.2.2.1))
section
variable (O:((List UInt8)×(Int×Unit))) (Z:rS) (aA:Int) (aB:Int) (aC:qZ) (aD:((List Int)×(Int×Unit))) (aE:Nat) (aF:Nat) (aG:(List UInt8)) (aH:(List UInt8)) (aI:(List UInt8)) (aJ:(List (List UInt8))) (aK:Nat) (aL:(Int×((List pV)×Unit))) (aM:Bool) (aN:Nat) (aO:Nat) (aP:(List ((List UInt8)×Bool))) (aQ:(List (List UInt8))) (aR:Nat) (aS:(List ((List UInt8)×Bool)))
abbrev a7N:List pD:=[(.val .ref (some (0,0)),none),(.val .ref (some (3,0)),none)]
abbrev a7O:List pC:=[.cells rO (O,(Z,(aA,(aB,(aC,((some 6),aD)))))) [(11,1),(13,2)],.grow 55 7 aE,.grow 3 1 aF,.cells sS ((aG,(aH,(aI,(aJ,((some (7,aK)),aL))))),(aM,((some 8),()))) [(3,4),(6,5)],.grow 9 1 aN,.grow 149 2 aO,.map .str .bool aP,.row 9 .str aQ aR,.map .str .bool aS]
@[go_sem] def a7P:pJ:=⟨[aE=(aC.2.2.2.1.length),aF=(aD.1.length),aN=(aJ.length),aO=(aL.2.1.length),aK=aR,((AR O Z aA aB aC aD aG aH aI aJ aL aM aP aQ aS)).isSome=true],[],[.cells rO ((O.1,((val (AR O Z aA aB aC aD aG aH aI aJ aL aM aP aQ aS)).1,())),(((val (AR O Z aA aB aC aD aG aH aI aJ aL aM aP aQ aS)).2.1,((val (AR O Z aA aB aC aD aG aH aI aJ aL aM aP aQ aS)).2.2.1,((val (AR O Z aA aB aC aD aG aH aI aJ aL aM aP aQ aS)).2.2.2.1,((val (AR O Z aA aB aC aD aG aH aI aJ aL aM aP aQ aS)).2.2.2.2.1,())))),((val (AR O Z aA aB aC aD aG aH aI aJ aL aM aP aQ aS)).2.2.2.2.2.1,((val (AR O Z aA aB aC aD aG aH aI aJ aL aM aP aQ aS)).2.2.2.2.2.2.1,((aC.1,(aC.2.1,(aC.2.2.1,(aC.2.2.2.1,())))),((some 6),(aD.1,((val (AR O Z aA aB aC aD aG aH aI aJ aL aM aP aQ aS)).2.2.2.2.2.2.2.1,())))))))) [(11,1),(13,2)],.grow 55 7 (aC.2.2.2.1.length),.grow 3 1 (aD.1.length),.cells sS ((aG,((val (AR O Z aA aB aC aD aG aH aI aJ aL aM aP aQ aS)).2.2.2.2.2.2.2.2,(aI,(aJ,((some (7,(aQ.length))),(aL.1,(aL.2.1,()))))))),(aM,((some 8),()))) [(3,4),(6,5)],.grow 9 1 (aJ.length),.grow 149 2 (aL.2.1.length),.map .str .bool aP,.row 9 .str aQ (aQ.length),.map .str .bool (sL .str .bool Z.2.1 true aS)]⟩
def aGj:List pD→List pC→Option pJ:=qP (V:=(((List UInt8)×(Int×Unit))×rS×Int×Int×qZ×((List Int)×(Int×Unit))×Nat×Nat×(List UInt8)×(List UInt8)×(List UInt8)×(List (List UInt8))×Nat×(Int×((List pV)×Unit))×Bool×Nat×Nat×(List ((List UInt8)×Bool))×(List (List UInt8))×Nat×(List ((List UInt8)×Bool)))) (fun x=>a7N) (fun x=>a7O x.1 x.2.1 x.2.2.1 x.2.2.2.1 x.2.2.2.2.1 x.2.2.2.2.2.1 x.2.2.2.2.2.2.1 x.2.2.2.2.2.2.2.1 x.2.2.2.2.2.2.2.2.1 x.2.2.2.2.2.2.2.2.2.1 x.2.2.2.2.2.2.2.2.2.2.1 x.2.2.2.2.2.2.2.2.2.2.2.1 x.2.2.2.2.2.2.2.2.2.2.2.2.1 x.2.2.2.2.2.2.2.2.2.2.2.2.2.1 x.2.2.2.2.2.2.2.2.2.2.2.2.2.2.1 x.2.2.2.2.2.2.2.2.2.2.2.2.2.2.2.1 x.2.2.2.2.2.2.2.2.2.2.2.2.2.2.2.2.1 x.2.2.2.2.2.2.2.2.2.2.2.2.2.2.2.2.2.1 x.2.2.2.2.2.2.2.2.2.2.2.2.2.2.2.2.2.2.1 x.2.2.2.2.2.2.2.2.2.2.2.2.2.2.2.2.2.2.2.1 x.2.2.2.2.2.2.2.2.2.2.2.2.2.2.2.2.2.2.2.2) fun x=>a7P x.1 x.2.1 x.2.2.1 x.2.2.2.1 x.2.2.2.2.1 x.2.2.2.2.2.1 x.2.2.2.2.2.2.1 x.2.2.2.2.2.2.2.1 x.2.2.2.2.2.2.2.2.1 x.2.2.2.2.2.2.2.2.2.1 x.2.2.2.2.2.2.2.2.2.2.1 x.2.2.2.2.2.2.2.2.2.2.2.1 x.2.2.2.2.2.2.2.2.2.2.2.2.1 x.2.2.2.2.2.2.2.2.2.2.2.2.2.1 x.2.2.2.2.2.2.2.2.2.2.2.2.2.2.1 x.2.2.2.2.2.2.2.2.2.2.2.2.2.2.2.1 x.2.2.2.2.2.2.2.2.2.2.2.2.2.2.2.2.1 x.2.2.2.2.2.2.2.2.2.2.2.2.2.2.2.2.2.1 x.2.2.2.2.2.2.2.2.2.2.2.2.2.2.2.2.2.2.1 x.2.2.2.2.2.2.2.2.2.2.2.2.2.2.2.2.2.2.2.1 x.2.2.2.2.2.2.2.2.2.2.2.2.2.2.2.2.2.2.2.2
@[go_sem] theorem aTt:aGj (no_index a7N) (no_index (a7O O Z aA aB aC aD aE aF aG aH aI aJ aK aL aM aN aO aP aQ aR aS))=some (a7P O Z aA aB aC aD aE aF aG aH aI aJ aK aL aM aN aO aP aQ aR aS):=qQ (fun⟨a0,a1,a2,a3,a4,a5,a6,a7,a8,a9,a10,a11,a12,a13,a14,a15,a16,a17,a18,a19,a20⟩ ⟨b0,b1,b2,b3,b4,b5,b6,b7,b8,b9,b10,b11,b12,b13,b14,s3,b16,b17,b18,b19,b20⟩ h1 h2=>by cases h1;cases h2;rfl) (O,Z,aA,aB,aC,aD,aE,aF,aG,aH,aI,aJ,aK,aL,aM,aN,aO,aP,aQ,aR,aS)
end
@[go_sem] abbrev a7Q:Nat×qC:=(215,⟨[.p rO [11,13],.p sS [3,6]],aGj,[(0,12,.m),(3,4,.r),(3,8,.m)],[1,2,4,5,6,7],none⟩)
theorem aGk:qG Tryz.prog [] (qE [KJ,GY]):=⟨trivial,pM a62 (pM VP qS),qI⟩
theorem aGl:qG Tryz.prog [rP,DR,C5] (qE [KJ,GY]):=⟨⟨rQ,⟨GB,⟨DQ,trivial⟩⟩⟩,aGk.Γ,qI⟩
theorem aNu:qJ Tryz.prog a7Q:=by
 refine qR aGk Tryz.func215 (c:=_) rfl (N:=13) (by kernel_rfl) (ts:=[]) rfl (fun _ _=>rfl) ?_;intro⟨O,Z,aA,aB,aC,aD,aE,aF,aG,aH,aI,aJ,aK,aL,aM,aN,aO,aP,aQ,aR,aS⟩ hs hrow;dsimp only[a7N,a7O,a7P,qM,pN,pW,qH,qO,Nat.reduceAdd] at hs hrow⊢;obtain⟨rfl,rfl,rfl,rfl,rfl,hz⟩:=hs;obtain⟨rfl,_⟩:=hrow;obtain⟨z0,hC0⟩:=aTF.1 hz
 try rw[r8 hC0]
 clear hz;unfold AR at hC0;obtain⟨aT,hv1,hw1,hC0⟩:=pZ hC0
 try simp only[go_sem] at hw1
 refine pB aGl ?_ (hp:=by exact⟨by first|rfl|trivial,by first|rfl|trivial,by first|rfl|trivial,by first|rfl|trivial,by first|rfl|trivial,by first|rfl|trivial,by first|rfl|trivial,by first|rfl|trivial,by first|rfl|trivial,by first|rfl|trivial,by first|rfl|trivial,by first|rfl|trivial,(pY hv1)⟩) (h:=by simp only[go_sem,hw1];rfl)
 obtain⟨aU,hv2,hw2,hC0⟩:=pZ hC0
 try simp only[go_sem] at hw2
 refine qU aGl ?_ (hp:=by exact⟨by first|rfl|trivial,by first|rfl|trivial,by first|rfl|trivial,by first|rfl|trivial,by first|rfl|trivial,(pY hv2)⟩) (h:=by simp only[go_sem,hw2];rfl)
 cases hC0;exact⟨[(0,0),(1,1),(2,2),(3,3),(4,4),(5,5),(6,6),(7,7),(8,8)],by rfl,by rfl,by rfl⟩
attribute [irreducible] AR
def AS (O:((List UInt8)×(Int×Unit))) (Z:rS) (aA:Int) (aB:Int) (aC:qZ) (aD:((List Int)×(Int×Unit))) (aE:(List UInt8)) (aF:(List UInt8)) (aG:(List UInt8)) (aH:(List (List UInt8))) (aI:(Int×((List pV)×Unit))) (aJ:Bool) (aK:(List ((List UInt8)×Bool))) (aL:(List (List UInt8))) (aM:(List ((List UInt8)×Bool))):Option (Int×Int×(List UInt8)×Int×Int×Int×Int×Int×(List UInt8)):=(zV O Z aA aB aC aD aE aF aG aH aI aJ aK aL aM).bind fun aN=>(xZ (O.1,(aN.1,())) (aN.2.1,(aN.2.2.1,(aN.2.2.2.1,(aN.2.2.2.2.1,())))) aN.2.2.2.2.2.1 aN.2.2.2.2.2.2.1 (aC.1,(aC.2.1,(aC.2.2.1,(aC.2.2.2.1,())))) (aD.1,(aN.2.2.2.2.2.2.2,())) aK).bind fun aO=>some ((aO.1,aO.2.1,aO.2.2.1,aO.2.2.2.1,aO.2.2.2.2.1,aO.2.2.2.2.2.1,aO.2.2.2.2.2.2.1,aO.2.2.2.2.2.2.2,aN.2.2.1))
section
variable (O:((List UInt8)×(Int×Unit))) (Z:rS) (aA:Int) (aB:Int) (aC:qZ) (aD:((List Int)×(Int×Unit))) (aE:Nat) (aF:Nat) (aG:(List UInt8)) (aH:(List UInt8)) (aI:(List UInt8)) (aJ:(List (List UInt8))) (aK:Nat) (aL:(Int×((List pV)×Unit))) (aM:Bool) (aN:Nat) (aO:Nat) (aP:(List ((List UInt8)×Bool))) (aQ:(List (List UInt8))) (aR:Nat) (aS:(List ((List UInt8)×Bool)))
abbrev a7R:List pD:=[(.val .ref (some (0,0)),none),(.val .ref (some (3,0)),none)]
abbrev a7S:List pC:=[.cells rO (O,(Z,(aA,(aB,(aC,((some 6),aD)))))) [(11,1),(13,2)],.grow 55 7 aE,.grow 3 1 aF,.cells sS ((aG,(aH,(aI,(aJ,((some (7,aK)),aL))))),(aM,((some 8),()))) [(3,4),(6,5)],.grow 9 1 aN,.grow 149 2 aO,.map .str .bool aP,.row 9 .str aQ aR,.map .str .bool aS]
@[go_sem] def a7T:pJ:=⟨[aE=(aC.2.2.2.1.length),aF=(aD.1.length),aN=(aJ.length),aO=(aL.2.1.length),aK=aR,((AS O Z aA aB aC aD aG aH aI aJ aL aM aP aQ aS)).isSome=true],[],[.cells rO ((O.1,((val (AS O Z aA aB aC aD aG aH aI aJ aL aM aP aQ aS)).1,())),(((val (AS O Z aA aB aC aD aG aH aI aJ aL aM aP aQ aS)).2.1,((val (AS O Z aA aB aC aD aG aH aI aJ aL aM aP aQ aS)).2.2.1,((val (AS O Z aA aB aC aD aG aH aI aJ aL aM aP aQ aS)).2.2.2.1,((val (AS O Z aA aB aC aD aG aH aI aJ aL aM aP aQ aS)).2.2.2.2.1,())))),((val (AS O Z aA aB aC aD aG aH aI aJ aL aM aP aQ aS)).2.2.2.2.2.1,((val (AS O Z aA aB aC aD aG aH aI aJ aL aM aP aQ aS)).2.2.2.2.2.2.1,((aC.1,(aC.2.1,(aC.2.2.1,(aC.2.2.2.1,())))),((some 6),(aD.1,((val (AS O Z aA aB aC aD aG aH aI aJ aL aM aP aQ aS)).2.2.2.2.2.2.2.1,())))))))) [(11,1),(13,2)],.grow 55 7 (aC.2.2.2.1.length),.grow 3 1 (aD.1.length),.cells sS ((aG,(aH,((val (AS O Z aA aB aC aD aG aH aI aJ aL aM aP aQ aS)).2.2.2.2.2.2.2.2,(aJ,((some (7,(aQ.length))),(aL.1,(aL.2.1,()))))))),(aM,((some 8),()))) [(3,4),(6,5)],.grow 9 1 (aJ.length),.grow 149 2 (aL.2.1.length),.map .str .bool aP,.row 9 .str aQ (aQ.length),.map .str .bool (sL .str .bool Z.2.1 true aS)]⟩
def aGm:List pD→List pC→Option pJ:=qP (V:=(((List UInt8)×(Int×Unit))×rS×Int×Int×qZ×((List Int)×(Int×Unit))×Nat×Nat×(List UInt8)×(List UInt8)×(List UInt8)×(List (List UInt8))×Nat×(Int×((List pV)×Unit))×Bool×Nat×Nat×(List ((List UInt8)×Bool))×(List (List UInt8))×Nat×(List ((List UInt8)×Bool)))) (fun x=>a7R) (fun x=>a7S x.1 x.2.1 x.2.2.1 x.2.2.2.1 x.2.2.2.2.1 x.2.2.2.2.2.1 x.2.2.2.2.2.2.1 x.2.2.2.2.2.2.2.1 x.2.2.2.2.2.2.2.2.1 x.2.2.2.2.2.2.2.2.2.1 x.2.2.2.2.2.2.2.2.2.2.1 x.2.2.2.2.2.2.2.2.2.2.2.1 x.2.2.2.2.2.2.2.2.2.2.2.2.1 x.2.2.2.2.2.2.2.2.2.2.2.2.2.1 x.2.2.2.2.2.2.2.2.2.2.2.2.2.2.1 x.2.2.2.2.2.2.2.2.2.2.2.2.2.2.2.1 x.2.2.2.2.2.2.2.2.2.2.2.2.2.2.2.2.1 x.2.2.2.2.2.2.2.2.2.2.2.2.2.2.2.2.2.1 x.2.2.2.2.2.2.2.2.2.2.2.2.2.2.2.2.2.2.1 x.2.2.2.2.2.2.2.2.2.2.2.2.2.2.2.2.2.2.2.1 x.2.2.2.2.2.2.2.2.2.2.2.2.2.2.2.2.2.2.2.2) fun x=>a7T x.1 x.2.1 x.2.2.1 x.2.2.2.1 x.2.2.2.2.1 x.2.2.2.2.2.1 x.2.2.2.2.2.2.1 x.2.2.2.2.2.2.2.1 x.2.2.2.2.2.2.2.2.1 x.2.2.2.2.2.2.2.2.2.1 x.2.2.2.2.2.2.2.2.2.2.1 x.2.2.2.2.2.2.2.2.2.2.2.1 x.2.2.2.2.2.2.2.2.2.2.2.2.1 x.2.2.2.2.2.2.2.2.2.2.2.2.2.1 x.2.2.2.2.2.2.2.2.2.2.2.2.2.2.1 x.2.2.2.2.2.2.2.2.2.2.2.2.2.2.2.1 x.2.2.2.2.2.2.2.2.2.2.2.2.2.2.2.2.1 x.2.2.2.2.2.2.2.2.2.2.2.2.2.2.2.2.2.1 x.2.2.2.2.2.2.2.2.2.2.2.2.2.2.2.2.2.2.1 x.2.2.2.2.2.2.2.2.2.2.2.2.2.2.2.2.2.2.2.1 x.2.2.2.2.2.2.2.2.2.2.2.2.2.2.2.2.2.2.2.2
@[go_sem] theorem aTu:aGm (no_index a7R) (no_index (a7S O Z aA aB aC aD aE aF aG aH aI aJ aK aL aM aN aO aP aQ aR aS))=some (a7T O Z aA aB aC aD aE aF aG aH aI aJ aK aL aM aN aO aP aQ aR aS):=qQ (fun⟨a0,a1,a2,a3,a4,a5,a6,a7,a8,a9,a10,a11,a12,a13,a14,a15,a16,a17,a18,a19,a20⟩ ⟨b0,b1,b2,b3,b4,b5,b6,b7,b8,b9,b10,b11,b12,b13,b14,s3,b16,b17,b18,b19,b20⟩ h1 h2=>by cases h1;cases h2;rfl) (O,Z,aA,aB,aC,aD,aE,aF,aG,aH,aI,aJ,aK,aL,aM,aN,aO,aP,aQ,aR,aS)
end
@[go_sem] abbrev a7U:Nat×qC:=(216,⟨[.p rO [11,13],.p sS [3,6]],aGm,[(0,12,.m),(3,4,.r),(3,8,.m)],[1,2,4,5,6,7],none⟩)
theorem aGn:qG Tryz.prog [] (qE [KJ,GY]):=⟨trivial,pM a62 (pM VP qS),qI⟩
theorem aGo:qG Tryz.prog [rP,DR,C5] (qE [KJ,GY]):=⟨⟨rQ,⟨GB,⟨DQ,trivial⟩⟩⟩,aGn.Γ,qI⟩
theorem aNv:qJ Tryz.prog a7U:=by
 refine qR aGn Tryz.func216 (c:=_) rfl (N:=13) (by kernel_rfl) (ts:=[]) rfl (fun _ _=>rfl) ?_;intro⟨O,Z,aA,aB,aC,aD,aE,aF,aG,aH,aI,aJ,aK,aL,aM,aN,aO,aP,aQ,aR,aS⟩ hs hrow;dsimp only[a7R,a7S,a7T,qM,pN,pW,qH,qO,Nat.reduceAdd] at hs hrow⊢;obtain⟨rfl,rfl,rfl,rfl,rfl,hz⟩:=hs;obtain⟨rfl,_⟩:=hrow;obtain⟨z0,hC0⟩:=aTF.1 hz
 try rw[r8 hC0]
 clear hz;unfold AS at hC0;obtain⟨aT,hv1,hw1,hC0⟩:=pZ hC0
 try simp only[go_sem] at hw1
 refine pB aGo ?_ (hp:=by exact⟨by first|rfl|trivial,by first|rfl|trivial,by first|rfl|trivial,by first|rfl|trivial,by first|rfl|trivial,by first|rfl|trivial,by first|rfl|trivial,by first|rfl|trivial,by first|rfl|trivial,by first|rfl|trivial,by first|rfl|trivial,by first|rfl|trivial,(pY hv1)⟩) (h:=by simp only[go_sem,hw1];rfl)
 obtain⟨aU,hv2,hw2,hC0⟩:=pZ hC0
 try simp only[go_sem] at hw2
 refine qU aGo ?_ (hp:=by exact⟨by first|rfl|trivial,by first|rfl|trivial,by first|rfl|trivial,by first|rfl|trivial,by first|rfl|trivial,(pY hv2)⟩) (h:=by simp only[go_sem,hw2];rfl)
 cases hC0;exact⟨[(0,0),(1,1),(2,2),(3,3),(4,4),(5,5),(6,6),(7,7),(8,8)],by rfl,by rfl,by rfl⟩
attribute [irreducible] AS
end
noncomputable section
def vQ (O:((List UInt8)×(Int×Unit))) (Z:qZ) (aA:((List Int)×(Int×Unit))) (aB:Bool) (aC:(List ((List UInt8)×Bool))):(Int×Int×(List UInt8)×Int×Int×Int×Int×Int×(List UInt8)×(List UInt8)×(List (List UInt8))×Int×(List pV)×(List (List UInt8))×(List ((List UInt8)×Bool)))→Option ((Int×Int×(List UInt8)×Int×Int×Int×Int×Int×(List UInt8)×(List UInt8)×(List (List UInt8))×Int×(List pV)×(List (List UInt8))×(List ((List UInt8)×Bool)))⊕(Int×Int×(List UInt8)×Int×Int×Int×Int×Int×(List UInt8)×(List UInt8)×(List (List UInt8))×Int×(List pV)×(List (List UInt8))×(List ((List UInt8)×Bool)))):=fun(aD,aE,aF,aG,aH,aI,aJ,aK,aL,aM,aN,aO,aP,aQ,aR)=>if ((decide (aJ=(0:Int)))&&(decide (aE=(2:Int))))=true then if (!(xA .str .fn (wV ([]:List UInt8) aL aM aN (aO,(aP,())) aB aQ aR) aF))=true then rM (uB (O.1,(aD,())) (aE,(aF,(aG,(aH,())))) aI aJ (Z.1,(Z.2.1,(Z.2.2.1,(Z.2.2.2.1,())))) (aA.1,(aK,())) (3:Int) aC) fun aS=>some (.inr (aD,aE,aF,aG,aH,aS.1,aS.2,aK,aL,aM,aN,aO,aP,aQ,aR)) else rM (rV .str .fn (wV ([]:List UInt8) aL aM aN (aO,(aP,())) aB aQ aR) aF) fun aT=>if aT=some 213 then (yI (O.1,(aD,())) (aE,(aF,(aG,(aH,())))) aI aJ (Z.1,(Z.2.1,(Z.2.2.1,(Z.2.2.2.1,())))) (aA.1,(aK,())) ([]:List UInt8) aL aM aN (aO,(aP,())) aB aC aQ aR).bind fun aU=>some (.inl (aU.1,aU.2.1,aU.2.2.1,aU.2.2.2.1,aU.2.2.2.2.1,aU.2.2.2.2.2.1,aU.2.2.2.2.2.2.1,aU.2.2.2.2.2.2.2.1,aL,aM,aU.2.2.2.2.2.2.2.2,aO,aP,aQ,aR)) else if aT=some 214 then (AA (O.1,(aD,())) (aE,(aF,(aG,(aH,())))) aI aJ (Z.1,(Z.2.1,(Z.2.2.1,(Z.2.2.2.1,())))) (aA.1,(aK,())) ([]:List UInt8) aL aM aN (aO,(aP,())) aB aC aQ aR).bind fun aV=>some (.inl (aV.1,aV.2.1,aV.2.2.1,aV.2.2.2.1,aV.2.2.2.2.1,aV.2.2.2.2.2.1,aV.2.2.2.2.2.2.1,aV.2.2.2.2.2.2.2.1,aL,aM,aN,aO,aV.2.2.2.2.2.2.2.2,aQ,aR)) else if aT=some 215 then (AR (O.1,(aD,())) (aE,(aF,(aG,(aH,())))) aI aJ (Z.1,(Z.2.1,(Z.2.2.1,(Z.2.2.2.1,())))) (aA.1,(aK,())) ([]:List UInt8) aL aM aN (aO,(aP,())) aB aC aQ aR).bind fun aW=>some (.inl (aW.1,aW.2.1,aW.2.2.1,aW.2.2.2.1,aW.2.2.2.2.1,aW.2.2.2.2.2.1,aW.2.2.2.2.2.2.1,aW.2.2.2.2.2.2.2.1,aW.2.2.2.2.2.2.2.2,aM,aN,aO,aP,aQ,(sL .str .bool aF true aR))) else if aT=some 216 then (AS (O.1,(aD,())) (aE,(aF,(aG,(aH,())))) aI aJ (Z.1,(Z.2.1,(Z.2.2.1,(Z.2.2.2.1,())))) (aA.1,(aK,())) ([]:List UInt8) aL aM aN (aO,(aP,())) aB aC aQ aR).bind fun aX=>some (.inl (aX.1,aX.2.1,aX.2.2.1,aX.2.2.2.1,aX.2.2.2.2.1,aX.2.2.2.2.2.1,aX.2.2.2.2.2.2.1,aX.2.2.2.2.2.2.2.1,aL,aX.2.2.2.2.2.2.2.2,aN,aO,aP,aQ,(sL .str .bool aF true aR))) else if aT=some 217 then (AQ (O.1,(aD,())) (aE,(aF,(aG,(aH,())))) aI aJ (Z.1,(Z.2.1,(Z.2.2.1,(Z.2.2.2.1,())))) (aA.1,(aK,())) ([]:List UInt8) aL aM aN (aO,(aP,())) aB aC aQ aR).bind fun aY=>some (.inl (aY.1,aY.2.1,aY.2.2.1,aY.2.2.2.1,aY.2.2.2.2.1,aY.2.2.2.2.2.1,aY.2.2.2.2.2.2.1,aY.2.2.2.2.2.2.2.1,aL,aM,aN,aY.2.2.2.2.2.2.2.2,aP,aQ,(sL .str .bool aF true aR))) else if aT=some 218 then (zB (O.1,(aD,())) (aE,(aF,(aG,(aH,())))) aI aJ (Z.1,(Z.2.1,(Z.2.2.1,(Z.2.2.2.1,())))) (aA.1,(aK,())) ([]:List UInt8) aL aM aN (aO,(aP,())) aB aC aQ aR).bind fun aZ=>some (.inl (aZ.1,aZ.2.1,aZ.2.2.1,aZ.2.2.2.1,aZ.2.2.2.2.1,aZ.2.2.2.2.2.1,aZ.2.2.2.2.2.2.1,aZ.2.2.2.2.2.2.2.1,aL,aM,aN,aO,aP,aZ.2.2.2.2.2.2.2.2,aR)) else none else some (.inr (aD,aE,aF,aG,aH,aI,aJ,aK,aL,aM,aN,aO,aP,aQ,aR))
def vM (O:((List UInt8)×(Int×Unit))) (Z:rS) (aA:Int) (aB:Int) (aC:qZ) (aD:((List Int)×(Int×Unit))) (aE:Bool) (aF:(List ((List UInt8)×Bool))):Option ((List UInt8)×(List UInt8)×(List (List UInt8))×(List (List UInt8))×Int×(List pV)×Int×Int×(List UInt8)×Int×Int×Int×Int×(List Int)×Int):=(xY O Z aA aB aC aD (3:Int) ([123]:List UInt8) aF).bind fun aG=>rH (qB (vQ O aC aD aE aF) (aG.1,aG.2.1,aG.2.2.1,aG.2.2.2.1,aG.2.2.2.2.1,aG.2.2.2.2.2.1,aG.2.2.2.2.2.2.1,aG.2.2.2.2.2.2.2,([]:List UInt8),([]:List UInt8),([]:List (List UInt8)),(0:Int),([]:List pV),([]:List (List UInt8)),([]:List ((List UInt8)×Bool)))) fun(aH,aI,aJ,aK,aL,aM,aN,aO,aP,aQ,aR,aS,aT,aU,aV)=>(xY (O.1,(aH,())) (aI,(aJ,(aK,(aL,())))) aM aN (aC.1,(aC.2.1,(aC.2.2.1,(aC.2.2.2.1,())))) (aD.1,(aO,())) (3:Int) ([125]:List UInt8) aF).bind fun aW=>if (aU.length)<4611686018427387904 then if (aD.1.length+([aW.2.2.2.2.2.2.2]:List Int).length)*8≤140737488355328 then some ((aP,aQ,aR,(vZ aU),aS,aT,aW.1,aW.2.1,aW.2.2.1,aW.2.2.2.1,aW.2.2.2.2.1,aW.2.2.2.2.2.1,aW.2.2.2.2.2.2.1,(aD.1++([aW.2.2.2.2.2.2.2]:List Int)),aW.2.2.2.2.2.2.2)) else none else none
section
variable (O:Bool) (Z:((List UInt8)×(Int×Unit))) (aA:rS) (aB:Int) (aC:Int) (aD:qZ) (aE:((List Int)×(Int×Unit))) (aF:Nat) (aG:Nat) (aH:(List ((List UInt8)×Bool)))
abbrev a7V:List pD:=[(.val .ref (some (0,0)),none),(.val .bool O,none)]
abbrev a7W:List pC:=[.cells rO (Z,(aA,(aB,(aC,(aD,((some 3),aE)))))) [(11,1),(13,2)],.grow 55 7 aF,.grow 3 1 aG,.map .str .bool aH]
@[go_sem] def a7X:pJ:=⟨[aF=(aD.2.2.2.1.length),aG=(aE.1.length),((vM Z aA aB aC aD aE O aH)).isSome=true],[(.val rN (([]:List UInt8),((val (vM Z aA aB aC aD aE O aH)).1,((val (vM Z aA aB aC aD aE O aH)).2.1,((val (vM Z aA aB aC aD aE O aH)).2.2.1,((val (vM Z aA aB aC aD aE O aH)).2.2.2.1,((val (vM Z aA aB aC aD aE O aH)).2.2.2.2.1,((val (vM Z aA aB aC aD aE O aH)).2.2.2.2.2.1,()))))))),none)],[.cells rO ((Z.1,((val (vM Z aA aB aC aD aE O aH)).2.2.2.2.2.2.1,())),(((val (vM Z aA aB aC aD aE O aH)).2.2.2.2.2.2.2.1,((val (vM Z aA aB aC aD aE O aH)).2.2.2.2.2.2.2.2.1,((val (vM Z aA aB aC aD aE O aH)).2.2.2.2.2.2.2.2.2.1,((val (vM Z aA aB aC aD aE O aH)).2.2.2.2.2.2.2.2.2.2.1,())))),((val (vM Z aA aB aC aD aE O aH)).2.2.2.2.2.2.2.2.2.2.2.1,((val (vM Z aA aB aC aD aE O aH)).2.2.2.2.2.2.2.2.2.2.2.2.1,((aD.1,(aD.2.1,(aD.2.2.1,(aD.2.2.2.1,())))),((some 3),((val (vM Z aA aB aC aD aE O aH)).2.2.2.2.2.2.2.2.2.2.2.2.2.1,((val (vM Z aA aB aC aD aE O aH)).2.2.2.2.2.2.2.2.2.2.2.2.2.2,())))))))) [(11,1),(13,2)],.grow 55 7 (aD.2.2.2.1.length),.grow 3 1 (((val (vM Z aA aB aC aD aE O aH)).2.2.2.2.2.2.2.2.2.2.2.2.2.1).length),.map .str .bool aH]⟩
def aGp:List pD→List pC→Option pJ:=qP (V:=(Bool×((List UInt8)×(Int×Unit))×rS×Int×Int×qZ×((List Int)×(Int×Unit))×Nat×Nat×(List ((List UInt8)×Bool)))) (fun x=>a7V x.1) (fun x=>a7W x.2.1 x.2.2.1 x.2.2.2.1 x.2.2.2.2.1 x.2.2.2.2.2.1 x.2.2.2.2.2.2.1 x.2.2.2.2.2.2.2.1 x.2.2.2.2.2.2.2.2.1 x.2.2.2.2.2.2.2.2.2) fun x=>a7X x.1 x.2.1 x.2.2.1 x.2.2.2.1 x.2.2.2.2.1 x.2.2.2.2.2.1 x.2.2.2.2.2.2.1 x.2.2.2.2.2.2.2.1 x.2.2.2.2.2.2.2.2.1 x.2.2.2.2.2.2.2.2.2
@[go_sem] theorem aTv:aGp (no_index (a7V O)) (no_index (a7W Z aA aB aC aD aE aF aG aH))=some (a7X O Z aA aB aC aD aE aF aG aH):=qQ (fun⟨a0,a1,a2,a3,a4,a5,a6,a7,a8,a9⟩ ⟨b0,b1,b2,b3,b4,b5,b6,b7,b8,b9⟩ h1 h2=>by cases h1;cases h2;rfl) (O,Z,aA,aB,aC,aD,aE,aF,aG,aH)
end
@[go_sem] abbrev a7Y:Nat×qC:=(126,⟨[.p rO [11,13],.v],aGp,[(0,12,.m)],[1,3],none⟩)
theorem VS:qG Tryz.prog [yZ,a0F] (qE [QT,a2m,zU,a7I,a7M,a7Q,a7U,a7z,a7E,a0H]):=⟨⟨AL,⟨aL6,trivial⟩⟩,pM a7o (pM aMn (pM F3 (pM aNs (pM aNt (pM aNu (pM aNv (pM aNq (pM aNr (pM aMd qS))))))))),qI⟩
theorem AT:qG Tryz.prog [uX,EZ,rP,uW,HW,DR,zT,HV,JY,yC,C5,UO,UP] (qE [QT,a2m,zU,a7I,a7M,a7Q,a7U,a7z,a7E,a0H]):=⟨⟨vK,⟨HU,⟨rQ,⟨vJ,⟨M8,⟨GB,⟨BE,⟨M6,⟨PM,⟨zS,⟨DQ,⟨aCo,⟨aCp,trivial⟩⟩⟩⟩⟩⟩⟩⟩⟩⟩⟩⟩⟩,VS.Γ,qI⟩
theorem aGq:qJ Tryz.prog a7Y:=by
 refine qR VS Tryz.func126 (c:=_) rfl (N:=71) (by kernel_rfl) (ts:=[(4,some 55)]) rfl (fun _ _=>rfl) ?_;intro⟨O,Z,aA,aB,aC,aD,aE,aF,aG,aH⟩ hs hrow;dsimp only[a7V,a7W,a7X,qM,pN,pW,qH,qO,Nat.reduceAdd] at hs hrow⊢;obtain⟨rfl,rfl,hz⟩:=hs;obtain⟨z0,hC0⟩:=aTF.1 hz
 try rw[r8 hC0]
 clear hz;unfold vM at hC0;refine pB VS ?_;refine pB AT ?_;obtain⟨aI,hv1,hw1,hC0⟩:=pZ hC0
 try simp only[go_sem] at hw1
 refine pB AT ?_ (hp:=by exact⟨by first|rfl|trivial,by first|rfl|trivial,by first|rfl|trivial,by first|rfl|trivial,by first|rfl|trivial,(pY hv1)⟩) (h:=by simp only[go_sem,hw1];rfl)
 refine pP (rC ?_);obtain⟨y1,hy1,hC0⟩:=pF hC0;refine t7 0 (fun s=>s=(fun x=>⟨[(0,(.val .ref (some (0,0)),none)),(4,(.val .ref (some (4,0)),none)),(5,(.val .ref (some (5,0)),none))],[(0,.cells rO ((Z.1,(x.1,())),((x.2.1,(x.2.2.1,(x.2.2.2.1,(x.2.2.2.2.1,())))),(x.2.2.2.2.2.1,(x.2.2.2.2.2.2.1,((aD.1,(aD.2.1,(aD.2.2.1,(aD.2.2.2.1,())))),((some 3),(aE.1,(x.2.2.2.2.2.2.2.1,())))))))) [(11,1),(13,2)]),(1,.grow 55 7 (aD.2.2.2.1.length)),(2,.grow 3 1 (aE.1.length)),(3,.map .str .bool aH),(4,.cells rN (([]:List UInt8),(([]:List UInt8),(([]:List UInt8),(([]:List (List UInt8)),(([]:List (List UInt8)),((0:Int),(([]:List pV),()))))))) [(3,6),(4,7),(6,8)]),(5,.cells sS ((([]:List UInt8),(x.2.2.2.2.2.2.2.2.1,(x.2.2.2.2.2.2.2.2.2.1,(x.2.2.2.2.2.2.2.2.2.2.1,((some (9,(x.2.2.2.2.2.2.2.2.2.2.2.2.2.1.length))),(x.2.2.2.2.2.2.2.2.2.2.2.1,(x.2.2.2.2.2.2.2.2.2.2.2.2.1,()))))))),(O,((some 10),()))) [(3,11),(6,12)]),(6,.grow 9 1 (([]:List (List UInt8)).length)),(7,.grow 9 1 (([]:List (List UInt8)).length)),(8,.grow 149 2 (([]:List pV).length)),(9,.row 9 .str x.2.2.2.2.2.2.2.2.2.2.2.2.2.1 (x.2.2.2.2.2.2.2.2.2.2.2.2.2.1.length)),(10,.map .str .bool x.2.2.2.2.2.2.2.2.2.2.2.2.2.2),(11,.grow 9 1 (x.2.2.2.2.2.2.2.2.2.2.1.length)),(12,.grow 149 2 (x.2.2.2.2.2.2.2.2.2.2.2.2.1.length))],13,71,4⟩) y1) ?_ ?_
 ·refine t6 hy1 (fun x=>⟨[(0,(.val .ref (some (0,0)),none)),(4,(.val .ref (some (4,0)),none)),(5,(.val .ref (some (5,0)),none))],[(0,.cells rO ((Z.1,(x.1,())),((x.2.1,(x.2.2.1,(x.2.2.2.1,(x.2.2.2.2.1,())))),(x.2.2.2.2.2.1,(x.2.2.2.2.2.2.1,((aD.1,(aD.2.1,(aD.2.2.1,(aD.2.2.2.1,())))),((some 3),(aE.1,(x.2.2.2.2.2.2.2.1,())))))))) [(11,1),(13,2)]),(1,.grow 55 7 (aD.2.2.2.1.length)),(2,.grow 3 1 (aE.1.length)),(3,.map .str .bool aH),(4,.cells rN (([]:List UInt8),(([]:List UInt8),(([]:List UInt8),(([]:List (List UInt8)),(([]:List (List UInt8)),((0:Int),(([]:List pV),()))))))) [(3,6),(4,7),(6,8)]),(5,.cells sS ((([]:List UInt8),(x.2.2.2.2.2.2.2.2.1,(x.2.2.2.2.2.2.2.2.2.1,(x.2.2.2.2.2.2.2.2.2.2.1,((some (9,(x.2.2.2.2.2.2.2.2.2.2.2.2.2.1.length))),(x.2.2.2.2.2.2.2.2.2.2.2.1,(x.2.2.2.2.2.2.2.2.2.2.2.2.1,()))))))),(O,((some 10),()))) [(3,11),(6,12)]),(6,.grow 9 1 (([]:List (List UInt8)).length)),(7,.grow 9 1 (([]:List (List UInt8)).length)),(8,.grow 149 2 (([]:List pV).length)),(9,.row 9 .str x.2.2.2.2.2.2.2.2.2.2.2.2.2.1 (x.2.2.2.2.2.2.2.2.2.2.2.2.2.1.length)),(10,.map .str .bool x.2.2.2.2.2.2.2.2.2.2.2.2.2.2),(11,.grow 9 1 (x.2.2.2.2.2.2.2.2.2.2.1.length)),(12,.grow 149 2 (x.2.2.2.2.2.2.2.2.2.2.2.2.1.length))],13,71,4⟩) ⟨[0,4,5],[(0,0),(1,1),(2,2),(3,3),(4,4),(5,132),(6,5),(7,6),(8,7),(9,135),(10,68),(11,133),(12,134)]⟩ (by rfl) ?_;intro x1 w1 n1 hC1 hN1;obtain⟨aJ,aK,aL,aM,aN,aO,aP,aQ,aR,aS,aT,aU,aV,aW,aX⟩:=x1;unfold vQ at hC1;dsimp only at hC1⊢;refine pP ?_;refine pB AT ?_ (hp:=by exact⟨fun hh=>hh,fun hh=>hh,fun hh=>hh,fun hh=>hh,fun hh=>hh,(fun hh=>rL hh)⟩);refine pO hC1 (fun hC1 hc1=> ?_) (fun hC1 hc1=> ?_)
  ·refine qD (pL (rC ?_));refine xD AT ?_ (hp:=by exact⟨by first|rfl|trivial,by first|rfl|trivial,by first|rfl|trivial,by first|rfl|trivial,by first|rfl|trivial,by first|rfl|trivial,by first|rfl|trivial,(by first|rfl|trivial)⟩)
   refine pP ?_;refine pB AT ?_;refine pO hC1 (fun hC1 hc2=> ?_) (fun hC1 hc2=> ?_)
   ·obtain⟨aY,hw_357,hC1⟩:=vY hC1
    try simp only[go_sem] at hw_357
    refine pB AT ?_ (hp:=by exact⟨by first|rfl|trivial,by first|rfl|trivial,by first|rfl|trivial,by first|rfl|trivial,(by first|rfl|trivial)⟩) (h:=by simp only[go_sem,hw_357];rfl)
    refine sO (sW (a0e (by decide) (sQ ?_)));cases hC1;cases hN1;exact sP ⟨⟨[0,4,5],[(0,0),(1,1),(2,2),(3,3),(4,4),(5,5),(6,6),(7,7),(8,8),(9,9),(10,10),(11,11),(12,12)]⟩,by rfl⟩
   ·refine qD (pL ?_);replace hC1:=aLd hC1;generalize (rV .str .fn (wV ([]:List UInt8) aR aS aT (aU,(aV,())) O aW aX) aL)=aZ at hC1⊢;by_cases hfn:aZ=some 213
    ·subst hfn;rw[aTD rfl] at hC1;obtain⟨bA,hv2,hw2,hC1⟩:=pZ hC1
     try simp only[go_sem] at hw2
     refine qU AT ?_ (hp:=by exact⟨by first|rfl|trivial,by first|rfl|trivial,by first|rfl|trivial,by first|rfl|trivial,by first|rfl|trivial,by first|rfl|trivial,by first|rfl|trivial,by first|rfl|trivial,by first|rfl|trivial,by first|rfl|trivial,by first|rfl|trivial,(pY hv2)⟩) (h:=by simp only[go_sem,hw2];rfl)
     refine qY ?_;cases hC1;exact s7 ⟨⟨[0,4,5],[(0,0),(1,1),(2,2),(3,3),(4,4),(5,5),(6,6),(7,7),(8,8),(9,9),(10,10),(11,11),(12,12)]⟩,_,by rfl,hN1⟩
    rw[aTG hfn] at hC1;clear hfn;by_cases hfn:aZ=some 214
    ·subst hfn;rw[aTD rfl] at hC1;obtain⟨bB,hv3,hw3,hC1⟩:=pZ hC1
     try simp only[go_sem] at hw3
     refine qU AT ?_ (hp:=by exact⟨by first|rfl|trivial,by first|rfl|trivial,by first|rfl|trivial,by first|rfl|trivial,by first|rfl|trivial,by first|rfl|trivial,by first|rfl|trivial,by first|rfl|trivial,by first|rfl|trivial,by first|rfl|trivial,by first|rfl|trivial,by first|rfl|trivial,(pY hv3)⟩) (h:=by simp only[go_sem,hw3];rfl)
     refine qY ?_;cases hC1;exact s7 ⟨⟨[0,4,5],[(0,0),(1,1),(2,2),(3,3),(4,4),(5,5),(6,6),(7,7),(8,8),(9,9),(10,10),(11,11),(12,1014)]⟩,_,by rfl,hN1⟩
    rw[aTG hfn] at hC1;clear hfn;by_cases hfn:aZ=some 215
    ·subst hfn;rw[aTD rfl] at hC1;obtain⟨bC,hv4,hw4,hC1⟩:=pZ hC1
     try simp only[go_sem] at hw4
     refine qU AT ?_ (hp:=by exact⟨by first|rfl|trivial,by first|rfl|trivial,by first|rfl|trivial,by first|rfl|trivial,by first|rfl|trivial,by first|rfl|trivial,by first|rfl|trivial,by first|rfl|trivial,by first|rfl|trivial,by first|rfl|trivial,by first|rfl|trivial,(pY hv4)⟩) (h:=by simp only[go_sem,hw4];rfl)
     refine qY ?_;cases hC1;exact s7 ⟨⟨[0,4,5],[(0,0),(1,1),(2,2),(3,3),(4,4),(5,5),(6,6),(7,7),(8,8),(9,9),(10,10),(11,11),(12,12)]⟩,_,by rfl,hN1⟩
    rw[aTG hfn] at hC1;clear hfn;by_cases hfn:aZ=some 216
    ·subst hfn;rw[aTD rfl] at hC1;obtain⟨bD,hv5,hw5,hC1⟩:=pZ hC1
     try simp only[go_sem] at hw5
     refine qU AT ?_ (hp:=by exact⟨by first|rfl|trivial,by first|rfl|trivial,by first|rfl|trivial,by first|rfl|trivial,by first|rfl|trivial,by first|rfl|trivial,by first|rfl|trivial,by first|rfl|trivial,by first|rfl|trivial,by first|rfl|trivial,by first|rfl|trivial,(pY hv5)⟩) (h:=by simp only[go_sem,hw5];rfl)
     refine qY ?_;cases hC1;exact s7 ⟨⟨[0,4,5],[(0,0),(1,1),(2,2),(3,3),(4,4),(5,5),(6,6),(7,7),(8,8),(9,9),(10,10),(11,11),(12,12)]⟩,_,by rfl,hN1⟩
    rw[aTG hfn] at hC1;clear hfn;by_cases hfn:aZ=some 217
    ·subst hfn;rw[aTD rfl] at hC1;obtain⟨bE,hv6,hw6,hC1⟩:=pZ hC1
     try simp only[go_sem] at hw6
     refine qU AT ?_ (hp:=by exact⟨by first|rfl|trivial,by first|rfl|trivial,by first|rfl|trivial,by first|rfl|trivial,by first|rfl|trivial,by first|rfl|trivial,by first|rfl|trivial,by first|rfl|trivial,by first|rfl|trivial,by first|rfl|trivial,by first|rfl|trivial,(pY hv6)⟩) (h:=by simp only[go_sem,hw6];rfl)
     refine qY ?_;cases hC1;exact s7 ⟨⟨[0,4,5],[(0,0),(1,1),(2,2),(3,3),(4,4),(5,5),(6,6),(7,7),(8,8),(9,9),(10,10),(11,11),(12,12)]⟩,_,by rfl,hN1⟩
    rw[aTG hfn] at hC1;clear hfn;by_cases hfn:aZ=some 218
    ·subst hfn;rw[aTD rfl] at hC1;obtain⟨bF,hv7,hw7,hC1⟩:=pZ hC1
     try simp only[go_sem] at hw7
     refine qU AT ?_ (hp:=by exact⟨by first|rfl|trivial,by first|rfl|trivial,by first|rfl|trivial,by first|rfl|trivial,by first|rfl|trivial,by first|rfl|trivial,by first|rfl|trivial,by first|rfl|trivial,by first|rfl|trivial,by first|rfl|trivial,by first|rfl|trivial,(pY hv7)⟩) (h:=by simp only[go_sem,hw7];rfl)
     refine qY ?_;cases hC1;exact s7 ⟨⟨[0,4,5],[(0,0),(1,1),(2,2),(3,3),(4,4),(5,5),(6,6),(7,7),(8,8),(9,9),(10,10),(11,11),(12,12)]⟩,_,by rfl,hN1⟩
    rw[aTG hfn] at hC1;clear hfn;cases hC1
  ·refine sO (sW (sQ ?_));cases hC1;cases hN1;exact sP ⟨⟨[0,4,5],[(0,0),(1,1),(2,2),(3,3),(4,4),(5,5),(6,6),(7,7),(8,8),(9,9),(10,10),(11,11),(12,12)]⟩,by rfl⟩
 ·rintro _ rfl;obtain⟨bG,bH,bI,bJ,bK,bM,bN,bO,bP,bQ,bR,bS,bT,bU,bV⟩:=y1;dsimp only at hC0⊢;refine sZ (pL ?_);obtain⟨bW,hv8,hw8,hC0⟩:=pZ hC0
  try simp only[go_sem] at hw8
  refine pB AT ?_ (hp:=by exact⟨by first|rfl|trivial,by first|rfl|trivial,by first|rfl|trivial,by first|rfl|trivial,by first|rfl|trivial,(pY hv8)⟩) (h:=by simp only[go_sem,hw8];rfl)
  obtain⟨hg9,hC0⟩:=pI hC0;refine pB AT ?_ (hp:=by exact⟨by first|rfl|trivial,hg9⟩)
  obtain⟨hg10,hC0⟩:=pI hC0;refine xD AT ?_ (hp:=by exact⟨by first|rfl|trivial,hg10⟩)
  refine pP ?_;refine aK6 9 5 rfl rfl (aVs rfl) (by repeat' (first|exact trivial|apply And.intro|exact(fun _=>rfl) |exact(fun h=>absurd h (by decide)))) (by repeat' (first|exact trivial|apply And.intro|exact(fun _=>rfl) |exact(fun h=>absurd h (by decide)))) (u':=aCl) (y':=((([]:List UInt8),(bP,(bQ,(bR,((vZ bU),(bS,(bT,()))))))),(O,((some 10),())))) (by first|rfl|kernel_rfl) ?_
  refine qU VS ?_;refine pL (pK ?_);cases hC0;exact⟨[(0,0),(1,1),(2,2),(3,3)],by rfl,by rfl,by rfl⟩
attribute [irreducible] vM
end
noncomputable section
def y3 (O:((List UInt8)×(Int×Unit))) (Z:rS) (aA:Int) (aB:Int) (aC:qZ) (aD:((List Int)×(Int×Unit))) (aE:(List ((List UInt8)×Bool))):Option (Int×Int×(List UInt8)×Int×Int×Int×Int×(List UInt8)×(List (List UInt8))×(List pV)×(List Int)×Int):=(xY O Z aA aB aC aD (2:Int) ([99,97,116,97,108,111,103]:List UInt8) aE).bind fun aF=>(zX (O.1,(aF.1,())) (aF.2.1,(aF.2.2.1,(aF.2.2.2.1,(aF.2.2.2.2.1,())))) aF.2.2.2.2.2.1 aF.2.2.2.2.2.2.1 (aC.1,(aC.2.1,(aC.2.2.1,(aC.2.2.2.1,())))) (aD.1,(aF.2.2.2.2.2.2.2,())) (1:Int) false aE).bind fun aG=>(vM (O.1,(aG.1,())) (aG.2.1,(aG.2.2.1,(aG.2.2.2.1,(aG.2.2.2.2.1,())))) aG.2.2.2.2.2.1 aG.2.2.2.2.2.2.1 (aF.2.2.1,(aC.2.1,(aC.2.2.1,(aC.2.2.2.1,())))) (aD.1,(aG.2.2.2.2.2.2.2,())) false aE).bind fun aH=>some ((aH.2.2.2.2.2.2.1,aH.2.2.2.2.2.2.2.1,aH.2.2.2.2.2.2.2.2.1,aH.2.2.2.2.2.2.2.2.2.1,aH.2.2.2.2.2.2.2.2.2.2.1,aH.2.2.2.2.2.2.2.2.2.2.2.1,aH.2.2.2.2.2.2.2.2.2.2.2.2.1,aF.2.2.1,aH.2.2.1,aH.2.2.2.2.2.1,aH.2.2.2.2.2.2.2.2.2.2.2.2.2.1,aH.2.2.2.2.2.2.2.2.2.2.2.2.2.2))
section
variable (O:((List UInt8)×(Int×Unit))) (Z:rS) (aA:Int) (aB:Int) (aC:qZ) (aD:((List Int)×(Int×Unit))) (aE:Nat) (aF:Nat) (aG:(List ((List UInt8)×Bool)))
abbrev a7Z:List pD:=[(.val .ref (some (0,0)),none)]
abbrev a71:List pC:=[.cells rO (O,(Z,(aA,(aB,(aC,((some 3),aD)))))) [(11,1),(13,2)],.grow 55 7 aE,.grow 3 1 aF,.map .str .bool aG]
@[go_sem] def a73:pJ:=⟨[aE=(aC.2.2.2.1.length),aF=(aD.1.length),((y3 O Z aA aB aC aD aG)).isSome=true],[],[.cells rO ((O.1,((val (y3 O Z aA aB aC aD aG)).1,())),(((val (y3 O Z aA aB aC aD aG)).2.1,((val (y3 O Z aA aB aC aD aG)).2.2.1,((val (y3 O Z aA aB aC aD aG)).2.2.2.1,((val (y3 O Z aA aB aC aD aG)).2.2.2.2.1,())))),((val (y3 O Z aA aB aC aD aG)).2.2.2.2.2.1,((val (y3 O Z aA aB aC aD aG)).2.2.2.2.2.2.1,(((val (y3 O Z aA aB aC aD aG)).2.2.2.2.2.2.2.1,((val (y3 O Z aA aB aC aD aG)).2.2.2.2.2.2.2.2.1,((val (y3 O Z aA aB aC aD aG)).2.2.2.2.2.2.2.2.2.1,(aC.2.2.2.1,())))),((some 3),((val (y3 O Z aA aB aC aD aG)).2.2.2.2.2.2.2.2.2.2.1,((val (y3 O Z aA aB aC aD aG)).2.2.2.2.2.2.2.2.2.2.2,())))))))) [(11,1),(13,2)],.grow 55 7 (aC.2.2.2.1.length),.grow 3 1 (((val (y3 O Z aA aB aC aD aG)).2.2.2.2.2.2.2.2.2.2.1).length),.map .str .bool aG]⟩
def aGr:List pD→List pC→Option pJ:=qP (V:=(((List UInt8)×(Int×Unit))×rS×Int×Int×qZ×((List Int)×(Int×Unit))×Nat×Nat×(List ((List UInt8)×Bool)))) (fun x=>a7Z) (fun x=>a71 x.1 x.2.1 x.2.2.1 x.2.2.2.1 x.2.2.2.2.1 x.2.2.2.2.2.1 x.2.2.2.2.2.2.1 x.2.2.2.2.2.2.2.1 x.2.2.2.2.2.2.2.2) fun x=>a73 x.1 x.2.1 x.2.2.1 x.2.2.2.1 x.2.2.2.2.1 x.2.2.2.2.2.1 x.2.2.2.2.2.2.1 x.2.2.2.2.2.2.2.1 x.2.2.2.2.2.2.2.2
@[go_sem] theorem aTw:aGr (no_index a7Z) (no_index (a71 O Z aA aB aC aD aE aF aG))=some (a73 O Z aA aB aC aD aE aF aG):=qQ (fun⟨a0,a1,a2,a3,a4,a5,a6,a7,a8⟩ ⟨b0,b1,b2,b3,b4,b5,b6,b7,b8⟩ h1 h2=>by cases h1;cases h2;rfl) (O,Z,aA,aB,aC,aD,aE,aF,aG)
end
@[go_sem] abbrev aGs:Nat×qC:=(82,⟨[.p rO [11,13]],aGr,[(0,12,.m)],[1,3],none⟩)
theorem QW:qG Tryz.prog [rP,uW,w5,zR,yZ,yC] (qE [QT,aF1,a7Y]):=⟨⟨rQ,⟨vJ,⟨wU,⟨BD,⟨AL,⟨zS,trivial⟩⟩⟩⟩⟩⟩,pM a7o (pM aNl (pM aGq qS)),qI⟩
theorem aNw:qJ Tryz.prog aGs:=by
 refine qR QW Tryz.func82 (c:=_) rfl (N:=25) (by kernel_rfl) (ts:=[]) rfl (fun _ _=>rfl) ?_;intro⟨O,Z,aA,aB,aC,aD,aE,aF,aG⟩ hs hrow;dsimp only[a7Z,a71,a73,qM,pN,pW,qH,qO,Nat.reduceAdd] at hs hrow⊢;obtain⟨rfl,rfl,hz⟩:=hs;obtain⟨z0,hC0⟩:=aTF.1 hz
 try rw[r8 hC0]
 clear hz;unfold y3 at hC0;obtain⟨aH,hv1,hw1,hC0⟩:=pZ hC0
 try simp only[go_sem] at hw1
 refine pB QW ?_ (hp:=by exact⟨by first|rfl|trivial,by first|rfl|trivial,by first|rfl|trivial,by first|rfl|trivial,by first|rfl|trivial,(pY hv1)⟩) (h:=by simp only[go_sem,hw1];rfl)
 obtain⟨aI,hv2,hw2,hC0⟩:=pZ hC0
 try simp only[go_sem] at hw2
 refine pB QW ?_ (hp:=by exact⟨by first|rfl|trivial,by first|rfl|trivial,by first|rfl|trivial,by first|rfl|trivial,by first|rfl|trivial,(pY hv2)⟩) (h:=by simp only[go_sem,hw2];rfl)
 obtain⟨aJ,hv3,hw3,hC0⟩:=pZ hC0
 try simp only[go_sem] at hw3
 refine pB QW ?_ (hp:=by exact⟨by first|rfl|trivial,by first|rfl|trivial,by first|rfl|trivial,by first|rfl|trivial,(pY hv3)⟩) (h:=by simp only[go_sem,hw3];rfl)
 refine G5 QW ?_;cases hC0;exact⟨[(0,0),(1,1),(2,2),(3,3)],by rfl,by rfl,by rfl⟩
attribute [irreducible] y3
end
noncomputable section
def y4 (O:((List UInt8)×(Int×Unit))) (Z:rS) (aA:Int) (aB:Int) (aC:qZ) (aD:((List Int)×(Int×Unit))) (aE:(List ((List UInt8)×Bool))):Option (Int×Int×(List UInt8)×Int×Int×Int×Int×(List rD)×(List Int)×Int×(List ((List UInt8)×Bool))):=(xY O Z aA aB aC aD (2:Int) ([101,110,116,114,121]:List UInt8) aE).bind fun aF=>(A9 (O.1,(aF.1,())) (aF.2.1,(aF.2.2.1,(aF.2.2.2.1,(aF.2.2.2.2.1,())))) aF.2.2.2.2.2.1 aF.2.2.2.2.2.2.1 (aC.1,(aC.2.1,(aC.2.2.1,(aC.2.2.2.1,())))) (aD.1,(aF.2.2.2.2.2.2.2,())) (1:Int) (decide ((aC.2.2.2.1.length:Int)=(1000:Int))) aE).bind fun aG=>(vM (O.1,(aG.1,())) (aG.2.1,(aG.2.2.1,(aG.2.2.2.1,(aG.2.2.2.2.1,())))) aG.2.2.2.2.2.1 aG.2.2.2.2.2.2.1 (aC.1,(aC.2.1,(aC.2.2.1,(aC.2.2.2.1,())))) (aD.1,(aG.2.2.2.2.2.2.2,())) true (sL .str .bool aF.2.2.1 true aE)).bind fun aH=>if (aC.2.2.2.1.length+([(aF.2.2.1,(aH.1,(aH.2.1,(aH.2.2.1,(aH.2.2.2.1,(aH.2.2.2.2.1,(aH.2.2.2.2.2.1,())))))))]:List rD).length)*128≤140737488355328 then some ((aH.2.2.2.2.2.2.1,aH.2.2.2.2.2.2.2.1,aH.2.2.2.2.2.2.2.2.1,aH.2.2.2.2.2.2.2.2.2.1,aH.2.2.2.2.2.2.2.2.2.2.1,aH.2.2.2.2.2.2.2.2.2.2.2.1,aH.2.2.2.2.2.2.2.2.2.2.2.2.1,(aC.2.2.2.1++([(aF.2.2.1,(aH.1,(aH.2.1,(aH.2.2.1,(aH.2.2.2.1,(aH.2.2.2.2.1,(aH.2.2.2.2.2.1,())))))))]:List rD)),aH.2.2.2.2.2.2.2.2.2.2.2.2.2.1,aH.2.2.2.2.2.2.2.2.2.2.2.2.2.2,(sL .str .bool aF.2.2.1 true aE))) else none
section
variable (O:((List UInt8)×(Int×Unit))) (Z:rS) (aA:Int) (aB:Int) (aC:qZ) (aD:((List Int)×(Int×Unit))) (aE:Nat) (aF:Nat) (aG:(List ((List UInt8)×Bool)))
abbrev a74:List pD:=[(.val .ref (some (0,0)),none)]
abbrev a77:List pC:=[.cells rO (O,(Z,(aA,(aB,(aC,((some 3),aD)))))) [(11,1),(13,2)],.grow 55 7 aE,.grow 3 1 aF,.map .str .bool aG]
@[go_sem] def a78:pJ:=⟨[aE=(aC.2.2.2.1.length),aF=(aD.1.length),((y4 O Z aA aB aC aD aG)).isSome=true],[],[.cells rO ((O.1,((val (y4 O Z aA aB aC aD aG)).1,())),(((val (y4 O Z aA aB aC aD aG)).2.1,((val (y4 O Z aA aB aC aD aG)).2.2.1,((val (y4 O Z aA aB aC aD aG)).2.2.2.1,((val (y4 O Z aA aB aC aD aG)).2.2.2.2.1,())))),((val (y4 O Z aA aB aC aD aG)).2.2.2.2.2.1,((val (y4 O Z aA aB aC aD aG)).2.2.2.2.2.2.1,((aC.1,(aC.2.1,(aC.2.2.1,((val (y4 O Z aA aB aC aD aG)).2.2.2.2.2.2.2.1,())))),((some 3),((val (y4 O Z aA aB aC aD aG)).2.2.2.2.2.2.2.2.1,((val (y4 O Z aA aB aC aD aG)).2.2.2.2.2.2.2.2.2.1,())))))))) [(11,1),(13,2)],.grow 55 7 (((val (y4 O Z aA aB aC aD aG)).2.2.2.2.2.2.2.1).length),.grow 3 1 (((val (y4 O Z aA aB aC aD aG)).2.2.2.2.2.2.2.2.1).length),.map .str .bool ((val (y4 O Z aA aB aC aD aG)).2.2.2.2.2.2.2.2.2.2)]⟩
def aGt:List pD→List pC→Option pJ:=qP (V:=(((List UInt8)×(Int×Unit))×rS×Int×Int×qZ×((List Int)×(Int×Unit))×Nat×Nat×(List ((List UInt8)×Bool)))) (fun x=>a74) (fun x=>a77 x.1 x.2.1 x.2.2.1 x.2.2.2.1 x.2.2.2.2.1 x.2.2.2.2.2.1 x.2.2.2.2.2.2.1 x.2.2.2.2.2.2.2.1 x.2.2.2.2.2.2.2.2) fun x=>a78 x.1 x.2.1 x.2.2.1 x.2.2.2.1 x.2.2.2.2.1 x.2.2.2.2.2.1 x.2.2.2.2.2.2.1 x.2.2.2.2.2.2.2.1 x.2.2.2.2.2.2.2.2
@[go_sem] theorem aTx:aGt (no_index a74) (no_index (a77 O Z aA aB aC aD aE aF aG))=some (a78 O Z aA aB aC aD aE aF aG):=qQ (fun⟨a0,a1,a2,a3,a4,a5,a6,a7,a8⟩ ⟨b0,b1,b2,b3,b4,b5,b6,b7,b8⟩ h1 h2=>by cases h1;cases h2;rfl) (O,Z,aA,aB,aC,aD,aE,aF,aG)
end
@[go_sem] abbrev aGu:Nat×qC:=(83,⟨[.p rO [11,13]],aGt,[(0,12,.m)],[],none⟩)
theorem GZ:qG Tryz.prog [EZ,rP,DN,zR,yZ,UM,HV,yC] (qE [QT,aF9,a7Y]):=⟨⟨HU,⟨rQ,⟨G8,⟨BD,⟨AL,⟨aCm,⟨M6,⟨zS,trivial⟩⟩⟩⟩⟩⟩⟩⟩,pM a7o (pM aNp (pM aGq qS)),qI⟩
theorem aNx:qJ Tryz.prog aGu:=by
 refine qR GZ Tryz.func83 (c:=_) rfl (N:=39) (by kernel_rfl) (ts:=[]) rfl (fun _ _=>rfl) ?_;intro⟨O,Z,aA,aB,aC,aD,aE,aF,aG⟩ hs hrow;dsimp only[a74,a77,a78,qM,pN,pW,qH,qO,Nat.reduceAdd] at hs hrow⊢;obtain⟨rfl,rfl,hz⟩:=hs;obtain⟨z0,hC0⟩:=aTF.1 hz
 try rw[r8 hC0]
 clear hz;unfold y4 at hC0;refine pB GZ ?_;obtain⟨aH,hv1,hw1,hC0⟩:=pZ hC0
 try simp only[go_sem] at hw1
 refine pB GZ ?_ (hp:=by exact⟨by first|rfl|trivial,by first|rfl|trivial,by first|rfl|trivial,by first|rfl|trivial,by first|rfl|trivial,(pY hv1)⟩) (h:=by simp only[go_sem,hw1];rfl)
 refine pB GZ ?_;obtain⟨aI,hv2,hw2,hC0⟩:=pZ hC0
 try simp only[go_sem] at hw2
 refine xD GZ ?_ (hp:=by exact⟨by first|rfl|trivial,by first|rfl|trivial,by first|rfl|trivial,by first|rfl|trivial,by first|rfl|trivial,by first|rfl|trivial,(pY hv2)⟩) (h:=by simp only[go_sem,hw2];rfl)
 refine pB GZ ?_;obtain⟨aJ,hv3,hw3,hC0⟩:=pZ hC0
 try simp only[go_sem] at hw3
 refine pB GZ ?_ (hp:=by exact⟨by first|rfl|trivial,by first|rfl|trivial,by first|rfl|trivial,by first|rfl|trivial,(pY hv3)⟩) (h:=by simp only[go_sem,hw3];rfl)
 refine pB GZ ?_;obtain⟨hg4,hC0⟩:=pI hC0;refine G5 GZ ?_ (hp:=by exact⟨by first|rfl|trivial,hg4⟩)
 cases hC0;exact⟨[(0,0),(1,1),(2,2),(3,3)],by rfl,by rfl,by rfl⟩
attribute [irreducible] y4
def EA (O:(List UInt8)) (Z:(Int×Int×(List UInt8)×Int×Int×Int×Int×(List UInt8)×(List (List UInt8))×(List pV)×(List Int)×Int)):(Int×Int×(List UInt8)×Int×Int×Int×Int×(List rD)×(List Int)×Int×(List ((List UInt8)×Bool)))→Option ((Int×Int×(List UInt8)×Int×Int×Int×Int×(List rD)×(List Int)×Int×(List ((List UInt8)×Bool)))⊕(Int×Int×(List UInt8)×Int×Int×Int×Int×(List rD)×(List Int)×Int×(List ((List UInt8)×Bool)))):=fun(aA,aB,aC,aD,aE,aF,aG,aH,aI,aJ,aK)=>if ((decide (aG=(0:Int)))&&(!decide (aB=(4:Int))))=true then (y4 (O,(aA,())) (aB,(aC,(aD,(aE,())))) aF aG (Z.2.2.2.2.2.2.2.1,(Z.2.2.2.2.2.2.2.2.1,(Z.2.2.2.2.2.2.2.2.2.1,(aH,())))) (aI,(aJ,())) aK).bind fun aL=>some (.inl (aL.1,aL.2.1,aL.2.2.1,aL.2.2.2.1,aL.2.2.2.2.1,aL.2.2.2.2.2.1,aL.2.2.2.2.2.2.1,aL.2.2.2.2.2.2.2.1,aL.2.2.2.2.2.2.2.2.1,aL.2.2.2.2.2.2.2.2.2.1,aL.2.2.2.2.2.2.2.2.2.2)) else some (.inr (aA,aB,aC,aD,aE,aF,aG,aH,aI,aJ,aK))
def wW (O:(List UInt8)):Option (Int×Int×(List UInt8)×Int×Int×Int×Int×(List UInt8)×(List (List UInt8))×(List pV)×(List rD)×(List Int)×Int×(List ((List UInt8)×Bool))):=(CC (O,((0:Int),()))).bind fun Z=>(y3 (O,(Z.2.2.2.2,())) (Z.1,(Z.2.1,(Z.2.2.1,(Z.2.2.2.1,())))) (0:Int) (0:Int) (([]:List UInt8),(([]:List (List UInt8)),(([]:List pV),(([]:List rD),())))) (([]:List Int),((0:Int),())) ([]:List ((List UInt8)×Bool))).bind fun aA=>rH (qB (EA O aA) (aA.1,aA.2.1,aA.2.2.1,aA.2.2.2.1,aA.2.2.2.2.1,aA.2.2.2.2.2.1,aA.2.2.2.2.2.2.1,([]:List rD),aA.2.2.2.2.2.2.2.2.2.2.1,aA.2.2.2.2.2.2.2.2.2.2.2,([]:List ((List UInt8)×Bool)))) fun(aB,aC,aD,aE,aF,aG,aH,aI,aJ,aK,aL)=>some ((aB,aC,aD,aE,aF,aG,aH,aA.2.2.2.2.2.2.2.1,aA.2.2.2.2.2.2.2.2.1,aA.2.2.2.2.2.2.2.2.2.1,aI,aJ,aK,aL))
section
variable (O:(List UInt8))
abbrev a79:List pD:=[(.val .str O,none)]
abbrev a8a:List pC:=[]
@[go_sem] def a8b:pJ:=⟨[((wW O)).isSome=true],[(.val .ref (some (0,0)),none)],[.cells rO ((O,((val (wW O)).1,())),(((val (wW O)).2.1,((val (wW O)).2.2.1,((val (wW O)).2.2.2.1,((val (wW O)).2.2.2.2.1,())))),((val (wW O)).2.2.2.2.2.1,((val (wW O)).2.2.2.2.2.2.1,(((val (wW O)).2.2.2.2.2.2.2.1,((val (wW O)).2.2.2.2.2.2.2.2.1,((val (wW O)).2.2.2.2.2.2.2.2.2.1,((val (wW O)).2.2.2.2.2.2.2.2.2.2.1,())))),((some 1),((val (wW O)).2.2.2.2.2.2.2.2.2.2.2.1,((val (wW O)).2.2.2.2.2.2.2.2.2.2.2.2.1,())))))))) [(11,2),(13,3)],.map .str .bool ((val (wW O)).2.2.2.2.2.2.2.2.2.2.2.2.2),.grow 55 7 (((val (wW O)).2.2.2.2.2.2.2.2.2.2.1).length),.grow 3 1 (((val (wW O)).2.2.2.2.2.2.2.2.2.2.2.1).length)]⟩
def aGv:List pD→List pC→Option pJ:=qP (V:=(List UInt8)) (fun x=>a79 x) (fun x=>a8a) fun x=>a8b x
@[go_sem] theorem aTy:aGv (no_index (a79 O)) (no_index a8a)=some (a8b O):=qQ (fun a0 b0 h1 h2=>by cases h1;cases h2;rfl) O
end
@[go_sem] abbrev aGw:Nat×qC:=(44,⟨[.v],aGv,[],[],none⟩)
theorem IK:qG Tryz.prog [uX,EZ,rP,HW,PN,zT,HV,yC] (qE [a6V,aGs,aGu]):=⟨⟨vK,⟨HU,⟨rQ,⟨M8,⟨a0E,⟨BE,⟨M6,⟨zS,trivial⟩⟩⟩⟩⟩⟩⟩⟩,pM aFU (pM aNw (pM aNx qS)),qI⟩
theorem aNy:qJ Tryz.prog aGw:=by
 refine qR IK Tryz.func44 (c:=_) rfl (N:=34) (by kernel_rfl) (ts:=[(2,none)]) rfl (fun _ _=>rfl) ?_;intro O hs hrow;dsimp only[a79,a8a,a8b,qM,pN,pW,qH,qO,Nat.reduceAdd] at hs hrow⊢;have hz:=hs;obtain⟨z0,hC0⟩:=aTF.1 hz
 try rw[r8 hC0]
 clear hz hs;unfold wW at hC0;refine pB IK ?_;refine pB IK ?_;obtain⟨Z,hv1,hw1,hC0⟩:=pZ hC0
 try simp only[go_sem] at hw1
 refine pB IK ?_ (hp:=by exact(pY hv1)) (h:=by simp only[go_sem,hw1];rfl);obtain⟨aA,hv2,hw2,hC0⟩:=pZ hC0
 try simp only[go_sem] at hw2
 refine pB IK ?_ (hp:=by exact⟨by first|rfl|trivial,by first|rfl|trivial,by first|rfl|trivial,by first|rfl|trivial,(pY hv2)⟩) (h:=by simp only[go_sem,hw2];rfl)
 refine pP (rC ?_);obtain⟨y1,hy1,hC0⟩:=pF hC0;refine t7 0 (fun s=>s=(fun x=>⟨[(3,(.val .ref (some (0,0)),none))],[(0,.cells rO ((O,(x.1,())),((x.2.1,(x.2.2.1,(x.2.2.2.1,(x.2.2.2.2.1,())))),(x.2.2.2.2.2.1,(x.2.2.2.2.2.2.1,((aA.2.2.2.2.2.2.2.1,(aA.2.2.2.2.2.2.2.2.1,(aA.2.2.2.2.2.2.2.2.2.1,(x.2.2.2.2.2.2.2.1,())))),((some 1),(x.2.2.2.2.2.2.2.2.1,(x.2.2.2.2.2.2.2.2.2.1,())))))))) [(11,2),(13,3)]),(1,.map .str .bool x.2.2.2.2.2.2.2.2.2.2),(2,.grow 55 7 (x.2.2.2.2.2.2.2.1.length)),(3,.grow 3 1 (x.2.2.2.2.2.2.2.2.1.length))],4,34,0⟩) y1) ?_ ?_
 ·refine t6 hy1 (fun x=>⟨[(3,(.val .ref (some (0,0)),none))],[(0,.cells rO ((O,(x.1,())),((x.2.1,(x.2.2.1,(x.2.2.2.1,(x.2.2.2.2.1,())))),(x.2.2.2.2.2.1,(x.2.2.2.2.2.2.1,((aA.2.2.2.2.2.2.2.1,(aA.2.2.2.2.2.2.2.2.1,(aA.2.2.2.2.2.2.2.2.2.1,(x.2.2.2.2.2.2.2.1,())))),((some 1),(x.2.2.2.2.2.2.2.2.1,(x.2.2.2.2.2.2.2.2.2.1,())))))))) [(11,2),(13,3)]),(1,.map .str .bool x.2.2.2.2.2.2.2.2.2.2),(2,.grow 55 7 (x.2.2.2.2.2.2.2.1.length)),(3,.grow 3 1 (x.2.2.2.2.2.2.2.2.1.length))],4,34,0⟩) ⟨[3],[(0,160),(1,96),(2,163),(3,164)]⟩ (by rfl) ?_;intro x1 w1 n1 hC1 hN1;obtain⟨aB,aC,aD,aE,aF,aG,aH,aI,aJ,aK,aL⟩:=x1;unfold EA at hC1;dsimp only at hC1⊢;refine pP ?_;refine pB IK ?_ (hp:=by exact⟨fun hh=>hh,fun hh=>hh,fun hh=>hh,fun hh=>hh,fun hh=>hh,(fun hh=>rL hh)⟩);refine pO hC1 (fun hC1 hc1=> ?_) (fun hC1 hc1=> ?_)
  ·refine qD (pL (rC ?_));obtain⟨aM,hv3,hw3,hC1⟩:=pZ hC1
   try simp only[go_sem] at hw3
   refine qU IK ?_ (hp:=by exact⟨by first|rfl|trivial,by first|rfl|trivial,(pY hv3)⟩) (h:=by simp only[go_sem,hw3];rfl)
   refine qY ?_;cases hC1;exact s7 ⟨⟨[3],[(0,0),(1,1),(2,2),(3,3)]⟩,_,by rfl,hN1⟩
  ·refine sO (sW (sQ ?_));cases hC1;cases hN1;exact sP ⟨⟨[3],[(0,0),(1,1),(2,2),(3,3)]⟩,by rfl⟩
 ·rintro _ rfl;obtain⟨aN,aO,aP,aQ,aR,aS,aT,aU,aV,aW,aX⟩:=y1;dsimp only at hC0⊢;refine sZ (pL ?_);refine pB IK ?_;refine pK ?_;cases hC0;exact⟨[(0,0),(1,1),(2,2),(3,3)],by rfl,by rfl,by rfl⟩
attribute [irreducible] wW
def y5 (O:(List UInt8)):Option ((List UInt8)×(List (List UInt8))×(List pV)×(List rD)×Int×Int):=(wW O).bind fun Z=>if (!decide (Z.2.2.2.2.2.2.1=(0:Int)))=true then some ((([]:List UInt8),([]:List (List UInt8)),([]:List pV),([]:List rD),Z.2.2.2.2.2.1,Z.2.2.2.2.2.2.1)) else some ((Z.2.2.2.2.2.2.2.1,Z.2.2.2.2.2.2.2.2.1,Z.2.2.2.2.2.2.2.2.2.1,Z.2.2.2.2.2.2.2.2.2.2.1,(0:Int),(0:Int)))
section
variable (O:(List UInt8))
abbrev a8c:List pD:=[(.val .str O,none)]
abbrev a8d:List pC:=[]
@[go_sem] def a8e:pJ:=⟨[((y5 O)).isSome=true],[(.val wH ((val (y5 O)).1,((val (y5 O)).2.1,((val (y5 O)).2.2.1,((val (y5 O)).2.2.2.1,())))),none),(.val (.int .i64) ((val (y5 O)).2.2.2.2.1),none),(.val (.int .i64) ((val (y5 O)).2.2.2.2.2),none)],[]⟩
def aGx:List pD→List pC→Option pJ:=qP (V:=(List UInt8)) (fun x=>a8c x) (fun x=>a8d) fun x=>a8e x
@[go_sem] theorem aTz:aGx (no_index (a8c O)) (no_index a8d)=some (a8e O):=qQ (fun a0 b0 h1 h2=>by cases h1;cases h2;rfl) O
end
@[go_sem] abbrev a8f:Nat×qC:=(16,⟨[.v],aGx,[],[],none⟩)
theorem N6:qG Tryz.prog [uX,zR,HW,yC] (qE [aGw]):=⟨⟨vK,⟨BD,⟨M8,⟨zS,trivial⟩⟩⟩⟩,pM aNy qS,qI⟩
theorem aGy:qJ Tryz.prog a8f:=by
 refine qR N6 Tryz.func16 (c:=_) rfl (N:=26) (by kernel_rfl) (ts:=[(2,some 27),(3,none),(4,none)]) rfl (fun _ _=>rfl) ?_;intro O hs hrow;dsimp only[a8c,a8d,a8e,qM,pN,pW,qH,qO,Nat.reduceAdd] at hs hrow⊢;have hz:=hs;obtain⟨z0,hC0⟩:=aTF.1 hz
 try rw[r8 hC0]
 clear hz hs;unfold y5 at hC0;refine pB N6 ?_;obtain⟨Z,hv1,hw1,hC0⟩:=pZ hC0
 try simp only[go_sem] at hw1
 refine pB N6 ?_ (hp:=by exact(pY hv1)) (h:=by simp only[go_sem,hw1];rfl);refine pP ?_;refine pB N6 ?_;refine pO hC0 (fun hC0 hc1=> ?_) (fun hC0 hc1=> ?_)
 ·refine xD N6 ?_;refine pK (qW ?_);cases hC0;exact⟨[],by rfl,by rfl,by rfl⟩
 ·refine qD (pL ?_);refine pB N6 ?_;refine pK ?_;cases hC0;exact⟨[],by rfl,by rfl,by rfl⟩
attribute [irreducible] y5
def N7:Option Bool:=(y5 ([99,97,116,97,108,111,103,34,100,101,34,123,125,47,42,32,120,32,42,47,101,110,116,114,121,34,97,34,123,116,97,114,103,101,116,34,120,34,125,47,47]:List UInt8)).bind fun O=>if (((((decide (O.2.2.2.2.2=(0:Int)))&&(decide (O.1=([100,101]:List UInt8))))&&(decide ((O.2.2.2.1.length:Int)=(1:Int))))==true)=true→0≤(0:Int)∧(0:Int)<(O.2.2.2.1.length:Int)) then if ((((((decide (O.2.2.2.2.2=(0:Int)))&&(decide (O.1=([100,101]:List UInt8))))&&(decide ((O.2.2.2.1.length:Int)=(1:Int))))&&(decide ((pU rN O.2.2.2.1 (0:Int)).1=([97]:List UInt8))))==true)=true→0≤(0:Int)∧(0:Int)<(O.2.2.2.1.length:Int)) then some ((((((decide (O.2.2.2.2.2=(0:Int)))&&(decide (O.1=([100,101]:List UInt8))))&&(decide ((O.2.2.2.1.length:Int)=(1:Int))))&&(decide ((pU rN O.2.2.2.1 (0:Int)).1=([97]:List UInt8))))&&(decide ((pU rN O.2.2.2.1 (0:Int)).2.2.1=([120]:List UInt8))))) else none else none
section
abbrev a8g:List pD:=[]
abbrev a8h:List pC:=[]
@[go_sem] def a8i:pJ:=⟨[(N7).isSome=true],[(.val .bool (val N7),none)],[]⟩
def aGz:List pD→List pC→Option pJ:=qP (V:=Unit) (fun x=>a8g) (fun x=>a8h) fun x=>a8i
@[go_sem] theorem aTA:aGz (no_index a8g) (no_index a8h)=some a8i:=qQ (fun _ _ h1 h2=>by cases h1;cases h2;rfl) ()
end
@[go_sem] abbrev aGA:Nat×qC:=(15,⟨[],aGz,[],[],none⟩)
theorem VT:qG Tryz.prog [rP,DN,zR,yZ] (qE [a8f]):=⟨⟨rQ,⟨G8,⟨BD,⟨AL,trivial⟩⟩⟩⟩,pM aGy qS,qI⟩
theorem aNz:qJ Tryz.prog aGA:=by
 refine qR VT Tryz.func15 (c:=_) rfl (N:=38) (by kernel_rfl) (ts:=[(0,none)]) rfl (fun _ _=>rfl) ?_;intro⟨⟩ hs hrow;dsimp only[a8g,a8h,a8i,qM,pN,pW,qH,qO,Nat.reduceAdd] at hs hrow⊢;have hz:=hs;obtain⟨z0,hC0⟩:=aTF.1 hz
 try rw[r8 hC0]
 clear hz hs;unfold N7 at hC0;refine pB VT ?_;obtain⟨O,hv1,hw1,hC0⟩:=pZ hC0
 try simp only[go_sem] at hw1
 refine pB VT ?_ (hp:=by exact(pY hv1)) (h:=by simp only[go_sem,hw1];rfl);obtain⟨hg2,hC0⟩:=pI hC0;obtain⟨hg3,hC0⟩:=pI hC0;refine pB VT ?_ (hp:=by exact⟨fun hh=>hh,fun hh=>hh,fun hh=>rL hh,fun hh=>hh,fun hh=>hh,fun hh=>hh,fun hh=>rL hh,fun hh=>hh,fun hh=>hh,hg2,fun hh=>hh,fun hh=>hh,fun hh=>hh,fun hh=>rL hh,fun hh=>hh,fun hh=>hh,hg3,fun hh=>hh,fun hh=>hh,fun hh=>hh,(fun hh=>rL hh)⟩);refine pK ?_;cases hC0;exact⟨[],by rfl,by rfl,by rfl⟩
attribute [irreducible] N7
end
noncomputable section
def KL (O:qZ) (Z:(List UInt8)):Option Bool:=N7.bind fun aA=>if (!aA)=true then some (false) else (KD O).bind fun aB=>if ((!aB)||(decide ((4000:Int)<(Z.length:Int))))=true then some (true) else (FB O).bind fun aC=>rW (σ:=Unit) (if aC=true then (E8 O).bind fun aD=>(y5 aD.1).bind fun aE=>if ((((!decide (aD.2=(0:Int)))||(!decide (aE.2.2.2.2.2=(0:Int))))==false)=true→((C9 (aE.1,(aE.2.1,(aE.2.2.1,(aE.2.2.2.1,())))) O)).isSome=true) then if (((!decide (aD.2=(0:Int)))||(!decide (aE.2.2.2.2.2=(0:Int))))||(!((((decide (aE.1=O.1))&&(val (vL aE.2.1 O.2.1)))&&(val (yF aE.2.2.1 O.2.2.1)))&&(val (C7 aE.2.2.2.1 O.2.2.2.1)))))=true then some (.inr (false)) else some (.inl ()) else none else some (.inl ()) ) fun _=>(y5 Z).bind fun aF=>if (!decide (aF.2.2.2.2.2=(0:Int)))=true then (C9 (aF.1,(aF.2.1,(aF.2.2.1,(aF.2.2.2.1,())))) (([]:List UInt8),(([]:List (List UInt8)),(([]:List pV),(([]:List rD),()))))).bind fun aG=>some (((((decide (aF.1=([]:List UInt8)))&&(val (vL aF.2.1 ([]:List (List UInt8)))))&&(val (yF aF.2.2.1 ([]:List pV))))&&(val (C7 aF.2.2.2.1 ([]:List rD))))) else (E8 (aF.1,(aF.2.1,(aF.2.2.1,(aF.2.2.2.1,()))))).bind fun aH=>(y5 aH.1).bind fun aI=>(E8 (aI.1,(aI.2.1,(aI.2.2.1,(aI.2.2.2.1,()))))).bind fun aJ=>if (((((decide (aH.2=(0:Int)))&&(decide (aI.2.2.2.2.2=(0:Int))))&&(decide (aJ.2=(0:Int))))==true)=true→((FB (aF.1,(aF.2.1,(aF.2.2.1,(aF.2.2.2.1,())))))).isSome=true) then if ((((((decide (aH.2=(0:Int)))&&(decide (aI.2.2.2.2.2=(0:Int))))&&(decide (aJ.2=(0:Int))))&&(val (FB (aF.1,(aF.2.1,(aF.2.2.1,(aF.2.2.2.1,())))))))==true)=true→((C9 (aF.1,(aF.2.1,(aF.2.2.1,(aF.2.2.2.1,())))) (aI.1,(aI.2.1,(aI.2.2.1,(aI.2.2.2.1,())))))).isSome=true) then some (((((((decide (aH.2=(0:Int)))&&(decide (aI.2.2.2.2.2=(0:Int))))&&(decide (aJ.2=(0:Int))))&&(val (FB (aF.1,(aF.2.1,(aF.2.2.1,(aF.2.2.2.1,())))))))&&((((decide (aF.1=aI.1))&&(val (vL aF.2.1 aI.2.1)))&&(val (yF aF.2.2.1 aI.2.2.1)))&&(val (C7 aF.2.2.2.1 aI.2.2.2.1))))&&(decide (aH.1=aJ.1)))) else none else none
section
variable (O:qZ) (Z:(List UInt8))
abbrev QX:List pD:=[(.val wH O,none),(.val .str Z,none)]
abbrev VU:List pC:=[]
@[go_sem] def N8:pJ:=⟨[((KL O Z)).isSome=true],[(.val .bool (val (KL O Z)),none)],[]⟩
def a8j:List pD→List pC→Option pJ:=qP (V:=(qZ×(List UInt8))) (fun x=>QX x.1 x.2) (fun x=>VU) fun x=>N8 x.1 x.2
@[go_sem] theorem aNA:a8j (no_index (QX O Z)) (no_index VU)=some (N8 O Z):=qQ (fun⟨a0,a1⟩ ⟨b0,b1⟩ h1 h2=>by cases h1;cases h2;rfl) (O,Z)
end
@[go_sem] abbrev aNB:Nat×qC:=(8,⟨[.v,.v],a8j,[],[],none⟩)
theorem yJ:qG Tryz.prog [rP,zR] (qE [aGA,aES,aFH,aFJ,a8f,aEQ]):=⟨⟨rQ,⟨BD,trivial⟩⟩,pM aNz (pM aMW (pM aNe (pM aNf (pM aGy (pM aMV qS))))),qI⟩
theorem aNC:qJ Tryz.prog aNB:=by
 refine qR yJ Tryz.func8 (c:=_) rfl (N:=106) (by kernel_rfl) (ts:=[(4,none)]) rfl (fun _ _=>rfl) ?_;intro⟨O,Z⟩ hs hrow;dsimp only[QX,VU,N8,qM,pN,pW,qH,qO,Nat.reduceAdd] at hs hrow⊢;have hz:=hs;obtain⟨z0,hC0⟩:=aTF.1 hz
 try rw[r8 hC0]
 clear hz hs;unfold KL at hC0;refine pB yJ ?_;refine pP ?_;obtain⟨aA,hv1,hw1,hC0⟩:=pZ hC0
 try simp only[go_sem] at hw1
 refine pB yJ ?_ (hp:=by exact(pY hv1)) (h:=by simp only[go_sem,hw1];rfl);refine pO hC0 (fun hC0 hc1=> ?_) (fun hC0 hc1=> ?_)
 ·refine pB yJ ?_;refine pK (qW ?_);cases hC0;exact⟨[],by rfl,by rfl,by rfl⟩
 ·refine qD (pL (pP ?_));obtain⟨aB,hv2,hw2,hC0⟩:=pZ hC0
  try simp only[go_sem] at hw2
  refine pB yJ ?_ (hp:=by exact⟨pY hv2,fun hh=>hh,fun hh=>hh,(fun hh=>sR hh)⟩) (h:=by simp only[go_sem,hw2];rfl);refine pO hC0 (fun hC0 hc2=> ?_) (fun hC0 hc2=> ?_)
  ·refine pB yJ ?_;refine pK (qW ?_);cases hC0;exact⟨[],by rfl,by rfl,by rfl⟩
  ·refine qD (pL (pP ?_));obtain⟨aC,hv3,hw3,hC0⟩:=pZ hC0
   try simp only[go_sem] at hw3
   refine pB yJ ?_ (hp:=by exact(pY hv3)) (h:=by simp only[go_sem,hw3];rfl);obtain⟨y1,hC1,hC0⟩:=uI hC0;refine BB (fun s=> ∃v,y1= .inl v∧s=(fun _=>⟨[(1,(.val .str Z,none))],[],0,106,0⟩) v) ?_ ?_
   ·refine pO hC1 (fun hC1 hc3=> ?_) (fun hC1 hc3=> ?_)
    ·obtain⟨aD,hv4,hw4,hC1⟩:=pZ hC1
     try simp only[go_sem] at hw4
     refine pB yJ ?_ (hp:=by exact(pY hv4)) (h:=by simp only[go_sem,hw4];rfl);obtain⟨aE,hv5,hw5,hC1⟩:=pZ hC1
     try simp only[go_sem] at hw5
     refine pB yJ ?_ (hp:=by exact(pY hv5)) (h:=by simp only[go_sem,hw5];rfl);obtain⟨hg6,hC1⟩:=pI hC1;refine pB yJ ?_ (hp:=by exact⟨fun hh=>hh,fun hh=>sR hh,fun hh=>hh,fun hh=>hh,hg6,fun hh=>hh,(fun hh=>sR hh)⟩);refine pO hC1 (fun hC1 hc4=> ?_) (fun hC1 hc4=> ?_)
     ·refine pB yJ ?_;refine pK (a0o (qW ?_));cases hC1;dsimp only at hC0;cases hC0;exact⟨[],by rfl,by rfl,by rfl⟩
     ·refine qD ?_;cases hC1;exact uE ⟨⟨[1],[]⟩,_,rfl,by rfl⟩
    ·refine qD ?_;cases hC1;exact uE ⟨⟨[1],[]⟩,_,rfl,by rfl⟩
   ·rintro _ ⟨v,rfl,rfl⟩;dsimp only at hC0⊢;refine pL ?_;obtain⟨aF,hv7,hw7,hC0⟩:=pZ hC0
    try simp only[go_sem] at hw7
    refine pB yJ ?_ (hp:=by exact(pY hv7)) (h:=by simp only[go_sem,hw7];rfl);refine pP ?_;refine pB yJ ?_;refine pO hC0 (fun hC0 hc5=> ?_) (fun hC0 hc5=> ?_)
    ·obtain⟨aG,hv8,hw8,hC0⟩:=pZ hC0
     try simp only[go_sem] at hw8
     refine pB yJ ?_ (hp:=by exact(pY hv8)) (h:=by simp only[go_sem,hw8];rfl);refine pK (qW ?_);cases hC0;exact⟨[],by rfl,by rfl,by rfl⟩
    ·refine qD (pL ?_);obtain⟨aH,hv9,hw9,hC0⟩:=pZ hC0
     try simp only[go_sem] at hw9
     refine pB yJ ?_ (hp:=by exact(pY hv9)) (h:=by simp only[go_sem,hw9];rfl);obtain⟨aI,hv10,hw10,hC0⟩:=pZ hC0
     try simp only[go_sem] at hw10
     refine pB yJ ?_ (hp:=by exact(pY hv10)) (h:=by simp only[go_sem,hw10];rfl);obtain⟨aJ,hv11,hw11,hC0⟩:=pZ hC0
     try simp only[go_sem] at hw11
     refine pB yJ ?_ (hp:=by exact(pY hv11)) (h:=by simp only[go_sem,hw11];rfl);obtain⟨hg12,hC0⟩:=pI hC0;obtain⟨hg13,hC0⟩:=pI hC0;refine pB yJ ?_ (hp:=by exact⟨fun hh=>hh,fun hh=>rL hh,fun hh=>hh,fun hh=>rL hh,fun hh=>hh,hg12,fun hh=>rL hh,fun hh=>hh,fun hh=>hh,hg13,fun hh=>rL hh,fun hh=>hh,fun hh=>hh,(fun hh=>rL hh)⟩);refine pK ?_;cases hC0;exact⟨[],by rfl,by rfl,by rfl⟩
attribute [irreducible] KL
end
end Go.Proofs.YtbbpilohihldiaaGreatDoor
section
end
