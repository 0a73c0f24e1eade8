/- Packed by a program of mine (wip/tools/pack.py): the same texts with short names and few blanks. -/
import Derived.KernelRfl
import Derived.Laws.BitsLemmas
import Derived.Sort.Walk0
import Derived.Test.YtbbpilohihldiaaGreatDoorL02
set_option linter.unusedVariables false
set_option linter.unusedSimpArgs false
set_option linter.unusedSectionVars false
set_option maxRecDepth 100000
set_option maxHeartbeats 4000000
namespace Go.Proofs.YtbbpilohihldiaaGreatDoor
open Vc
noncomputable section
def PD (O:(List pR)):((List UInt8)×Int)→Option (((List UInt8)×Int)⊕(List UInt8)):=fun(Z,aA)=>if (decide (aA<(O.length:Int)))=true then if 0≤aA∧aA<(O.length:Int) then (zZ ((pZ (.pair .str (.pair .str .unit)) O aA).1)).bind fun aB=>if ((([10,32,32,102,105,101,108,100,32]:List UInt8)++aB).length:Int)≤9223372036854775807 then if (((([10,32,32,102,105,101,108,100,32]:List UInt8)++aB)++([32]:List UInt8)).length:Int)≤9223372036854775807 then (zZ ((pZ (.pair .str (.pair .str .unit)) O aA).2.1)).bind fun aC=>if ((((([10,32,32,102,105,101,108,100,32]:List UInt8)++aB)++([32]:List UInt8))++aC).length:Int)≤9223372036854775807 then if ((Z++(((([10,32,32,102,105,101,108,100,32]:List UInt8)++aB)++([32]:List UInt8))++aC)).length:Int)≤9223372036854775807 then if pB (aA+(1:Int)) then some (.inl ((Z++(((([10,32,32,102,105,101,108,100,32]:List UInt8)++aB)++([32]:List UInt8))++aC)),(aA+(1:Int)))) else none else none else none else none else none else none else some (.inr Z)
def HD (O:(List pR)):Option (List UInt8):=qZ (pU (PD O) (([]:List UInt8),(0:Int))) fun Z=>some (Z)
section
variable (O:(List pR))
abbrev a3Z:List pA:=[(.val (.list (.pair .str (.pair .str .unit))) O,none)]
abbrev a30:List p9:=[]
@[go_sem] def a32:pF:=⟨[((HD O)).isSome=true],[(.val .str (val (HD O)),none)],[]⟩
def aCI:List pA→List p9→Option pF:=qP (V:=(List pR)) (fun x=>a3Z x) (fun x=>a30) fun x=>a32 x
@[go_sem] theorem aPG:aCI (no_index (a3Z O)) (no_index a30)=some (a32 O):=qR (fun a0 b0 h1 h2=>by cases h1;cases h2;rfl) O
end
@[go_sem] abbrev a33:Nat×pY:=(62,⟨[.v],aCI,[],[],none⟩)
theorem FX:qE Tryz.prog [rR,AW,E8] (qC [P9]):=⟨⟨rU,⟨CF,⟨GU,trivial⟩⟩⟩,pK U8 qT,qH⟩
theorem aCJ:qI Tryz.prog a33:=by
 refine qS FX Tryz.func62 (c:=_) rfl (N:=25) (by kernel_rfl) (ts:=[(2,none)]) rfl (fun _ _=>rfl) ?_;intro O hs hrow;dsimp only[a3Z,a30,a32,qK,pM,pV,qG,qO,Nat.reduceAdd] at hs hrow⊢;have hz:=hs;obtain⟨z0,hC0⟩:=aQn.1 hz
 try rw[r8 hC0]
 clear hz hs;unfold HD at hC0;refine p8 FX ?_;refine p8 FX ?_;refine pW ?_;refine p8 FX ?_;refine rI ?_;obtain⟨Z,hy1,hC0⟩:=pD hC0;refine uZ 0 (fun s=>s=(fun x=>⟨[(3,(.val .str x,none))],[],0,25,0⟩) Z) ?_ ?_
 ·refine uY hy1 (fun x=>⟨[(3,(.val .str x.1,none)),(6,(.val (.list (.pair .str (.pair .str .unit))) O,none)),(7,(.val (.int .i64) (O.length:Int),none)),(8,(.val (.int .i64) x.2,none))],[],0,25,0⟩) ⟨[3,6,7,8],[]⟩ (by rfl) ?_;intro x1 w1 n1 hC1 hN1;obtain⟨aA,aB⟩:=x1;unfold PD at hC1;dsimp only at hC1⊢;refine p8 FX ?_;refine pW ?_;refine pP hC1 (fun hC1 hc1=> ?_) (fun hC1 hc1=> ?_)
  ·refine qM (pN (pW (rI ?_)));obtain⟨hg1,hC1⟩:=pG hC1;refine p8 FX ?_ (hp:=by exact hg1);obtain⟨aC,hv2,hw2,hC1⟩:=pT hC1
   try simp only[go_sem] at hw2
   obtain⟨hg3,hC1⟩:=pG hC1;obtain⟨hg4,hC1⟩:=pG hC1;obtain⟨aD,hv5,hw5,hC1⟩:=pT hC1
   try simp only[go_sem] at hw5
   obtain⟨hg6,hC1⟩:=pG hC1;obtain⟨hg7,hC1⟩:=pG hC1;refine FA FX ?_ (hp:=by exact⟨pS hv2,hg3,hg4,pS hv5,hg6,hg7⟩) (h:=by simp only[go_sem,hw2,hw5];rfl);refine qV (pN ?_);obtain⟨hg8,hC1⟩:=pG hC1;refine qU FX ?_ (hp:=by exact hg8);cases hC1;exact sM ⟨⟨[3,6,7,8],[]⟩,_,by rfl,hN1⟩
  ·refine uG (uO (uI ?_));cases hC1;cases hN1;exact uH ⟨⟨[3],[]⟩,by rfl⟩
 ·rintro _ rfl;dsimp only at hC0⊢;refine uX (pN ?_);refine p8 FX ?_;refine pI ?_;cases hC0;exact⟨[],by rfl,by rfl,by rfl⟩
attribute [irreducible] HD
def LV (O:rG):((List UInt8)×Int)→Option (((List UInt8)×Int)⊕(List UInt8)):=fun(Z,aA)=>if (decide (aA<(O.2.2.2.2.1.length:Int)))=true then if 0≤aA∧aA<(O.2.2.2.2.1.length:Int) then if ((([10,32,32,102,108,97,103,32]:List UInt8)++(pZ .str O.2.2.2.2.1 aA)).length:Int)≤9223372036854775807 then if ((Z++(([10,32,32,102,108,97,103,32]:List UInt8)++(pZ .str O.2.2.2.2.1 aA))).length:Int)≤9223372036854775807 then if pB (aA+(1:Int)) then some (.inl ((Z++(([10,32,32,102,108,97,103,32]:List UInt8)++(pZ .str O.2.2.2.2.1 aA))),(aA+(1:Int)))) else none else none else none else none else some (.inr Z)
def JE (O:rG):Option (List UInt8):=(zZ O.1).bind fun Z=>if ((([10,10,101,110,116,114,121,32]:List UInt8)++Z).length:Int)≤9223372036854775807 then if (((([10,10,101,110,116,114,121,32]:List UInt8)++Z)++([32,123]:List UInt8)).length:Int)≤9223372036854775807 then (HC O.2.2.2.1).bind fun aA=>if ((((([10,10,101,110,116,114,121,32]:List UInt8)++Z)++([32,123]:List UInt8))++aA).length:Int)≤9223372036854775807 then qZ (σ:=(List UInt8)) (if (!decide (O.2.1=([]:List UInt8)))=true then (zZ O.2.1).bind fun aB=>if ((([10,32,32,115,111,117,114,99,101,32]:List UInt8)++aB).length:Int)≤9223372036854775807 then if (((((([10,10,101,110,116,114,121,32]:List UInt8)++Z)++([32,123]:List UInt8))++aA)++(([10,32,32,115,111,117,114,99,101,32]:List UInt8)++aB)).length:Int)≤9223372036854775807 then some (((((([10,10,101,110,116,114,121,32]:List UInt8)++Z)++([32,123]:List UInt8))++aA)++(([10,32,32,115,111,117,114,99,101,32]:List UInt8)++aB))) else none else none else some ((((([10,10,101,110,116,114,121,32]:List UInt8)++Z)++([32,123]:List UInt8))++aA)) ) fun aC=>qZ (σ:=(List UInt8)) (if (!decide (O.2.2.1=([]:List UInt8)))=true then (zZ O.2.2.1).bind fun aD=>if ((([10,32,32,116,97,114,103,101,116,32]:List UInt8)++aD).length:Int)≤9223372036854775807 then if ((aC++(([10,32,32,116,97,114,103,101,116,32]:List UInt8)++aD)).length:Int)≤9223372036854775807 then some ((aC++(([10,32,32,116,97,114,103,101,116,32]:List UInt8)++aD))) else none else none else some (aC) ) fun aE=>qZ (σ:=(List UInt8)) (if (!decide (O.2.2.2.2.2.1=(0:Int)))=true then if 0≤O.2.2.2.2.2.1∧O.2.2.2.2.2.1<(([([110,101,119]:List UInt8),([102,117,122,122,121]:List UInt8),([116,114,97,110,115,108,97,116,101,100]:List UInt8),([114,101,118,105,101,119,101,100]:List UInt8),([111,98,115,111,108,101,116,101]:List UInt8)]:List (List UInt8)).length:Int) then if ((([10,32,32,115,116,97,116,101,32]:List UInt8)++(pZ .str ([([110,101,119]:List UInt8),([102,117,122,122,121]:List UInt8),([116,114,97,110,115,108,97,116,101,100]:List UInt8),([114,101,118,105,101,119,101,100]:List UInt8),([111,98,115,111,108,101,116,101]:List UInt8)]:List (List UInt8)) O.2.2.2.2.2.1)).length:Int)≤9223372036854775807 then if ((aE++(([10,32,32,115,116,97,116,101,32]:List UInt8)++(pZ .str ([([110,101,119]:List UInt8),([102,117,122,122,121]:List UInt8),([116,114,97,110,115,108,97,116,101,100]:List UInt8),([114,101,118,105,101,119,101,100]:List UInt8),([111,98,115,111,108,101,116,101]:List UInt8)]:List (List UInt8)) O.2.2.2.2.2.1))).length:Int)≤9223372036854775807 then some ((aE++(([10,32,32,115,116,97,116,101,32]:List UInt8)++(pZ .str ([([110,101,119]:List UInt8),([102,117,122,122,121]:List UInt8),([116,114,97,110,115,108,97,116,101,100]:List UInt8),([114,101,118,105,101,119,101,100]:List UInt8),([111,98,115,111,108,101,116,101]:List UInt8)]:List (List UInt8)) O.2.2.2.2.2.1)))) else none else none else none else some (aE) ) fun aF=>qZ (pU (LV O) (aF,(0:Int))) fun aG=>(HD O.2.2.2.2.2.2.1).bind fun aH=>if ((aG++aH).length:Int)≤9223372036854775807 then if (((aG++aH)++([10,125]:List UInt8)).length:Int)≤9223372036854775807 then some (((aG++aH)++([10,125]:List UInt8))) else none else none else none else none else none
section
variable (O:rG)
abbrev a34:List pA:=[(.val uB O,none)]
abbrev a35:List p9:=[]
@[go_sem] def a36:pF:=⟨[((JE O)).isSome=true],[(.val .str (val (JE O)),none)],[]⟩
def aCK:List pA→List p9→Option pF:=qP (V:=rG) (fun x=>a34 x) (fun x=>a35) fun x=>a36 x
@[go_sem] theorem aPH:aCK (no_index (a34 O)) (no_index a35)=some (a36 O):=qR (fun a0 b0 h1 h2=>by cases h1;cases h2;rfl) O
end
@[go_sem] abbrev aCL:Nat×pY:=(63,⟨[.v],aCK,[],[],none⟩)
theorem A0:qE Tryz.prog [vL,rR,vX,AW,E6] (qC [P9,a3Y,OD,a33]):=⟨⟨wE,⟨rU,⟨wP,⟨CF,⟨GT,trivial⟩⟩⟩⟩⟩,pK U8 (pK aCH (pK a0m (pK aCJ qT))),qH⟩
theorem aKj:qI Tryz.prog aCL:=by
 refine qS A0 Tryz.func63 (c:=_) rfl (N:=62) (by kernel_rfl) (ts:=[(2,none)]) rfl (fun _ _=>rfl) ?_;intro O hs hrow;dsimp only[a34,a35,a36,qK,pM,pV,qG,qO,Nat.reduceAdd] at hs hrow⊢;have hz:=hs;obtain⟨z0,hC0⟩:=aQn.1 hz
 try rw[r8 hC0]
 clear hz hs;unfold JE at hC0;refine p8 A0 ?_;obtain⟨Z,hv1,hw1,hC0⟩:=pT hC0
 try simp only[go_sem] at hw1
 obtain⟨hg2,hC0⟩:=pG hC0;obtain⟨hg3,hC0⟩:=pG hC0;obtain⟨aA,hv4,hw4,hC0⟩:=pT hC0
 try simp only[go_sem] at hw4
 obtain⟨hg5,hC0⟩:=pG hC0;refine xU A0 ?_ (hp:=by exact⟨pS hv1,hg2,hg3,pS hv4,hg5⟩) (h:=by simp only[go_sem,hw1,hw4];rfl);refine pW ?_;refine p8 A0 ?_;obtain⟨aB,hC1,hC0⟩:=pD hC0;refine CD (fun s=>s=(fun x=>⟨[(1,(.val .ref (some (0,0)),none)),(3,(.val .str x,none))],[(0,.cells uB O [])],1,62,0⟩) aB) ?_ ?_
 ·refine pP hC1 (fun hC1 hc1=> ?_) (fun hC1 hc1=> ?_)
  ·obtain⟨aC,hv6,hw6,hC1⟩:=pT hC1
   try simp only[go_sem] at hw6
   obtain⟨hg7,hC1⟩:=pG hC1;obtain⟨hg8,hC1⟩:=pG hC1;refine qU A0 ?_ (hp:=by exact⟨pS hv6,hg7,hg8⟩) (h:=by simp only[go_sem,hw6];rfl);cases hC1;exact uP ⟨⟨[1,3],[(0,0)]⟩,by rfl⟩
  ·refine qM ?_;cases hC1;exact uP ⟨⟨[1,3],[(0,0)]⟩,by rfl⟩
 ·rintro _ rfl;dsimp only at hC0⊢;refine pN (pW ?_);refine p8 A0 ?_;obtain⟨aD,hC1,hC0⟩:=pD hC0;refine CD (fun s=>s=(fun x=>⟨[(1,(.val .ref (some (0,0)),none)),(3,(.val .str x,none))],[(0,.cells uB O [])],1,62,0⟩) aD) ?_ ?_
  ·refine pP hC1 (fun hC1 hc2=> ?_) (fun hC1 hc2=> ?_)
   ·obtain⟨aE,hv9,hw9,hC1⟩:=pT hC1
    try simp only[go_sem] at hw9
    obtain⟨hg10,hC1⟩:=pG hC1;obtain⟨hg11,hC1⟩:=pG hC1;refine qU A0 ?_ (hp:=by exact⟨pS hv9,hg10,hg11⟩) (h:=by simp only[go_sem,hw9];rfl);cases hC1;exact uP ⟨⟨[1,3],[(0,0)]⟩,by rfl⟩
   ·refine qM ?_;cases hC1;exact uP ⟨⟨[1,3],[(0,0)]⟩,by rfl⟩
  ·rintro _ rfl;dsimp only at hC0⊢;refine pN (pW ?_);refine p8 A0 ?_;obtain⟨aF,hC1,hC0⟩:=pD hC0;refine CD (fun s=>s=(fun x=>⟨[(1,(.val .ref (some (0,0)),none)),(3,(.val .str x,none))],[(0,.cells uB O [])],1,62,0⟩) aF) ?_ ?_
   ·refine pP hC1 (fun hC1 hc3=> ?_) (fun hC1 hc3=> ?_)
    ·obtain⟨hg12,hC1⟩:=pG hC1;obtain⟨hg13,hC1⟩:=pG hC1;obtain⟨hg14,hC1⟩:=pG hC1;refine FA A0 ?_ (hp:=by exact⟨hg12,hg13,hg14⟩);cases hC1;exact uP ⟨⟨[1,3],[(0,0)]⟩,by rfl⟩
    ·refine qM ?_;cases hC1;exact uP ⟨⟨[1,3],[(0,0)]⟩,by rfl⟩
   ·rintro _ rfl;dsimp only at hC0⊢;refine pN (pW ?_);refine p8 A0 ?_;refine rI ?_;obtain⟨aG,hy1,hC0⟩:=pD hC0;refine uZ 0 (fun s=>s=(fun x=>⟨[(1,(.val .ref (some (0,0)),none)),(3,(.val .str x,none))],[(0,.cells uB O [])],1,62,0⟩) aG) ?_ ?_
    ·refine uY hy1 (fun x=>⟨[(1,(.val .ref (some (0,0)),none)),(3,(.val .str x.1,none)),(45,(.val (.list .str) O.2.2.2.2.1,none)),(46,(.val (.int .i64) (O.2.2.2.2.1.length:Int),none)),(47,(.val (.int .i64) x.2,none))],[(0,.cells uB O [])],1,62,0⟩) ⟨[1,3,45,46,47],[(0,0)]⟩ (by rfl) ?_;intro x1 w1 n1 hC1 hN1;obtain⟨aH,aI⟩:=x1;unfold LV at hC1;dsimp only at hC1⊢;refine p8 A0 ?_;refine pW ?_;refine pP hC1 (fun hC1 hc4=> ?_) (fun hC1 hc4=> ?_)
     ·refine qM (pN (pW (rI ?_)));obtain⟨hg15,hC1⟩:=pG hC1;refine p8 A0 ?_ (hp:=by exact hg15);obtain⟨hg16,hC1⟩:=pG hC1;obtain⟨hg17,hC1⟩:=pG hC1;refine qU A0 ?_ (hp:=by exact⟨hg16,hg17⟩);refine qV (pN ?_);obtain⟨hg18,hC1⟩:=pG hC1;refine qU A0 ?_ (hp:=by exact hg18);cases hC1;exact sM ⟨⟨[1,3,45,46,47],[(0,0)]⟩,_,by rfl,hN1⟩
     ·refine uG (uO (uI ?_));cases hC1;cases hN1;exact uH ⟨⟨[1,3],[(0,0)]⟩,by rfl⟩
    ·rintro _ rfl;dsimp only at hC0⊢;refine uX (pN ?_);obtain⟨aJ,hv19,hw19,hC0⟩:=pT hC0
     try simp only[go_sem] at hw19
     obtain⟨hg20,hC0⟩:=pG hC0;obtain⟨hg21,hC0⟩:=pG hC0;refine p8 A0 ?_ (hp:=by exact⟨pS hv19,hg20,hg21⟩) (h:=by simp only[go_sem,hw19];rfl);refine pI ?_;cases hC0;exact⟨[],by rfl,by rfl,by rfl⟩
attribute [irreducible] JE
end
noncomputable section
def U9 (O:(List UInt8)):Option Unit:=if (((decide ((O.length:Int)≤(4000:Int)))==true)=true→((LR O)).isSome=true) then some (()) else none
attribute [irreducible] U9
end
noncomputable section
def JF (O:(List (List UInt8))):Option Unit:=if (((decide ((O.length:Int)≤(20:Int)))==true)=true→((B0 O)).isSome=true) then some (()) else none
section
variable (O:(List (List UInt8)))
abbrev a38:List pA:=[(.val (.list .str) O,none)]
abbrev a39:List p9:=[]
@[go_sem] def a4a:pF:=⟨[((JF O)).isSome=true],[(.val .bool ((decide ((O.length:Int)≤(20:Int)))&&(!(val (B0 O)))),none)],[]⟩
def aCM:List pA→List p9→Option pF:=qP (V:=(List (List UInt8))) (fun x=>a38 x) (fun x=>a39) fun x=>a4a x
@[go_sem] theorem aPI:aCM (no_index (a38 O)) (no_index a39)=some (a4a O):=qR (fun a0 b0 h1 h2=>by cases h1;cases h2;rfl) O
end
@[go_sem] abbrev a4b:Nat×pY:=(107,⟨[.v],aCM,[],[],none⟩)
theorem a4c:qE Tryz.prog [vX] (qC [aCF]):=⟨⟨wP,trivial⟩,pK aKi qT,qH⟩
theorem aCN:qI Tryz.prog a4b:=by
 refine qS a4c Tryz.func107 (c:=_) rfl (N:=11) (by kernel_rfl) (ts:=[(2,none)]) rfl (fun _ _=>rfl) ?_;intro O hs hrow;dsimp only[a38,a39,a4a,qK,pM,pV,qG,qO,Nat.reduceAdd] at hs hrow⊢;have hz:=hs;obtain⟨z0,hC0⟩:=aQn.1 hz
 try rw[r8 hC0]
 clear hz hs;unfold JF at hC0;refine p8 a4c ?_;obtain⟨hg1,hC0⟩:=pG hC0;refine p8 a4c ?_ (hp:=by exact⟨fun hh=>hh,hg1,fun hh=>hh,(fun hh=>sH hh)⟩);refine pI ?_;cases hC0;exact⟨[],by rfl,by rfl,by rfl⟩
attribute [irreducible] JF
end
noncomputable section
def HE (O:rG):Option Bool:=if ((((decide (O.1=([]:List UInt8)))||(decide ((200:Int)<(O.1.length:Int))))==false)=true→((DB O.1)).isSome=true) then if (((((decide (O.1=([]:List UInt8)))||(decide ((200:Int)<(O.1.length:Int))))||(!((decide ((O.1.length:Int)≤(4000:Int)))&&(Lib.validD O.1))))||(decide (O.2.2.2.2.2.1<(0:Int))))||(decide ((4:Int)<O.2.2.2.2.2.1)))=true then some (false) else (DB O.2.1).bind fun Z=>if ((((decide ((O.2.1.length:Int)≤(4000:Int)))&&(Lib.validD O.2.1))==true)=true→((DB O.2.2.1)).isSome=true) then if (((((decide ((O.2.1.length:Int)≤(4000:Int)))&&(Lib.validD O.2.1))&&((decide ((O.2.2.1.length:Int)≤(4000:Int)))&&(Lib.validD O.2.2.1)))==true)=true→((JF O.2.2.2.1)).isSome=true) then if ((((((decide ((O.2.1.length:Int)≤(4000:Int)))&&(Lib.validD O.2.1))&&((decide ((O.2.2.1.length:Int)≤(4000:Int)))&&(Lib.validD O.2.2.1)))&&((decide ((O.2.2.2.1.length:Int)≤(20:Int)))&&(!(val (B0 O.2.2.2.1)))))==true)=true→((FJ O.2.2.2.2.1)).isSome=true) then if (((((((decide ((O.2.1.length:Int)≤(4000:Int)))&&(Lib.validD O.2.1))&&((decide ((O.2.2.1.length:Int)≤(4000:Int)))&&(Lib.validD O.2.2.1)))&&((decide ((O.2.2.2.1.length:Int)≤(20:Int)))&&(!(val (B0 O.2.2.2.1)))))&&(val (FJ O.2.2.2.2.1)))==true)=true→((EE O.2.2.2.2.2.2.1)).isSome=true) then some (((((((decide ((O.2.1.length:Int)≤(4000:Int)))&&(Lib.validD O.2.1))&&((decide ((O.2.2.1.length:Int)≤(4000:Int)))&&(Lib.validD O.2.2.1)))&&((decide ((O.2.2.2.1.length:Int)≤(20:Int)))&&(!(val (B0 O.2.2.2.1)))))&&(val (FJ O.2.2.2.2.1)))&&(val (EE O.2.2.2.2.2.2.1)))) else none else none else none else none else none
section
variable (O:rG)
abbrev a4d:List pA:=[(.val uB O,none)]
abbrev a4e:List p9:=[]
@[go_sem] def a4f:pF:=⟨[((HE O)).isSome=true],[(.val .bool (val (HE O)),none)],[]⟩
def aCO:List pA→List p9→Option pF:=qP (V:=rG) (fun x=>a4d x) (fun x=>a4e) fun x=>a4f x
@[go_sem] theorem aPJ:aCO (no_index (a4d O)) (no_index a4e)=some (a4f O):=qR (fun a0 b0 h1 h2=>by cases h1;cases h2;rfl) O
end
@[go_sem] abbrev aCP:Nat×pY:=(109,⟨[.v],aCO,[],[],none⟩)
theorem PE:qE Tryz.prog [vL,rR,vX,AW,E6] (qC [OT,a4b,aA7,a3r]):=⟨⟨wE,⟨rU,⟨wP,⟨CF,⟨GT,trivial⟩⟩⟩⟩⟩,pK U2 (pK aCN (pK aJH (pK aCp qT))),qH⟩
theorem aKk:qI Tryz.prog aCP:=by
 refine qS PE Tryz.func109 (c:=_) rfl (N:=51) (by kernel_rfl) (ts:=[(2,none)]) rfl (fun _ _=>rfl) ?_;intro O hs hrow;dsimp only[a4d,a4e,a4f,qK,pM,pV,qG,qO,Nat.reduceAdd] at hs hrow⊢;have hz:=hs;obtain⟨z0,hC0⟩:=aQn.1 hz
 try rw[r8 hC0]
 clear hz hs;unfold HE at hC0;refine p8 PE ?_;refine pW ?_;obtain⟨hg1,hC0⟩:=pG hC0;refine p8 PE ?_ (hp:=by exact⟨fun hh=>hh,fun hh=>hh,fun hh=>hh,fun hh=>uA hh,fun hh=>hh,fun hh=>hh,hg1,fun hh=>hh,fun hh=>uA hh,fun hh=>hh,fun hh=>hh,fun hh=>uA hh,fun hh=>hh,fun hh=>hh,(fun hh=>uA hh)⟩);refine pP hC0 (fun hC0 hc1=> ?_) (fun hC0 hc1=> ?_)
 ·refine p8 PE ?_;refine pI (rF ?_);cases hC0;exact⟨[],by rfl,by rfl,by rfl⟩
 ·refine qM (pN ?_);obtain⟨Z,hv2,hw2,hC0⟩:=pT hC0
  try simp only[go_sem] at hw2
  obtain⟨hg3,hC0⟩:=pG hC0;obtain⟨hg4,hC0⟩:=pG hC0;obtain⟨hg5,hC0⟩:=pG hC0;obtain⟨hg6,hC0⟩:=pG hC0;refine p8 PE ?_ (hp:=by exact⟨pS hv2,fun hh=>hh,fun hh=>hh,hg3,fun hh=>sH hh,fun hh=>hh,fun hh=>hh,hg4,fun hh=>sH hh,fun hh=>hh,fun hh=>hh,hg5,fun hh=>sH hh,fun hh=>hh,fun hh=>hh,hg6,(fun hh=>sH hh)⟩) (h:=by simp only[go_sem,hw2];rfl);refine pI ?_;cases hC0;exact⟨[],by rfl,by rfl,by rfl⟩
attribute [irreducible] HE
def PF (O:(List Int)):(Int×(List Int))→Option ((Int×(List Int))⊕(List Int)):=fun(Z,aA)=>if (decide (Z<(O.length:Int)))=true then if 0≤Z∧Z<(O.length:Int) then if (!(((decide ((0:Int)≤(pZ (.int .i64) O Z)))&&(decide ((pZ (.int .i64) O Z)≤(1114111:Int))))&&((decide ((pZ (.int .i64) O Z)<(55296:Int)))||(decide ((57343:Int)<(pZ (.int .i64) O Z))))))=true then (EF (aA,()) (IntKind.wrap .i32 (65533:Int))).bind fun aB=>if pB (Z+(1:Int)) then some (.inl ((Z+(1:Int)),aB.2)) else none else (EF (aA,()) (IntKind.wrap .i32 (pZ (.int .i64) O Z))).bind fun aC=>if pB (Z+(1:Int)) then some (.inl ((Z+(1:Int)),aC.2)) else none else none else some (.inr aA)
def LW (O:(List Int)):Option (List UInt8):=qZ (pU (PF O) ((0:Int),([]:List Int))) fun Z=>some ((rW Z))
section
variable (O:(List Int))
abbrev a4g:List pA:=[(.val (.list (.int .i64)) O,none)]
abbrev a4h:List p9:=[]
@[go_sem] def a4i:pF:=⟨[((LW O)).isSome=true],[(.val .str (val (LW O)),none)],[]⟩
def aCQ:List pA→List p9→Option pF:=qP (V:=(List Int)) (fun x=>a4g x) (fun x=>a4h) fun x=>a4i x
@[go_sem] theorem aPK:aCQ (no_index (a4g O)) (no_index a4h)=some (a4i O):=qR (fun a0 b0 h1 h2=>by cases h1;cases h2;rfl) O
end
@[go_sem] abbrev aCR:Nat×pY:=(277,⟨[.v],aCQ,[],[],none⟩)
theorem BU:qE Tryz.prog [vL,L7,L8,FE] (qC [aBI,aCA,OB]):=⟨⟨wE,⟨T5,⟨TB,⟨IY,trivial⟩⟩⟩⟩,pK aJT (pK aKf (pK TF qT)),qH⟩
theorem aKl:qI Tryz.prog aCR:=by
 refine qS BU Tryz.func277 (c:=_) rfl (N:=20) (by kernel_rfl) (ts:=[(2,none)]) rfl (fun _ _=>rfl) ?_;intro O hs hrow;dsimp only[a4g,a4h,a4i,qK,pM,pV,qG,qO,Nat.reduceAdd] at hs hrow⊢;have hz:=hs;obtain⟨z0,hC0⟩:=aQn.1 hz
 try rw[r8 hC0]
 clear hz hs;unfold LW at hC0;refine p8 BU ?_;refine p8 BU ?_;refine pW ?_;refine p8 BU ?_;refine rI ?_;obtain⟨Z,hy1,hC0⟩:=pD hC0;refine uZ 0 (fun s=>s=(fun x=>⟨[(3,(.val .ref (some (0,0)),none))],[(0,.cells wD ((some (0,0)),(x,())) [(1,1)]),(1,.grow 5 1 (x.length))],2,20,0⟩) Z) ?_ ?_
 ·refine uY hy1 (fun x=>⟨[(3,(.val .ref (some (0,0)),none)),(6,(.val (.list (.int .i64)) O,none)),(7,(.val (.int .i64) (O.length:Int),none)),(8,(.val (.int .i64) x.1,none))],[(0,.cells wD ((some (0,0)),(x.2,())) [(1,1)]),(1,.grow 5 1 (x.2.length))],2,20,0⟩) ⟨[3,6,7,8],[(0,32),(1,33)]⟩ (by rfl) ?_;intro x1 w1 n1 hC1 hN1;obtain⟨aA,aB⟩:=x1;unfold PF at hC1;dsimp only at hC1⊢;refine p8 BU ?_;refine pW ?_;refine pP hC1 (fun hC1 hc1=> ?_) (fun hC1 hc1=> ?_)
  ·refine qM (pN (pW (rI ?_)));obtain⟨hg1,hC1⟩:=pG hC1;refine p8 BU ?_ (hp:=by exact hg1);refine pW ?_;refine p8 BU ?_;refine pP hC1 (fun hC1 hc2=> ?_) (fun hC1 hc2=> ?_)
   ·refine qU BU ?_;refine pN ?_;obtain⟨aC,hv2,hw2,hC1⟩:=pT hC1
    try simp only[go_sem] at hw2
    refine qU BU ?_ (hp:=by exact⟨by first|rfl|trivial,(pS hv2)⟩) (h:=by simp only[go_sem,hw2];rfl)
    refine qV (pN ?_);obtain⟨hg3,hC1⟩:=pG hC1;refine qU BU ?_ (hp:=by exact hg3);cases hC1;exact sM ⟨⟨[3,6,7,8],[(0,0),(1,1)]⟩,_,by rfl,hN1⟩
   ·refine qM (pN ?_);obtain⟨aD,hv4,hw4,hC1⟩:=pT hC1
    try simp only[go_sem] at hw4
    refine qU BU ?_ (hp:=by exact⟨by first|rfl|trivial,(pS hv4)⟩) (h:=by simp only[go_sem,hw4];rfl)
    refine qV (pN ?_);obtain⟨hg5,hC1⟩:=pG hC1;refine qU BU ?_ (hp:=by exact hg5);cases hC1;exact sM ⟨⟨[3,6,7,8],[(0,0),(1,1)]⟩,_,by rfl,hN1⟩
  ·refine uG (uO (uI ?_));cases hC1;cases hN1;exact uH ⟨⟨[3],[(0,0),(1,1)]⟩,by rfl⟩
 ·rintro _ rfl;dsimp only at hC0⊢;refine uX (pN ?_);refine p8 BU ?_ (hp:=by first|rfl|trivial)
  refine pI ?_;cases hC0;exact⟨[],by rfl,by rfl,by rfl⟩
attribute [irreducible] LW
end
noncomputable section
def PG (O:Int) (Z:(List UInt8)):((List Int)×Int)→Option (((List Int)×Int)⊕((List Int)⊕((List UInt8)×Int×Int))):=fun(aA,aB)=>if (decide (aB<(Z.length:Int)))=true then if 0≤aB∧aB<(Z.length:Int) then if pB (aB+(1:Int)) then if 0≤aB∧aB≤(aB+(1:Int))∧(aB+(1:Int))≤(Z.length:Int) then qZ (σ:=((List UInt8)×Int)) (if ((!decide (O=(4:Int)))&&(decide ((pL Z aB)=(92:Int))))=true then if 0≤aB∧aB≤(Z.length:Int)∧(Z.length:Int)≤(Z.length:Int) then (PA (pH Z aB (Z.length:Int))).bind fun aC=>some ((aC.1,aC.2)) else none else if ((decide (O=(4:Int)))&&(decide ((pL Z aB)=(38:Int))))=true then if 0≤aB∧aB≤(Z.length:Int)∧(Z.length:Int)≤(Z.length:Int) then (aCB (pH Z aB (Z.length:Int))).bind fun aD=>some ((aD.1,aD.2)) else none else if ((!decide (O=(4:Int)))&&(decide ((pL Z aB)=(10:Int))))=true then if ((!decide (O=(4:Int)))&&(decide ((pL Z aB)=(10:Int))))=true then some (((pH Z aB (aB+(1:Int))),(0:Int))) else some (((pH Z aB (aB+(1:Int))),(1:Int))) else if (((decide (O=(2:Int)))||(decide (O=(3:Int))))&&(decide ((pL Z aB)=(34:Int))))=true then if (((decide (O=(2:Int)))||(decide (O=(3:Int))))&&(decide ((pL Z aB)=(34:Int))))=true then some (((pH Z aB (aB+(1:Int))),(0:Int))) else some (((pH Z aB (aB+(1:Int))),(1:Int))) else if (((decide (O=(4:Int)))==true)=true→((D8 (pL Z aB) ([60,34]:List UInt8))).isSome=true) then if ((decide (O=(4:Int)))&&(val (D8 (pL Z aB) ([60,34]:List UInt8))))=true then some (((pH Z aB (aB+(1:Int))),(0:Int))) else some (((pH Z aB (aB+(1:Int))),(1:Int))) else none ) fun(aE,aF)=>if (decide (aF=(0:Int)))=true then some (.inr (.inr ((([]:List UInt8),aB,(3:Int))))) else if List.length aA+aE.length≤140737488355328 then if pB (aB+aF) then some (.inl ((aA++sE aE),(aB+aF))) else none else none else none else none else none else some (.inr (.inl aA))
def PH (O:Int) (Z:(List UInt8)):Option ((List UInt8)×Int×Int):=if (!((decide ((1:Int)≤O))&&(decide (O≤(4:Int)))))=true then some ((([]:List UInt8),(0:Int),(1:Int))) else rZ (pU (PG O Z) (([]:List Int),(0:Int))) fun aA=>some (((rW aA),(0:Int),(0:Int)))
attribute [irreducible] PH
def JG (O:rC):(Int×(List ((List UInt8)×Bool)))→Option ((Int×(List ((List UInt8)×Bool)))⊕(Unit⊕Bool)):=fun(Z,aA)=>if (decide (Z<(O.2.2.2.1.length:Int)))=true then if 0≤Z∧Z<(O.2.2.2.1.length:Int) then if (((rN .str .bool aA ((pZ uB O.2.2.2.1 Z).1))==false)=true→((HE (pZ uB O.2.2.2.1 Z))).isSome=true) then if ((rN .str .bool aA ((pZ uB O.2.2.2.1 Z).1))||(!(val (HE (pZ uB O.2.2.2.1 Z)))))=true then some (.inr (.inr (false))) else if pB (Z+(1:Int)) then some (.inl ((Z+(1:Int)),(sG .str .bool ((pZ uB O.2.2.2.1 Z).1) true aA))) else none else none else none else some (.inr (.inl ()))
def JH (O:rC):Option Bool:=(FI O.1).bind fun Z=>if (((!Z)==false)=true→((JF O.2.1)).isSome=true) then if ((((!Z)||(!((decide ((O.2.1.length:Int)≤(20:Int)))&&(!(val (B0 O.2.1))))))==false)=true→((EE O.2.2.1)).isSome=true) then if ((((!Z)||(!((decide ((O.2.1.length:Int)≤(20:Int)))&&(!(val (B0 O.2.1))))))||(!(val (EE O.2.2.1))))||(decide ((1000:Int)<(O.2.2.2.1.length:Int))))=true then some (false) else rZ (pU (JG O) ((0:Int),([]:List ((List UInt8)×Bool)))) fun _=>some (true) else none else none
section
variable (O:rC)
abbrev a4j:List pA:=[(.val L3 O,none)]
abbrev a4k:List p9:=[]
@[go_sem] def a4l:pF:=⟨[((JH O)).isSome=true],[(.val .bool (val (JH O)),none)],[]⟩
def aCS:List pA→List p9→Option pF:=qP (V:=rC) (fun x=>a4j x) (fun x=>a4k) fun x=>a4l x
@[go_sem] theorem aPL:aCS (no_index (a4j O)) (no_index a4k)=some (a4l O):=qR (fun a0 b0 h1 h2=>by cases h1;cases h2;rfl) O
end
@[go_sem] abbrev aCT:Nat×pY:=(59,⟨[.v],aCS,[],[],none⟩)
theorem BV:qE Tryz.prog [E9,rR,vX,AW,IW,E4,E6,GW] (qC [a0r,a4b,a3r,aCP]):=⟨⟨GV,⟨rU,⟨wP,⟨CF,⟨O8,⟨GS,⟨GT,⟨L6,trivial⟩⟩⟩⟩⟩⟩⟩⟩,pK aAO (pK aCN (pK aCp (pK aKk qT))),qH⟩
theorem aKm:qI Tryz.prog aCT:=by
 refine qS BV Tryz.func59 (c:=_) rfl (N:=49) (by kernel_rfl) (ts:=[(2,none)]) rfl (fun _ _=>rfl) ?_;intro O hs hrow;dsimp only[a4j,a4k,a4l,qK,pM,pV,qG,qO,Nat.reduceAdd] at hs hrow⊢;have hz:=hs;obtain⟨z0,hC0⟩:=aQn.1 hz
 try rw[r8 hC0]
 clear hz hs;unfold JH at hC0;refine p8 BV ?_;refine pW ?_;obtain⟨Z,hv1,hw1,hC0⟩:=pT hC0
 try simp only[go_sem] at hw1
 obtain⟨hg2,hC0⟩:=pG hC0;obtain⟨hg3,hC0⟩:=pG hC0;refine p8 BV ?_ (hp:=by exact⟨pS hv1,fun hh=>hh,fun hh=>hh,hg2,fun hh=>hh,fun hh=>uA hh,fun hh=>hh,fun hh=>hh,hg3,fun hh=>hh,fun hh=>uA hh,fun hh=>hh,fun hh=>hh,fun hh=>hh,(fun hh=>uA hh)⟩) (h:=by simp only[go_sem,hw1];rfl);refine pP hC0 (fun hC0 hc1=> ?_) (fun hC0 hc1=> ?_)
 ·refine p8 BV ?_;refine pI (rF ?_);cases hC0;exact⟨[],by rfl,by rfl,by rfl⟩
 ·refine qM (pN ?_);refine p8 BV ?_;refine pW ?_;refine p8 BV ?_;refine rI ?_;obtain⟨y1,hy1,hC0⟩:=zD hC0;refine uZ 0 (fun s=> ∃v,y1= .inl v∧s=(fun _=>⟨[],[],0,49,0⟩) v) ?_ ?_
  ·refine uY hy1 (fun x=>⟨[(3,(.val .mp (some 0),none)),(30,(.val (.list uB) O.2.2.2.1,none)),(31,(.val (.int .i64) (O.2.2.2.1.length:Int),none)),(32,(.val (.int .i64) x.1,none))],[(0,.map .str .bool x.2)],1,49,0⟩) ⟨[3,30,31,32],[(0,768)]⟩ (by rfl) ?_;intro x1 w1 n1 hC1 hN1;obtain⟨aA,aB⟩:=x1;unfold JG at hC1;dsimp only at hC1⊢;refine p8 BV ?_;refine pW ?_;refine pP hC1 (fun hC1 hc2=> ?_) (fun hC1 hc2=> ?_)
   ·refine qM (pN (pW (rI ?_)));obtain⟨hg4,hC1⟩:=pG hC1;refine p8 BV ?_ (hp:=by exact hg4);refine pW ?_;obtain⟨hg5,hC1⟩:=pG hC1;refine p8 BV ?_ (hp:=by exact⟨fun hh=>hh,hg5,fun hh=>hh,(fun hh=>uA hh)⟩);refine pP hC1 (fun hC1 hc3=> ?_) (fun hC1 hc3=> ?_)
    ·refine p8 BV ?_;refine pI (rF (rM (rF (yI (yH (rM (rF ?_)))))));cases hC1;cases hN1;dsimp only at hC0;cases hC0;exact⟨[],by rfl,by rfl,by rfl⟩
    ·refine qM (pN ?_);refine qU BV ?_;refine qV (pN ?_);obtain⟨hg6,hC1⟩:=pG hC1;refine qU BV ?_ (hp:=by exact hg6);cases hC1;exact sM ⟨⟨[3,30,31,32],[(0,0)]⟩,_,by rfl,hN1⟩
   ·refine uG (uO (uI ?_));cases hC1;cases hN1;exact uH ⟨⟨[],[]⟩,_,rfl,by rfl⟩
  ·rintro _ ⟨v,rfl,rfl⟩;dsimp only at hC0⊢;refine uX (pN ?_);refine p8 BV ?_;refine pI ?_;cases hC0;exact⟨[],by rfl,by rfl,by rfl⟩
attribute [irreducible] JH
end
noncomputable section
def PI (O:(List UInt8)):Int→Option (Int⊕Int):=fun Z=>if (((decide (Z<(O.length:Int)))==true)=true→0≤Z∧Z<(O.length:Int)) then if ((((decide (Z<(O.length:Int)))==true)&&((((decide ((97:Int)≤(pL O Z)))&&(decide ((pL O Z)≤(122:Int))))||((decide ((65:Int)≤(pL O Z)))&&(decide ((pL O Z)≤(90:Int)))))==false))=true→0≤Z∧Z<(O.length:Int)) then if (((((decide (Z<(O.length:Int)))==true)&&((((decide ((97:Int)≤(pL O Z)))&&(decide ((pL O Z)≤(122:Int))))||((decide ((65:Int)≤(pL O Z)))&&(decide ((pL O Z)≤(90:Int)))))==false))&&((decide ((48:Int)≤(pL O Z)))==true))=true→0≤Z∧Z<(O.length:Int)) then if ((((decide (Z<(O.length:Int)))==true)&&(((((decide ((97:Int)≤(pL O Z)))&&(decide ((pL O Z)≤(122:Int))))||((decide ((65:Int)≤(pL O Z)))&&(decide ((pL O Z)≤(90:Int)))))||((decide ((48:Int)≤(pL O Z)))&&(decide ((pL O Z)≤(57:Int)))))==false))=true→0≤Z∧Z<(O.length:Int)) then if ((((decide (Z<(O.length:Int)))==true)&&((((((decide ((97:Int)≤(pL O Z)))&&(decide ((pL O Z)≤(122:Int))))||((decide ((65:Int)≤(pL O Z)))&&(decide ((pL O Z)≤(90:Int)))))||((decide ((48:Int)≤(pL O Z)))&&(decide ((pL O Z)≤(57:Int)))))||(decide ((pL O Z)=(45:Int))))==false))=true→0≤Z∧Z<(O.length:Int)) then if ((((decide (Z<(O.length:Int)))==true)&&(((((((decide ((97:Int)≤(pL O Z)))&&(decide ((pL O Z)≤(122:Int))))||((decide ((65:Int)≤(pL O Z)))&&(decide ((pL O Z)≤(90:Int)))))||((decide ((48:Int)≤(pL O Z)))&&(decide ((pL O Z)≤(57:Int)))))||(decide ((pL O Z)=(45:Int))))||(decide ((pL O Z)=(95:Int))))==false))=true→0≤Z∧Z<(O.length:Int)) then if ((decide (Z<(O.length:Int)))&&(((((((decide ((97:Int)≤(pL O Z)))&&(decide ((pL O Z)≤(122:Int))))||((decide ((65:Int)≤(pL O Z)))&&(decide ((pL O Z)≤(90:Int)))))||((decide ((48:Int)≤(pL O Z)))&&(decide ((pL O Z)≤(57:Int)))))||(decide ((pL O Z)=(45:Int))))||(decide ((pL O Z)=(95:Int))))||(decide ((pL O Z)=(46:Int)))))=true then if pB (Z+(1:Int)) then some (.inl (Z+(1:Int))) else none else some (.inr Z) else none else none else none else none else none else none
def LX (O:(List UInt8)) (Z:Int):Option (Int×(List UInt8)×Int×Int):=(LO O Z).bind fun aA=>if (decide (aA=(O.length:Int)))=true then some (((0:Int),([]:List UInt8),aA,aA)) else if 0≤aA∧aA<(O.length:Int) then if ((decide ((pL O aA)=(123:Int)))||(decide ((pL O aA)=(125:Int))))=true then if pB (aA+(1:Int)) then if 0≤aA∧aA≤(aA+(1:Int))∧(aA+(1:Int))≤(O.length:Int) then if pB (aA+(1:Int)) then some (((3:Int),(pH O aA (aA+(1:Int))),aA,(aA+(1:Int)))) else none else none else none else if (decide ((pL O aA)=(34:Int)))=true then if pB (aA+(1:Int)) then if 0≤(aA+(1:Int))∧(aA+(1:Int))≤(O.length:Int)∧(O.length:Int)≤(O.length:Int) then (LJ (3:Int) (pH O (aA+(1:Int)) (O.length:Int)) (34:Int)).bind fun aB=>if (decide (aB<(0:Int)))=true then some (((0:Int),([]:List UInt8),aA,aA)) else if pB (aA+(1:Int)) then if pB (aA+(1:Int)) then if pB ((aA+(1:Int))+aB) then if 0≤(aA+(1:Int))∧(aA+(1:Int))≤((aA+(1:Int))+aB)∧((aA+(1:Int))+aB)≤(O.length:Int) then (PH (3:Int) (pH O (aA+(1:Int)) ((aA+(1:Int))+aB))).bind fun aC=>if (((!decide (aC.2.2=(0:Int)))==false)=true→((U9 aC.1)).isSome=true) then if ((!decide (aC.2.2=(0:Int)))||(!((decide ((aC.1.length:Int)≤(4000:Int)))&&(val (LR aC.1)))))=true then some (((0:Int),([]:List UInt8),aA,aA)) else if pB (aA+aB) then if pB ((aA+aB)+(2:Int)) then some (((1:Int),aC.1,aA,((aA+aB)+(2:Int)))) else none else none else none else none else none else none else none else none else none else if (((decide ((97:Int)≤(pL O aA)))&&(decide ((pL O aA)≤(122:Int))))||((decide ((65:Int)≤(pL O aA)))&&(decide ((pL O aA)≤(90:Int)))))=true then qZ (pU (PI O) aA) fun aD=>if 0≤aA∧aA≤aD∧aD≤(O.length:Int) then some (((2:Int),(pH O aA aD),aA,aD)) else none else some (((0:Int),([]:List UInt8),aA,aA)) else none
attribute [irreducible] LX
def HF (O:Int):Option (List UInt8):=(LW ([O]:List Int)).bind fun Z=>some (Z)
section
variable (O:Int)
abbrev a4m:List pA:=[(.val (.int .i64) O,none)]
abbrev a4n:List p9:=[]
@[go_sem] def a4o:pF:=⟨[((HF O)).isSome=true],[(.val .str (val (HF O)),none),(.val .bool ((decide (O≤(1114111:Int)))&&((decide (O<(55296:Int)))||(decide ((57343:Int)<O)))),none)],[]⟩
def aCU:List pA→List p9→Option pF:=qP (V:=Int) (fun x=>a4m x) (fun x=>a4n) fun x=>a4o x
@[go_sem] theorem aPM:aCU (no_index (a4m O)) (no_index a4n)=some (a4o O):=qR (fun a0 b0 h1 h2=>by cases h1;cases h2;rfl) O
end
@[go_sem] abbrev a4p:Nat×pY:=(252,⟨[.v],aCU,[],[],none⟩)
theorem UA:qE Tryz.prog [L8] (qC [aCR]):=⟨⟨TB,trivial⟩,pK aKl qT,qH⟩
theorem aCV:qI Tryz.prog a4p:=by
 refine qS UA Tryz.func252 (c:=_) rfl (N:=19) (by kernel_rfl) (ts:=[(2,none),(3,none)]) rfl (fun _ _=>rfl) ?_;intro O hs hrow;dsimp only[a4m,a4n,a4o,qK,pM,pV,qG,qO,Nat.reduceAdd] at hs hrow⊢;have hz:=hs;obtain⟨z0,hC0⟩:=aQn.1 hz
 try rw[r8 hC0]
 clear hz hs;unfold HF at hC0;refine p8 UA ?_;refine p8 UA ?_ (hp:=by exact⟨fun hh=>hh,fun hh=>hh,fun hh=>hh,fun hh=>hh,fun hG hh=>GQ hG hh,(fun hh=>sH hh)⟩);obtain⟨Z,hv1,hw1,hC0⟩:=pT hC0
 try simp only[go_sem] at hw1
 refine p8 UA ?_ (hp:=by exact(pS hv1)) (h:=by simp only[go_sem,hw1];rfl);refine pI ?_;cases hC0;exact⟨[],by rfl,by rfl,by rfl⟩
attribute [irreducible] HF
end
noncomputable section
def PJ (O:rC):(Int×(List (List UInt8)))→Option ((Int×(List (List UInt8)))⊕(List (List UInt8))):=fun(Z,aA)=>if (decide (Z<(O.2.2.2.1.length:Int)))=true then if 0≤Z∧Z<(O.2.2.2.1.length:Int) then (JE (pZ uB O.2.2.2.1 Z)).bind fun aB=>if (aA.length+([aB]:List (List UInt8)).length)*16≤140737488355328 then if pB (Z+(1:Int)) then some (.inl ((Z+(1:Int)),(aA++([aB]:List (List UInt8))))) else none else none else none else some (.inr aA)
def DC (O:rC):Option ((List UInt8)×(List (List UInt8))×(List UInt8)×Int):=(JH O).bind fun Z=>if (!Z)=true then some ((([]:List UInt8),([]:List (List UInt8)),([]:List UInt8),(1:Int))) else (zZ O.1).bind fun aA=>if ((([99,97,116,97,108,111,103,32]:List UInt8)++aA).length:Int)≤9223372036854775807 then if (((([99,97,116,97,108,111,103,32]:List UInt8)++aA)++([32,123]:List UInt8)).length:Int)≤9223372036854775807 then (HC O.2.1).bind fun aB=>if ((((([99,97,116,97,108,111,103,32]:List UInt8)++aA)++([32,123]:List UInt8))++aB).length:Int)≤9223372036854775807 then (HD O.2.2.1).bind fun aC=>if (((((([99,97,116,97,108,111,103,32]:List UInt8)++aA)++([32,123]:List UInt8))++aB)++aC).length:Int)≤9223372036854775807 then if ((((((([99,97,116,97,108,111,103,32]:List UInt8)++aA)++([32,123]:List UInt8))++aB)++aC)++([10,125]:List UInt8)).length:Int)≤9223372036854775807 then qZ (pU (PJ O) ((0:Int),([]:List (List UInt8)))) fun aD=>some (((((((([99,97,116,97,108,111,103,32]:List UInt8)++aA)++([32,123]:List UInt8))++aB)++aC)++([10,125]:List UInt8)),aD,([10]:List UInt8),(0:Int))) else none else none else none else none else none
section
variable (O:rC)
abbrev a4q:List pA:=[(.val L3 O,none)]
abbrev a4r:List p9:=[]
@[go_sem] def a4s:pF:=⟨[((DC O)).isSome=true],[(.val vW ((val (DC O)).1,((val (DC O)).2.1,((val (DC O)).2.2.1,()))),none),(.val (.int .i64) ((val (DC O)).2.2.2),none)],[]⟩
def aCW:List pA→List p9→Option pF:=qP (V:=rC) (fun x=>a4q x) (fun x=>a4r) fun x=>a4s x
@[go_sem] theorem aPN:aCW (no_index (a4q O)) (no_index a4r)=some (a4s O):=qR (fun a0 b0 h1 h2=>by cases h1;cases h2;rfl) O
end
@[go_sem] abbrev a4t:Nat×pY:=(32,⟨[.v],aCW,[],[],none⟩)
theorem DD:qE Tryz.prog [rR,vX,AW,IW,E4,FC,E6] (qC [aCT,P9,a3Y,a33,aCL]):=⟨⟨rU,⟨wP,⟨CF,⟨O8,⟨GS,⟨IV,⟨GT,trivial⟩⟩⟩⟩⟩⟩⟩,pK aKm (pK U8 (pK aCH (pK aCJ (pK aKj qT)))),qH⟩
theorem aCX:qI Tryz.prog a4t:=by
 refine qS DD Tryz.func32 (c:=_) rfl (N:=42) (by kernel_rfl) (ts:=[(2,some 34),(3,none)]) rfl (fun _ _=>rfl) ?_;intro O hs hrow;dsimp only[a4q,a4r,a4s,qK,pM,pV,qG,qO,Nat.reduceAdd] at hs hrow⊢;have hz:=hs;obtain⟨z0,hC0⟩:=aQn.1 hz
 try rw[r8 hC0]
 clear hz hs;unfold DC at hC0;refine p8 DD ?_;refine pW ?_;obtain⟨Z,hv1,hw1,hC0⟩:=pT hC0
 try simp only[go_sem] at hw1
 refine p8 DD ?_ (hp:=by exact(pS hv1)) (h:=by simp only[go_sem,hw1];rfl);refine pP hC0 (fun hC0 hc1=> ?_) (fun hC0 hc1=> ?_)
 ·refine p8 DD ?_;refine pI (rF ?_);cases hC0;exact⟨[],by rfl,by rfl,by rfl⟩
 ·refine qM (pN ?_);obtain⟨aA,hv2,hw2,hC0⟩:=pT hC0
  try simp only[go_sem] at hw2
  obtain⟨hg3,hC0⟩:=pG hC0;obtain⟨hg4,hC0⟩:=pG hC0;obtain⟨aB,hv5,hw5,hC0⟩:=pT hC0
  try simp only[go_sem] at hw5
  obtain⟨hg6,hC0⟩:=pG hC0;obtain⟨aC,hv7,hw7,hC0⟩:=pT hC0
  try simp only[go_sem] at hw7
  obtain⟨hg8,hC0⟩:=pG hC0;obtain⟨hg9,hC0⟩:=pG hC0;refine xU DD ?_ (hp:=by exact⟨pS hv2,hg3,hg4,pS hv5,hg6,pS hv7,hg8,hg9⟩) (h:=by simp only[go_sem,hw2,hw5,hw7];rfl);refine pW ?_;refine p8 DD ?_;refine rI ?_;obtain⟨aD,hy1,hC0⟩:=pD hC0;refine uZ 0 (fun s=>s=(fun x=>⟨[(2,(.val .ref (some (0,0)),none)),(4,(.val .ref (some (1,0)),none))],[(0,.cells vW (([]:List UInt8),(([]:List (List UInt8)),(([]:List UInt8),()))) [(1,2)]),(1,.cells vW ((((((([99,97,116,97,108,111,103,32]:List UInt8)++aA)++([32,123]:List UInt8))++aB)++aC)++([10,125]:List UInt8)),(x,(([10]:List UInt8),()))) [(1,3)]),(2,.grow 9 1 (([]:List (List UInt8)).length)),(3,.grow 9 1 (x.length))],4,42,0⟩) aD) ?_ ?_
  ·refine uY hy1 (fun x=>⟨[(2,(.val .ref (some (0,0)),none)),(4,(.val .ref (some (1,0)),none)),(27,(.val (.list uB) O.2.2.2.1,none)),(28,(.val (.int .i64) (O.2.2.2.1.length:Int),none)),(29,(.val (.int .i64) x.1,none))],[(0,.cells vW (([]:List UInt8),(([]:List (List UInt8)),(([]:List UInt8),()))) [(1,2)]),(1,.cells vW ((((((([99,97,116,97,108,111,103,32]:List UInt8)++aA)++([32,123]:List UInt8))++aB)++aC)++([10,125]:List UInt8)),(x.2,(([10]:List UInt8),()))) [(1,3)]),(2,.grow 9 1 (([]:List (List UInt8)).length)),(3,.grow 9 1 (x.2.length))],4,42,0⟩) ⟨[2,4,27,28,29],[(0,32),(1,672),(2,33),(3,704)]⟩ (by rfl) ?_;intro x1 w1 n1 hC1 hN1;obtain⟨aE,aF⟩:=x1;unfold PJ at hC1;dsimp only at hC1⊢;refine p8 DD ?_;refine pW ?_;refine pP hC1 (fun hC1 hc2=> ?_) (fun hC1 hc2=> ?_)
   ·refine qM (pN (pW (rI ?_)));obtain⟨hg10,hC1⟩:=pG hC1;refine p8 DD ?_ (hp:=by exact hg10);obtain⟨aG,hv11,hw11,hC1⟩:=pT hC1
    try simp only[go_sem] at hw11
    obtain⟨hg12,hC1⟩:=pG hC1;refine FA DD ?_ (hp:=by exact⟨pS hv11,by first|rfl|trivial,hg12⟩) (h:=by simp only[go_sem,hw11];rfl)
    refine qV (pN ?_);obtain⟨hg13,hC1⟩:=pG hC1;refine qU DD ?_ (hp:=by exact hg13);cases hC1;exact sM ⟨⟨[2,4,27,28,29],[(0,0),(1,1),(2,2),(3,3)]⟩,_,by rfl,hN1⟩
   ·refine uG (uO (uI ?_));cases hC1;cases hN1;exact uH ⟨⟨[2,4],[(0,0),(1,1),(2,2),(3,3)]⟩,by rfl⟩
  ·rintro _ rfl;dsimp only at hC0⊢;refine uX (pN ?_);refine p8 DD ?_;refine pI ?_;cases hC0;exact⟨[],by rfl,by rfl,by rfl⟩
attribute [irreducible] DC
def HG (O:rC):Option ((List UInt8)×Int):=(DC O).bind fun Z=>(H0 (Z.1,(Z.2.1,(Z.2.2.1,())))).bind fun aA=>some ((aA,Z.2.2.2))
section
variable (O:rC)
abbrev a4u:List pA:=[(.val L3 O,none)]
abbrev a4v:List p9:=[]
@[go_sem] def a4w:pF:=⟨[((HG O)).isSome=true],[(.val .str ((val (HG O)).1),none),(.val (.int .i64) ((val (HG O)).2),none)],[]⟩
def aCY:List pA→List p9→Option pF:=qP (V:=rC) (fun x=>a4u x) (fun x=>a4v) fun x=>a4w x
@[go_sem] theorem aPO:aCY (no_index (a4u O)) (no_index a4v)=some (a4w O):=qR (fun a0 b0 h1 h2=>by cases h1;cases h2;rfl) O
end
@[go_sem] abbrev aCZ:Nat×pY:=(30,⟨[.v],aCY,[],[],none⟩)
theorem UB:qE Tryz.prog [E4,FC] (qC [a4t,a2u]):=⟨⟨GS,⟨IV,trivial⟩⟩,pK aCX (pK aBW qT),qH⟩
theorem aKn:qI Tryz.prog aCZ:=by
 refine qS UB Tryz.func30 (c:=_) rfl (N:=14) (by kernel_rfl) (ts:=[(2,none),(3,none)]) rfl (fun _ _=>rfl) ?_;intro O hs hrow;dsimp only[a4u,a4v,a4w,qK,pM,pV,qG,qO,Nat.reduceAdd] at hs hrow⊢;have hz:=hs;obtain⟨z0,hC0⟩:=aQn.1 hz
 try rw[r8 hC0]
 clear hz hs;unfold HG at hC0;refine p8 UB ?_;obtain⟨Z,hv1,hw1,hC0⟩:=pT hC0
 try simp only[go_sem] at hw1
 refine p8 UB ?_ (hp:=by exact(pS hv1)) (h:=by simp only[go_sem,hw1];rfl);obtain⟨aA,hv2,hw2,hC0⟩:=pT hC0
 try simp only[go_sem] at hw2
 refine p8 UB ?_ (hp:=by exact(pS hv2)) (h:=by simp only[go_sem,hw2];rfl);refine pI ?_;cases hC0;exact⟨[],by rfl,by rfl,by rfl⟩
attribute [irreducible] HG
end
noncomputable section
def vM (O:FB) (Z:Int) (aA:(List UInt8)):Option (Int×Int×Int×Int×(List UInt8)×Int×Int):=(LX O.1 O.2.1).bind fun aB=>if (!decide (O.2.2.2.1=(0:Int)))=true then some ((O.2.1,O.2.2.1,O.2.2.2.1,aB.1,aB.2.1,aB.2.2.1,aB.2.2.2)) else if ((!decide (aB.1=Z))||((!decide (aA=([]:List UInt8)))&&(!decide (aB.2.1=aA))))=true then rE (xH O (aB.1,(aB.2.1,(aB.2.2.1,(aB.2.2.2,())))) (3:Int)) fun aC=>some ((O.2.1,aC.1,aC.2,aB.1,aB.2.1,aB.2.2.1,aB.2.2.2)) else some ((aB.2.2.2,O.2.2.1,O.2.2.2.1,aB.1,aB.2.1,aB.2.2.1,aB.2.2.2))
attribute [irreducible] vM
end
noncomputable section
def FY (O:(List UInt8)):Option ((List UInt8)×Int):=if (decide ((O.length:Int)<(2:Int)))=true then some ((([]:List UInt8),(0:Int))) else if 0≤(1:Int)∧(1:Int)<(O.length:Int) then if (decide ((pL O (1:Int))=(110:Int)))=true then some ((([10]:List UInt8),(2:Int))) else if (decide ((pL O (1:Int))=(114:Int)))=true then some ((([13]:List UInt8),(2:Int))) else if (decide ((pL O (1:Int))=(116:Int)))=true then some ((([9]:List UInt8),(2:Int))) else if (decide ((pL O (1:Int))=(120:Int)))=true then if (decide ((4:Int)≤(O.length:Int)))=true then if 0≤(2:Int)∧(2:Int)≤(4:Int)∧(4:Int)≤(O.length:Int) then (ED (pH O (2:Int) (4:Int)) (16:Int)).bind fun Z=>if (Z.2&&(decide (Z.1≤(127:Int))))=true then some (((rW ([(IntKind.wrap .u8 Z.1)]:List Int)),(4:Int))) else some ((([]:List UInt8),(0:Int))) else none else some ((([]:List UInt8),(0:Int))) else if (decide ((pL O (1:Int))=(117:Int)))=true then if (decide ((6:Int)≤(O.length:Int)))=true then if 0≤(2:Int)∧(2:Int)≤(6:Int)∧(6:Int)≤(O.length:Int) then (ED (pH O (2:Int) (6:Int)) (16:Int)).bind fun aA=>if aA.2=true then (HF aA.1).bind fun aB=>if ((decide (aA.1≤(1114111:Int)))&&((decide (aA.1<(55296:Int)))||(decide ((57343:Int)<aA.1))))=true then some ((aB,(6:Int))) else some ((([]:List UInt8),(0:Int))) else some ((([]:List UInt8),(0:Int))) else none else some ((([]:List UInt8),(0:Int))) else if (decide ((0:Int)≤(sW ([92,34,61,58,35,33,123,125,32]:List UInt8) (pL O (1:Int)))))=true then if 0≤(1:Int)∧(1:Int)≤(2:Int)∧(2:Int)≤(O.length:Int) then some (((pH O (1:Int) (2:Int)),(2:Int))) else none else some ((([]:List UInt8),(0:Int))) else none
section
variable (O:(List UInt8))
abbrev a4x:List pA:=[(.val .str O,none)]
abbrev a4y:List p9:=[]
@[go_sem] def a4z:pF:=⟨[((FY O)).isSome=true],[(.val .str ((val (FY O)).1),none),(.val (.int .i64) ((val (FY O)).2),none)],[]⟩
def aC0:List pA→List p9→Option pF:=qP (V:=(List UInt8)) (fun x=>a4x x) (fun x=>a4y) fun x=>a4z x
@[go_sem] theorem aPP:aC0 (no_index (a4x O)) (no_index a4y)=some (a4z O):=qR (fun a0 b0 h1 h2=>by cases h1;cases h2;rfl) O
end
@[go_sem] abbrev aC1:Nat×pY:=(209,⟨[.v],aC0,[],[],none⟩)
theorem tN:qE Tryz.prog [vL,FF,rR,FD] (qC [a1L,a4p,LA]):=⟨⟨wE,⟨IZ,⟨rU,⟨IX,trivial⟩⟩⟩⟩,pK aBz (pK aCV (pK OA qT)),qH⟩
theorem aKo:qI Tryz.prog aC1:=by
 refine qS tN Tryz.func209 (c:=_) rfl (N:=67) (by kernel_rfl) (ts:=[(2,none),(3,none)]) rfl (fun _ _=>rfl) ?_;intro O hs hrow;dsimp only[a4x,a4y,a4z,qK,pM,pV,qG,qO,Nat.reduceAdd] at hs hrow⊢;have hz:=hs;obtain⟨z0,hC0⟩:=aQn.1 hz
 try rw[r8 hC0]
 clear hz hs;unfold FY at hC0;refine p8 tN ?_;refine pW ?_;refine p8 tN ?_;refine pP hC0 (fun hC0 hc1=> ?_) (fun hC0 hc1=> ?_)
 ·refine p8 tN ?_;refine pI (rF ?_);cases hC0;exact⟨[],by rfl,by rfl,by rfl⟩
 ·refine qM (pN (pW ?_));obtain⟨hg1,hC0⟩:=pG hC0;refine p8 tN ?_ (hp:=by exact hg1);refine p8 tN ?_;refine rI ?_;refine p8 tN ?_;refine pP hC0 (fun hC0 hc2=> ?_) (fun hC0 hc2=> ?_)
  ·refine p8 tN ?_;refine pI (rM (rF ?_));cases hC0;exact⟨[],by rfl,by rfl,by rfl⟩
  ·refine p8 tN ?_;refine pP hC0 (fun hC0 hc3=> ?_) (fun hC0 hc3=> ?_)
   ·refine p8 tN ?_;refine pI (rM (rF ?_));cases hC0;exact⟨[],by rfl,by rfl,by rfl⟩
   ·refine p8 tN ?_;refine pP hC0 (fun hC0 hc4=> ?_) (fun hC0 hc4=> ?_)
    ·refine p8 tN ?_;refine pI (rM (rF ?_));cases hC0;exact⟨[],by rfl,by rfl,by rfl⟩
    ·refine p8 tN ?_;refine pP hC0 (fun hC0 hc5=> ?_) (fun hC0 hc5=> ?_)
     ·refine p8 tN ?_;refine pP hC0 (fun hC0 hc6=> ?_) (fun hC0 hc6=> ?_)
      ·obtain⟨hg2,hC0⟩:=pG hC0;obtain⟨Z,hv3,hw3,hC0⟩:=pT hC0
       try simp only[go_sem] at hw3
       refine p8 tN ?_ (hp:=by exact⟨hg2,(pS hv3)⟩) (h:=by simp only[go_sem,hw3];rfl);refine p8 tN ?_ (hp:=by exact⟨fun hh=>hh,(fun hh=>sH hh)⟩);refine pP hC0 (fun hC0 hc7=> ?_) (fun hC0 hc7=> ?_)
       ·refine p8 tN ?_;refine pI (rM (rF ?_));cases hC0;exact⟨[],by rfl,by rfl,by rfl⟩
       ·refine qM (qV (pN ?_));refine p8 tN ?_;refine pI ?_;cases hC0;exact⟨[],by rfl,by rfl,by rfl⟩
      ·refine qM (qV (pN ?_));refine p8 tN ?_;refine pI ?_;cases hC0;exact⟨[],by rfl,by rfl,by rfl⟩
     ·refine p8 tN ?_;refine pP hC0 (fun hC0 hc8=> ?_) (fun hC0 hc8=> ?_)
      ·refine p8 tN ?_;refine pP hC0 (fun hC0 hc9=> ?_) (fun hC0 hc9=> ?_)
       ·obtain⟨hg4,hC0⟩:=pG hC0;obtain⟨aA,hv5,hw5,hC0⟩:=pT hC0
        try simp only[go_sem] at hw5
        refine p8 tN ?_ (hp:=by exact⟨hg4,(pS hv5)⟩) (h:=by simp only[go_sem,hw5];rfl);refine p8 tN ?_;refine pP hC0 (fun hC0 hc10=> ?_) (fun hC0 hc10=> ?_)
        ·obtain⟨aB,hv6,hw6,hC0⟩:=pT hC0
         try simp only[go_sem] at hw6
         refine p8 tN ?_ (hp:=by exact(pS hv6)) (h:=by simp only[go_sem,hw6];rfl);refine p8 tN ?_;refine pP hC0 (fun hC0 hc11=> ?_) (fun hC0 hc11=> ?_)
         ·refine p8 tN ?_;refine pI (rM (rF ?_));cases hC0;exact⟨[],by rfl,by rfl,by rfl⟩
         ·refine qM (qV (pN ?_));refine p8 tN ?_;refine pI ?_;cases hC0;exact⟨[],by rfl,by rfl,by rfl⟩
        ·refine qM (qV (pN ?_));refine p8 tN ?_;refine pI ?_;cases hC0;exact⟨[],by rfl,by rfl,by rfl⟩
       ·refine qM (qV (pN ?_));refine p8 tN ?_;refine pI ?_;cases hC0;exact⟨[],by rfl,by rfl,by rfl⟩
      ·refine p8 tN ?_;refine pP hC0 (fun hC0 hc12=> ?_) (fun hC0 hc12=> ?_)
       ·obtain⟨hg7,hC0⟩:=pG hC0;refine p8 tN ?_ (hp:=by exact hg7);refine pI (rM (rF ?_));cases hC0;exact⟨[],by rfl,by rfl,by rfl⟩
       ·refine qM (qV (pN ?_));refine p8 tN ?_;refine pI ?_;cases hC0;exact⟨[],by rfl,by rfl,by rfl⟩
attribute [irreducible] FY
def LY (O:(List UInt8)):Option ((List UInt8)×Int):=if (decide ((sW O (59:Int))<(0:Int)))=true then some ((([]:List UInt8),(0:Int))) else if 0≤(1:Int)∧(1:Int)≤(sW O (59:Int))∧(sW O (59:Int))≤(O.length:Int) then if (decide ((pH O (1:Int) (sW O (59:Int)))=([97,109,112]:List UInt8)))=true then if pB ((sW O (59:Int))+(1:Int)) then some ((([38]:List UInt8),((sW O (59:Int))+(1:Int)))) else none else if (decide ((pH O (1:Int) (sW O (59:Int)))=([108,116]:List UInt8)))=true then if pB ((sW O (59:Int))+(1:Int)) then some ((([60]:List UInt8),((sW O (59:Int))+(1:Int)))) else none else if (decide ((pH O (1:Int) (sW O (59:Int)))=([103,116]:List UInt8)))=true then if pB ((sW O (59:Int))+(1:Int)) then some ((([62]:List UInt8),((sW O (59:Int))+(1:Int)))) else none else if (decide ((pH O (1:Int) (sW O (59:Int)))=([113,117,111,116]:List UInt8)))=true then if pB ((sW O (59:Int))+(1:Int)) then some ((([34]:List UInt8),((sW O (59:Int))+(1:Int)))) else none else if (decide ((pH O (1:Int) (sW O (59:Int)))=([97,112,111,115]:List UInt8)))=true then if pB ((sW O (59:Int))+(1:Int)) then some ((([39]:List UInt8),((sW O (59:Int))+(1:Int)))) else none else (JB (pH O (1:Int) (sW O (59:Int))) ([35]:List UInt8)).bind fun Z=>if (!Z.2)=true then some ((([]:List UInt8),(0:Int))) else (JB Z.1 ([120]:List UInt8)).bind fun aA=>qZ (σ:=((List UInt8)×Int×Int)) (if aA.2=true then some ((aA.1,(16:Int),(6:Int))) else some ((Z.1,(10:Int),(7:Int))) ) fun(aB,aC,aD)=>(ED aB aC).bind fun aE=>if ((!aE.2)||(decide (aD<(aB.length:Int))))=true then some ((([]:List UInt8),(0:Int))) else (HF aE.1).bind fun aF=>if (!((decide (aE.1≤(1114111:Int)))&&((decide (aE.1<(55296:Int)))||(decide ((57343:Int)<aE.1)))))=true then some ((([]:List UInt8),(0:Int))) else if pB ((sW O (59:Int))+(1:Int)) then some ((aF,((sW O (59:Int))+(1:Int)))) else none else none
section
variable (O:(List UInt8))
abbrev a4A:List pA:=[(.val .str O,none)]
abbrev a4B:List p9:=[]
@[go_sem] def a4C:pF:=⟨[((LY O)).isSome=true],[(.val .str ((val (LY O)).1),none),(.val (.int .i64) ((val (LY O)).2),none)],[]⟩
def aC2:List pA→List p9→Option pF:=qP (V:=(List UInt8)) (fun x=>a4A x) (fun x=>a4B) fun x=>a4C x
@[go_sem] theorem aPQ:aC2 (no_index (a4A O)) (no_index a4B)=some (a4C O):=qR (fun a0 b0 h1 h2=>by cases h1;cases h2;rfl) O
end
@[go_sem] abbrev aC3:Nat×pY:=(210,⟨[.v],aC2,[],[],none⟩)
theorem tT:qE Tryz.prog [rR] (qC [LA,aB2,a1L,a4p]):=⟨⟨rU,trivial⟩,pK OA (pK aJ2 (pK aBz (pK aCV qT))),qH⟩
theorem aKp:qI Tryz.prog aC3:=by
 refine qS tT Tryz.func210 (c:=_) rfl (N:=80) (by kernel_rfl) (ts:=[(2,none),(3,none)]) rfl (fun _ _=>rfl) ?_;intro O hs hrow;dsimp only[a4A,a4B,a4C,qK,pM,pV,qG,qO,Nat.reduceAdd] at hs hrow⊢;have hz:=hs;obtain⟨z0,hC0⟩:=aQn.1 hz
 try rw[r8 hC0]
 clear hz hs;unfold LY at hC0;refine p8 tT ?_;refine p8 tT ?_;refine pW ?_;refine p8 tT ?_;refine pP hC0 (fun hC0 hc1=> ?_) (fun hC0 hc1=> ?_)
 ·refine p8 tT ?_;refine pI (rF ?_);cases hC0;exact⟨[],by rfl,by rfl,by rfl⟩
 ·refine qM (pN ?_);obtain⟨hg1,hC0⟩:=pG hC0;refine p8 tT ?_ (hp:=by exact hg1);refine pW ?_;refine p8 tT ?_;refine rI ?_;refine p8 tT ?_;refine pP hC0 (fun hC0 hc2=> ?_) (fun hC0 hc2=> ?_)
  ·obtain⟨hg2,hC0⟩:=pG hC0;refine p8 tT ?_ (hp:=by exact hg2);refine pI (rM (rF ?_));cases hC0;exact⟨[],by rfl,by rfl,by rfl⟩
  ·refine p8 tT ?_;refine pP hC0 (fun hC0 hc3=> ?_) (fun hC0 hc3=> ?_)
   ·obtain⟨hg3,hC0⟩:=pG hC0;refine p8 tT ?_ (hp:=by exact hg3);refine pI (rM (rF ?_));cases hC0;exact⟨[],by rfl,by rfl,by rfl⟩
   ·refine p8 tT ?_;refine pP hC0 (fun hC0 hc4=> ?_) (fun hC0 hc4=> ?_)
    ·obtain⟨hg4,hC0⟩:=pG hC0;refine p8 tT ?_ (hp:=by exact hg4);refine pI (rM (rF ?_));cases hC0;exact⟨[],by rfl,by rfl,by rfl⟩
    ·refine p8 tT ?_;refine pP hC0 (fun hC0 hc5=> ?_) (fun hC0 hc5=> ?_)
     ·obtain⟨hg5,hC0⟩:=pG hC0;refine p8 tT ?_ (hp:=by exact hg5);refine pI (rM (rF ?_));cases hC0;exact⟨[],by rfl,by rfl,by rfl⟩
     ·refine p8 tT ?_;refine pP hC0 (fun hC0 hc6=> ?_) (fun hC0 hc6=> ?_)
      ·obtain⟨hg6,hC0⟩:=pG hC0;refine p8 tT ?_ (hp:=by exact hg6);refine pI (rM (rF ?_));cases hC0;exact⟨[],by rfl,by rfl,by rfl⟩
      ·refine qM (qV (pN ?_));obtain⟨Z,hv7,hw7,hC0⟩:=pT hC0
       try simp only[go_sem] at hw7
       refine p8 tT ?_ (hp:=by exact(pS hv7)) (h:=by simp only[go_sem,hw7];rfl);refine pW ?_;refine p8 tT ?_;refine pP hC0 (fun hC0 hc7=> ?_) (fun hC0 hc7=> ?_)
       ·refine p8 tT ?_;refine pI (rF ?_);cases hC0;exact⟨[],by rfl,by rfl,by rfl⟩
       ·refine qM (pN ?_);refine p8 tT ?_;refine pW ?_;obtain⟨aA,hv8,hw8,hC0⟩:=pT hC0
        try simp only[go_sem] at hw8
        refine p8 tT ?_ (hp:=by exact(pS hv8)) (h:=by simp only[go_sem,hw8];rfl);refine p8 tT ?_;obtain⟨y1,hC1,hC0⟩:=pD hC0;refine CD (fun s=>s=(fun x=>⟨[(4,(.val (.int .i64) (sW O (59:Int)),none)),(6,(.val .str x.1,none)),(8,(.val (.int .i64) x.2.1,none)),(9,(.val (.int .i64) x.2.2,none))],[],0,80,0⟩) y1) ?_ ?_
        ·refine pP hC1 (fun hC1 hc8=> ?_) (fun hC1 hc8=> ?_)
         ·refine qU tT ?_;cases hC1;exact uP ⟨⟨[4,6,8,9],[]⟩,by rfl⟩
         ·refine qM ?_;cases hC1;exact uP ⟨⟨[4,6,8,9],[]⟩,by rfl⟩
        ·rintro _ rfl;obtain⟨aB,aC,aD⟩:=y1;dsimp only at hC0⊢;refine pN ?_;obtain⟨aE,hv9,hw9,hC0⟩:=pT hC0
         try simp only[go_sem] at hw9
         refine p8 tT ?_ (hp:=by exact(pS hv9)) (h:=by simp only[go_sem,hw9];rfl);refine pW ?_;refine p8 tT ?_ (hp:=by exact⟨fun hh=>hh,fun hh=>hh,fun hh=>hh,(fun hh=>uA hh)⟩);refine pP hC0 (fun hC0 hc9=> ?_) (fun hC0 hc9=> ?_)
         ·refine p8 tT ?_;refine pI (rF ?_);cases hC0;exact⟨[],by rfl,by rfl,by rfl⟩
         ·refine qM (pN ?_);obtain⟨aF,hv10,hw10,hC0⟩:=pT hC0
          try simp only[go_sem] at hw10
          refine p8 tT ?_ (hp:=by exact(pS hv10)) (h:=by simp only[go_sem,hw10];rfl);refine pW ?_;refine p8 tT ?_;refine pP hC0 (fun hC0 hc10=> ?_) (fun hC0 hc10=> ?_)
          ·refine p8 tT ?_;refine pI (rF ?_);cases hC0;exact⟨[],by rfl,by rfl,by rfl⟩
          ·refine qM (pN ?_);obtain⟨hg11,hC0⟩:=pG hC0;refine p8 tT ?_ (hp:=by exact hg11);refine pI ?_;cases hC0;exact⟨[],by rfl,by rfl,by rfl⟩
attribute [irreducible] LY
end
noncomputable section
def UC (O:FB) (Z:rG):Option (Int×Int×Int×(List pR)):=(vM O (1:Int) ([]:List UInt8)).bind fun aA=>if (!decide (aA.2.2.1=(0:Int)))=true then some ((aA.1,aA.2.1,aA.2.2.1,Z.2.2.2.2.2.2.1)) else (TO Z.2.2.2.2.2.2.1 aA.2.2.2.2.1).bind fun aB=>(OS aA.2.2.2.2.1).bind fun aC=>if (!aC)=true then rE (xH (O.1,(aA.1,(aA.2.1,(aA.2.2.1,((O.2.2.2.2.1.1,(O.2.2.2.2.1.2.1,(O.2.2.2.2.1.2.2.1,(O.2.2.2.2.1.2.2.2.1,())))),(O.2.2.2.2.2.1,())))))) (aA.2.2.2.1,(aA.2.2.2.2.1,(aA.2.2.2.2.2.1,(aA.2.2.2.2.2.2,())))) (3:Int)) fun aD=>some ((aA.1,aD.1,aD.2,Z.2.2.2.2.2.2.1)) else if aB.2=true then rE (xH (O.1,(aA.1,(aA.2.1,(aA.2.2.1,((O.2.2.2.2.1.1,(O.2.2.2.2.1.2.1,(O.2.2.2.2.1.2.2.1,(O.2.2.2.2.1.2.2.2.1,())))),(O.2.2.2.2.2.1,())))))) (aA.2.2.2.1,(aA.2.2.2.2.1,(aA.2.2.2.2.2.1,(aA.2.2.2.2.2.2,())))) (9:Int)) fun aE=>some ((aA.1,aE.1,aE.2,Z.2.2.2.2.2.2.1)) else if (decide ((20:Int)≤(Z.2.2.2.2.2.2.1.length:Int)))=true then rE (xH (O.1,(aA.1,(aA.2.1,(aA.2.2.1,((O.2.2.2.2.1.1,(O.2.2.2.2.1.2.1,(O.2.2.2.2.1.2.2.1,(O.2.2.2.2.1.2.2.2.1,())))),(O.2.2.2.2.2.1,())))))) (aA.2.2.2.1,(aA.2.2.2.2.1,(aA.2.2.2.2.2.1,(aA.2.2.2.2.2.2,())))) (6:Int)) fun aF=>some ((aA.1,aF.1,aF.2,Z.2.2.2.2.2.2.1)) else (vM (O.1,(aA.1,(aA.2.1,(aA.2.2.1,((O.2.2.2.2.1.1,(O.2.2.2.2.1.2.1,(O.2.2.2.2.1.2.2.1,(O.2.2.2.2.1.2.2.2.1,())))),(O.2.2.2.2.2.1,())))))) (1:Int) ([]:List UInt8)).bind fun aG=>(TQ Z.2.2.2.2.2.2.1 aA.2.2.2.2.1 aG.2.2.2.2.1).bind fun aH=>some ((aG.1,aG.2.1,aG.2.2.1,aH))
attribute [irreducible] UC
def UD (O:rG) (Z:(Int×Int×Int×Int×(List UInt8)×Int×Int)):Int→Option (Int⊕Int):=fun aA=>if (((decide (aA<(O.2.2.2.2.1.length:Int)))==true)=true→0≤aA∧aA<(O.2.2.2.2.1.length:Int)) then if ((decide (aA<(O.2.2.2.2.1.length:Int)))&&(Op.bytesLess (pZ .str O.2.2.2.2.1 aA) Z.2.2.2.2.1))=true then if pB (aA+(1:Int)) then some (.inl (aA+(1:Int))) else none else some (.inr aA) else none
def UE (O:FB) (Z:rG):Option (Int×Int×Int×(List (List UInt8))):=(vM O (2:Int) ([]:List UInt8)).bind fun aA=>if (!decide (aA.2.2.1=(0:Int)))=true then some ((aA.1,aA.2.1,aA.2.2.1,Z.2.2.2.2.1)) else (OS aA.2.2.2.2.1).bind fun aB=>if (!aB)=true then rE (xH (O.1,(aA.1,(aA.2.1,(aA.2.2.1,((O.2.2.2.2.1.1,(O.2.2.2.2.1.2.1,(O.2.2.2.2.1.2.2.1,(O.2.2.2.2.1.2.2.2.1,())))),(O.2.2.2.2.2.1,())))))) (aA.2.2.2.1,(aA.2.2.2.2.1,(aA.2.2.2.2.2.1,(aA.2.2.2.2.2.2,())))) (3:Int)) fun aC=>some ((aA.1,aC.1,aC.2,Z.2.2.2.2.1)) else (TX Z.2.2.2.2.1 aA.2.2.2.2.1).bind fun aD=>if aD=true then rE (xH (O.1,(aA.1,(aA.2.1,(aA.2.2.1,((O.2.2.2.2.1.1,(O.2.2.2.2.1.2.1,(O.2.2.2.2.1.2.2.1,(O.2.2.2.2.1.2.2.2.1,())))),(O.2.2.2.2.2.1,())))))) (aA.2.2.2.1,(aA.2.2.2.2.1,(aA.2.2.2.2.2.1,(aA.2.2.2.2.2.2,())))) (9:Int)) fun aE=>some ((aA.1,aE.1,aE.2,Z.2.2.2.2.1)) else if (decide ((20:Int)≤(Z.2.2.2.2.1.length:Int)))=true then rE (xH (O.1,(aA.1,(aA.2.1,(aA.2.2.1,((O.2.2.2.2.1.1,(O.2.2.2.2.1.2.1,(O.2.2.2.2.1.2.2.1,(O.2.2.2.2.1.2.2.2.1,())))),(O.2.2.2.2.2.1,())))))) (aA.2.2.2.1,(aA.2.2.2.2.1,(aA.2.2.2.2.2.1,(aA.2.2.2.2.2.2,())))) (6:Int)) fun aF=>some ((aA.1,aF.1,aF.2,Z.2.2.2.2.1)) else qZ (pU (UD Z aA) (0:Int)) fun aG=>if 0≤(0:Int)∧(0:Int)≤aG∧aG≤(Z.2.2.2.2.1.length:Int) then if (([]:List (List UInt8)).length+(pH Z.2.2.2.2.1 (0:Int) aG).length)*16≤140737488355328 then if ((([]:List (List UInt8))++(pH Z.2.2.2.2.1 (0:Int) aG)).length+([aA.2.2.2.2.1]:List (List UInt8)).length)*16≤140737488355328 then if 0≤aG∧aG≤(Z.2.2.2.2.1.length:Int)∧(Z.2.2.2.2.1.length:Int)≤(Z.2.2.2.2.1.length:Int) then if (((([]:List (List UInt8))++(pH Z.2.2.2.2.1 (0:Int) aG))++([aA.2.2.2.2.1]:List (List UInt8))).length+(pH Z.2.2.2.2.1 aG (Z.2.2.2.2.1.length:Int)).length)*16≤140737488355328 then some ((aA.1,aA.2.1,aA.2.2.1,(((([]:List (List UInt8))++(pH Z.2.2.2.2.1 (0:Int) aG))++([aA.2.2.2.2.1]:List (List UInt8)))++(pH Z.2.2.2.2.1 aG (Z.2.2.2.2.1.length:Int))))) else none else none else none else none else none
attribute [irreducible] UE
end
noncomputable section
def aC4 (O:Int) (Z:(List UInt8)):(Int×(List Int))→Option ((Int×(List Int))⊕((List Int)⊕((List UInt8)×Int×Int))):=fun(aA,aB)=>if (decide (aA<(Z.length:Int)))=true then if 0≤aA∧aA<(Z.length:Int) then if (decide ((pL Z aA)=(38:Int)))=true then if 0≤aA∧aA≤(Z.length:Int)∧(Z.length:Int)≤(Z.length:Int) then (LY (pH Z aA (Z.length:Int))).bind fun aC=>if (decide (aC.2=(0:Int)))=true then some (.inr (.inr ((([]:List UInt8),aA,(3:Int))))) else (CH (aB,()) aC.1).bind fun aD=>if pB (aA+aC.2) then some (.inl ((aA+aC.2),(aB++sE aC.1))) else none else none else if 0≤aA∧aA<(Z.length:Int) then if (J3 O (pL Z aA))=true then some (.inr (.inr ((([]:List UInt8),aA,(3:Int))))) else if 0≤aA∧aA<(Z.length:Int) then (J4 (aB,()) (pL Z aA)).bind fun aE=>if pB (aA+(1:Int)) then some (.inl ((aA+(1:Int)),(aB++([(pL Z aA)]:List Int)))) else none else none else none else none else some (.inr (.inl aB))
def LZ (O:Int) (Z:(List UInt8)):(Int×(List Int))→Option ((Int×(List Int))⊕((List Int)⊕((List UInt8)×Int×Int))):=fun(aA,aB)=>if (decide (aA<(Z.length:Int)))=true then if 0≤aA∧aA<(Z.length:Int) then if (decide ((pL Z aA)=(92:Int)))=true then if 0≤aA∧aA≤(Z.length:Int)∧(Z.length:Int)≤(Z.length:Int) then (FY (pH Z aA (Z.length:Int))).bind fun aC=>if (decide (aC.2=(0:Int)))=true then some (.inr (.inr ((([]:List UInt8),aA,(3:Int))))) else (CH (aB,()) aC.1).bind fun aD=>if pB (aA+aC.2) then some (.inl ((aA+aC.2),(aB++sE aC.1))) else none else none else if 0≤aA∧aA<(Z.length:Int) then if (J3 O (pL Z aA))=true then some (.inr (.inr ((([]:List UInt8),aA,(3:Int))))) else if 0≤aA∧aA<(Z.length:Int) then (J4 (aB,()) (pL Z aA)).bind fun aE=>if pB (aA+(1:Int)) then some (.inl ((aA+(1:Int)),(aB++([(pL Z aA)]:List Int)))) else none else none else none else none else some (.inr (.inl aB))
def EG (O:Int) (Z:(List UInt8)):Option ((List UInt8)×Int×Int):=if (!((decide ((1:Int)≤O))&&(decide (O≤(4:Int)))))=true then some ((([]:List UInt8),(0:Int),(1:Int))) else if (decide (O=(4:Int)))=true then rZ (pU (aC4 O Z) ((0:Int),([]:List Int))) fun aA=>some (((rW aA),(0:Int),(0:Int))) else rZ (pU (LZ O Z) ((0:Int),([]:List Int))) fun aB=>some (((rW aB),(0:Int),(0:Int)))
section
variable (O:Int) (Z:(List UInt8))
abbrev a4D:List pA:=[(.val (.int .i64) O,none),(.val .str Z,none)]
abbrev a4E:List p9:=[]
@[go_sem] def a4F:pF:=⟨[((EG O Z)).isSome=true],[(.val .str ((val (EG O Z)).1),none),(.val (.int .i64) ((val (EG O Z)).2.1),none),(.val (.int .i64) ((val (EG O Z)).2.2),none)],[]⟩
def aC5:List pA→List p9→Option pF:=qP (V:=(Int×(List UInt8))) (fun x=>a4D x.1 x.2) (fun x=>a4E) fun x=>a4F x.1 x.2
@[go_sem] theorem aPR:aC5 (no_index (a4D O Z)) (no_index a4E)=some (a4F O Z):=qR (fun⟨a0,a1⟩ ⟨b0,b1⟩ h1 h2=>by cases h1;cases h2;rfl) (O,Z)
end
@[go_sem] abbrev aC6:Nat×pY:=(174,⟨[.v,.v],aC5,[],[],none⟩)
theorem t7:qE Tryz.prog [rR,FE] (qC [TL,aC3,TJ,aBs,aBu,OB,aC1]):=⟨⟨rU,⟨IY,trivial⟩⟩,pK a0S (pK aKp (pK a0d (pK aJO (pK aJP (pK TF (pK aKo qT)))))),qH⟩
theorem aKq:qI Tryz.prog aC6:=by
 refine qS t7 Tryz.func174 (c:=_) rfl (N:=58) (by kernel_rfl) (ts:=[(4,none),(5,none),(6,none)]) rfl (fun _ _=>rfl) ?_;intro⟨O,Z⟩ hs hrow;dsimp only[a4D,a4E,a4F,qK,pM,pV,qG,qO,Nat.reduceAdd] at hs hrow⊢;have hz:=hs;obtain⟨z0,hC0⟩:=aQn.1 hz
 try rw[r8 hC0]
 clear hz hs;unfold EG at hC0;refine p8 t7 ?_;refine pW ?_;refine p8 t7 ?_;refine pP hC0 (fun hC0 hc1=> ?_) (fun hC0 hc1=> ?_)
 ·refine p8 t7 ?_;refine pI (rF ?_);cases hC0;exact⟨[],by rfl,by rfl,by rfl⟩
 ·refine qM (pN ?_);refine p8 t7 ?_;refine pW ?_;refine p8 t7 ?_;refine pP hC0 (fun hC0 hc2=> ?_) (fun hC0 hc2=> ?_)
  ·refine qU t7 ?_;refine pN ?_;refine p8 t7 ?_;refine pW ?_;refine p8 t7 ?_;refine rI ?_;obtain⟨y1,hy1,hC0⟩:=zD hC0;refine uZ 0 (fun s=> ∃v,y1= .inl v∧s=(fun x=>⟨[(9,(.val .ref (some (0,0)),none))],[(0,.cells wD ((some (0,0)),(x,())) [(1,1)]),(1,.grow 5 1 (x.length))],2,58,0⟩) v) ?_ ?_
   ·refine uY hy1 (fun x=>⟨[(0,(.val (.int .i64) O,none)),(1,(.val .str Z,none)),(7,(.val (.int .u8) (38:Int),none)),(8,(.val .clo (some (210,[])),none)),(9,(.val .ref (some (0,0)),none)),(10,(.val (.int .i64) x.1,none))],[(0,.cells wD ((some (0,0)),(x.2,())) [(1,1)]),(1,.grow 5 1 (x.2.length))],2,58,0⟩) ⟨[0,1,7,8,9,10],[(0,384),(1,385)]⟩ (by rfl) ?_;intro x1 w1 n1 hC1 hN1;obtain⟨aA,aB⟩:=x1;unfold aC4 at hC1;dsimp only at hC1⊢;refine pW ?_;refine p8 t7 ?_;refine pP hC1 (fun hC1 hc3=> ?_) (fun hC1 hc3=> ?_)
    ·refine qM (pN (rI (rI ?_)));obtain⟨hg1,hC1⟩:=pG hC1;refine p8 t7 ?_ (hp:=by exact hg1);refine pP hC1 (fun hC1 hc4=> ?_) (fun hC1 hc4=> ?_)
     ·obtain⟨hg2,hC1⟩:=pG hC1;obtain⟨aC,hv3,hw3,hC1⟩:=pT hC1
      try simp only[go_sem] at hw3
      refine p8 t7 ?_ (hp:=by exact⟨hg2,(pS hv3)⟩) (h:=by simp only[go_sem,hw3];rfl);refine pW ?_;refine p8 t7 ?_;refine pP hC1 (fun hC1 hc5=> ?_) (fun hC1 hc5=> ?_)
      ·refine p8 t7 ?_;refine pI (rF (rM (rM (yI (yH (rM (rF ?_)))))));cases hC1;cases hN1;dsimp only at hC0;cases hC0;exact⟨[],by rfl,by rfl,by rfl⟩
      ·refine qM (pN ?_);obtain⟨aD,hv4,hw4,hC1⟩:=pT hC1
       try simp only[go_sem] at hw4
       refine p8 t7 ?_ (hp:=by exact⟨by first|rfl|trivial,(pS hv4)⟩) (h:=by simp only[go_sem,hw4];rfl)
       obtain⟨hg5,hC1⟩:=pG hC1;refine qU t7 ?_ (hp:=by exact hg5);refine qV (qV ?_);cases hC1;exact sM ⟨⟨[0,1,7,8,9,10],[(0,0),(1,1)]⟩,_,by rfl,hN1⟩
     ·obtain⟨hg6,hC1⟩:=pG hC1;refine p8 t7 ?_ (hp:=by exact hg6);refine pP hC1 (fun hC1 hc6=> ?_) (fun hC1 hc6=> ?_)
      ·refine p8 t7 ?_;refine pI (rM (rM (yI (yH (rM (rF ?_))))));cases hC1;cases hN1;dsimp only at hC0;cases hC0;exact⟨[],by rfl,by rfl,by rfl⟩
      ·obtain⟨hg7,hC1⟩:=pG hC1;obtain⟨aE,hv8,hw8,hC1⟩:=pT hC1
       try simp only[go_sem] at hw8
       refine p8 t7 ?_ (hp:=by exact⟨hg7,by first|rfl|trivial,(pS hv8)⟩) (h:=by simp only[go_sem,hw8];rfl)
       obtain⟨hg9,hC1⟩:=pG hC1;refine qU t7 ?_ (hp:=by exact hg9);refine qV (qV ?_);cases hC1;exact sM ⟨⟨[0,1,7,8,9,10],[(0,0),(1,1)]⟩,_,by rfl,hN1⟩
    ·refine uG (uO (uI ?_));cases hC1;cases hN1;exact uH ⟨⟨[9],[(0,0),(1,1)]⟩,_,rfl,by rfl⟩
   ·rintro _ ⟨aF,rfl,rfl⟩;dsimp only at hC0⊢;refine uX (pN ?_);refine p8 t7 ?_ (hp:=by first|rfl|trivial)
    refine pI ?_;cases hC0;exact⟨[],by rfl,by rfl,by rfl⟩
  ·refine qM (pN ?_);refine p8 t7 ?_;refine pW ?_;refine p8 t7 ?_;refine rI ?_;obtain⟨y1,hy1,hC0⟩:=zD hC0;refine uZ 0 (fun s=> ∃v,y1= .inl v∧s=(fun x=>⟨[(9,(.val .ref (some (0,0)),none))],[(0,.cells wD ((some (0,0)),(x,())) [(1,1)]),(1,.grow 5 1 (x.length))],2,58,0⟩) v) ?_ ?_
   ·refine uY hy1 (fun x=>⟨[(0,(.val (.int .i64) O,none)),(1,(.val .str Z,none)),(7,(.val (.int .u8) (92:Int),none)),(8,(.val .clo (some (209,[])),none)),(9,(.val .ref (some (0,0)),none)),(10,(.val (.int .i64) x.1,none))],[(0,.cells wD ((some (0,0)),(x.2,())) [(1,1)]),(1,.grow 5 1 (x.2.length))],2,58,0⟩) ⟨[0,1,7,8,9,10],[(0,320),(1,321)]⟩ (by rfl) ?_;intro x1 w1 n1 hC1 hN1;obtain⟨aG,aH⟩:=x1;unfold LZ at hC1;dsimp only at hC1⊢;refine pW ?_;refine p8 t7 ?_;refine pP hC1 (fun hC1 hc7=> ?_) (fun hC1 hc7=> ?_)
    ·refine qM (pN (rI (rI ?_)));obtain⟨hg10,hC1⟩:=pG hC1;refine p8 t7 ?_ (hp:=by exact hg10);refine pP hC1 (fun hC1 hc8=> ?_) (fun hC1 hc8=> ?_)
     ·obtain⟨hg11,hC1⟩:=pG hC1;obtain⟨aI,hv12,hw12,hC1⟩:=pT hC1
      try simp only[go_sem] at hw12
      refine p8 t7 ?_ (hp:=by exact⟨hg11,(pS hv12)⟩) (h:=by simp only[go_sem,hw12];rfl);refine pW ?_;refine p8 t7 ?_;refine pP hC1 (fun hC1 hc9=> ?_) (fun hC1 hc9=> ?_)
      ·refine p8 t7 ?_;refine pI (rF (rM (rM (yI (yH (rM (rF ?_)))))));cases hC1;cases hN1;dsimp only at hC0;cases hC0;exact⟨[],by rfl,by rfl,by rfl⟩
      ·refine qM (pN ?_);obtain⟨aJ,hv13,hw13,hC1⟩:=pT hC1
       try simp only[go_sem] at hw13
       refine p8 t7 ?_ (hp:=by exact⟨by first|rfl|trivial,(pS hv13)⟩) (h:=by simp only[go_sem,hw13];rfl)
       obtain⟨hg14,hC1⟩:=pG hC1;refine qU t7 ?_ (hp:=by exact hg14);refine qV (qV ?_);cases hC1;exact sM ⟨⟨[0,1,7,8,9,10],[(0,0),(1,1)]⟩,_,by rfl,hN1⟩
     ·obtain⟨hg15,hC1⟩:=pG hC1;refine p8 t7 ?_ (hp:=by exact hg15);refine pP hC1 (fun hC1 hc10=> ?_) (fun hC1 hc10=> ?_)
      ·refine p8 t7 ?_;refine pI (rM (rM (yI (yH (rM (rF ?_))))));cases hC1;cases hN1;dsimp only at hC0;cases hC0;exact⟨[],by rfl,by rfl,by rfl⟩
      ·obtain⟨hg16,hC1⟩:=pG hC1;obtain⟨aK,hv17,hw17,hC1⟩:=pT hC1
       try simp only[go_sem] at hw17
       refine p8 t7 ?_ (hp:=by exact⟨hg16,by first|rfl|trivial,(pS hv17)⟩) (h:=by simp only[go_sem,hw17];rfl)
       obtain⟨hg18,hC1⟩:=pG hC1;refine qU t7 ?_ (hp:=by exact hg18);refine qV (qV ?_);cases hC1;exact sM ⟨⟨[0,1,7,8,9,10],[(0,0),(1,1)]⟩,_,by rfl,hN1⟩
    ·refine uG (uO (uI ?_));cases hC1;cases hN1;exact uH ⟨⟨[9],[(0,0),(1,1)]⟩,_,rfl,by rfl⟩
   ·rintro _ ⟨aL,rfl,rfl⟩;dsimp only at hC0⊢;refine uX (pN ?_);refine p8 t7 ?_ (hp:=by first|rfl|trivial)
    refine pI ?_;cases hC0;exact⟨[],by rfl,by rfl,by rfl⟩
attribute [irreducible] EG
end
noncomputable section
def FZ (O:(List UInt8)) (Z:Int):Option (Int×(List UInt8)×Int):=if 0≤(1:Int)∧(1:Int)≤(O.length:Int)∧(O.length:Int)≤(O.length:Int) then (JC (3:Int) (pH O (1:Int) (O.length:Int)) (34:Int)).bind fun aA=>if (decide (aA<(0:Int)))=true then some (((0:Int),([]:List UInt8),Z)) else if pB (aA+(1:Int)) then if 0≤(1:Int)∧(1:Int)≤(aA+(1:Int))∧(aA+(1:Int))≤(O.length:Int) then (EG (3:Int) (pH O (1:Int) (aA+(1:Int)))).bind fun aB=>if (((!decide (aB.2.2=(0:Int)))==false)=true→((DB aB.1)).isSome=true) then if ((!decide (aB.2.2=(0:Int)))||(!((decide ((aB.1.length:Int)≤(4000:Int)))&&(Lib.validD aB.1))))=true then some (((0:Int),([]:List UInt8),Z)) else if pB (Z+aA) then if pB ((Z+aA)+(2:Int)) then some (((1:Int),aB.1,((Z+aA)+(2:Int)))) else none else none else none else none else none else none
section
variable (O:(List UInt8)) (Z:Int)
abbrev a4G:List pA:=[(.val .str O,none),(.val (.int .i64) Z,none)]
abbrev a4H:List p9:=[]
@[go_sem] def a4I:pF:=⟨[((FZ O Z)).isSome=true],[(.val L4 ((val (FZ O Z)).1,((val (FZ O Z)).2.1,(Z,((val (FZ O Z)).2.2,())))),none)],[]⟩
def aC7:List pA→List p9→Option pF:=qP (V:=((List UInt8)×Int)) (fun x=>a4G x.1 x.2) (fun x=>a4H) fun x=>a4I x.1 x.2
@[go_sem] theorem aPS:aC7 (no_index (a4G O Z)) (no_index a4H)=some (a4I O Z):=qR (fun⟨a0,a1⟩ ⟨b0,b1⟩ h1 h2=>by cases h1;cases h2;rfl) (O,Z)
end
@[go_sem] abbrev aC8:Nat×pY:=(119,⟨[.v,.v],aC7,[],[],none⟩)
theorem G0:qE Tryz.prog [rR,zE] (qC [aB5,aC6,OT]):=⟨⟨rU,⟨AX,trivial⟩⟩,pK aJ3 (pK aKq (pK U2 qT)),qH⟩
theorem aKr:qI Tryz.prog aC8:=by
 refine qS G0 Tryz.func119 (c:=_) rfl (N:=43) (by kernel_rfl) (ts:=[(4,some 65)]) rfl (fun _ _=>rfl) ?_;intro⟨O,Z⟩ hs hrow;dsimp only[a4G,a4H,a4I,qK,pM,pV,qG,qO,Nat.reduceAdd] at hs hrow⊢;have hz:=hs;obtain⟨z0,hC0⟩:=aQn.1 hz
 try rw[r8 hC0]
 clear hz hs;unfold FZ at hC0;refine p8 G0 ?_;obtain⟨hg1,hC0⟩:=pG hC0;obtain⟨aA,hv2,hw2,hC0⟩:=pT hC0
 try simp only[go_sem] at hw2
 refine p8 G0 ?_ (hp:=by exact⟨hg1,(pS hv2)⟩) (h:=by simp only[go_sem,hw2];rfl);refine pW ?_;refine p8 G0 ?_;refine pP hC0 (fun hC0 hc1=> ?_) (fun hC0 hc1=> ?_)
 ·refine p8 G0 ?_;refine pI (rF ?_);cases hC0;exact⟨[],by rfl,by rfl,by rfl⟩
 ·refine qM (pN ?_);obtain⟨hg3,hC0⟩:=pG hC0;obtain⟨hg4,hC0⟩:=pG hC0;obtain⟨aB,hv5,hw5,hC0⟩:=pT hC0
  try simp only[go_sem] at hw5
  refine p8 G0 ?_ (hp:=by exact⟨hg3,hg4,(pS hv5)⟩) (h:=by simp only[go_sem,hw5];rfl);refine pW ?_;obtain⟨hg6,hC0⟩:=pG hC0;refine p8 G0 ?_ (hp:=by exact⟨fun hh=>hh,hg6,fun hh=>hh,(fun hh=>uA hh)⟩);refine pP hC0 (fun hC0 hc2=> ?_) (fun hC0 hc2=> ?_)
  ·refine p8 G0 ?_;refine pI (rF ?_);cases hC0;exact⟨[],by rfl,by rfl,by rfl⟩
  ·refine qM (pN ?_);obtain⟨hg7,hC0⟩:=pG hC0;obtain⟨hg8,hC0⟩:=pG hC0;refine p8 G0 ?_ (hp:=by exact⟨hg7,hg8⟩);refine pI ?_;cases hC0;exact⟨[],by rfl,by rfl,by rfl⟩
attribute [irreducible] FZ
end
noncomputable section
def B1 (O:((List UInt8)×(Int×Unit))):Option (Int×(List UInt8)×Int×Int×Int):=(HB O).bind fun Z=>if (!Z.1)=true then some (((0:Int),([]:List UInt8),Z.2,Z.2,Z.2)) else if (decide (Z.2=(O.1.length:Int)))=true then some (((4:Int),([]:List UInt8),Z.2,Z.2,Z.2)) else if 0≤Z.2∧Z.2≤(O.1.length:Int)∧(O.1.length:Int)≤(O.1.length:Int) then if 0≤(0:Int)∧(0:Int)<((pH O.1 Z.2 (O.1.length:Int)).length:Int) then if ((decide ((pL (pH O.1 Z.2 (O.1.length:Int)) (0:Int))=(123:Int)))||(decide ((pL (pH O.1 Z.2 (O.1.length:Int)) (0:Int))=(125:Int))))=true then if 0≤(0:Int)∧(0:Int)≤(1:Int)∧(1:Int)≤((pH O.1 Z.2 (O.1.length:Int)).length:Int) then if pB (Z.2+(1:Int)) then some (((3:Int),(pH (pH O.1 Z.2 (O.1.length:Int)) (0:Int) (1:Int)),Z.2,(Z.2+(1:Int)),(Z.2+(1:Int)))) else none else none else if (decide ((pL (pH O.1 Z.2 (O.1.length:Int)) (0:Int))=(34:Int)))=true then (FZ (pH O.1 Z.2 (O.1.length:Int)) Z.2).bind fun aA=>some ((aA.1,aA.2.1,Z.2,aA.2.2,aA.2.2)) else if (((decide ((97:Int)≤(pL (pH O.1 Z.2 (O.1.length:Int)) (0:Int))))&&(decide ((pL (pH O.1 Z.2 (O.1.length:Int)) (0:Int))≤(122:Int))))||((decide ((65:Int)≤(pL (pH O.1 Z.2 (O.1.length:Int)) (0:Int))))&&(decide ((pL (pH O.1 Z.2 (O.1.length:Int)) (0:Int))≤(90:Int)))))=true then (J6 (pH O.1 Z.2 (O.1.length:Int))).bind fun aB=>qZ (σ:=Int) (if (decide (aB<(0:Int)))=true then some (((pH O.1 Z.2 (O.1.length:Int)).length:Int)) else some (aB) ) fun aC=>if 0≤(0:Int)∧(0:Int)≤aC∧aC≤((pH O.1 Z.2 (O.1.length:Int)).length:Int) then if pB (Z.2+aC) then some (((2:Int),(pH (pH O.1 Z.2 (O.1.length:Int)) (0:Int) aC),Z.2,(Z.2+aC),(Z.2+aC))) else none else none else some (((0:Int),([]:List UInt8),Z.2,Z.2,Z.2)) else none else none
section
variable (O:((List UInt8)×(Int×Unit)))
abbrev a4J:List pA:=[(.val .ref (some (0,0)),none)]
abbrev a4K:List p9:=[.cells D5 O []]
@[go_sem] def a4L:pF:=⟨[((B1 O)).isSome=true],[(.val L4 ((val (B1 O)).1,((val (B1 O)).2.1,((val (B1 O)).2.2.1,((val (B1 O)).2.2.2.1,())))),none)],[.cells D5 (O.1,((val (B1 O)).2.2.2.2,())) []]⟩
def aC9:List pA→List p9→Option pF:=qP (V:=((List UInt8)×(Int×Unit))) (fun x=>a4J) (fun x=>a4K x) fun x=>a4L x
@[go_sem] theorem aPT:aC9 (no_index a4J) (no_index (a4K O))=some (a4L O):=qR (fun a0 b0 h1 h2=>by cases h1;cases h2;rfl) O
end
@[go_sem] abbrev a4M:Nat×pY:=(81,⟨[.p D5 []],aC9,[],[],none⟩)
theorem uJ:qE Tryz.prog [vL,rR,O9,zE] (qC [aCw,aC8,a0v,aBU]):=⟨⟨wE,⟨rU,⟨ZN,⟨AX,trivial⟩⟩⟩⟩,pK aKd (pK aKr (pK aAR (pK aJZ qT))),qH⟩
theorem aDa:qI Tryz.prog a4M:=by
 refine qS uJ Tryz.func81 (c:=_) rfl (N:=87) (by kernel_rfl) (ts:=[(2,some 65)]) rfl (fun _ _=>rfl) ?_;intro O hs hrow;dsimp only[a4J,a4K,a4L,qK,pM,pV,qG,qO,Nat.reduceAdd] at hs hrow⊢;have hz:=hs;obtain⟨z0,hC0⟩:=aQn.1 hz
 try rw[r8 hC0]
 clear hz hs;unfold B1 at hC0;refine p8 uJ ?_;refine pW ?_;obtain⟨Z,hv1,hw1,hC0⟩:=pT hC0
 try simp only[go_sem] at hw1
 refine p8 uJ ?_ (hp:=by exact(pS hv1)) (h:=by simp only[go_sem,hw1];rfl);refine pP hC0 (fun hC0 hc1=> ?_) (fun hC0 hc1=> ?_)
 ·refine xU uJ ?_;refine pI (rF ?_);cases hC0;exact⟨[(0,0)],by rfl,by rfl,by rfl⟩
 ·refine qM (pN ?_);refine p8 uJ ?_;refine pW ?_;refine p8 uJ ?_;refine pP hC0 (fun hC0 hc2=> ?_) (fun hC0 hc2=> ?_)
  ·refine p8 uJ ?_;refine pI (rF ?_);cases hC0;exact⟨[(0,0)],by rfl,by rfl,by rfl⟩
  ·refine qM (pN ?_);obtain⟨hg2,hC0⟩:=pG hC0;refine p8 uJ ?_ (hp:=by exact hg2);refine p8 uJ ?_;refine pW ?_;obtain⟨hg3,hC0⟩:=pG hC0;refine p8 uJ ?_ (hp:=by exact hg3);refine rI ?_;refine p8 uJ ?_ (hp:=by exact⟨fun hh=>hh,(fun hh=>uA hh)⟩);refine pP hC0 (fun hC0 hc3=> ?_) (fun hC0 hc3=> ?_)
   ·obtain⟨hg4,hC0⟩:=pG hC0;obtain⟨hg5,hC0⟩:=pG hC0;refine qU uJ ?_ (hp:=by exact⟨hg4,hg5⟩);refine qV (pN ?_);refine p8 uJ ?_;refine p8 uJ ?_;refine pI ?_;cases hC0;exact⟨[(0,0)],by rfl,by rfl,by rfl⟩
   ·refine p8 uJ ?_;refine pP hC0 (fun hC0 hc4=> ?_) (fun hC0 hc4=> ?_)
    ·obtain⟨aA,hv6,hw6,hC0⟩:=pT hC0
     try simp only[go_sem] at hw6
     refine qU uJ ?_ (hp:=by exact(pS hv6)) (h:=by simp only[go_sem,hw6];rfl);refine qV (pN ?_);refine p8 uJ ?_;refine p8 uJ ?_;refine pI ?_;cases hC0;exact⟨[(0,0)],by rfl,by rfl,by rfl⟩
    ·refine p8 uJ ?_;refine pP hC0 (fun hC0 hc5=> ?_) (fun hC0 hc5=> ?_)
     ·obtain⟨aB,hv7,hw7,hC0⟩:=pT hC0
      try simp only[go_sem] at hw7
      refine p8 uJ ?_ (hp:=by exact(pS hv7)) (h:=by simp only[go_sem,hw7];rfl);refine pW ?_;refine p8 uJ ?_;obtain⟨aC,hC1,hC0⟩:=pD hC0;refine CD (fun s=>s=(fun x=>⟨[(0,(.val .ref (some (0,0)),none)),(2,(.val .ref (some (1,0)),none)),(3,(.val (.int .i64) Z.2,none)),(4,(.val .str (pH O.1 Z.2 (O.1.length:Int)),none)),(5,(.val .ref (some (2,0)),none)),(7,(.val (.int .i64) x,none))],[(0,.cells D5 (O.1,(Z.2,())) []),(1,.cells L4 ((0:Int),(([]:List UInt8),((0:Int),((0:Int),())))) []),(2,.cells L4 ((0:Int),(([]:List UInt8),(Z.2,(Z.2,())))) [])],3,87,1⟩) aC) ?_ ?_
      ·refine pP hC1 (fun hC1 hc6=> ?_) (fun hC1 hc6=> ?_)
       ·refine qU uJ ?_;cases hC1;exact uP ⟨⟨[0,2,3,4,5,7],[(0,0),(1,1),(2,833)]⟩,by rfl⟩
       ·refine qM ?_;cases hC1;exact uP ⟨⟨[0,2,3,4,5,7],[(0,0),(1,1),(2,833)]⟩,by rfl⟩
      ·rintro _ rfl;dsimp only at hC0⊢;refine pN ?_;obtain⟨hg8,hC0⟩:=pG hC0;obtain⟨hg9,hC0⟩:=pG hC0;refine qU uJ ?_ (hp:=by exact⟨hg8,hg9⟩);refine qV (pN ?_);refine p8 uJ ?_;refine p8 uJ ?_;refine pI ?_;cases hC0;exact⟨[(0,0)],by rfl,by rfl,by rfl⟩
     ·refine qM (qV (pN ?_));refine p8 uJ ?_;refine p8 uJ ?_;refine pI ?_;cases hC0;exact⟨[(0,0)],by rfl,by rfl,by rfl⟩
attribute [irreducible] B1
end
noncomputable section
def A9 (O:FB) (Z:rG) (aA:(Bool×(Bool×(Bool×Unit)))) (aB:rJ) (aC:Bool):Option (Int×Int×Int×(List UInt8)×(List UInt8)×(List (List UInt8))×(List (List UInt8))×Int×(List pR)×Bool×Bool×Bool):=if (decide (aB.2.1=([99,111,109,109,101,110,116]:List UInt8)))=true then if (decide ((20:Int)≤(Z.2.2.2.1.length:Int)))=true then rE (xH O aB (6:Int)) fun aD=>some ((O.2.1,aD.1,aD.2,Z.2.1,Z.2.2.1,Z.2.2.2.1,Z.2.2.2.2.1,Z.2.2.2.2.2.1,Z.2.2.2.2.2.2.1,aA.1,aA.2.1,aA.2.2.1)) else (vM O (1:Int) ([]:List UInt8)).bind fun aE=>if (([]:List (List UInt8)).length+Z.2.2.2.1.length)*16≤140737488355328 then if ((([]:List (List UInt8))++Z.2.2.2.1).length+([aE.2.2.2.2.1]:List (List UInt8)).length)*16≤140737488355328 then some ((aE.1,aE.2.1,aE.2.2.1,Z.2.1,Z.2.2.1,((([]:List (List UInt8))++Z.2.2.2.1)++([aE.2.2.2.2.1]:List (List UInt8))),Z.2.2.2.2.1,Z.2.2.2.2.2.1,Z.2.2.2.2.2.2.1,aA.1,aA.2.1,aA.2.2.1)) else none else none else if (decide (aB.2.1=([102,105,101,108,100]:List UInt8)))=true then (UC O Z).bind fun aF=>some ((aF.1,aF.2.1,aF.2.2.1,Z.2.1,Z.2.2.1,Z.2.2.2.1,Z.2.2.2.2.1,Z.2.2.2.2.2.1,aF.2.2.2,aA.1,aA.2.1,aA.2.2.1)) else if aC=true then rE (xH O aB (3:Int)) fun aG=>some ((O.2.1,aG.1,aG.2,Z.2.1,Z.2.2.1,Z.2.2.2.1,Z.2.2.2.2.1,Z.2.2.2.2.2.1,Z.2.2.2.2.2.2.1,aA.1,aA.2.1,aA.2.2.1)) else if (decide (aB.2.1=([102,108,97,103]:List UInt8)))=true then (UE O Z).bind fun aH=>some ((aH.1,aH.2.1,aH.2.2.1,Z.2.1,Z.2.2.1,Z.2.2.2.1,aH.2.2.2,Z.2.2.2.2.2.1,Z.2.2.2.2.2.2.1,aA.1,aA.2.1,aA.2.2.1)) else qZ (σ:=Bool) (if ((decide (aB.2.1=([115,111,117,114,99,101]:List UInt8)))&&aA.1)=true then some (((decide (aB.2.1=([115,111,117,114,99,101]:List UInt8)))&&aA.1)) else if ((decide (aB.2.1=([116,97,114,103,101,116]:List UInt8)))&&aA.2.1)=true then some (((decide (aB.2.1=([116,97,114,103,101,116]:List UInt8)))&&aA.2.1)) else some (((decide (aB.2.1=([115,116,97,116,101]:List UInt8)))&&aA.2.2.1)) ) fun aI=>if aI=true then rE (xH O aB (9:Int)) fun aJ=>some ((O.2.1,aJ.1,aJ.2,Z.2.1,Z.2.2.1,Z.2.2.2.1,Z.2.2.2.2.1,Z.2.2.2.2.2.1,Z.2.2.2.2.2.2.1,aA.1,aA.2.1,aA.2.2.1)) else if (decide (aB.2.1=([115,111,117,114,99,101]:List UInt8)))=true then (vM O (1:Int) ([]:List UInt8)).bind fun aK=>some ((aK.1,aK.2.1,aK.2.2.1,aK.2.2.2.2.1,Z.2.2.1,Z.2.2.2.1,Z.2.2.2.2.1,Z.2.2.2.2.2.1,Z.2.2.2.2.2.2.1,true,aA.2.1,aA.2.2.1)) else if (decide (aB.2.1=([116,97,114,103,101,116]:List UInt8)))=true then (vM O (1:Int) ([]:List UInt8)).bind fun aL=>some ((aL.1,aL.2.1,aL.2.2.1,Z.2.1,aL.2.2.2.2.1,Z.2.2.2.1,Z.2.2.2.2.1,Z.2.2.2.2.2.1,Z.2.2.2.2.2.2.1,aA.1,true,aA.2.2.1)) else if (decide (aB.2.1=([115,116,97,116,101]:List UInt8)))=true then (vM O (2:Int) ([]:List UInt8)).bind fun aM=>if (((decide (aM.2.2.1=(0:Int)))==true)=true→((LC aM.2.2.2.2.1)).isSome=true) then qZ (σ:=(Int×Int)) (if ((decide (aM.2.2.1=(0:Int)))&&(decide ((val (LC aM.2.2.2.2.1))<(0:Int))))=true then rE (xH (O.1,(aM.1,(aM.2.1,(aM.2.2.1,((O.2.2.2.2.1.1,(O.2.2.2.2.1.2.1,(O.2.2.2.2.1.2.2.1,(O.2.2.2.2.1.2.2.2.1,())))),(O.2.2.2.2.2.1,())))))) (aM.2.2.2.1,(aM.2.2.2.2.1,(aM.2.2.2.2.2.1,(aM.2.2.2.2.2.2,())))) (3:Int)) fun aN=>some ((aN.1,aN.2)) else some ((aM.2.1,aM.2.2.1)) ) fun(aO,aP)=>(LC aM.2.2.2.2.1).bind fun aQ=>some ((aM.1,aO,aP,Z.2.1,Z.2.2.1,Z.2.2.2.1,Z.2.2.2.2.1,aQ,Z.2.2.2.2.2.2.1,aA.1,aA.2.1,true)) else none else rE (xH O aB (3:Int)) fun aR=>some ((O.2.1,aR.1,aR.2,Z.2.1,Z.2.2.1,Z.2.2.2.1,Z.2.2.2.2.1,Z.2.2.2.2.2.1,Z.2.2.2.2.2.2.1,aA.1,aA.2.1,aA.2.2.1))
attribute [irreducible] A9
def s7 (O:((List UInt8)×(Int×Unit))) (Z:rJ) (aA:Int) (aB:Int) (aC:rC) (aD:((List Int)×(Int×Unit))) (aE:(List ((List UInt8)×Bool))):Option (Int×Int×(List UInt8)×Int×Int×Int):=if (decide (aB=(0:Int)))=true then (B1 O).bind fun aF=>some ((aF.2.2.2.2,aF.1,aF.2.1,aF.2.2.1,aF.2.2.2.1,Z.2.2.2.1)) else some ((O.2.1,Z.1,Z.2.1,Z.2.2.1,Z.2.2.2.1,aD.2.1))
section
variable (O:((List UInt8)×(Int×Unit))) (Z:rJ) (aA:Int) (aB:Int) (aC:rC) (aD:((List Int)×(Int×Unit))) (aE:Nat) (aF:Nat) (aG:(List ((List UInt8)×Bool)))
abbrev a4N:List pA:=[(.val .ref (some (0,0)),none)]
abbrev a4O:List p9:=[.cells rH (O,(Z,(aA,(aB,(aC,((some 3),aD)))))) [(11,1),(13,2)],.grow 55 7 aE,.grow 3 1 aF,.map .str .bool aG]
@[go_sem] def a4P:pF:=⟨[aE=(aC.2.2.2.1.length),aF=(aD.1.length),((s7 O Z aA aB aC aD aG)).isSome=true],[],[.cells rH ((O.1,((val (s7 O Z aA aB aC aD aG)).1,())),(((val (s7 O Z aA aB aC aD aG)).2.1,((val (s7 O Z aA aB aC aD aG)).2.2.1,((val (s7 O Z aA aB aC aD aG)).2.2.2.1,((val (s7 O Z aA aB aC aD aG)).2.2.2.2.1,())))),(aA,(aB,((aC.1,(aC.2.1,(aC.2.2.1,(aC.2.2.2.1,())))),((some 3),(aD.1,((val (s7 O Z aA aB aC aD aG)).2.2.2.2.2,())))))))) [(11,1),(13,2)],.grow 55 7 (aC.2.2.2.1.length),.grow 3 1 (aD.1.length),.map .str .bool aG]⟩
def aDb:List pA→List p9→Option pF:=qP (V:=(((List UInt8)×(Int×Unit))×rJ×Int×Int×rC×((List Int)×(Int×Unit))×Nat×Nat×(List ((List UInt8)×Bool)))) (fun x=>a4N) (fun x=>a4O x.1 x.2.1 x.2.2.1 x.2.2.2.1 x.2.2.2.2.1 x.2.2.2.2.2.1 x.2.2.2.2.2.2.1 x.2.2.2.2.2.2.2.1 x.2.2.2.2.2.2.2.2) fun x=>a4P x.1 x.2.1 x.2.2.1 x.2.2.2.1 x.2.2.2.2.1 x.2.2.2.2.2.1 x.2.2.2.2.2.2.1 x.2.2.2.2.2.2.2.1 x.2.2.2.2.2.2.2.2
@[go_sem] theorem aPU:aDb (no_index a4N) (no_index (a4O O Z aA aB aC aD aE aF aG))=some (a4P O Z aA aB aC aD aE aF aG):=qR (fun⟨a0,a1,a2,a3,a4,a5,a6,a7,a8⟩ ⟨b0,b1,b2,b3,b4,b5,b6,b7,b8⟩ h1 h2=>by cases h1;cases h2;rfl) (O,Z,aA,aB,aC,aD,aE,aF,aG)
end
@[go_sem] abbrev xX:Nat×pY:=(178,⟨[.p rH [11,13]],aDb,[(0,12,.m)],[1,2,3],none⟩)
theorem UF:qE Tryz.prog [vL,FG,zE,xF] (qC [a4M]):=⟨⟨wE,⟨J0,⟨AX,⟨yJ,trivial⟩⟩⟩⟩,pK aDa qT,qH⟩
theorem DE:qI Tryz.prog xX:=by
 refine qS UF Tryz.func178 (c:=_) rfl (N:=22) (by kernel_rfl) (ts:=[]) rfl (fun _ _=>rfl) ?_;intro⟨O,Z,aA,aB,aC,aD,aE,aF,aG⟩ hs hrow;dsimp only[a4N,a4O,a4P,qK,pM,pV,qG,qO,Nat.reduceAdd] at hs hrow⊢;obtain⟨rfl,rfl,hz⟩:=hs;obtain⟨z0,hC0⟩:=aQn.1 hz
 try rw[r8 hC0]
 clear hz;unfold s7 at hC0;refine p8 UF ?_;refine pP hC0 (fun hC0 hc1=> ?_) (fun hC0 hc1=> ?_)
 ·refine p8 UF ?_;obtain⟨aH,hv1,hw1,hC0⟩:=pT hC0
  try simp only[go_sem] at hw1
  refine qU UF ?_ (hp:=by exact(pS hv1)) (h:=by simp only[go_sem,hw1];rfl);cases hC0;exact⟨[(0,0),(1,1),(2,2),(3,3)],by rfl,by rfl,by rfl⟩
 ·refine qM ?_;cases hC0;exact⟨[(0,0),(1,1),(2,2),(3,3)],by rfl,by rfl,by rfl⟩
attribute [irreducible] s7
end
noncomputable section
def tU (O:FB) (Z:rG) (aA:Bool):(Int×Int×Int×(List UInt8)×(List UInt8)×(List (List UInt8))×(List (List UInt8))×Int×(List pR)×Bool×Bool×Bool)→Option ((Int×Int×Int×(List UInt8)×(List UInt8)×(List (List UInt8))×(List (List UInt8))×Int×(List pR)×Bool×Bool×Bool)⊕((Int×Int×Int×(List UInt8)×(List UInt8)×(List (List UInt8))×(List (List UInt8))×Int×(List pR))⊕(Int×Int×Int×(List Int)×(List UInt8)×(List UInt8)×(List (List UInt8))×(List (List UInt8))×Int×(List pR)))):=fun(aB,aC,aD,aE,aF,aG,aH,aI,aJ,aK,aL,aM)=>if (decide (aD=(0:Int)))=true then (LX O.1 aB).bind fun aN=>if ((decide (aN.1=(3:Int)))&&(decide (aN.2.1=([125]:List UInt8))))=true then if (([]:List Int).length+O.2.2.2.2.2.1.length)*8≤140737488355328 then if ((([]:List Int)++O.2.2.2.2.2.1).length+([aN.2.2.2]:List Int).length)*8≤140737488355328 then some (.inr (.inr ((aN.2.2.2,aC,aD,((([]:List Int)++O.2.2.2.2.2.1)++([aN.2.2.2]:List Int)),aE,aF,aG,aH,aI,aJ)))) else none else none else if (!decide (aN.1=(2:Int)))=true then rE (xH (O.1,(aB,(aC,(aD,((O.2.2.2.2.1.1,(O.2.2.2.2.1.2.1,(O.2.2.2.2.1.2.2.1,(O.2.2.2.2.1.2.2.2.1,())))),(O.2.2.2.2.2.1,())))))) (aN.1,(aN.2.1,(aN.2.2.1,(aN.2.2.2,())))) (3:Int)) fun aO=>some (.inr (.inr ((aB,aO.1,aO.2,O.2.2.2.2.2.1,aE,aF,aG,aH,aI,aJ)))) else (A9 (O.1,(aN.2.2.2,(aC,(aD,((O.2.2.2.2.1.1,(O.2.2.2.2.1.2.1,(O.2.2.2.2.1.2.2.1,(O.2.2.2.2.1.2.2.2.1,())))),(O.2.2.2.2.2.1,())))))) (Z.1,(aE,(aF,(aG,(aH,(aI,(aJ,()))))))) (aK,(aL,(aM,()))) (aN.1,(aN.2.1,(aN.2.2.1,(aN.2.2.2,())))) aA).bind fun aP=>some (.inl (aP.1,aP.2.1,aP.2.2.1,aP.2.2.2.1,aP.2.2.2.2.1,aP.2.2.2.2.2.1,aP.2.2.2.2.2.2.1,aP.2.2.2.2.2.2.2.1,aP.2.2.2.2.2.2.2.2.1,aP.2.2.2.2.2.2.2.2.2.1,aP.2.2.2.2.2.2.2.2.2.2.1,aP.2.2.2.2.2.2.2.2.2.2.2)) else some (.inr (.inl (aB,aC,aD,aE,aF,aG,aH,aI,aJ)))
def wQ (O:FB) (Z:rG) (aA:Bool):Option (Int×Int×Int×(List Int)×(List UInt8)×(List UInt8)×(List (List UInt8))×(List (List UInt8))×Int×(List pR)):=(vM O (3:Int) ([123]:List UInt8)).bind fun aB=>rZ (pU (tU O Z aA) (aB.1,aB.2.1,aB.2.2.1,Z.2.1,Z.2.2.1,Z.2.2.2.1,Z.2.2.2.2.1,Z.2.2.2.2.2.1,Z.2.2.2.2.2.2.1,false,false,false)) fun(aC,aD,aE,aF,aG,aH,aI,aJ,aK)=>some ((aC,aD,aE,O.2.2.2.2.2.1,aF,aG,aH,aI,aJ,aK))
attribute [irreducible] wQ
end
noncomputable section
def zG (O:((List UInt8)×(Int×Unit))) (Z:rJ) (aA:Int) (aB:Int) (aC:rC) (aD:((List Int)×(Int×Unit))) (aE:(List UInt8)) (aF:(List UInt8)) (aG:(List UInt8)) (aH:(List (List UInt8))) (aI:(Int×((List pR)×Unit))) (aJ:Bool) (aK:(List ((List UInt8)×Bool))) (aL:(List (List UInt8))) (aM:(List ((List UInt8)×Bool))):Option (Int×Int×(List UInt8)×Int×Int×Int×Int×Int):=qZ (σ:=(Int×Int)) (if (rN .str .bool aM Z.2.1)=true then rE (tM O Z aA aB aC aD (9:Int) aK) fun aN=>some ((aN.1,aN.2)) else some ((aA,aB)) ) fun(aO,aP)=>(s7 (O.1,(O.2.1,())) (Z.1,(Z.2.1,(Z.2.2.1,(Z.2.2.2.1,())))) aO aP (aC.1,(aC.2.1,(aC.2.2.1,(aC.2.2.2.1,())))) (aD.1,(aD.2.1,())) aK).bind fun aQ=>some ((aQ.1,aQ.2.1,aQ.2.2.1,aQ.2.2.2.1,aQ.2.2.2.2.1,aO,aP,aQ.2.2.2.2.2))
section
variable (O:((List UInt8)×(Int×Unit))) (Z:rJ) (aA:Int) (aB:Int) (aC:rC) (aD:((List Int)×(Int×Unit))) (aE:Nat) (aF:Nat) (aG:(List UInt8)) (aH:(List UInt8)) (aI:(List UInt8)) (aJ:(List (List UInt8))) (aK:Nat) (aL:(Int×((List pR)×Unit))) (aM:Bool) (aN:Nat) (aO:Nat) (aP:(List ((List UInt8)×Bool))) (aQ:(List (List UInt8))) (aR:Nat) (aS:(List ((List UInt8)×Bool)))
abbrev a4Q:List pA:=[(.val .ref (some (0,0)),none),(.val .ref (some (3,0)),none)]
abbrev a4R:List p9:=[.cells rH (O,(Z,(aA,(aB,(aC,((some 6),aD)))))) [(11,1),(13,2)],.grow 55 7 aE,.grow 3 1 aF,.cells sJ ((aG,(aH,(aI,(aJ,((some (7,aK)),aL))))),(aM,((some 8),()))) [(3,4),(6,5)],.grow 9 1 aN,.grow 149 2 aO,.map .str .bool aP,.row 9 .str aQ aR,.map .str .bool aS]
@[go_sem] def a4S:pF:=⟨[aE=(aC.2.2.2.1.length),aF=(aD.1.length),aN=(aJ.length),aO=(aL.2.1.length),aK=aR,((zG O Z aA aB aC aD aG aH aI aJ aL aM aP aQ aS)).isSome=true],[],[.cells rH ((O.1,((val (zG O Z aA aB aC aD aG aH aI aJ aL aM aP aQ aS)).1,())),(((val (zG O Z aA aB aC aD aG aH aI aJ aL aM aP aQ aS)).2.1,((val (zG O Z aA aB aC aD aG aH aI aJ aL aM aP aQ aS)).2.2.1,((val (zG O Z aA aB aC aD aG aH aI aJ aL aM aP aQ aS)).2.2.2.1,((val (zG O Z aA aB aC aD aG aH aI aJ aL aM aP aQ aS)).2.2.2.2.1,())))),((val (zG O Z aA aB aC aD aG aH aI aJ aL aM aP aQ aS)).2.2.2.2.2.1,((val (zG O Z aA aB aC aD aG aH aI aJ aL aM aP aQ aS)).2.2.2.2.2.2.1,((aC.1,(aC.2.1,(aC.2.2.1,(aC.2.2.2.1,())))),((some 6),(aD.1,((val (zG O Z aA aB aC aD aG aH aI aJ aL aM aP aQ aS)).2.2.2.2.2.2.2,())))))))) [(11,1),(13,2)],.grow 55 7 (aC.2.2.2.1.length),.grow 3 1 (aD.1.length),.cells sJ ((aG,(aH,(aI,(aJ,((some (7,(aQ.length))),(aL.1,(aL.2.1,()))))))),(aM,((some 8),()))) [(3,4),(6,5)],.grow 9 1 (aJ.length),.grow 149 2 (aL.2.1.length),.map .str .bool aP,.row 9 .str aQ (aQ.length),.map .str .bool (sG .str .bool Z.2.1 true aS)]⟩
def aDc:List pA→List p9→Option pF:=qP (V:=(((List UInt8)×(Int×Unit))×rJ×Int×Int×rC×((List Int)×(Int×Unit))×Nat×Nat×(List UInt8)×(List UInt8)×(List UInt8)×(List (List UInt8))×Nat×(Int×((List pR)×Unit))×Bool×Nat×Nat×(List ((List UInt8)×Bool))×(List (List UInt8))×Nat×(List ((List UInt8)×Bool)))) (fun x=>a4Q) (fun x=>a4R x.1 x.2.1 x.2.2.1 x.2.2.2.1 x.2.2.2.2.1 x.2.2.2.2.2.1 x.2.2.2.2.2.2.1 x.2.2.2.2.2.2.2.1 x.2.2.2.2.2.2.2.2.1 x.2.2.2.2.2.2.2.2.2.1 x.2.2.2.2.2.2.2.2.2.2.1 x.2.2.2.2.2.2.2.2.2.2.2.1 x.2.2.2.2.2.2.2.2.2.2.2.2.1 x.2.2.2.2.2.2.2.2.2.2.2.2.2.1 x.2.2.2.2.2.2.2.2.2.2.2.2.2.2.1 x.2.2.2.2.2.2.2.2.2.2.2.2.2.2.2.1 x.2.2.2.2.2.2.2.2.2.2.2.2.2.2.2.2.1 x.2.2.2.2.2.2.2.2.2.2.2.2.2.2.2.2.2.1 x.2.2.2.2.2.2.2.2.2.2.2.2.2.2.2.2.2.2.1 x.2.2.2.2.2.2.2.2.2.2.2.2.2.2.2.2.2.2.2.1 x.2.2.2.2.2.2.2.2.2.2.2.2.2.2.2.2.2.2.2.2) fun x=>a4S x.1 x.2.1 x.2.2.1 x.2.2.2.1 x.2.2.2.2.1 x.2.2.2.2.2.1 x.2.2.2.2.2.2.1 x.2.2.2.2.2.2.2.1 x.2.2.2.2.2.2.2.2.1 x.2.2.2.2.2.2.2.2.2.1 x.2.2.2.2.2.2.2.2.2.2.1 x.2.2.2.2.2.2.2.2.2.2.2.1 x.2.2.2.2.2.2.2.2.2.2.2.2.1 x.2.2.2.2.2.2.2.2.2.2.2.2.2.1 x.2.2.2.2.2.2.2.2.2.2.2.2.2.2.1 x.2.2.2.2.2.2.2.2.2.2.2.2.2.2.2.1 x.2.2.2.2.2.2.2.2.2.2.2.2.2.2.2.2.1 x.2.2.2.2.2.2.2.2.2.2.2.2.2.2.2.2.2.1 x.2.2.2.2.2.2.2.2.2.2.2.2.2.2.2.2.2.2.1 x.2.2.2.2.2.2.2.2.2.2.2.2.2.2.2.2.2.2.2.1 x.2.2.2.2.2.2.2.2.2.2.2.2.2.2.2.2.2.2.2.2
@[go_sem] theorem aPV:aDc (no_index a4Q) (no_index (a4R O Z aA aB aC aD aE aF aG aH aI aJ aK aL aM aN aO aP aQ aR aS))=some (a4S O Z aA aB aC aD aE aF aG aH aI aJ aK aL aM aN aO aP aQ aR aS):=qR (fun⟨a0,a1,a2,a3,a4,a5,a6,a7,a8,a9,a10,a11,a12,a13,a14,a15,a16,a17,a18,a19,a20⟩ ⟨b0,b1,b2,b3,b4,b5,b6,b7,b8,b9,b10,b11,b12,b13,b14,rV,b16,b17,b18,b19,b20⟩ h1 h2=>by cases h1;cases h2;rfl) (O,Z,aA,aB,aC,aD,aE,aF,aG,aH,aI,aJ,aK,aL,aM,aN,aO,aP,aQ,aR,aS)
end
@[go_sem] abbrev JI:Nat×pY:=(256,⟨[.p rH [11,13],.p sJ [3,6]],aDc,[(0,12,.m),(3,4,.r),(3,8,.m)],[1,2,3,4,5,6,7],none⟩)
theorem aDd:qE Tryz.prog [] (qC [zF,xX]):=⟨trivial,pK EB (pK DE qT),qH⟩
theorem UG:qE Tryz.prog [E9,rR,zE,GW,xF,BQ] (qC [zF,xX]):=⟨⟨GV,⟨rU,⟨AX,⟨L6,⟨yJ,⟨D6,trivial⟩⟩⟩⟩⟩⟩,aDd.Γ,qH⟩
theorem a4T:qI Tryz.prog JI:=by
 refine qS aDd Tryz.func256 (c:=_) rfl (N:=27) (by kernel_rfl) (ts:=[]) rfl (fun _ _=>rfl) ?_;intro⟨O,Z,aA,aB,aC,aD,aE,aF,aG,aH,aI,aJ,aK,aL,aM,aN,aO,aP,aQ,aR,aS⟩ hs hrow;dsimp only[a4Q,a4R,a4S,qK,pM,pV,qG,qO,Nat.reduceAdd] at hs hrow⊢;obtain⟨rfl,rfl,rfl,rfl,rfl,hz⟩:=hs;obtain⟨rfl,_⟩:=hrow;obtain⟨z0,hC0⟩:=aQn.1 hz
 try rw[r8 hC0]
 clear hz;unfold zG at hC0;refine pW ?_;refine xU UG ?_;obtain⟨y1,hC1,hC0⟩:=pD hC0;refine CD (fun s=>s=(fun x=>⟨[(0,(.val .ref (some (0,0)),none)),(1,(.val .ref (some (3,0)),none))],[(0,.cells rH ((O.1,(O.2.1,())),((Z.1,(Z.2.1,(Z.2.2.1,(Z.2.2.2.1,())))),(x.1,(x.2,((aC.1,(aC.2.1,(aC.2.2.1,(aC.2.2.2.1,())))),((some 6),(aD.1,(aD.2.1,())))))))) [(11,1),(13,2)]),(1,.grow 55 7 (aC.2.2.2.1.length)),(2,.grow 3 1 (aD.1.length)),(3,.cells sJ ((aG,(aH,(aI,(aJ,((some (7,(aQ.length))),(aL.1,(aL.2.1,()))))))),(aM,((some 8),()))) [(3,4),(6,5)]),(4,.grow 9 1 (aJ.length)),(5,.grow 149 2 (aL.2.1.length)),(6,.map .str .bool aP),(7,.row 9 .str aQ (aQ.length)),(8,.map .str .bool aS)],9,27,9⟩) y1) ?_ ?_
 ·refine pP hC1 (fun hC1 hc1=> ?_) (fun hC1 hc1=> ?_)
  ·obtain⟨aT,hw_38,hC1⟩:=vI hC1
   try simp only[go_sem] at hw_38
   refine qU UG ?_ (hp:=by exact⟨by first|rfl|trivial,by first|rfl|trivial,by first|rfl|trivial,by first|rfl|trivial,(by first|rfl|trivial)⟩) (h:=by simp only[go_sem,hw_38];rfl)
   cases hC1;exact uP ⟨⟨[0,1],[(0,0),(1,1),(2,2),(3,3),(4,4),(5,5),(6,6),(7,7),(8,8)]⟩,by rfl⟩
  ·refine qM ?_;cases hC1;exact uP ⟨⟨[0,1],[(0,0),(1,1),(2,2),(3,3),(4,4),(5,5),(6,6),(7,7),(8,8)]⟩,by rfl⟩
 ·rintro _ rfl;obtain⟨aU,aV⟩:=y1;dsimp only at hC0⊢;refine pN ?_;refine xU UG ?_;obtain⟨aW,hv1,hw1,hC0⟩:=pT hC0
  try simp only[go_sem] at hw1
  refine qU UG ?_ (hp:=by exact⟨by first|rfl|trivial,by first|rfl|trivial,by first|rfl|trivial,by first|rfl|trivial,by first|rfl|trivial,(pS hv1)⟩) (h:=by simp only[go_sem,hw1];rfl)
  cases hC0;exact⟨[(0,0),(1,1),(2,2),(3,3),(4,4),(5,5),(6,6),(7,7),(8,8)],by rfl,by rfl,by rfl⟩
attribute [irreducible] zG
def zH (O:((List UInt8)×(Int×Unit))) (Z:rJ) (aA:Int) (aB:Int) (aC:rC) (aD:((List Int)×(Int×Unit))) (aE:Int) (aF:Bool) (aG:(List ((List UInt8)×Bool))):Option (Int×Int×(List UInt8)×Int×Int×Int×Int×Int):=if ((!decide (Z.1=aE))||(!true))=true then rE (tM O Z aA aB aC aD (3:Int) aG) fun aH=>(s7 (O.1,(O.2.1,())) (Z.1,(Z.2.1,(Z.2.2.1,(Z.2.2.2.1,())))) aH.1 aH.2 (aC.1,(aC.2.1,(aC.2.2.1,(aC.2.2.2.1,())))) (aD.1,(aD.2.1,())) aG).bind fun aI=>some ((aI.1,aI.2.1,aI.2.2.1,aI.2.2.2.1,aI.2.2.2.2.1,aH.1,aH.2,aI.2.2.2.2.2)) else if false=true then rE (tM O Z aA aB aC aD (9:Int) aG) fun aJ=>(s7 (O.1,(O.2.1,())) (Z.1,(Z.2.1,(Z.2.2.1,(Z.2.2.2.1,())))) aJ.1 aJ.2 (aC.1,(aC.2.1,(aC.2.2.1,(aC.2.2.2.1,())))) (aD.1,(aD.2.1,())) aG).bind fun aK=>some ((aK.1,aK.2.1,aK.2.2.1,aK.2.2.2.1,aK.2.2.2.2.1,aJ.1,aJ.2,aK.2.2.2.2.2)) else if aF=true then rE (tM O Z aA aB aC aD (6:Int) aG) fun aL=>(s7 (O.1,(O.2.1,())) (Z.1,(Z.2.1,(Z.2.2.1,(Z.2.2.2.1,())))) aL.1 aL.2 (aC.1,(aC.2.1,(aC.2.2.1,(aC.2.2.2.1,())))) (aD.1,(aD.2.1,())) aG).bind fun aM=>some ((aM.1,aM.2.1,aM.2.2.1,aM.2.2.2.1,aM.2.2.2.2.1,aL.1,aL.2,aM.2.2.2.2.2)) else (s7 O Z aA aB aC aD aG).bind fun aN=>some ((aN.1,aN.2.1,aN.2.2.1,aN.2.2.2.1,aN.2.2.2.2.1,aA,aB,aN.2.2.2.2.2))
section
variable (O:Int) (Z:Bool) (aA:((List UInt8)×(Int×Unit))) (aB:rJ) (aC:Int) (aD:Int) (aE:rC) (aF:((List Int)×(Int×Unit))) (aG:Nat) (aH:Nat) (aI:(List ((List UInt8)×Bool)))
abbrev a4U:List pA:=[(.val .ref (some (0,0)),none),(.val (.int .i64) O,none),(.val .clo (some (278,[])),none),(.val .clo (some (125,[])),none),(.val .bool Z,none)]
abbrev a4V:List p9:=[.cells rH (aA,(aB,(aC,(aD,(aE,((some 3),aF)))))) [(11,1),(13,2)],.grow 55 7 aG,.grow 3 1 aH,.map .str .bool aI]
@[go_sem] def a4W:pF:=⟨[aG=(aE.2.2.2.1.length),aH=(aF.1.length),((zH aA aB aC aD aE aF O Z aI)).isSome=true],[(.val .str aB.2.1,none)],[.cells rH ((aA.1,((val (zH aA aB aC aD aE aF O Z aI)).1,())),(((val (zH aA aB aC aD aE aF O Z aI)).2.1,((val (zH aA aB aC aD aE aF O Z aI)).2.2.1,((val (zH aA aB aC aD aE aF O Z aI)).2.2.2.1,((val (zH aA aB aC aD aE aF O Z aI)).2.2.2.2.1,())))),((val (zH aA aB aC aD aE aF O Z aI)).2.2.2.2.2.1,((val (zH aA aB aC aD aE aF O Z aI)).2.2.2.2.2.2.1,((aE.1,(aE.2.1,(aE.2.2.1,(aE.2.2.2.1,())))),((some 3),(aF.1,((val (zH aA aB aC aD aE aF O Z aI)).2.2.2.2.2.2.2,())))))))) [(11,1),(13,2)],.grow 55 7 (aE.2.2.2.1.length),.grow 3 1 (aF.1.length),.map .str .bool aI]⟩
def aDe:List pA→List p9→Option pF:=qP (V:=(Int×Bool×((List UInt8)×(Int×Unit))×rJ×Int×Int×rC×((List Int)×(Int×Unit))×Nat×Nat×(List ((List UInt8)×Bool)))) (fun x=>a4U x.1 x.2.1) (fun x=>a4V x.2.2.1 x.2.2.2.1 x.2.2.2.2.1 x.2.2.2.2.2.1 x.2.2.2.2.2.2.1 x.2.2.2.2.2.2.2.1 x.2.2.2.2.2.2.2.2.1 x.2.2.2.2.2.2.2.2.2.1 x.2.2.2.2.2.2.2.2.2.2) fun x=>a4W x.1 x.2.1 x.2.2.1 x.2.2.2.1 x.2.2.2.2.1 x.2.2.2.2.2.1 x.2.2.2.2.2.2.1 x.2.2.2.2.2.2.2.1 x.2.2.2.2.2.2.2.2.1 x.2.2.2.2.2.2.2.2.2.1 x.2.2.2.2.2.2.2.2.2.2
@[go_sem] theorem aPW:aDe (no_index (a4U O Z)) (no_index (a4V aA aB aC aD aE aF aG aH aI))=some (a4W O Z aA aB aC aD aE aF aG aH aI):=qR (fun⟨a0,a1,a2,a3,a4,a5,a6,a7,a8,a9,a10⟩ ⟨b0,b1,b2,b3,b4,b5,b6,b7,b8,b9,b10⟩ h1 h2=>by cases h1;cases h2;rfl) (O,Z,aA,aB,aC,aD,aE,aF,aG,aH,aI)
end
@[go_sem] abbrev aDf:Nat×pY:=(124,⟨[.p rH [11,13],.v,.v,.v,.v],aDe,[(0,12,.m)],[1,2,3],none⟩)
theorem yK:qE Tryz.prog [vL,rR,zE,xF] (qC [aBF,zF,xX,TK]):=⟨⟨wE,⟨rU,⟨AX,⟨yJ,trivial⟩⟩⟩⟩,pK aJS (pK EB (pK DE (pK a0F qT))),qH⟩
theorem aKs:qI Tryz.prog aDf:=by
 refine qS yK Tryz.func124 (c:=_) rfl (N:=46) (by kernel_rfl) (ts:=[(10,none)]) rfl (fun _ _=>rfl) ?_;intro⟨O,Z,aA,aB,aC,aD,aE,aF,aG,aH,aI⟩ hs hrow;dsimp only[a4U,a4V,a4W,qK,pM,pV,qG,qO,Nat.reduceAdd] at hs hrow⊢;obtain⟨rfl,rfl,hz⟩:=hs;obtain⟨z0,hC0⟩:=aQn.1 hz
 try rw[r8 hC0]
 clear hz;unfold zH at hC0;refine p8 yK ?_;refine p8 yK ?_;refine pW (rI ?_);refine p8 yK ?_ (hp:=by exact⟨fun hh=>hh,fun hh=>hh,fun hh=>hh,(fun hh=>uA hh)⟩);refine pP hC0 (fun hC0 hc1=> ?_) (fun hC0 hc1=> ?_)
 ·obtain⟨aJ,hw_27,hC0⟩:=vI hC0
  try simp only[go_sem] at hw_27
  refine qU yK ?_ (hp:=by exact⟨by first|rfl|trivial,by first|rfl|trivial,by first|rfl|trivial,by first|rfl|trivial,(by first|rfl|trivial)⟩) (h:=by simp only[go_sem,hw_27];rfl)
  refine qV (pN ?_);obtain⟨aK,hv1,hw1,hC0⟩:=pT hC0
  try simp only[go_sem] at hw1
  refine p8 yK ?_ (hp:=by exact⟨by first|rfl|trivial,by first|rfl|trivial,by first|rfl|trivial,by first|rfl|trivial,by first|rfl|trivial,(pS hv1)⟩) (h:=by simp only[go_sem,hw1];rfl)
  refine p8 yK ?_;refine pI ?_;cases hC0;exact⟨[(0,0),(1,1),(2,2),(3,3)],by rfl,by rfl,by rfl⟩
 ·refine p8 yK ?_;refine pP hC0 (fun hC0 hc2=> ?_) (fun hC0 hc2=> ?_)
  ·obtain⟨aL,hw_29,hC0⟩:=vI hC0
   try simp only[go_sem] at hw_29
   refine qU yK ?_ (hp:=by exact⟨by first|rfl|trivial,by first|rfl|trivial,by first|rfl|trivial,by first|rfl|trivial,(by first|rfl|trivial)⟩) (h:=by simp only[go_sem,hw_29];rfl)
   refine qV (pN ?_);obtain⟨aM,hv2,hw2,hC0⟩:=pT hC0
   try simp only[go_sem] at hw2
   refine p8 yK ?_ (hp:=by exact⟨by first|rfl|trivial,by first|rfl|trivial,by first|rfl|trivial,by first|rfl|trivial,by first|rfl|trivial,(pS hv2)⟩) (h:=by simp only[go_sem,hw2];rfl)
   refine p8 yK ?_;refine pI ?_;cases hC0;exact⟨[(0,0),(1,1),(2,2),(3,3)],by rfl,by rfl,by rfl⟩
  ·refine p8 yK ?_;refine pP hC0 (fun hC0 hc3=> ?_) (fun hC0 hc3=> ?_)
   ·obtain⟨aN,hw_31,hC0⟩:=vI hC0
    try simp only[go_sem] at hw_31
    refine qU yK ?_ (hp:=by exact⟨by first|rfl|trivial,by first|rfl|trivial,by first|rfl|trivial,by first|rfl|trivial,(by first|rfl|trivial)⟩) (h:=by simp only[go_sem,hw_31];rfl)
    refine qV (pN ?_);obtain⟨aO,hv3,hw3,hC0⟩:=pT hC0
    try simp only[go_sem] at hw3
    refine p8 yK ?_ (hp:=by exact⟨by first|rfl|trivial,by first|rfl|trivial,by first|rfl|trivial,by first|rfl|trivial,by first|rfl|trivial,(pS hv3)⟩) (h:=by simp only[go_sem,hw3];rfl)
    refine p8 yK ?_;refine pI ?_;cases hC0;exact⟨[(0,0),(1,1),(2,2),(3,3)],by rfl,by rfl,by rfl⟩
   ·refine qM (qV (pN ?_));obtain⟨aP,hv4,hw4,hC0⟩:=pT hC0
    try simp only[go_sem] at hw4
    refine p8 yK ?_ (hp:=by exact⟨by first|rfl|trivial,by first|rfl|trivial,by first|rfl|trivial,by first|rfl|trivial,by first|rfl|trivial,(pS hv4)⟩) (h:=by simp only[go_sem,hw4];rfl)
    refine p8 yK ?_;refine pI ?_;cases hC0;exact⟨[(0,0),(1,1),(2,2),(3,3)],by rfl,by rfl,by rfl⟩
attribute [irreducible] zH
end
noncomputable section
def zI (O:((List UInt8)×(Int×Unit))) (Z:rJ) (aA:Int) (aB:Int) (aC:rC) (aD:((List Int)×(Int×Unit))) (aE:Int) (aF:Bool) (aG:(List ((List UInt8)×Bool))):Option (Int×Int×(List UInt8)×Int×Int×Int×Int×Int):=if (((!decide (Z.1=aE))==false)=true→((FI Z.2.1)).isSome=true) then if ((!decide (Z.1=aE))||(!(val (FI Z.2.1))))=true then rE (tM O Z aA aB aC aD (3:Int) aG) fun aH=>(s7 (O.1,(O.2.1,())) (Z.1,(Z.2.1,(Z.2.2.1,(Z.2.2.2.1,())))) aH.1 aH.2 (aC.1,(aC.2.1,(aC.2.2.1,(aC.2.2.2.1,())))) (aD.1,(aD.2.1,())) aG).bind fun aI=>some ((aI.1,aI.2.1,aI.2.2.1,aI.2.2.2.1,aI.2.2.2.2.1,aH.1,aH.2,aI.2.2.2.2.2)) else if false=true then rE (tM O Z aA aB aC aD (9:Int) aG) fun aJ=>(s7 (O.1,(O.2.1,())) (Z.1,(Z.2.1,(Z.2.2.1,(Z.2.2.2.1,())))) aJ.1 aJ.2 (aC.1,(aC.2.1,(aC.2.2.1,(aC.2.2.2.1,())))) (aD.1,(aD.2.1,())) aG).bind fun aK=>some ((aK.1,aK.2.1,aK.2.2.1,aK.2.2.2.1,aK.2.2.2.2.1,aJ.1,aJ.2,aK.2.2.2.2.2)) else if aF=true then rE (tM O Z aA aB aC aD (6:Int) aG) fun aL=>(s7 (O.1,(O.2.1,())) (Z.1,(Z.2.1,(Z.2.2.1,(Z.2.2.2.1,())))) aL.1 aL.2 (aC.1,(aC.2.1,(aC.2.2.1,(aC.2.2.2.1,())))) (aD.1,(aD.2.1,())) aG).bind fun aM=>some ((aM.1,aM.2.1,aM.2.2.1,aM.2.2.2.1,aM.2.2.2.2.1,aL.1,aL.2,aM.2.2.2.2.2)) else (s7 O Z aA aB aC aD aG).bind fun aN=>some ((aN.1,aN.2.1,aN.2.2.1,aN.2.2.2.1,aN.2.2.2.2.1,aA,aB,aN.2.2.2.2.2)) else none
section
variable (O:Int) (Z:Bool) (aA:((List UInt8)×(Int×Unit))) (aB:rJ) (aC:Int) (aD:Int) (aE:rC) (aF:((List Int)×(Int×Unit))) (aG:Nat) (aH:Nat) (aI:(List ((List UInt8)×Bool)))
abbrev a4X:List pA:=[(.val .ref (some (0,0)),none),(.val (.int .i64) O,none),(.val .clo (some (106,[])),none),(.val .clo (some (125,[])),none),(.val .bool Z,none)]
abbrev a4Y:List p9:=[.cells rH (aA,(aB,(aC,(aD,(aE,((some 3),aF)))))) [(11,1),(13,2)],.grow 55 7 aG,.grow 3 1 aH,.map .str .bool aI]
@[go_sem] def a4Z:pF:=⟨[aG=(aE.2.2.2.1.length),aH=(aF.1.length),((zI aA aB aC aD aE aF O Z aI)).isSome=true],[(.val .str aB.2.1,none)],[.cells rH ((aA.1,((val (zI aA aB aC aD aE aF O Z aI)).1,())),(((val (zI aA aB aC aD aE aF O Z aI)).2.1,((val (zI aA aB aC aD aE aF O Z aI)).2.2.1,((val (zI aA aB aC aD aE aF O Z aI)).2.2.2.1,((val (zI aA aB aC aD aE aF O Z aI)).2.2.2.2.1,())))),((val (zI aA aB aC aD aE aF O Z aI)).2.2.2.2.2.1,((val (zI aA aB aC aD aE aF O Z aI)).2.2.2.2.2.2.1,((aE.1,(aE.2.1,(aE.2.2.1,(aE.2.2.2.1,())))),((some 3),(aF.1,((val (zI aA aB aC aD aE aF O Z aI)).2.2.2.2.2.2.2,())))))))) [(11,1),(13,2)],.grow 55 7 (aE.2.2.2.1.length),.grow 3 1 (aF.1.length),.map .str .bool aI]⟩
def aDg:List pA→List p9→Option pF:=qP (V:=(Int×Bool×((List UInt8)×(Int×Unit))×rJ×Int×Int×rC×((List Int)×(Int×Unit))×Nat×Nat×(List ((List UInt8)×Bool)))) (fun x=>a4X x.1 x.2.1) (fun x=>a4Y x.2.2.1 x.2.2.2.1 x.2.2.2.2.1 x.2.2.2.2.2.1 x.2.2.2.2.2.2.1 x.2.2.2.2.2.2.2.1 x.2.2.2.2.2.2.2.2.1 x.2.2.2.2.2.2.2.2.2.1 x.2.2.2.2.2.2.2.2.2.2) fun x=>a4Z x.1 x.2.1 x.2.2.1 x.2.2.2.1 x.2.2.2.2.1 x.2.2.2.2.2.1 x.2.2.2.2.2.2.1 x.2.2.2.2.2.2.2.1 x.2.2.2.2.2.2.2.2.1 x.2.2.2.2.2.2.2.2.2.1 x.2.2.2.2.2.2.2.2.2.2
@[go_sem] theorem aPX:aDg (no_index (a4X O Z)) (no_index (a4Y aA aB aC aD aE aF aG aH aI))=some (a4Z O Z aA aB aC aD aE aF aG aH aI):=qR (fun⟨a0,a1,a2,a3,a4,a5,a6,a7,a8,a9,a10⟩ ⟨b0,b1,b2,b3,b4,b5,b6,b7,b8,b9,b10⟩ h1 h2=>by cases h1;cases h2;rfl) (O,Z,aA,aB,aC,aD,aE,aF,aG,aH,aI)
end
@[go_sem] abbrev aDh:Nat×pY:=(124,⟨[.p rH [11,13],.v,.v,.v,.v],aDg,[(0,12,.m)],[1,2,3],none⟩)
theorem yM:qE Tryz.prog [vL,rR,zE,xF] (qC [a0r,zF,xX,TK]):=⟨⟨wE,⟨rU,⟨AX,⟨yJ,trivial⟩⟩⟩⟩,pK aAO (pK EB (pK DE (pK a0F qT))),qH⟩
theorem aKt:qI Tryz.prog aDh:=by
 refine qS yM Tryz.func124 (c:=_) rfl (N:=46) (by kernel_rfl) (ts:=[(10,none)]) rfl (fun _ _=>rfl) ?_;intro⟨O,Z,aA,aB,aC,aD,aE,aF,aG,aH,aI⟩ hs hrow;dsimp only[a4X,a4Y,a4Z,qK,pM,pV,qG,qO,Nat.reduceAdd] at hs hrow⊢;obtain⟨rfl,rfl,hz⟩:=hs;obtain⟨z0,hC0⟩:=aQn.1 hz
 try rw[r8 hC0]
 clear hz;unfold zI at hC0;refine p8 yM ?_;refine p8 yM ?_;refine pW (rI ?_);obtain⟨hg1,hC0⟩:=pG hC0;refine p8 yM ?_ (hp:=by exact⟨fun hh=>hh,fun hh=>hh,hg1,fun hh=>hh,(fun hh=>uA hh)⟩);refine pP hC0 (fun hC0 hc1=> ?_) (fun hC0 hc1=> ?_)
 ·obtain⟨aJ,hw_27,hC0⟩:=vI hC0
  try simp only[go_sem] at hw_27
  refine qU yM ?_ (hp:=by exact⟨by first|rfl|trivial,by first|rfl|trivial,by first|rfl|trivial,by first|rfl|trivial,(by first|rfl|trivial)⟩) (h:=by simp only[go_sem,hw_27];rfl)
  refine qV (pN ?_);obtain⟨aK,hv2,hw2,hC0⟩:=pT hC0
  try simp only[go_sem] at hw2
  refine p8 yM ?_ (hp:=by exact⟨by first|rfl|trivial,by first|rfl|trivial,by first|rfl|trivial,by first|rfl|trivial,by first|rfl|trivial,(pS hv2)⟩) (h:=by simp only[go_sem,hw2];rfl)
  refine p8 yM ?_;refine pI ?_;cases hC0;exact⟨[(0,0),(1,1),(2,2),(3,3)],by rfl,by rfl,by rfl⟩
 ·refine p8 yM ?_;refine pP hC0 (fun hC0 hc2=> ?_) (fun hC0 hc2=> ?_)
  ·obtain⟨aL,hw_29,hC0⟩:=vI hC0
   try simp only[go_sem] at hw_29
   refine qU yM ?_ (hp:=by exact⟨by first|rfl|trivial,by first|rfl|trivial,by first|rfl|trivial,by first|rfl|trivial,(by first|rfl|trivial)⟩) (h:=by simp only[go_sem,hw_29];rfl)
   refine qV (pN ?_);obtain⟨aM,hv3,hw3,hC0⟩:=pT hC0
   try simp only[go_sem] at hw3
   refine p8 yM ?_ (hp:=by exact⟨by first|rfl|trivial,by first|rfl|trivial,by first|rfl|trivial,by first|rfl|trivial,by first|rfl|trivial,(pS hv3)⟩) (h:=by simp only[go_sem,hw3];rfl)
   refine p8 yM ?_;refine pI ?_;cases hC0;exact⟨[(0,0),(1,1),(2,2),(3,3)],by rfl,by rfl,by rfl⟩
  ·refine p8 yM ?_;refine pP hC0 (fun hC0 hc3=> ?_) (fun hC0 hc3=> ?_)
   ·obtain⟨aN,hw_31,hC0⟩:=vI hC0
    try simp only[go_sem] at hw_31
    refine qU yM ?_ (hp:=by exact⟨by first|rfl|trivial,by first|rfl|trivial,by first|rfl|trivial,by first|rfl|trivial,(by first|rfl|trivial)⟩) (h:=by simp only[go_sem,hw_31];rfl)
    refine qV (pN ?_);obtain⟨aO,hv4,hw4,hC0⟩:=pT hC0
    try simp only[go_sem] at hw4
    refine p8 yM ?_ (hp:=by exact⟨by first|rfl|trivial,by first|rfl|trivial,by first|rfl|trivial,by first|rfl|trivial,by first|rfl|trivial,(pS hv4)⟩) (h:=by simp only[go_sem,hw4];rfl)
    refine p8 yM ?_;refine pI ?_;cases hC0;exact⟨[(0,0),(1,1),(2,2),(3,3)],by rfl,by rfl,by rfl⟩
   ·refine qM (qV (pN ?_));obtain⟨aP,hv5,hw5,hC0⟩:=pT hC0
    try simp only[go_sem] at hw5
    refine p8 yM ?_ (hp:=by exact⟨by first|rfl|trivial,by first|rfl|trivial,by first|rfl|trivial,by first|rfl|trivial,by first|rfl|trivial,(pS hv5)⟩) (h:=by simp only[go_sem,hw5];rfl)
    refine p8 yM ?_;refine pI ?_;cases hC0;exact⟨[(0,0),(1,1),(2,2),(3,3)],by rfl,by rfl,by rfl⟩
attribute [irreducible] zI
def zJ (O:((List UInt8)×(Int×Unit))) (Z:rJ) (aA:Int) (aB:Int) (aC:rC) (aD:((List Int)×(Int×Unit))) (aE:Int) (aF:Bool) (aG:(List ((List UInt8)×Bool))):Option (Int×Int×(List UInt8)×Int×Int×Int×Int×Int):=if (((!decide (Z.1=aE))==false)=true→((H5 Z.2.1)).isSome=true) then if ((!decide (Z.1=aE))||(!(val (H5 Z.2.1))))=true then rE (tM O Z aA aB aC aD (3:Int) aG) fun aH=>(s7 (O.1,(O.2.1,())) (Z.1,(Z.2.1,(Z.2.2.1,(Z.2.2.2.1,())))) aH.1 aH.2 (aC.1,(aC.2.1,(aC.2.2.1,(aC.2.2.2.1,())))) (aD.1,(aD.2.1,())) aG).bind fun aI=>some ((aI.1,aI.2.1,aI.2.2.1,aI.2.2.2.1,aI.2.2.2.2.1,aH.1,aH.2,aI.2.2.2.2.2)) else if false=true then rE (tM O Z aA aB aC aD (9:Int) aG) fun aJ=>(s7 (O.1,(O.2.1,())) (Z.1,(Z.2.1,(Z.2.2.1,(Z.2.2.2.1,())))) aJ.1 aJ.2 (aC.1,(aC.2.1,(aC.2.2.1,(aC.2.2.2.1,())))) (aD.1,(aD.2.1,())) aG).bind fun aK=>some ((aK.1,aK.2.1,aK.2.2.1,aK.2.2.2.1,aK.2.2.2.2.1,aJ.1,aJ.2,aK.2.2.2.2.2)) else if aF=true then rE (tM O Z aA aB aC aD (6:Int) aG) fun aL=>(s7 (O.1,(O.2.1,())) (Z.1,(Z.2.1,(Z.2.2.1,(Z.2.2.2.1,())))) aL.1 aL.2 (aC.1,(aC.2.1,(aC.2.2.1,(aC.2.2.2.1,())))) (aD.1,(aD.2.1,())) aG).bind fun aM=>some ((aM.1,aM.2.1,aM.2.2.1,aM.2.2.2.1,aM.2.2.2.2.1,aL.1,aL.2,aM.2.2.2.2.2)) else (s7 O Z aA aB aC aD aG).bind fun aN=>some ((aN.1,aN.2.1,aN.2.2.1,aN.2.2.2.1,aN.2.2.2.2.1,aA,aB,aN.2.2.2.2.2)) else none
section
variable (O:Int) (Z:Bool) (aA:((List UInt8)×(Int×Unit))) (aB:rJ) (aC:Int) (aD:Int) (aE:rC) (aF:((List Int)×(Int×Unit))) (aG:Nat) (aH:Nat) (aI:(List ((List UInt8)×Bool)))
abbrev a40:List pA:=[(.val .ref (some (0,0)),none),(.val (.int .i64) O,none),(.val .clo (some (257,[])),none),(.val .clo (some (125,[])),none),(.val .bool Z,none)]
abbrev a41:List p9:=[.cells rH (aA,(aB,(aC,(aD,(aE,((some 3),aF)))))) [(11,1),(13,2)],.grow 55 7 aG,.grow 3 1 aH,.map .str .bool aI]
@[go_sem] def a42:pF:=⟨[aG=(aE.2.2.2.1.length),aH=(aF.1.length),((zJ aA aB aC aD aE aF O Z aI)).isSome=true],[(.val .str aB.2.1,none)],[.cells rH ((aA.1,((val (zJ aA aB aC aD aE aF O Z aI)).1,())),(((val (zJ aA aB aC aD aE aF O Z aI)).2.1,((val (zJ aA aB aC aD aE aF O Z aI)).2.2.1,((val (zJ aA aB aC aD aE aF O Z aI)).2.2.2.1,((val (zJ aA aB aC aD aE aF O Z aI)).2.2.2.2.1,())))),((val (zJ aA aB aC aD aE aF O Z aI)).2.2.2.2.2.1,((val (zJ aA aB aC aD aE aF O Z aI)).2.2.2.2.2.2.1,((aE.1,(aE.2.1,(aE.2.2.1,(aE.2.2.2.1,())))),((some 3),(aF.1,((val (zJ aA aB aC aD aE aF O Z aI)).2.2.2.2.2.2.2,())))))))) [(11,1),(13,2)],.grow 55 7 (aE.2.2.2.1.length),.grow 3 1 (aF.1.length),.map .str .bool aI]⟩
def aDi:List pA→List p9→Option pF:=qP (V:=(Int×Bool×((List UInt8)×(Int×Unit))×rJ×Int×Int×rC×((List Int)×(Int×Unit))×Nat×Nat×(List ((List UInt8)×Bool)))) (fun x=>a40 x.1 x.2.1) (fun x=>a41 x.2.2.1 x.2.2.2.1 x.2.2.2.2.1 x.2.2.2.2.2.1 x.2.2.2.2.2.2.1 x.2.2.2.2.2.2.2.1 x.2.2.2.2.2.2.2.2.1 x.2.2.2.2.2.2.2.2.2.1 x.2.2.2.2.2.2.2.2.2.2) fun x=>a42 x.1 x.2.1 x.2.2.1 x.2.2.2.1 x.2.2.2.2.1 x.2.2.2.2.2.1 x.2.2.2.2.2.2.1 x.2.2.2.2.2.2.2.1 x.2.2.2.2.2.2.2.2.1 x.2.2.2.2.2.2.2.2.2.1 x.2.2.2.2.2.2.2.2.2.2
@[go_sem] theorem aPY:aDi (no_index (a40 O Z)) (no_index (a41 aA aB aC aD aE aF aG aH aI))=some (a42 O Z aA aB aC aD aE aF aG aH aI):=qR (fun⟨a0,a1,a2,a3,a4,a5,a6,a7,a8,a9,a10⟩ ⟨b0,b1,b2,b3,b4,b5,b6,b7,b8,b9,b10⟩ h1 h2=>by cases h1;cases h2;rfl) (O,Z,aA,aB,aC,aD,aE,aF,aG,aH,aI)
end
@[go_sem] abbrev a43:Nat×pY:=(124,⟨[.p rH [11,13],.v,.v,.v,.v],aDi,[(0,12,.m)],[1,2,3],none⟩)
theorem yN:qE Tryz.prog [vL,rR,zE,xF] (qC [aCf,zF,xX,TK]):=⟨⟨wE,⟨rU,⟨AX,⟨yJ,trivial⟩⟩⟩⟩,pK aJ6 (pK EB (pK DE (pK a0F qT))),qH⟩
theorem aKu:qI Tryz.prog a43:=by
 refine qS yN Tryz.func124 (c:=_) rfl (N:=46) (by kernel_rfl) (ts:=[(10,none)]) rfl (fun _ _=>rfl) ?_;intro⟨O,Z,aA,aB,aC,aD,aE,aF,aG,aH,aI⟩ hs hrow;dsimp only[a40,a41,a42,qK,pM,pV,qG,qO,Nat.reduceAdd] at hs hrow⊢;obtain⟨rfl,rfl,hz⟩:=hs;obtain⟨z0,hC0⟩:=aQn.1 hz
 try rw[r8 hC0]
 clear hz;unfold zJ at hC0;refine p8 yN ?_;refine p8 yN ?_;refine pW (rI ?_);obtain⟨hg1,hC0⟩:=pG hC0;refine p8 yN ?_ (hp:=by exact⟨fun hh=>hh,fun hh=>hh,hg1,fun hh=>hh,(fun hh=>uA hh)⟩);refine pP hC0 (fun hC0 hc1=> ?_) (fun hC0 hc1=> ?_)
 ·obtain⟨aJ,hw_27,hC0⟩:=vI hC0
  try simp only[go_sem] at hw_27
  refine qU yN ?_ (hp:=by exact⟨by first|rfl|trivial,by first|rfl|trivial,by first|rfl|trivial,by first|rfl|trivial,(by first|rfl|trivial)⟩) (h:=by simp only[go_sem,hw_27];rfl)
  refine qV (pN ?_);obtain⟨aK,hv2,hw2,hC0⟩:=pT hC0
  try simp only[go_sem] at hw2
  refine p8 yN ?_ (hp:=by exact⟨by first|rfl|trivial,by first|rfl|trivial,by first|rfl|trivial,by first|rfl|trivial,by first|rfl|trivial,(pS hv2)⟩) (h:=by simp only[go_sem,hw2];rfl)
  refine p8 yN ?_;refine pI ?_;cases hC0;exact⟨[(0,0),(1,1),(2,2),(3,3)],by rfl,by rfl,by rfl⟩
 ·refine p8 yN ?_;refine pP hC0 (fun hC0 hc2=> ?_) (fun hC0 hc2=> ?_)
  ·obtain⟨aL,hw_29,hC0⟩:=vI hC0
   try simp only[go_sem] at hw_29
   refine qU yN ?_ (hp:=by exact⟨by first|rfl|trivial,by first|rfl|trivial,by first|rfl|trivial,by first|rfl|trivial,(by first|rfl|trivial)⟩) (h:=by simp only[go_sem,hw_29];rfl)
   refine qV (pN ?_);obtain⟨aM,hv3,hw3,hC0⟩:=pT hC0
   try simp only[go_sem] at hw3
   refine p8 yN ?_ (hp:=by exact⟨by first|rfl|trivial,by first|rfl|trivial,by first|rfl|trivial,by first|rfl|trivial,by first|rfl|trivial,(pS hv3)⟩) (h:=by simp only[go_sem,hw3];rfl)
   refine p8 yN ?_;refine pI ?_;cases hC0;exact⟨[(0,0),(1,1),(2,2),(3,3)],by rfl,by rfl,by rfl⟩
  ·refine p8 yN ?_;refine pP hC0 (fun hC0 hc3=> ?_) (fun hC0 hc3=> ?_)
   ·obtain⟨aN,hw_31,hC0⟩:=vI hC0
    try simp only[go_sem] at hw_31
    refine qU yN ?_ (hp:=by exact⟨by first|rfl|trivial,by first|rfl|trivial,by first|rfl|trivial,by first|rfl|trivial,(by first|rfl|trivial)⟩) (h:=by simp only[go_sem,hw_31];rfl)
    refine qV (pN ?_);obtain⟨aO,hv4,hw4,hC0⟩:=pT hC0
    try simp only[go_sem] at hw4
    refine p8 yN ?_ (hp:=by exact⟨by first|rfl|trivial,by first|rfl|trivial,by first|rfl|trivial,by first|rfl|trivial,by first|rfl|trivial,(pS hv4)⟩) (h:=by simp only[go_sem,hw4];rfl)
    refine p8 yN ?_;refine pI ?_;cases hC0;exact⟨[(0,0),(1,1),(2,2),(3,3)],by rfl,by rfl,by rfl⟩
   ·refine qM (qV (pN ?_));obtain⟨aP,hv5,hw5,hC0⟩:=pT hC0
    try simp only[go_sem] at hw5
    refine p8 yN ?_ (hp:=by exact⟨by first|rfl|trivial,by first|rfl|trivial,by first|rfl|trivial,by first|rfl|trivial,by first|rfl|trivial,(pS hv5)⟩) (h:=by simp only[go_sem,hw5];rfl)
    refine p8 yN ?_;refine pI ?_;cases hC0;exact⟨[(0,0),(1,1),(2,2),(3,3)],by rfl,by rfl,by rfl⟩
attribute [irreducible] zJ
end
noncomputable section
def B2 (O:((List UInt8)×(Int×Unit))) (Z:rJ) (aA:Int) (aB:Int) (aC:rC) (aD:((List Int)×(Int×Unit))) (aE:Int) (aF:Bool) (aG:(List ((List UInt8)×Bool))) (aH:(List UInt8)) (aI:(List UInt8)) (aJ:(List UInt8)) (aK:(List (List UInt8))) (aL:(Int×((List pR)×Unit))) (aM:Bool) (aN:(List (List UInt8))) (aO:(List ((List UInt8)×Bool))):Option (Int×Int×(List UInt8)×Int×Int×Int×Int×Int):=if (((!decide (Z.1=aE))==false)=true→((CI Z.2.1)).isSome=true) then if ((!decide (Z.1=aE))||(!(val (CI Z.2.1))))=true then rE (tM O Z aA aB aC aD (3:Int) aG) fun aP=>(s7 (O.1,(O.2.1,())) (Z.1,(Z.2.1,(Z.2.2.1,(Z.2.2.2.1,())))) aP.1 aP.2 (aC.1,(aC.2.1,(aC.2.2.1,(aC.2.2.2.1,())))) (aD.1,(aD.2.1,())) aG).bind fun aQ=>some ((aQ.1,aQ.2.1,aQ.2.2.1,aQ.2.2.2.1,aQ.2.2.2.2.1,aP.1,aP.2,aQ.2.2.2.2.2)) else (LS Z.2.1 aH aI aJ aK aL aM aN aO).bind fun aR=>if aR=true then rE (tM O Z aA aB aC aD (9:Int) aG) fun aS=>(s7 (O.1,(O.2.1,())) (Z.1,(Z.2.1,(Z.2.2.1,(Z.2.2.2.1,())))) aS.1 aS.2 (aC.1,(aC.2.1,(aC.2.2.1,(aC.2.2.2.1,())))) (aD.1,(aD.2.1,())) aG).bind fun aT=>some ((aT.1,aT.2.1,aT.2.2.1,aT.2.2.2.1,aT.2.2.2.2.1,aS.1,aS.2,aT.2.2.2.2.2)) else if aF=true then rE (tM O Z aA aB aC aD (6:Int) aG) fun aU=>(s7 (O.1,(O.2.1,())) (Z.1,(Z.2.1,(Z.2.2.1,(Z.2.2.2.1,())))) aU.1 aU.2 (aC.1,(aC.2.1,(aC.2.2.1,(aC.2.2.2.1,())))) (aD.1,(aD.2.1,())) aG).bind fun aV=>some ((aV.1,aV.2.1,aV.2.2.1,aV.2.2.2.1,aV.2.2.2.2.1,aU.1,aU.2,aV.2.2.2.2.2)) else (s7 O Z aA aB aC aD aG).bind fun aW=>some ((aW.1,aW.2.1,aW.2.2.1,aW.2.2.2.1,aW.2.2.2.2.1,aA,aB,aW.2.2.2.2.2)) else none
section
variable (O:Int) (Z:Bool) (aA:((List UInt8)×(Int×Unit))) (aB:rJ) (aC:Int) (aD:Int) (aE:rC) (aF:((List Int)×(Int×Unit))) (aG:Nat) (aH:Nat) (aI:(List ((List UInt8)×Bool))) (aJ:(List UInt8)) (aK:(List UInt8)) (aL:(List UInt8)) (aM:(List (List UInt8))) (aN:Nat) (aO:(Int×((List pR)×Unit))) (aP:Bool) (aQ:Nat) (aR:Nat) (aS:(List (List UInt8))) (aT:Nat) (aU:(List ((List UInt8)×Bool)))
abbrev a44:List pA:=[(.val .ref (some (0,0)),none),(.val (.int .i64) O,none),(.val .clo (some (162,[])),none),(.val .clo (some (254,[(3,0)])),none),(.val .bool Z,none)]
abbrev a45:List p9:=[.cells rH (aA,(aB,(aC,(aD,(aE,((some 4),aF)))))) [(11,1),(13,2)],.grow 55 7 aG,.grow 3 1 aH,.cells .ref (some (5,0)) [],.map .str .bool aI,.cells sJ ((aJ,(aK,(aL,(aM,((some (8,aN)),aO))))),(aP,((some 9),()))) [(3,6),(6,7)],.grow 9 1 aQ,.grow 149 2 aR,.row 9 .str aS aT,.map .str .bool aU]
@[go_sem] def a47:pF:=⟨[aG=(aE.2.2.2.1.length),aH=(aF.1.length),aQ=(aM.length),aR=(aO.2.1.length),aN=aT,((B2 aA aB aC aD aE aF O Z aI aJ aK aL aM aO aP aS aU)).isSome=true],[(.val .str aB.2.1,none)],[.cells rH ((aA.1,((val (B2 aA aB aC aD aE aF O Z aI aJ aK aL aM aO aP aS aU)).1,())),(((val (B2 aA aB aC aD aE aF O Z aI aJ aK aL aM aO aP aS aU)).2.1,((val (B2 aA aB aC aD aE aF O Z aI aJ aK aL aM aO aP aS aU)).2.2.1,((val (B2 aA aB aC aD aE aF O Z aI aJ aK aL aM aO aP aS aU)).2.2.2.1,((val (B2 aA aB aC aD aE aF O Z aI aJ aK aL aM aO aP aS aU)).2.2.2.2.1,())))),((val (B2 aA aB aC aD aE aF O Z aI aJ aK aL aM aO aP aS aU)).2.2.2.2.2.1,((val (B2 aA aB aC aD aE aF O Z aI aJ aK aL aM aO aP aS aU)).2.2.2.2.2.2.1,((aE.1,(aE.2.1,(aE.2.2.1,(aE.2.2.2.1,())))),((some 4),(aF.1,((val (B2 aA aB aC aD aE aF O Z aI aJ aK aL aM aO aP aS aU)).2.2.2.2.2.2.2,())))))))) [(11,1),(13,2)],.grow 55 7 (aE.2.2.2.1.length),.grow 3 1 (aF.1.length),.cells .ref (some (5,0)) [],.map .str .bool aI,.cells sJ ((aJ,(aK,(aL,(aM,((some (8,(aS.length))),(aO.1,(aO.2.1,()))))))),(aP,((some 9),()))) [(3,6),(6,7)],.grow 9 1 (aM.length),.grow 149 2 (aO.2.1.length),.row 9 .str aS (aS.length),.map .str .bool aU]⟩
def aDj:List pA→List p9→Option pF:=qP (V:=(Int×Bool×((List UInt8)×(Int×Unit))×rJ×Int×Int×rC×((List Int)×(Int×Unit))×Nat×Nat×(List ((List UInt8)×Bool))×(List UInt8)×(List UInt8)×(List UInt8)×(List (List UInt8))×Nat×(Int×((List pR)×Unit))×Bool×Nat×Nat×(List (List UInt8))×Nat×(List ((List UInt8)×Bool)))) (fun x=>a44 x.1 x.2.1) (fun x=>a45 x.2.2.1 x.2.2.2.1 x.2.2.2.2.1 x.2.2.2.2.2.1 x.2.2.2.2.2.2.1 x.2.2.2.2.2.2.2.1 x.2.2.2.2.2.2.2.2.1 x.2.2.2.2.2.2.2.2.2.1 x.2.2.2.2.2.2.2.2.2.2.1 x.2.2.2.2.2.2.2.2.2.2.2.1 x.2.2.2.2.2.2.2.2.2.2.2.2.1 x.2.2.2.2.2.2.2.2.2.2.2.2.2.1 x.2.2.2.2.2.2.2.2.2.2.2.2.2.2.1 x.2.2.2.2.2.2.2.2.2.2.2.2.2.2.2.1 x.2.2.2.2.2.2.2.2.2.2.2.2.2.2.2.2.1 x.2.2.2.2.2.2.2.2.2.2.2.2.2.2.2.2.2.1 x.2.2.2.2.2.2.2.2.2.2.2.2.2.2.2.2.2.2.1 x.2.2.2.2.2.2.2.2.2.2.2.2.2.2.2.2.2.2.2.1 x.2.2.2.2.2.2.2.2.2.2.2.2.2.2.2.2.2.2.2.2.1 x.2.2.2.2.2.2.2.2.2.2.2.2.2.2.2.2.2.2.2.2.2.1 x.2.2.2.2.2.2.2.2.2.2.2.2.2.2.2.2.2.2.2.2.2.2) fun x=>a47 x.1 x.2.1 x.2.2.1 x.2.2.2.1 x.2.2.2.2.1 x.2.2.2.2.2.1 x.2.2.2.2.2.2.1 x.2.2.2.2.2.2.2.1 x.2.2.2.2.2.2.2.2.1 x.2.2.2.2.2.2.2.2.2.1 x.2.2.2.2.2.2.2.2.2.2.1 x.2.2.2.2.2.2.2.2.2.2.2.1 x.2.2.2.2.2.2.2.2.2.2.2.2.1 x.2.2.2.2.2.2.2.2.2.2.2.2.2.1 x.2.2.2.2.2.2.2.2.2.2.2.2.2.2.1 x.2.2.2.2.2.2.2.2.2.2.2.2.2.2.2.1 x.2.2.2.2.2.2.2.2.2.2.2.2.2.2.2.2.1 x.2.2.2.2.2.2.2.2.2.2.2.2.2.2.2.2.2.1 x.2.2.2.2.2.2.2.2.2.2.2.2.2.2.2.2.2.2.1 x.2.2.2.2.2.2.2.2.2.2.2.2.2.2.2.2.2.2.2.1 x.2.2.2.2.2.2.2.2.2.2.2.2.2.2.2.2.2.2.2.2.1 x.2.2.2.2.2.2.2.2.2.2.2.2.2.2.2.2.2.2.2.2.2.1 x.2.2.2.2.2.2.2.2.2.2.2.2.2.2.2.2.2.2.2.2.2.2
@[go_sem] theorem aPZ:aDj (no_index (a44 O Z)) (no_index (a45 aA aB aC aD aE aF aG aH aI aJ aK aL aM aN aO aP aQ aR aS aT aU))=some (a47 O Z aA aB aC aD aE aF aG aH aI aJ aK aL aM aN aO aP aQ aR aS aT aU):=qR (fun⟨a0,a1,a2,a3,a4,a5,a6,a7,a8,a9,a10,a11,a12,a13,a14,a15,a16,a17,a18,a19,a20,a21,a22⟩ ⟨b0,b1,b2,b3,b4,b5,b6,b7,b8,b9,b10,b11,b12,b13,b14,rV,b16,b17,b18,b19,b20,b21,b22⟩ h1 h2=>by cases h1;cases h2;rfl) (O,Z,aA,aB,aC,aD,aE,aF,aG,aH,aI,aJ,aK,aL,aM,aN,aO,aP,aQ,aR,aS,aT,aU)
end
@[go_sem] abbrev a48:Nat×pY:=(124,⟨[.p rH [11,13],.v,.v,.f [(.ref,[])],.v],aDj,[(0,12,.m),(3,0,.p sJ [3,6]),(5,4,.r),(5,8,.m)],[1,2,3,4,5,6,7,8,9],none⟩)
theorem aDk:qE Tryz.prog [] (qC [J2,zF,xX,a3J]):=⟨trivial,pK TR (pK EB (pK DE (pK aKe qT))),qH⟩
theorem zK:qE Tryz.prog [vL,rR,zE,xF] (qC [J2,zF,xX,a3J]):=⟨⟨wE,⟨rU,⟨AX,⟨yJ,trivial⟩⟩⟩⟩,aDk.Γ,qH⟩
theorem aKv:qI Tryz.prog a48:=by
 refine qS aDk Tryz.func124 (c:=_) rfl (N:=46) (by kernel_rfl) (ts:=[(10,none)]) rfl (fun _ _=>rfl) ?_;intro⟨O,Z,aA,aB,aC,aD,aE,aF,aG,aH,aI,aJ,aK,aL,aM,aN,aO,aP,aQ,aR,aS,aT,aU⟩ hs hrow;dsimp only[a44,a45,a47,qK,pM,pV,qG,qO,Nat.reduceAdd] at hs hrow⊢;obtain⟨rfl,rfl,rfl,rfl,rfl,hz⟩:=hs;obtain⟨rfl,_⟩:=hrow;obtain⟨z0,hC0⟩:=aQn.1 hz
 try rw[r8 hC0]
 clear hz;unfold B2 at hC0;refine p8 zK ?_;refine p8 zK ?_;refine pW (rI ?_);obtain⟨hg1,hC0⟩:=pG hC0;refine p8 zK ?_ (hp:=by exact⟨fun hh=>hh,fun hh=>hh,hg1,fun hh=>hh,(fun hh=>uA hh)⟩);refine pP hC0 (fun hC0 hc1=> ?_) (fun hC0 hc1=> ?_)
 ·obtain⟨aV,hw_40,hC0⟩:=vI hC0
  try simp only[go_sem] at hw_40
  refine qU zK ?_ (hp:=by exact⟨by first|rfl|trivial,by first|rfl|trivial,by first|rfl|trivial,by first|rfl|trivial,(by first|rfl|trivial)⟩) (h:=by simp only[go_sem,hw_40];rfl)
  refine qV (pN ?_);obtain⟨aW,hv2,hw2,hC0⟩:=pT hC0
  try simp only[go_sem] at hw2
  refine p8 zK ?_ (hp:=by exact⟨by first|rfl|trivial,by first|rfl|trivial,by first|rfl|trivial,by first|rfl|trivial,by first|rfl|trivial,(pS hv2)⟩) (h:=by simp only[go_sem,hw2];rfl)
  refine p8 zK ?_;refine pI ?_;cases hC0;exact⟨[(0,0),(1,1),(2,2),(3,3),(4,4),(5,5),(6,6),(7,7),(8,8),(9,9)],by rfl,by rfl,by rfl⟩
 ·obtain⟨aX,hv3,hw3,hC0⟩:=pT hC0
  try simp only[go_sem] at hw3
  refine p8 zK ?_ (hp:=by exact⟨by first|rfl|trivial,by first|rfl|trivial,by first|rfl|trivial,by first|rfl|trivial,by first|rfl|trivial,by first|rfl|trivial,by first|rfl|trivial,by first|rfl|trivial,by first|rfl|trivial,(pS hv3)⟩) (h:=by simp only[go_sem,hw3];rfl)
  refine pP hC0 (fun hC0 hc2=> ?_) (fun hC0 hc2=> ?_)
  ·obtain⟨aY,hw_43,hC0⟩:=vI hC0
   try simp only[go_sem] at hw_43
   refine qU zK ?_ (hp:=by exact⟨by first|rfl|trivial,by first|rfl|trivial,by first|rfl|trivial,by first|rfl|trivial,(by first|rfl|trivial)⟩) (h:=by simp only[go_sem,hw_43];rfl)
   refine qV (pN ?_);obtain⟨aZ,hv4,hw4,hC0⟩:=pT hC0
   try simp only[go_sem] at hw4
   refine p8 zK ?_ (hp:=by exact⟨by first|rfl|trivial,by first|rfl|trivial,by first|rfl|trivial,by first|rfl|trivial,by first|rfl|trivial,(pS hv4)⟩) (h:=by simp only[go_sem,hw4];rfl)
   refine p8 zK ?_;refine pI ?_;cases hC0;exact⟨[(0,0),(1,1),(2,2),(3,3),(4,4),(5,5),(6,6),(7,7),(8,8),(9,9)],by rfl,by rfl,by rfl⟩
  ·refine p8 zK ?_;refine pP hC0 (fun hC0 hc3=> ?_) (fun hC0 hc3=> ?_)
   ·obtain⟨bA,hw_45,hC0⟩:=vI hC0
    try simp only[go_sem] at hw_45
    refine qU zK ?_ (hp:=by exact⟨by first|rfl|trivial,by first|rfl|trivial,by first|rfl|trivial,by first|rfl|trivial,(by first|rfl|trivial)⟩) (h:=by simp only[go_sem,hw_45];rfl)
    refine qV (pN ?_);obtain⟨bB,hv5,hw5,hC0⟩:=pT hC0
    try simp only[go_sem] at hw5
    refine p8 zK ?_ (hp:=by exact⟨by first|rfl|trivial,by first|rfl|trivial,by first|rfl|trivial,by first|rfl|trivial,by first|rfl|trivial,(pS hv5)⟩) (h:=by simp only[go_sem,hw5];rfl)
    refine p8 zK ?_;refine pI ?_;cases hC0;exact⟨[(0,0),(1,1),(2,2),(3,3),(4,4),(5,5),(6,6),(7,7),(8,8),(9,9)],by rfl,by rfl,by rfl⟩
   ·refine qM (qV (pN ?_));obtain⟨bC,hv6,hw6,hC0⟩:=pT hC0
    try simp only[go_sem] at hw6
    refine p8 zK ?_ (hp:=by exact⟨by first|rfl|trivial,by first|rfl|trivial,by first|rfl|trivial,by first|rfl|trivial,by first|rfl|trivial,(pS hv6)⟩) (h:=by simp only[go_sem,hw6];rfl)
    refine p8 zK ?_;refine pI ?_;cases hC0;exact⟨[(0,0),(1,1),(2,2),(3,3),(4,4),(5,5),(6,6),(7,7),(8,8),(9,9)],by rfl,by rfl,by rfl⟩
attribute [irreducible] B2
def EH (O:FB):Option (Int×Int×Int×(List UInt8)×(List (List UInt8))×(List pR)×(List Int)):=(vM O (2:Int) ([99,97,116,97,108,111,103]:List UInt8)).bind fun Z=>(vM (O.1,(Z.1,(Z.2.1,(Z.2.2.1,((O.2.2.2.2.1.1,(O.2.2.2.2.1.2.1,(O.2.2.2.2.1.2.2.1,(O.2.2.2.2.1.2.2.2.1,())))),(O.2.2.2.2.2.1,())))))) (1:Int) ([]:List UInt8)).bind fun aA=>if (((decide (aA.2.2.1=(0:Int)))==true)=true→((J9 aA.2.2.2.2.1)).isSome=true) then qZ (σ:=(Int×Int)) (if ((decide (aA.2.2.1=(0:Int)))&&(!(val (J9 aA.2.2.2.2.1))))=true then rE (xH (O.1,(aA.1,(aA.2.1,(aA.2.2.1,((O.2.2.2.2.1.1,(O.2.2.2.2.1.2.1,(O.2.2.2.2.1.2.2.1,(O.2.2.2.2.1.2.2.2.1,())))),(O.2.2.2.2.2.1,())))))) (aA.2.2.2.1,(aA.2.2.2.2.1,(aA.2.2.2.2.2.1,(aA.2.2.2.2.2.2,())))) (3:Int)) fun aB=>some ((aB.1,aB.2)) else some ((aA.2.1,aA.2.2.1)) ) fun(aC,aD)=>(wQ (O.1,(aA.1,(aC,(aD,((O.2.2.2.2.1.1,(O.2.2.2.2.1.2.1,(O.2.2.2.2.1.2.2.1,(O.2.2.2.2.1.2.2.2.1,())))),(O.2.2.2.2.2.1,())))))) (([]:List UInt8),(([]:List UInt8),(([]:List UInt8),(([]:List (List UInt8)),(([]:List (List UInt8)),((0:Int),(([]:List pR),()))))))) true).bind fun aE=>some ((aE.1,aE.2.1,aE.2.2.1,aA.2.2.2.2.1,aE.2.2.2.2.2.2.1,aE.2.2.2.2.2.2.2.2.2,aE.2.2.2.1)) else none
attribute [irreducible] EH
end
noncomputable section
def B3 (O:((List UInt8)×(Int×Unit))) (Z:rJ) (aA:Int) (aB:Int) (aC:rC) (aD:((List Int)×(Int×Unit))) (aE:Int) (aF:Bool) (aG:(List ((List UInt8)×Bool))) (aH:(List UInt8)) (aI:(List UInt8)) (aJ:(List UInt8)) (aK:(List (List UInt8))) (aL:(Int×((List pR)×Unit))) (aM:Bool) (aN:(List (List UInt8))) (aO:(List ((List UInt8)×Bool))):Option (Int×Int×(List UInt8)×Int×Int×Int×Int×Int):=if (((!decide (Z.1=aE))==false)=true→((CI Z.2.1)).isSome=true) then if ((!decide (Z.1=aE))||(!(val (CI Z.2.1))))=true then rE (tM O Z aA aB aC aD (3:Int) aG) fun aP=>(s7 (O.1,(O.2.1,())) (Z.1,(Z.2.1,(Z.2.2.1,(Z.2.2.2.1,())))) aP.1 aP.2 (aC.1,(aC.2.1,(aC.2.2.1,(aC.2.2.2.1,())))) (aD.1,(aD.2.1,())) aG).bind fun aQ=>some ((aQ.1,aQ.2.1,aQ.2.2.1,aQ.2.2.2.1,aQ.2.2.2.2.1,aP.1,aP.2,aQ.2.2.2.2.2)) else (LQ Z.2.1 aH aI aJ aK aL aM aN aO).bind fun aR=>if aR=true then rE (tM O Z aA aB aC aD (9:Int) aG) fun aS=>(s7 (O.1,(O.2.1,())) (Z.1,(Z.2.1,(Z.2.2.1,(Z.2.2.2.1,())))) aS.1 aS.2 (aC.1,(aC.2.1,(aC.2.2.1,(aC.2.2.2.1,())))) (aD.1,(aD.2.1,())) aG).bind fun aT=>some ((aT.1,aT.2.1,aT.2.2.1,aT.2.2.2.1,aT.2.2.2.2.1,aS.1,aS.2,aT.2.2.2.2.2)) else if aF=true then rE (tM O Z aA aB aC aD (6:Int) aG) fun aU=>(s7 (O.1,(O.2.1,())) (Z.1,(Z.2.1,(Z.2.2.1,(Z.2.2.2.1,())))) aU.1 aU.2 (aC.1,(aC.2.1,(aC.2.2.1,(aC.2.2.2.1,())))) (aD.1,(aD.2.1,())) aG).bind fun aV=>some ((aV.1,aV.2.1,aV.2.2.1,aV.2.2.2.1,aV.2.2.2.2.1,aU.1,aU.2,aV.2.2.2.2.2)) else (s7 O Z aA aB aC aD aG).bind fun aW=>some ((aW.1,aW.2.1,aW.2.2.1,aW.2.2.2.1,aW.2.2.2.2.1,aA,aB,aW.2.2.2.2.2)) else none
section
variable (O:Int) (Z:Bool) (aA:((List UInt8)×(Int×Unit))) (aB:rJ) (aC:Int) (aD:Int) (aE:rC) (aF:((List Int)×(Int×Unit))) (aG:Nat) (aH:Nat) (aI:(List ((List UInt8)×Bool))) (aJ:(List UInt8)) (aK:(List UInt8)) (aL:(List UInt8)) (aM:(List (List UInt8))) (aN:Nat) (aO:(Int×((List pR)×Unit))) (aP:Bool) (aQ:Nat) (aR:Nat) (aS:(List (List UInt8))) (aT:Nat) (aU:(List ((List UInt8)×Bool)))
abbrev a49:List pA:=[(.val .ref (some (0,0)),none),(.val (.int .i64) O,none),(.val .clo (some (162,[])),none),(.val .clo (some (258,[(3,0)])),none),(.val .bool Z,none)]
abbrev a5a:List p9:=[.cells rH (aA,(aB,(aC,(aD,(aE,((some 4),aF)))))) [(11,1),(13,2)],.grow 55 7 aG,.grow 3 1 aH,.cells .ref (some (5,0)) [],.map .str .bool aI,.cells sJ ((aJ,(aK,(aL,(aM,((some (8,aN)),aO))))),(aP,((some 9),()))) [(3,6),(6,7)],.grow 9 1 aQ,.grow 149 2 aR,.row 9 .str aS aT,.map .str .bool aU]
@[go_sem] def a5b:pF:=⟨[aG=(aE.2.2.2.1.length),aH=(aF.1.length),aQ=(aM.length),aR=(aO.2.1.length),aN=aT,((B3 aA aB aC aD aE aF O Z aI aJ aK aL aM aO aP aS aU)).isSome=true],[(.val .str aB.2.1,none)],[.cells rH ((aA.1,((val (B3 aA aB aC aD aE aF O Z aI aJ aK aL aM aO aP aS aU)).1,())),(((val (B3 aA aB aC aD aE aF O Z aI aJ aK aL aM aO aP aS aU)).2.1,((val (B3 aA aB aC aD aE aF O Z aI aJ aK aL aM aO aP aS aU)).2.2.1,((val (B3 aA aB aC aD aE aF O Z aI aJ aK aL aM aO aP aS aU)).2.2.2.1,((val (B3 aA aB aC aD aE aF O Z aI aJ aK aL aM aO aP aS aU)).2.2.2.2.1,())))),((val (B3 aA aB aC aD aE aF O Z aI aJ aK aL aM aO aP aS aU)).2.2.2.2.2.1,((val (B3 aA aB aC aD aE aF O Z aI aJ aK aL aM aO aP aS aU)).2.2.2.2.2.2.1,((aE.1,(aE.2.1,(aE.2.2.1,(aE.2.2.2.1,())))),((some 4),(aF.1,((val (B3 aA aB aC aD aE aF O Z aI aJ aK aL aM aO aP aS aU)).2.2.2.2.2.2.2,())))))))) [(11,1),(13,2)],.grow 55 7 (aE.2.2.2.1.length),.grow 3 1 (aF.1.length),.cells .ref (some (5,0)) [],.map .str .bool aI,.cells sJ ((aJ,(aK,(aL,(aM,((some (8,(aS.length))),(aO.1,(aO.2.1,()))))))),(aP,((some 9),()))) [(3,6),(6,7)],.grow 9 1 (aM.length),.grow 149 2 (aO.2.1.length),.row 9 .str aS (aS.length),.map .str .bool aU]⟩
def aDl:List pA→List p9→Option pF:=qP (V:=(Int×Bool×((List UInt8)×(Int×Unit))×rJ×Int×Int×rC×((List Int)×(Int×Unit))×Nat×Nat×(List ((List UInt8)×Bool))×(List UInt8)×(List UInt8)×(List UInt8)×(List (List UInt8))×Nat×(Int×((List pR)×Unit))×Bool×Nat×Nat×(List (List UInt8))×Nat×(List ((List UInt8)×Bool)))) (fun x=>a49 x.1 x.2.1) (fun x=>a5a x.2.2.1 x.2.2.2.1 x.2.2.2.2.1 x.2.2.2.2.2.1 x.2.2.2.2.2.2.1 x.2.2.2.2.2.2.2.1 x.2.2.2.2.2.2.2.2.1 x.2.2.2.2.2.2.2.2.2.1 x.2.2.2.2.2.2.2.2.2.2.1 x.2.2.2.2.2.2.2.2.2.2.2.1 x.2.2.2.2.2.2.2.2.2.2.2.2.1 x.2.2.2.2.2.2.2.2.2.2.2.2.2.1 x.2.2.2.2.2.2.2.2.2.2.2.2.2.2.1 x.2.2.2.2.2.2.2.2.2.2.2.2.2.2.2.1 x.2.2.2.2.2.2.2.2.2.2.2.2.2.2.2.2.1 x.2.2.2.2.2.2.2.2.2.2.2.2.2.2.2.2.2.1 x.2.2.2.2.2.2.2.2.2.2.2.2.2.2.2.2.2.2.1 x.2.2.2.2.2.2.2.2.2.2.2.2.2.2.2.2.2.2.2.1 x.2.2.2.2.2.2.2.2.2.2.2.2.2.2.2.2.2.2.2.2.1 x.2.2.2.2.2.2.2.2.2.2.2.2.2.2.2.2.2.2.2.2.2.1 x.2.2.2.2.2.2.2.2.2.2.2.2.2.2.2.2.2.2.2.2.2.2) fun x=>a5b x.1 x.2.1 x.2.2.1 x.2.2.2.1 x.2.2.2.2.1 x.2.2.2.2.2.1 x.2.2.2.2.2.2.1 x.2.2.2.2.2.2.2.1 x.2.2.2.2.2.2.2.2.1 x.2.2.2.2.2.2.2.2.2.1 x.2.2.2.2.2.2.2.2.2.2.1 x.2.2.2.2.2.2.2.2.2.2.2.1 x.2.2.2.2.2.2.2.2.2.2.2.2.1 x.2.2.2.2.2.2.2.2.2.2.2.2.2.1 x.2.2.2.2.2.2.2.2.2.2.2.2.2.2.1 x.2.2.2.2.2.2.2.2.2.2.2.2.2.2.2.1 x.2.2.2.2.2.2.2.2.2.2.2.2.2.2.2.2.1 x.2.2.2.2.2.2.2.2.2.2.2.2.2.2.2.2.2.1 x.2.2.2.2.2.2.2.2.2.2.2.2.2.2.2.2.2.2.1 x.2.2.2.2.2.2.2.2.2.2.2.2.2.2.2.2.2.2.2.1 x.2.2.2.2.2.2.2.2.2.2.2.2.2.2.2.2.2.2.2.2.1 x.2.2.2.2.2.2.2.2.2.2.2.2.2.2.2.2.2.2.2.2.2.1 x.2.2.2.2.2.2.2.2.2.2.2.2.2.2.2.2.2.2.2.2.2.2
@[go_sem] theorem aP0:aDl (no_index (a49 O Z)) (no_index (a5a aA aB aC aD aE aF aG aH aI aJ aK aL aM aN aO aP aQ aR aS aT aU))=some (a5b O Z aA aB aC aD aE aF aG aH aI aJ aK aL aM aN aO aP aQ aR aS aT aU):=qR (fun⟨a0,a1,a2,a3,a4,a5,a6,a7,a8,a9,a10,a11,a12,a13,a14,a15,a16,a17,a18,a19,a20,a21,a22⟩ ⟨b0,b1,b2,b3,b4,b5,b6,b7,b8,b9,b10,b11,b12,b13,b14,rV,b16,b17,b18,b19,b20,b21,b22⟩ h1 h2=>by cases h1;cases h2;rfl) (O,Z,aA,aB,aC,aD,aE,aF,aG,aH,aI,aJ,aK,aL,aM,aN,aO,aP,aQ,aR,aS,aT,aU)
end
@[go_sem] abbrev a5c:Nat×pY:=(124,⟨[.p rH [11,13],.v,.v,.f [(.ref,[])],.v],aDl,[(0,12,.m),(3,0,.p sJ [3,6]),(5,4,.r),(5,8,.m)],[1,2,3,4,5,6,7,8,9],none⟩)
theorem aDm:qE Tryz.prog [] (qC [J2,zF,xX,a3d]):=⟨trivial,pK TR (pK EB (pK DE (pK aJ7 qT))),qH⟩
theorem zL:qE Tryz.prog [vL,rR,zE,xF] (qC [J2,zF,xX,a3d]):=⟨⟨wE,⟨rU,⟨AX,⟨yJ,trivial⟩⟩⟩⟩,aDm.Γ,qH⟩
theorem aKw:qI Tryz.prog a5c:=by
 refine qS aDm Tryz.func124 (c:=_) rfl (N:=46) (by kernel_rfl) (ts:=[(10,none)]) rfl (fun _ _=>rfl) ?_;intro⟨O,Z,aA,aB,aC,aD,aE,aF,aG,aH,aI,aJ,aK,aL,aM,aN,aO,aP,aQ,aR,aS,aT,aU⟩ hs hrow;dsimp only[a49,a5a,a5b,qK,pM,pV,qG,qO,Nat.reduceAdd] at hs hrow⊢;obtain⟨rfl,rfl,rfl,rfl,rfl,hz⟩:=hs;obtain⟨rfl,_⟩:=hrow;obtain⟨z0,hC0⟩:=aQn.1 hz
 try rw[r8 hC0]
 clear hz;unfold B3 at hC0;refine p8 zL ?_;refine p8 zL ?_;refine pW (rI ?_);obtain⟨hg1,hC0⟩:=pG hC0;refine p8 zL ?_ (hp:=by exact⟨fun hh=>hh,fun hh=>hh,hg1,fun hh=>hh,(fun hh=>uA hh)⟩);refine pP hC0 (fun hC0 hc1=> ?_) (fun hC0 hc1=> ?_)
 ·obtain⟨aV,hw_40,hC0⟩:=vI hC0
  try simp only[go_sem] at hw_40
  refine qU zL ?_ (hp:=by exact⟨by first|rfl|trivial,by first|rfl|trivial,by first|rfl|trivial,by first|rfl|trivial,(by first|rfl|trivial)⟩) (h:=by simp only[go_sem,hw_40];rfl)
  refine qV (pN ?_);obtain⟨aW,hv2,hw2,hC0⟩:=pT hC0
  try simp only[go_sem] at hw2
  refine p8 zL ?_ (hp:=by exact⟨by first|rfl|trivial,by first|rfl|trivial,by first|rfl|trivial,by first|rfl|trivial,by first|rfl|trivial,(pS hv2)⟩) (h:=by simp only[go_sem,hw2];rfl)
  refine p8 zL ?_;refine pI ?_;cases hC0;exact⟨[(0,0),(1,1),(2,2),(3,3),(4,4),(5,5),(6,6),(7,7),(8,8),(9,9)],by rfl,by rfl,by rfl⟩
 ·obtain⟨aX,hv3,hw3,hC0⟩:=pT hC0
  try simp only[go_sem] at hw3
  refine p8 zL ?_ (hp:=by exact⟨by first|rfl|trivial,by first|rfl|trivial,by first|rfl|trivial,by first|rfl|trivial,by first|rfl|trivial,by first|rfl|trivial,by first|rfl|trivial,by first|rfl|trivial,by first|rfl|trivial,(pS hv3)⟩) (h:=by simp only[go_sem,hw3];rfl)
  refine pP hC0 (fun hC0 hc2=> ?_) (fun hC0 hc2=> ?_)
  ·obtain⟨aY,hw_43,hC0⟩:=vI hC0
   try simp only[go_sem] at hw_43
   refine qU zL ?_ (hp:=by exact⟨by first|rfl|trivial,by first|rfl|trivial,by first|rfl|trivial,by first|rfl|trivial,(by first|rfl|trivial)⟩) (h:=by simp only[go_sem,hw_43];rfl)
   refine qV (pN ?_);obtain⟨aZ,hv4,hw4,hC0⟩:=pT hC0
   try simp only[go_sem] at hw4
   refine p8 zL ?_ (hp:=by exact⟨by first|rfl|trivial,by first|rfl|trivial,by first|rfl|trivial,by first|rfl|trivial,by first|rfl|trivial,(pS hv4)⟩) (h:=by simp only[go_sem,hw4];rfl)
   refine p8 zL ?_;refine pI ?_;cases hC0;exact⟨[(0,0),(1,1),(2,2),(3,3),(4,4),(5,5),(6,6),(7,7),(8,8),(9,9)],by rfl,by rfl,by rfl⟩
  ·refine p8 zL ?_;refine pP hC0 (fun hC0 hc3=> ?_) (fun hC0 hc3=> ?_)
   ·obtain⟨bA,hw_45,hC0⟩:=vI hC0
    try simp only[go_sem] at hw_45
    refine qU zL ?_ (hp:=by exact⟨by first|rfl|trivial,by first|rfl|trivial,by first|rfl|trivial,by first|rfl|trivial,(by first|rfl|trivial)⟩) (h:=by simp only[go_sem,hw_45];rfl)
    refine qV (pN ?_);obtain⟨bB,hv5,hw5,hC0⟩:=pT hC0
    try simp only[go_sem] at hw5
    refine p8 zL ?_ (hp:=by exact⟨by first|rfl|trivial,by first|rfl|trivial,by first|rfl|trivial,by first|rfl|trivial,by first|rfl|trivial,(pS hv5)⟩) (h:=by simp only[go_sem,hw5];rfl)
    refine p8 zL ?_;refine pI ?_;cases hC0;exact⟨[(0,0),(1,1),(2,2),(3,3),(4,4),(5,5),(6,6),(7,7),(8,8),(9,9)],by rfl,by rfl,by rfl⟩
   ·refine qM (qV (pN ?_));obtain⟨bC,hv6,hw6,hC0⟩:=pT hC0
    try simp only[go_sem] at hw6
    refine p8 zL ?_ (hp:=by exact⟨by first|rfl|trivial,by first|rfl|trivial,by first|rfl|trivial,by first|rfl|trivial,by first|rfl|trivial,(pS hv6)⟩) (h:=by simp only[go_sem,hw6];rfl)
    refine p8 zL ?_;refine pI ?_;cases hC0;exact⟨[(0,0),(1,1),(2,2),(3,3),(4,4),(5,5),(6,6),(7,7),(8,8),(9,9)],by rfl,by rfl,by rfl⟩
attribute [irreducible] B3
def xI (O:((List UInt8)×(Int×Unit))) (Z:rJ) (aA:Int) (aB:Int) (aC:rC) (aD:((List Int)×(Int×Unit))) (aE:Int) (aF:(List UInt8)) (aG:(List ((List UInt8)×Bool))):Option (Int×Int×(List UInt8)×Int×Int×Int×Int×Int):=if (!(((decide (aB=(0:Int)))&&(decide (Z.1=aE)))&&(decide (Z.2.1=aF))))=true then rE (tM O Z aA aB aC aD (3:Int) aG) fun aH=>(s7 (O.1,(O.2.1,())) (Z.1,(Z.2.1,(Z.2.2.1,(Z.2.2.2.1,())))) aH.1 aH.2 (aC.1,(aC.2.1,(aC.2.2.1,(aC.2.2.2.1,())))) (aD.1,(aD.2.1,())) aG).bind fun aI=>some ((aI.1,aI.2.1,aI.2.2.1,aI.2.2.2.1,aI.2.2.2.2.1,aH.1,aH.2,aI.2.2.2.2.2)) else (s7 O Z aA aB aC aD aG).bind fun aJ=>some ((aJ.1,aJ.2.1,aJ.2.2.1,aJ.2.2.2.1,aJ.2.2.2.2.1,aA,aB,aJ.2.2.2.2.2))
section
variable (O:Int) (Z:(List UInt8)) (aA:((List UInt8)×(Int×Unit))) (aB:rJ) (aC:Int) (aD:Int) (aE:rC) (aF:((List Int)×(Int×Unit))) (aG:Nat) (aH:Nat) (aI:(List ((List UInt8)×Bool)))
abbrev a5d:List pA:=[(.val .ref (some (0,0)),none),(.val (.int .i64) O,none),(.val .str Z,none)]
abbrev a5e:List p9:=[.cells rH (aA,(aB,(aC,(aD,(aE,((some 3),aF)))))) [(11,1),(13,2)],.grow 55 7 aG,.grow 3 1 aH,.map .str .bool aI]
@[go_sem] def a5f:pF:=⟨[aG=(aE.2.2.2.1.length),aH=(aF.1.length),((xI aA aB aC aD aE aF O Z aI)).isSome=true],[],[.cells rH ((aA.1,((val (xI aA aB aC aD aE aF O Z aI)).1,())),(((val (xI aA aB aC aD aE aF O Z aI)).2.1,((val (xI aA aB aC aD aE aF O Z aI)).2.2.1,((val (xI aA aB aC aD aE aF O Z aI)).2.2.2.1,((val (xI aA aB aC aD aE aF O Z aI)).2.2.2.2.1,())))),((val (xI aA aB aC aD aE aF O Z aI)).2.2.2.2.2.1,((val (xI aA aB aC aD aE aF O Z aI)).2.2.2.2.2.2.1,((aE.1,(aE.2.1,(aE.2.2.1,(aE.2.2.2.1,())))),((some 3),(aF.1,((val (xI aA aB aC aD aE aF O Z aI)).2.2.2.2.2.2.2,())))))))) [(11,1),(13,2)],.grow 55 7 (aE.2.2.2.1.length),.grow 3 1 (aF.1.length),.map .str .bool aI]⟩
def aDn:List pA→List p9→Option pF:=qP (V:=(Int×(List UInt8)×((List UInt8)×(Int×Unit))×rJ×Int×Int×rC×((List Int)×(Int×Unit))×Nat×Nat×(List ((List UInt8)×Bool)))) (fun x=>a5d x.1 x.2.1) (fun x=>a5e x.2.2.1 x.2.2.2.1 x.2.2.2.2.1 x.2.2.2.2.2.1 x.2.2.2.2.2.2.1 x.2.2.2.2.2.2.2.1 x.2.2.2.2.2.2.2.2.1 x.2.2.2.2.2.2.2.2.2.1 x.2.2.2.2.2.2.2.2.2.2) fun x=>a5f x.1 x.2.1 x.2.2.1 x.2.2.2.1 x.2.2.2.2.1 x.2.2.2.2.2.1 x.2.2.2.2.2.2.1 x.2.2.2.2.2.2.2.1 x.2.2.2.2.2.2.2.2.1 x.2.2.2.2.2.2.2.2.2.1 x.2.2.2.2.2.2.2.2.2.2
@[go_sem] theorem aP1:aDn (no_index (a5d O Z)) (no_index (a5e aA aB aC aD aE aF aG aH aI))=some (a5f O Z aA aB aC aD aE aF aG aH aI):=qR (fun⟨a0,a1,a2,a3,a4,a5,a6,a7,a8,a9,a10⟩ ⟨b0,b1,b2,b3,b4,b5,b6,b7,b8,b9,b10⟩ h1 h2=>by cases h1;cases h2;rfl) (O,Z,aA,aB,aC,aD,aE,aF,aG,aH,aI)
end
@[go_sem] abbrev PL:Nat×pY:=(123,⟨[.p rH [11,13],.v,.v],aDn,[(0,12,.m)],[1,2,3],none⟩)
theorem PM:qE Tryz.prog [] (qC [aBa,zF,xX]):=⟨trivial,pK aJI (pK EB (pK DE qT)),qH⟩
theorem a5g:qI Tryz.prog PL:=by
 refine qS PM Tryz.func123 (c:=_) rfl (N:=15) (by kernel_rfl) (ts:=[]) rfl (fun _ _=>rfl) ?_;intro⟨O,Z,aA,aB,aC,aD,aE,aF,aG,aH,aI⟩ hs hrow;dsimp only[a5d,a5e,a5f,qK,pM,pV,qG,qO,Nat.reduceAdd] at hs hrow⊢;obtain⟨rfl,rfl,hz⟩:=hs;obtain⟨z0,hC0⟩:=aQn.1 hz
 try rw[r8 hC0]
 clear hz;unfold xI at hC0;refine pW ?_;refine p8 PM ?_ (hp:=by exact⟨by first|rfl|trivial,by first|rfl|trivial,by first|rfl|trivial,by first|rfl|trivial,by first|rfl|trivial,(by first|rfl|trivial)⟩)
 refine pP hC0 (fun hC0 hc1=> ?_) (fun hC0 hc1=> ?_)
 ·obtain⟨aJ,hw_23,hC0⟩:=vI hC0
  try simp only[go_sem] at hw_23
  refine qU PM ?_ (hp:=by exact⟨by first|rfl|trivial,by first|rfl|trivial,by first|rfl|trivial,by first|rfl|trivial,(by first|rfl|trivial)⟩) (h:=by simp only[go_sem,hw_23];rfl)
  refine pN ?_;obtain⟨aK,hv1,hw1,hC0⟩:=pT hC0
  try simp only[go_sem] at hw1
  refine qU PM ?_ (hp:=by exact⟨by first|rfl|trivial,by first|rfl|trivial,by first|rfl|trivial,by first|rfl|trivial,by first|rfl|trivial,(pS hv1)⟩) (h:=by simp only[go_sem,hw1];rfl)
  cases hC0;exact⟨[(0,0),(1,1),(2,2),(3,3)],by rfl,by rfl,by rfl⟩
 ·refine qM (pN ?_);obtain⟨aL,hv2,hw2,hC0⟩:=pT hC0
  try simp only[go_sem] at hw2
  refine qU PM ?_ (hp:=by exact⟨by first|rfl|trivial,by first|rfl|trivial,by first|rfl|trivial,by first|rfl|trivial,by first|rfl|trivial,(pS hv2)⟩) (h:=by simp only[go_sem,hw2];rfl)
  cases hC0;exact⟨[(0,0),(1,1),(2,2),(3,3)],by rfl,by rfl,by rfl⟩
attribute [irreducible] xI
end
noncomputable section
def zM (O:((List UInt8)×(Int×Unit))) (Z:rJ) (aA:Int) (aB:Int) (aC:rC) (aD:((List Int)×(Int×Unit))) (aE:Int) (aF:Bool) (aG:(List ((List UInt8)×Bool))):Option (Int×Int×(List UInt8)×Int×Int×Int×Int×Int):=if ((!decide (Z.1=aE))||(!((!decide (Z.2.1=([]:List UInt8)))&&(decide ((Z.2.1.length:Int)≤(200:Int))))))=true then rE (tM O Z aA aB aC aD (3:Int) aG) fun aH=>(s7 (O.1,(O.2.1,())) (Z.1,(Z.2.1,(Z.2.2.1,(Z.2.2.2.1,())))) aH.1 aH.2 (aC.1,(aC.2.1,(aC.2.2.1,(aC.2.2.2.1,())))) (aD.1,(aD.2.1,())) aG).bind fun aI=>some ((aI.1,aI.2.1,aI.2.2.1,aI.2.2.2.1,aI.2.2.2.2.1,aH.1,aH.2,aI.2.2.2.2.2)) else if (rN .str .bool aG Z.2.1)=true then rE (tM O Z aA aB aC aD (9:Int) aG) fun aJ=>(s7 (O.1,(O.2.1,())) (Z.1,(Z.2.1,(Z.2.2.1,(Z.2.2.2.1,())))) aJ.1 aJ.2 (aC.1,(aC.2.1,(aC.2.2.1,(aC.2.2.2.1,())))) (aD.1,(aD.2.1,())) aG).bind fun aK=>some ((aK.1,aK.2.1,aK.2.2.1,aK.2.2.2.1,aK.2.2.2.2.1,aJ.1,aJ.2,aK.2.2.2.2.2)) else if aF=true then rE (tM O Z aA aB aC aD (6:Int) aG) fun aL=>(s7 (O.1,(O.2.1,())) (Z.1,(Z.2.1,(Z.2.2.1,(Z.2.2.2.1,())))) aL.1 aL.2 (aC.1,(aC.2.1,(aC.2.2.1,(aC.2.2.2.1,())))) (aD.1,(aD.2.1,())) aG).bind fun aM=>some ((aM.1,aM.2.1,aM.2.2.1,aM.2.2.2.1,aM.2.2.2.2.1,aL.1,aL.2,aM.2.2.2.2.2)) else (s7 O Z aA aB aC aD aG).bind fun aN=>some ((aN.1,aN.2.1,aN.2.2.1,aN.2.2.2.1,aN.2.2.2.2.1,aA,aB,aN.2.2.2.2.2))
section
variable (O:Int) (Z:Bool) (aA:((List UInt8)×(Int×Unit))) (aB:rJ) (aC:Int) (aD:Int) (aE:rC) (aF:((List Int)×(Int×Unit))) (aG:Nat) (aH:Nat) (aI:(List ((List UInt8)×Bool)))
abbrev a5h:List pA:=[(.val .ref (some (0,0)),none),(.val (.int .i64) O,none),(.val .clo (some (127,[])),none),(.val .clo (some (128,[(3,0)])),none),(.val .bool Z,none)]
abbrev a5i:List p9:=[.cells rH (aA,(aB,(aC,(aD,(aE,((some 4),aF)))))) [(11,1),(13,2)],.grow 55 7 aG,.grow 3 1 aH,.cells .ref (some (0,0)) [],.map .str .bool aI]
@[go_sem] def a5j:pF:=⟨[aG=(aE.2.2.2.1.length),aH=(aF.1.length),((zM aA aB aC aD aE aF O Z aI)).isSome=true],[(.val .str aB.2.1,none)],[.cells rH ((aA.1,((val (zM aA aB aC aD aE aF O Z aI)).1,())),(((val (zM aA aB aC aD aE aF O Z aI)).2.1,((val (zM aA aB aC aD aE aF O Z aI)).2.2.1,((val (zM aA aB aC aD aE aF O Z aI)).2.2.2.1,((val (zM aA aB aC aD aE aF O Z aI)).2.2.2.2.1,())))),((val (zM aA aB aC aD aE aF O Z aI)).2.2.2.2.2.1,((val (zM aA aB aC aD aE aF O Z aI)).2.2.2.2.2.2.1,((aE.1,(aE.2.1,(aE.2.2.1,(aE.2.2.2.1,())))),((some 4),(aF.1,((val (zM aA aB aC aD aE aF O Z aI)).2.2.2.2.2.2.2,())))))))) [(11,1),(13,2)],.grow 55 7 (aE.2.2.2.1.length),.grow 3 1 (aF.1.length),.cells .ref (some (0,0)) [],.map .str .bool aI]⟩
def aDo:List pA→List p9→Option pF:=qP (V:=(Int×Bool×((List UInt8)×(Int×Unit))×rJ×Int×Int×rC×((List Int)×(Int×Unit))×Nat×Nat×(List ((List UInt8)×Bool)))) (fun x=>a5h x.1 x.2.1) (fun x=>a5i x.2.2.1 x.2.2.2.1 x.2.2.2.2.1 x.2.2.2.2.2.1 x.2.2.2.2.2.2.1 x.2.2.2.2.2.2.2.1 x.2.2.2.2.2.2.2.2.1 x.2.2.2.2.2.2.2.2.2.1 x.2.2.2.2.2.2.2.2.2.2) fun x=>a5j x.1 x.2.1 x.2.2.1 x.2.2.2.1 x.2.2.2.2.1 x.2.2.2.2.2.1 x.2.2.2.2.2.2.1 x.2.2.2.2.2.2.2.1 x.2.2.2.2.2.2.2.2.1 x.2.2.2.2.2.2.2.2.2.1 x.2.2.2.2.2.2.2.2.2.2
@[go_sem] theorem aP2:aDo (no_index (a5h O Z)) (no_index (a5i aA aB aC aD aE aF aG aH aI))=some (a5j O Z aA aB aC aD aE aF aG aH aI):=qR (fun⟨a0,a1,a2,a3,a4,a5,a6,a7,a8,a9,a10⟩ ⟨b0,b1,b2,b3,b4,b5,b6,b7,b8,b9,b10⟩ h1 h2=>by cases h1;cases h2;rfl) (O,Z,aA,aB,aC,aD,aE,aF,aG,aH,aI)
end
@[go_sem] abbrev aDp:Nat×pY:=(124,⟨[.p rH [11,13],.v,.v,.f [(.ref,[])],.v],aDo,[(0,12,.m)],[1,2,3,4],none⟩)
theorem yO:qE Tryz.prog [vL,rR,zE,xF] (qC [aAZ,zF,xX,aA2]):=⟨⟨wE,⟨rU,⟨AX,⟨yJ,trivial⟩⟩⟩⟩,pK aJF (pK EB (pK DE (pK aJG qT))),qH⟩
theorem aKx:qI Tryz.prog aDp:=by
 refine qS yO Tryz.func124 (c:=_) rfl (N:=46) (by kernel_rfl) (ts:=[(10,none)]) rfl (fun _ _=>rfl) ?_;intro⟨O,Z,aA,aB,aC,aD,aE,aF,aG,aH,aI⟩ hs hrow;dsimp only[a5h,a5i,a5j,qK,pM,pV,qG,qO,Nat.reduceAdd] at hs hrow⊢;obtain⟨rfl,rfl,hz⟩:=hs;obtain⟨z0,hC0⟩:=aQn.1 hz
 try rw[r8 hC0]
 clear hz;unfold zM at hC0;refine p8 yO ?_;refine p8 yO ?_;refine pW (rI ?_);refine p8 yO ?_ (hp:=by exact⟨fun hh=>hh,fun hh=>hh,fun hh=>hh,(fun hh=>uA hh)⟩);refine pP hC0 (fun hC0 hc1=> ?_) (fun hC0 hc1=> ?_)
 ·obtain⟨aJ,hw_27,hC0⟩:=vI hC0
  try simp only[go_sem] at hw_27
  refine qU yO ?_ (hp:=by exact⟨by first|rfl|trivial,by first|rfl|trivial,by first|rfl|trivial,by first|rfl|trivial,(by first|rfl|trivial)⟩) (h:=by simp only[go_sem,hw_27];rfl)
  refine qV (pN ?_);obtain⟨aK,hv1,hw1,hC0⟩:=pT hC0
  try simp only[go_sem] at hw1
  refine p8 yO ?_ (hp:=by exact⟨by first|rfl|trivial,by first|rfl|trivial,by first|rfl|trivial,by first|rfl|trivial,by first|rfl|trivial,(pS hv1)⟩) (h:=by simp only[go_sem,hw1];rfl)
  refine p8 yO ?_;refine pI ?_;cases hC0;exact⟨[(0,0),(1,1),(2,2),(3,3),(4,4)],by rfl,by rfl,by rfl⟩
 ·refine p8 yO ?_ (hp:=by exact⟨by first|rfl|trivial,by first|rfl|trivial,by first|rfl|trivial,by first|rfl|trivial,by first|rfl|trivial,by first|rfl|trivial,(by first|rfl|trivial)⟩)
  refine pP hC0 (fun hC0 hc2=> ?_) (fun hC0 hc2=> ?_)
  ·obtain⟨aL,hw_29,hC0⟩:=vI hC0
   try simp only[go_sem] at hw_29
   refine qU yO ?_ (hp:=by exact⟨by first|rfl|trivial,by first|rfl|trivial,by first|rfl|trivial,by first|rfl|trivial,(by first|rfl|trivial)⟩) (h:=by simp only[go_sem,hw_29];rfl)
   refine qV (pN ?_);obtain⟨aM,hv2,hw2,hC0⟩:=pT hC0
   try simp only[go_sem] at hw2
   refine p8 yO ?_ (hp:=by exact⟨by first|rfl|trivial,by first|rfl|trivial,by first|rfl|trivial,by first|rfl|trivial,by first|rfl|trivial,(pS hv2)⟩) (h:=by simp only[go_sem,hw2];rfl)
   refine p8 yO ?_;refine pI ?_;cases hC0;exact⟨[(0,0),(1,1),(2,2),(3,3),(4,4)],by rfl,by rfl,by rfl⟩
  ·refine p8 yO ?_;refine pP hC0 (fun hC0 hc3=> ?_) (fun hC0 hc3=> ?_)
   ·obtain⟨aN,hw_31,hC0⟩:=vI hC0
    try simp only[go_sem] at hw_31
    refine qU yO ?_ (hp:=by exact⟨by first|rfl|trivial,by first|rfl|trivial,by first|rfl|trivial,by first|rfl|trivial,(by first|rfl|trivial)⟩) (h:=by simp only[go_sem,hw_31];rfl)
    refine qV (pN ?_);obtain⟨aO,hv3,hw3,hC0⟩:=pT hC0
    try simp only[go_sem] at hw3
    refine p8 yO ?_ (hp:=by exact⟨by first|rfl|trivial,by first|rfl|trivial,by first|rfl|trivial,by first|rfl|trivial,by first|rfl|trivial,(pS hv3)⟩) (h:=by simp only[go_sem,hw3];rfl)
    refine p8 yO ?_;refine pI ?_;cases hC0;exact⟨[(0,0),(1,1),(2,2),(3,3),(4,4)],by rfl,by rfl,by rfl⟩
   ·refine qM (qV (pN ?_));obtain⟨aP,hv4,hw4,hC0⟩:=pT hC0
    try simp only[go_sem] at hw4
    refine p8 yO ?_ (hp:=by exact⟨by first|rfl|trivial,by first|rfl|trivial,by first|rfl|trivial,by first|rfl|trivial,by first|rfl|trivial,(pS hv4)⟩) (h:=by simp only[go_sem,hw4];rfl)
    refine p8 yO ?_;refine pI ?_;cases hC0;exact⟨[(0,0),(1,1),(2,2),(3,3),(4,4)],by rfl,by rfl,by rfl⟩
attribute [irreducible] zM
def HH (O:FB):Option (Int×Int×Int×(List rG)×(List Int)):=(vM O (2:Int) ([101,110,116,114,121]:List UInt8)).bind fun Z=>(vM (O.1,(Z.1,(Z.2.1,(Z.2.2.1,((O.2.2.2.2.1.1,(O.2.2.2.2.1.2.1,(O.2.2.2.2.1.2.2.1,(O.2.2.2.2.1.2.2.2.1,())))),(O.2.2.2.2.2.1,())))))) (1:Int) ([]:List UInt8)).bind fun aA=>if (!decide (aA.2.2.1=(0:Int)))=true then some ((aA.1,aA.2.1,aA.2.2.1,O.2.2.2.2.1.2.2.2.1,O.2.2.2.2.2.1)) else (TH (O.2.2.2.2.1.1,(O.2.2.2.2.1.2.1,(O.2.2.2.2.1.2.2.1,(O.2.2.2.2.1.2.2.2.1,())))) aA.2.2.2.2.1).bind fun aB=>if ((decide (aA.2.2.2.2.1=([]:List UInt8)))||(decide ((200:Int)<(aA.2.2.2.2.1.length:Int))))=true then rE (xH (O.1,(aA.1,(aA.2.1,(aA.2.2.1,((O.2.2.2.2.1.1,(O.2.2.2.2.1.2.1,(O.2.2.2.2.1.2.2.1,(O.2.2.2.2.1.2.2.2.1,())))),(O.2.2.2.2.2.1,())))))) (aA.2.2.2.1,(aA.2.2.2.2.1,(aA.2.2.2.2.2.1,(aA.2.2.2.2.2.2,())))) (3:Int)) fun aC=>some ((aA.1,aC.1,aC.2,O.2.2.2.2.1.2.2.2.1,O.2.2.2.2.2.1)) else if aB.2=true then rE (xH (O.1,(aA.1,(aA.2.1,(aA.2.2.1,((O.2.2.2.2.1.1,(O.2.2.2.2.1.2.1,(O.2.2.2.2.1.2.2.1,(O.2.2.2.2.1.2.2.2.1,())))),(O.2.2.2.2.2.1,())))))) (aA.2.2.2.1,(aA.2.2.2.2.1,(aA.2.2.2.2.2.1,(aA.2.2.2.2.2.2,())))) (9:Int)) fun aD=>some ((aA.1,aD.1,aD.2,O.2.2.2.2.1.2.2.2.1,O.2.2.2.2.2.1)) else if (decide ((1000:Int)≤(O.2.2.2.2.1.2.2.2.1.length:Int)))=true then rE (xH (O.1,(aA.1,(aA.2.1,(aA.2.2.1,((O.2.2.2.2.1.1,(O.2.2.2.2.1.2.1,(O.2.2.2.2.1.2.2.1,(O.2.2.2.2.1.2.2.2.1,())))),(O.2.2.2.2.2.1,())))))) (aA.2.2.2.1,(aA.2.2.2.2.1,(aA.2.2.2.2.2.1,(aA.2.2.2.2.2.2,())))) (6:Int)) fun aE=>some ((aA.1,aE.1,aE.2,O.2.2.2.2.1.2.2.2.1,O.2.2.2.2.2.1)) else (wQ (O.1,(aA.1,(aA.2.1,(aA.2.2.1,((O.2.2.2.2.1.1,(O.2.2.2.2.1.2.1,(O.2.2.2.2.1.2.2.1,(O.2.2.2.2.1.2.2.2.1,())))),(O.2.2.2.2.2.1,())))))) (aA.2.2.2.2.1,(([]:List UInt8),(([]:List UInt8),(([]:List (List UInt8)),(([]:List (List UInt8)),((0:Int),(([]:List pR),()))))))) false).bind fun aF=>if (([]:List rG).length+O.2.2.2.2.1.2.2.2.1.length)*128≤140737488355328 then if ((([]:List rG)++O.2.2.2.2.1.2.2.2.1).length+([(aA.2.2.2.2.1,(aF.2.2.2.2.1,(aF.2.2.2.2.2.1,(aF.2.2.2.2.2.2.1,(aF.2.2.2.2.2.2.2.1,(aF.2.2.2.2.2.2.2.2.1,(aF.2.2.2.2.2.2.2.2.2,())))))))]:List rG).length)*128≤140737488355328 then some ((aF.1,aF.2.1,aF.2.2.1,((([]:List rG)++O.2.2.2.2.1.2.2.2.1)++([(aA.2.2.2.2.1,(aF.2.2.2.2.1,(aF.2.2.2.2.2.1,(aF.2.2.2.2.2.2.1,(aF.2.2.2.2.2.2.2.1,(aF.2.2.2.2.2.2.2.2.1,(aF.2.2.2.2.2.2.2.2.2,())))))))]:List rG)),aF.2.2.2.1)) else none else none
attribute [irreducible] HH
end
noncomputable section
def xJ (O:((List UInt8)×(Int×Unit))) (Z:rJ) (aA:Int) (aB:Int) (aC:rC) (aD:((List Int)×(Int×Unit))) (aE:(List ((List UInt8)×Bool))):Option (Int×Int×(List UInt8)×Int×Int×Int×Int×Int):=(zH O Z aA aB aC aD (1:Int) false aE).bind fun aF=>some ((aF.1,aF.2.1,aF.2.2.1,aF.2.2.2.1,aF.2.2.2.2.1,aF.2.2.2.2.2.1,aF.2.2.2.2.2.2.1,aF.2.2.2.2.2.2.2))
section
variable (O:((List UInt8)×(Int×Unit))) (Z:rJ) (aA:Int) (aB:Int) (aC:rC) (aD:((List Int)×(Int×Unit))) (aE:Nat) (aF:Nat) (aG:(List ((List UInt8)×Bool)))
abbrev a5k:List pA:=[(.val .ref (some (0,0)),none)]
abbrev a5l:List p9:=[.cells rH (O,(Z,(aA,(aB,(aC,((some 3),aD)))))) [(11,1),(13,2)],.grow 55 7 aE,.grow 3 1 aF,.map .str .bool aG]
@[go_sem] def a5m:pF:=⟨[aE=(aC.2.2.2.1.length),aF=(aD.1.length),((xJ O Z aA aB aC aD aG)).isSome=true],[(.val .str Z.2.1,none)],[.cells rH ((O.1,((val (xJ O Z aA aB aC aD aG)).1,())),(((val (xJ O Z aA aB aC aD aG)).2.1,((val (xJ O Z aA aB aC aD aG)).2.2.1,((val (xJ O Z aA aB aC aD aG)).2.2.2.1,((val (xJ O Z aA aB aC aD aG)).2.2.2.2.1,())))),((val (xJ O Z aA aB aC aD aG)).2.2.2.2.2.1,((val (xJ O Z aA aB aC aD aG)).2.2.2.2.2.2.1,((aC.1,(aC.2.1,(aC.2.2.1,(aC.2.2.2.1,())))),((some 3),(aD.1,((val (xJ O Z aA aB aC aD aG)).2.2.2.2.2.2.2,())))))))) [(11,1),(13,2)],.grow 55 7 (aC.2.2.2.1.length),.grow 3 1 (aD.1.length),.map .str .bool aG]⟩
def aDq:List pA→List p9→Option pF:=qP (V:=(((List UInt8)×(Int×Unit))×rJ×Int×Int×rC×((List Int)×(Int×Unit))×Nat×Nat×(List ((List UInt8)×Bool)))) (fun x=>a5k) (fun x=>a5l x.1 x.2.1 x.2.2.1 x.2.2.2.1 x.2.2.2.2.1 x.2.2.2.2.2.1 x.2.2.2.2.2.2.1 x.2.2.2.2.2.2.2.1 x.2.2.2.2.2.2.2.2) fun x=>a5m x.1 x.2.1 x.2.2.1 x.2.2.2.1 x.2.2.2.2.1 x.2.2.2.2.2.1 x.2.2.2.2.2.2.1 x.2.2.2.2.2.2.2.1 x.2.2.2.2.2.2.2.2
@[go_sem] theorem aP3:aDq (no_index a5k) (no_index (a5l O Z aA aB aC aD aE aF aG))=some (a5m O Z aA aB aC aD aE aF aG):=qR (fun⟨a0,a1,a2,a3,a4,a5,a6,a7,a8⟩ ⟨b0,b1,b2,b3,b4,b5,b6,b7,b8⟩ h1 h2=>by cases h1;cases h2;rfl) (O,Z,aA,aB,aC,aD,aE,aF,aG)
end
@[go_sem] abbrev G1:Nat×pY:=(253,⟨[.p rH [11,13]],aDq,[(0,12,.m)],[1,2,3],none⟩)
theorem a5n:qE Tryz.prog [] (qC [aDf]):=⟨trivial,pK aKs qT,qH⟩
theorem UH:qI Tryz.prog G1:=by
 refine qS a5n Tryz.func253 (c:=_) rfl (N:=5) (by kernel_rfl) (ts:=[(2,none)]) rfl (fun _ _=>rfl) ?_;intro⟨O,Z,aA,aB,aC,aD,aE,aF,aG⟩ hs hrow;dsimp only[a5k,a5l,a5m,qK,pM,pV,qG,qO,Nat.reduceAdd] at hs hrow⊢;obtain⟨rfl,rfl,hz⟩:=hs;obtain⟨z0,hC0⟩:=aQn.1 hz
 try rw[r8 hC0]
 clear hz;unfold xJ at hC0;refine p8 a5n ?_;obtain⟨aH,hv1,hw1,hC0⟩:=pT hC0
 try simp only[go_sem] at hw1
 refine p8 a5n ?_ (hp:=by exact⟨by first|rfl|trivial,by first|rfl|trivial,by first|rfl|trivial,by first|rfl|trivial,by first|rfl|trivial,(pS hv1)⟩) (h:=by simp only[go_sem,hw1];rfl)
 refine pI ?_;cases hC0;exact⟨[(0,0),(1,1),(2,2),(3,3)],by rfl,by rfl,by rfl⟩
attribute [irreducible] xJ
end
noncomputable section
def AA (O:((List UInt8)×(Int×Unit))) (Z:rJ) (aA:Int) (aB:Int) (aC:rC) (aD:((List Int)×(Int×Unit))) (aE:(List UInt8)) (aF:(List UInt8)) (aG:(List UInt8)) (aH:(List (List UInt8))) (aI:(Int×((List pR)×Unit))) (aJ:Bool) (aK:(List ((List UInt8)×Bool))) (aL:(List (List UInt8))) (aM:(List ((List UInt8)×Bool))):Option (Int×Int×(List UInt8)×Int×Int×Int×Int×Int×Int):=(zG O Z aA aB aC aD aE aF aG aH aI aJ aK aL aM).bind fun aN=>(zJ (O.1,(aN.1,())) (aN.2.1,(aN.2.2.1,(aN.2.2.2.1,(aN.2.2.2.2.1,())))) aN.2.2.2.2.2.1 aN.2.2.2.2.2.2.1 (aC.1,(aC.2.1,(aC.2.2.1,(aC.2.2.2.1,())))) (aD.1,(aN.2.2.2.2.2.2.2,())) (2:Int) false aK).bind fun aO=>(BR ([([110,101,119]:List UInt8),([102,117,122,122,121]:List UInt8),([116,114,97,110,115,108,97,116,101,100]:List UInt8),([114,101,118,105,101,119,101,100]:List UInt8),([111,98,115,111,108,101,116,101]:List UInt8)]:List (List UInt8)) aN.2.2.1).bind fun aP=>some ((aO.1,aO.2.1,aO.2.2.1,aO.2.2.2.1,aO.2.2.2.2.1,aO.2.2.2.2.2.1,aO.2.2.2.2.2.2.1,aO.2.2.2.2.2.2.2,(max (0:Int) aP)))
section
variable (O:((List UInt8)×(Int×Unit))) (Z:rJ) (aA:Int) (aB:Int) (aC:rC) (aD:((List Int)×(Int×Unit))) (aE:Nat) (aF:Nat) (aG:(List UInt8)) (aH:(List UInt8)) (aI:(List UInt8)) (aJ:(List (List UInt8))) (aK:Nat) (aL:(Int×((List pR)×Unit))) (aM:Bool) (aN:Nat) (aO:Nat) (aP:(List ((List UInt8)×Bool))) (aQ:(List (List UInt8))) (aR:Nat) (aS:(List ((List UInt8)×Bool)))
abbrev a5o:List pA:=[(.val .ref (some (0,0)),none),(.val .ref (some (3,0)),none)]
abbrev a5p:List p9:=[.cells rH (O,(Z,(aA,(aB,(aC,((some 6),aD)))))) [(11,1),(13,2)],.grow 55 7 aE,.grow 3 1 aF,.cells sJ ((aG,(aH,(aI,(aJ,((some (7,aK)),aL))))),(aM,((some 8),()))) [(3,4),(6,5)],.grow 9 1 aN,.grow 149 2 aO,.map .str .bool aP,.row 9 .str aQ aR,.map .str .bool aS]
@[go_sem] def a5q:pF:=⟨[aE=(aC.2.2.2.1.length),aF=(aD.1.length),aN=(aJ.length),aO=(aL.2.1.length),aK=aR,((AA O Z aA aB aC aD aG aH aI aJ aL aM aP aQ aS)).isSome=true],[],[.cells rH ((O.1,((val (AA O Z aA aB aC aD aG aH aI aJ aL aM aP aQ aS)).1,())),(((val (AA O Z aA aB aC aD aG aH aI aJ aL aM aP aQ aS)).2.1,((val (AA O Z aA aB aC aD aG aH aI aJ aL aM aP aQ aS)).2.2.1,((val (AA O Z aA aB aC aD aG aH aI aJ aL aM aP aQ aS)).2.2.2.1,((val (AA O Z aA aB aC aD aG aH aI aJ aL aM aP aQ aS)).2.2.2.2.1,())))),((val (AA O Z aA aB aC aD aG aH aI aJ aL aM aP aQ aS)).2.2.2.2.2.1,((val (AA O Z aA aB aC aD aG aH aI aJ aL aM aP aQ aS)).2.2.2.2.2.2.1,((aC.1,(aC.2.1,(aC.2.2.1,(aC.2.2.2.1,())))),((some 6),(aD.1,((val (AA O Z aA aB aC aD aG aH aI aJ aL aM aP aQ aS)).2.2.2.2.2.2.2.1,())))))))) [(11,1),(13,2)],.grow 55 7 (aC.2.2.2.1.length),.grow 3 1 (aD.1.length),.cells sJ ((aG,(aH,(aI,(aJ,((some (7,(aQ.length))),((val (AA O Z aA aB aC aD aG aH aI aJ aL aM aP aQ aS)).2.2.2.2.2.2.2.2,(aL.2.1,()))))))),(aM,((some 8),()))) [(3,4),(6,5)],.grow 9 1 (aJ.length),.grow 149 2 (aL.2.1.length),.map .str .bool aP,.row 9 .str aQ (aQ.length),.map .str .bool (sG .str .bool Z.2.1 true aS)]⟩
def aDr:List pA→List p9→Option pF:=qP (V:=(((List UInt8)×(Int×Unit))×rJ×Int×Int×rC×((List Int)×(Int×Unit))×Nat×Nat×(List UInt8)×(List UInt8)×(List UInt8)×(List (List UInt8))×Nat×(Int×((List pR)×Unit))×Bool×Nat×Nat×(List ((List UInt8)×Bool))×(List (List UInt8))×Nat×(List ((List UInt8)×Bool)))) (fun x=>a5o) (fun x=>a5p x.1 x.2.1 x.2.2.1 x.2.2.2.1 x.2.2.2.2.1 x.2.2.2.2.2.1 x.2.2.2.2.2.2.1 x.2.2.2.2.2.2.2.1 x.2.2.2.2.2.2.2.2.1 x.2.2.2.2.2.2.2.2.2.1 x.2.2.2.2.2.2.2.2.2.2.1 x.2.2.2.2.2.2.2.2.2.2.2.1 x.2.2.2.2.2.2.2.2.2.2.2.2.1 x.2.2.2.2.2.2.2.2.2.2.2.2.2.1 x.2.2.2.2.2.2.2.2.2.2.2.2.2.2.1 x.2.2.2.2.2.2.2.2.2.2.2.2.2.2.2.1 x.2.2.2.2.2.2.2.2.2.2.2.2.2.2.2.2.1 x.2.2.2.2.2.2.2.2.2.2.2.2.2.2.2.2.2.1 x.2.2.2.2.2.2.2.2.2.2.2.2.2.2.2.2.2.2.1 x.2.2.2.2.2.2.2.2.2.2.2.2.2.2.2.2.2.2.2.1 x.2.2.2.2.2.2.2.2.2.2.2.2.2.2.2.2.2.2.2.2) fun x=>a5q x.1 x.2.1 x.2.2.1 x.2.2.2.1 x.2.2.2.2.1 x.2.2.2.2.2.1 x.2.2.2.2.2.2.1 x.2.2.2.2.2.2.2.1 x.2.2.2.2.2.2.2.2.1 x.2.2.2.2.2.2.2.2.2.1 x.2.2.2.2.2.2.2.2.2.2.1 x.2.2.2.2.2.2.2.2.2.2.2.1 x.2.2.2.2.2.2.2.2.2.2.2.2.1 x.2.2.2.2.2.2.2.2.2.2.2.2.2.1 x.2.2.2.2.2.2.2.2.2.2.2.2.2.2.1 x.2.2.2.2.2.2.2.2.2.2.2.2.2.2.2.1 x.2.2.2.2.2.2.2.2.2.2.2.2.2.2.2.2.1 x.2.2.2.2.2.2.2.2.2.2.2.2.2.2.2.2.2.1 x.2.2.2.2.2.2.2.2.2.2.2.2.2.2.2.2.2.2.1 x.2.2.2.2.2.2.2.2.2.2.2.2.2.2.2.2.2.2.2.1 x.2.2.2.2.2.2.2.2.2.2.2.2.2.2.2.2.2.2.2.2
@[go_sem] theorem aP4:aDr (no_index a5o) (no_index (a5p O Z aA aB aC aD aE aF aG aH aI aJ aK aL aM aN aO aP aQ aR aS))=some (a5q O Z aA aB aC aD aE aF aG aH aI aJ aK aL aM aN aO aP aQ aR aS):=qR (fun⟨a0,a1,a2,a3,a4,a5,a6,a7,a8,a9,a10,a11,a12,a13,a14,a15,a16,a17,a18,a19,a20⟩ ⟨b0,b1,b2,b3,b4,b5,b6,b7,b8,b9,b10,b11,b12,b13,b14,rV,b16,b17,b18,b19,b20⟩ h1 h2=>by cases h1;cases h2;rfl) (O,Z,aA,aB,aC,aD,aE,aF,aG,aH,aI,aJ,aK,aL,aM,aN,aO,aP,aQ,aR,aS)
end
@[go_sem] abbrev a5r:Nat×pY:=(217,⟨[.p rH [11,13],.p sJ [3,6]],aDr,[(0,12,.m),(3,4,.r),(3,8,.m)],[1,2,4,5,6,7],none⟩)
theorem aDs:qE Tryz.prog [] (qC [JI,OD,a43,TS]):=⟨trivial,pK a4T (pK a0m (pK aKu (pK aBj qT))),qH⟩
theorem a5s:qE Tryz.prog [vL,D7,BQ] (qC [JI,OD,a43,TS]):=⟨⟨wE,⟨FH,⟨D6,trivial⟩⟩⟩,aDs.Γ,qH⟩
theorem aKy:qI Tryz.prog a5r:=by
 refine qS aDs Tryz.func217 (c:=_) rfl (N:=18) (by kernel_rfl) (ts:=[]) rfl (fun _ _=>rfl) ?_;intro⟨O,Z,aA,aB,aC,aD,aE,aF,aG,aH,aI,aJ,aK,aL,aM,aN,aO,aP,aQ,aR,aS⟩ hs hrow;dsimp only[a5o,a5p,a5q,qK,pM,pV,qG,qO,Nat.reduceAdd] at hs hrow⊢;obtain⟨rfl,rfl,rfl,rfl,rfl,hz⟩:=hs;obtain⟨rfl,_⟩:=hrow;obtain⟨z0,hC0⟩:=aQn.1 hz
 try rw[r8 hC0]
 clear hz;unfold AA at hC0;obtain⟨aT,hv1,hw1,hC0⟩:=pT hC0
 try simp only[go_sem] at hw1
 refine p8 a5s ?_ (hp:=by exact⟨by first|rfl|trivial,by first|rfl|trivial,by first|rfl|trivial,by first|rfl|trivial,by first|rfl|trivial,by first|rfl|trivial,by first|rfl|trivial,by first|rfl|trivial,by first|rfl|trivial,by first|rfl|trivial,by first|rfl|trivial,by first|rfl|trivial,(pS hv1)⟩) (h:=by simp only[go_sem,hw1];rfl)
 refine p8 a5s ?_;obtain⟨aU,hv2,hw2,hC0⟩:=pT hC0
 try simp only[go_sem] at hw2
 obtain⟨aV,hv3,hw3,hC0⟩:=pT hC0
 try simp only[go_sem] at hw3
 refine qU a5s ?_ (hp:=by exact⟨by first|rfl|trivial,by first|rfl|trivial,by first|rfl|trivial,by first|rfl|trivial,by first|rfl|trivial,pS hv2,(pS hv3)⟩) (h:=by simp only[go_sem,hw2,hw3];rfl)
 cases hC0;exact⟨[(0,0),(1,1),(2,2),(3,3),(4,4),(5,5),(6,6),(7,7),(8,8)],by rfl,by rfl,by rfl⟩
attribute [irreducible] AA
end
noncomputable section
def yP (O:((List UInt8)×(Int×Unit))) (Z:rJ) (aA:Int) (aB:Int) (aC:rC) (aD:((List Int)×(Int×Unit))) (aE:(List UInt8)) (aF:(List UInt8)) (aG:(List UInt8)) (aH:(List (List UInt8))) (aI:(Int×((List pR)×Unit))) (aJ:Bool) (aK:(List ((List UInt8)×Bool))) (aL:(List (List UInt8))) (aM:(List ((List UInt8)×Bool))):Option (Int×Int×(List UInt8)×Int×Int×Int×Int×Int×(List (List UInt8))):=(s7 O Z aA aB aC aD aK).bind fun aN=>(B3 (O.1,(aN.1,())) (aN.2.1,(aN.2.2.1,(aN.2.2.2.1,(aN.2.2.2.2.1,())))) aA aB (aC.1,(aC.2.1,(aC.2.2.1,(aC.2.2.2.1,())))) (aD.1,(aN.2.2.2.2.2,())) (2:Int) (decide ((((aL.length):Nat):Int)=(20:Int))) aK aE aF aG aH aI aJ aL aM).bind fun aO=>if ((aL.length)+([aN.2.2.1]:List (List UInt8)).length)*16≤140737488355328 then some ((aO.1,aO.2.1,aO.2.2.1,aO.2.2.2.1,aO.2.2.2.2.1,aO.2.2.2.2.2.1,aO.2.2.2.2.2.2.1,aO.2.2.2.2.2.2.2,(aL++([aN.2.2.1]:List (List UInt8))))) else none
section
variable (O:((List UInt8)×(Int×Unit))) (Z:rJ) (aA:Int) (aB:Int) (aC:rC) (aD:((List Int)×(Int×Unit))) (aE:Nat) (aF:Nat) (aG:(List UInt8)) (aH:(List UInt8)) (aI:(List UInt8)) (aJ:(List (List UInt8))) (aK:Nat) (aL:(Int×((List pR)×Unit))) (aM:Bool) (aN:Nat) (aO:Nat) (aP:(List ((List UInt8)×Bool))) (aQ:(List (List UInt8))) (aR:Nat) (aS:(List ((List UInt8)×Bool)))
abbrev a5t:List pA:=[(.val .ref (some (0,0)),none),(.val .ref (some (3,0)),none)]
abbrev a5u:List p9:=[.cells rH (O,(Z,(aA,(aB,(aC,((some 6),aD)))))) [(11,1),(13,2)],.grow 55 7 aE,.grow 3 1 aF,.cells sJ ((aG,(aH,(aI,(aJ,((some (7,aK)),aL))))),(aM,((some 8),()))) [(3,4),(6,5)],.grow 9 1 aN,.grow 149 2 aO,.map .str .bool aP,.row 9 .str aQ aR,.map .str .bool aS]
@[go_sem] def a5v:pF:=⟨[aE=(aC.2.2.2.1.length),aF=(aD.1.length),aN=(aJ.length),aO=(aL.2.1.length),aK=aR,((yP O Z aA aB aC aD aG aH aI aJ aL aM aP aQ aS)).isSome=true],[],[.cells rH ((O.1,((val (yP O Z aA aB aC aD aG aH aI aJ aL aM aP aQ aS)).1,())),(((val (yP O Z aA aB aC aD aG aH aI aJ aL aM aP aQ aS)).2.1,((val (yP O Z aA aB aC aD aG aH aI aJ aL aM aP aQ aS)).2.2.1,((val (yP O Z aA aB aC aD aG aH aI aJ aL aM aP aQ aS)).2.2.2.1,((val (yP O Z aA aB aC aD aG aH aI aJ aL aM aP aQ aS)).2.2.2.2.1,())))),((val (yP O Z aA aB aC aD aG aH aI aJ aL aM aP aQ aS)).2.2.2.2.2.1,((val (yP O Z aA aB aC aD aG aH aI aJ aL aM aP aQ aS)).2.2.2.2.2.2.1,((aC.1,(aC.2.1,(aC.2.2.1,(aC.2.2.2.1,())))),((some 6),(aD.1,((val (yP O Z aA aB aC aD aG aH aI aJ aL aM aP aQ aS)).2.2.2.2.2.2.2.1,())))))))) [(11,1),(13,2)],.grow 55 7 (aC.2.2.2.1.length),.grow 3 1 (aD.1.length),.cells sJ ((aG,(aH,(aI,(aJ,((some (7,(((val (yP O Z aA aB aC aD aG aH aI aJ aL aM aP aQ aS)).2.2.2.2.2.2.2.2).length))),(aL.1,(aL.2.1,()))))))),(aM,((some 8),()))) [(3,4),(6,5)],.grow 9 1 (aJ.length),.grow 149 2 (aL.2.1.length),.map .str .bool aP,.row 9 .str ((val (yP O Z aA aB aC aD aG aH aI aJ aL aM aP aQ aS)).2.2.2.2.2.2.2.2) (((val (yP O Z aA aB aC aD aG aH aI aJ aL aM aP aQ aS)).2.2.2.2.2.2.2.2).length),.map .str .bool aS]⟩
def aDt:List pA→List p9→Option pF:=qP (V:=(((List UInt8)×(Int×Unit))×rJ×Int×Int×rC×((List Int)×(Int×Unit))×Nat×Nat×(List UInt8)×(List UInt8)×(List UInt8)×(List (List UInt8))×Nat×(Int×((List pR)×Unit))×Bool×Nat×Nat×(List ((List UInt8)×Bool))×(List (List UInt8))×Nat×(List ((List UInt8)×Bool)))) (fun x=>a5t) (fun x=>a5u x.1 x.2.1 x.2.2.1 x.2.2.2.1 x.2.2.2.2.1 x.2.2.2.2.2.1 x.2.2.2.2.2.2.1 x.2.2.2.2.2.2.2.1 x.2.2.2.2.2.2.2.2.1 x.2.2.2.2.2.2.2.2.2.1 x.2.2.2.2.2.2.2.2.2.2.1 x.2.2.2.2.2.2.2.2.2.2.2.1 x.2.2.2.2.2.2.2.2.2.2.2.2.1 x.2.2.2.2.2.2.2.2.2.2.2.2.2.1 x.2.2.2.2.2.2.2.2.2.2.2.2.2.2.1 x.2.2.2.2.2.2.2.2.2.2.2.2.2.2.2.1 x.2.2.2.2.2.2.2.2.2.2.2.2.2.2.2.2.1 x.2.2.2.2.2.2.2.2.2.2.2.2.2.2.2.2.2.1 x.2.2.2.2.2.2.2.2.2.2.2.2.2.2.2.2.2.2.1 x.2.2.2.2.2.2.2.2.2.2.2.2.2.2.2.2.2.2.2.1 x.2.2.2.2.2.2.2.2.2.2.2.2.2.2.2.2.2.2.2.2) fun x=>a5v x.1 x.2.1 x.2.2.1 x.2.2.2.1 x.2.2.2.2.1 x.2.2.2.2.2.1 x.2.2.2.2.2.2.1 x.2.2.2.2.2.2.2.1 x.2.2.2.2.2.2.2.2.1 x.2.2.2.2.2.2.2.2.2.1 x.2.2.2.2.2.2.2.2.2.2.1 x.2.2.2.2.2.2.2.2.2.2.2.1 x.2.2.2.2.2.2.2.2.2.2.2.2.1 x.2.2.2.2.2.2.2.2.2.2.2.2.2.1 x.2.2.2.2.2.2.2.2.2.2.2.2.2.2.1 x.2.2.2.2.2.2.2.2.2.2.2.2.2.2.2.1 x.2.2.2.2.2.2.2.2.2.2.2.2.2.2.2.2.1 x.2.2.2.2.2.2.2.2.2.2.2.2.2.2.2.2.2.1 x.2.2.2.2.2.2.2.2.2.2.2.2.2.2.2.2.2.2.1 x.2.2.2.2.2.2.2.2.2.2.2.2.2.2.2.2.2.2.2.1 x.2.2.2.2.2.2.2.2.2.2.2.2.2.2.2.2.2.2.2.2
@[go_sem] theorem aP5:aDt (no_index a5t) (no_index (a5u O Z aA aB aC aD aE aF aG aH aI aJ aK aL aM aN aO aP aQ aR aS))=some (a5v O Z aA aB aC aD aE aF aG aH aI aJ aK aL aM aN aO aP aQ aR aS):=qR (fun⟨a0,a1,a2,a3,a4,a5,a6,a7,a8,a9,a10,a11,a12,a13,a14,a15,a16,a17,a18,a19,a20⟩ ⟨b0,b1,b2,b3,b4,b5,b6,b7,b8,b9,b10,b11,b12,b13,b14,rV,b16,b17,b18,b19,b20⟩ h1 h2=>by cases h1;cases h2;rfl) (O,Z,aA,aB,aC,aD,aE,aF,aG,aH,aI,aJ,aK,aL,aM,aN,aO,aP,aQ,aR,aS)
end
@[go_sem] abbrev a5w:Nat×pY:=(218,⟨[.p rH [11,13],.p sJ [3,6]],aDt,[(0,12,.m),(3,4,.r),(3,8,.m)],[1,2,4,5,6,8],none⟩)
theorem aDu:qE Tryz.prog [] (qC [xX,a5c]):=⟨trivial,pK DE (pK aKw qT),qH⟩
theorem UI:qE Tryz.prog [vX,D7,L9,BQ] (qC [xX,a5c]):=⟨⟨wP,⟨FH,⟨TD,⟨D6,trivial⟩⟩⟩⟩,aDu.Γ,qH⟩
theorem aKz:qI Tryz.prog a5w:=by
 refine qS aDu Tryz.func218 (c:=_) rfl (N:=29) (by kernel_rfl) (ts:=[]) rfl (fun _ _=>rfl) ?_;intro⟨O,Z,aA,aB,aC,aD,aE,aF,aG,aH,aI,aJ,aK,aL,aM,aN,aO,aP,aQ,aR,aS⟩ hs hrow;dsimp only[a5t,a5u,a5v,qK,pM,pV,qG,qO,Nat.reduceAdd] at hs hrow⊢;obtain⟨rfl,rfl,rfl,rfl,rfl,hz⟩:=hs;obtain⟨rfl,_⟩:=hrow;obtain⟨z0,hC0⟩:=aQn.1 hz
 try rw[r8 hC0]
 clear hz;unfold yP at hC0;refine p8 UI ?_;obtain⟨aT,hv1,hw1,hC0⟩:=pT hC0
 try simp only[go_sem] at hw1
 refine p8 UI ?_ (hp:=by exact⟨by first|rfl|trivial,by first|rfl|trivial,by first|rfl|trivial,by first|rfl|trivial,by first|rfl|trivial,(pS hv1)⟩) (h:=by simp only[go_sem,hw1];rfl)
 refine p8 UI ?_;obtain⟨aU,hv2,hw2,hC0⟩:=pT hC0
 try simp only[go_sem] at hw2
 obtain⟨hg3,hC0⟩:=pG hC0;refine FA UI ?_ (hp:=by exact⟨by first|rfl|trivial,by first|rfl|trivial,by first|rfl|trivial,by first|rfl|trivial,by first|rfl|trivial,by first|rfl|trivial,by first|rfl|trivial,by first|rfl|trivial,by first|rfl|trivial,by first|rfl|trivial,by first|rfl|trivial,by first|rfl|trivial,by first|rfl|trivial,by first|rfl|trivial,pS hv2,by first|rfl|trivial,hg3⟩) (h:=by simp only[go_sem,hw2];rfl)
 cases hC0;exact⟨[(0,0),(1,1),(2,2),(3,3),(4,4),(5,5),(6,6),(7,7),(8,8)],by rfl,by rfl,by rfl⟩
attribute [irreducible] yP
def v6 (O:(List UInt8)) (Z:(Int×Int×Int×(List UInt8)×(List (List UInt8))×(List pR)×(List Int))):(Int×Int×Int×(List rG)×(List Int))→Option ((Int×Int×Int×(List rG)×(List Int))⊕(Int×Int×Int×(List rG)×(List Int))):=fun(aA,aB,aC,aD,aE)=>if (((decide (aC=(0:Int)))==true)=true→((LO O aA)).isSome=true) then if ((decide (aC=(0:Int)))&&(decide ((val (LO O aA))<(O.length:Int))))=true then (HH (O,(aA,(aB,(aC,((Z.2.2.2.1,(Z.2.2.2.2.1,(Z.2.2.2.2.2.1,(aD,())))),(aE,()))))))).bind fun aF=>some (.inl (aF.1,aF.2.1,aF.2.2.1,aF.2.2.2.1,aF.2.2.2.2)) else some (.inr (aA,aB,aC,aD,aE)) else none
def G2 (O:(List UInt8)):Option ((List UInt8)×(List (List UInt8))×(List pR)×(List rG)×(List Int)×Int×Int):=(EH (O,((0:Int),((0:Int),((0:Int),((([]:List UInt8),(([]:List (List UInt8)),(([]:List pR),(([]:List rG),())))),(([]:List Int),()))))))).bind fun Z=>qZ (pU (v6 O Z) (Z.1,Z.2.1,Z.2.2.1,([]:List rG),Z.2.2.2.2.2.2)) fun(aA,aB,aC,aD,aE)=>if (!decide (aC=(0:Int)))=true then some ((([]:List UInt8),([]:List (List UInt8)),([]:List pR),([]:List rG),([]:List Int),aB,aC)) else some ((Z.2.2.2.1,Z.2.2.2.2.1,Z.2.2.2.2.2.1,aD,aE,(0:Int),(0:Int)))
attribute [irreducible] G2
def PN (O:(List UInt8)):Option ((List UInt8)×(List (List UInt8))×(List pR)×(List rG)×Int×Int):=(G2 O).bind fun Z=>some ((Z.1,Z.2.1,Z.2.2.1,Z.2.2.2.1,Z.2.2.2.2.2.1,Z.2.2.2.2.2.2))
attribute [irreducible] PN
end
noncomputable section
def xY (O:((List UInt8)×(Int×Unit))) (Z:rJ) (aA:Int) (aB:Int) (aC:rC) (aD:((List Int)×(Int×Unit))) (aE:(List UInt8)) (aF:(List UInt8)) (aG:(List UInt8)) (aH:(List (List UInt8))) (aI:(Int×((List pR)×Unit))) (aJ:Bool) (aK:(List ((List UInt8)×Bool))) (aL:(List (List UInt8))) (aM:(List ((List UInt8)×Bool))):Option (Int×Int×(List UInt8)×Int×Int×Int×Int×Int×(List (List UInt8))):=qZ (σ:=(Int×Int)) (if (decide ((aH.length:Int)=(20:Int)))=true then rE (tM O Z aA aB aC aD (6:Int) aK) fun aN=>some ((aN.1,aN.2)) else some ((aA,aB)) ) fun(aO,aP)=>(s7 (O.1,(O.2.1,())) (Z.1,(Z.2.1,(Z.2.2.1,(Z.2.2.2.1,())))) aO aP (aC.1,(aC.2.1,(aC.2.2.1,(aC.2.2.2.1,())))) (aD.1,(aD.2.1,())) aK).bind fun aQ=>(xJ (O.1,(aQ.1,())) (aQ.2.1,(aQ.2.2.1,(aQ.2.2.2.1,(aQ.2.2.2.2.1,())))) aO aP (aC.1,(aC.2.1,(aC.2.2.1,(aC.2.2.2.1,())))) (aD.1,(aQ.2.2.2.2.2,())) aK).bind fun aR=>if (aH.length+([aQ.2.2.1]:List (List UInt8)).length)*16≤140737488355328 then some ((aR.1,aR.2.1,aR.2.2.1,aR.2.2.2.1,aR.2.2.2.2.1,aR.2.2.2.2.2.1,aR.2.2.2.2.2.2.1,aR.2.2.2.2.2.2.2,(aH++([aQ.2.2.1]:List (List UInt8))))) else none
section
variable (O:((List UInt8)×(Int×Unit))) (Z:rJ) (aA:Int) (aB:Int) (aC:rC) (aD:((List Int)×(Int×Unit))) (aE:Nat) (aF:Nat) (aG:(List UInt8)) (aH:(List UInt8)) (aI:(List UInt8)) (aJ:(List (List UInt8))) (aK:Nat) (aL:(Int×((List pR)×Unit))) (aM:Bool) (aN:Nat) (aO:Nat) (aP:(List ((List UInt8)×Bool))) (aQ:(List (List UInt8))) (aR:Nat) (aS:(List ((List UInt8)×Bool)))
abbrev a5x:List pA:=[(.val .ref (some (0,0)),none),(.val .ref (some (3,0)),none)]
abbrev a5y:List p9:=[.cells rH (O,(Z,(aA,(aB,(aC,((some 6),aD)))))) [(11,1),(13,2)],.grow 55 7 aE,.grow 3 1 aF,.cells sJ ((aG,(aH,(aI,(aJ,((some (7,aK)),aL))))),(aM,((some 8),()))) [(3,4),(6,5)],.grow 9 1 aN,.grow 149 2 aO,.map .str .bool aP,.row 9 .str aQ aR,.map .str .bool aS]
@[go_sem] def a5z:pF:=⟨[aE=(aC.2.2.2.1.length),aF=(aD.1.length),aN=(aJ.length),aO=(aL.2.1.length),aK=aR,((xY O Z aA aB aC aD aG aH aI aJ aL aM aP aQ aS)).isSome=true],[],[.cells rH ((O.1,((val (xY O Z aA aB aC aD aG aH aI aJ aL aM aP aQ aS)).1,())),(((val (xY O Z aA aB aC aD aG aH aI aJ aL aM aP aQ aS)).2.1,((val (xY O Z aA aB aC aD aG aH aI aJ aL aM aP aQ aS)).2.2.1,((val (xY O Z aA aB aC aD aG aH aI aJ aL aM aP aQ aS)).2.2.2.1,((val (xY O Z aA aB aC aD aG aH aI aJ aL aM aP aQ aS)).2.2.2.2.1,())))),((val (xY O Z aA aB aC aD aG aH aI aJ aL aM aP aQ aS)).2.2.2.2.2.1,((val (xY O Z aA aB aC aD aG aH aI aJ aL aM aP aQ aS)).2.2.2.2.2.2.1,((aC.1,(aC.2.1,(aC.2.2.1,(aC.2.2.2.1,())))),((some 6),(aD.1,((val (xY O Z aA aB aC aD aG aH aI aJ aL aM aP aQ aS)).2.2.2.2.2.2.2.1,())))))))) [(11,1),(13,2)],.grow 55 7 (aC.2.2.2.1.length),.grow 3 1 (aD.1.length),.cells sJ ((aG,(aH,(aI,((val (xY O Z aA aB aC aD aG aH aI aJ aL aM aP aQ aS)).2.2.2.2.2.2.2.2,((some (7,(aQ.length))),(aL.1,(aL.2.1,()))))))),(aM,((some 8),()))) [(3,4),(6,5)],.grow 9 1 (((val (xY O Z aA aB aC aD aG aH aI aJ aL aM aP aQ aS)).2.2.2.2.2.2.2.2).length),.grow 149 2 (aL.2.1.length),.map .str .bool aP,.row 9 .str aQ (aQ.length),.map .str .bool aS]⟩
def aDv:List pA→List p9→Option pF:=qP (V:=(((List UInt8)×(Int×Unit))×rJ×Int×Int×rC×((List Int)×(Int×Unit))×Nat×Nat×(List UInt8)×(List UInt8)×(List UInt8)×(List (List UInt8))×Nat×(Int×((List pR)×Unit))×Bool×Nat×Nat×(List ((List UInt8)×Bool))×(List (List UInt8))×Nat×(List ((List UInt8)×Bool)))) (fun x=>a5x) (fun x=>a5y x.1 x.2.1 x.2.2.1 x.2.2.2.1 x.2.2.2.2.1 x.2.2.2.2.2.1 x.2.2.2.2.2.2.1 x.2.2.2.2.2.2.2.1 x.2.2.2.2.2.2.2.2.1 x.2.2.2.2.2.2.2.2.2.1 x.2.2.2.2.2.2.2.2.2.2.1 x.2.2.2.2.2.2.2.2.2.2.2.1 x.2.2.2.2.2.2.2.2.2.2.2.2.1 x.2.2.2.2.2.2.2.2.2.2.2.2.2.1 x.2.2.2.2.2.2.2.2.2.2.2.2.2.2.1 x.2.2.2.2.2.2.2.2.2.2.2.2.2.2.2.1 x.2.2.2.2.2.2.2.2.2.2.2.2.2.2.2.2.1 x.2.2.2.2.2.2.2.2.2.2.2.2.2.2.2.2.2.1 x.2.2.2.2.2.2.2.2.2.2.2.2.2.2.2.2.2.2.1 x.2.2.2.2.2.2.2.2.2.2.2.2.2.2.2.2.2.2.2.1 x.2.2.2.2.2.2.2.2.2.2.2.2.2.2.2.2.2.2.2.2) fun x=>a5z x.1 x.2.1 x.2.2.1 x.2.2.2.1 x.2.2.2.2.1 x.2.2.2.2.2.1 x.2.2.2.2.2.2.1 x.2.2.2.2.2.2.2.1 x.2.2.2.2.2.2.2.2.1 x.2.2.2.2.2.2.2.2.2.1 x.2.2.2.2.2.2.2.2.2.2.1 x.2.2.2.2.2.2.2.2.2.2.2.1 x.2.2.2.2.2.2.2.2.2.2.2.2.1 x.2.2.2.2.2.2.2.2.2.2.2.2.2.1 x.2.2.2.2.2.2.2.2.2.2.2.2.2.2.1 x.2.2.2.2.2.2.2.2.2.2.2.2.2.2.2.1 x.2.2.2.2.2.2.2.2.2.2.2.2.2.2.2.2.1 x.2.2.2.2.2.2.2.2.2.2.2.2.2.2.2.2.2.1 x.2.2.2.2.2.2.2.2.2.2.2.2.2.2.2.2.2.2.1 x.2.2.2.2.2.2.2.2.2.2.2.2.2.2.2.2.2.2.2.1 x.2.2.2.2.2.2.2.2.2.2.2.2.2.2.2.2.2.2.2.2
@[go_sem] theorem aP6:aDv (no_index a5x) (no_index (a5y O Z aA aB aC aD aE aF aG aH aI aJ aK aL aM aN aO aP aQ aR aS))=some (a5z O Z aA aB aC aD aE aF aG aH aI aJ aK aL aM aN aO aP aQ aR aS):=qR (fun⟨a0,a1,a2,a3,a4,a5,a6,a7,a8,a9,a10,a11,a12,a13,a14,a15,a16,a17,a18,a19,a20⟩ ⟨b0,b1,b2,b3,b4,b5,b6,b7,b8,b9,b10,b11,b12,b13,b14,rV,b16,b17,b18,b19,b20⟩ h1 h2=>by cases h1;cases h2;rfl) (O,Z,aA,aB,aC,aD,aE,aF,aG,aH,aI,aJ,aK,aL,aM,aN,aO,aP,aQ,aR,aS)
end
@[go_sem] abbrev a5A:Nat×pY:=(213,⟨[.p rH [11,13],.p sJ [3,6]],aDv,[(0,12,.m),(3,4,.r),(3,8,.m)],[1,2,5,6,7,8],none⟩)
theorem aDw:qE Tryz.prog [] (qC [zF,xX,G1]):=⟨trivial,pK EB (pK DE (pK UH qT)),qH⟩
theorem UJ:qE Tryz.prog [vX,D7,BQ] (qC [zF,xX,G1]):=⟨⟨wP,⟨FH,⟨D6,trivial⟩⟩⟩,aDw.Γ,qH⟩
theorem aKA:qI Tryz.prog a5A:=by
 refine qS aDw Tryz.func213 (c:=_) rfl (N:=28) (by kernel_rfl) (ts:=[]) rfl (fun _ _=>rfl) ?_;intro⟨O,Z,aA,aB,aC,aD,aE,aF,aG,aH,aI,aJ,aK,aL,aM,aN,aO,aP,aQ,aR,aS⟩ hs hrow;dsimp only[a5x,a5y,a5z,qK,pM,pV,qG,qO,Nat.reduceAdd] at hs hrow⊢;obtain⟨rfl,rfl,rfl,rfl,rfl,hz⟩:=hs;obtain⟨rfl,_⟩:=hrow;obtain⟨z0,hC0⟩:=aQn.1 hz
 try rw[r8 hC0]
 clear hz;unfold xY at hC0;refine pW ?_;refine p8 UJ ?_;obtain⟨y1,hC1,hC0⟩:=pD hC0;refine CD (fun s=>s=(fun x=>⟨[(0,(.val .ref (some (0,0)),none)),(1,(.val .ref (some (3,0)),none))],[(0,.cells rH ((O.1,(O.2.1,())),((Z.1,(Z.2.1,(Z.2.2.1,(Z.2.2.2.1,())))),(x.1,(x.2,((aC.1,(aC.2.1,(aC.2.2.1,(aC.2.2.2.1,())))),((some 6),(aD.1,(aD.2.1,())))))))) [(11,1),(13,2)]),(1,.grow 55 7 (aC.2.2.2.1.length)),(2,.grow 3 1 (aD.1.length)),(3,.cells sJ ((aG,(aH,(aI,(aJ,((some (7,(aQ.length))),(aL.1,(aL.2.1,()))))))),(aM,((some 8),()))) [(3,4),(6,5)]),(4,.grow 9 1 (aJ.length)),(5,.grow 149 2 (aL.2.1.length)),(6,.map .str .bool aP),(7,.row 9 .str aQ (aQ.length)),(8,.map .str .bool aS)],9,28,9⟩) y1) ?_ ?_
 ·refine pP hC1 (fun hC1 hc1=> ?_) (fun hC1 hc1=> ?_)
  ·obtain⟨aT,hw_40,hC1⟩:=vI hC1
   try simp only[go_sem] at hw_40
   refine qU UJ ?_ (hp:=by exact⟨by first|rfl|trivial,by first|rfl|trivial,by first|rfl|trivial,by first|rfl|trivial,(by first|rfl|trivial)⟩) (h:=by simp only[go_sem,hw_40];rfl)
   cases hC1;exact uP ⟨⟨[0,1],[(0,0),(1,1),(2,2),(3,3),(4,4),(5,5),(6,6),(7,7),(8,8)]⟩,by rfl⟩
  ·refine qM ?_;cases hC1;exact uP ⟨⟨[0,1],[(0,0),(1,1),(2,2),(3,3),(4,4),(5,5),(6,6),(7,7),(8,8)]⟩,by rfl⟩
 ·rintro _ rfl;obtain⟨aU,aV⟩:=y1;dsimp only at hC0⊢;refine pN ?_;obtain⟨aW,hv1,hw1,hC0⟩:=pT hC0
  try simp only[go_sem] at hw1
  refine p8 UJ ?_ (hp:=by exact⟨by first|rfl|trivial,by first|rfl|trivial,by first|rfl|trivial,by first|rfl|trivial,by first|rfl|trivial,(pS hv1)⟩) (h:=by simp only[go_sem,hw1];rfl)
  obtain⟨aX,hv2,hw2,hC0⟩:=pT hC0
  try simp only[go_sem] at hw2
  obtain⟨hg3,hC0⟩:=pG hC0;refine FA UJ ?_ (hp:=by exact⟨by first|rfl|trivial,by first|rfl|trivial,by first|rfl|trivial,by first|rfl|trivial,by first|rfl|trivial,pS hv2,by first|rfl|trivial,hg3⟩) (h:=by simp only[go_sem,hw2];rfl)
  cases hC0;exact⟨[(0,0),(1,1),(2,2),(3,3),(4,4),(5,5),(6,6),(7,7),(8,8)],by rfl,by rfl,by rfl⟩
attribute [irreducible] xY
def zN (O:((List UInt8)×(Int×Unit))) (Z:rJ) (aA:Int) (aB:Int) (aC:rC) (aD:((List Int)×(Int×Unit))) (aE:(List UInt8)) (aF:(List UInt8)) (aG:(List UInt8)) (aH:(List (List UInt8))) (aI:(Int×((List pR)×Unit))) (aJ:Bool) (aK:(List ((List UInt8)×Bool))) (aL:(List (List UInt8))) (aM:(List ((List UInt8)×Bool))):Option (Int×Int×(List UInt8)×Int×Int×Int×Int×Int×(List pR)):=(s7 O Z aA aB aC aD aK).bind fun aN=>(B2 (O.1,(aN.1,())) (aN.2.1,(aN.2.2.1,(aN.2.2.2.1,(aN.2.2.2.2.1,())))) aA aB (aC.1,(aC.2.1,(aC.2.2.1,(aC.2.2.2.1,())))) (aD.1,(aN.2.2.2.2.2,())) (1:Int) (decide ((aI.2.1.length:Int)=(20:Int))) aK aE aF aG aH aI aJ aL aM).bind fun aO=>(xJ (O.1,(aO.1,())) (aO.2.1,(aO.2.2.1,(aO.2.2.2.1,(aO.2.2.2.2.1,())))) aO.2.2.2.2.2.1 aO.2.2.2.2.2.2.1 (aC.1,(aC.2.1,(aC.2.2.1,(aC.2.2.2.1,())))) (aD.1,(aO.2.2.2.2.2.2.2,())) aK).bind fun aP=>(H8 aI.2.1 aN.2.2.1 aO.2.2.1).bind fun aQ=>some ((aP.1,aP.2.1,aP.2.2.1,aP.2.2.2.1,aP.2.2.2.2.1,aP.2.2.2.2.2.1,aP.2.2.2.2.2.2.1,aP.2.2.2.2.2.2.2,aQ))
section
variable (O:((List UInt8)×(Int×Unit))) (Z:rJ) (aA:Int) (aB:Int) (aC:rC) (aD:((List Int)×(Int×Unit))) (aE:Nat) (aF:Nat) (aG:(List UInt8)) (aH:(List UInt8)) (aI:(List UInt8)) (aJ:(List (List UInt8))) (aK:Nat) (aL:(Int×((List pR)×Unit))) (aM:Bool) (aN:Nat) (aO:Nat) (aP:(List ((List UInt8)×Bool))) (aQ:(List (List UInt8))) (aR:Nat) (aS:(List ((List UInt8)×Bool)))
abbrev a5B:List pA:=[(.val .ref (some (0,0)),none),(.val .ref (some (3,0)),none)]
abbrev a5C:List p9:=[.cells rH (O,(Z,(aA,(aB,(aC,((some 6),aD)))))) [(11,1),(13,2)],.grow 55 7 aE,.grow 3 1 aF,.cells sJ ((aG,(aH,(aI,(aJ,((some (7,aK)),aL))))),(aM,((some 8),()))) [(3,4),(6,5)],.grow 9 1 aN,.grow 149 2 aO,.map .str .bool aP,.row 9 .str aQ aR,.map .str .bool aS]
@[go_sem] def a5D:pF:=⟨[aE=(aC.2.2.2.1.length),aF=(aD.1.length),aN=(aJ.length),aO=(aL.2.1.length),aK=aR,((zN O Z aA aB aC aD aG aH aI aJ aL aM aP aQ aS)).isSome=true],[],[.cells rH ((O.1,((val (zN O Z aA aB aC aD aG aH aI aJ aL aM aP aQ aS)).1,())),(((val (zN O Z aA aB aC aD aG aH aI aJ aL aM aP aQ aS)).2.1,((val (zN O Z aA aB aC aD aG aH aI aJ aL aM aP aQ aS)).2.2.1,((val (zN O Z aA aB aC aD aG aH aI aJ aL aM aP aQ aS)).2.2.2.1,((val (zN O Z aA aB aC aD aG aH aI aJ aL aM aP aQ aS)).2.2.2.2.1,())))),((val (zN O Z aA aB aC aD aG aH aI aJ aL aM aP aQ aS)).2.2.2.2.2.1,((val (zN O Z aA aB aC aD aG aH aI aJ aL aM aP aQ aS)).2.2.2.2.2.2.1,((aC.1,(aC.2.1,(aC.2.2.1,(aC.2.2.2.1,())))),((some 6),(aD.1,((val (zN O Z aA aB aC aD aG aH aI aJ aL aM aP aQ aS)).2.2.2.2.2.2.2.1,())))))))) [(11,1),(13,2)],.grow 55 7 (aC.2.2.2.1.length),.grow 3 1 (aD.1.length),.cells sJ ((aG,(aH,(aI,(aJ,((some (7,(aQ.length))),(aL.1,((val (zN O Z aA aB aC aD aG aH aI aJ aL aM aP aQ aS)).2.2.2.2.2.2.2.2,()))))))),(aM,((some 8),()))) [(3,4),(6,9)],.grow 9 1 (aJ.length),.grow 149 2 (aL.2.1.length),.map .str .bool aP,.row 9 .str aQ (aQ.length),.map .str .bool aS,.grow 149 2 (((val (zN O Z aA aB aC aD aG aH aI aJ aL aM aP aQ aS)).2.2.2.2.2.2.2.2).length)]⟩
def aDx:List pA→List p9→Option pF:=qP (V:=(((List UInt8)×(Int×Unit))×rJ×Int×Int×rC×((List Int)×(Int×Unit))×Nat×Nat×(List UInt8)×(List UInt8)×(List UInt8)×(List (List UInt8))×Nat×(Int×((List pR)×Unit))×Bool×Nat×Nat×(List ((List UInt8)×Bool))×(List (List UInt8))×Nat×(List ((List UInt8)×Bool)))) (fun x=>a5B) (fun x=>a5C x.1 x.2.1 x.2.2.1 x.2.2.2.1 x.2.2.2.2.1 x.2.2.2.2.2.1 x.2.2.2.2.2.2.1 x.2.2.2.2.2.2.2.1 x.2.2.2.2.2.2.2.2.1 x.2.2.2.2.2.2.2.2.2.1 x.2.2.2.2.2.2.2.2.2.2.1 x.2.2.2.2.2.2.2.2.2.2.2.1 x.2.2.2.2.2.2.2.2.2.2.2.2.1 x.2.2.2.2.2.2.2.2.2.2.2.2.2.1 x.2.2.2.2.2.2.2.2.2.2.2.2.2.2.1 x.2.2.2.2.2.2.2.2.2.2.2.2.2.2.2.1 x.2.2.2.2.2.2.2.2.2.2.2.2.2.2.2.2.1 x.2.2.2.2.2.2.2.2.2.2.2.2.2.2.2.2.2.1 x.2.2.2.2.2.2.2.2.2.2.2.2.2.2.2.2.2.2.1 x.2.2.2.2.2.2.2.2.2.2.2.2.2.2.2.2.2.2.2.1 x.2.2.2.2.2.2.2.2.2.2.2.2.2.2.2.2.2.2.2.2) fun x=>a5D x.1 x.2.1 x.2.2.1 x.2.2.2.1 x.2.2.2.2.1 x.2.2.2.2.2.1 x.2.2.2.2.2.2.1 x.2.2.2.2.2.2.2.1 x.2.2.2.2.2.2.2.2.1 x.2.2.2.2.2.2.2.2.2.1 x.2.2.2.2.2.2.2.2.2.2.1 x.2.2.2.2.2.2.2.2.2.2.2.1 x.2.2.2.2.2.2.2.2.2.2.2.2.1 x.2.2.2.2.2.2.2.2.2.2.2.2.2.1 x.2.2.2.2.2.2.2.2.2.2.2.2.2.2.1 x.2.2.2.2.2.2.2.2.2.2.2.2.2.2.2.1 x.2.2.2.2.2.2.2.2.2.2.2.2.2.2.2.2.1 x.2.2.2.2.2.2.2.2.2.2.2.2.2.2.2.2.2.1 x.2.2.2.2.2.2.2.2.2.2.2.2.2.2.2.2.2.2.1 x.2.2.2.2.2.2.2.2.2.2.2.2.2.2.2.2.2.2.2.1 x.2.2.2.2.2.2.2.2.2.2.2.2.2.2.2.2.2.2.2.2
@[go_sem] theorem aP7:aDx (no_index a5B) (no_index (a5C O Z aA aB aC aD aE aF aG aH aI aJ aK aL aM aN aO aP aQ aR aS))=some (a5D O Z aA aB aC aD aE aF aG aH aI aJ aK aL aM aN aO aP aQ aR aS):=qR (fun⟨a0,a1,a2,a3,a4,a5,a6,a7,a8,a9,a10,a11,a12,a13,a14,a15,a16,a17,a18,a19,a20⟩ ⟨b0,b1,b2,b3,b4,b5,b6,b7,b8,b9,b10,b11,b12,b13,b14,rV,b16,b17,b18,b19,b20⟩ h1 h2=>by cases h1;cases h2;rfl) (O,Z,aA,aB,aC,aD,aE,aF,aG,aH,aI,aJ,aK,aL,aM,aN,aO,aP,aQ,aR,aS)
end
@[go_sem] abbrev a5E:Nat×pY:=(214,⟨[.p rH [11,13],.p sJ [3,6]],aDx,[(0,12,.m),(3,4,.r),(3,8,.m)],[1,2,4,5,6,7,8],none⟩)
theorem aDy:qE Tryz.prog [] (qC [xX,a48,G1,a3k]):=⟨trivial,pK DE (pK aKv (pK UH (pK aJ9 qT))),qH⟩
theorem PO:qE Tryz.prog [AW,D7,L9,BQ] (qC [xX,a48,G1,a3k]):=⟨⟨CF,⟨FH,⟨TD,⟨D6,trivial⟩⟩⟩⟩,aDy.Γ,qH⟩
theorem aKB:qI Tryz.prog a5E:=by
 refine qS aDy Tryz.func214 (c:=_) rfl (N:=32) (by kernel_rfl) (ts:=[]) rfl (fun _ _=>rfl) ?_;intro⟨O,Z,aA,aB,aC,aD,aE,aF,aG,aH,aI,aJ,aK,aL,aM,aN,aO,aP,aQ,aR,aS⟩ hs hrow;dsimp only[a5B,a5C,a5D,qK,pM,pV,qG,qO,Nat.reduceAdd] at hs hrow⊢;obtain⟨rfl,rfl,rfl,rfl,rfl,hz⟩:=hs;obtain⟨rfl,_⟩:=hrow;obtain⟨z0,hC0⟩:=aQn.1 hz
 try rw[r8 hC0]
 clear hz;unfold zN at hC0;refine p8 PO ?_;obtain⟨aT,hv1,hw1,hC0⟩:=pT hC0
 try simp only[go_sem] at hw1
 refine p8 PO ?_ (hp:=by exact⟨by first|rfl|trivial,by first|rfl|trivial,by first|rfl|trivial,by first|rfl|trivial,by first|rfl|trivial,(pS hv1)⟩) (h:=by simp only[go_sem,hw1];rfl)
 refine p8 PO ?_;obtain⟨aU,hv2,hw2,hC0⟩:=pT hC0
 try simp only[go_sem] at hw2
 refine p8 PO ?_ (hp:=by exact⟨by first|rfl|trivial,by first|rfl|trivial,by first|rfl|trivial,by first|rfl|trivial,by first|rfl|trivial,by first|rfl|trivial,by first|rfl|trivial,by first|rfl|trivial,by first|rfl|trivial,by first|rfl|trivial,by first|rfl|trivial,by first|rfl|trivial,by first|rfl|trivial,by first|rfl|trivial,(pS hv2)⟩) (h:=by simp only[go_sem,hw2];rfl)
 obtain⟨aV,hv3,hw3,hC0⟩:=pT hC0
 try simp only[go_sem] at hw3
 obtain⟨aW,hv4,hw4,hC0⟩:=pT hC0
 try simp only[go_sem] at hw4
 refine FA PO ?_ (hp:=by exact⟨by first|rfl|trivial,by first|rfl|trivial,by first|rfl|trivial,by first|rfl|trivial,by first|rfl|trivial,pS hv3,(pS hv4)⟩) (h:=by simp only[go_sem,hw3,hw4];rfl)
 cases hC0;exact⟨[(0,0),(1,1),(2,2),(3,3),(4,4),(5,5),(6,6),(7,7),(8,8),(9,809)],by rfl,by rfl,by rfl⟩
attribute [irreducible] zN
end
noncomputable section
def AB (O:((List UInt8)×(Int×Unit))) (Z:rJ) (aA:Int) (aB:Int) (aC:rC) (aD:((List Int)×(Int×Unit))) (aE:(List UInt8)) (aF:(List UInt8)) (aG:(List UInt8)) (aH:(List (List UInt8))) (aI:(Int×((List pR)×Unit))) (aJ:Bool) (aK:(List ((List UInt8)×Bool))) (aL:(List (List UInt8))) (aM:(List ((List UInt8)×Bool))):Option (Int×Int×(List UInt8)×Int×Int×Int×Int×Int×(List UInt8)):=(zG O Z aA aB aC aD aE aF aG aH aI aJ aK aL aM).bind fun aN=>(xJ (O.1,(aN.1,())) (aN.2.1,(aN.2.2.1,(aN.2.2.2.1,(aN.2.2.2.2.1,())))) aN.2.2.2.2.2.1 aN.2.2.2.2.2.2.1 (aC.1,(aC.2.1,(aC.2.2.1,(aC.2.2.2.1,())))) (aD.1,(aN.2.2.2.2.2.2.2,())) aK).bind fun aO=>some ((aO.1,aO.2.1,aO.2.2.1,aO.2.2.2.1,aO.2.2.2.2.1,aO.2.2.2.2.2.1,aO.2.2.2.2.2.2.1,aO.2.2.2.2.2.2.2,aN.2.2.1))
section
variable (O:((List UInt8)×(Int×Unit))) (Z:rJ) (aA:Int) (aB:Int) (aC:rC) (aD:((List Int)×(Int×Unit))) (aE:Nat) (aF:Nat) (aG:(List UInt8)) (aH:(List UInt8)) (aI:(List UInt8)) (aJ:(List (List UInt8))) (aK:Nat) (aL:(Int×((List pR)×Unit))) (aM:Bool) (aN:Nat) (aO:Nat) (aP:(List ((List UInt8)×Bool))) (aQ:(List (List UInt8))) (aR:Nat) (aS:(List ((List UInt8)×Bool)))
abbrev a5F:List pA:=[(.val .ref (some (0,0)),none),(.val .ref (some (3,0)),none)]
abbrev a5G:List p9:=[.cells rH (O,(Z,(aA,(aB,(aC,((some 6),aD)))))) [(11,1),(13,2)],.grow 55 7 aE,.grow 3 1 aF,.cells sJ ((aG,(aH,(aI,(aJ,((some (7,aK)),aL))))),(aM,((some 8),()))) [(3,4),(6,5)],.grow 9 1 aN,.grow 149 2 aO,.map .str .bool aP,.row 9 .str aQ aR,.map .str .bool aS]
@[go_sem] def a5H:pF:=⟨[aE=(aC.2.2.2.1.length),aF=(aD.1.length),aN=(aJ.length),aO=(aL.2.1.length),aK=aR,((AB O Z aA aB aC aD aG aH aI aJ aL aM aP aQ aS)).isSome=true],[],[.cells rH ((O.1,((val (AB O Z aA aB aC aD aG aH aI aJ aL aM aP aQ aS)).1,())),(((val (AB O Z aA aB aC aD aG aH aI aJ aL aM aP aQ aS)).2.1,((val (AB O Z aA aB aC aD aG aH aI aJ aL aM aP aQ aS)).2.2.1,((val (AB O Z aA aB aC aD aG aH aI aJ aL aM aP aQ aS)).2.2.2.1,((val (AB O Z aA aB aC aD aG aH aI aJ aL aM aP aQ aS)).2.2.2.2.1,())))),((val (AB O Z aA aB aC aD aG aH aI aJ aL aM aP aQ aS)).2.2.2.2.2.1,((val (AB O Z aA aB aC aD aG aH aI aJ aL aM aP aQ aS)).2.2.2.2.2.2.1,((aC.1,(aC.2.1,(aC.2.2.1,(aC.2.2.2.1,())))),((some 6),(aD.1,((val (AB O Z aA aB aC aD aG aH aI aJ aL aM aP aQ aS)).2.2.2.2.2.2.2.1,())))))))) [(11,1),(13,2)],.grow 55 7 (aC.2.2.2.1.length),.grow 3 1 (aD.1.length),.cells sJ ((aG,((val (AB O Z aA aB aC aD aG aH aI aJ aL aM aP aQ aS)).2.2.2.2.2.2.2.2,(aI,(aJ,((some (7,(aQ.length))),(aL.1,(aL.2.1,()))))))),(aM,((some 8),()))) [(3,4),(6,5)],.grow 9 1 (aJ.length),.grow 149 2 (aL.2.1.length),.map .str .bool aP,.row 9 .str aQ (aQ.length),.map .str .bool (sG .str .bool Z.2.1 true aS)]⟩
def aDz:List pA→List p9→Option pF:=qP (V:=(((List UInt8)×(Int×Unit))×rJ×Int×Int×rC×((List Int)×(Int×Unit))×Nat×Nat×(List UInt8)×(List UInt8)×(List UInt8)×(List (List UInt8))×Nat×(Int×((List pR)×Unit))×Bool×Nat×Nat×(List ((List UInt8)×Bool))×(List (List UInt8))×Nat×(List ((List UInt8)×Bool)))) (fun x=>a5F) (fun x=>a5G x.1 x.2.1 x.2.2.1 x.2.2.2.1 x.2.2.2.2.1 x.2.2.2.2.2.1 x.2.2.2.2.2.2.1 x.2.2.2.2.2.2.2.1 x.2.2.2.2.2.2.2.2.1 x.2.2.2.2.2.2.2.2.2.1 x.2.2.2.2.2.2.2.2.2.2.1 x.2.2.2.2.2.2.2.2.2.2.2.1 x.2.2.2.2.2.2.2.2.2.2.2.2.1 x.2.2.2.2.2.2.2.2.2.2.2.2.2.1 x.2.2.2.2.2.2.2.2.2.2.2.2.2.2.1 x.2.2.2.2.2.2.2.2.2.2.2.2.2.2.2.1 x.2.2.2.2.2.2.2.2.2.2.2.2.2.2.2.2.1 x.2.2.2.2.2.2.2.2.2.2.2.2.2.2.2.2.2.1 x.2.2.2.2.2.2.2.2.2.2.2.2.2.2.2.2.2.2.1 x.2.2.2.2.2.2.2.2.2.2.2.2.2.2.2.2.2.2.2.1 x.2.2.2.2.2.2.2.2.2.2.2.2.2.2.2.2.2.2.2.2) fun x=>a5H x.1 x.2.1 x.2.2.1 x.2.2.2.1 x.2.2.2.2.1 x.2.2.2.2.2.1 x.2.2.2.2.2.2.1 x.2.2.2.2.2.2.2.1 x.2.2.2.2.2.2.2.2.1 x.2.2.2.2.2.2.2.2.2.1 x.2.2.2.2.2.2.2.2.2.2.1 x.2.2.2.2.2.2.2.2.2.2.2.1 x.2.2.2.2.2.2.2.2.2.2.2.2.1 x.2.2.2.2.2.2.2.2.2.2.2.2.2.1 x.2.2.2.2.2.2.2.2.2.2.2.2.2.2.1 x.2.2.2.2.2.2.2.2.2.2.2.2.2.2.2.1 x.2.2.2.2.2.2.2.2.2.2.2.2.2.2.2.2.1 x.2.2.2.2.2.2.2.2.2.2.2.2.2.2.2.2.2.1 x.2.2.2.2.2.2.2.2.2.2.2.2.2.2.2.2.2.2.1 x.2.2.2.2.2.2.2.2.2.2.2.2.2.2.2.2.2.2.2.1 x.2.2.2.2.2.2.2.2.2.2.2.2.2.2.2.2.2.2.2.2
@[go_sem] theorem aP8:aDz (no_index a5F) (no_index (a5G O Z aA aB aC aD aE aF aG aH aI aJ aK aL aM aN aO aP aQ aR aS))=some (a5H O Z aA aB aC aD aE aF aG aH aI aJ aK aL aM aN aO aP aQ aR aS):=qR (fun⟨a0,a1,a2,a3,a4,a5,a6,a7,a8,a9,a10,a11,a12,a13,a14,a15,a16,a17,a18,a19,a20⟩ ⟨b0,b1,b2,b3,b4,b5,b6,b7,b8,b9,b10,b11,b12,b13,b14,rV,b16,b17,b18,b19,b20⟩ h1 h2=>by cases h1;cases h2;rfl) (O,Z,aA,aB,aC,aD,aE,aF,aG,aH,aI,aJ,aK,aL,aM,aN,aO,aP,aQ,aR,aS)
end
@[go_sem] abbrev a5I:Nat×pY:=(215,⟨[.p rH [11,13],.p sJ [3,6]],aDz,[(0,12,.m),(3,4,.r),(3,8,.m)],[1,2,4,5,6,7],none⟩)
theorem aDA:qE Tryz.prog [] (qC [JI,G1]):=⟨trivial,pK a4T (pK UH qT),qH⟩
theorem aDB:qE Tryz.prog [rR,D7,BQ] (qC [JI,G1]):=⟨⟨rU,⟨FH,⟨D6,trivial⟩⟩⟩,aDA.Γ,qH⟩
theorem aKC:qI Tryz.prog a5I:=by
 refine qS aDA Tryz.func215 (c:=_) rfl (N:=13) (by kernel_rfl) (ts:=[]) rfl (fun _ _=>rfl) ?_;intro⟨O,Z,aA,aB,aC,aD,aE,aF,aG,aH,aI,aJ,aK,aL,aM,aN,aO,aP,aQ,aR,aS⟩ hs hrow;dsimp only[a5F,a5G,a5H,qK,pM,pV,qG,qO,Nat.reduceAdd] at hs hrow⊢;obtain⟨rfl,rfl,rfl,rfl,rfl,hz⟩:=hs;obtain⟨rfl,_⟩:=hrow;obtain⟨z0,hC0⟩:=aQn.1 hz
 try rw[r8 hC0]
 clear hz;unfold AB at hC0;obtain⟨aT,hv1,hw1,hC0⟩:=pT hC0
 try simp only[go_sem] at hw1
 refine p8 aDB ?_ (hp:=by exact⟨by first|rfl|trivial,by first|rfl|trivial,by first|rfl|trivial,by first|rfl|trivial,by first|rfl|trivial,by first|rfl|trivial,by first|rfl|trivial,by first|rfl|trivial,by first|rfl|trivial,by first|rfl|trivial,by first|rfl|trivial,by first|rfl|trivial,(pS hv1)⟩) (h:=by simp only[go_sem,hw1];rfl)
 obtain⟨aU,hv2,hw2,hC0⟩:=pT hC0
 try simp only[go_sem] at hw2
 refine qU aDB ?_ (hp:=by exact⟨by first|rfl|trivial,by first|rfl|trivial,by first|rfl|trivial,by first|rfl|trivial,by first|rfl|trivial,(pS hv2)⟩) (h:=by simp only[go_sem,hw2];rfl)
 cases hC0;exact⟨[(0,0),(1,1),(2,2),(3,3),(4,4),(5,5),(6,6),(7,7),(8,8)],by rfl,by rfl,by rfl⟩
attribute [irreducible] AB
def AC (O:((List UInt8)×(Int×Unit))) (Z:rJ) (aA:Int) (aB:Int) (aC:rC) (aD:((List Int)×(Int×Unit))) (aE:(List UInt8)) (aF:(List UInt8)) (aG:(List UInt8)) (aH:(List (List UInt8))) (aI:(Int×((List pR)×Unit))) (aJ:Bool) (aK:(List ((List UInt8)×Bool))) (aL:(List (List UInt8))) (aM:(List ((List UInt8)×Bool))):Option (Int×Int×(List UInt8)×Int×Int×Int×Int×Int×(List UInt8)):=(zG O Z aA aB aC aD aE aF aG aH aI aJ aK aL aM).bind fun aN=>(xJ (O.1,(aN.1,())) (aN.2.1,(aN.2.2.1,(aN.2.2.2.1,(aN.2.2.2.2.1,())))) aN.2.2.2.2.2.1 aN.2.2.2.2.2.2.1 (aC.1,(aC.2.1,(aC.2.2.1,(aC.2.2.2.1,())))) (aD.1,(aN.2.2.2.2.2.2.2,())) aK).bind fun aO=>some ((aO.1,aO.2.1,aO.2.2.1,aO.2.2.2.1,aO.2.2.2.2.1,aO.2.2.2.2.2.1,aO.2.2.2.2.2.2.1,aO.2.2.2.2.2.2.2,aN.2.2.1))
section
variable (O:((List UInt8)×(Int×Unit))) (Z:rJ) (aA:Int) (aB:Int) (aC:rC) (aD:((List Int)×(Int×Unit))) (aE:Nat) (aF:Nat) (aG:(List UInt8)) (aH:(List UInt8)) (aI:(List UInt8)) (aJ:(List (List UInt8))) (aK:Nat) (aL:(Int×((List pR)×Unit))) (aM:Bool) (aN:Nat) (aO:Nat) (aP:(List ((List UInt8)×Bool))) (aQ:(List (List UInt8))) (aR:Nat) (aS:(List ((List UInt8)×Bool)))
abbrev a5J:List pA:=[(.val .ref (some (0,0)),none),(.val .ref (some (3,0)),none)]
abbrev a5K:List p9:=[.cells rH (O,(Z,(aA,(aB,(aC,((some 6),aD)))))) [(11,1),(13,2)],.grow 55 7 aE,.grow 3 1 aF,.cells sJ ((aG,(aH,(aI,(aJ,((some (7,aK)),aL))))),(aM,((some 8),()))) [(3,4),(6,5)],.grow 9 1 aN,.grow 149 2 aO,.map .str .bool aP,.row 9 .str aQ aR,.map .str .bool aS]
@[go_sem] def a5L:pF:=⟨[aE=(aC.2.2.2.1.length),aF=(aD.1.length),aN=(aJ.length),aO=(aL.2.1.length),aK=aR,((AC O Z aA aB aC aD aG aH aI aJ aL aM aP aQ aS)).isSome=true],[],[.cells rH ((O.1,((val (AC O Z aA aB aC aD aG aH aI aJ aL aM aP aQ aS)).1,())),(((val (AC O Z aA aB aC aD aG aH aI aJ aL aM aP aQ aS)).2.1,((val (AC O Z aA aB aC aD aG aH aI aJ aL aM aP aQ aS)).2.2.1,((val (AC O Z aA aB aC aD aG aH aI aJ aL aM aP aQ aS)).2.2.2.1,((val (AC O Z aA aB aC aD aG aH aI aJ aL aM aP aQ aS)).2.2.2.2.1,())))),((val (AC O Z aA aB aC aD aG aH aI aJ aL aM aP aQ aS)).2.2.2.2.2.1,((val (AC O Z aA aB aC aD aG aH aI aJ aL aM aP aQ aS)).2.2.2.2.2.2.1,((aC.1,(aC.2.1,(aC.2.2.1,(aC.2.2.2.1,())))),((some 6),(aD.1,((val (AC O Z aA aB aC aD aG aH aI aJ aL aM aP aQ aS)).2.2.2.2.2.2.2.1,())))))))) [(11,1),(13,2)],.grow 55 7 (aC.2.2.2.1.length),.grow 3 1 (aD.1.length),.cells sJ ((aG,(aH,((val (AC O Z aA aB aC aD aG aH aI aJ aL aM aP aQ aS)).2.2.2.2.2.2.2.2,(aJ,((some (7,(aQ.length))),(aL.1,(aL.2.1,()))))))),(aM,((some 8),()))) [(3,4),(6,5)],.grow 9 1 (aJ.length),.grow 149 2 (aL.2.1.length),.map .str .bool aP,.row 9 .str aQ (aQ.length),.map .str .bool (sG .str .bool Z.2.1 true aS)]⟩
def aDC:List pA→List p9→Option pF:=qP (V:=(((List UInt8)×(Int×Unit))×rJ×Int×Int×rC×((List Int)×(Int×Unit))×Nat×Nat×(List UInt8)×(List UInt8)×(List UInt8)×(List (List UInt8))×Nat×(Int×((List pR)×Unit))×Bool×Nat×Nat×(List ((List UInt8)×Bool))×(List (List UInt8))×Nat×(List ((List UInt8)×Bool)))) (fun x=>a5J) (fun x=>a5K x.1 x.2.1 x.2.2.1 x.2.2.2.1 x.2.2.2.2.1 x.2.2.2.2.2.1 x.2.2.2.2.2.2.1 x.2.2.2.2.2.2.2.1 x.2.2.2.2.2.2.2.2.1 x.2.2.2.2.2.2.2.2.2.1 x.2.2.2.2.2.2.2.2.2.2.1 x.2.2.2.2.2.2.2.2.2.2.2.1 x.2.2.2.2.2.2.2.2.2.2.2.2.1 x.2.2.2.2.2.2.2.2.2.2.2.2.2.1 x.2.2.2.2.2.2.2.2.2.2.2.2.2.2.1 x.2.2.2.2.2.2.2.2.2.2.2.2.2.2.2.1 x.2.2.2.2.2.2.2.2.2.2.2.2.2.2.2.2.1 x.2.2.2.2.2.2.2.2.2.2.2.2.2.2.2.2.2.1 x.2.2.2.2.2.2.2.2.2.2.2.2.2.2.2.2.2.2.1 x.2.2.2.2.2.2.2.2.2.2.2.2.2.2.2.2.2.2.2.1 x.2.2.2.2.2.2.2.2.2.2.2.2.2.2.2.2.2.2.2.2) fun x=>a5L x.1 x.2.1 x.2.2.1 x.2.2.2.1 x.2.2.2.2.1 x.2.2.2.2.2.1 x.2.2.2.2.2.2.1 x.2.2.2.2.2.2.2.1 x.2.2.2.2.2.2.2.2.1 x.2.2.2.2.2.2.2.2.2.1 x.2.2.2.2.2.2.2.2.2.2.1 x.2.2.2.2.2.2.2.2.2.2.2.1 x.2.2.2.2.2.2.2.2.2.2.2.2.1 x.2.2.2.2.2.2.2.2.2.2.2.2.2.1 x.2.2.2.2.2.2.2.2.2.2.2.2.2.2.1 x.2.2.2.2.2.2.2.2.2.2.2.2.2.2.2.1 x.2.2.2.2.2.2.2.2.2.2.2.2.2.2.2.2.1 x.2.2.2.2.2.2.2.2.2.2.2.2.2.2.2.2.2.1 x.2.2.2.2.2.2.2.2.2.2.2.2.2.2.2.2.2.2.1 x.2.2.2.2.2.2.2.2.2.2.2.2.2.2.2.2.2.2.2.1 x.2.2.2.2.2.2.2.2.2.2.2.2.2.2.2.2.2.2.2.2
@[go_sem] theorem aP9:aDC (no_index a5J) (no_index (a5K O Z aA aB aC aD aE aF aG aH aI aJ aK aL aM aN aO aP aQ aR aS))=some (a5L O Z aA aB aC aD aE aF aG aH aI aJ aK aL aM aN aO aP aQ aR aS):=qR (fun⟨a0,a1,a2,a3,a4,a5,a6,a7,a8,a9,a10,a11,a12,a13,a14,a15,a16,a17,a18,a19,a20⟩ ⟨b0,b1,b2,b3,b4,b5,b6,b7,b8,b9,b10,b11,b12,b13,b14,rV,b16,b17,b18,b19,b20⟩ h1 h2=>by cases h1;cases h2;rfl) (O,Z,aA,aB,aC,aD,aE,aF,aG,aH,aI,aJ,aK,aL,aM,aN,aO,aP,aQ,aR,aS)
end
@[go_sem] abbrev a5M:Nat×pY:=(216,⟨[.p rH [11,13],.p sJ [3,6]],aDC,[(0,12,.m),(3,4,.r),(3,8,.m)],[1,2,4,5,6,7],none⟩)
theorem aDD:qE Tryz.prog [] (qC [JI,G1]):=⟨trivial,pK a4T (pK UH qT),qH⟩
theorem aDE:qE Tryz.prog [rR,D7,BQ] (qC [JI,G1]):=⟨⟨rU,⟨FH,⟨D6,trivial⟩⟩⟩,aDD.Γ,qH⟩
theorem aKD:qI Tryz.prog a5M:=by
 refine qS aDD Tryz.func216 (c:=_) rfl (N:=13) (by kernel_rfl) (ts:=[]) rfl (fun _ _=>rfl) ?_;intro⟨O,Z,aA,aB,aC,aD,aE,aF,aG,aH,aI,aJ,aK,aL,aM,aN,aO,aP,aQ,aR,aS⟩ hs hrow;dsimp only[a5J,a5K,a5L,qK,pM,pV,qG,qO,Nat.reduceAdd] at hs hrow⊢;obtain⟨rfl,rfl,rfl,rfl,rfl,hz⟩:=hs;obtain⟨rfl,_⟩:=hrow;obtain⟨z0,hC0⟩:=aQn.1 hz
 try rw[r8 hC0]
 clear hz;unfold AC at hC0;obtain⟨aT,hv1,hw1,hC0⟩:=pT hC0
 try simp only[go_sem] at hw1
 refine p8 aDE ?_ (hp:=by exact⟨by first|rfl|trivial,by first|rfl|trivial,by first|rfl|trivial,by first|rfl|trivial,by first|rfl|trivial,by first|rfl|trivial,by first|rfl|trivial,by first|rfl|trivial,by first|rfl|trivial,by first|rfl|trivial,by first|rfl|trivial,by first|rfl|trivial,(pS hv1)⟩) (h:=by simp only[go_sem,hw1];rfl)
 obtain⟨aU,hv2,hw2,hC0⟩:=pT hC0
 try simp only[go_sem] at hw2
 refine qU aDE ?_ (hp:=by exact⟨by first|rfl|trivial,by first|rfl|trivial,by first|rfl|trivial,by first|rfl|trivial,by first|rfl|trivial,(pS hv2)⟩) (h:=by simp only[go_sem,hw2];rfl)
 cases hC0;exact⟨[(0,0),(1,1),(2,2),(3,3),(4,4),(5,5),(6,6),(7,7),(8,8)],by rfl,by rfl,by rfl⟩
attribute [irreducible] AC
end
noncomputable section
def vD (O:((List UInt8)×(Int×Unit))) (Z:rC) (aA:((List Int)×(Int×Unit))) (aB:Bool) (aC:(List ((List UInt8)×Bool))):(Int×Int×(List UInt8)×Int×Int×Int×Int×Int×(List UInt8)×(List UInt8)×(List (List UInt8))×Int×(List pR)×(List (List UInt8))×(List ((List UInt8)×Bool)))→Option ((Int×Int×(List UInt8)×Int×Int×Int×Int×Int×(List UInt8)×(List UInt8)×(List (List UInt8))×Int×(List pR)×(List (List UInt8))×(List ((List UInt8)×Bool)))⊕(Int×Int×(List UInt8)×Int×Int×Int×Int×Int×(List UInt8)×(List UInt8)×(List (List UInt8))×Int×(List pR)×(List (List UInt8))×(List ((List UInt8)×Bool)))):=fun(aD,aE,aF,aG,aH,aI,aJ,aK,aL,aM,aN,aO,aP,aQ,aR)=>if ((decide (aJ=(0:Int)))&&(decide (aE=(2:Int))))=true then if (!(wL .str .fn (wF ([]:List UInt8) aL aM aN (aO,(aP,())) aB aQ aR) aF))=true then rE (tM (O.1,(aD,())) (aE,(aF,(aG,(aH,())))) aI aJ (Z.1,(Z.2.1,(Z.2.2.1,(Z.2.2.2.1,())))) (aA.1,(aK,())) (3:Int) aC) fun aS=>some (.inr (aD,aE,aF,aG,aH,aS.1,aS.2,aK,aL,aM,aN,aO,aP,aQ,aR)) else rE (rN .str .fn (wF ([]:List UInt8) aL aM aN (aO,(aP,())) aB aQ aR) aF) fun aT=>if aT=some 213 then (xY (O.1,(aD,())) (aE,(aF,(aG,(aH,())))) aI aJ (Z.1,(Z.2.1,(Z.2.2.1,(Z.2.2.2.1,())))) (aA.1,(aK,())) ([]:List UInt8) aL aM aN (aO,(aP,())) aB aC aQ aR).bind fun aU=>some (.inl (aU.1,aU.2.1,aU.2.2.1,aU.2.2.2.1,aU.2.2.2.2.1,aU.2.2.2.2.2.1,aU.2.2.2.2.2.2.1,aU.2.2.2.2.2.2.2.1,aL,aM,aU.2.2.2.2.2.2.2.2,aO,aP,aQ,aR)) else if aT=some 214 then (zN (O.1,(aD,())) (aE,(aF,(aG,(aH,())))) aI aJ (Z.1,(Z.2.1,(Z.2.2.1,(Z.2.2.2.1,())))) (aA.1,(aK,())) ([]:List UInt8) aL aM aN (aO,(aP,())) aB aC aQ aR).bind fun aV=>some (.inl (aV.1,aV.2.1,aV.2.2.1,aV.2.2.2.1,aV.2.2.2.2.1,aV.2.2.2.2.2.1,aV.2.2.2.2.2.2.1,aV.2.2.2.2.2.2.2.1,aL,aM,aN,aO,aV.2.2.2.2.2.2.2.2,aQ,aR)) else if aT=some 215 then (AB (O.1,(aD,())) (aE,(aF,(aG,(aH,())))) aI aJ (Z.1,(Z.2.1,(Z.2.2.1,(Z.2.2.2.1,())))) (aA.1,(aK,())) ([]:List UInt8) aL aM aN (aO,(aP,())) aB aC aQ aR).bind fun aW=>some (.inl (aW.1,aW.2.1,aW.2.2.1,aW.2.2.2.1,aW.2.2.2.2.1,aW.2.2.2.2.2.1,aW.2.2.2.2.2.2.1,aW.2.2.2.2.2.2.2.1,aW.2.2.2.2.2.2.2.2,aM,aN,aO,aP,aQ,(sG .str .bool aF true aR))) else if aT=some 216 then (AC (O.1,(aD,())) (aE,(aF,(aG,(aH,())))) aI aJ (Z.1,(Z.2.1,(Z.2.2.1,(Z.2.2.2.1,())))) (aA.1,(aK,())) ([]:List UInt8) aL aM aN (aO,(aP,())) aB aC aQ aR).bind fun aX=>some (.inl (aX.1,aX.2.1,aX.2.2.1,aX.2.2.2.1,aX.2.2.2.2.1,aX.2.2.2.2.2.1,aX.2.2.2.2.2.2.1,aX.2.2.2.2.2.2.2.1,aL,aX.2.2.2.2.2.2.2.2,aN,aO,aP,aQ,(sG .str .bool aF true aR))) else if aT=some 217 then (AA (O.1,(aD,())) (aE,(aF,(aG,(aH,())))) aI aJ (Z.1,(Z.2.1,(Z.2.2.1,(Z.2.2.2.1,())))) (aA.1,(aK,())) ([]:List UInt8) aL aM aN (aO,(aP,())) aB aC aQ aR).bind fun aY=>some (.inl (aY.1,aY.2.1,aY.2.2.1,aY.2.2.2.1,aY.2.2.2.2.1,aY.2.2.2.2.2.1,aY.2.2.2.2.2.2.1,aY.2.2.2.2.2.2.2.1,aL,aM,aN,aY.2.2.2.2.2.2.2.2,aP,aQ,(sG .str .bool aF true aR))) else if aT=some 218 then (yP (O.1,(aD,())) (aE,(aF,(aG,(aH,())))) aI aJ (Z.1,(Z.2.1,(Z.2.2.1,(Z.2.2.2.1,())))) (aA.1,(aK,())) ([]:List UInt8) aL aM aN (aO,(aP,())) aB aC aQ aR).bind fun aZ=>some (.inl (aZ.1,aZ.2.1,aZ.2.2.1,aZ.2.2.2.1,aZ.2.2.2.2.1,aZ.2.2.2.2.2.1,aZ.2.2.2.2.2.2.1,aZ.2.2.2.2.2.2.2.1,aL,aM,aN,aO,aP,aZ.2.2.2.2.2.2.2.2,aR)) else none else some (.inr (aD,aE,aF,aG,aH,aI,aJ,aK,aL,aM,aN,aO,aP,aQ,aR))
def v7 (O:((List UInt8)×(Int×Unit))) (Z:rJ) (aA:Int) (aB:Int) (aC:rC) (aD:((List Int)×(Int×Unit))) (aE:Bool) (aF:(List ((List UInt8)×Bool))):Option ((List UInt8)×(List UInt8)×(List (List UInt8))×(List (List UInt8))×Int×(List pR)×Int×Int×(List UInt8)×Int×Int×Int×Int×(List Int)×Int):=(xI O Z aA aB aC aD (3:Int) ([123]:List UInt8) aF).bind fun aG=>qZ (pU (vD O aC aD aE aF) (aG.1,aG.2.1,aG.2.2.1,aG.2.2.2.1,aG.2.2.2.2.1,aG.2.2.2.2.2.1,aG.2.2.2.2.2.2.1,aG.2.2.2.2.2.2.2,([]:List UInt8),([]:List UInt8),([]:List (List UInt8)),(0:Int),([]:List pR),([]:List (List UInt8)),([]:List ((List UInt8)×Bool)))) fun(aH,aI,aJ,aK,aL,aM,aN,aO,aP,aQ,aR,aS,aT,aU,aV)=>(xI (O.1,(aH,())) (aI,(aJ,(aK,(aL,())))) aM aN (aC.1,(aC.2.1,(aC.2.2.1,(aC.2.2.2.1,())))) (aD.1,(aO,())) (3:Int) ([125]:List UInt8) aF).bind fun aW=>if (aU.length)<4611686018427387904 then if (aD.1.length+([aW.2.2.2.2.2.2.2]:List Int).length)*8≤140737488355328 then some ((aP,aQ,aR,(vJ aU),aS,aT,aW.1,aW.2.1,aW.2.2.1,aW.2.2.2.1,aW.2.2.2.2.1,aW.2.2.2.2.2.1,aW.2.2.2.2.2.2.1,(aD.1++([aW.2.2.2.2.2.2.2]:List Int)),aW.2.2.2.2.2.2.2)) else none else none
section
variable (O:Bool) (Z:((List UInt8)×(Int×Unit))) (aA:rJ) (aB:Int) (aC:Int) (aD:rC) (aE:((List Int)×(Int×Unit))) (aF:Nat) (aG:Nat) (aH:(List ((List UInt8)×Bool)))
abbrev a5N:List pA:=[(.val .ref (some (0,0)),none),(.val .bool O,none)]
abbrev a5O:List p9:=[.cells rH (Z,(aA,(aB,(aC,(aD,((some 3),aE)))))) [(11,1),(13,2)],.grow 55 7 aF,.grow 3 1 aG,.map .str .bool aH]
@[go_sem] def a5P:pF:=⟨[aF=(aD.2.2.2.1.length),aG=(aE.1.length),((v7 Z aA aB aC aD aE O aH)).isSome=true],[(.val uB (([]:List UInt8),((val (v7 Z aA aB aC aD aE O aH)).1,((val (v7 Z aA aB aC aD aE O aH)).2.1,((val (v7 Z aA aB aC aD aE O aH)).2.2.1,((val (v7 Z aA aB aC aD aE O aH)).2.2.2.1,((val (v7 Z aA aB aC aD aE O aH)).2.2.2.2.1,((val (v7 Z aA aB aC aD aE O aH)).2.2.2.2.2.1,()))))))),none)],[.cells rH ((Z.1,((val (v7 Z aA aB aC aD aE O aH)).2.2.2.2.2.2.1,())),(((val (v7 Z aA aB aC aD aE O aH)).2.2.2.2.2.2.2.1,((val (v7 Z aA aB aC aD aE O aH)).2.2.2.2.2.2.2.2.1,((val (v7 Z aA aB aC aD aE O aH)).2.2.2.2.2.2.2.2.2.1,((val (v7 Z aA aB aC aD aE O aH)).2.2.2.2.2.2.2.2.2.2.1,())))),((val (v7 Z aA aB aC aD aE O aH)).2.2.2.2.2.2.2.2.2.2.2.1,((val (v7 Z aA aB aC aD aE O aH)).2.2.2.2.2.2.2.2.2.2.2.2.1,((aD.1,(aD.2.1,(aD.2.2.1,(aD.2.2.2.1,())))),((some 3),((val (v7 Z aA aB aC aD aE O aH)).2.2.2.2.2.2.2.2.2.2.2.2.2.1,((val (v7 Z aA aB aC aD aE O aH)).2.2.2.2.2.2.2.2.2.2.2.2.2.2,())))))))) [(11,1),(13,2)],.grow 55 7 (aD.2.2.2.1.length),.grow 3 1 (((val (v7 Z aA aB aC aD aE O aH)).2.2.2.2.2.2.2.2.2.2.2.2.2.1).length),.map .str .bool aH]⟩
def aDF:List pA→List p9→Option pF:=qP (V:=(Bool×((List UInt8)×(Int×Unit))×rJ×Int×Int×rC×((List Int)×(Int×Unit))×Nat×Nat×(List ((List UInt8)×Bool)))) (fun x=>a5N x.1) (fun x=>a5O x.2.1 x.2.2.1 x.2.2.2.1 x.2.2.2.2.1 x.2.2.2.2.2.1 x.2.2.2.2.2.2.1 x.2.2.2.2.2.2.2.1 x.2.2.2.2.2.2.2.2.1 x.2.2.2.2.2.2.2.2.2) fun x=>a5P x.1 x.2.1 x.2.2.1 x.2.2.2.1 x.2.2.2.2.1 x.2.2.2.2.2.1 x.2.2.2.2.2.2.1 x.2.2.2.2.2.2.2.1 x.2.2.2.2.2.2.2.2.1 x.2.2.2.2.2.2.2.2.2
@[go_sem] theorem aQa:aDF (no_index (a5N O)) (no_index (a5O Z aA aB aC aD aE aF aG aH))=some (a5P O Z aA aB aC aD aE aF aG aH):=qR (fun⟨a0,a1,a2,a3,a4,a5,a6,a7,a8,a9⟩ ⟨b0,b1,b2,b3,b4,b5,b6,b7,b8,b9⟩ h1 h2=>by cases h1;cases h2;rfl) (O,Z,aA,aB,aC,aD,aE,aF,aG,aH)
end
@[go_sem] abbrev a5Q:Nat×pY:=(126,⟨[.p rH [11,13],.v],aDF,[(0,12,.m)],[1,3],none⟩)
theorem UK:qE Tryz.prog [E6,ZO] (qC [PL,a1a,zF,a5A,a5E,a5I,a5M,a5r,a5w,ZQ]):=⟨⟨GT,⟨aJs,trivial⟩⟩,pK a5g (pK aJJ (pK EB (pK aKA (pK aKB (pK aKC (pK aKD (pK aKy (pK aKz (pK aJz qT))))))))),qH⟩
theorem AD:qE Tryz.prog [vL,E9,rR,vX,FG,D7,zE,GW,L8,xF,BQ,T8,T9] (qC [PL,a1a,zF,a5A,a5E,a5I,a5M,a5r,a5w,ZQ]):=⟨⟨wE,⟨GV,⟨rU,⟨wP,⟨J0,⟨FH,⟨AX,⟨L6,⟨TB,⟨yJ,⟨D6,⟨aAo,⟨aAp,trivial⟩⟩⟩⟩⟩⟩⟩⟩⟩⟩⟩⟩⟩,UK.Γ,qH⟩
theorem aDG:qI Tryz.prog a5Q:=by
 refine qS UK Tryz.func126 (c:=_) rfl (N:=71) (by kernel_rfl) (ts:=[(4,some 55)]) rfl (fun _ _=>rfl) ?_;intro⟨O,Z,aA,aB,aC,aD,aE,aF,aG,aH⟩ hs hrow;dsimp only[a5N,a5O,a5P,qK,pM,pV,qG,qO,Nat.reduceAdd] at hs hrow⊢;obtain⟨rfl,rfl,hz⟩:=hs;obtain⟨z0,hC0⟩:=aQn.1 hz
 try rw[r8 hC0]
 clear hz;unfold v7 at hC0;refine p8 UK ?_;refine p8 AD ?_;obtain⟨aI,hv1,hw1,hC0⟩:=pT hC0
 try simp only[go_sem] at hw1
 refine p8 AD ?_ (hp:=by exact⟨by first|rfl|trivial,by first|rfl|trivial,by first|rfl|trivial,by first|rfl|trivial,by first|rfl|trivial,(pS hv1)⟩) (h:=by simp only[go_sem,hw1];rfl)
 refine pW (rI ?_);obtain⟨y1,hy1,hC0⟩:=pD hC0;refine uZ 0 (fun s=>s=(fun x=>⟨[(0,(.val .ref (some (0,0)),none)),(4,(.val .ref (some (4,0)),none)),(5,(.val .ref (some (5,0)),none))],[(0,.cells rH ((Z.1,(x.1,())),((x.2.1,(x.2.2.1,(x.2.2.2.1,(x.2.2.2.2.1,())))),(x.2.2.2.2.2.1,(x.2.2.2.2.2.2.1,((aD.1,(aD.2.1,(aD.2.2.1,(aD.2.2.2.1,())))),((some 3),(aE.1,(x.2.2.2.2.2.2.2.1,())))))))) [(11,1),(13,2)]),(1,.grow 55 7 (aD.2.2.2.1.length)),(2,.grow 3 1 (aE.1.length)),(3,.map .str .bool aH),(4,.cells uB (([]:List UInt8),(([]:List UInt8),(([]:List UInt8),(([]:List (List UInt8)),(([]:List (List UInt8)),((0:Int),(([]:List pR),()))))))) [(3,6),(4,7),(6,8)]),(5,.cells sJ ((([]:List UInt8),(x.2.2.2.2.2.2.2.2.1,(x.2.2.2.2.2.2.2.2.2.1,(x.2.2.2.2.2.2.2.2.2.2.1,((some (9,(x.2.2.2.2.2.2.2.2.2.2.2.2.2.1.length))),(x.2.2.2.2.2.2.2.2.2.2.2.1,(x.2.2.2.2.2.2.2.2.2.2.2.2.1,()))))))),(O,((some 10),()))) [(3,11),(6,12)]),(6,.grow 9 1 (([]:List (List UInt8)).length)),(7,.grow 9 1 (([]:List (List UInt8)).length)),(8,.grow 149 2 (([]:List pR).length)),(9,.row 9 .str x.2.2.2.2.2.2.2.2.2.2.2.2.2.1 (x.2.2.2.2.2.2.2.2.2.2.2.2.2.1.length)),(10,.map .str .bool x.2.2.2.2.2.2.2.2.2.2.2.2.2.2),(11,.grow 9 1 (x.2.2.2.2.2.2.2.2.2.2.1.length)),(12,.grow 149 2 (x.2.2.2.2.2.2.2.2.2.2.2.2.1.length))],13,71,4⟩) y1) ?_ ?_
 ·refine uY hy1 (fun x=>⟨[(0,(.val .ref (some (0,0)),none)),(4,(.val .ref (some (4,0)),none)),(5,(.val .ref (some (5,0)),none))],[(0,.cells rH ((Z.1,(x.1,())),((x.2.1,(x.2.2.1,(x.2.2.2.1,(x.2.2.2.2.1,())))),(x.2.2.2.2.2.1,(x.2.2.2.2.2.2.1,((aD.1,(aD.2.1,(aD.2.2.1,(aD.2.2.2.1,())))),((some 3),(aE.1,(x.2.2.2.2.2.2.2.1,())))))))) [(11,1),(13,2)]),(1,.grow 55 7 (aD.2.2.2.1.length)),(2,.grow 3 1 (aE.1.length)),(3,.map .str .bool aH),(4,.cells uB (([]:List UInt8),(([]:List UInt8),(([]:List UInt8),(([]:List (List UInt8)),(([]:List (List UInt8)),((0:Int),(([]:List pR),()))))))) [(3,6),(4,7),(6,8)]),(5,.cells sJ ((([]:List UInt8),(x.2.2.2.2.2.2.2.2.1,(x.2.2.2.2.2.2.2.2.2.1,(x.2.2.2.2.2.2.2.2.2.2.1,((some (9,(x.2.2.2.2.2.2.2.2.2.2.2.2.2.1.length))),(x.2.2.2.2.2.2.2.2.2.2.2.1,(x.2.2.2.2.2.2.2.2.2.2.2.2.1,()))))))),(O,((some 10),()))) [(3,11),(6,12)]),(6,.grow 9 1 (([]:List (List UInt8)).length)),(7,.grow 9 1 (([]:List (List UInt8)).length)),(8,.grow 149 2 (([]:List pR).length)),(9,.row 9 .str x.2.2.2.2.2.2.2.2.2.2.2.2.2.1 (x.2.2.2.2.2.2.2.2.2.2.2.2.2.1.length)),(10,.map .str .bool x.2.2.2.2.2.2.2.2.2.2.2.2.2.2),(11,.grow 9 1 (x.2.2.2.2.2.2.2.2.2.2.1.length)),(12,.grow 149 2 (x.2.2.2.2.2.2.2.2.2.2.2.2.1.length))],13,71,4⟩) ⟨[0,4,5],[(0,0),(1,1),(2,2),(3,3),(4,4),(5,132),(6,5),(7,6),(8,7),(9,135),(10,68),(11,133),(12,134)]⟩ (by rfl) ?_;intro x1 w1 n1 hC1 hN1;obtain⟨aJ,aK,aL,aM,aN,aO,aP,aQ,aR,aS,aT,aU,aV,aW,aX⟩:=x1;unfold vD at hC1;dsimp only at hC1⊢;refine pW ?_;refine p8 AD ?_ (hp:=by exact⟨fun hh=>hh,fun hh=>hh,fun hh=>hh,fun hh=>hh,fun hh=>hh,(fun hh=>sH hh)⟩);refine pP hC1 (fun hC1 hc1=> ?_) (fun hC1 hc1=> ?_)
  ·refine qM (pN (rI ?_));refine xU AD ?_ (hp:=by exact⟨by first|rfl|trivial,by first|rfl|trivial,by first|rfl|trivial,by first|rfl|trivial,by first|rfl|trivial,by first|rfl|trivial,by first|rfl|trivial,(by first|rfl|trivial)⟩)
   refine pW ?_;refine p8 AD ?_;refine pP hC1 (fun hC1 hc2=> ?_) (fun hC1 hc2=> ?_)
   ·obtain⟨aY,hw_357,hC1⟩:=vI hC1
    try simp only[go_sem] at hw_357
    refine p8 AD ?_ (hp:=by exact⟨by first|rfl|trivial,by first|rfl|trivial,by first|rfl|trivial,by first|rfl|trivial,(by first|rfl|trivial)⟩) (h:=by simp only[go_sem,hw_357];rfl)
    refine uG (uO (YX (by decide) (uI ?_)));cases hC1;cases hN1;exact uH ⟨⟨[0,4,5],[(0,0),(1,1),(2,2),(3,3),(4,4),(5,5),(6,6),(7,7),(8,8),(9,9),(10,10),(11,11),(12,12)]⟩,by rfl⟩
   ·refine qM (pN ?_);replace hC1:=aIy hC1;generalize (rN .str .fn (wF ([]:List UInt8) aR aS aT (aU,(aV,())) O aW aX) aL)=aZ at hC1⊢;by_cases hfn:aZ=some 213
    ·subst hfn;rw[aQj rfl] at hC1;obtain⟨bA,hv2,hw2,hC1⟩:=pT hC1
     try simp only[go_sem] at hw2
     refine qU AD ?_ (hp:=by exact⟨by first|rfl|trivial,by first|rfl|trivial,by first|rfl|trivial,by first|rfl|trivial,by first|rfl|trivial,by first|rfl|trivial,by first|rfl|trivial,by first|rfl|trivial,by first|rfl|trivial,by first|rfl|trivial,by first|rfl|trivial,(pS hv2)⟩) (h:=by simp only[go_sem,hw2];rfl)
     refine qV ?_;cases hC1;exact sM ⟨⟨[0,4,5],[(0,0),(1,1),(2,2),(3,3),(4,4),(5,5),(6,6),(7,7),(8,8),(9,9),(10,10),(11,11),(12,12)]⟩,_,by rfl,hN1⟩
    rw[aQl hfn] at hC1;clear hfn;by_cases hfn:aZ=some 214
    ·subst hfn;rw[aQj rfl] at hC1;obtain⟨bB,hv3,hw3,hC1⟩:=pT hC1
     try simp only[go_sem] at hw3
     refine qU AD ?_ (hp:=by exact⟨by first|rfl|trivial,by first|rfl|trivial,by first|rfl|trivial,by first|rfl|trivial,by first|rfl|trivial,by first|rfl|trivial,by first|rfl|trivial,by first|rfl|trivial,by first|rfl|trivial,by first|rfl|trivial,by first|rfl|trivial,by first|rfl|trivial,(pS hv3)⟩) (h:=by simp only[go_sem,hw3];rfl)
     refine qV ?_;cases hC1;exact sM ⟨⟨[0,4,5],[(0,0),(1,1),(2,2),(3,3),(4,4),(5,5),(6,6),(7,7),(8,8),(9,9),(10,10),(11,11),(12,1014)]⟩,_,by rfl,hN1⟩
    rw[aQl hfn] at hC1;clear hfn;by_cases hfn:aZ=some 215
    ·subst hfn;rw[aQj rfl] at hC1;obtain⟨bC,hv4,hw4,hC1⟩:=pT hC1
     try simp only[go_sem] at hw4
     refine qU AD ?_ (hp:=by exact⟨by first|rfl|trivial,by first|rfl|trivial,by first|rfl|trivial,by first|rfl|trivial,by first|rfl|trivial,by first|rfl|trivial,by first|rfl|trivial,by first|rfl|trivial,by first|rfl|trivial,by first|rfl|trivial,by first|rfl|trivial,(pS hv4)⟩) (h:=by simp only[go_sem,hw4];rfl)
     refine qV ?_;cases hC1;exact sM ⟨⟨[0,4,5],[(0,0),(1,1),(2,2),(3,3),(4,4),(5,5),(6,6),(7,7),(8,8),(9,9),(10,10),(11,11),(12,12)]⟩,_,by rfl,hN1⟩
    rw[aQl hfn] at hC1;clear hfn;by_cases hfn:aZ=some 216
    ·subst hfn;rw[aQj rfl] at hC1;obtain⟨bD,hv5,hw5,hC1⟩:=pT hC1
     try simp only[go_sem] at hw5
     refine qU AD ?_ (hp:=by exact⟨by first|rfl|trivial,by first|rfl|trivial,by first|rfl|trivial,by first|rfl|trivial,by first|rfl|trivial,by first|rfl|trivial,by first|rfl|trivial,by first|rfl|trivial,by first|rfl|trivial,by first|rfl|trivial,by first|rfl|trivial,(pS hv5)⟩) (h:=by simp only[go_sem,hw5];rfl)
     refine qV ?_;cases hC1;exact sM ⟨⟨[0,4,5],[(0,0),(1,1),(2,2),(3,3),(4,4),(5,5),(6,6),(7,7),(8,8),(9,9),(10,10),(11,11),(12,12)]⟩,_,by rfl,hN1⟩
    rw[aQl hfn] at hC1;clear hfn;by_cases hfn:aZ=some 217
    ·subst hfn;rw[aQj rfl] at hC1;obtain⟨bE,hv6,hw6,hC1⟩:=pT hC1
     try simp only[go_sem] at hw6
     refine qU AD ?_ (hp:=by exact⟨by first|rfl|trivial,by first|rfl|trivial,by first|rfl|trivial,by first|rfl|trivial,by first|rfl|trivial,by first|rfl|trivial,by first|rfl|trivial,by first|rfl|trivial,by first|rfl|trivial,by first|rfl|trivial,by first|rfl|trivial,(pS hv6)⟩) (h:=by simp only[go_sem,hw6];rfl)
     refine qV ?_;cases hC1;exact sM ⟨⟨[0,4,5],[(0,0),(1,1),(2,2),(3,3),(4,4),(5,5),(6,6),(7,7),(8,8),(9,9),(10,10),(11,11),(12,12)]⟩,_,by rfl,hN1⟩
    rw[aQl hfn] at hC1;clear hfn;by_cases hfn:aZ=some 218
    ·subst hfn;rw[aQj rfl] at hC1;obtain⟨bF,hv7,hw7,hC1⟩:=pT hC1
     try simp only[go_sem] at hw7
     refine qU AD ?_ (hp:=by exact⟨by first|rfl|trivial,by first|rfl|trivial,by first|rfl|trivial,by first|rfl|trivial,by first|rfl|trivial,by first|rfl|trivial,by first|rfl|trivial,by first|rfl|trivial,by first|rfl|trivial,by first|rfl|trivial,by first|rfl|trivial,(pS hv7)⟩) (h:=by simp only[go_sem,hw7];rfl)
     refine qV ?_;cases hC1;exact sM ⟨⟨[0,4,5],[(0,0),(1,1),(2,2),(3,3),(4,4),(5,5),(6,6),(7,7),(8,8),(9,9),(10,10),(11,11),(12,12)]⟩,_,by rfl,hN1⟩
    rw[aQl hfn] at hC1;clear hfn;cases hC1
  ·refine uG (uO (uI ?_));cases hC1;cases hN1;exact uH ⟨⟨[0,4,5],[(0,0),(1,1),(2,2),(3,3),(4,4),(5,5),(6,6),(7,7),(8,8),(9,9),(10,10),(11,11),(12,12)]⟩,by rfl⟩
 ·rintro _ rfl;obtain⟨bG,bH,bI,bJ,bK,bM,bN,bO,bP,bQ,bR,bS,bT,bU,bV⟩:=y1;dsimp only at hC0⊢;refine uX (pN ?_);obtain⟨bW,hv8,hw8,hC0⟩:=pT hC0
  try simp only[go_sem] at hw8
  refine p8 AD ?_ (hp:=by exact⟨by first|rfl|trivial,by first|rfl|trivial,by first|rfl|trivial,by first|rfl|trivial,by first|rfl|trivial,(pS hv8)⟩) (h:=by simp only[go_sem,hw8];rfl)
  obtain⟨hg9,hC0⟩:=pG hC0;refine p8 AD ?_ (hp:=by exact⟨by first|rfl|trivial,hg9⟩)
  obtain⟨hg10,hC0⟩:=pG hC0;refine xU AD ?_ (hp:=by exact⟨by first|rfl|trivial,hg10⟩)
  refine pW ?_;refine aIr 9 5 rfl rfl (aSa rfl) (by repeat' (first|exact trivial|apply And.intro|exact(fun _=>rfl) |exact(fun h=>absurd h (by decide)))) (by repeat' (first|exact trivial|apply And.intro|exact(fun _=>rfl) |exact(fun h=>absurd h (by decide)))) (u':=aAl) (y':=((([]:List UInt8),(bP,(bQ,(bR,((vJ bU),(bS,(bT,()))))))),(O,((some 10),())))) (by first|rfl|kernel_rfl) ?_
  refine qU UK ?_;refine pN (pI ?_);cases hC0;exact⟨[(0,0),(1,1),(2,2),(3,3)],by rfl,by rfl,by rfl⟩
attribute [irreducible] v7
end
noncomputable section
def xK (O:((List UInt8)×(Int×Unit))) (Z:rJ) (aA:Int) (aB:Int) (aC:rC) (aD:((List Int)×(Int×Unit))) (aE:(List ((List UInt8)×Bool))):Option (Int×Int×(List UInt8)×Int×Int×Int×Int×(List UInt8)×(List (List UInt8))×(List pR)×(List Int)×Int):=(xI O Z aA aB aC aD (2:Int) ([99,97,116,97,108,111,103]:List UInt8) aE).bind fun aF=>(zI (O.1,(aF.1,())) (aF.2.1,(aF.2.2.1,(aF.2.2.2.1,(aF.2.2.2.2.1,())))) aF.2.2.2.2.2.1 aF.2.2.2.2.2.2.1 (aC.1,(aC.2.1,(aC.2.2.1,(aC.2.2.2.1,())))) (aD.1,(aF.2.2.2.2.2.2.2,())) (1:Int) false aE).bind fun aG=>(v7 (O.1,(aG.1,())) (aG.2.1,(aG.2.2.1,(aG.2.2.2.1,(aG.2.2.2.2.1,())))) aG.2.2.2.2.2.1 aG.2.2.2.2.2.2.1 (aF.2.2.1,(aC.2.1,(aC.2.2.1,(aC.2.2.2.1,())))) (aD.1,(aG.2.2.2.2.2.2.2,())) false aE).bind fun aH=>some ((aH.2.2.2.2.2.2.1,aH.2.2.2.2.2.2.2.1,aH.2.2.2.2.2.2.2.2.1,aH.2.2.2.2.2.2.2.2.2.1,aH.2.2.2.2.2.2.2.2.2.2.1,aH.2.2.2.2.2.2.2.2.2.2.2.1,aH.2.2.2.2.2.2.2.2.2.2.2.2.1,aF.2.2.1,aH.2.2.1,aH.2.2.2.2.2.1,aH.2.2.2.2.2.2.2.2.2.2.2.2.2.1,aH.2.2.2.2.2.2.2.2.2.2.2.2.2.2))
section
variable (O:((List UInt8)×(Int×Unit))) (Z:rJ) (aA:Int) (aB:Int) (aC:rC) (aD:((List Int)×(Int×Unit))) (aE:Nat) (aF:Nat) (aG:(List ((List UInt8)×Bool)))
abbrev a5R:List pA:=[(.val .ref (some (0,0)),none)]
abbrev a5S:List p9:=[.cells rH (O,(Z,(aA,(aB,(aC,((some 3),aD)))))) [(11,1),(13,2)],.grow 55 7 aE,.grow 3 1 aF,.map .str .bool aG]
@[go_sem] def a5T:pF:=⟨[aE=(aC.2.2.2.1.length),aF=(aD.1.length),((xK O Z aA aB aC aD aG)).isSome=true],[],[.cells rH ((O.1,((val (xK O Z aA aB aC aD aG)).1,())),(((val (xK O Z aA aB aC aD aG)).2.1,((val (xK O Z aA aB aC aD aG)).2.2.1,((val (xK O Z aA aB aC aD aG)).2.2.2.1,((val (xK O Z aA aB aC aD aG)).2.2.2.2.1,())))),((val (xK O Z aA aB aC aD aG)).2.2.2.2.2.1,((val (xK O Z aA aB aC aD aG)).2.2.2.2.2.2.1,(((val (xK O Z aA aB aC aD aG)).2.2.2.2.2.2.2.1,((val (xK O Z aA aB aC aD aG)).2.2.2.2.2.2.2.2.1,((val (xK O Z aA aB aC aD aG)).2.2.2.2.2.2.2.2.2.1,(aC.2.2.2.1,())))),((some 3),((val (xK O Z aA aB aC aD aG)).2.2.2.2.2.2.2.2.2.2.1,((val (xK O Z aA aB aC aD aG)).2.2.2.2.2.2.2.2.2.2.2,())))))))) [(11,1),(13,2)],.grow 55 7 (aC.2.2.2.1.length),.grow 3 1 (((val (xK O Z aA aB aC aD aG)).2.2.2.2.2.2.2.2.2.2.1).length),.map .str .bool aG]⟩
def aDH:List pA→List p9→Option pF:=qP (V:=(((List UInt8)×(Int×Unit))×rJ×Int×Int×rC×((List Int)×(Int×Unit))×Nat×Nat×(List ((List UInt8)×Bool)))) (fun x=>a5R) (fun x=>a5S x.1 x.2.1 x.2.2.1 x.2.2.2.1 x.2.2.2.2.1 x.2.2.2.2.2.1 x.2.2.2.2.2.2.1 x.2.2.2.2.2.2.2.1 x.2.2.2.2.2.2.2.2) fun x=>a5T x.1 x.2.1 x.2.2.1 x.2.2.2.1 x.2.2.2.2.1 x.2.2.2.2.2.1 x.2.2.2.2.2.2.1 x.2.2.2.2.2.2.2.1 x.2.2.2.2.2.2.2.2
@[go_sem] theorem aQb:aDH (no_index a5R) (no_index (a5S O Z aA aB aC aD aE aF aG))=some (a5T O Z aA aB aC aD aE aF aG):=qR (fun⟨a0,a1,a2,a3,a4,a5,a6,a7,a8⟩ ⟨b0,b1,b2,b3,b4,b5,b6,b7,b8⟩ h1 h2=>by cases h1;cases h2;rfl) (O,Z,aA,aB,aC,aD,aE,aF,aG)
end
@[go_sem] abbrev aDI:Nat×pY:=(82,⟨[.p rH [11,13]],aDH,[(0,12,.m)],[1,3],none⟩)
theorem PP:qE Tryz.prog [rR,vX,AW,E4,E6,xF] (qC [PL,aDh,a5Q]):=⟨⟨rU,⟨wP,⟨CF,⟨GS,⟨GT,⟨yJ,trivial⟩⟩⟩⟩⟩⟩,pK a5g (pK aKt (pK aDG qT)),qH⟩
theorem aKE:qI Tryz.prog aDI:=by
 refine qS PP Tryz.func82 (c:=_) rfl (N:=25) (by kernel_rfl) (ts:=[]) rfl (fun _ _=>rfl) ?_;intro⟨O,Z,aA,aB,aC,aD,aE,aF,aG⟩ hs hrow;dsimp only[a5R,a5S,a5T,qK,pM,pV,qG,qO,Nat.reduceAdd] at hs hrow⊢;obtain⟨rfl,rfl,hz⟩:=hs;obtain⟨z0,hC0⟩:=aQn.1 hz
 try rw[r8 hC0]
 clear hz;unfold xK at hC0;obtain⟨aH,hv1,hw1,hC0⟩:=pT hC0
 try simp only[go_sem] at hw1
 refine p8 PP ?_ (hp:=by exact⟨by first|rfl|trivial,by first|rfl|trivial,by first|rfl|trivial,by first|rfl|trivial,by first|rfl|trivial,(pS hv1)⟩) (h:=by simp only[go_sem,hw1];rfl)
 obtain⟨aI,hv2,hw2,hC0⟩:=pT hC0
 try simp only[go_sem] at hw2
 refine p8 PP ?_ (hp:=by exact⟨by first|rfl|trivial,by first|rfl|trivial,by first|rfl|trivial,by first|rfl|trivial,by first|rfl|trivial,(pS hv2)⟩) (h:=by simp only[go_sem,hw2];rfl)
 obtain⟨aJ,hv3,hw3,hC0⟩:=pT hC0
 try simp only[go_sem] at hw3
 refine p8 PP ?_ (hp:=by exact⟨by first|rfl|trivial,by first|rfl|trivial,by first|rfl|trivial,by first|rfl|trivial,(pS hv3)⟩) (h:=by simp only[go_sem,hw3];rfl)
 refine FA PP ?_;cases hC0;exact⟨[(0,0),(1,1),(2,2),(3,3)],by rfl,by rfl,by rfl⟩
attribute [irreducible] xK
end
noncomputable section
def xL (O:((List UInt8)×(Int×Unit))) (Z:rJ) (aA:Int) (aB:Int) (aC:rC) (aD:((List Int)×(Int×Unit))) (aE:(List ((List UInt8)×Bool))):Option (Int×Int×(List UInt8)×Int×Int×Int×Int×(List rG)×(List Int)×Int×(List ((List UInt8)×Bool))):=(xI O Z aA aB aC aD (2:Int) ([101,110,116,114,121]:List UInt8) aE).bind fun aF=>(zM (O.1,(aF.1,())) (aF.2.1,(aF.2.2.1,(aF.2.2.2.1,(aF.2.2.2.2.1,())))) aF.2.2.2.2.2.1 aF.2.2.2.2.2.2.1 (aC.1,(aC.2.1,(aC.2.2.1,(aC.2.2.2.1,())))) (aD.1,(aF.2.2.2.2.2.2.2,())) (1:Int) (decide ((aC.2.2.2.1.length:Int)=(1000:Int))) aE).bind fun aG=>(v7 (O.1,(aG.1,())) (aG.2.1,(aG.2.2.1,(aG.2.2.2.1,(aG.2.2.2.2.1,())))) aG.2.2.2.2.2.1 aG.2.2.2.2.2.2.1 (aC.1,(aC.2.1,(aC.2.2.1,(aC.2.2.2.1,())))) (aD.1,(aG.2.2.2.2.2.2.2,())) true (sG .str .bool aF.2.2.1 true aE)).bind fun aH=>if (aC.2.2.2.1.length+([(aF.2.2.1,(aH.1,(aH.2.1,(aH.2.2.1,(aH.2.2.2.1,(aH.2.2.2.2.1,(aH.2.2.2.2.2.1,())))))))]:List rG).length)*128≤140737488355328 then some ((aH.2.2.2.2.2.2.1,aH.2.2.2.2.2.2.2.1,aH.2.2.2.2.2.2.2.2.1,aH.2.2.2.2.2.2.2.2.2.1,aH.2.2.2.2.2.2.2.2.2.2.1,aH.2.2.2.2.2.2.2.2.2.2.2.1,aH.2.2.2.2.2.2.2.2.2.2.2.2.1,(aC.2.2.2.1++([(aF.2.2.1,(aH.1,(aH.2.1,(aH.2.2.1,(aH.2.2.2.1,(aH.2.2.2.2.1,(aH.2.2.2.2.2.1,())))))))]:List rG)),aH.2.2.2.2.2.2.2.2.2.2.2.2.2.1,aH.2.2.2.2.2.2.2.2.2.2.2.2.2.2,(sG .str .bool aF.2.2.1 true aE))) else none
section
variable (O:((List UInt8)×(Int×Unit))) (Z:rJ) (aA:Int) (aB:Int) (aC:rC) (aD:((List Int)×(Int×Unit))) (aE:Nat) (aF:Nat) (aG:(List ((List UInt8)×Bool)))
abbrev a5U:List pA:=[(.val .ref (some (0,0)),none)]
abbrev a5V:List p9:=[.cells rH (O,(Z,(aA,(aB,(aC,((some 3),aD)))))) [(11,1),(13,2)],.grow 55 7 aE,.grow 3 1 aF,.map .str .bool aG]
@[go_sem] def a5W:pF:=⟨[aE=(aC.2.2.2.1.length),aF=(aD.1.length),((xL O Z aA aB aC aD aG)).isSome=true],[],[.cells rH ((O.1,((val (xL O Z aA aB aC aD aG)).1,())),(((val (xL O Z aA aB aC aD aG)).2.1,((val (xL O Z aA aB aC aD aG)).2.2.1,((val (xL O Z aA aB aC aD aG)).2.2.2.1,((val (xL O Z aA aB aC aD aG)).2.2.2.2.1,())))),((val (xL O Z aA aB aC aD aG)).2.2.2.2.2.1,((val (xL O Z aA aB aC aD aG)).2.2.2.2.2.2.1,((aC.1,(aC.2.1,(aC.2.2.1,((val (xL O Z aA aB aC aD aG)).2.2.2.2.2.2.2.1,())))),((some 3),((val (xL O Z aA aB aC aD aG)).2.2.2.2.2.2.2.2.1,((val (xL O Z aA aB aC aD aG)).2.2.2.2.2.2.2.2.2.1,())))))))) [(11,1),(13,2)],.grow 55 7 (((val (xL O Z aA aB aC aD aG)).2.2.2.2.2.2.2.1).length),.grow 3 1 (((val (xL O Z aA aB aC aD aG)).2.2.2.2.2.2.2.2.1).length),.map .str .bool ((val (xL O Z aA aB aC aD aG)).2.2.2.2.2.2.2.2.2.2)]⟩
def aDJ:List pA→List p9→Option pF:=qP (V:=(((List UInt8)×(Int×Unit))×rJ×Int×Int×rC×((List Int)×(Int×Unit))×Nat×Nat×(List ((List UInt8)×Bool)))) (fun x=>a5U) (fun x=>a5V x.1 x.2.1 x.2.2.1 x.2.2.2.1 x.2.2.2.2.1 x.2.2.2.2.2.1 x.2.2.2.2.2.2.1 x.2.2.2.2.2.2.2.1 x.2.2.2.2.2.2.2.2) fun x=>a5W x.1 x.2.1 x.2.2.1 x.2.2.2.1 x.2.2.2.2.1 x.2.2.2.2.2.1 x.2.2.2.2.2.2.1 x.2.2.2.2.2.2.2.1 x.2.2.2.2.2.2.2.2
@[go_sem] theorem aQc:aDJ (no_index a5U) (no_index (a5V O Z aA aB aC aD aE aF aG))=some (a5W O Z aA aB aC aD aE aF aG):=qR (fun⟨a0,a1,a2,a3,a4,a5,a6,a7,a8⟩ ⟨b0,b1,b2,b3,b4,b5,b6,b7,b8⟩ h1 h2=>by cases h1;cases h2;rfl) (O,Z,aA,aB,aC,aD,aE,aF,aG)
end
@[go_sem] abbrev aDK:Nat×pY:=(83,⟨[.p rH [11,13]],aDJ,[(0,12,.m)],[],none⟩)
theorem G3:qE Tryz.prog [E9,rR,IW,E4,E6,T6,GW,xF] (qC [PL,aDp,a5Q]):=⟨⟨GV,⟨rU,⟨O8,⟨GS,⟨GT,⟨aAm,⟨L6,⟨yJ,trivial⟩⟩⟩⟩⟩⟩⟩⟩,pK a5g (pK aKx (pK aDG qT)),qH⟩
theorem aKF:qI Tryz.prog aDK:=by
 refine qS G3 Tryz.func83 (c:=_) rfl (N:=39) (by kernel_rfl) (ts:=[]) rfl (fun _ _=>rfl) ?_;intro⟨O,Z,aA,aB,aC,aD,aE,aF,aG⟩ hs hrow;dsimp only[a5U,a5V,a5W,qK,pM,pV,qG,qO,Nat.reduceAdd] at hs hrow⊢;obtain⟨rfl,rfl,hz⟩:=hs;obtain⟨z0,hC0⟩:=aQn.1 hz
 try rw[r8 hC0]
 clear hz;unfold xL at hC0;refine p8 G3 ?_;obtain⟨aH,hv1,hw1,hC0⟩:=pT hC0
 try simp only[go_sem] at hw1
 refine p8 G3 ?_ (hp:=by exact⟨by first|rfl|trivial,by first|rfl|trivial,by first|rfl|trivial,by first|rfl|trivial,by first|rfl|trivial,(pS hv1)⟩) (h:=by simp only[go_sem,hw1];rfl)
 refine p8 G3 ?_;obtain⟨aI,hv2,hw2,hC0⟩:=pT hC0
 try simp only[go_sem] at hw2
 refine xU G3 ?_ (hp:=by exact⟨by first|rfl|trivial,by first|rfl|trivial,by first|rfl|trivial,by first|rfl|trivial,by first|rfl|trivial,by first|rfl|trivial,(pS hv2)⟩) (h:=by simp only[go_sem,hw2];rfl)
 refine p8 G3 ?_;obtain⟨aJ,hv3,hw3,hC0⟩:=pT hC0
 try simp only[go_sem] at hw3
 refine p8 G3 ?_ (hp:=by exact⟨by first|rfl|trivial,by first|rfl|trivial,by first|rfl|trivial,by first|rfl|trivial,(pS hv3)⟩) (h:=by simp only[go_sem,hw3];rfl)
 refine p8 G3 ?_;obtain⟨hg4,hC0⟩:=pG hC0;refine FA G3 ?_ (hp:=by exact⟨by first|rfl|trivial,hg4⟩)
 cases hC0;exact⟨[(0,0),(1,1),(2,2),(3,3)],by rfl,by rfl,by rfl⟩
attribute [irreducible] xL
def BW (O:(List UInt8)) (Z:(Int×Int×(List UInt8)×Int×Int×Int×Int×(List UInt8)×(List (List UInt8))×(List pR)×(List Int)×Int)):(Int×Int×(List UInt8)×Int×Int×Int×Int×(List rG)×(List Int)×Int×(List ((List UInt8)×Bool)))→Option ((Int×Int×(List UInt8)×Int×Int×Int×Int×(List rG)×(List Int)×Int×(List ((List UInt8)×Bool)))⊕(Int×Int×(List UInt8)×Int×Int×Int×Int×(List rG)×(List Int)×Int×(List ((List UInt8)×Bool)))):=fun(aA,aB,aC,aD,aE,aF,aG,aH,aI,aJ,aK)=>if ((decide (aG=(0:Int)))&&(!decide (aB=(4:Int))))=true then (xL (O,(aA,())) (aB,(aC,(aD,(aE,())))) aF aG (Z.2.2.2.2.2.2.2.1,(Z.2.2.2.2.2.2.2.2.1,(Z.2.2.2.2.2.2.2.2.2.1,(aH,())))) (aI,(aJ,())) aK).bind fun aL=>some (.inl (aL.1,aL.2.1,aL.2.2.1,aL.2.2.2.1,aL.2.2.2.2.1,aL.2.2.2.2.2.1,aL.2.2.2.2.2.2.1,aL.2.2.2.2.2.2.2.1,aL.2.2.2.2.2.2.2.2.1,aL.2.2.2.2.2.2.2.2.2.1,aL.2.2.2.2.2.2.2.2.2.2)) else some (.inr (aA,aB,aC,aD,aE,aF,aG,aH,aI,aJ,aK))
def v8 (O:(List UInt8)):Option (Int×Int×(List UInt8)×Int×Int×Int×Int×(List UInt8)×(List (List UInt8))×(List pR)×(List rG)×(List Int)×Int×(List ((List UInt8)×Bool))):=(B1 (O,((0:Int),()))).bind fun Z=>(xK (O,(Z.2.2.2.2,())) (Z.1,(Z.2.1,(Z.2.2.1,(Z.2.2.2.1,())))) (0:Int) (0:Int) (([]:List UInt8),(([]:List (List UInt8)),(([]:List pR),(([]:List rG),())))) (([]:List Int),((0:Int),())) ([]:List ((List UInt8)×Bool))).bind fun aA=>qZ (pU (BW O aA) (aA.1,aA.2.1,aA.2.2.1,aA.2.2.2.1,aA.2.2.2.2.1,aA.2.2.2.2.2.1,aA.2.2.2.2.2.2.1,([]:List rG),aA.2.2.2.2.2.2.2.2.2.2.1,aA.2.2.2.2.2.2.2.2.2.2.2,([]:List ((List UInt8)×Bool)))) fun(aB,aC,aD,aE,aF,aG,aH,aI,aJ,aK,aL)=>some ((aB,aC,aD,aE,aF,aG,aH,aA.2.2.2.2.2.2.2.1,aA.2.2.2.2.2.2.2.2.1,aA.2.2.2.2.2.2.2.2.2.1,aI,aJ,aK,aL))
section
variable (O:(List UInt8))
abbrev a5X:List pA:=[(.val .str O,none)]
abbrev a5Y:List p9:=[]
@[go_sem] def a5Z:pF:=⟨[((v8 O)).isSome=true],[(.val .ref (some (0,0)),none)],[.cells rH ((O,((val (v8 O)).1,())),(((val (v8 O)).2.1,((val (v8 O)).2.2.1,((val (v8 O)).2.2.2.1,((val (v8 O)).2.2.2.2.1,())))),((val (v8 O)).2.2.2.2.2.1,((val (v8 O)).2.2.2.2.2.2.1,(((val (v8 O)).2.2.2.2.2.2.2.1,((val (v8 O)).2.2.2.2.2.2.2.2.1,((val (v8 O)).2.2.2.2.2.2.2.2.2.1,((val (v8 O)).2.2.2.2.2.2.2.2.2.2.1,())))),((some 1),((val (v8 O)).2.2.2.2.2.2.2.2.2.2.2.1,((val (v8 O)).2.2.2.2.2.2.2.2.2.2.2.2.1,())))))))) [(11,2),(13,3)],.map .str .bool ((val (v8 O)).2.2.2.2.2.2.2.2.2.2.2.2.2),.grow 55 7 (((val (v8 O)).2.2.2.2.2.2.2.2.2.2.1).length),.grow 3 1 (((val (v8 O)).2.2.2.2.2.2.2.2.2.2.2.1).length)]⟩
def aDL:List pA→List p9→Option pF:=qP (V:=(List UInt8)) (fun x=>a5X x) (fun x=>a5Y) fun x=>a5Z x
@[go_sem] theorem aQd:aDL (no_index (a5X O)) (no_index a5Y)=some (a5Z O):=qR (fun a0 b0 h1 h2=>by cases h1;cases h2;rfl) O
end
@[go_sem] abbrev a50:Nat×pY:=(44,⟨[.v],aDL,[],[],none⟩)
theorem HI:qE Tryz.prog [vL,E9,rR,FG,O9,zE,GW,xF] (qC [a4M,aDI,aDK]):=⟨⟨wE,⟨GV,⟨rU,⟨J0,⟨ZN,⟨AX,⟨L6,⟨yJ,trivial⟩⟩⟩⟩⟩⟩⟩⟩,pK aDa (pK aKE (pK aKF qT)),qH⟩
theorem aDM:qI Tryz.prog a50:=by
 refine qS HI Tryz.func44 (c:=_) rfl (N:=34) (by kernel_rfl) (ts:=[(2,none)]) rfl (fun _ _=>rfl) ?_;intro O hs hrow;dsimp only[a5X,a5Y,a5Z,qK,pM,pV,qG,qO,Nat.reduceAdd] at hs hrow⊢;have hz:=hs;obtain⟨z0,hC0⟩:=aQn.1 hz
 try rw[r8 hC0]
 clear hz hs;unfold v8 at hC0;refine p8 HI ?_;refine p8 HI ?_;obtain⟨Z,hv1,hw1,hC0⟩:=pT hC0
 try simp only[go_sem] at hw1
 refine p8 HI ?_ (hp:=by exact(pS hv1)) (h:=by simp only[go_sem,hw1];rfl);obtain⟨aA,hv2,hw2,hC0⟩:=pT hC0
 try simp only[go_sem] at hw2
 refine p8 HI ?_ (hp:=by exact⟨by first|rfl|trivial,by first|rfl|trivial,by first|rfl|trivial,by first|rfl|trivial,(pS hv2)⟩) (h:=by simp only[go_sem,hw2];rfl)
 refine pW (rI ?_);obtain⟨y1,hy1,hC0⟩:=pD hC0;refine uZ 0 (fun s=>s=(fun x=>⟨[(3,(.val .ref (some (0,0)),none))],[(0,.cells rH ((O,(x.1,())),((x.2.1,(x.2.2.1,(x.2.2.2.1,(x.2.2.2.2.1,())))),(x.2.2.2.2.2.1,(x.2.2.2.2.2.2.1,((aA.2.2.2.2.2.2.2.1,(aA.2.2.2.2.2.2.2.2.1,(aA.2.2.2.2.2.2.2.2.2.1,(x.2.2.2.2.2.2.2.1,())))),((some 1),(x.2.2.2.2.2.2.2.2.1,(x.2.2.2.2.2.2.2.2.2.1,())))))))) [(11,2),(13,3)]),(1,.map .str .bool x.2.2.2.2.2.2.2.2.2.2),(2,.grow 55 7 (x.2.2.2.2.2.2.2.1.length)),(3,.grow 3 1 (x.2.2.2.2.2.2.2.2.1.length))],4,34,0⟩) y1) ?_ ?_
 ·refine uY hy1 (fun x=>⟨[(3,(.val .ref (some (0,0)),none))],[(0,.cells rH ((O,(x.1,())),((x.2.1,(x.2.2.1,(x.2.2.2.1,(x.2.2.2.2.1,())))),(x.2.2.2.2.2.1,(x.2.2.2.2.2.2.1,((aA.2.2.2.2.2.2.2.1,(aA.2.2.2.2.2.2.2.2.1,(aA.2.2.2.2.2.2.2.2.2.1,(x.2.2.2.2.2.2.2.1,())))),((some 1),(x.2.2.2.2.2.2.2.2.1,(x.2.2.2.2.2.2.2.2.2.1,())))))))) [(11,2),(13,3)]),(1,.map .str .bool x.2.2.2.2.2.2.2.2.2.2),(2,.grow 55 7 (x.2.2.2.2.2.2.2.1.length)),(3,.grow 3 1 (x.2.2.2.2.2.2.2.2.1.length))],4,34,0⟩) ⟨[3],[(0,160),(1,96),(2,163),(3,164)]⟩ (by rfl) ?_;intro x1 w1 n1 hC1 hN1;obtain⟨aB,aC,aD,aE,aF,aG,aH,aI,aJ,aK,aL⟩:=x1;unfold BW at hC1;dsimp only at hC1⊢;refine pW ?_;refine p8 HI ?_ (hp:=by exact⟨fun hh=>hh,fun hh=>hh,fun hh=>hh,fun hh=>hh,fun hh=>hh,(fun hh=>sH hh)⟩);refine pP hC1 (fun hC1 hc1=> ?_) (fun hC1 hc1=> ?_)
  ·refine qM (pN (rI ?_));obtain⟨aM,hv3,hw3,hC1⟩:=pT hC1
   try simp only[go_sem] at hw3
   refine qU HI ?_ (hp:=by exact⟨by first|rfl|trivial,by first|rfl|trivial,(pS hv3)⟩) (h:=by simp only[go_sem,hw3];rfl)
   refine qV ?_;cases hC1;exact sM ⟨⟨[3],[(0,0),(1,1),(2,2),(3,3)]⟩,_,by rfl,hN1⟩
  ·refine uG (uO (uI ?_));cases hC1;cases hN1;exact uH ⟨⟨[3],[(0,0),(1,1),(2,2),(3,3)]⟩,by rfl⟩
 ·rintro _ rfl;obtain⟨aN,aO,aP,aQ,aR,aS,aT,aU,aV,aW,aX⟩:=y1;dsimp only at hC0⊢;refine uX (pN ?_);refine p8 HI ?_;refine pI ?_;cases hC0;exact⟨[(0,0),(1,1),(2,2),(3,3)],by rfl,by rfl,by rfl⟩
attribute [irreducible] v8
def B4 (O:(List UInt8)):Option ((List UInt8)×(List (List UInt8))×(List pR)×(List rG)×Int×Int):=(v8 O).bind fun Z=>if (!decide (Z.2.2.2.2.2.2.1=(0:Int)))=true then some ((([]:List UInt8),([]:List (List UInt8)),([]:List pR),([]:List rG),Z.2.2.2.2.2.1,Z.2.2.2.2.2.2.1)) else some ((Z.2.2.2.2.2.2.2.1,Z.2.2.2.2.2.2.2.2.1,Z.2.2.2.2.2.2.2.2.2.1,Z.2.2.2.2.2.2.2.2.2.2.1,(0:Int),(0:Int)))
section
variable (O:(List UInt8))
abbrev a52:List pA:=[(.val .str O,none)]
abbrev a54:List p9:=[]
@[go_sem] def a55:pF:=⟨[((B4 O)).isSome=true],[(.val L3 ((val (B4 O)).1,((val (B4 O)).2.1,((val (B4 O)).2.2.1,((val (B4 O)).2.2.2.1,())))),none),(.val (.int .i64) ((val (B4 O)).2.2.2.2.1),none),(.val (.int .i64) ((val (B4 O)).2.2.2.2.2),none)],[]⟩
def aDN:List pA→List p9→Option pF:=qP (V:=(List UInt8)) (fun x=>a52 x) (fun x=>a54) fun x=>a55 x
@[go_sem] theorem aQe:aDN (no_index (a52 O)) (no_index a54)=some (a55 O):=qR (fun a0 b0 h1 h2=>by cases h1;cases h2;rfl) O
end
@[go_sem] abbrev a56:Nat×pY:=(16,⟨[.v],aDN,[],[],none⟩)
theorem M0:qE Tryz.prog [vL,E4,FG,xF] (qC [a50]):=⟨⟨wE,⟨GS,⟨J0,⟨yJ,trivial⟩⟩⟩⟩,pK aDM qT,qH⟩
theorem aDO:qI Tryz.prog a56:=by
 refine qS M0 Tryz.func16 (c:=_) rfl (N:=26) (by kernel_rfl) (ts:=[(2,some 27),(3,none),(4,none)]) rfl (fun _ _=>rfl) ?_;intro O hs hrow;dsimp only[a52,a54,a55,qK,pM,pV,qG,qO,Nat.reduceAdd] at hs hrow⊢;have hz:=hs;obtain⟨z0,hC0⟩:=aQn.1 hz
 try rw[r8 hC0]
 clear hz hs;unfold B4 at hC0;refine p8 M0 ?_;obtain⟨Z,hv1,hw1,hC0⟩:=pT hC0
 try simp only[go_sem] at hw1
 refine p8 M0 ?_ (hp:=by exact(pS hv1)) (h:=by simp only[go_sem,hw1];rfl);refine pW ?_;refine p8 M0 ?_;refine pP hC0 (fun hC0 hc1=> ?_) (fun hC0 hc1=> ?_)
 ·refine xU M0 ?_;refine pI (rF ?_);cases hC0;exact⟨[],by rfl,by rfl,by rfl⟩
 ·refine qM (pN ?_);refine p8 M0 ?_;refine pI ?_;cases hC0;exact⟨[],by rfl,by rfl,by rfl⟩
attribute [irreducible] B4
def M1:Option Bool:=(B4 ([99,97,116,97,108,111,103,34,100,101,34,123,125,47,42,32,120,32,42,47,101,110,116,114,121,34,97,34,123,116,97,114,103,101,116,34,120,34,125,47,47]:List UInt8)).bind fun O=>if (((((decide (O.2.2.2.2.2=(0:Int)))&&(decide (O.1=([100,101]:List UInt8))))&&(decide ((O.2.2.2.1.length:Int)=(1:Int))))==true)=true→0≤(0:Int)∧(0:Int)<(O.2.2.2.1.length:Int)) then if ((((((decide (O.2.2.2.2.2=(0:Int)))&&(decide (O.1=([100,101]:List UInt8))))&&(decide ((O.2.2.2.1.length:Int)=(1:Int))))&&(decide ((pZ uB O.2.2.2.1 (0:Int)).1=([97]:List UInt8))))==true)=true→0≤(0:Int)∧(0:Int)<(O.2.2.2.1.length:Int)) then some ((((((decide (O.2.2.2.2.2=(0:Int)))&&(decide (O.1=([100,101]:List UInt8))))&&(decide ((O.2.2.2.1.length:Int)=(1:Int))))&&(decide ((pZ uB O.2.2.2.1 (0:Int)).1=([97]:List UInt8))))&&(decide ((pZ uB O.2.2.2.1 (0:Int)).2.2.1=([120]:List UInt8))))) else none else none
section
abbrev a57:List pA:=[]
abbrev a58:List p9:=[]
@[go_sem] def a59:pF:=⟨[(M1).isSome=true],[(.val .bool (val M1),none)],[]⟩
def aDP:List pA→List p9→Option pF:=qP (V:=Unit) (fun x=>a57) (fun x=>a58) fun x=>a59
@[go_sem] theorem aQf:aDP (no_index a57) (no_index a58)=some a59:=qR (fun _ _ h1 h2=>by cases h1;cases h2;rfl) ()
end
@[go_sem] abbrev aDQ:Nat×pY:=(15,⟨[],aDP,[],[],none⟩)
theorem UL:qE Tryz.prog [rR,IW,E4,E6] (qC [a56]):=⟨⟨rU,⟨O8,⟨GS,⟨GT,trivial⟩⟩⟩⟩,pK aDO qT,qH⟩
theorem aKG:qI Tryz.prog aDQ:=by
 refine qS UL Tryz.func15 (c:=_) rfl (N:=38) (by kernel_rfl) (ts:=[(0,none)]) rfl (fun _ _=>rfl) ?_;intro⟨⟩ hs hrow;dsimp only[a57,a58,a59,qK,pM,pV,qG,qO,Nat.reduceAdd] at hs hrow⊢;have hz:=hs;obtain⟨z0,hC0⟩:=aQn.1 hz
 try rw[r8 hC0]
 clear hz hs;unfold M1 at hC0;refine p8 UL ?_;obtain⟨O,hv1,hw1,hC0⟩:=pT hC0
 try simp only[go_sem] at hw1
 refine p8 UL ?_ (hp:=by exact(pS hv1)) (h:=by simp only[go_sem,hw1];rfl);obtain⟨hg2,hC0⟩:=pG hC0;obtain⟨hg3,hC0⟩:=pG hC0;refine p8 UL ?_ (hp:=by exact⟨fun hh=>hh,fun hh=>hh,fun hh=>sH hh,fun hh=>hh,fun hh=>hh,fun hh=>hh,fun hh=>sH hh,fun hh=>hh,fun hh=>hh,hg2,fun hh=>hh,fun hh=>hh,fun hh=>hh,fun hh=>sH hh,fun hh=>hh,fun hh=>hh,hg3,fun hh=>hh,fun hh=>hh,fun hh=>hh,(fun hh=>sH hh)⟩);refine pI ?_;cases hC0;exact⟨[],by rfl,by rfl,by rfl⟩
attribute [irreducible] M1
end
noncomputable section
def M2 (O:(List UInt8)) (Z:(Int×Int×(List UInt8)×Int×Int×Int×Int×(List UInt8)×(List (List UInt8))×(List pR)×(List rG)×(List Int)×Int×(List ((List UInt8)×Bool)))):(Int×(List (List UInt8)))→Option ((Int×(List (List UInt8)))⊕(List (List UInt8))):=fun(aA,aB)=>if (decide (aA<(Z.2.2.2.2.2.2.2.2.2.2.2.1.length:Int)))=true then if pB (aA- (1:Int)) then if 0≤(aA- (1:Int))∧(aA- (1:Int))<(Z.2.2.2.2.2.2.2.2.2.2.2.1.length:Int) then if 0≤aA∧aA<(Z.2.2.2.2.2.2.2.2.2.2.2.1.length:Int) then if 0≤(pZ (.int .i64) Z.2.2.2.2.2.2.2.2.2.2.2.1 (aA- (1:Int)))∧(pZ (.int .i64) Z.2.2.2.2.2.2.2.2.2.2.2.1 (aA- (1:Int)))≤(pZ (.int .i64) Z.2.2.2.2.2.2.2.2.2.2.2.1 aA)∧(pZ (.int .i64) Z.2.2.2.2.2.2.2.2.2.2.2.1 aA)≤(O.length:Int) then if (aB.length+([(pH O (pZ (.int .i64) Z.2.2.2.2.2.2.2.2.2.2.2.1 (aA- (1:Int))) (pZ (.int .i64) Z.2.2.2.2.2.2.2.2.2.2.2.1 aA))]:List (List UInt8)).length)*16≤140737488355328 then if pB (aA+(1:Int)) then some (.inl ((aA+(1:Int)),(aB++([(pH O (pZ (.int .i64) Z.2.2.2.2.2.2.2.2.2.2.2.1 (aA- (1:Int))) (pZ (.int .i64) Z.2.2.2.2.2.2.2.2.2.2.2.1 aA))]:List (List UInt8))))) else none else none else none else none else none else none else some (.inr aB)
def B5 (O:(List UInt8)):Option ((List UInt8)×(List (List UInt8))×(List UInt8)×Int):=(v8 O).bind fun Z=>if (!decide (Z.2.2.2.2.2.2.1=(0:Int)))=true then some ((([]:List UInt8),([]:List (List UInt8)),([]:List UInt8),Z.2.2.2.2.2.2.1)) else if 0≤(0:Int)∧(0:Int)<(Z.2.2.2.2.2.2.2.2.2.2.2.1.length:Int) then if 0≤(0:Int)∧(0:Int)≤(pZ (.int .i64) Z.2.2.2.2.2.2.2.2.2.2.2.1 (0:Int))∧(pZ (.int .i64) Z.2.2.2.2.2.2.2.2.2.2.2.1 (0:Int))≤(O.length:Int) then if pB ((Z.2.2.2.2.2.2.2.2.2.2.2.1.length:Int)- (1:Int)) then if 0≤((Z.2.2.2.2.2.2.2.2.2.2.2.1.length:Int)- (1:Int))∧((Z.2.2.2.2.2.2.2.2.2.2.2.1.length:Int)- (1:Int))<(Z.2.2.2.2.2.2.2.2.2.2.2.1.length:Int) then if 0≤(pZ (.int .i64) Z.2.2.2.2.2.2.2.2.2.2.2.1 ((Z.2.2.2.2.2.2.2.2.2.2.2.1.length:Int)- (1:Int)))∧(pZ (.int .i64) Z.2.2.2.2.2.2.2.2.2.2.2.1 ((Z.2.2.2.2.2.2.2.2.2.2.2.1.length:Int)- (1:Int)))≤(O.length:Int)∧(O.length:Int)≤(O.length:Int) then qZ (pU (M2 O Z) ((1:Int),([]:List (List UInt8)))) fun aA=>some (((pH O (0:Int) (pZ (.int .i64) Z.2.2.2.2.2.2.2.2.2.2.2.1 (0:Int))),aA,(pH O (pZ (.int .i64) Z.2.2.2.2.2.2.2.2.2.2.2.1 ((Z.2.2.2.2.2.2.2.2.2.2.2.1.length:Int)- (1:Int))) (O.length:Int)),(0:Int))) else none else none else none else none else none
section
variable (O:(List UInt8))
abbrev a6a:List pA:=[(.val .str O,none)]
abbrev a6b:List p9:=[]
@[go_sem] def a6c:pF:=⟨[((B5 O)).isSome=true],[(.val vW ((val (B5 O)).1,((val (B5 O)).2.1,((val (B5 O)).2.2.1,()))),none),(.val (.int .i64) ((val (B5 O)).2.2.2),none)],[]⟩
def aDR:List pA→List p9→Option pF:=qP (V:=(List UInt8)) (fun x=>a6a x) (fun x=>a6b) fun x=>a6c x
@[go_sem] theorem aQg:aDR (no_index (a6a O)) (no_index a6b)=some (a6c O):=qR (fun a0 b0 h1 h2=>by cases h1;cases h2;rfl) O
end
@[go_sem] abbrev aDS:Nat×pY:=(19,⟨[.v],aDR,[],[],none⟩)
theorem DF:qE Tryz.prog [vL,rR,vX,FG,FC,L8,xF] (qC [a50]):=⟨⟨wE,⟨rU,⟨wP,⟨J0,⟨IV,⟨TB,⟨yJ,trivial⟩⟩⟩⟩⟩⟩⟩,pK aDM qT,qH⟩
theorem aKH:qI Tryz.prog aDS:=by
 refine qS DF Tryz.func19 (c:=_) rfl (N:=74) (by kernel_rfl) (ts:=[(2,some 34),(3,none)]) rfl (fun _ _=>rfl) ?_;intro O hs hrow;dsimp only[a6a,a6b,a6c,qK,pM,pV,qG,qO,Nat.reduceAdd] at hs hrow⊢;have hz:=hs;obtain⟨z0,hC0⟩:=aQn.1 hz
 try rw[r8 hC0]
 clear hz hs;unfold B5 at hC0;refine p8 DF ?_;obtain⟨Z,hv1,hw1,hC0⟩:=pT hC0
 try simp only[go_sem] at hw1
 refine p8 DF ?_ (hp:=by exact(pS hv1)) (h:=by simp only[go_sem,hw1];rfl);refine pW ?_;refine p8 DF ?_;refine pP hC0 (fun hC0 hc1=> ?_) (fun hC0 hc1=> ?_)
 ·refine xU DF ?_;refine pI (rF ?_);cases hC0;exact⟨[],by rfl,by rfl,by rfl⟩
 ·refine qM (pN ?_);obtain⟨hg2,hC0⟩:=pG hC0;obtain⟨hg3,hC0⟩:=pG hC0;obtain⟨hg4,hC0⟩:=pG hC0;obtain⟨hg5,hC0⟩:=pG hC0;obtain⟨hg6,hC0⟩:=pG hC0;refine xU DF ?_ (hp:=by exact⟨hg2,hg3,hg4,hg5,hg6⟩);refine pW ?_;refine p8 DF ?_;refine rI ?_;obtain⟨aA,hy1,hC0⟩:=pD hC0;refine uZ 0 (fun s=>s=(fun x=>⟨[(2,(.val .ref (some (0,0)),none)),(5,(.val .ref (some (1,0)),none))],[(0,.cells vW (([]:List UInt8),(([]:List (List UInt8)),(([]:List UInt8),()))) [(1,2)]),(1,.cells vW ((pH O (0:Int) (pZ (.int .i64) Z.2.2.2.2.2.2.2.2.2.2.2.1 (0:Int))),(x,((pH O (pZ (.int .i64) Z.2.2.2.2.2.2.2.2.2.2.2.1 ((Z.2.2.2.2.2.2.2.2.2.2.2.1.length:Int)- (1:Int))) (O.length:Int)),()))) [(1,3)]),(2,.grow 9 1 (([]:List (List UInt8)).length)),(3,.grow 9 1 (x.length))],4,74,0⟩) aA) ?_ ?_
  ·refine uY hy1 (fun x=>⟨[(0,(.val .str O,none)),(2,(.val .ref (some (0,0)),none)),(4,(.val .ref (some (1,0)),none)),(5,(.val .ref (some (2,0)),none)),(6,(.val (.int .i64) x.1,none))],[(0,.cells vW (([]:List UInt8),(([]:List (List UInt8)),(([]:List UInt8),()))) [(1,3)]),(1,.cells rH ((O,(Z.1,())),((Z.2.1,(Z.2.2.1,(Z.2.2.2.1,(Z.2.2.2.2.1,())))),(Z.2.2.2.2.2.1,(Z.2.2.2.2.2.2.1,((Z.2.2.2.2.2.2.2.1,(Z.2.2.2.2.2.2.2.2.1,(Z.2.2.2.2.2.2.2.2.2.1,(Z.2.2.2.2.2.2.2.2.2.2.1,())))),((some 4),(Z.2.2.2.2.2.2.2.2.2.2.2.1,(Z.2.2.2.2.2.2.2.2.2.2.2.2.1,())))))))) [(11,5),(13,6)]),(2,.cells vW ((pH O (0:Int) (pZ (.int .i64) Z.2.2.2.2.2.2.2.2.2.2.2.1 (0:Int))),(x.2,((pH O (pZ (.int .i64) Z.2.2.2.2.2.2.2.2.2.2.2.1 ((Z.2.2.2.2.2.2.2.2.2.2.2.1.length:Int)- (1:Int))) (O.length:Int)),()))) [(1,7)]),(3,.grow 9 1 (([]:List (List UInt8)).length)),(4,.map .str .bool Z.2.2.2.2.2.2.2.2.2.2.2.2.2),(5,.grow 55 7 (Z.2.2.2.2.2.2.2.2.2.2.1.length)),(6,.grow 3 1 (Z.2.2.2.2.2.2.2.2.2.2.2.1.length)),(7,.grow 9 1 (x.2.length))],8,74,0⟩) ⟨[0,2,4,5,6],[(0,0),(1,96),(2,1056),(3,1),(4,97),(5,98),(6,99),(7,1088)]⟩ (by rfl) ?_;intro x1 w1 n1 hC1 hN1;obtain⟨aB,aC⟩:=x1;unfold M2 at hC1;dsimp only at hC1⊢;refine pW ?_;refine p8 DF ?_;refine pP hC1 (fun hC1 hc2=> ?_) (fun hC1 hc2=> ?_)
   ·refine qM (pN (pW (rI ?_)));obtain⟨hg7,hC1⟩:=pG hC1;obtain⟨hg8,hC1⟩:=pG hC1;obtain⟨hg9,hC1⟩:=pG hC1;obtain⟨hg10,hC1⟩:=pG hC1;obtain⟨hg11,hC1⟩:=pG hC1;refine FA DF ?_ (hp:=by exact⟨hg7,hg8,hg9,hg10,by first|rfl|trivial,hg11⟩)
    refine qV (pN ?_);obtain⟨hg12,hC1⟩:=pG hC1;refine qU DF ?_ (hp:=by exact hg12);cases hC1;exact sM ⟨⟨[0,2,4,5,6],[(0,0),(1,1),(2,2),(3,3),(4,4),(5,5),(6,6),(7,7)]⟩,_,by rfl,hN1⟩
   ·refine uG (uO (uI ?_));cases hC1;cases hN1;exact uH ⟨⟨[2,5],[(0,0),(1,2),(2,3),(3,7)]⟩,by rfl⟩
  ·rintro _ rfl;dsimp only at hC0⊢;refine uX (pN ?_);refine p8 DF ?_;refine pI ?_;cases hC0;exact⟨[],by rfl,by rfl,by rfl⟩
attribute [irreducible] B5
end
noncomputable section
def JJ (O:(List UInt8)):Option Bool:=M1.bind fun Z=>if (!Z)=true then some (false) else if (decide ((4000:Int)<(O.length:Int)))=true then some (true) else (B5 O).bind fun aA=>(B4 O).bind fun aB=>if ((!decide (aA.2.2.2=(0:Int)))||(!decide (aB.2.2.2.2.2=(0:Int))))=true then some ((decide (aA.2.2.2=aB.2.2.2.2.2))) else (HG (aB.1,(aB.2.1,(aB.2.2.1,(aB.2.2.2.1,()))))).bind fun aC=>(B5 aC.1).bind fun aD=>(DC (aB.1,(aB.2.1,(aB.2.2.1,(aB.2.2.2.1,()))))).bind fun aE=>(H0 (aA.1,(aA.2.1,(aA.2.2.1,())))).bind fun aF=>if (((((((decide (aF=O))&&(decide ((aA.2.1.length:Int)=(aB.2.2.2.1.length:Int))))&&(decide (aC.2=(0:Int))))&&(decide (aD.2.2.2=(0:Int))))&&(decide (aE.2.2.2=(0:Int))))==true)=true→((H9 (aD.1,(aD.2.1,(aD.2.2.1,()))) (aE.1,(aE.2.1,(aE.2.2.1,()))))).isSome=true) then some (((((((decide (aF=O))&&(decide ((aA.2.1.length:Int)=(aB.2.2.2.1.length:Int))))&&(decide (aC.2=(0:Int))))&&(decide (aD.2.2.2=(0:Int))))&&(decide (aE.2.2.2=(0:Int))))&&(val (H9 (aD.1,(aD.2.1,(aD.2.2.1,()))) (aE.1,(aE.2.1,(aE.2.2.1,()))))))) else none
section
variable (O:(List UInt8))
abbrev PQ:List pA:=[(.val .str O,none)]
abbrev UM:List p9:=[]
@[go_sem] def M3:pF:=⟨[((JJ O)).isSome=true],[(.val .bool (val (JJ O)),none)],[]⟩
def a6d:List pA→List p9→Option pF:=qP (V:=(List UInt8)) (fun x=>PQ x) (fun x=>UM) fun x=>M3 x
@[go_sem] theorem aKI:a6d (no_index (PQ O)) (no_index UM)=some (M3 O):=qR (fun a0 b0 h1 h2=>by cases h1;cases h2;rfl) O
end
@[go_sem] abbrev aKJ:Nat×pY:=(10,⟨[.v],a6d,[],[],none⟩)
theorem B6:qE Tryz.prog [rR,vX,IW,E4,FC] (qC [aDQ,aDS,a56,aCZ,a4t,a2u,aAE,aCn]):=⟨⟨rU,⟨wP,⟨O8,⟨GS,⟨IV,trivial⟩⟩⟩⟩⟩,pK aKG (pK aKH (pK aDO (pK aKn (pK aCX (pK aBW (pK aJB (pK aKa qT))))))),qH⟩
theorem aKK:qI Tryz.prog aKJ:=by
 refine qS B6 Tryz.func10 (c:=_) rfl (N:=86) (by kernel_rfl) (ts:=[(2,none)]) rfl (fun _ _=>rfl) ?_;intro O hs hrow;dsimp only[PQ,UM,M3,qK,pM,pV,qG,qO,Nat.reduceAdd] at hs hrow⊢;have hz:=hs;obtain⟨z0,hC0⟩:=aQn.1 hz
 try rw[r8 hC0]
 clear hz hs;unfold JJ at hC0;refine p8 B6 ?_;refine pW ?_;obtain⟨Z,hv1,hw1,hC0⟩:=pT hC0
 try simp only[go_sem] at hw1
 refine p8 B6 ?_ (hp:=by exact(pS hv1)) (h:=by simp only[go_sem,hw1];rfl);refine pP hC0 (fun hC0 hc1=> ?_) (fun hC0 hc1=> ?_)
 ·refine p8 B6 ?_;refine pI (rF ?_);cases hC0;exact⟨[],by rfl,by rfl,by rfl⟩
 ·refine qM (pN (pW ?_));refine p8 B6 ?_;refine pP hC0 (fun hC0 hc2=> ?_) (fun hC0 hc2=> ?_)
  ·refine p8 B6 ?_;refine pI (rF ?_);cases hC0;exact⟨[],by rfl,by rfl,by rfl⟩
  ·refine qM (pN ?_);obtain⟨aA,hv2,hw2,hC0⟩:=pT hC0
   try simp only[go_sem] at hw2
   refine p8 B6 ?_ (hp:=by exact(pS hv2)) (h:=by simp only[go_sem,hw2];rfl);obtain⟨aB,hv3,hw3,hC0⟩:=pT hC0
   try simp only[go_sem] at hw3
   refine p8 B6 ?_ (hp:=by exact(pS hv3)) (h:=by simp only[go_sem,hw3];rfl);refine pW ?_;refine p8 B6 ?_ (hp:=by exact⟨fun hh=>hh,(fun hh=>uA hh)⟩);refine pP hC0 (fun hC0 hc3=> ?_) (fun hC0 hc3=> ?_)
   ·refine p8 B6 ?_;refine pI (rF ?_);cases hC0;exact⟨[],by rfl,by rfl,by rfl⟩
   ·refine qM (pN ?_);obtain⟨aC,hv4,hw4,hC0⟩:=pT hC0
    try simp only[go_sem] at hw4
    refine p8 B6 ?_ (hp:=by exact(pS hv4)) (h:=by simp only[go_sem,hw4];rfl);obtain⟨aD,hv5,hw5,hC0⟩:=pT hC0
    try simp only[go_sem] at hw5
    refine p8 B6 ?_ (hp:=by exact(pS hv5)) (h:=by simp only[go_sem,hw5];rfl);obtain⟨aE,hv6,hw6,hC0⟩:=pT hC0
    try simp only[go_sem] at hw6
    refine p8 B6 ?_ (hp:=by exact(pS hv6)) (h:=by simp only[go_sem,hw6];rfl);obtain⟨aF,hv7,hw7,hC0⟩:=pT hC0
    try simp only[go_sem] at hw7
    obtain⟨hg8,hC0⟩:=pG hC0;refine xU B6 ?_ (hp:=by exact⟨pS hv7,fun hh=>hh,fun hh=>hh,fun hh=>hh,fun hh=>hh,fun hh=>hh,fun hh=>hh,fun hh=>sH hh,fun hh=>hh,fun hh=>sH hh,fun hh=>hh,fun hh=>sH hh,fun hh=>hh,fun hh=>sH hh,fun hh=>hh,fun hh=>hh,fun hh=>hh,fun hh=>hh,hg8,(fun hh=>sH hh)⟩) (h:=by simp only[go_sem,hw7];rfl);refine pI ?_;cases hC0;exact⟨[],by rfl,by rfl,by rfl⟩
attribute [irreducible] JJ
end
end Go.Proofs.YtbbpilohihldiaaGreatDoor
section
end
namespace Go.Proofs.YtbbpilohihldiaaGreatDoor
open Vc
theorem sD {i:Nat}(h:i<=4000000000):pB ((i:Int)+1):=by unfold pB;omega
theorem rT {i n:Nat}(h:i<n):0<=(i:Int)/\(i:Int)<(n:Int):=⟨by omega,by omega⟩
theorem tH {i n:Nat}(h:i<n):decide ((i:Int)<(n:Int))=true:=by simpa using h
theorem vN (n:Nat): ¬decide ((n:Int)<(n:Int))=true:=by simp
theorem aDT {α:Type}{p:α->Bool}: ∀{l:List α},(l.findIdx? p).isSome=l.any p
 |[]=>rfl
 |x::l=>by
  rw[aRm,List.any_cons];cases p x with
  |true=>rfl
  |false=>simp [aDT (l:=l)]
theorem JK {α β:Type}{p:α->Bool}{l:List α}{f:Nat->β}{b:β}:tQ f b (l.findIdx? p)=if l.any p=true then f ((l.findIdx? p).getD 0) else b:=by
 rw[<-aDT];cases l.findIdx? p with
 |none=>rfl
 |some k=>rfl
def JL (c:Int):Bool:=(((!((decide ((97:Int)<=c))&&(decide (c<=(122:Int)))))&&(!((decide ((48:Int)<=c))&&(decide (c<=(57:Int))))))&&(!decide (c=(45:Int))))&&((decide (c<(65:Int)))||(decide ((90:Int)<c)))
def tO (s:List UInt8):Bool:= !(s.any fun b=>JL b.toNat)&&((decide ((1:Int)<=(s.length:Int)))&&(decide ((s.length:Int)<=(40:Int))))
theorem PR (s:List UInt8) (hs:pQ s):J9 s=some (tO s):=by
 unfold pQ at hs;have h:=CG (f:=U0 s) (l:=s) (fun b=>JL b.toNat) (fun _=>false) (fun i h=>by
  unfold U0;rw[aQj (tH h),aQj (rT h),xV h,aQj (sD (by omega))];rfl) (by
  unfold U0;rw[aQl (vN _)])
 unfold J9;rw[h,JK];unfold tO;cases s.any fun b=>JL b.toNat<;>rfl
def UN (c:Int):Bool:=((((decide (c<(97:Int)))||(decide ((122:Int)<c)))&&((decide (c<(65:Int)))||(decide ((90:Int)<c))))&&((decide (c<(48:Int)))||(decide ((57:Int)<c))))&&(!decide (c=(45:Int)))
theorem aKL (c:Int):UN c=JL c:=by
 unfold UN JL;rw[aRr];simp;omega
theorem a6e (s:List UInt8):FI s=some (tO s):=by
 have h:=aAB (f:=OE s) (s:=s) (fun c=>UN c) (fun _=>false) (fun c h=>by unfold UN;simp;omega) (fun i h=>by
  unfold OE;rw[aQj (by simpa using h),aQj (by simpa using h)];rfl) (by
  unfold OE;rw[aQl (by simp)])
 unfold FI;rw[h,JK];simp only[aKL];unfold tO;cases s.any fun b=>JL b.toNat<;>rfl
def wR (c:Int):Bool:=((((!((decide ((97:Int)<=c))&&(decide (c<=(122:Int)))))&&(!((decide ((48:Int)<=c))&&(decide (c<=(57:Int))))))&&(!decide (c=(45:Int))))&&(!decide (c=(95:Int))))&&(!decide (c=(46:Int)))
def xZ (c:Int):Bool:=(decide ((97:Int)<=c))&&(decide (c<=(122:Int)))
def rP:List UInt8->Bool
 |[]=>false
 |b::t=>(!decide (40<t.length+1)&&xZ b.toNat)&& !(t.any fun b=>wR b.toNat)
theorem aDU (s:List UInt8) (hs:pQ s):OS s=some (rP s):=by
 unfold pQ at hs;unfold OS;cases s with
 |nil=>simp [rP]
 |cons b t=>
  have hb0:pL (b::t) (0:Int)=(b.toNat:Int):=xV (i:=0) (by simp);rw[aQj (fun _=>⟨aQ8 0,by simp only[aQp];omega⟩),hb0];unfold rP;by_cases hl:(40:Int)<((b::t).length:Int)
  ·have hl2:40<t.length+1:=by simp only[aQp] at hl;omega
   rw[aQj (by simp only[hl,decide_true,Bool.or_true,Bool.true_or])];simp [hl2]
  ·have hl2: ¬40<t.length+1:=by simp only[aQp] at hl;omega
   have hl3: ¬((b::t).length:Int)<1:=by simp;omega
   by_cases hb:xZ b.toNat=true
   ·rw[aQl (by unfold xZ at hb;simp only[hl,hl3,hb];simp)];have h:=ZR (f:=U1 (b::t)) (l:=b::t) (fun b=>wR b.toNat) (fun _=>false) (fun i h=>by
     unfold U1;rw[aQj (tH h),aQj (rT h),xV h,aQj (sD (by omega))];rfl) (by
     unfold U1;rw[aQl (vN _)]) t.length 1 (by simp;omega)
    rw[show ((1:Nat):Int)=1 from rfl] at h;rw[h,JK];simp only[aSk,aRA,hb,hl2,decide_false,Bool.not_false,Bool.true_and];cases t.any fun b=>wR b.toNat<;>rfl
   ·rw[aQj (by unfold xZ at hb;simp only[hb];simp)];simp [hb]
theorem aDV (s:List UInt8): ∀(n j:Nat),j+n=s.length->pU (LE s) j=some (if (s.drop j).any (fun b=>wR b.toNat)=true\/(j=0/\s≠[]/\xZ (s.getD 0 0).toNat=false) then .inr false else .inl ())
 |0,j,hj=>by
  have:j=s.length:=by omega
  subst this;rw[aQ3,xG];unfold LE;rw[aQl (by simp)];by_cases h0:s=[]
  ·subst h0;simp
  ·have:s.length≠0:=by simpa using h0
   simp [this]
 |n+1,j,hj=>by
  have hlt:j<s.length:=by omega
  have ih:=aDV s n (j+1) (by omega);rw[xG,aQL hlt,List.any_cons];have hstep:LE s j=if (wR (s[j].toNat:Int)=true\/(j=0/\xZ (s[j].toNat:Int)=false)) then some (.inr (.inr false)) else some (.inl (j+1)):=by
   unfold LE;rw[aQj (by simpa using hlt),aQj (by simpa using hlt),aQj (by simpa using hlt)];by_cases ha:s[j].toNat<128
   ·obtain⟨e1,e2⟩:=aAy hlt ha;rw[e1,e2];by_cases h1:xZ (s[j].toNat:Int)=true
    ·rw[aQj (by unfold xZ at h1;exact h1),aQl];unfold xZ at h1;simp only[aQr,aQq] at h1;simp [wR,xZ];omega
    ·have h1':xZ (s[j].toNat:Int)=false:=by simpa using h1
     rw[aQl (by unfold xZ at h1;exact h1)];have h2: ¬(97<=(s[j].toNat:Int)/\(s[j].toNat:Int)<=122):=by
      unfold xZ at h1;simpa using h1
     by_cases h3:wR (s[j].toNat:Int)=true\/j=0
     ·rw[aQl,aQj]
      ·rcases h3 with h3|h3
       ·exact .inl h3
       ·exact .inr ⟨h3,h1'⟩
      ·simp [wR] at h3⊢;omega
     ·rw[aQj,aQl]
      ·intro h;rcases h with h|⟨h,_⟩
       ·exact h3 (.inl h)
       ·exact h3 (.inr h)
      ·simp [wR] at h3⊢;omega
   ·have hb:=aAz hlt (by omega);rw[aQl (by simp;omega),aQl (by simp;omega),aQj (.inl (by simp [wR];omega))]
  rw[hstep];have hd:s.getD 0 0=s[0]'(by omega):=by simp [aQI,aQs (show 0<s.length by omega)]
  have hne:s≠[]:=by intro h;subst h;simp at hlt
  by_cases hp:wR (s[j].toNat:Int)=true\/(j=0/\xZ (s[j].toNat:Int)=false)
  ·rw[aQj hp,aQj]
   ·rfl
   ·rcases hp with hp|⟨rfl,hp⟩
    ·left;simp [hp]
    ·right;exact⟨rfl,hne,by rw[hd];exact hp⟩
  ·rw[aQl hp];show pU _ (j+1)=_;rw[ih];have hnb:wR (s[j].toNat:Int)=false:=by
    cases h:wR (s[j].toNat:Int) with
    |true=>exact absurd (.inl h) hp
    |false=>rfl
   simp only[hnb,Bool.false_or];congr 2;apply propext;constructor
   ·rintro(h|⟨h,_⟩)
    ·exact .inl h
    ·omega
   ·rintro(h|⟨rfl,_,h⟩)
    ·exact .inl h
    ·rw[hd] at h;exact absurd (.inr ⟨rfl,h⟩) hp
theorem UO (s:List UInt8):CI s=some (rP s):=by
 have h:=aDV s s.length 0 (by omega);unfold CI;rw[h,aRA];cases s with
 |nil=>simp [rP,rZ]
 |cons b t=>
  simp only[List.any_cons,List.getD_cons_zero,ne_eq,reduceCtorEq,not_false_eq_true,true_and,rP];cases hs:xZ b.toNat with
  |false=>simp [rZ]
  |true=>
   have hn:wR b.toNat=false:=by
    unfold xZ at hs;simp only[aQr,aQq] at hs;simp [wR];omega
   simp only[hn,Bool.false_or];cases t.any (fun b=>wR b.toNat) with
   |true=>simp [rZ]
   |false=>
    simp only[aRC,false_or,and_false,aSx];show some (decide ((1:Int)<=((b::t).length:Int))&&decide (((b::t).length:Int)<=40))=_;congr 1;rw[aRr];simp only[aQp,aQr,aQq,aQO,aQY,Bool.not_false,and_true];omega
theorem a6f {α:Type}{p:α->Bool}{l:List α}:tQ (fun _=>true) false (l.findIdx? p)=l.any p:=by
 rw[JK];cases l.any p<;>rfl
theorem EI {β:Type}{f:Nat->β}{b:β}{o:Option Nat}:rZ (some (tQ (fun k=> .inr (f k)) (.inl ()) o)) (fun _=>some b)=some (tQ f b o):=by
 cases o<;>rfl
theorem aKM (l:List (List UInt8)) (s:List UInt8) (hl:pQ l):TX l s=some (l.any fun x=>decide (x=s)):=by
 unfold pQ at hl;have h:=CG (f:=TW l s) (l:=l) (fun x=>decide (x=s)) (fun _=>true) (fun i h=>by
  unfold TW;rw[aQj (tH h),aQj (rT h),zY (t:= .str) h,aQj (sD (by omega))]) (by
  unfold TW;rw[aQl (vN _)])
 unfold TX;rw[h,EI,a6f]
theorem aDW (l:List (List UInt8)) (s:List UInt8) (hl:pQ l):BR l s=some (tQ (fun k=>(k:Int)) (-1) (l.findIdx? fun x=>decide (s=x))):=by
 unfold pQ at hl;have h:=CG (f:=OH l s) (l:=l) (fun x=>decide (s=x)) (fun k=>(k:Int)) (fun i h=>by
  unfold OH;rw[aQj (tH h),aQj (rT h),zY (t:= .str) h,aQj (sD (by omega))]) (by
  unfold OH;rw[aQl (vN _)])
 unfold BR;rw[h,EI]
theorem aDX {α:Type}{p:α->Bool}{l:List α}:decide ((0:Int)<=tQ (fun k=>(k:Int)) (-1) (l.findIdx? p))=l.any p:=by
 rw[JK];cases l.any p
 ·rfl
 ·simp only[aRZ,aQq];omega
theorem aKN (l:List (List UInt8)) (s:List UInt8) (hl:pQ l):FR l s=some (l.any fun x=>decide (x=s)):=by
 unfold FR;rw[aDW l s hl];show some (decide _)=_;rw[aDX];simp only[eq_comm]
def vY:List (List UInt8):=[[110,101,119],[102,117,122,122,121],[116,114,97,110,115,108,97,116,101,100],[114,101,118,105,101,119,101,100],[111,98,115,111,108,101,116,101]]
def sX (s:List UInt8):Int:=tQ (fun k=>(k:Int)) (-1) (vY.findIdx? fun x=>decide (x=s))
theorem aDY (s:List UInt8):LC s=some (sX s):=by
 have h:=CG (f:=TM s) (l:=vY) (fun x=>decide (x=s)) (fun k=>(k:Int)) (fun i h=>by
  have h5:i<5:=h;unfold TM a0n;rw[aQj (by simp;omega),aQj (⟨by omega,by simp;omega⟩)];show (if decide (pZ .str vY (i:Int)=s)=true then _ else _)=_;rw[zY (t:= .str) h,aQj (sD (by omega))]) (by
  unfold TM;rw[aQl (by simp [vY])])
 unfold LC;rw[h,EI];rfl
theorem UP (s:List UInt8):H5 s=some (decide (0<=sX s))/\BR vY s=some (sX s):=by
 have hi:BR vY s=some (sX s):=by
  rw[aDW vY s (by unfold pQ;decide)];unfold sX;simp only[eq_comm]
 refine⟨?_,hi⟩;unfold H5 FR;show ((BR vY s).bind _).bind _=_;rw[hi];rfl
abbrev qY:=List UInt8×List UInt8×Unit
abbrev tF:Ty:= .pair .str (.pair .str .unit)
def yQ (l:List qY) (n:List UInt8):Option Nat:=l.findIdx? fun x=>decide (x.1=n)
def PS (l:List qY) (n:List UInt8):List UInt8×Bool:=tQ (fun k=>((l.getD k ([],[],())).2.1,true)) ([],false) (yQ l n)
theorem aDZ (l:List qY) (n:List UInt8):(PS l n).2=l.any fun x=>decide (x.1=n):=by
 unfold PS yQ;rw[JK];cases l.any fun x=>decide (x.1=n)<;>rfl
theorem aKO (l:List qY) (n:List UInt8) (hl:pQ l):TO l n=some (PS l n):=by
 unfold pQ at hl;have h:=CG (f:=TN l n) (l:=l) (fun x=>decide (x.1=n)) (fun k=>((l.getD k ([],[],())).2.1,true)) (fun i h=>by
  unfold TN;rw[aQj (tH h),aQj (rT h),zY (t:=tF) h,aQj (rT h),aQj (sD (by omega)),aQI,aQs h];rfl) (by
  unfold TN;rw[aQl (vN _)])
 unfold TO;rw[h,EI];rfl
theorem aD0 (l:List qY) (n:List UInt8) (hl:pQ l):FS l n=some (tQ (fun k=>(k:Int)) (-1) (yQ l n)):=by
 unfold pQ at hl;have h:=CG (f:=OM l n) (l:=l) (fun x=>decide (x.1=n)) (fun k=>(k:Int)) (fun i h=>by
  unfold OM;rw[aQj (tH h),aQj (rT h),zY (t:=tF) h,aQj (sD (by omega))]) (by
  unfold OM;rw[aQl (vN _)])
 unfold FS LL;rw[h,EI];rfl
theorem a6g {l:List qY}{n:List UInt8}{k:Nat}(h:yQ l n=some k):k<l.length:=by
 unfold yQ at h;exact(aQX.1 h).1
theorem aKP (l:List qY) (n:List UInt8) (hl:pQ l):H4 l n=some (PS l n):=by
 unfold H4;rw[aD0 l n hl];unfold PS;cases h:yQ l n with
 |none=>rfl
 |some k=>
  have hk:=a6g h;simp only[tQ,aQi];rw[aQl (by simp),aQj (rT hk),zY (t:=tF) hk];simp only[tQ,aQI,aQs hk];rfl
def DG (l:List qY) (n:List UInt8):Nat:=(l.findIdx? fun x=> !(Op.bytesLess x.1 n||decide (x.1=n))).getD l.length
def AE (l:List qY) (n v:List UInt8):List qY:=tQ (fun k=>l.set k (n,v,())) (l.take (DG l n)++[(n,v,())]++l.drop (DG l n)) (yQ l n)
theorem aD1 (l:List qY) (n:List UInt8):DG l n<=l.length:=by
 unfold DG;cases h:l.findIdx? fun x=> !(Op.bytesLess x.1 n||decide (x.1=n)) with
 |none=>exact aQF _
 |some k=>exact Nat.le_of_lt (aQX.1 h).1
theorem aKQ (l:List qY) (n v:List UInt8):(AE l n v).length<=l.length+1:=by
 have:=aD1 l n;unfold AE;cases yQ l n with
 |none=>simp [tQ];omega
 |some k=>simp [tQ]
theorem aD2 {l:List qY}{n:List UInt8}{k:Nat}(h:yQ l n=some k) (hk:k<l.length):l[k].1=n:=by
 unfold yQ at h;have:=(aQX.1 h).2.1;simpa using this
theorem aD3 (l:List qY) (n v:List UInt8) (hl:pQ l):H8 l n v=some (AE l n v):=by
 have hl':=hl;unfold pQ at hl';unfold H8 GY;rw[aQj (by omega)];show (FS ([]++l) n).bind _=_;rw[List.nil_append,aD0 l n hl];unfold AE;cases h:yQ l n with
 |some k=>
  have hk:=a6g h;simp only[tQ,aQi];rw[aQj (by simp),aQj (rT hk),zY (t:=tF) hk,aQ2];congr 2;exact Prod.ext (aD2 h hk) rfl
 |none=>
  simp only[tQ,aQi];rw[aQl (by decide)];have h2:=CG (f:=ON l n) (l:=l) (fun x=> !(Op.bytesLess x.1 n||decide (x.1=n))) (fun k=>(k:Int)) (fun i h=>by
   unfold ON;rw[aQj (tH h),aQj (rT h),zY (t:=tF) h,aQj (sD (by omega))]) (by
   unfold ON;rw[aQl (vN _)])
  unfold LM;rw[h2,EI];unfold DG;cases h3:l.findIdx? fun x=> !(Op.bytesLess x.1 n||decide (x.1=n)) with
  |none=>
   simp only[tQ,aQi];rw[aQj (by decide),aQj ⟨by omega,aQ8 _⟩,aQj (by simp;omega)];simp [AV,tQ]
  |some k=>
   have hk:k<l.length:=(aQX.1 h3).1;simp only[tQ,aQi];rw[aQl (by simp),aQj ⟨by omega,by omega⟩,aQj (by simp;omega)];simp [AV,tQ]
theorem UQ {α:Type}{f:Int->Option (Int⊕Int)}{l:List α}(p:α->Bool)
  (hf: ∀(i:Nat) (h:i<l.length),f i=if p l[i]=true then some (.inl (i+1)) else some (.inr i)) (he:f l.length=some (.inr l.length)):
  ∀(n j:Nat),j+n=l.length->pU f j=some (((j+((l.drop j).findIdx? fun x=> !p x).getD n:Nat)):Int)
 |0,j,hj=>by
  have:j=l.length:=by omega
  subst this;rw[aQ3,xG,he];simp
 |n+1,j,hj=>by
  have hlt:j<l.length:=by omega
  rw[xG,hf j hlt,aQL hlt,aRm];by_cases hp:p l[j]=true
  ·rw[aQj hp,aQl (by simp [hp])];show pU f ((j:Int)+1)=_;rw[show ((j:Int)+1)=((j+1:Nat):Int) by omega,UQ p hf he n (j+1) (by omega)];cases(l.drop (j+1)).findIdx? fun x=> !p x with
   |none=>simp;omega
   |some k=>simp;omega
  ·rw[aQl hp,aQj (by simpa using hp)];simp
theorem aD4 {α:Type}{f:Int->Option (Int⊕Int)}{l:List α}(p:α->Bool)
  (hf: ∀(i:Nat) (h:i<l.length),f i=if p l[i]=true then some (.inl (i+1)) else some (.inr i)) (he:f l.length=some (.inr l.length)):
  pU f 0=some (((l.findIdx? fun x=> !p x).getD l.length:Nat):Int):=by
 have:=UQ p hf he l.length 0 (by omega);simpa using this
theorem UR {α:Type}{l:List α}{k:Nat}:pH l 0 (k:Int)=l.take k:=by unfold pH;simp
theorem EJ {α:Type}{l:List α}{k:Nat}:pH l (k:Int) (l.length:Int)=l.drop k:=by
 unfold pH;rw[aQ2,aQ2,List.take_of_length_le];rw[aQw];exact aQF _
theorem aD5 (l:List qY) (n v:List UInt8) (hl:pQ l):TQ l n v=some (AE l n v):=by
 have hl':=hl;unfold pQ at hl';unfold TQ;rw[aQj (by omega)];have h1:=CG (f:=TP l n v) (l:=l) (fun x=>decide (x.1=n)) (fun k=>l.set k ((l.getD k ([],[],())).1,(v,(l.getD k ([],[],())).2.2))) (fun i h=>by
  unfold TP;rw[List.nil_append,aQj (tH h),aQj (rT h),zY (t:=tF) h,aQj (rT h),aQj (sD (by omega)),aQI,aQs h,aQ2];rfl) (by
  unfold TP;rw[List.nil_append,aQl (vN _)])
 rw[h1];unfold AE;show rZ (some (tQ _ _ (yQ l n))) _=_;cases h:yQ l n with
 |some k=>
  have hk:=a6g h;simp only[tQ,aQI,aQs hk];show some (l.set k _)=_;congr 2;exact Prod.ext (aD2 h hk) rfl
 |none=>
  show qZ (pU (LD l n) 0) _=_;have h2:=aD4 (f:=LD l n) (l:=l) (fun x=>Op.bytesLess x.1 n||decide (x.1=n)) (fun i h=>by
   unfold LD;rw[aQj (fun _=>rT h),zY (t:=tF) h,tH h,Bool.true_and,aQj (sD (by omega))]) (by
   unfold LD;have hF:decide ((l.length:Int)<(l.length:Int))=false:=by simp
   rw[hF,aQj (fun h=>by simp at h),aSe,aQl (by decide)])
  rw[show pU (LD l n) 0=some ((DG l n:Nat):Int) from h2];have hk:=aD1 l n;unfold qZ;rw[aQi,aQj ⟨aQ8 _,by omega,by omega⟩,UR,EJ,aQj (by simp;omega),aQj (by simp;omega),aQj ⟨by omega,by omega,aQ8 _⟩,aQj (by simp;omega)];simp [tQ]
def zO (n:Int):Prop:=0≤n∧n≤1114111∧(n<55296∨57343<n)
def vO (n:Int):Bool:=(((decide ((0:Int)≤n))&&(decide (n≤(1114111:Int))))&&((decide (n<(55296:Int)))||(decide ((57343:Int)<n))))
theorem G4 (n:Int):vO n=true↔zO n:=by
  unfold vO zO;simp;omega
theorem US {n:Int}(h0:0≤n) (h1:n≤127):Lib.encodeRune n=rW [n]:=by
  unfold Lib.encodeRune;rw[Lib.encodeRuneZ_one h0 h1];rfl
theorem UT {n:Int}(h0:128≤n) (h1:n≤2047):Lib.encodeRune n=rW [192+n/64,128+n%64]:=by
  unfold Lib.encodeRune;rw[Lib.encodeRuneZ_two h0 h1];rfl
theorem a6h {n:Int}(h:(2048≤n∧n<55296)∨(57343<n∧n≤65535)):Lib.encodeRune n=rW [224+n/4096,128+n/64%64,128+n%64]:=by
  unfold Lib.encodeRune;rw[Lib.encodeRuneZ_three h];rfl
theorem aD6 {n:Int}(h0:65536≤n) (h1:n≤1114111):Lib.encodeRune n=rW [240+n/262144,128+n/4096%64,128+n/64%64,128+n%64]:=by
  unfold Lib.encodeRune;rw[Lib.encodeRuneZ_four h0 h1];rfl
theorem a6i {n:Int}(h:zO n):D9 n=some (Lib.encodeRune n):=by
  obtain⟨h0,h1,hs⟩:=h;have w1:IntKind.i64.wrap (n/64)=n/64:=by rw[aRk];omega
  have w2:IntKind.i64.wrap (n/4096)=n/4096:=by rw[aRk];omega
  have w3:IntKind.i64.wrap (n/262144)=n/262144:=by rw[aRk];omega
  have m1:Int.tmod n 64=n%64:=aSc h0;have m2:Int.tmod (n/64) 64=n/64%64:=aSc (by omega);have m3:Int.tmod (n/4096) 64=n/4096%64:=aSc (by omega);unfold D9;simp only[Int.tdiv_eq_ediv_of_nonneg h0,w1,w2,w3,m1,m2,m3,aRB];by_cases c1:n<128
  ·rw[aQj (by simpa using c1),US h0 (by omega),show n%256=n by omega]
  · rw[aQl (by simpa using c1)]
    by_cases c2:n<2048
    ·rw[aQj (by simpa using c2),aQj (by unfold pB;omega),aQj (by unfold pB;omega),UT (by omega) (by omega),show (192+n/64) %256=192+n/64 by omega,show (128+n%64) %256=128+n%64 by omega]
    · rw[aQl (by simpa using c2)]
      by_cases c3:n<65536
      ·rw[aQj (by simpa using c3),aQj (by unfold pB;omega),aQj (by unfold pB;omega),aQj (by unfold pB;omega),a6h (by omega),show (224+n/4096) %256=224+n/4096 by omega,show (128+n/64%64) %256=128+n/64%64 by omega,show (128+n%64) %256=128+n%64 by omega]
      ·rw[aQl (by simpa using c3),aQj (by unfold pB;omega),aQj (by unfold pB;omega),aQj (by unfold pB;omega),aQj (by unfold pB;omega),aD6 (by omega) (by omega),show (240+n/262144) %256=240+n/262144 by omega,show (128+n/4096%64) %256=128+n/4096%64 by omega,show (128+n/64%64) %256=128+n/64%64 by omega,show (128+n%64) %256=128+n%64 by omega]
theorem a6j {n:Int}{k:Int}{j:Nat}(hj:k.toNat=j) (h32:j≤32):wJ .i32 n k=n/2^j:=by
  unfold wJ;rw[hj,show min j IntKind.i32.bits=j from Nat.min_eq_left h32,Int.fdiv_eq_ediv_of_nonneg];exact Int.pow_nonneg (by decide)
theorem aKR {n:Int}(p:List Int) (h:zO n) (hp:pQ p):H6 p n=some (p++Lib.encodeRuneZ n):=by
  obtain⟨h0,h1,hs⟩:=h;unfold pQ at hp;have u:IntKind.u32.wrap n=n:=by rw[IntKind.wrap_u32];omega
  have s6:wJ .i32 n 6=n/64:=a6j (j:=6) rfl (by decide);have s12:wJ .i32 n 12=n/4096:=a6j (j:=12) rfl (by decide);have s18:wJ .i32 n 18=n/262144:=a6j (j:=18) rfl (by decide)
  have b0:bits .or .u8 128 (bits .and .u8 (n%256) 63)=128+n%64:=by
    rw[u8_and63 (x:=n%256) (by omega) (by omega),show n%256%64=n%64 by omega,u8_or128 (y:=n%64) (by omega) (by omega)]
  have b1:bits .or .u8 128 (bits .and .u8 (n/64%256) 63)=128+n/64%64:=by
    rw[u8_and63 (x:=n/64%256) (by omega) (by omega),show n/64%256%64=n/64%64 by omega,u8_or128 (y:=n/64%64) (by omega) (by omega)]
  have b2:bits .or .u8 128 (bits .and .u8 (n/4096%256) 63)=128+n/4096%64:=by
    rw[u8_and63 (x:=n/4096%256) (by omega) (by omega),show n/4096%256%64=n/4096%64 by omega,u8_or128 (y:=n/4096%64) (by omega) (by omega)]
  unfold H6;rw[u];by_cases c1:n≤127
  ·rw[aQj (by simpa using c1),aQj (by simp;omega),Lib.encodeRuneZ_one h0 c1,aRB,show n%256=n by omega]
  · rw[aQl (by simpa using c1)]
    unfold J5;simp only[u,s6,s12,s18,aRB,b0,b1,b2];by_cases c2:n≤2047
    · rw[aQj (by simpa using c2),aQj (by simp;omega),Lib.encodeRuneZ_two (by omega) c2,show n/64%256=n/64 by omega,u8_or192 (y:=n/64) (by omega) (by omega)]
      rfl
    · rw[aQl (by simpa using c2)]
      by_cases c3:n≤65535
      · have hx:(if decide (n<55296)=true then some (decide (n<55296)) else some ((decide (57343<n))&&(decide (n≤65535))))=some true:=by
          by_cases c:n<55296
          ·rw[aQj (by simpa using c)];simp [c]
          ·rw[aQl (by simpa using c)];simp;omega
        rw[hx];simp only[qZ,aQi];rw[aQj trivial,aQj (by simp;omega),Lib.encodeRuneZ_three (by omega),show n/4096%256=n/4096 by omega,u8_or224 (y:=n/4096) (by omega) (by omega)];rfl
      · have hx:(if decide (n<55296)=true then some (decide (n<55296)) else some ((decide (57343<n))&&(decide (n≤65535))))=some false:=by
          rw[aQl (by simp;omega)];simp;omega
        rw[hx];simp only[qZ,aQi];rw[aQl (by decide),aQj (by simp;omega),aQj (by simp;omega),Lib.encodeRuneZ_four (by omega) h1,show n/262144%256=n/262144 by omega,u8_or240 (y:=n/262144) (by omega) (by omega)];rfl
theorem aD7 (n:Int):(Lib.encodeRuneZ n).length≤4:=by
  unfold Lib.encodeRuneZ
  repeat' split
  all_goals simp
theorem aD8 {n:Int}(p:List Int) (h:zO n) (hp:pQ p): ∃k,EF (p,()) n=some (k,p++Lib.encodeRuneZ n):=by
  have h4:=aD7 n;unfold pQ at hp;unfold EF;rw[aKR p h hp];simp only[aQi];rw[aQj (by unfold pB;simp;omega)];exact⟨_,rfl⟩
theorem aKS (n:Int):PF [n] (0,[])=some (.inl (1,if vO n=true then Lib.encodeRuneZ n else Lib.encodeRuneZ 65533)):=by
  unfold PF;have hn:pZ (.int .i64) [n] 0=n:=rfl;dsimp only;rw[aQj (by simp),aQj ⟨aQ8 _,by simp⟩];simp only[hn];by_cases hs:vO n=true
  · have hsc:=(G4 n).1 hs
    obtain⟨k,hk⟩:=aD8 (n:=n) [] hsc (by unfold pQ;simp)
    have wn:IntKind.i32.wrap n=n:=by
      obtain⟨a,b,c⟩:=hsc;rw[IntKind.wrap_i32];omega
    rw[aQj hs];unfold vO at hs;rw[aQl (by rw[hs];decide),wn,hk];simp only[aQi,List.nil_append];rw[aQj (by unfold pB;omega)];rfl
  · rw[aQl hs]
    unfold vO at hs;obtain⟨k,hk⟩:=aD8 (n:=65533) [] (by unfold zO;omega) (by unfold pQ;simp);rw[aQj (by simp only[aQO] at hs⊢;simpa using hs),show IntKind.i32.wrap 65533=65533 from rfl,hk];simp only[aQi,List.nil_append];rw[aQj (by unfold pB;omega)];rfl
theorem aKT (n:Int):HF n=some (if vO n=true then Lib.encodeRune n else Lib.encodeRune 65533):=by
  unfold HF LW;rw[IQ (aKS n),wO (r:=if vO n=true then Lib.encodeRuneZ n else Lib.encodeRuneZ 65533) (by unfold PF;simp)];simp only[qZ,aQi];by_cases hs:vO n=true
  ·rw[aQj hs,aQj hs];rfl
  ·rw[aQl hs,aQl hs];rfl
theorem aD9 {l:List UInt8}{i:Nat}(h:i<l.length):pL l (i:Int)=((l.getD i 0).toNat:Int):=by
  rw[xV h,aQI,aQs h];rfl
theorem aKU {s:List UInt8}{x n:Int}{i:Nat}(h:i<s.length) (hn:(i:Int)<n) (hx:0≤x) (hx1:x≤1000000) (hi:i≤10):EC s n (x,(i:Int))=
    if (s.getD i 0).toNat/64=2 then some (.inl (64*x+(s.getD i 0).toNat-128,((i+1:Nat):Int))) else some (.inr (.inr (65533,1))):=by
  have hb:=(s.getD i 0).toNat_lt;have hy:=aD9 h;generalize (s.getD i 0).toNat=B at hb hy⊢;unfold EC;dsimp only;rw[aQj (by simpa using hn),aQj (rT h),aQj (fun _=>rT h),hy];by_cases hc:B/64=2
  · rw[aQl (by simp;omega),aQj hc,aQj (by unfold pB;omega),aQj (rT h),show IntKind.i64.wrap (B:Int)=(B:Int) by rw[aRk];omega,
      aQj (by unfold pB;omega),aQj (by unfold pB;omega),aQj (by unfold pB;omega)]
    rfl
  ·rw[aQj (by simp;omega),aQl hc]
theorem a6k {s:List UInt8}{x n i:Int}(h:n≤i):EC s n (x,i)=some (.inr (.inl x)):=by
  unfold EC;dsimp only;rw[aQl (by simpa using h)]
def sO (s:List UInt8) (i:Nat):Bool:=decide ((s.getD i 0).toNat/64=2)
def wS (s:List UInt8) (i:Nat) (x:Int):Int:=64*x+(s.getD i 0).toNat-128
theorem a6l {s:List UInt8}{i:Nat}{x m:Int}(h0:0≤x) (hm:x≤m) (hc:sO s i=true):0≤wS s i x∧wS s i x≤64*m+63:=by
  have hb:=(s.getD i 0).toNat_lt;unfold sO at hc;unfold wS;simp only[aQq] at hc;omega
theorem M4 {s:List UInt8}{x n:Int}{i:Nat}(h:i<s.length) (hn:(i:Int)<n) (hx:0≤x) (hx1:x≤1000000) (hi:i≤10):
    pU (EC s n) (x,(i:Int))=if sO s i=true then pU (EC s n) (wS s i x,((i+1:Nat):Int)) else some (.inr (65533,1)):=by
  rw[xG,aKU h hn hx hx1 hi];unfold sO wS;simp only[aQq];by_cases hc:(s.getD i 0).toNat/64=2
  ·rw[aQj hc,aQj hc];rfl
  ·rw[aQl hc,aQl hc];rfl
theorem aKV {s:List UInt8}{x:Int}(h:1<s.length) (hx:0≤x) (hx1:x≤31):pU (EC s 2) (x,1)=some (if sO s 1=true then .inl (wS s 1 x) else .inr (65533,1)):=by
  show pU _ (x,((1:Nat):Int))=_;rw[M4 h (by decide) hx (by omega) (by decide)];by_cases c1:sO s 1=true
  ·rw[aQj c1,aQj c1,wO (a6k (by decide))]
  ·rw[aQl c1,aQl c1]
theorem aKW {s:List UInt8}{x:Int}(h:2<s.length) (hx:0≤x) (hx1:x≤15):pU (EC s 3) (x,1)=some (if (sO s 1&&sO s 2)=true then .inl (wS s 2 (wS s 1 x)) else .inr (65533,1)):=by
  show pU _ (x,((1:Nat):Int))=_;rw[M4 (by omega) (by decide) hx (by omega) (by decide)];by_cases c1:sO s 1=true
  · have b1:=a6l hx hx1 c1
    rw[aQj c1,M4 h (by decide) b1.1 (by omega) (by decide),c1,Bool.true_and];by_cases c2:sO s 2=true
    ·rw[aQj c2,aQj c2,wO (a6k (by decide))]
    ·rw[aQl c2,aQl c2]
  ·rw[aQl c1,aQl (by simp [c1])]
theorem aKX {s:List UInt8}{x:Int}(h:3<s.length) (hx:0≤x) (hx1:x≤7):pU (EC s 4) (x,1)=some (if (sO s 1&&sO s 2&&sO s 3)=true then .inl (wS s 3 (wS s 2 (wS s 1 x))) else .inr (65533,1)):=by
  show pU _ (x,((1:Nat):Int))=_;rw[M4 (by omega) (by decide) hx (by omega) (by decide)];by_cases c1:sO s 1=true
  · have b1:=a6l hx hx1 c1
    rw[aQj c1,M4 (by omega) (by decide) b1.1 (by omega) (by decide),c1,Bool.true_and];by_cases c2:sO s 2=true
    · have b2:=a6l b1.1 b1.2 c2
      rw[aQj c2,M4 h (by decide) b2.1 (by omega) (by decide),c2,Bool.true_and];by_cases c3:sO s 3=true
      ·rw[aQj c3,aQj c3,wO (a6k (by decide))]
      ·rw[aQl c3,aQl c3]
    ·rw[aQl c2,aQl (by simp [c2])]
  ·rw[aQl c1,aQl (by simp [c1])]
def vP (s:List UInt8) (x:Int) (n:Nat):Int×Int:=if vO x=true∧Lib.encodeRune x=s.take n then(x,n) else(65533,1)
theorem a6m {s:List UInt8}{x:Int}{n:Nat}(hn:n≤s.length):
    (if (((!(((decide ((0:Int)≤x))&&(decide (x≤(1114111:Int))))&&((decide (x<(55296:Int)))||(decide ((57343:Int)<x)))))==false)=true→((D9 x)).isSome=true) then
    if (((!(((decide ((0:Int)≤x))&&(decide (x≤(1114111:Int))))&&((decide (x<(55296:Int)))||(decide ((57343:Int)<x)))))==false)=true→0≤(0:Int)∧(0:Int)≤(n:Int)∧(n:Int)≤(s.length:Int)) then
     if ((!(((decide ((0:Int)≤x))&&(decide (x≤(1114111:Int))))&&((decide (x<(55296:Int)))||(decide ((57343:Int)<x)))))||(!decide ((val (D9 x))=(pH s (0:Int) (n:Int)))))=true then
      some (((65533:Int),(1:Int)))
     else
      some ((x,(n:Int)))
    else none
   else none)=some (vP s x n):=by
  rw[UR];simp only[show (((decide ((0:Int)≤x))&&(decide (x≤(1114111:Int))))&&((decide (x<(55296:Int)))||(decide ((57343:Int)<x))))=vO x from rfl]
  unfold vP;by_cases hs:vO x=true
  · have ho:=a6i ((G4 x).1 hs)
    rw[aQj (fun _=>by rw[ho];rfl),aQj (fun _=>⟨aQ8 _,by omega,by omega⟩),ho,hs];by_cases he:Lib.encodeRune x=s.take n
    ·rw[aQl (by simp [val,he]),aQj ⟨rfl,he⟩]
    ·rw[aQj (by simp [val,he]),aQl (fun h=>he h.2)]
  · have hs':vO x=false:=by simpa using hs
    rw[aQj (fun h=>by simp [hs'] at h),aQj (fun h=>by simp [hs'] at h),aQj (by simp [hs']),aQl (fun h=>hs h.1)]
theorem G5 (z:Int) (l:List Int) (x:UInt8) (h:z=(x.toNat:Int)):rW (z::l)=x::rW l:=by
  show UInt8.ofNat z.toNat::rW l=_;rw[h];simp
theorem a6n:rW []=[]:=rfl
theorem M5 (l:List Int):(rW l).length=l.length:=by simp [rW]
theorem aKY {s:List UInt8}(hl:1<s.length) (h0:192≤(s.getD 0 0).toNat) (h0':(s.getD 0 0).toNat<224) (hc:sO s 1=true):
    vP s (wS s 1 ((s.getD 0 0).toNat-192)) 2=(((Lib.decodeL s).1:Int),((Lib.decodeL s).2:Int)):=by
  unfold sO at hc;simp only[aQq] at hc;have k0:=(s.getD 0 0).toNat_lt;have k1:=(s.getD 1 0).toNat_lt
  have hd:Lib.decodeL s=if (s.getD 0 0).toNat%32*64+(s.getD 1 0).toNat%64≥128 then((s.getD 0 0).toNat%32*64+(s.getD 1 0).toNat%64,2) else(65533,1):=by
    rw[Lib.decodeL_N];unfold Lib.decodeN;rw[aQl (by omega),aQj ⟨by omega,by omega,hc⟩]
  rw[hd];unfold vP wS;rw[Lib.takeB s hl];have hx:vO (64*((s.getD 0 0).toNat-192)+(s.getD 1 0).toNat-128)=true:=(G4 _).2 (by unfold zO;omega);rw[hx];by_cases hv:(s.getD 0 0).toNat%32*64+(s.getD 1 0).toNat%64≥128
  · rw[aQj hv,aQj ⟨rfl,by
      rw[UT (by omega) (by omega),G5 _ _ (s.getD 0 0) (by omega),G5 _ _ (s.getD 1 0) (by omega),a6n]⟩]
    exact Prod.ext (by show _=(((_:Nat)):Int);omega) rfl
  · rw[aQl hv,aQl (fun h=>by
      have h2:=aQW List.length h.2;rw[US (by omega) (by omega),M5] at h2;simp at h2)]
    rfl
theorem aKZ {s:List UInt8}(hl:2<s.length) (h0:224≤(s.getD 0 0).toNat) (h0':(s.getD 0 0).toNat<240) (hc:sO s 1=true) (hc2:sO s 2=true):
    vP s (wS s 2 (wS s 1 ((s.getD 0 0).toNat-224))) 3=(((Lib.decodeL s).1:Int),((Lib.decodeL s).2:Int)):=by
  unfold sO at hc hc2;simp only[aQq] at hc hc2;have k0:=(s.getD 0 0).toNat_lt;have k1:=(s.getD 1 0).toNat_lt;have k2:=(s.getD 2 0).toNat_lt;obtain⟨V,hV⟩: ∃V,(s.getD 0 0).toNat%16*4096+(s.getD 1 0).toNat%64*64+(s.getD 2 0).toNat%64=V:=⟨_,rfl⟩
  have hd:Lib.decodeL s=if V≥2048∧(V<55296∨(57344≤V∧V≤1114111)) then(V,3) else(65533,1):=by
    rw[Lib.decodeL_N];unfold Lib.decodeN;rw[aQl (by omega),aQl (by omega),aQj ⟨by omega,⟨by omega,hc⟩,by omega,hc2⟩,hV]
  rw[hd];unfold vP wS;rw[Lib.takeC s hl];generalize hX:64*(64*(((s.getD 0 0).toNat:Int)-224)+(s.getD 1 0).toNat-128)+(s.getD 2 0).toNat-128=X;have hXV:X=(V:Int):=by omega
  by_cases hv:V≥2048∧(V<55296∨(57344≤V∧V≤1114111))
  · rw[aQj hv,aQj ⟨(G4 _).2 (by unfold zO;omega),by
      rw[a6h (by omega),G5 _ _ (s.getD 0 0) (by omega),G5 _ _ (s.getD 1 0) (by omega),G5 _ _ (s.getD 2 0) (by omega),a6n]⟩]
    exact Prod.ext hXV rfl
  · rw[aQl hv,aQl (fun h=>by
      have hs:=(G4 _).1 h.1;unfold zO at hs;have hlt:X<2048:=by omega
      have h2:=aQW List.length h.2;by_cases h7:X≤127
      ·rw[US (by omega) h7,M5] at h2;simp at h2
      ·rw[UT (by omega) (by omega),M5] at h2;simp at h2)]
    rfl
theorem aK0 {s:List UInt8}(hl:3<s.length) (h0:240≤(s.getD 0 0).toNat) (h0':(s.getD 0 0).toNat<248) (hc:sO s 1=true) (hc2:sO s 2=true) (hc3:sO s 3=true):
    vP s (wS s 3 (wS s 2 (wS s 1 ((s.getD 0 0).toNat-240)))) 4=(((Lib.decodeL s).1:Int),((Lib.decodeL s).2:Int)):=by
  unfold sO at hc hc2 hc3;simp only[aQq] at hc hc2 hc3;have k0:=(s.getD 0 0).toNat_lt;have k1:=(s.getD 1 0).toNat_lt;have k2:=(s.getD 2 0).toNat_lt;have k3:=(s.getD 3 0).toNat_lt;obtain⟨V,hV⟩: ∃V,(s.getD 0 0).toNat%8*262144+(s.getD 1 0).toNat%64*4096+(s.getD 2 0).toNat%64*64+(s.getD 3 0).toNat%64=V:=⟨_,rfl⟩
  have hd:Lib.decodeL s=if V≥65536∧(V<55296∨(57344≤V∧V≤1114111)) then(V,4) else(65533,1):=by
    rw[Lib.decodeL_N];unfold Lib.decodeN;rw[aQl (by omega),aQl (by omega),aQl (by omega),aQj ⟨by omega,⟨by omega,hc⟩,⟨by omega,hc2⟩,by omega,hc3⟩,hV]
  rw[hd];unfold vP wS;rw[Lib.takeD s hl];generalize hX:64*(64*(64*(((s.getD 0 0).toNat:Int)-240)+(s.getD 1 0).toNat-128)+(s.getD 2 0).toNat-128)+(s.getD 3 0).toNat-128=X;have hXV:X=(V:Int):=by omega
  by_cases hv:V≥65536∧(V<55296∨(57344≤V∧V≤1114111))
  · rw[aQj hv,aQj ⟨(G4 _).2 (by unfold zO;omega),by
      rw[aD6 (by omega) (by omega),G5 _ _ (s.getD 0 0) (by omega),G5 _ _ (s.getD 1 0) (by omega),G5 _ _ (s.getD 2 0) (by omega),G5 _ _ (s.getD 3 0) (by omega),a6n]⟩]
    exact Prod.ext hXV rfl
  · rw[aQl hv,aQl (fun h=>by
      have hs:=(G4 _).1 h.1;unfold zO at hs;have hlt:X<65536:=by omega
      have h2:=aQW List.length h.2;by_cases h7:X≤127
      ·rw[US (by omega) h7,M5] at h2;simp at h2
      · by_cases h8:X≤2047
        ·rw[UT (by omega) (by omega),M5] at h2;simp at h2
        ·rw[a6h (by omega),M5] at h2;simp at h2)]
    rfl
theorem JM {s:List UInt8}(h: ¬(s.getD 0 0).toNat<128) (h2: ¬((s.getD 0 0).toNat/32=6∧1<s.length∧sO s 1=true)) (h3: ¬((s.getD 0 0).toNat/16=14∧2<s.length∧(sO s 1&&sO s 2)=true))
    (h4: ¬((s.getD 0 0).toNat/8=30∧3<s.length∧(sO s 1&&sO s 2&&sO s 3)=true)):Lib.decodeL s=(65533,1):=by
  unfold sO at h2 h3 h4;simp only[aQr,aQq] at h2 h3 h4;rw[Lib.decodeL_N];unfold Lib.decodeN;rw[aQl h,aQl (fun⟨a,b,c⟩=>h2 ⟨a,b,c⟩),aQl (fun⟨a,⟨b,c⟩,d,e⟩=>h3 ⟨a,d,c,e⟩),aQl (fun⟨a,⟨b,c⟩,⟨d,e⟩,f,g⟩=>h4 ⟨a,f,⟨c,e⟩,g⟩)]
theorem aK1 {s:List UInt8}(hne:s≠[]):TV s=some (((Lib.decodeL s).1:Int),((Lib.decodeL s).2:Int)):=by
  have hl:0<s.length:=aRH.2 hne;have hy:pL s 0=((s.getD 0 0).toNat:Int):=aD9 (i:=0) hl;have k0:=(s.getD 0 0).toNat_lt;have hw:IntKind.i64.wrap ((s.getD 0 0).toNat:Int)=((s.getD 0 0).toNat:Int):=by rw[aRk];omega
  unfold TV;rw[aQj ⟨aQ8 _,by omega⟩,hy,hw];by_cases c1:(s.getD 0 0).toNat<128
  · rw[aQj (by simp only[aQq];omega)]
    rw[Lib.decodeL_N];unfold Lib.decodeN;rw[aQj c1];rfl
  · rw[aQl (by simp only[aQq];omega)]
    by_cases c2:192≤(s.getD 0 0).toNat∧(s.getD 0 0).toNat<224
    · rw[aQj (by simp only[aQr,aQq];omega),aQj (by unfold pB;omega)]
      show (if decide ((s.length:Int)<2)=true then _ else _)=_;by_cases l2:1<s.length
      · rw[aQl (by simp only[aQq];omega),aKV l2 (by omega) (by omega)]
        by_cases hc:sO s 1=true
        · rw[aQj hc,←aKY l2 c2.1 c2.2 hc,←a6m (s:=s) (n:=2) (by omega)]
          rfl
        · rw[aQl hc,JM c1 (fun h=>hc h.2.2) (fun h=>by omega) (fun h=>by omega)]
          rfl
      · rw[aQj (by simp only[aQq];omega),JM c1 (fun h=>l2 h.2.1) (fun h=>by omega) (fun h=>by omega)]
        rfl
    · rw[aQl (by simp only[aQr,aQq];omega)]
      by_cases c3:224≤(s.getD 0 0).toNat∧(s.getD 0 0).toNat<240
      · rw[aQj (by simp only[aQr,aQq];omega),aQj (by unfold pB;omega)]
        show (if decide ((s.length:Int)<3)=true then _ else _)=_;by_cases l2:2<s.length
        · rw[aQl (by simp only[aQq];omega),aKW l2 (by omega) (by omega)]
          by_cases hc:(sO s 1&&sO s 2)=true
          · have hc':=aQr _ _▸hc
            rw[aQj hc,←aKZ l2 c3.1 c3.2 hc'.1 hc'.2,←a6m (s:=s) (n:=3) (by omega)];rfl
          · rw[aQl hc,JM c1 (fun h=>by omega) (fun h=>hc h.2.2) (fun h=>by omega)]
            rfl
        · rw[aQj (by simp only[aQq];omega),JM c1 (fun h=>by omega) (fun h=>l2 h.2.1) (fun h=>by omega)]
          rfl
      · rw[aQl (by simp only[aQr,aQq];omega)]
        by_cases c4:240≤(s.getD 0 0).toNat∧(s.getD 0 0).toNat<248
        · rw[aQj (by simp only[aQr,aQq];omega),aQj (by unfold pB;omega)]
          show (if decide ((s.length:Int)<4)=true then _ else _)=_;by_cases l2:3<s.length
          · rw[aQl (by simp only[aQq];omega),aKX l2 (by omega) (by omega)]
            by_cases hc:(sO s 1&&sO s 2&&sO s 3)=true
            · have hc':=aQr _ _▸hc
              have hc'':=aQr _ _▸hc'.1;rw[aQj hc,←aK0 l2 c4.1 c4.2 hc''.1 hc''.2 hc'.2,←a6m (s:=s) (n:=4) (by omega)];rfl
            · rw[aQl hc,JM c1 (fun h=>by omega) (fun h=>by omega) (fun h=>hc h.2.2)]
              rfl
          · rw[aQj (by simp only[aQq];omega),JM c1 (fun h=>by omega) (fun h=>by omega) (fun h=>l2 h.2.1)]
            rfl
        · rw[aQl (by simp only[aQr,aQq];omega),JM c1 (fun h=>by omega) (fun h=>by omega) (fun h=>by omega)]
          rfl
def y3:Nat->List UInt8->List Int
 |0,_=>[]
 |n+1,s=>if s=[] then[] else((Lib.decodeL s).1:Int)::y3 n (s.drop (Lib.decodeL s).2)
theorem aEa: ∀(n:Nat) (s:List UInt8),(y3 n s).length<=n
 |0,_=>aQF _
 |n+1,s=>by
  unfold y3;split
  ·simp
  ·simp only[aQp];have:=aEa n (s.drop (Lib.decodeL s).2);omega
theorem aK2 (s:List UInt8):zO ((Lib.decodeL s).1:Int):=by
 have k0:=(s.getD 0 0).toNat_lt;rw[Lib.decodeL_N];rcases Lib.decodeN_shape s.length (s.getD 0 0).toNat (s.getD 1 0).toNat (s.getD 2 0).toNat (s.getD 3 0).toNat with⟨c,e⟩ |⟨c1,c2,c3,cv,e⟩ |⟨c1,c2,c3,c4,cv,cs,e⟩ |⟨c1,c2,c3,c4,c5,cv,cw,e⟩ |e
 all_goals (rw[e];unfold zO;dsimp only;omega)
theorem aEb: ∀(n:Nat) (s:List UInt8) (out:List Int),s.length<=n->out.length+s.length<=4000000000->pU OV (s,out)=some (out++y3 n s)
 |n,[],out,_,_=>by
  rw[wO (r:=out) (by unfold OV;simp)];cases n<;>simp [y3]
 |0,b::t,_,h,_=>by simp at h
 |n+1,b::t,out,h,ho=>by
  have hne:(b::t)≠[]:=by simp
  have hle:=Lib.decodeL_le (b::t) hne;have hw:=Lib.decodeL_width (b::t);have hstep:OV (b::t,out)=some (.inl ((b::t).drop (Lib.decodeL (b::t)).2,out++[((Lib.decodeL (b::t)).1:Int)])):=by
   unfold OV;dsimp only;rw[aQj (by simp),aK1 hne];simp only[aQi];rw[aQj (by simp only[aQp,aQG] at ho⊢;omega),aQj ⟨by omega,by omega,aQ8 _⟩,EJ]
  rw[IQ hstep,aEb n _ _ (by rw[aQw];simp only[aQp] at h hle⊢;omega) (by rw[aQw,aQm];simp only[aQp,aQG] at ho hle⊢;omega)];rw[show y3 (n+1) (b::t)=((Lib.decodeL (b::t)).1:Int)::y3 n ((b::t).drop (Lib.decodeL (b::t)).2) by rw[y3,aQl hne],aQt];rfl
def UU (s:List UInt8):List Int:=y3 s.length s
theorem aK3 (s:List UInt8) (hs:pQ s):U5 s=some (UU s):=by
 unfold pQ at hs;unfold U5;rw[aEb s.length s [] (aQF _) (by simpa using hs)];rfl
theorem aEc: ∀(n:Nat) (s:List UInt8),∀x∈y3 n s,zO x
 |0,_,_,h=>by cases h
 |n+1,s,x,h=>by
  unfold y3 at h;split at h
  ·cases h
  ·rcases aQC.1 h with h|h
   ·rw[h];exact aK2 s
   ·exact aEc n _ x h
def HJ (l:List Int):List UInt8:=(l.map Lib.encodeRune).flatten
theorem a6o (n:Int):(Lib.encodeRune n).length<=4:=by
 unfold Lib.encodeRune;rw[aRq];exact aD7 n
theorem aEd (l:List Int) (hsc: ∀x∈l,zO x) (hl:pQ l): ∀(n j:Nat) (s:List UInt8),j+n=l.length->s.length+4*n<=10000000000000->pU (OU l) (s,(j:Int))=some (s++HJ (l.drop j))
 |0,j,s,hj,_=>by
  have:j=l.length:=by omega
  subst this;rw[wO (r:=s) (by unfold OU;simp),aQ3];simp [HJ]
 |n+1,j,s,hj,hs=>by
  have hlt:j<l.length:=by omega
  unfold pQ at hl;have hx:=hsc l[j] (aRF hlt);have h4:=a6o l[j];have hstep:OU l (s,(j:Int))=some (.inl (s++Lib.encodeRune l[j],((j+1:Nat):Int))):=by
   unfold OU;dsimp only;rw[aQj (tH hlt),aQj (rT hlt),zY (t:= .int .i64) hlt];have hb:=(G4 l[j]).2 hx;unfold vO at hb;rw[aQj hb,aQj (rT hlt),a6i hx];simp only[aQi];rw[aQj (by rw[aQm];omega),aQj (sD (by omega))];rfl
  rw[IQ hstep,aEd l hsc hl n (j+1) _ (by omega) (by rw[aQm];omega),aQL hlt,aQt];rfl
theorem aK4 (l:List Int) (hsc: ∀x∈l,zO x) (hl:pQ l):U3 l=some (HJ l):=by
 have hl':=hl;unfold pQ at hl';unfold U3;rw[show ((0:Int))=((0:Nat):Int) from rfl,aEd l hsc hl l.length 0 [] (by omega) (by simp;omega)];rfl
theorem aEe: ∀(n:Nat) (s:List UInt8),s.length<=n->s.length<=(HJ (y3 n s)).length/\(HJ (y3 n s)=s↔Lib.validD s=true)
 |n,[],_=>by
  have:y3 n []=[]:=by cases n<;>simp [y3]
  rw[this];simp [HJ,Lib.validD_nil]
 |0,b::t,h=>by simp at h
 |n+1,b::t,h=>by
  have hne:(b::t)≠[]:=by simp
  have hle:=Lib.decodeL_le (b::t) hne;have hw:=Lib.decodeL_width (b::t);obtain⟨ih1,ih2⟩:=aEe n ((b::t).drop (Lib.decodeL (b::t)).2) (by rw[aQw];simp only[aQp] at h⊢;omega);have hr:HJ (y3 (n+1) (b::t))=Lib.encodeRune ((Lib.decodeL (b::t)).1:Int)++HJ (y3 n ((b::t).drop (Lib.decodeL (b::t)).2)):=by
   rw[y3,aQl hne];rfl
  rw[hr,Lib.validD_step _ hne];rw[aQw] at ih1;by_cases hv:(Lib.decodeL (b::t)).1=65533/\(Lib.decodeL (b::t)).2=1
  ·rw[aQj hv,hv.1];have e3:(Lib.encodeRune ((65533:Nat):Int)).length=3:=rfl;rw[hv.2] at ih1⊢;refine⟨by rw[aQm,e3];omega,fun he=> ?_,fun he=>by cases he⟩;have:=aQW List.length he;rw[aQm,e3] at this;omega
  ·have he:=Lib.encode_decode (b::t) hne hv;rw[aQl hv,he];refine⟨by rw[aQm,aQM];omega,?_⟩;rw[<-ih2];constructor
   ·intro h1;exact List.append_cancel_left (h1.trans (aRy _ _).symm)
   ·intro h1;rw[h1,aRy]
theorem aK5 (s:List UInt8) (hs:pQ s):LR s=some (Lib.validD s):=by
 have hl:pQ (UU s):=by
  have:=aEa s.length s;unfold pQ UU at*;omega
 unfold LR;rw[aK3 s hs];simp only[aQi];rw[aK4 (UU s) (fun x hx=>aEc _ _ x hx) hl];simp only[aQi];congr 1;have:=(aEe s.length s (aQF _)).2;rw[aRr,aQq];exact this
def s0 (s:List UInt8):Bool:=decide ((s.length:Int)<=4000)&&Lib.validD s
theorem aK6 (s:List UInt8) (hs:pQ s):U9 s=some ()/\((decide ((s.length:Int)<=4000))&&val (LR s))=s0 s:=by
 unfold U9;rw[aK5 s hs];exact⟨aQj (fun _=>rfl),rfl⟩
theorem M6 (s:List UInt8) (hs:pQ s):DB s=some ():=by
 unfold pQ at hs;unfold DB OI;rw[aQj (fun _=>by rw[aQj (by omega)];rfl)]
theorem EK {p:Prop}{α:Type}{v:α}:p->(some v).isSome=true:=fun _=>rfl
theorem aEf {ρ:Type}{f:Int->Option (Int⊕(Unit⊕ρ))}{n:Nat}(p:Nat->Bool) (g:Nat->ρ)
  (hf: ∀(i:Nat),i<n->f i=if p i=true then some (.inr (.inr (g i))) else some (.inl (i+1)))
  (he:f n=some (.inr (.inl ()))):pU f 0=some (tQ (fun k=> .inr (g k)) (.inl ()) ((List.range n).findIdx? p)):=by
 refine CG (l:=List.range n) p g (fun i h=> ?_) (by rw[List.length_range];exact he);have hi:i<n:=by rw[List.length_range] at h;exact h
 rw[List.getElem_range];exact hf i hi
theorem aK7 (a b:List UInt8):(!Op.bytesLess a b)=(Op.bytesLess b a||decide (b=a)):=by
 rw[bytesLess_eq,bytesLess_eq,aRr];simp only[aQO,aQY,aRg,aQq];constructor
 ·intro h;exact(List.le_iff_lt_or_eq.1 (List.not_lt.1 h))
 ·rintro(h|h)
  ·exact List.lt_asymm h
  ·rw[h];exact List.lt_irrefl _
theorem aEg {n:Nat}{p:Nat->Bool}{b:Bool}:rZ (some (tQ (fun _=>Sum.inr false) (Sum.inl ()) ((List.range n).findIdx? p))) (fun _:Unit=>some b)=some (!((List.range n).any p)&&b):=by
 rw[JK];cases(List.range n).any p<;>rfl
def xM (l:List (List UInt8)):Bool:=decide ((l.length:Int)<=20)&& !(l.any fun x=> !s0 x)
theorem aK8 (l:List (List UInt8)) (hl:pQ l) (hx: ∀x∈l,pQ x):B0 l=some (l.any fun x=> !s0 x):=by
 unfold pQ at hl;have h:=CG (f:=PB l) (l:=l) (fun x=> !s0 x) (fun k=>(k:Int)) (fun i h=>by
  have h1:=M6 l[i] (hx _ (aRF h));unfold PB P0;rw[aQj (tH h),aQj (rT h),zY (t:= .str) h,h1,aQi,aQi,aQj (sD (by omega))];rfl) (by
  unfold PB;rw[aQl (vN _)])
 unfold B0 LU;rw[h,EI];show some (decide _)=_;rw[aDX]
theorem aEh (l:List (List UInt8)) (hl:pQ l) (hx: ∀x∈l,pQ x):JF l=some ()/\((decide ((l.length:Int)<=20))&&(!(val (B0 l))))=xM l:=by
 unfold JF;rw[aK8 l hl hx];exact⟨aQj EK,rfl⟩
def UV (l:List (List UInt8)) (i:Nat):Bool:=(!rP (l.getD i []))||(decide (0<i)&& !Op.bytesLess (l.getD (i-1) []) (l.getD i []))
def DH (l:List (List UInt8)):Bool:= !((List.range l.length).any (UV l))&&decide ((l.length:Int)<=20)
theorem a6p {l:List (List UInt8)}{i:Nat}:pZ .str l (i:Int)=l.getD i []:=by unfold pZ;rw[aQ2];rfl
theorem aK9 {l:List (List UInt8)}{i:Nat}:pZ .str l ((i:Int)-1)=l.getD (i-1) []:=by
 unfold pZ;rw[show ((i:Int)-1).toNat=i-1 by omega];rfl
theorem aEi {i:Nat}:decide ((0:Int)<(i:Int))=decide (0<i):=by simp
theorem aLa (l:List (List UInt8)) (hl:pQ l):FJ l=some (DH l):=by
 unfold pQ at hl;have h:=aEf (f:=OF l) (n:=l.length) (UV l) (fun _=>false) (fun i h=>by
  unfold OF;rw[aQj (tH h),aQj (rT h),a6p,aK9,UO,aQi,aEi];have h0: ∀q:Bool,((q==false)&&(decide (0<i)==true))=true->0<i:=fun q hq=>by
   simp only[aQr,aSz,aQq] at hq;exact hq.2
  rw[aQj (fun hq=>by have:=h0 _ hq;unfold pB;omega),aQj (fun hq=>by have:=h0 _ hq;omega),aQj (sD (by omega))];rfl) (by
  unfold OF;rw[aQl (vN _)])
 unfold FJ;rw[h,aEg];rfl
abbrev fD:qY:=([],([],()))
def UW (l:List qY) (i:Nat):Bool:=((!rP (l.getD i fD).1)||(!s0 (l.getD i fD).2.1))||(decide (0<i)&& !Op.bytesLess (l.getD (i-1) fD).1 (l.getD i fD).1)
def wT (l:List qY):Bool:= !((List.range l.length).any (UW l))&&decide ((l.length:Int)<=20)
theorem aEj {l:List qY}{i:Nat}:pZ (.pair .str (.pair .str .unit)) l (i:Int)=l.getD i fD:=by unfold pZ;rw[aQ2];rfl
theorem aLb {l:List qY}{i:Nat}:pZ (.pair .str (.pair .str .unit)) l ((i:Int)-1)=l.getD (i-1) fD:=by
 unfold pZ;rw[show ((i:Int)-1).toNat=i-1 by omega];rfl
def UX (x:qY):Prop:=pQ x.1/\pQ x.2.1
theorem PT {α:Type}{l:List α}{i:Nat}{d:α}(h:i<l.length):l.getD i d∈l:=by
 rw[aQI,aQs h];exact aRF h
theorem aEk {i:Nat}{q:Bool}(hq:((q==false)&&(decide (0<i)==true))=true):0<i:=by
 simp only[aQr,aSz,aQq] at hq;exact hq.2
theorem aEl (l:List qY) (hl:pQ l) (hx: ∀x∈l,UX x):EE l=some (wT l):=by
 unfold pQ at hl;have h:=aEf (f:=OY l) (n:=l.length) (UW l) (fun _=>false) (fun i h=>by
  unfold OY;have hf:=hx _ (PT (d:=fD) h);rw[aQj (tH h),aQj (rT h),aEj,aLb,UO,aQi,aEi,M6 _ hf.2];rw[aQj EK,aQj (fun hq=>by have:=aEk hq;unfold pB;omega),aQj (fun hq=>by have:=aEk hq;omega),aQj (sD (by omega))];rfl) (by
  unfold OY;rw[aQl (vN _)])
 unfold EE;rw[h,aEg];rfl
abbrev tI:=rG
structure a6q (x:tI):Prop where
 id:pQ x.1
 src:pQ x.2.1
 tgt:pQ x.2.2.1
 com:pQ x.2.2.2.1/\∀y∈x.2.2.2.1,pQ y
 flg:pQ x.2.2.2.2.1/\∀y∈x.2.2.2.2.1,pQ y
 fld:pQ x.2.2.2.2.2.2.1/\∀y∈x.2.2.2.2.2.2.1,UX y
def y4 (x:tI):Bool:=
 (((((((!decide (x.1=[]))&&decide ((x.1.length:Int)<=200))&&s0 x.1)&&s0 x.2.1)&&s0 x.2.2.1)&&xM x.2.2.2.1)&&DH x.2.2.2.2.1)&&(decide (0<=x.2.2.2.2.2.1)&&decide (x.2.2.2.2.2.1<=4))&&wT x.2.2.2.2.2.2.1
theorem aLc (x:tI) (h:a6q x):HE x=some (y4 x):=by
 obtain⟨t1,t2⟩:=aEh _ h.com.1 h.com.2;have e1:=aLa _ h.flg.1;have e2:=aEl _ h.fld.1 h.fld.2;unfold HE;rw[M6 _ h.id,M6 _ h.src,M6 _ h.tgt,t1,t2,e1,e2];have k: ∀s:List UInt8,(decide ((s.length:Int)<=4000)&&Lib.validD s)=s0 s:=fun s=>rfl;rw[aQj EK,aQi,aQj EK,aQj EK,aQj EK,aQj EK,k,k,k];unfold y4;show (if _ then some false else some _)=_;have a1:decide ((200:Int)<(x.1.length:Int))= !decide ((x.1.length:Int)<=200):=by rw[<-decide_not];exact aSg.2 (by omega)
 have a2:decide (x.2.2.2.2.2.1<(0:Int))= !decide ((0:Int)<=x.2.2.2.2.2.1):=by rw[<-decide_not];exact aSg.2 (by omega)
 have a3:decide ((4:Int)<x.2.2.2.2.2.1)= !decide (x.2.2.2.2.2.1<=(4:Int)):=by rw[<-decide_not];exact aSg.2 (by omega)
 rw[a1,a2,a3];show (if _ then some false else some (((((s0 x.2.1&&s0 x.2.2.1)&&xM x.2.2.2.1)&&DH x.2.2.2.2.1))&&wT x.2.2.2.2.2.2.1))=_;generalize decide (x.1=[])=b1;generalize decide ((x.1.length:Int)<=200)=b2;generalize s0 x.1=b3;generalize s0 x.2.1=b4;generalize s0 x.2.2.1=b5;generalize xM x.2.2.2.1=b6;generalize DH x.2.2.2.2.1=b7;generalize decide ((0:Int)<=x.2.2.2.2.2.1)=b8;generalize decide (x.2.2.2.2.2.1<=(4:Int))=b9;generalize wT x.2.2.2.2.2.2.1=b10;cases b1<;>cases b2<;>cases b3<;>cases b8<;>cases b9<;>simp
end Go.Proofs.YtbbpilohihldiaaGreatDoor
