/- Packed by a program of mine (wip/tools/pack.py): the same texts with short names and few blanks. -/
import Derived.KernelRfl
import Derived.Test.YtkpflnijijccpaaGreatDoorE002
set_option linter.defProp false
set_option linter.unusedVariables false
set_option linter.unusedSimpArgs false
set_option linter.unusedSectionVars false
set_option maxRecDepth 100000
set_option maxHeartbeats 4000000
namespace Go.Proofs.YtkpflnijijccpaaGreatDoor
open Vc
noncomputable section
def OQ (O:Int):Option oT:=if (decide (O=(38:Int)))=true then some (([38,97,109,112,59]:oT)) else if (decide (O=(60:Int)))=true then some (([38,108,116,59]:oT)) else if (decide (O=(62:Int)))=true then some (([38,103,116,59]:oT)) else if (decide (O=(34:Int)))=true then some (([38,113,117,111,116,59]:oT)) else if ((decide (O<(32:Int)))||(decide (O=(127:Int))))=true then (OH (IntKind.wrap .i64 O)).bind fun Z=>if ((([38,35]:oT)++Z).length:Int)≤9223372036854775807 then if (((([38,35]:oT)++Z)++([59]:oT)).length:Int)≤9223372036854775807 then some (((([38,35]:oT)++Z)++([59]:oT))) else none else none else some ((sN ([O]:p6)))
section
variable (O:Int)
abbrev a2b:List pN:=[(.val (.int .u8) O,none)]
abbrev a2c:List pM:=[]
@[go_sem] def a2d:pR:=⟨[((OQ O)).isSome=true],[(.val .str (val (OQ O)),none)],[]⟩
def aDj:List pN→List pM→Option pR:=qU (V:=Int) (a2b) (fun x=>a2c) fun x=>a2d x
@[go_sem] def aOZ:aDj (no_index (a2b O)) (no_index a2c)=some (a2d O):=qV (fun a0 b0 h1 h2=>by cases h1;cases h2;rfl) O
end
@[go_sem] abbrev aDk:Nat×qC:=(143,⟨[.v],aDj,[],[],none⟩)
def A7:qM Tryz.prog [u7,y5,rG,xO] (qO [aCr]):=⟨⟨uF,⟨zA,⟨rJ,⟨yN,trivial⟩⟩⟩⟩,pU aK8 qS,qQ⟩
def aLk:qE Tryz.prog aDk:=by
 refine qW A7 Tryz.func143 (c:=_) rfl (N:=30) pE (ts:=[(2,none)]) rfl (fun _ _=>rfl) ?_;intro O hs hrow;dsimp only[a2b,a2c,a2d,qR,pX,qD,qI,qT,Nat.reduceAdd] at hs hrow|-;have hz:=hs;obtain⟨z0,d⟩:=aQF.1 hz
 try rw[r8 d]
 clear hz hs;unfold OQ at d;refine pL A7 ?_;refine pW (qY ?_);refine pL A7 ?_;refine pY d (fun d hc1=> ?_) (fun d hc1=> ?_)
 .refine pL A7 ?_;refine pV (r6 (qP ?_));cases d;exact oV []
 .refine pL A7 ?_;refine pY d (fun d hc2=> ?_) (fun d hc2=> ?_)
  .refine pL A7 ?_;refine pV (r6 (qP ?_));cases d;exact oV []
  .refine pL A7 ?_;refine pY d (fun d hc3=> ?_) (fun d hc3=> ?_)
   .refine pL A7 ?_;refine pV (r6 (qP ?_));cases d;exact oV []
   .refine pL A7 ?_;refine pY d (fun d hc4=> ?_) (fun d hc4=> ?_)
    .refine pL A7 ?_;refine pV (r6 (qP ?_));cases d;exact oV []
    .refine pL A7 ?_ (hp:=by exact⟨id,rU⟩);refine pY d (fun d hc5=> ?_) (fun d hc5=> ?_)
     .obtain⟨Z,hv1,hw1,d⟩:=q8 d
      try simp only[go_sem] at hw1
      obtain⟨hg2,d⟩:=pP d;obtain⟨hg3,d⟩:=pP d;refine pL A7 ?_ (hp:=by exact⟨pZ hv1,hg2,hg3⟩) (h:=by simp only[go_sem,hw1];rfl);refine pV (r6 (qP ?_));cases d;exact oV []
     .refine qG (r5 (pT ?_));refine pL A7 ?_;refine pV ?_;cases d;exact oV []
def aDl (O:Int):Unit:=()
section
variable (O:Int)
abbrev a2e:List pN:=[(.val (.int .i64) O,none)]
abbrev a2f:List pM:=[]
@[go_sem] def a2g:pR:=⟨[],[(.val .bool (((decide ((0:Int)≤O))&&(decide (O≤(1114111:Int))))&&((decide (O<(55296:Int)))||(decide ((57343:Int)<O)))),none)],[]⟩
def aDm:List pN→List pM→Option pR:=qU (V:=Int) (a2e) (fun x=>a2f) fun x=>a2g x
@[go_sem] def aO0:aDm (no_index (a2e O)) (no_index a2f)=some (a2g O):=qV (fun a0 b0 h1 h2=>by cases h1;cases h2;rfl) O
end
@[go_sem] abbrev a2h:Nat×qC:=(146,⟨[.v],aDm,[],[],none⟩)
def a2i:qM Tryz.prog [] (qO []):=⟨trivial,qS,qQ⟩
def aDn:qE Tryz.prog a2h:=by
 refine qW a2i Tryz.func146 (c:=_) rfl (N:=17) pE (ts:=[(2,none)]) rfl (fun _ _=>rfl) ?_;intro O hs hrow;dsimp only[a2e,a2f,a2g,qR,pX,qD,qI,qT,Nat.reduceAdd] at hs hrow|-;obtain⟨z0,d⟩: ∃z,(aDl O)=z:=⟨_,rfl⟩
 try rw[d]
 unfold aDl at d;refine pL a2i ?_;refine pL a2i ?_ (hp:=by exact⟨id,rI,id,id,id,id,fun hG e=>CN hG e,rI⟩);refine pV ?_;cases d;exact oV []
def AU (O:Int):Option oT:=if (decide (O<(128:Int)))=true then some ((sN ([(IntKind.wrap .u8 O)]:p6))) else if (decide (O<(2048:Int)))=true then if pO ((192:Int)+(IntKind.wrap .i64 (Int.tdiv O (64:Int)))) then if pO ((128:Int)+(Int.tmod O (64:Int))) then some ((sN ([(IntKind.wrap .u8 ((192:Int)+(IntKind.wrap .i64 (Int.tdiv O (64:Int))))),(IntKind.wrap .u8 ((128:Int)+(Int.tmod O (64:Int))))]:p6))) else none else none else if (decide (O<(65536:Int)))=true then if pO ((224:Int)+(IntKind.wrap .i64 (Int.tdiv O (4096:Int)))) then if pO ((128:Int)+(Int.tmod (IntKind.wrap .i64 (Int.tdiv O (64:Int))) (64:Int))) then if pO ((128:Int)+(Int.tmod O (64:Int))) then some ((sN ([(IntKind.wrap .u8 ((224:Int)+(IntKind.wrap .i64 (Int.tdiv O (4096:Int))))),(IntKind.wrap .u8 ((128:Int)+(Int.tmod (IntKind.wrap .i64 (Int.tdiv O (64:Int))) (64:Int)))),(IntKind.wrap .u8 ((128:Int)+(Int.tmod O (64:Int))))]:p6))) else none else none else none else if pO ((240:Int)+(IntKind.wrap .i64 (Int.tdiv O (262144:Int)))) then if pO ((128:Int)+(Int.tmod (IntKind.wrap .i64 (Int.tdiv O (4096:Int))) (64:Int))) then if pO ((128:Int)+(Int.tmod (IntKind.wrap .i64 (Int.tdiv O (64:Int))) (64:Int))) then if pO ((128:Int)+(Int.tmod O (64:Int))) then some ((sN ([(IntKind.wrap .u8 ((240:Int)+(IntKind.wrap .i64 (Int.tdiv O (262144:Int))))),(IntKind.wrap .u8 ((128:Int)+(Int.tmod (IntKind.wrap .i64 (Int.tdiv O (4096:Int))) (64:Int)))),(IntKind.wrap .u8 ((128:Int)+(Int.tmod (IntKind.wrap .i64 (Int.tdiv O (64:Int))) (64:Int)))),(IntKind.wrap .u8 ((128:Int)+(Int.tmod O (64:Int))))]:p6))) else none else none else none else none
section
variable (O:Int)
abbrev a2j:List pN:=[(.val (.int .i64) O,none)]
abbrev a2k:List pM:=[]
@[go_sem] def a2l:pR:=⟨[((AU O)).isSome=true],[(.val .str (val (AU O)),none)],[]⟩
def aDo:List pN→List pM→Option pR:=qU (V:=Int) (a2j) (fun x=>a2k) fun x=>a2l x
@[go_sem] def aO1:aDo (no_index (a2j O)) (no_index a2k)=some (a2l O):=qV (fun a0 b0 h1 h2=>by cases h1;cases h2;rfl) O
end
@[go_sem] abbrev a2m:Nat×qC:=(147,⟨[.v],aDo,[],[],none⟩)
def EB:qM Tryz.prog [u7,y5,rG,xO] (qO []):=⟨⟨uF,⟨zA,⟨rJ,⟨yN,trivial⟩⟩⟩⟩,qS,qQ⟩
def aDp:qE Tryz.prog a2m:=by
 refine qW EB Tryz.func147 (c:=_) rfl (N:=61) pE (ts:=[(2,none)]) rfl (fun _ _=>rfl) ?_;intro O hs hrow;dsimp only[a2j,a2k,a2l,qR,pX,qD,qI,qT,Nat.reduceAdd] at hs hrow|-;have hz:=hs;obtain⟨z0,d⟩:=aQF.1 hz
 try rw[r8 d]
 clear hz hs;unfold AU at d;refine pL EB ?_;refine pW (qY ?_);refine pL EB ?_;refine pY d (fun d hc1=> ?_) (fun d hc1=> ?_)
 .refine pL EB ?_;refine pV (r6 (qP ?_));cases d;exact oV []
 .refine pL EB ?_;refine pY d (fun d hc2=> ?_) (fun d hc2=> ?_)
  .obtain⟨hg1,d⟩:=pP d;obtain⟨hg2,d⟩:=pP d;refine pL EB ?_ (hp:=by exact⟨show (64:Int)≠0 from by decide,hg1,show (64:Int)≠0 from by decide,hg2⟩);refine pV (r6 (qP ?_));cases d;exact oV []
  .refine pL EB ?_;refine pY d (fun d hc3=> ?_) (fun d hc3=> ?_)
   .obtain⟨hg3,d⟩:=pP d;obtain⟨hg4,d⟩:=pP d;obtain⟨hg5,d⟩:=pP d;refine pL EB ?_ (hp:=by exact⟨show (4096:Int)≠0 from by decide,hg3,show (64:Int)≠0 from by decide,show (64:Int)≠0 from by decide,hg4,show (64:Int)≠0 from by decide,hg5⟩);refine pV (r6 (qP ?_));cases d;exact oV []
   .refine qG (r5 (pT ?_));obtain⟨hg6,d⟩:=pP d;obtain⟨hg7,d⟩:=pP d;obtain⟨hg8,d⟩:=pP d;obtain⟨hg9,d⟩:=pP d;refine pL EB ?_ (hp:=by exact⟨show (262144:Int)≠0 from by decide,hg6,show (4096:Int)≠0 from by decide,show (64:Int)≠0 from by decide,hg7,show (64:Int)≠0 from by decide,show (64:Int)≠0 from by decide,hg8,show (64:Int)≠0 from by decide,hg9⟩);refine pV ?_;cases d;exact oV []
def BR (O:oT) (Z:Int):(Int×Int)→Option ((Int×Int)⊕(Int⊕(Int×Int))):=fun(aA,aB)=>if (decide (aB<Z))=true then if 0≤aB∧aB<(O.length:Int) then if (((decide ((rP O aB)<(128:Int)))==false)=true→0≤aB∧aB<(O.length:Int)) then if ((decide ((rP O aB)<(128:Int)))||(decide ((191:Int)<(rP O aB))))=true then some (.inr (.inr (((65533:Int),(1:Int))))) else if pO ((64:Int)*aA) then if 0≤aB∧aB<(O.length:Int) then if pO (((64:Int)*aA)+(IntKind.wrap .i64 (rP O aB))) then if pO ((((64:Int)*aA)+(IntKind.wrap .i64 (rP O aB)))- (128:Int)) then if pO (aB+(1:Int)) then some (.inl (((((64:Int)*aA)+(IntKind.wrap .i64 (rP O aB)))- (128:Int)),(aB+(1:Int)))) else none else none else none else none else none else none else none else some (.inr (.inl aA))
def G5 (O:oT):Option (Int×Int):=if 0≤(0:Int)∧(0:Int)<(O.length:Int) then sR (σ:=(Int×Int)) (if (decide ((IntKind.wrap .i64 (rP O (0:Int)))<(128:Int)))=true then some (.inr (((IntKind.wrap .i64 (rP O (0:Int))),(1:Int)))) else if ((decide ((192:Int)≤(IntKind.wrap .i64 (rP O (0:Int)))))&&(decide ((IntKind.wrap .i64 (rP O (0:Int)))<(224:Int))))=true then if pO ((IntKind.wrap .i64 (rP O (0:Int)))- (192:Int)) then some (.inl (((IntKind.wrap .i64 (rP O (0:Int)))- (192:Int)),(2:Int))) else none else if ((decide ((224:Int)≤(IntKind.wrap .i64 (rP O (0:Int)))))&&(decide ((IntKind.wrap .i64 (rP O (0:Int)))<(240:Int))))=true then if pO ((IntKind.wrap .i64 (rP O (0:Int)))- (224:Int)) then some (.inl (((IntKind.wrap .i64 (rP O (0:Int)))- (224:Int)),(3:Int))) else none else if ((decide ((240:Int)≤(IntKind.wrap .i64 (rP O (0:Int)))))&&(decide ((IntKind.wrap .i64 (rP O (0:Int)))<(248:Int))))=true then if pO ((IntKind.wrap .i64 (rP O (0:Int)))- (240:Int)) then some (.inl (((IntKind.wrap .i64 (rP O (0:Int)))- (240:Int)),(4:Int))) else none else some (.inr (((65533:Int),(1:Int)))) ) fun(Z,aA)=>if (decide ((O.length:Int)<aA))=true then some (((65533:Int),(1:Int))) else sR (rF (BR O aA) (Z,(1:Int))) fun aB=>if (((!(((decide ((0:Int)≤aB))&&(decide (aB≤(1114111:Int))))&&((decide (aB<(55296:Int)))||(decide ((57343:Int)<aB)))))==false)=true→((AU aB)).isSome=true) then if (((!(((decide ((0:Int)≤aB))&&(decide (aB≤(1114111:Int))))&&((decide (aB<(55296:Int)))||(decide ((57343:Int)<aB)))))==false)=true→0≤(0:Int)∧(0:Int)≤aA∧aA≤(O.length:Int)) then if ((!(((decide ((0:Int)≤aB))&&(decide (aB≤(1114111:Int))))&&((decide (aB<(55296:Int)))||(decide ((57343:Int)<aB)))))||(!decide ((val (AU aB))=(s0 O (0:Int) aA))))=true then some (((65533:Int),(1:Int))) else some ((aB,aA)) else none else none else none
section
variable (O:oT)
abbrev a2n:List pN:=[(.val .str O,none)]
abbrev a2o:List pM:=[]
@[go_sem] def a2p:pR:=⟨[((G5 O)).isSome=true],[(.val (.int .i64) ((val (G5 O)).1),none),(.val (.int .i64) ((val (G5 O)).2),none)],[]⟩
def aDq:List pN→List pM→Option pR:=qU (V:=oT) (a2n) (fun x=>a2o) fun x=>a2p x
@[go_sem] def aO2:aDq (no_index (a2n O)) (no_index a2o)=some (a2p O):=qV (fun a0 b0 h1 h2=>by cases h1;cases h2;rfl) O
end
@[go_sem] abbrev aDr:Nat×qC:=(148,⟨[.v],aDq,[],[],none⟩)
def vO:qM Tryz.prog [u7,y5,rG] (qO [a2h,a2m]):=⟨⟨uF,⟨zA,⟨rJ,trivial⟩⟩⟩,pU aDn (pU aDp qS),qQ⟩
def aLl:qE Tryz.prog aDr:=by
 refine qW vO Tryz.func148 (c:=_) rfl (N:=81) pE (ts:=[(2,none),(3,none)]) rfl (fun _ _=>rfl) ?_;intro O hs hrow;dsimp only[a2n,a2o,a2p,qR,pX,qD,qI,qT,Nat.reduceAdd] at hs hrow|-;have hz:=hs;obtain⟨z0,d⟩:=aQF.1 hz
 try rw[r8 d]
 clear hz hs;unfold G5 at d;refine pL vO ?_;obtain⟨hg1,d⟩:=pP d;refine pL vO ?_ (hp:=by exact hg1);refine pW ?_;obtain⟨y1,f,d⟩:=tN d;refine vF (fun s=> ∃v,y1= .inl v∧s=(fun x=>⟨[(0,(.val .str O,none)),(4,(.val (.int .i64) x.1,none)),(5,(.val (.int .i64) x.2,none))],[],0,81,0⟩) v) ?_ ?_
 .refine qY ?_;refine pL vO ?_;refine pY f (fun f hc1=> ?_) (fun f hc1=> ?_)
  .refine pL vO ?_;refine pV (r6 (aBC (qP ?_)));cases f;dsimp only at d;cases d;exact oV []
  .refine pL vO ?_ (hp:=by exact⟨id,rI⟩);refine pY f (fun f hc2=> ?_) (fun f hc2=> ?_)
   .obtain⟨hg2,f⟩:=pP f;refine qJ vO ?_ (hp:=by exact hg2);refine r5 ?_;cases f;exact sB ⟨⟨[0,4,5],[]⟩,_,rfl,by rfl⟩
   .refine pL vO ?_ (hp:=by exact⟨id,rI⟩);refine pY f (fun f hc3=> ?_) (fun f hc3=> ?_)
    .obtain⟨hg3,f⟩:=pP f;refine qJ vO ?_ (hp:=by exact hg3);refine r5 ?_;cases f;exact sB ⟨⟨[0,4,5],[]⟩,_,rfl,by rfl⟩
    .refine pL vO ?_ (hp:=by exact⟨id,rI⟩);refine pY f (fun f hc4=> ?_) (fun f hc4=> ?_)
     .obtain⟨hg4,f⟩:=pP f;refine qJ vO ?_ (hp:=by exact hg4);refine r5 ?_;cases f;exact sB ⟨⟨[0,4,5],[]⟩,_,rfl,by rfl⟩
     .refine pL vO ?_;refine pV (r6 (aBC (qP ?_)));cases f;dsimp only at d;cases d;exact oV []
 .rintro _ ⟨v,rfl,rfl⟩;obtain⟨Z,aA⟩:=v;dsimp only at d|-;refine pT (pW ?_);refine pL vO ?_;refine pY d (fun d hc5=> ?_) (fun d hc5=> ?_)
  .refine pL vO ?_;refine pV (qP ?_);cases d;exact oV []
  .refine qG (pT (pW ?_));refine pL vO ?_;refine qY ?_;obtain⟨y1,hy1,d⟩:=tN d;refine sE 1 (fun s=> ∃v,y1= .inl v∧s=(fun x=>⟨[(0,(.val .str O,none)),(4,(.val (.int .i64) x,none)),(5,(.val (.int .i64) aA,none))],[],0,81,0⟩) v) ?_ ?_
   .refine sC hy1 (fun x=>⟨[(0,(.val .str O,none)),(4,(.val (.int .i64) x.1,none)),(5,(.val (.int .i64) aA,none)),(6,(.val (.int .i64) x.2,none))],[],0,81,0⟩) ⟨[0,4,5,6],[]⟩ pF ?_;intro x1 w1 n1 f g;obtain⟨aB,aC⟩:=x1;unfold BR at f;dsimp only at f|-;refine pW ?_;refine pL vO ?_;refine pY f (fun f hc6=> ?_) (fun f hc6=> ?_)
    .refine qG (pT (pW (qY (pW ?_))));obtain⟨hg5,f⟩:=pP f;obtain⟨hg6,f⟩:=pP f;refine pL vO ?_ (hp:=by exact⟨hg5,id,id,hg6,id,rU⟩);refine pY f (fun f hc7=> ?_) (fun f hc7=> ?_)
     .refine pL vO ?_;refine pV (qP (r6 (qP (tM (tQ (r6 (qP ?_)))))));cases f;cases g;dsimp only at d;cases d;exact oV []
     .refine qG (pT ?_);obtain⟨hg7,f⟩:=pP f;obtain⟨hg8,f⟩:=pP f;obtain⟨hg9,f⟩:=pP f;obtain⟨hg10,f⟩:=pP f;refine qJ vO ?_ (hp:=by exact⟨hg7,hg8,hg9,hg10⟩);refine r5 (pT ?_);obtain⟨hg11,f⟩:=pP f;refine qJ vO ?_ (hp:=by exact hg11);cases f;exact rT ⟨⟨[0,4,5,6],[]⟩,_,by rfl,g⟩
    .refine s8 (s7 (sA ?_));cases f;cases g;exact s9 ⟨⟨[0,4,5],[]⟩,_,rfl,by rfl⟩
   .rintro _ ⟨aD,rfl,rfl⟩;dsimp only at d|-;refine sD (pT (pW ?_));obtain⟨hg12,d⟩:=pP d;obtain⟨hg13,d⟩:=pP d;refine tW vO ?_ (hp:=by exact⟨id,hg12,id,id,hg13,id,id,rU⟩);refine pY d (fun d hc8=> ?_) (fun d hc8=> ?_)
    .refine pL vO ?_;refine pV (qP ?_);cases d;exact oV []
    .refine qG (pT ?_);refine pL vO ?_;refine pV ?_;cases d;exact oV []
def internal_stringslite_HasPrefix (O:oT) (Z:oT):Option Unit:=if (((decide ((Z.length:Int)≤(O.length:Int)))==true)=true→0≤(0:Int)∧(0:Int)≤(Z.length:Int)∧(Z.length:Int)≤(O.length:Int)) then some (()) else none
section
variable (O:oT) (Z:oT)
abbrev I3:List pN:=[(.val .str O,none),(.val .str Z,none)]
abbrev I4:List pM:=[]
@[go_sem] def I5:pR:=⟨[((internal_stringslite_HasPrefix O Z)).isSome=true],[(.val .bool ((decide ((Z.length:Int)≤(O.length:Int)))&&(decide ((s0 O (0:Int) (Z.length:Int))=Z))),none)],[]⟩
def OB:List pN→List pM→Option pR:=qU (V:=(oT×oT)) (fun x=>I3 x.1 x.2) (fun x=>I4) fun x=>I5 x.1 x.2
@[go_sem] def aKR:OB (no_index (I3 O Z)) (no_index I4)=some (I5 O Z):=qV (fun⟨a0,a1⟩ ⟨b0,b1⟩ h1 h2=>by cases h1;cases h2;rfl) (O,Z)
end
@[go_sem] abbrev OC:Nat×qC:=(150,⟨[.v,.v],OB,[],[],none⟩)
def I6:qM Tryz.prog [rG] (qO []):=⟨⟨rJ,trivial⟩,qS,qQ⟩
def ZV:qE Tryz.prog OC:=by
 refine qW I6 Tryz.func150 (c:=_) rfl (N:=18) pE (ts:=[(4,none)]) rfl (fun _ _=>rfl) ?_;intro⟨O,Z⟩ hs hrow;dsimp only[I3,I4,I5,qR,pX,qD,qI,qT,Nat.reduceAdd] at hs hrow|-;have hz:=hs;obtain⟨z0,d⟩:=aQF.1 hz
 try rw[r8 d]
 clear hz hs;unfold internal_stringslite_HasPrefix at d;refine pL I6 ?_;obtain⟨hg1,d⟩:=pP d;refine pL I6 ?_ (hp:=by exact⟨id,id,id,hg1,id,id,rI⟩);refine pV ?_;cases d;exact oV []
attribute [irreducible] OQ AU G5 internal_stringslite_HasPrefix
end
noncomputable section
def aDs (O:qK) (Z:oT):Unit:=()
section
variable (O:qK) (Z:oT)
abbrev a2q:List pN:=[(.val (.pair .str (.pair .str .unit)) O,none),(.val .ref (some (0,0)),none)]
abbrev a2r:List pM:=[.cells .str Z []]
@[go_sem] def a2s:pR:=⟨[],[(.val .bool (!(Op.bytesLess O.1 Z||decide (O.1=Z))),none)],[.cells .str Z []]⟩
def aDt:List pN→List pM→Option pR:=qU (V:=(qK×oT)) (fun x=>a2q x.1) (fun x=>a2r x.2) fun x=>a2s x.1 x.2
@[go_sem] def aO3:aDt (no_index (a2q O)) (no_index (a2r Z))=some (a2s O Z):=qV (fun⟨a0,a1⟩ ⟨b0,b1⟩ h1 h2=>by cases h1;cases h2;rfl) (O,Z)
end
@[go_sem] abbrev aDu:Nat×qC:=(158,⟨[.v,.p .str []],aDt,[],[0],none⟩)
def a2t:qM Tryz.prog [rG,A2] (qO []):=⟨⟨rJ,⟨BM,trivial⟩⟩,qS,qQ⟩
def aLm:qE Tryz.prog aDu:=by
 refine qW a2t Tryz.func158 (c:=_) rfl (N:=8) pE (ts:=[(3,none)]) rfl (fun _ _=>rfl) ?_;intro⟨O,Z⟩ hs hrow;dsimp only[a2q,a2r,a2s,qR,pX,qD,qI,qT,Nat.reduceAdd] at hs hrow|-;obtain⟨z0,d⟩: ∃z,(aDs O Z)=z:=⟨_,rfl⟩
 try rw[d]
 unfold aDs at d;refine pL a2t ?_;refine pL a2t ?_;refine pV ?_;cases d;exact oV [(0,0)]
def L2 (O:oT) (Z:oT):Option (oT×Bool):=(internal_stringslite_HasPrefix O Z).bind fun aA=>if (!((decide ((Z.length:Int)≤(O.length:Int)))&&(decide ((s0 O (0:Int) (Z.length:Int))=Z))))=true then some ((O,false)) else if 0≤(Z.length:Int)∧(Z.length:Int)≤(O.length:Int)∧(O.length:Int)≤(O.length:Int) then some (((s0 O (Z.length:Int) (O.length:Int)),true)) else none
section
variable (O:oT) (Z:oT)
abbrev a2u:List pN:=[(.val .str O,none),(.val .str Z,none)]
abbrev a2v:List pM:=[]
@[go_sem] def a2w:pR:=⟨[((L2 O Z)).isSome=true],[(.val .str ((val (L2 O Z)).1),none),(.val .bool ((val (L2 O Z)).2),none)],[]⟩
def aDv:List pN→List pM→Option pR:=qU (V:=(oT×oT)) (fun x=>a2u x.1 x.2) (fun x=>a2v) fun x=>a2w x.1 x.2
@[go_sem] def aO4:aDv (no_index (a2u O Z)) (no_index a2v)=some (a2w O Z):=qV (fun⟨a0,a1⟩ ⟨b0,b1⟩ h1 h2=>by cases h1;cases h2;rfl) (O,Z)
end
@[go_sem] abbrev aDw:Nat×qC:=(164,⟨[.v,.v],aDv,[],[],none⟩)
def OR:qM Tryz.prog [rG] (qO [OC]):=⟨⟨rJ,trivial⟩,pU ZV qS,qQ⟩
def aLn:qE Tryz.prog aDw:=by
 refine qW OR Tryz.func164 (c:=_) rfl (N:=15) pE (ts:=[(4,none),(5,none)]) rfl (fun _ _=>rfl) ?_;intro⟨O,Z⟩ hs hrow;dsimp only[a2u,a2v,a2w,qR,pX,qD,qI,qT,Nat.reduceAdd] at hs hrow|-;have hz:=hs;obtain⟨z0,d⟩:=aQF.1 hz
 try rw[r8 d]
 clear hz hs;unfold L2 at d;refine pL OR ?_;refine pW ?_;obtain⟨aA,hv1,hw1,d⟩:=q8 d
 try simp only[go_sem] at hw1
 refine pL OR ?_ (hp:=by exact(pZ hv1)) (h:=by simp only[go_sem,hw1];rfl);refine pY d (fun d hc1=> ?_) (fun d hc1=> ?_)
 .refine pL OR ?_;refine pV (qP ?_);cases d;exact oV []
 .refine qG (pT ?_);obtain⟨hg2,d⟩:=pP d;refine pL OR ?_ (hp:=by exact hg2);refine pV ?_;cases d;exact oV []
def aDx (O:Int):Unit:=()
section
variable (O:Int)
abbrev a2x:List pN:=[(.val (.int .u8) O,none)]
abbrev a2y:List pM:=[]
@[go_sem] def a2z:pR:=⟨[],[(.val .bool ((decide (O<(32:Int)))||(decide (O=(127:Int)))),none)],[]⟩
def aDy:List pN→List pM→Option pR:=qU (V:=Int) (a2x) (fun x=>a2y) fun x=>a2z x
@[go_sem] def aO5:aDy (no_index (a2x O)) (no_index a2y)=some (a2z O):=qV (fun a0 b0 h1 h2=>by cases h1;cases h2;rfl) O
end
@[go_sem] abbrev a2A:Nat×qC:=(180,⟨[.v],aDy,[],[],none⟩)
def a2B:qM Tryz.prog [] (qO []):=⟨trivial,qS,qQ⟩
def aDz:qE Tryz.prog a2A:=by
 refine qW a2B Tryz.func180 (c:=_) rfl (N:=9) pE (ts:=[(2,none)]) rfl (fun _ _=>rfl) ?_;intro O hs hrow;dsimp only[a2x,a2y,a2z,qR,pX,qD,qI,qT,Nat.reduceAdd] at hs hrow|-;obtain⟨z0,d⟩: ∃z,(aDx O)=z:=⟨_,rfl⟩
 try rw[d]
 unfold aDx at d;refine pL a2B ?_;refine pL a2B ?_ (hp:=by exact⟨id,rU⟩);refine pV ?_;cases d;exact oV []
def aDA (O:qK) (Z:oT):Unit:=()
section
variable (O:qK) (Z:oT)
abbrev a2C:List pN:=[(.val (.pair .str (.pair .str .unit)) O,none),(.val .ref (some (0,0)),none)]
abbrev a2D:List pM:=[.cells .str Z []]
@[go_sem] def a2E:pR:=⟨[],[(.val .bool (decide (O.1=Z)),none)],[.cells .str Z []]⟩
def aDB:List pN→List pM→Option pR:=qU (V:=(qK×oT)) (fun x=>a2C x.1) (fun x=>a2D x.2) fun x=>a2E x.1 x.2
@[go_sem] def aO6:aDB (no_index (a2C O)) (no_index (a2D Z))=some (a2E O Z):=qV (fun⟨a0,a1⟩ ⟨b0,b1⟩ h1 h2=>by cases h1;cases h2;rfl) (O,Z)
end
@[go_sem] abbrev aDC:Nat×qC:=(191,⟨[.v,.p .str []],aDB,[],[0],none⟩)
def a2F:qM Tryz.prog [rG,A2] (qO []):=⟨⟨rJ,⟨BM,trivial⟩⟩,qS,qQ⟩
def aLo:qE Tryz.prog aDC:=by
 refine qW a2F Tryz.func191 (c:=_) rfl (N:=8) pE (ts:=[(3,none)]) rfl (fun _ _=>rfl) ?_;intro⟨O,Z⟩ hs hrow;dsimp only[a2C,a2D,a2E,qR,pX,qD,qI,qT,Nat.reduceAdd] at hs hrow|-;obtain⟨z0,d⟩: ∃z,(aDA O Z)=z:=⟨_,rfl⟩
 try rw[d]
 unfold aDA at d;refine pL a2F ?_;refine pL a2F ?_;refine pV ?_;cases d;exact oV [(0,0)]
def U2 (O:oT) (Z:oT):Option Unit:=if (((decide ((Z.length:Int)≤(O.length:Int)))==true)=true→pO ((O.length:Int)- (Z.length:Int))) then if (((decide ((Z.length:Int)≤(O.length:Int)))==true)=true→0≤((O.length:Int)- (Z.length:Int))∧((O.length:Int)- (Z.length:Int))≤(O.length:Int)∧(O.length:Int)≤(O.length:Int)) then some (()) else none else none
section
variable (O:oT) (Z:oT)
abbrev a2G:List pN:=[(.val .str O,none),(.val .str Z,none)]
abbrev a2H:List pM:=[]
@[go_sem] def a2I:pR:=⟨[((U2 O Z)).isSome=true],[(.val .bool ((decide ((Z.length:Int)≤(O.length:Int)))&&(decide ((s0 O ((O.length:Int)- (Z.length:Int)) (O.length:Int))=Z))),none)],[]⟩
def aDD:List pN→List pM→Option pR:=qU (V:=(oT×oT)) (fun x=>a2G x.1 x.2) (fun x=>a2H) fun x=>a2I x.1 x.2
@[go_sem] def aO7:aDD (no_index (a2G O Z)) (no_index a2H)=some (a2I O Z):=qV (fun⟨a0,a1⟩ ⟨b0,b1⟩ h1 h2=>by cases h1;cases h2;rfl) (O,Z)
end
@[go_sem] abbrev aDE:Nat×qC:=(197,⟨[.v,.v],aDD,[],[],none⟩)
def a2J:qM Tryz.prog [rG] (qO []):=⟨⟨rJ,trivial⟩,qS,qQ⟩
def aLp:qE Tryz.prog aDE:=by
 refine qW a2J Tryz.func197 (c:=_) rfl (N:=21) pE (ts:=[(4,none)]) rfl (fun _ _=>rfl) ?_;intro⟨O,Z⟩ hs hrow;dsimp only[a2G,a2H,a2I,qR,pX,qD,qI,qT,Nat.reduceAdd] at hs hrow|-;have hz:=hs;obtain⟨z0,d⟩:=aQF.1 hz
 try rw[r8 d]
 clear hz hs;unfold U2 at d;refine pL a2J ?_;obtain⟨hg1,d⟩:=pP d;obtain⟨hg2,d⟩:=pP d;refine pL a2J ?_ (hp:=by exact⟨id,id,id,id,hg1,id,id,hg2,id,id,rI⟩);refine pV ?_;cases d;exact oV []
def ID (O:oT) (Z:oT):Option (oT×oT×Bool):=if List.length O<4294967281 then if (decide ((0:Int)≤(wT O Z)))=true then if 0≤(0:Int)∧(0:Int)≤(wT O Z)∧(wT O Z)≤(O.length:Int) then if pO ((wT O Z)+(Z.length:Int)) then if 0≤((wT O Z)+(Z.length:Int))∧((wT O Z)+(Z.length:Int))≤(O.length:Int)∧(O.length:Int)≤(O.length:Int) then some (((s0 O (0:Int) (wT O Z)),(s0 O ((wT O Z)+(Z.length:Int)) (O.length:Int)),true)) else none else none else none else some ((O,([]:oT),false)) else none
section
variable (O:oT) (Z:oT)
abbrev a2K:List pN:=[(.val .str O,none),(.val .str Z,none)]
abbrev a2L:List pM:=[]
@[go_sem] def a2M:pR:=⟨[((ID O Z)).isSome=true],[(.val .str ((val (ID O Z)).1),none),(.val .str ((val (ID O Z)).2.1),none),(.val .bool ((val (ID O Z)).2.2),none)],[]⟩
def aDF:List pN→List pM→Option pR:=qU (V:=(oT×oT)) (fun x=>a2K x.1 x.2) (fun x=>a2L) fun x=>a2M x.1 x.2
@[go_sem] def aO8:aDF (no_index (a2K O Z)) (no_index a2L)=some (a2M O Z):=qV (fun⟨a0,a1⟩ ⟨b0,b1⟩ h1 h2=>by cases h1;cases h2;rfl) (O,Z)
end
@[go_sem] abbrev aDG:Nat×qC:=(198,⟨[.v,.v],aDF,[],[],none⟩)
def L3:qM Tryz.prog [rG] (qO [I1]):=⟨⟨rJ,trivial⟩,pU TO qS,qQ⟩
def aLq:qE Tryz.prog aDG:=by
 refine qW L3 Tryz.func198 (c:=_) rfl (N:=23) pE (ts:=[(4,none),(5,none),(6,none)]) rfl (fun _ _=>rfl) ?_;intro⟨O,Z⟩ hs hrow;dsimp only[a2K,a2L,a2M,qR,pX,qD,qI,qT,Nat.reduceAdd] at hs hrow|-;have hz:=hs;obtain⟨z0,d⟩:=aQF.1 hz
 try rw[r8 d]
 clear hz hs;unfold ID at d;refine pL L3 ?_;refine pW ?_;obtain⟨hg1,d⟩:=pP d;refine pL L3 ?_ (hp:=by exact hg1);refine pL L3 ?_;refine pY d (fun d hc1=> ?_) (fun d hc1=> ?_)
 .obtain⟨hg2,d⟩:=pP d;obtain⟨hg3,d⟩:=pP d;obtain⟨hg4,d⟩:=pP d;refine tW L3 ?_ (hp:=by exact⟨hg2,hg3,hg4⟩);refine pV (qP ?_);cases d;exact oV []
 .refine qG (pT ?_);refine pL L3 ?_;refine pV ?_;cases d;exact oV []
def OS (O:Int) (Z:Int):Bool:=if (decide (O=(1:Int)))=true then (decide (Z=(10:Int))) else aBD (σ:=Bool) (if (decide (O=(2:Int)))=true then (decide (O=(2:Int))) else (decide (O=(3:Int))) ) fun aA=>if aA=true then ((decide (Z=(10:Int)))||(decide (Z=(34:Int)))) else ((decide (Z=(60:Int)))||(decide (Z=(34:Int))))
section
variable (O:Int) (Z:Int)
abbrev a2N:List pN:=[(.val (.int .i64) O,none),(.val (.int .u8) Z,none)]
abbrev a2O:List pM:=[]
@[go_sem] def a2P:pR:=⟨[],[(.val .bool (OS O Z),none)],[]⟩
def aDH:List pN→List pM→Option pR:=qU (V:=(Int×Int)) (fun x=>a2N x.1 x.2) (fun x=>a2O) fun x=>a2P x.1 x.2
@[go_sem] def aO9:aDH (no_index (a2N O Z)) (no_index a2O)=some (a2P O Z):=qV (fun⟨a0,a1⟩ ⟨b0,b1⟩ h1 h2=>by cases h1;cases h2;rfl) (O,Z)
end
@[go_sem] abbrev aDI:Nat×qC:=(216,⟨[.v,.v],aDH,[],[],none⟩)
def EC:qM Tryz.prog [] (qO []):=⟨trivial,qS,qQ⟩
def aLr:qE Tryz.prog aDI:=by
 refine qW EC Tryz.func216 (c:=_) rfl (N:=25) pE (ts:=[(4,none)]) rfl (fun _ _=>rfl) ?_;intro⟨O,Z⟩ hs hrow;dsimp only[a2N,a2O,a2P,qR,pX,qD,qI,qT,Nat.reduceAdd] at hs hrow|-;obtain⟨z0,d⟩: ∃z,(OS O Z)=z:=⟨_,rfl⟩
 try rw[d]
 unfold OS at d;refine pL EC ?_;refine pW ?_;refine pL EC ?_;refine qY ?_;refine pL EC ?_;refine pY d (fun d hc1=> ?_) (fun d hc1=> ?_)
 .refine pL EC ?_;refine pV (r6 (qP ?_));cases d;exact oV []
 .refine pW ?_;refine pL EC ?_;obtain⟨aA,f,d⟩:=aKb d;refine vF (fun s=>s=(fun x=>⟨[(1,(.val (.int .u8) Z,none)),(10,(.val .bool x,none))],[],0,25,0⟩) aA) ?_ ?_
  .refine pY f (fun f hc2=> ?_) (fun f hc2=> ?_)
   .refine qG ?_;cases f;exact sB ⟨⟨[1,10],[]⟩,by rfl⟩
   .refine qJ EC ?_;cases f;exact sB ⟨⟨[1,10],[]⟩,by rfl⟩
  .rintro _ rfl;dsimp only at d|-;refine pT ?_;refine pY d (fun d hc3=> ?_) (fun d hc3=> ?_)
   .refine pL EC ?_ (hp:=by exact⟨id,rU⟩);refine pV (r6 (qP ?_));cases d;exact oV []
   .refine qG (r5 (pT ?_));refine pL EC ?_ (hp:=by exact⟨id,rU⟩);refine pV ?_;cases d;exact oV []
def OT (O:(p6×Unit)) (Z:Int):Option Unit:=if (O.1.length+([Z]:p6).length)*1≤140737488355328 then some (()) else none
section
variable (O:Int) (Z:(p6×Unit)) (aA:Nat)
abbrev a2Q:List pN:=[(.val .ref (some (0,0)),none),(.val (.int .u8) O,none)]
abbrev a2R:List pM:=[.cells uP ((some (0,0)),Z) [(1,1)],.grow 5 1 aA]
@[go_sem] def a2S:pR:=⟨[aA=(Z.1.length),((OT Z O)).isSome=true],[(.any,none)],[.cells uP ((some (0,0)),((Z.1++([O]:p6)),())) [(1,1)],.grow 5 1 ((Z.1++([O]:p6)).length)]⟩
def aDJ:List pN→List pM→Option pR:=qU (V:=(Int×(p6×Unit)×Nat)) (fun x=>a2Q x.1) (fun x=>a2R x.2.1 x.2.2) fun x=>a2S x.1 x.2.1 x.2.2
@[go_sem] def aPa:aDJ (no_index (a2Q O)) (no_index (a2R Z aA))=some (a2S O Z aA):=qV (fun⟨a0,a1,a2⟩ ⟨b0,b1,b2⟩ h1 h2=>by cases h1;cases h2;rfl) (O,Z,aA)
end
@[go_sem] abbrev aDK:Nat×qC:=(217,⟨[.p uP [1],.v],aDJ,[],[],none⟩)
def OU:qM Tryz.prog [xO,E4] (qO [FQ]):=⟨⟨yN,⟨I7,trivial⟩⟩,pU OA qS,qQ⟩
def aLs:qE Tryz.prog aDK:=by
 refine qW OU Tryz.func217 (c:=_) rfl (N:=17) pE (ts:=[(4,none)]) rfl (fun _ _=>rfl) ?_;intro⟨O,Z,aA⟩ hs hrow;dsimp only[a2Q,a2R,a2S,qR,pX,qD,qI,qT,Nat.reduceAdd] at hs hrow|-;obtain⟨rfl,hz⟩:=hs;obtain⟨z0,d⟩:=aQF.1 hz
 try rw[r8 d]
 clear hz;unfold OT at d;refine pL OU ?_;refine pL OU ?_ (hp:=by first|rfl|trivial)
 obtain⟨hg1,d⟩:=pP d;refine pL OU ?_ (hp:=by exact⟨pD,hg1⟩)
 refine pL OU ?_;refine pV ?_;cases d;exact oV [(0,0),(1,1)]
def aDL (O:Int):Unit:=()
section
variable (O:Int)
abbrev a2T:List pN:=[(.val (.int .i64) O,none)]
abbrev a2U:List pM:=[]
@[go_sem] def a2V:pR:=⟨[],[(.val .bool (((decide ((0:Int)≤O))&&(decide (O≤(1114111:Int))))&&((decide (O<(55296:Int)))||(decide ((57343:Int)<O)))),none)],[]⟩
def aDM:List pN→List pM→Option pR:=qU (V:=Int) (a2T) (fun x=>a2U) fun x=>a2V x
@[go_sem] def aPb:aDM (no_index (a2T O)) (no_index a2U)=some (a2V O):=qV (fun a0 b0 h1 h2=>by cases h1;cases h2;rfl) O
end
@[go_sem] abbrev aDN:Nat×qC:=(240,⟨[.v],aDM,[],[],none⟩)
def a2W:qM Tryz.prog [] (qO []):=⟨trivial,qS,qQ⟩
def aLt:qE Tryz.prog aDN:=by
 refine qW a2W Tryz.func240 (c:=_) rfl (N:=17) pE (ts:=[(2,none)]) rfl (fun _ _=>rfl) ?_;intro O hs hrow;dsimp only[a2T,a2U,a2V,qR,pX,qD,qI,qT,Nat.reduceAdd] at hs hrow|-;obtain⟨z0,d⟩: ∃z,(aDL O)=z:=⟨_,rfl⟩
 try rw[d]
 unfold aDL at d;refine pL a2W ?_;refine pL a2W ?_ (hp:=by exact⟨id,rI,id,id,id,id,fun hG e=>CN hG e,rI⟩);refine pV ?_;cases d;exact oV []
attribute [irreducible] L2 U2 ID OT
end
noncomputable section
def L4 (O:p6) (Z:Int):Option p6:=if (decide ((IntKind.wrap .u32 Z)≤(2047:Int)))=true then if (O.length+([(bits .or .u8 (192:Int) (IntKind.wrap .u8 (yB .i32 Z (6:Int)))),(bits .or .u8 (128:Int) (bits .and .u8 (IntKind.wrap .u8 Z) (63:Int)))]:p6).length)*1≤140737488355328 then some ((O++([(bits .or .u8 (192:Int) (IntKind.wrap .u8 (yB .i32 Z (6:Int)))),(bits .or .u8 (128:Int) (bits .and .u8 (IntKind.wrap .u8 Z) (63:Int)))]:p6))) else none else sG (σ:=Bool) (if (decide ((IntKind.wrap .u32 Z)<(55296:Int)))=true then some ((decide ((IntKind.wrap .u32 Z)<(55296:Int)))) else some (((decide ((57343:Int)<(IntKind.wrap .u32 Z)))&&(decide ((IntKind.wrap .u32 Z)≤(65535:Int))))) ) fun aA=>if aA=true then if (O.length+([(bits .or .u8 (224:Int) (IntKind.wrap .u8 (yB .i32 Z (12:Int)))),(bits .or .u8 (128:Int) (bits .and .u8 (IntKind.wrap .u8 (yB .i32 Z (6:Int))) (63:Int))),(bits .or .u8 (128:Int) (bits .and .u8 (IntKind.wrap .u8 Z) (63:Int)))]:p6).length)*1≤140737488355328 then some ((O++([(bits .or .u8 (224:Int) (IntKind.wrap .u8 (yB .i32 Z (12:Int)))),(bits .or .u8 (128:Int) (bits .and .u8 (IntKind.wrap .u8 (yB .i32 Z (6:Int))) (63:Int))),(bits .or .u8 (128:Int) (bits .and .u8 (IntKind.wrap .u8 Z) (63:Int)))]:p6))) else none else if ((decide ((65535:Int)<(IntKind.wrap .u32 Z)))&&(decide ((IntKind.wrap .u32 Z)≤(1114111:Int))))=true then if (O.length+([(bits .or .u8 (240:Int) (IntKind.wrap .u8 (yB .i32 Z (18:Int)))),(bits .or .u8 (128:Int) (bits .and .u8 (IntKind.wrap .u8 (yB .i32 Z (12:Int))) (63:Int))),(bits .or .u8 (128:Int) (bits .and .u8 (IntKind.wrap .u8 (yB .i32 Z (6:Int))) (63:Int))),(bits .or .u8 (128:Int) (bits .and .u8 (IntKind.wrap .u8 Z) (63:Int)))]:p6).length)*1≤140737488355328 then some ((O++([(bits .or .u8 (240:Int) (IntKind.wrap .u8 (yB .i32 Z (18:Int)))),(bits .or .u8 (128:Int) (bits .and .u8 (IntKind.wrap .u8 (yB .i32 Z (12:Int))) (63:Int))),(bits .or .u8 (128:Int) (bits .and .u8 (IntKind.wrap .u8 (yB .i32 Z (6:Int))) (63:Int))),(bits .or .u8 (128:Int) (bits .and .u8 (IntKind.wrap .u8 Z) (63:Int)))]:p6))) else none else if (O.length+([(239:Int),(191:Int),(189:Int)]:p6).length)*1≤140737488355328 then some ((O++([(239:Int),(191:Int),(189:Int)]:p6))) else none
section
variable (O:p6) (Z:Int) (aA:Nat)
abbrev a2X:List pN:=[(.val (.list (.int .u8)) O,some 0),(.val (.int .i32) Z,none)]
abbrev a2Y:List pM:=[.grow 5 1 aA]
@[go_sem] def a2Z:pR:=⟨[aA=(O.length),((L4 O Z)).isSome=true],[(.val (.list (.int .u8)) (val (L4 O Z)),some 0)],[.grow 5 1 ((val (L4 O Z)).length)]⟩
def aDO:List pN→List pM→Option pR:=qU (V:=(p6×Int×Nat)) (fun x=>a2X x.1 x.2.1) (fun x=>a2Y x.2.2) fun x=>a2Z x.1 x.2.1 x.2.2
@[go_sem] def aPc:aDO (no_index (a2X O Z)) (no_index (a2Y aA))=some (a2Z O Z aA):=qV (fun⟨a0,a1,a2⟩ ⟨b0,b1,b2⟩ h1 h2=>by cases h1;cases h2;rfl) (O,Z,aA)
end
@[go_sem] abbrev aDP:Nat×qC:=(245,⟨[.own,.v],aDO,[],[],none⟩)
def BS:qM Tryz.prog [y5,OE,xO,TU] (qO []):=⟨⟨zA,⟨a0n,⟨yN,⟨aCj,trivial⟩⟩⟩⟩,qS,qQ⟩
def aLu:qE Tryz.prog aDP:=by
 refine qW BS Tryz.func245 (c:=_) rfl (N:=78) pE (ts:=[(4,none)]) rfl (fun _ _=>rfl) ?_;intro⟨O,Z,aA⟩ hs hrow;dsimp only[a2X,a2Y,a2Z,qR,pX,qD,qI,qT,Nat.reduceAdd] at hs hrow|-;obtain⟨rfl,hz⟩:=hs;obtain⟨z0,e⟩:=aQF.1 hz
 try rw[r8 e]
 clear hz;unfold L4 at e;refine pL BS ?_;refine pL BS ?_;refine qY ?_;refine pL BS ?_;refine pY e (fun e hc1=> ?_) (fun e hc1=> ?_)
 .obtain⟨hg1,e⟩:=pP e;refine pL BS ?_ (hp:=by exact⟨show (0:Int)≤(6:Int) from by decide,pD,hg1⟩)
  refine pV (r6 ?_);cases e;exact oV [(0,0)]
 .refine pW ?_;refine pL BS ?_;obtain⟨aB,d,e⟩:=r9 e;refine vF (fun s=>s=(fun x=>⟨[(0,(.val (.list (.int .u8)) O,some 0)),(1,(.val (.int .i32) Z,none)),(5,(.val (.int .u32) (IntKind.wrap .u32 Z),none)),(25,(.val .bool x,none))],[(0,.grow 5 1 (O.length))],1,78,1⟩) aB) ?_ ?_
  .refine pY d (fun d hc2=> ?_) (fun d hc2=> ?_)
   .refine qG ?_;cases d;exact sB ⟨⟨[0,1,5,25],[(0,0)]⟩,by rfl⟩
   .refine qJ BS ?_ (hp:=by exact⟨id,rI⟩);cases d;exact sB ⟨⟨[0,1,5,25],[(0,0)]⟩,by rfl⟩
  .rintro _ rfl;dsimp only at e|-;refine pT ?_;refine pY e (fun e hc3=> ?_) (fun e hc3=> ?_)
   .obtain⟨hg2,e⟩:=pP e;refine pL BS ?_ (hp:=by exact⟨show (0:Int)≤(12:Int) from by decide,show (0:Int)≤(6:Int) from by decide,pD,hg2⟩)
    refine pV (r6 ?_);cases e;exact oV [(0,0)]
   .refine pL BS ?_ (hp:=by exact⟨id,rI⟩);refine pY e (fun e hc4=> ?_) (fun e hc4=> ?_)
    .obtain⟨hg3,e⟩:=pP e;refine pL BS ?_ (hp:=by exact⟨show (0:Int)≤(18:Int) from by decide,show (0:Int)≤(12:Int) from by decide,show (0:Int)≤(6:Int) from by decide,pD,hg3⟩)
     refine pV (r6 ?_);cases e;exact oV [(0,0)]
    .obtain⟨hg4,e⟩:=pP e;refine pL BS ?_ (hp:=by exact⟨pD,hg4⟩)
     refine pV (r6 ?_);cases e;exact oV [(0,0)]
def aDQ (O:oT) (Z:Int):(Int×Int)→Option ((Int×Int)⊕(Int⊕(Int×Bool))):=fun(aA,aB)=>if (decide (aB<(O.length:Int)))=true then if 0≤aB∧aB<(O.length:Int) then if 0≤aB∧aB<(O.length:Int) then if (((decide ((65:Int)≤(rP O aB)))==true)=true→0≤aB∧aB<(O.length:Int)) then sG (σ:=Int) (if ((decide ((65:Int)≤(rP O aB)))&&(decide ((rP O aB)≤(70:Int))))=true then if 0≤aB∧aB<(O.length:Int) then some ((IntKind.wrap .i64 ((IntKind.wrap .i64 (IntKind.wrap .u8 ((rP O aB)- (65:Int))))+(10:Int)))) else none else some ((u6 ([48,49,50,51,52,53,54,55,56,57,97,98,99,100,101,102]:oT) (rP O aB))) ) fun aC=>if ((decide (aC<(0:Int)))||(decide (Z≤aC)))=true then some (.inr (.inr (((0:Int),false)))) else some (.inl ((IntKind.wrap .i64 ((IntKind.wrap .i64 (aA*Z))+aC)),(IntKind.wrap .i64 (aB+(1:Int))))) else none else none else none else some (.inr (.inl aA))
def G6 (O:oT) (Z:Int):Option (Int×Bool):=sR (rF (aDQ O Z) ((0:Int),(0:Int))) fun aA=>some ((aA,(!decide (O=([]:oT)))))
section
variable (O:oT) (Z:Int)
abbrev a24:List pN:=[(.val .str O,none),(.val (.int .i64) Z,none)]
abbrev a26:List pM:=[]
@[go_sem] def a27:pR:=⟨[((G6 O Z)).isSome=true],[(.val (.int .i64) ((val (G6 O Z)).1),none),(.val .bool ((val (G6 O Z)).2),none)],[]⟩
def aDR:List pN→List pM→Option pR:=qU (V:=(oT×Int)) (fun x=>a24 x.1 x.2) (fun x=>a26) fun x=>a27 x.1 x.2
@[go_sem] def aPd:aDR (no_index (a24 O Z)) (no_index a26)=some (a27 O Z):=qV (fun⟨a0,a1⟩ ⟨b0,b1⟩ h1 h2=>by cases h1;cases h2;rfl) (O,Z)
end
@[go_sem] abbrev a28:Nat×qC:=(226,⟨[.v,.v],aDR,[],[],none⟩)
def zC:qM Tryz.prog [ZD,y5,rG] (qO [CR]):=⟨⟨aKO,⟨zA,⟨rJ,trivial⟩⟩⟩,pU HX qS,qQ⟩
def aDS:qE Tryz.prog a28:=by
 refine qW zC Tryz.func226 (c:=_) rfl (N:=50) pE (ts:=[(4,none),(5,none)]) rfl (fun _ _=>rfl) ?_;intro⟨O,Z⟩ hs hrow;dsimp only[a24,a26,a27,qR,pX,qD,qI,qT,Nat.reduceAdd] at hs hrow|-;have hz:=hs;obtain⟨z0,e⟩:=aQF.1 hz
 try rw[r8 e]
 clear hz hs;unfold G6 at e;refine pL zC ?_;refine pL zC ?_;refine pW ?_;refine pL zC ?_;refine qY ?_;obtain⟨y1,hy1,e⟩:=tN e;refine sE 0 (fun s=> ∃v,y1= .inl v∧s=(fun x=>⟨[(0,(.val .str O,none)),(6,(.val (.int .i64) x,none))],[],0,50,0⟩) v) ?_ ?_
 .refine sC hy1 (fun x=>⟨[(0,(.val .str O,none)),(1,(.val (.int .i64) Z,none)),(6,(.val (.int .i64) x.1,none)),(10,(.val (.int .i64) (O.length:Int),none)),(11,(.val (.int .i64) x.2,none))],[],0,50,0⟩) ⟨[0,1,6,10,11],[]⟩ pF ?_;intro x1 w1 n1 d i;obtain⟨aA,aB⟩:=x1;unfold aDQ at d;dsimp only at d|-;refine pL zC ?_;refine pW ?_;refine pY d (fun d hc1=> ?_) (fun d hc1=> ?_)
  .refine qG (pT (pW (qY ?_)));refine pL zC ?_;obtain⟨hg1,d⟩:=pP d;refine pL zC ?_ (hp:=by exact hg1);refine pW ?_;obtain⟨hg2,d⟩:=pP d;obtain⟨hg3,d⟩:=pP d;refine pL zC ?_ (hp:=by exact⟨hg2,id,id,hg3,id,rI⟩);obtain⟨aC,j,d⟩:=r9 d;refine vF (fun s=>s=(fun x=>⟨[(0,(.val .str O,none)),(1,(.val (.int .i64) Z,none)),(6,(.val (.int .i64) aA,none)),(8,(.val (.int .i64) x,none)),(10,(.val (.int .i64) (O.length:Int),none)),(11,(.val (.int .i64) aB,none))],[],0,50,0⟩) aC) ?_ ?_
   .refine pY j (fun j hc2=> ?_) (fun j hc2=> ?_)
    .obtain⟨hg4,j⟩:=pP j;refine qJ zC ?_ (hp:=by exact hg4);cases j;exact sB ⟨⟨[0,1,6,8,10,11],[]⟩,by rfl⟩
    .refine qG ?_;cases j;exact sB ⟨⟨[0,1,6,8,10,11],[]⟩,by rfl⟩
   .rintro _ rfl;dsimp only at d|-;refine pT (pW ?_);refine pL zC ?_ (hp:=by exact⟨id,id,rU⟩);refine pY d (fun d hc3=> ?_) (fun d hc3=> ?_)
    .refine pL zC ?_;refine pV (qP (r6 (qP (tM (tQ (r6 (qP ?_)))))));cases d;cases i;dsimp only at e;cases e;exact oV []
    .refine qG (pT ?_);refine qJ zC ?_;refine r5 (pT ?_);refine qJ zC ?_;cases d;exact rT ⟨⟨[0,1,6,10,11],[]⟩,_,by rfl,i⟩
  .refine s8 (s7 (sA ?_));cases d;cases i;exact s9 ⟨⟨[0,6],[]⟩,_,rfl,by rfl⟩
 .rintro _ ⟨aD,rfl,rfl⟩;dsimp only at e|-;refine sD (pT ?_);refine pL zC ?_;refine pV ?_;cases e;exact oV []
def aDT (O:(List qK)) (Z:oT):Int→Option (Int⊕(Unit⊕Int)):=fun aA=>if (decide (aA<(O.length:Int)))=true then if 0≤aA∧aA<(O.length:Int) then if (decide (((qB (.pair .str (.pair .str .unit)) O aA).1)=Z))=true then some (.inr (.inr (aA))) else if pO (aA+(1:Int)) then some (.inl (aA+(1:Int))) else none else none else some (.inr (.inl ()))
def OV (O:(List qK)) (Z:oT):Option Int:=sR (rF (aDT O Z) (0:Int)) fun _=>some ((-1:Int))
section
variable (O:(List qK)) (Z:oT)
abbrev a29:List pN:=[(.val (.list (.pair .str (.pair .str .unit))) O,none),(.val .clo (some (191,[(0,0)])),none)]
abbrev a3a:List pM:=[.cells .str Z []]
@[go_sem] def a3b:pR:=⟨[((OV O Z)).isSome=true],[(.val (.int .i64) (val (OV O Z)),none)],[.cells .str Z []]⟩
def aDU:List pN→List pM→Option pR:=qU (V:=((List qK)×oT)) (fun x=>a29 x.1) (fun x=>a3a x.2) fun x=>a3b x.1 x.2
@[go_sem] def aPe:aDU (no_index (a29 O)) (no_index (a3a Z))=some (a3b O Z):=qV (fun⟨a0,a1⟩ ⟨b0,b1⟩ h1 h2=>by cases h1;cases h2;rfl) (O,Z)
end
@[go_sem] abbrev aDV:Nat×qC:=(157,⟨[.v,.f [(.str,[])]],aDU,[],[0],none⟩)
def ED:qM Tryz.prog [vH,A2] (qO [aDC]):=⟨⟨vX,⟨BM,trivial⟩⟩,pU aLo qS,qQ⟩
def aLv:qE Tryz.prog aDV:=by
 refine qW ED Tryz.func157 (c:=_) rfl (N:=19) pE (ts:=[(4,none)]) rfl (fun _ _=>rfl) ?_;intro⟨O,Z⟩ hs hrow;dsimp only[a29,a3a,a3b,qR,pX,qD,qI,qT,Nat.reduceAdd] at hs hrow|-;have hz:=hs;obtain⟨z0,e⟩:=aQF.1 hz
 try rw[r8 e]
 clear hz hs;unfold OV at e;refine pL ED ?_;refine pW ?_;refine pL ED ?_;refine qY ?_;obtain⟨y1,hy1,e⟩:=tN e;refine sE 0 (fun s=> ∃v,y1= .inl v∧s=(fun _=>⟨[],[(0,.cells .str Z [])],1,19,1⟩) v) ?_ ?_
 .refine sC hy1 (fun x=>⟨[(0,(.val (.list (.pair .str (.pair .str .unit))) O,none)),(1,(.val .clo (some (191,[(0,0)])),none)),(7,(.val (.int .i64) (O.length:Int),none)),(8,(.val (.int .i64) x,none))],[(0,.cells .str Z [])],1,19,1⟩) ⟨[0,1,7,8],[(0,0)]⟩ pF ?_;intro aA w1 n1 d i;unfold aDT at d;dsimp only at d|-;refine pL ED ?_;refine pW ?_;refine pY d (fun d hc1=> ?_) (fun d hc1=> ?_)
  .refine qG (pT (pW (qY ?_)));refine pL ED ?_;obtain⟨hg1,d⟩:=pP d;refine pL ED ?_ (hp:=by exact⟨hg1,pD⟩)
   refine pY d (fun d hc2=> ?_) (fun d hc2=> ?_)
   .refine pL ED ?_;refine pV (r6 (qP (tM (tQ (r6 (qP ?_))))));cases d;cases i;dsimp only at e;cases e;exact oV [(0,0)]
   .refine qG (r5 (pT ?_));obtain⟨hg2,d⟩:=pP d;refine qJ ED ?_ (hp:=by exact hg2);cases d;exact rT ⟨⟨[0,1,7,8],[(0,0)]⟩,_,by rfl,i⟩
  .refine s8 (s7 (sA ?_));cases d;cases i;exact s9 ⟨⟨[],[(0,0)]⟩,_,rfl,by rfl⟩
 .rintro _ ⟨v,rfl,rfl⟩;dsimp only at e|-;refine sD (pT ?_);refine pL ED ?_;refine pV ?_;cases e;exact oV [(0,0)]
def aDW (O:(List qK)) (Z:oT):Int→Option (Int⊕(Unit⊕Int)):=fun aA=>if (decide (aA<(O.length:Int)))=true then if 0≤aA∧aA<(O.length:Int) then if (!(Op.bytesLess ((qB (.pair .str (.pair .str .unit)) O aA).1) Z||decide (((qB (.pair .str (.pair .str .unit)) O aA).1)=Z)))=true then some (.inr (.inr (aA))) else if pO (aA+(1:Int)) then some (.inl (aA+(1:Int))) else none else none else some (.inr (.inl ()))
def OW (O:(List qK)) (Z:oT):Option Int:=sR (rF (aDW O Z) (0:Int)) fun _=>some ((-1:Int))
section
variable (O:(List qK)) (Z:oT)
abbrev a3c:List pN:=[(.val (.list (.pair .str (.pair .str .unit))) O,none),(.val .clo (some (158,[(0,0)])),none)]
abbrev a3d:List pM:=[.cells .str Z []]
@[go_sem] def a3e:pR:=⟨[((OW O Z)).isSome=true],[(.val (.int .i64) (val (OW O Z)),none)],[.cells .str Z []]⟩
def aDX:List pN→List pM→Option pR:=qU (V:=((List qK)×oT)) (fun x=>a3c x.1) (fun x=>a3d x.2) fun x=>a3e x.1 x.2
@[go_sem] def aPf:aDX (no_index (a3c O)) (no_index (a3d Z))=some (a3e O Z):=qV (fun⟨a0,a1⟩ ⟨b0,b1⟩ h1 h2=>by cases h1;cases h2;rfl) (O,Z)
end
@[go_sem] abbrev aDY:Nat×qC:=(157,⟨[.v,.f [(.str,[])]],aDX,[],[0],none⟩)
def EE:qM Tryz.prog [vH,A2] (qO [aDu]):=⟨⟨vX,⟨BM,trivial⟩⟩,pU aLm qS,qQ⟩
def aLw:qE Tryz.prog aDY:=by
 refine qW EE Tryz.func157 (c:=_) rfl (N:=19) pE (ts:=[(4,none)]) rfl (fun _ _=>rfl) ?_;intro⟨O,Z⟩ hs hrow;dsimp only[a3c,a3d,a3e,qR,pX,qD,qI,qT,Nat.reduceAdd] at hs hrow|-;have hz:=hs;obtain⟨z0,e⟩:=aQF.1 hz
 try rw[r8 e]
 clear hz hs;unfold OW at e;refine pL EE ?_;refine pW ?_;refine pL EE ?_;refine qY ?_;obtain⟨y1,hy1,e⟩:=tN e;refine sE 0 (fun s=> ∃v,y1= .inl v∧s=(fun _=>⟨[],[(0,.cells .str Z [])],1,19,1⟩) v) ?_ ?_
 .refine sC hy1 (fun x=>⟨[(0,(.val (.list (.pair .str (.pair .str .unit))) O,none)),(1,(.val .clo (some (158,[(0,0)])),none)),(7,(.val (.int .i64) (O.length:Int),none)),(8,(.val (.int .i64) x,none))],[(0,.cells .str Z [])],1,19,1⟩) ⟨[0,1,7,8],[(0,0)]⟩ pF ?_;intro aA w1 n1 d i;unfold aDW at d;dsimp only at d|-;refine pL EE ?_;refine pW ?_;refine pY d (fun d hc1=> ?_) (fun d hc1=> ?_)
  .refine qG (pT (pW (qY ?_)));refine pL EE ?_;obtain⟨hg1,d⟩:=pP d;refine pL EE ?_ (hp:=by exact⟨hg1,pD⟩)
   refine pY d (fun d hc2=> ?_) (fun d hc2=> ?_)
   .refine pL EE ?_;refine pV (r6 (qP (tM (tQ (r6 (qP ?_))))));cases d;cases i;dsimp only at e;cases e;exact oV [(0,0)]
   .refine qG (r5 (pT ?_));obtain⟨hg2,d⟩:=pP d;refine qJ EE ?_ (hp:=by exact hg2);cases d;exact rT ⟨⟨[0,1,7,8],[(0,0)]⟩,_,by rfl,i⟩
  .refine s8 (s7 (sA ?_));cases d;cases i;exact s9 ⟨⟨[],[(0,0)]⟩,_,rfl,by rfl⟩
 .rintro _ ⟨v,rfl,rfl⟩;dsimp only at e|-;refine sD (pT ?_);refine pL EE ?_;refine pV ?_;cases e;exact oV [(0,0)]
attribute [irreducible] L4 G6 OV OW
end
noncomputable section
def IE (O:(List qK)):Option (List qK):=if (0+O.length)*32≤140737488355328 then some ((([]:List qK)++O)) else none
section
variable (O:(List qK))
abbrev a3f:List pN:=[(.val (.list (.pair .str (.pair .str .unit))) O,none)]
abbrev a3g:List pM:=[]
@[go_sem] def a3h:pR:=⟨[((IE O)).isSome=true],[(.own 0 ((val (IE O)).length),none)],[.row 111 (.pair .str (.pair .str .unit)) (val (IE O)) ((val (IE O)).length)]⟩
def aDZ:List pN→List pM→Option pR:=qU (V:=(List qK)) (a3f) (fun x=>a3g) fun x=>a3h x
@[go_sem] def aPg:aDZ (no_index (a3f O)) (no_index a3g)=some (a3h O):=qV (fun a0 b0 h1 h2=>by cases h1;cases h2;rfl) O
end
@[go_sem] abbrev aD0:Nat×qC:=(156,⟨[.v],aDZ,[],[],none⟩)
def OX:qM Tryz.prog [TV] (qO []):=⟨⟨aCk,trivial⟩,qS,qQ⟩
def aLx:qE Tryz.prog aD0:=by
 refine qW OX Tryz.func156 (c:=_) rfl (N:=8) pE (ts:=[(2,none)]) rfl (fun _ _=>rfl) ?_;intro O hs hrow;dsimp only[a3f,a3g,a3h,qR,pX,qD,qI,qT,Nat.reduceAdd] at hs hrow|-;have hz:=hs;obtain⟨z0,d⟩:=aQF.1 hz
 try rw[r8 d]
 clear hz hs;unfold IE at d;refine pL OX ?_;refine pW ?_;refine pL OX ?_;refine aBw (by simp only[go_sem];rfl) (fun hnil=> ?_) (fun hnil=> ?_)
 .subst hnil;obtain⟨_,d⟩:=pP d;refine pL OX ?_;refine pV (qP ?_);cases d;exact oV [(0,96)]
 .refine qG (pT ?_);obtain⟨hg1,d⟩:=pP d;refine pL OX ?_ (hp:=by exact⟨pD,hg1⟩)
  refine pV ?_;cases d;exact oV [(0,96)]
def aD1 (O:oU):Int→Option (Int⊕(Unit⊕Int)):=fun Z=>if (decide (Z<(O.length:Int)))=true then if 0≤Z∧Z<(O.length:Int) then (OO (qB .str O Z)).bind fun aA=>if aA=true then some (.inr (.inr (Z))) else if pO (Z+(1:Int)) then some (.inl (Z+(1:Int))) else none else none else some (.inr (.inl ()))
def OY (O:oU):Option Int:=sR (rF (aD1 O) (0:Int)) fun _=>some ((-1:Int))
section
variable (O:oU)
abbrev a3i:List pN:=[(.val (.list .str) O,none),(.val .clo (some (133,[])),none)]
abbrev a3j:List pM:=[]
@[go_sem] def a3k:pR:=⟨[((OY O)).isSome=true],[(.val (.int .i64) (val (OY O)),none)],[]⟩
def aD2:List pN→List pM→Option pR:=qU (V:=oU) (a3i) (fun x=>a3j) fun x=>a3k x
@[go_sem] def aPh:aD2 (no_index (a3i O)) (no_index a3j)=some (a3k O):=qV (fun a0 b0 h1 h2=>by cases h1;cases h2;rfl) O
end
@[go_sem] abbrev aD3:Nat×qC:=(137,⟨[.v,.v],aD2,[],[],none⟩)
def EF:qM Tryz.prog [rG,tG] (qO [aDa]):=⟨⟨rJ,⟨tT,trivial⟩⟩,pU aLh qS,qQ⟩
def aLy:qE Tryz.prog aD3:=by
 refine qW EF Tryz.func137 (c:=_) rfl (N:=19) pE (ts:=[(4,none)]) rfl (fun _ _=>rfl) ?_;intro O hs hrow;dsimp only[a3i,a3j,a3k,qR,pX,qD,qI,qT,Nat.reduceAdd] at hs hrow|-;have hz:=hs;obtain⟨z0,d⟩:=aQF.1 hz
 try rw[r8 d]
 clear hz hs;unfold OY at d;refine pL EF ?_;refine pW ?_;refine pL EF ?_;refine qY ?_;obtain⟨y1,hy1,d⟩:=tN d;refine sE 0 (fun s=> ∃v,y1= .inl v∧s=(fun _=>⟨[],[],0,19,0⟩) v) ?_ ?_
 .refine sC hy1 (fun x=>⟨[(0,(.val (.list .str) O,none)),(1,(.val .clo (some (133,[])),none)),(7,(.val (.int .i64) (O.length:Int),none)),(8,(.val (.int .i64) x,none))],[],0,19,0⟩) ⟨[0,1,7,8],[]⟩ pF ?_;intro Z w1 n1 e g;unfold aD1 at e;dsimp only at e|-;refine pL EF ?_;refine pW ?_;refine pY e (fun e hc1=> ?_) (fun e hc1=> ?_)
  .refine qG (pT (pW (qY ?_)));refine pL EF ?_;obtain⟨hg1,e⟩:=pP e;obtain⟨aA,hv2,hw2,e⟩:=q8 e
   try simp only[go_sem] at hw2
   refine pL EF ?_ (hp:=by exact⟨hg1,(pZ hv2)⟩) (h:=by simp only[go_sem,hw2];rfl);refine pY e (fun e hc2=> ?_) (fun e hc2=> ?_)
   .refine pL EF ?_;refine pV (r6 (qP (tM (tQ (r6 (qP ?_))))));cases e;cases g;dsimp only at d;cases d;exact oV []
   .refine qG (r5 (pT ?_));obtain⟨hg3,e⟩:=pP e;refine qJ EF ?_ (hp:=by exact hg3);cases e;exact rT ⟨⟨[0,1,7,8],[]⟩,_,by rfl,g⟩
  .refine s8 (s7 (sA ?_));cases e;cases g;exact s9 ⟨⟨[],[]⟩,_,rfl,by rfl⟩
 .rintro _ ⟨v,rfl,rfl⟩;dsimp only at d|-;refine sD (pT ?_);refine pL EF ?_;refine pV ?_;cases d;exact oV []
def OZ (O:oU):Option Bool:=(OY O).bind fun Z=>some ((decide ((0:Int)≤Z)))
section
variable (O:oU)
abbrev a3l:List pN:=[(.val (.list .str) O,none),(.val .clo (some (133,[])),none)]
abbrev a3m:List pM:=[]
@[go_sem] def a3n:pR:=⟨[((OZ O)).isSome=true],[(.val .bool (val (OZ O)),none)],[]⟩
def aD4:List pN→List pM→Option pR:=qU (V:=oU) (a3l) (fun x=>a3m) fun x=>a3n x
@[go_sem] def aPi:aD4 (no_index (a3l O)) (no_index a3m)=some (a3n O):=qV (fun a0 b0 h1 h2=>by cases h1;cases h2;rfl) O
end
@[go_sem] abbrev aD5:Nat×qC:=(95,⟨[.v,.v],aD4,[],[],none⟩)
def a3o:qM Tryz.prog [] (qO [aD3]):=⟨trivial,pU aLy qS,qQ⟩
def aLz:qE Tryz.prog aD5:=by
 refine qW a3o Tryz.func95 (c:=_) rfl (N:=9) pE (ts:=[(4,none)]) rfl (fun _ _=>rfl) ?_;intro O hs hrow;dsimp only[a3l,a3m,a3n,qR,pX,qD,qI,qT,Nat.reduceAdd] at hs hrow|-;have hz:=hs;obtain⟨z0,d⟩:=aQF.1 hz
 try rw[r8 d]
 clear hz hs;unfold OZ at d;refine pL a3o ?_;obtain⟨Z,hv1,hw1,d⟩:=q8 d
 try simp only[go_sem] at hw1
 refine pL a3o ?_ (hp:=by exact(pZ hv1)) (h:=by simp only[go_sem,hw1];rfl);refine pV ?_;cases d;exact oV []
def aD6 (O:(List qK)) (Z:qK):Int→Option (Int⊕(Unit⊕Int)):=fun aA=>if (decide (aA<(O.length:Int)))=true then if 0≤aA∧aA<(O.length:Int) then if (decide (((qB (.pair .str (.pair .str .unit)) O aA).1)=Z.1))=true then some (.inr (.inr (aA))) else if pO (aA+(1:Int)) then some (.inl (aA+(1:Int))) else none else none else some (.inr (.inl ()))
def P0 (O:(List qK)) (Z:qK):Option Int:=sR (rF (aD6 O Z) (0:Int)) fun _=>some ((-1:Int))
section
variable (O:(List qK)) (Z:qK)
abbrev a3p:List pN:=[(.val (.list (.pair .str (.pair .str .unit))) O,none),(.val .clo (some (129,[(0,0)])),none)]
abbrev a3q:List pM:=[.cells (.pair .str (.pair .str .unit)) Z []]
@[go_sem] def a3r:pR:=⟨[((P0 O Z)).isSome=true],[(.val (.int .i64) (val (P0 O Z)),none)],[.cells (.pair .str (.pair .str .unit)) Z []]⟩
def aD7:List pN→List pM→Option pR:=qU (V:=((List qK)×qK)) (fun x=>a3p x.1) (fun x=>a3q x.2) fun x=>a3r x.1 x.2
@[go_sem] def aPj:aD7 (no_index (a3p O)) (no_index (a3q Z))=some (a3r O Z):=qV (fun⟨a0,a1⟩ ⟨b0,b1⟩ h1 h2=>by cases h1;cases h2;rfl) (O,Z)
end
@[go_sem] abbrev aD8:Nat×qC:=(136,⟨[.v,.f [((.pair .str (.pair .str .unit)),[])]],aD7,[],[0],none⟩)
def EG:qM Tryz.prog [A4,zB] (qO [aC8]):=⟨⟨BO,⟨AR,trivial⟩⟩,pU aLg qS,qQ⟩
def aLA:qE Tryz.prog aD8:=by
 refine qW EG Tryz.func136 (c:=_) rfl (N:=19) pE (ts:=[(4,none)]) rfl (fun _ _=>rfl) ?_;intro⟨O,Z⟩ hs hrow;dsimp only[a3p,a3q,a3r,qR,pX,qD,qI,qT,Nat.reduceAdd] at hs hrow|-;have hz:=hs;obtain⟨z0,d⟩:=aQF.1 hz
 try rw[r8 d]
 clear hz hs;unfold P0 at d;refine pL EG ?_;refine pW ?_;refine pL EG ?_;refine qY ?_;obtain⟨y1,hy1,d⟩:=tN d;refine sE 0 (fun s=> ∃v,y1= .inl v∧s=(fun _=>⟨[],[(0,.cells (.pair .str (.pair .str .unit)) Z [])],1,19,1⟩) v) ?_ ?_
 .refine sC hy1 (fun x=>⟨[(0,(.val (.list (.pair .str (.pair .str .unit))) O,none)),(1,(.val .clo (some (129,[(0,0)])),none)),(7,(.val (.int .i64) (O.length:Int),none)),(8,(.val (.int .i64) x,none))],[(0,.cells (.pair .str (.pair .str .unit)) Z [])],1,19,1⟩) ⟨[0,1,7,8],[(0,0)]⟩ pF ?_;intro aA w1 n1 e g;unfold aD6 at e;dsimp only at e|-;refine pL EG ?_;refine pW ?_;refine pY e (fun e hc1=> ?_) (fun e hc1=> ?_)
  .refine qG (pT (pW (qY ?_)));refine pL EG ?_;obtain⟨hg1,e⟩:=pP e;refine pL EG ?_ (hp:=by exact⟨hg1,pD⟩)
   refine pY e (fun e hc2=> ?_) (fun e hc2=> ?_)
   .refine pL EG ?_;refine pV (r6 (qP (tM (tQ (r6 (qP ?_))))));cases e;cases g;dsimp only at d;cases d;exact oV [(0,0)]
   .refine qG (r5 (pT ?_));obtain⟨hg2,e⟩:=pP e;refine qJ EG ?_ (hp:=by exact hg2);cases e;exact rT ⟨⟨[0,1,7,8],[(0,0)]⟩,_,by rfl,g⟩
  .refine s8 (s7 (sA ?_));cases e;cases g;exact s9 ⟨⟨[],[(0,0)]⟩,_,rfl,by rfl⟩
 .rintro _ ⟨v,rfl,rfl⟩;dsimp only at d|-;refine sD (pT ?_);refine pL EG ?_;refine pV ?_;cases d;exact oV [(0,0)]
def L5 (O:(List qK)) (Z:qK):Option Bool:=(P0 O Z).bind fun aA=>some ((decide ((0:Int)≤aA)))
section
variable (O:(List qK)) (Z:qK)
abbrev a3s:List pN:=[(.val (.list (.pair .str (.pair .str .unit))) O,none),(.val .clo (some (129,[(0,0)])),none)]
abbrev a3t:List pM:=[.cells (.pair .str (.pair .str .unit)) Z []]
@[go_sem] def a3u:pR:=⟨[((L5 O Z)).isSome=true],[(.val .bool (val (L5 O Z)),none)],[.cells (.pair .str (.pair .str .unit)) Z []]⟩
def aD9:List pN→List pM→Option pR:=qU (V:=((List qK)×qK)) (fun x=>a3s x.1) (fun x=>a3t x.2) fun x=>a3u x.1 x.2
@[go_sem] def aPk:aD9 (no_index (a3s O)) (no_index (a3t Z))=some (a3u O Z):=qV (fun⟨a0,a1⟩ ⟨b0,b1⟩ h1 h2=>by cases h1;cases h2;rfl) (O,Z)
end
@[go_sem] abbrev aEa:Nat×qC:=(89,⟨[.v,.f [((.pair .str (.pair .str .unit)),[])]],aD9,[],[0],none⟩)
def a3v:qM Tryz.prog [] (qO [aD8]):=⟨trivial,pU aLA qS,qQ⟩
def aLB:qE Tryz.prog aEa:=by
 refine qW a3v Tryz.func89 (c:=_) rfl (N:=9) pE (ts:=[(4,none)]) rfl (fun _ _=>rfl) ?_;intro⟨O,Z⟩ hs hrow;dsimp only[a3s,a3t,a3u,qR,pX,qD,qI,qT,Nat.reduceAdd] at hs hrow|-;have hz:=hs;obtain⟨z0,d⟩:=aQF.1 hz
 try rw[r8 d]
 clear hz hs;unfold L5 at d;refine pL a3v ?_;obtain⟨aA,hv1,hw1,d⟩:=q8 d
 try simp only[go_sem] at hw1
 refine pL a3v ?_ (hp:=by exact⟨pD,(pZ hv1)⟩) (h:=by simp only[go_sem,hw1];rfl)
 refine pV ?_;cases d;exact oV [(0,0)]
def AV (O:oU):Option oU:=if (0+O.length)*16≤140737488355328 then some ((([]:oU)++O)) else none
section
variable (O:oU)
abbrev a3w:List pN:=[(.val (.list .str) O,none)]
abbrev a3x:List pM:=[]
@[go_sem] def a3y:pR:=⟨[((AV O)).isSome=true],[(.own 0 ((val (AV O)).length),none)],[.row 9 .str (val (AV O)) ((val (AV O)).length)]⟩
def aEb:List pN→List pM→Option pR:=qU (V:=oU) (a3w) (fun x=>a3x) fun x=>a3y x
@[go_sem] def aPl:aEb (no_index (a3w O)) (no_index a3x)=some (a3y O):=qV (fun a0 b0 h1 h2=>by cases h1;cases h2;rfl) O
end
@[go_sem] abbrev a3z:Nat×qC:=(28,⟨[.v],aEb,[],[],none⟩)
def P1:qM Tryz.prog [a0o] (qO []):=⟨⟨aK4,trivial⟩,qS,qQ⟩
def aEc:qE Tryz.prog a3z:=by
 refine qW P1 Tryz.func28 (c:=_) rfl (N:=8) pE (ts:=[(2,none)]) rfl (fun _ _=>rfl) ?_;intro O hs hrow;dsimp only[a3w,a3x,a3y,qR,pX,qD,qI,qT,Nat.reduceAdd] at hs hrow|-;have hz:=hs;obtain⟨z0,d⟩:=aQF.1 hz
 try rw[r8 d]
 clear hz hs;unfold AV at d;refine pL P1 ?_;refine pW ?_;refine pL P1 ?_;refine aBw (by simp only[go_sem];rfl) (fun hnil=> ?_) (fun hnil=> ?_)
 .subst hnil;obtain⟨_,d⟩:=pP d;refine pL P1 ?_;refine pV (qP ?_);cases d;exact oV [(0,96)]
 .refine qG (pT ?_);obtain⟨hg1,d⟩:=pP d;refine pL P1 ?_ (hp:=by exact⟨pD,hg1⟩)
  refine pV ?_;cases d;exact oV [(0,96)]
def aEd:Unit:=()
section
abbrev a3A:List pN:=[]
abbrev a3B:List pM:=[]
@[go_sem] def a3C:pR:=⟨[],[(.val (.list .str) ([([110,101,119]:oT),([102,117,122,122,121]:oT),([116,114,97,110,115,108,97,116,101,100]:oT),([114,101,118,105,101,119,101,100]:oT),([111,98,115,111,108,101,116,101]:oT)]:oU),none)],[]⟩
def aEe:List pN→List pM→Option pR:=qU (V:=Unit) (fun x=>a3A) (fun x=>a3B) fun x=>a3C
@[go_sem] def aPm:aEe (no_index a3A) (no_index a3B)=some a3C:=qV (fun _ _ h1 h2=>by cases h1;cases h2;rfl) ()
end
@[go_sem] abbrev P2:Nat×qC:=(69,⟨[],aEe,[],[],none⟩)
def a3D:qM Tryz.prog [tG] (qO []):=⟨⟨tT,trivial⟩,qS,qQ⟩
def U3:qE Tryz.prog P2:=by
 refine qW a3D Tryz.func69 (c:=_) rfl (N:=2) pE (ts:=[(0,none)]) rfl (fun _ _=>rfl) ?_;intro⟨⟩ hs hrow;dsimp only[a3A,a3B,a3C,qR,pX,qD,qI,qT,Nat.reduceAdd] at hs hrow|-;obtain⟨z0,d⟩: ∃z,aEd=z:=⟨_,rfl⟩
 try rw[d]
 unfold aEd at d;refine pL a3D ?_;refine pL a3D ?_;refine pV ?_;cases d;exact oV []
attribute [irreducible] IE OY OZ P0 L5 AV
end
noncomputable section
def aEf (O:wU) (Z:oT) (aA:oT):(Int×(List (oT×oT)))→Option ((Int×(List (oT×oT)))⊕((List (oT×oT))⊕(List (oT×oT)))):=fun(aB,aC)=>if (decide (aB<(O.2.2.1.length:Int)))=true then if 0≤aB∧aB<(O.2.2.1.length:Int) then if ((Z++([32]:oT)).length:Int)≤9223372036854775807 then if (((Z++([32]:oT))++aA).length:Int)≤9223372036854775807 then if (List.all ((Z++([32]:oT))++aA) fun b=>decide (b.toNat<128))=true∧List.length ((Z++([32]:oT))++aA)<4294967281 then (IC (Lib.fields ((Z++([32]:oT))++aA)) ((qB (.pair .str (.pair .str .unit)) O.2.2.1 aB).1)).bind fun aD=>if (!aD)=true then none else if pO (aB+(1:Int)) then some (.inl ((aB+(1:Int)),(tO .str .str ((qB (.pair .str (.pair .str .unit)) O.2.2.1 aB).1) ((qB (.pair .str (.pair .str .unit)) O.2.2.1 aB).2.1) aC))) else none else none else none else none else none else some (.inr (.inl aC))
def aEg (O:oT) (Z:(List (oT×oT))):Int→Option (Int⊕(Unit⊕(List (oT×oT)))):=fun aA=>if (decide (aA<((((Lib.fields O).length):Nat):Int)))=true then if 0≤aA∧aA<((((Lib.fields O).length):Nat):Int) then if (!(AH .str .str Z (qB .str (Lib.fields O) aA)))=true then none else if pO (aA+(1:Int)) then some (.inl (aA+(1:Int))) else none else none else some (.inr (.inl ()))
def vB (O:wU) (Z:oT) (aA:oT):Option (List (oT×oT)):=sR (rF (aEf O Z aA) ((0:Int),([]:List (oT×oT)))) fun aB=>if (List.all Z fun b=>decide (b.toNat<128))=true∧List.length Z<4294967281 then sR (rF (aEg Z aB) (0:Int)) fun _=>some (aB) else none
section
variable (O:wU) (Z:oT) (aA:oT)
abbrev a3E:List pN:=[(.val vA O,none),(.val .str Z,none),(.val .str aA,none)]
abbrev a3F:List pM:=[]
@[go_sem] def a3G:pR:=⟨[((vB O Z aA)).isSome=true],[(.val .mp (some 0),none),(.val .bool true,none)],[.map .str .str (val (vB O Z aA))]⟩
def aEh:List pN→List pM→Option pR:=qU (V:=(wU×oT×oT)) (fun x=>a3E x.1 x.2.1 x.2.2) (fun x=>a3F) fun x=>a3G x.1 x.2.1 x.2.2
@[go_sem] def aPn:aEh (no_index (a3E O Z aA)) (no_index a3F)=some (a3G O Z aA):=qV (fun⟨a0,a1,a2⟩ ⟨b0,b1,b2⟩ h1 h2=>by cases h1;cases h2;rfl) (O,Z,aA)
end
@[go_sem] abbrev L6:Nat×qC:=(80,⟨[.v,.v,.v],aEh,[],[],none⟩)
def x7:qM Tryz.prog [rG,tG,A4,wV,CV,zB] (qO [HZ,U1]):=⟨⟨rJ,⟨tT,⟨BO,⟨xP,⟨FU,⟨AR,trivial⟩⟩⟩⟩⟩⟩,pU TM (pU a1K qS),qQ⟩
def P3:qE Tryz.prog L6:=by
 refine qW x7 Tryz.func80 (c:=_) rfl (N:=55) pE (ts:=[(6,none),(7,none)]) rfl (fun _ _=>rfl) ?_;intro⟨O,Z,aA⟩ hs hrow;dsimp only[a3E,a3F,a3G,qR,pX,qD,qI,qT,Nat.reduceAdd] at hs hrow|-;have hz:=hs;obtain⟨z0,e⟩:=aQF.1 hz
 try rw[r8 e]
 clear hz hs;unfold vB at e;refine pL x7 ?_;refine pL x7 ?_;refine pW ?_;refine pL x7 ?_;refine qY ?_;obtain⟨y1,hy1,e⟩:=tN e;refine sE 0 (fun s=> ∃v,y1= .inl v∧s=(fun x=>⟨[(1,(.val .str Z,none)),(8,(.val .mp (some 0),none))],[(0,.map .str .str x)],1,55,0⟩) v) ?_ ?_
 .refine sC hy1 (fun x=>⟨[(1,(.val .str Z,none)),(2,(.val .str aA,none)),(8,(.val .mp (some 0),none)),(17,(.val (.list (.pair .str (.pair .str .unit))) O.2.2.1,none)),(18,(.val (.int .i64) (O.2.2.1.length:Int),none)),(19,(.val (.int .i64) x.1,none))],[(0,.map .str .str x.2)],1,55,0⟩) ⟨[1,2,8,17,18,19],[(0,96)]⟩ pF ?_;intro x1 w1 n1 d f;obtain⟨aB,aC⟩:=x1;unfold aEf at d;dsimp only at d|-;refine pL x7 ?_;refine pW ?_;refine pY d (fun d hc1=> ?_) (fun d hc1=> ?_)
  .refine qG (pT (pW (qY ?_)));obtain⟨hg1,d⟩:=pP d;refine pL x7 ?_ (hp:=by exact hg1);refine pW ?_;obtain⟨hg2,d⟩:=pP d;obtain⟨hg3,d⟩:=pP d;obtain⟨hg4,d⟩:=pP d;obtain⟨aD,hv5,hw5,d⟩:=q8 d
   try simp only[go_sem] at hw5
   refine tW x7 ?_ (hp:=by exact⟨hg2,hg3,hg4,fun _=>by first|exact rfl|exact trivial,(pZ hv5)⟩) (h:=by simp only[go_sem,hw5];rfl)
   refine pY d (fun d hc2=> ?_) (fun d hc2=> ?_)
   .refine pW ?_;refine qJ x7 ?_;cases d
   .refine qG (pT ?_);refine qJ x7 ?_;refine r5 (pT ?_);obtain⟨hg6,d⟩:=pP d;refine qJ x7 ?_ (hp:=by exact hg6);cases d;exact rT ⟨⟨[1,2,8,17,18,19],[(0,0)]⟩,_,by rfl,f⟩
  .refine s8 (s7 (sA ?_));cases d;cases f;exact s9 ⟨⟨[1,8],[(0,0)]⟩,_,rfl,by rfl⟩
 .rintro _ ⟨aE,rfl,rfl⟩;dsimp only at e|-;refine sD (pT (pW ?_));obtain⟨hg7,e⟩:=pP e;refine pL x7 ?_ (hp:=by exact hg7);refine qY ?_;obtain⟨y1,hy1,e⟩:=tN e;refine sE 2 (fun s=> ∃v,y1= .inl v∧s=(fun _=>⟨[(8,(.val .mp (some 0),none))],[(0,.map .str .str aE)],1,55,0⟩) v) ?_ ?_
  .refine sC hy1 (fun x=>⟨[(8,(.val .mp (some 0),none)),(39,(.own 1 ((Lib.fields Z).length),none)),(40,(.val (.int .i64) ((((Lib.fields Z).length):Nat):Int),none)),(41,(.val (.int .i64) x,none))],[(0,.map .str .str aE),(1,.row 9 .str (Lib.fields Z) ((Lib.fields Z).length))],2,55,0⟩) ⟨[8,39,40,41],[(0,0),(1,33)]⟩ pF ?_;intro aF w1 n1 d f;unfold aEg at d;dsimp only at d|-;refine pL x7 ?_;refine pW ?_;refine pY d (fun d hc3=> ?_) (fun d hc3=> ?_)
   .refine qG (pT (pW (qY ?_)));obtain⟨hg8,d⟩:=pP d;refine pL x7 ?_ (hp:=by exact⟨hg8,pD⟩)
    refine pL x7 ?_;refine pL x7 ?_;refine pY d (fun d hc4=> ?_) (fun d hc4=> ?_)
    .refine pW ?_;refine qJ x7 ?_;cases d
    .refine qG (r5 (pT ?_));obtain⟨hg9,d⟩:=pP d;refine qJ x7 ?_ (hp:=by exact hg9);cases d;exact rT ⟨⟨[8,39,40,41],[(0,0),(1,1)]⟩,_,by rfl,f⟩
   .refine s8 (s7 (sA ?_));cases d;cases f;exact s9 ⟨⟨[8],[(0,0)]⟩,_,rfl,by rfl⟩
  .rintro _ ⟨v,rfl,rfl⟩;dsimp only at e|-;refine sD (pT ?_);refine pL x7 ?_;refine pV ?_;cases e;exact oV [(0,0)]
def aEi (O:wU) (Z:oT) (aA:oT):(Int×(List (oT×oT)))→Option ((Int×(List (oT×oT)))⊕((List (oT×oT))⊕Unit)):=fun(aB,aC)=>if (decide (aB<(O.2.2.1.length:Int)))=true then if 0≤aB∧aB<(O.2.2.1.length:Int) then if ((Z++([32]:oT)).length:Int)≤9223372036854775807 then if (((Z++([32]:oT))++aA).length:Int)≤9223372036854775807 then if (List.all ((Z++([32]:oT))++aA) fun b=>decide (b.toNat<128))=true∧List.length ((Z++([32]:oT))++aA)<4294967281 then (IC (Lib.fields ((Z++([32]:oT))++aA)) ((qB (.pair .str (.pair .str .unit)) O.2.2.1 aB).1)).bind fun aD=>if (!aD)=true then some (.inr (.inr (()))) else if pO (aB+(1:Int)) then some (.inl ((aB+(1:Int)),(tO .str .str ((qB (.pair .str (.pair .str .unit)) O.2.2.1 aB).1) ((qB (.pair .str (.pair .str .unit)) O.2.2.1 aB).2.1) aC))) else none else none else none else none else none else some (.inr (.inl aC))
def aEj (O:oT) (Z:(List (oT×oT))):Int→Option (Int⊕(Unit⊕Unit)):=fun aA=>if (decide (aA<((((Lib.fields O).length):Nat):Int)))=true then if 0≤aA∧aA<((((Lib.fields O).length):Nat):Int) then if (!(AH .str .str Z (qB .str (Lib.fields O) aA)))=true then some (.inr (.inr (()))) else if pO (aA+(1:Int)) then some (.inl (aA+(1:Int))) else none else none else some (.inr (.inl ()))
def D0 (O:wU) (Z:oT) (aA:oT):Option Unit:=sR (rF (aEi O Z aA) ((0:Int),([]:List (oT×oT)))) fun aB=>if (List.all Z fun b=>decide (b.toNat<128))=true∧List.length Z<4294967281 then sR (rF (aEj Z aB) (0:Int)) fun _=>none else none
section
variable (O:wU) (Z:oT) (aA:oT)
abbrev a3H:List pN:=[(.val vA O,none),(.val .str Z,none),(.val .str aA,none)]
abbrev a3I:List pM:=[]
@[go_sem] def a3J:pR:=⟨[((D0 O Z aA)).isSome=true],[(.val .mp none,none),(.val .bool false,none)],[]⟩
def aEk:List pN→List pM→Option pR:=qU (V:=(wU×oT×oT)) (fun x=>a3H x.1 x.2.1 x.2.2) (fun x=>a3I) fun x=>a3J x.1 x.2.1 x.2.2
@[go_sem] def aPo:aEk (no_index (a3H O Z aA)) (no_index a3I)=some (a3J O Z aA):=qV (fun⟨a0,a1,a2⟩ ⟨b0,b1,b2⟩ h1 h2=>by cases h1;cases h2;rfl) (O,Z,aA)
end
@[go_sem] abbrev L7:Nat×qC:=(80,⟨[.v,.v,.v],aEk,[],[],none⟩)
def x8:qM Tryz.prog [rG,tG,A4,wV,CV,zB] (qO [HZ,U1]):=⟨⟨rJ,⟨tT,⟨BO,⟨xP,⟨FU,⟨AR,trivial⟩⟩⟩⟩⟩⟩,pU TM (pU a1K qS),qQ⟩
def P4:qE Tryz.prog L7:=by
 refine qW x8 Tryz.func80 (c:=_) rfl (N:=55) pE (ts:=[(6,none),(7,none)]) rfl (fun _ _=>rfl) ?_;intro⟨O,Z,aA⟩ hs hrow;dsimp only[a3H,a3I,a3J,qR,pX,qD,qI,qT,Nat.reduceAdd] at hs hrow|-;have hz:=hs;obtain⟨z0,e⟩:=aQF.1 hz
 try rw[r8 e]
 clear hz hs;unfold D0 at e;refine pL x8 ?_;refine pL x8 ?_;refine pW ?_;refine pL x8 ?_;refine qY ?_;obtain⟨y1,hy1,e⟩:=tN e;refine sE 0 (fun s=> ∃v,y1= .inl v∧s=(fun x=>⟨[(1,(.val .str Z,none)),(8,(.val .mp (some 0),none))],[(0,.map .str .str x)],1,55,0⟩) v) ?_ ?_
 .refine sC hy1 (fun x=>⟨[(1,(.val .str Z,none)),(2,(.val .str aA,none)),(8,(.val .mp (some 0),none)),(17,(.val (.list (.pair .str (.pair .str .unit))) O.2.2.1,none)),(18,(.val (.int .i64) (O.2.2.1.length:Int),none)),(19,(.val (.int .i64) x.1,none))],[(0,.map .str .str x.2)],1,55,0⟩) ⟨[1,2,8,17,18,19],[(0,96)]⟩ pF ?_;intro x1 w1 n1 d f;obtain⟨aB,aC⟩:=x1;unfold aEi at d;dsimp only at d|-;refine pL x8 ?_;refine pW ?_;refine pY d (fun d hc1=> ?_) (fun d hc1=> ?_)
  .refine qG (pT (pW (qY ?_)));obtain⟨hg1,d⟩:=pP d;refine pL x8 ?_ (hp:=by exact hg1);refine pW ?_;obtain⟨hg2,d⟩:=pP d;obtain⟨hg3,d⟩:=pP d;obtain⟨hg4,d⟩:=pP d;obtain⟨aD,hv5,hw5,d⟩:=q8 d
   try simp only[go_sem] at hw5
   refine tW x8 ?_ (hp:=by exact⟨hg2,hg3,hg4,fun _=>by first|exact rfl|exact trivial,(pZ hv5)⟩) (h:=by simp only[go_sem,hw5];rfl)
   refine pY d (fun d hc2=> ?_) (fun d hc2=> ?_)
   .refine pL x8 ?_;refine pV (qP (r6 (qP (tM (tQ (r6 (qP ?_)))))));cases d;cases f;dsimp only at e;cases e;exact oV []
   .refine qG (pT ?_);refine qJ x8 ?_;refine r5 (pT ?_);obtain⟨hg6,d⟩:=pP d;refine qJ x8 ?_ (hp:=by exact hg6);cases d;exact rT ⟨⟨[1,2,8,17,18,19],[(0,0)]⟩,_,by rfl,f⟩
  .refine s8 (s7 (sA ?_));cases d;cases f;exact s9 ⟨⟨[1,8],[(0,0)]⟩,_,rfl,by rfl⟩
 .rintro _ ⟨aE,rfl,rfl⟩;dsimp only at e|-;refine sD (pT (pW ?_));obtain⟨hg7,e⟩:=pP e;refine pL x8 ?_ (hp:=by exact hg7);refine qY ?_;obtain⟨y1,hy1,e⟩:=tN e;refine sE 2 (fun s=> ∃v,y1= .inl v∧s=(fun _=>⟨[(8,(.val .mp (some 0),none))],[(0,.map .str .str aE)],1,55,0⟩) v) ?_ ?_
  .refine sC hy1 (fun x=>⟨[(8,(.val .mp (some 0),none)),(39,(.own 1 ((Lib.fields Z).length),none)),(40,(.val (.int .i64) ((((Lib.fields Z).length):Nat):Int),none)),(41,(.val (.int .i64) x,none))],[(0,.map .str .str aE),(1,.row 9 .str (Lib.fields Z) ((Lib.fields Z).length))],2,55,0⟩) ⟨[8,39,40,41],[(0,0),(1,33)]⟩ pF ?_;intro aF w1 n1 d f;unfold aEj at d;dsimp only at d|-;refine pL x8 ?_;refine pW ?_;refine pY d (fun d hc3=> ?_) (fun d hc3=> ?_)
   .refine qG (pT (pW (qY ?_)));obtain⟨hg8,d⟩:=pP d;refine pL x8 ?_ (hp:=by exact⟨hg8,pD⟩)
    refine pL x8 ?_;refine pL x8 ?_;refine pY d (fun d hc4=> ?_) (fun d hc4=> ?_)
    .refine pL x8 ?_;refine pV (r6 (qP (tM (tQ (r6 (qP ?_))))));cases d;cases f;dsimp only at e;cases e;exact oV []
    .refine qG (r5 (pT ?_));obtain⟨hg9,d⟩:=pP d;refine qJ x8 ?_ (hp:=by exact hg9);cases d;exact rT ⟨⟨[8,39,40,41],[(0,0),(1,1)]⟩,_,by rfl,f⟩
   .refine s8 (s7 (sA ?_));cases d;cases f;exact s9 ⟨⟨[8],[(0,0)]⟩,_,rfl,by rfl⟩
  .rintro _ ⟨v,rfl,rfl⟩;dsimp only at e|-;refine sD (pT (pW ?_));refine qJ x8 ?_;cases e
def IF (O:oT):Option Bool:=if 0<([32]:oT).length∧List.length O<4294967281 then if 0<(sU O ([32]:oT)).length∧List.length (sU O ([32]:oT))≤9223372036854775807 then (OZ (t6 (sU O ([32]:oT)))).bind fun Z=>some ((!Z)) else none else none
section
variable (O:oT)
abbrev a3K:List pN:=[(.val .str O,none)]
abbrev a3L:List pM:=[]
@[go_sem] def a3M:pR:=⟨[((IF O)).isSome=true],[(.own 0 ((t6 (sU O ([32]:oT))).length),none),(.val .bool (val (IF O)),none)],[.row 9 .str (t6 (sU O ([32]:oT))) ((t6 (sU O ([32]:oT))).length)]⟩
def aEl:List pN→List pM→Option pR:=qU (V:=oT) (a3K) (fun x=>a3L) fun x=>a3M x
@[go_sem] def aPp:aEl (no_index (a3K O)) (no_index a3L)=some (a3M O):=qV (fun a0 b0 h1 h2=>by cases h1;cases h2;rfl) O
end
@[go_sem] abbrev U4:Nat×qC:=(87,⟨[.v],aEl,[],[],none⟩)
def U5:qM Tryz.prog [tG] (qO [KM,KN,aD5]):=⟨⟨tT,trivial⟩,pU ZK (pU ZL (pU aLz qS)),qQ⟩
def a3N:qE Tryz.prog U4:=by
 refine qW U5 Tryz.func87 (c:=_) rfl (N:=12) pE (ts:=[(2,none),(3,none)]) rfl (fun _ _=>rfl) ?_;intro O hs hrow;dsimp only[a3K,a3L,a3M,qR,pX,qD,qI,qT,Nat.reduceAdd] at hs hrow|-;have hz:=hs;obtain⟨z0,e⟩:=aQF.1 hz
 try rw[r8 e]
 clear hz hs;unfold IF at e;refine pL U5 ?_;obtain⟨hg1,e⟩:=pP e;obtain⟨hg2,e⟩:=pP e;refine pL U5 ?_ (hp:=by exact⟨hg1,pD,hg2⟩)
 obtain⟨Z,hv3,hw3,e⟩:=q8 e
 try simp only[go_sem] at hw3
 refine pL U5 ?_ (hp:=by exact⟨fun _=>by first|exact rfl|exact trivial,(pZ hv3)⟩) (h:=by simp only[go_sem,hw3];rfl)
 refine pV ?_;cases e;exact oV [(0,129)]
attribute [irreducible] vB D0 IF
end
noncomputable section
def U6:(Int×oT)→p6→Option (p6⊕oT):=fun O Z=>(CX (Z,()) O.2).bind fun aA=>some (.inl (Z++tY O.2))
def IG (O:tF):Option oT:=if List.length O.2.1≤4611686018427387904 then sR (z6 (U6) (zZ O) ([]:p6)) fun Z=>some ((sN Z)) else none
section
variable (O:tF)
abbrev a3O:List pN:=[(.val v8 O,none)]
abbrev a3P:List pM:=[]
@[go_sem] def a3Q:pR:=⟨[((IG O)).isSome=true],[(.val .str (val (IG O)),none)],[]⟩
def aEm:List pN→List pM→Option pR:=qU (V:=tF) (a3O) (fun x=>a3P) fun x=>a3Q x
@[go_sem] def aPq:aEm (no_index (a3O O)) (no_index a3P)=some (a3Q O):=qV (fun a0 b0 h1 h2=>by cases h1;cases h2;rfl) O
end
@[go_sem] abbrev aEn:Nat×qC:=(13,⟨[.v],aEm,[],[],none⟩)
def IH:qM Tryz.prog [FS,E4] (qO [aCz,TX,DY]):=⟨⟨KS,⟨I7,trivial⟩⟩,pU aLb (pU a0N (pU KL qS)),qQ⟩
def aLC:qE Tryz.prog aEn:=by
 refine qW IH Tryz.func13 (c:=_) rfl (N:=13) pE (ts:=[(2,none)]) rfl (fun _ _=>rfl) ?_;intro O hs hrow;dsimp only[a3O,a3P,a3Q,qR,pX,qD,qI,qT,Nat.reduceAdd] at hs hrow|-;have hz:=hs;obtain⟨z0,d⟩:=aQF.1 hz
 try rw[r8 d]
 clear hz hs;unfold IG at d;refine pL IH ?_;refine pL IH ?_;refine pW ?_;refine pL IH ?_;refine qY ?_;obtain⟨hgF2,d⟩:=pP d;obtain⟨y1,hy1,d⟩:=tN d;refine aKB aKI aKD pF pF hgF2 hy1 [(3,(.val .ref (some (0,0)),none))] (fun Z=>[(3,(.val .ref (some (0,0)),none)),(5,(.val .str Z.2,none))]) (fun x=>[.cells uP ((some (0,0)),(x,())) [(1,1)],.grow 5 1 (x.length)]) 1 ⟨[3],[(0,64),(1,65)]⟩ pF pF pF pF (aRK pF) (fun _=>aRK rfl) (fun _=>by rfl) (fun _=>rfl) pF ?_ ?_
 .intro Z aA w1 f g;refine⟨?_,?_⟩
  .dsimp only[FP,aBX,sL,pX,qD,Nat.reduceAdd,List.toList_toArray];refine qJ IH ?_;exact aBV ⟨[3,5],[(0,0),(1,1)]⟩ pF
  .unfold U6 at f;dsimp only[pX,qD,Nat.reduceAdd] at f|-;refine qY ?_;obtain⟨aB,hv1,hw1,f⟩:=q8 f
   try simp only[go_sem] at hw1
   refine qJ IH ?_ (hp:=by exact⟨pD,(pZ hv1)⟩) (h:=by simp only[go_sem,hw1];rfl)
   refine r5 ?_;cases f;exact aBW ⟨[],[(0,0),(1,1)]⟩ _ rfl pF
 .rintro aA rfl;dsimp only[pX,qD,Nat.reduceAdd] at d|-;refine r5 (pT ?_);refine pL IH ?_ (hp:=by first|rfl|trivial)
  refine pV ?_;cases d;exact oV []
def L8 (O:sH):Option Unit:=if pO ((O.1.length:Int)+(O.2.1.length:Int)) then if pO (((O.1.length:Int)+(O.2.1.length:Int))+(O.2.2.1.length:Int)) then if (((decide ((((O.1.length:Int)+(O.2.1.length:Int))+(O.2.2.1.length:Int))≤(6000:Int)))==true)=true→((x6 O.2.2.2.1 O.2.2.2.2.2.2.1)).isSome=true) then if (((decide ((((O.1.length:Int)+(O.2.1.length:Int))+(O.2.2.1.length:Int))≤(6000:Int)))==true)=true→((x6 O.2.2.2.2.1 ([]:List qK))).isSome=true) then if (((decide ((((O.1.length:Int)+(O.2.1.length:Int))+(O.2.2.1.length:Int))≤(6000:Int)))==true)=true→pO ((val (x6 O.2.2.2.1 O.2.2.2.2.2.2.1))+(val (x6 O.2.2.2.2.1 ([]:List qK))))) then some (()) else none else none else none else none else none
section
variable (O:sH)
abbrev a3R:List pN:=[(.val rN O,none)]
abbrev a3S:List pM:=[]
@[go_sem] def a3T:pR:=⟨[((L8 O)).isSome=true],[(.val .bool ((decide ((((O.1.length:Int)+(O.2.1.length:Int))+(O.2.2.1.length:Int))≤(6000:Int)))&&(decide (((val (x6 O.2.2.2.1 O.2.2.2.2.2.2.1))+(val (x6 O.2.2.2.2.1 ([]:List qK))))≤(6000:Int)))),none)],[]⟩
def aEo:List pN→List pM→Option pR:=qU (V:=sH) (a3R) (fun x=>a3S) fun x=>a3T x
@[go_sem] def aPr:aEo (no_index (a3R O)) (no_index a3S)=some (a3T O):=qV (fun a0 b0 h1 h2=>by cases h1;cases h2;rfl) O
end
@[go_sem] abbrev aEp:Nat×qC:=(23,⟨[.v],aEo,[],[],none⟩)
def a3U:qM Tryz.prog [rG,tG,vH,vG] (qO [a0R]):=⟨⟨rJ,⟨tT,⟨vX,⟨vW,trivial⟩⟩⟩⟩,pU aCC qS,qQ⟩
def aLD:qE Tryz.prog aEp:=by
 refine qW a3U Tryz.func23 (c:=_) rfl (N:=27) pE (ts:=[(2,none)]) rfl (fun _ _=>rfl) ?_;intro O hs hrow;dsimp only[a3R,a3S,a3T,qR,pX,qD,qI,qT,Nat.reduceAdd] at hs hrow|-;have hz:=hs;obtain⟨z0,d⟩:=aQF.1 hz
 try rw[r8 d]
 clear hz hs;unfold L8 at d;refine pL a3U ?_;obtain⟨hg1,d⟩:=pP d;obtain⟨hg2,d⟩:=pP d;obtain⟨hg3,d⟩:=pP d;obtain⟨hg4,d⟩:=pP d;obtain⟨hg5,d⟩:=pP d;refine tW a3U ?_ (hp:=by exact⟨hg1,hg2,id,id,id,id,hg3,id,id,hg4,id,id,hg5,id,rI⟩);refine pV ?_;cases d;exact oV []
def BT (O:oT):Option Unit:=if (((decide ((O.length:Int)≤(4000:Int)))==true)=true→((OP O)).isSome=true) then some (()) else none
section
variable (O:oT)
abbrev a3V:List pN:=[(.val .str O,none)]
abbrev a3W:List pM:=[]
@[go_sem] def a3X:pR:=⟨[((BT O)).isSome=true],[(.val .bool ((decide ((O.length:Int)≤(4000:Int)))&&(Lib.validD O)),none)],[]⟩
def aEq:List pN→List pM→Option pR:=qU (V:=oT) (a3V) (fun x=>a3W) fun x=>a3X x
@[go_sem] def aPs:aEq (no_index (a3V O)) (no_index a3W)=some (a3X O):=qV (fun a0 b0 h1 h2=>by cases h1;cases h2;rfl) O
end
@[go_sem] abbrev P5:Nat×qC:=(97,⟨[.v],aEq,[],[],none⟩)
def a3Y:qM Tryz.prog [rG] (qO [aDc]):=⟨⟨rJ,trivial⟩,pU aLi qS,qQ⟩
def U7:qE Tryz.prog P5:=by
 refine qW a3Y Tryz.func97 (c:=_) rfl (N:=10) pE (ts:=[(2,none)]) rfl (fun _ _=>rfl) ?_;intro O hs hrow;dsimp only[a3V,a3W,a3X,qR,pX,qD,qI,qT,Nat.reduceAdd] at hs hrow|-;have hz:=hs;obtain⟨z0,d⟩:=aQF.1 hz
 try rw[r8 d]
 clear hz hs;unfold BT at d;refine pL a3Y ?_;obtain⟨hg1,d⟩:=pP d;refine pL a3Y ?_ (hp:=by exact⟨id,hg1,rI⟩);refine pV ?_;cases d;exact oV []
attribute [irreducible] IG L8 BT
end
noncomputable section
def P6 (O:tF):(oT×Int)→Option ((oT×Int)⊕oT):=fun(Z,aA)=>if (decide (aA<(((([O.1]:oU)++O.2.1)++([O.2.2.1]:oU)).length:Int)))=true then if 0≤aA∧aA<(((([O.1]:oU)++O.2.1)++([O.2.2.1]:oU)).length:Int) then if ((Z++(qB .str ((([O.1]:oU)++O.2.1)++([O.2.2.1]:oU)) aA)).length:Int)≤9223372036854775807 then if pO (aA+(1:Int)) then some (.inl ((Z++(qB .str ((([O.1]:oU)++O.2.1)++([O.2.2.1]:oU)) aA)),(aA+(1:Int)))) else none else none else none else some (.inr Z)
def II (O:tF):Option oT:=(E5 O).bind fun Z=>sG (rF (P6 O) (([]:oT),(0:Int))) fun aA=>some (aA)
section
variable (O:tF)
abbrev a3Z:List pN:=[(.val v8 O,none)]
abbrev a30:List pM:=[]
@[go_sem] def a32:pR:=⟨[((II O)).isSome=true],[(.val .str (val (II O)),none)],[]⟩
def aEr:List pN→List pM→Option pR:=qU (V:=tF) (a3Z) (fun x=>a30) fun x=>a32 x
@[go_sem] def aPt:aEr (no_index (a3Z O)) (no_index a30)=some (a32 O):=qV (fun a0 b0 h1 h2=>by cases h1;cases h2;rfl) O
end
@[go_sem] abbrev aEs:Nat×qC:=(35,⟨[.v],aEr,[],[],none⟩)
def EH:qM Tryz.prog [rG,tG,CT] (qO [a03]):=⟨⟨rJ,⟨tT,⟨FT,trivial⟩⟩⟩,pU aCI qS,qQ⟩
def aLE:qE Tryz.prog aEs:=by
 refine qW EH Tryz.func35 (c:=_) rfl (N:=21) pE (ts:=[(2,none)]) rfl (fun _ _=>rfl) ?_;intro O hs hrow;dsimp only[a3Z,a30,a32,qR,pX,qD,qI,qT,Nat.reduceAdd] at hs hrow|-;have hz:=hs;obtain⟨z0,f⟩:=aQF.1 hz
 try rw[r8 f]
 clear hz hs;unfold II at f;refine pL EH ?_;refine pL EH ?_;obtain⟨Z,hv1,hw1,f⟩:=q8 f
 try simp only[go_sem] at hw1
 refine pL EH ?_ (hp:=by exact(pZ hv1)) (h:=by simp only[go_sem,hw1];rfl);refine pW ?_;refine pL EH ?_;refine qY ?_;obtain⟨aA,hy1,f⟩:=r9 f;refine sE 0 (fun s=>s=(fun x=>⟨[(3,(.val .str x,none))],[],0,21,0⟩) aA) ?_ ?_
 .refine sC hy1 (fun x=>⟨[(3,(.val .str x.1,none)),(4,(.val (.list .str) ((([O.1]:oU)++O.2.1)++([O.2.2.1]:oU)),some 0)),(5,(.val (.int .i64) x.2,none))],[(0,.grow 9 1 (((([O.1]:oU)++O.2.1)++([O.2.2.1]:oU)).length))],1,21,0⟩) ⟨[3,4,5],[(0,128)]⟩ pF ?_;intro x1 w1 n1 e g;obtain⟨aB,aC⟩:=x1;unfold P6 at e;dsimp only at e|-;refine pW ?_;refine pL EH ?_;refine pY e (fun e hc1=> ?_) (fun e hc1=> ?_)
  .refine qG (pT (pW (qY ?_)));obtain⟨hg2,e⟩:=pP e;obtain⟨hg3,e⟩:=pP e;refine qJ EH ?_ (hp:=by exact⟨hg2,hg3⟩);refine r5 (pT ?_);obtain⟨hg4,e⟩:=pP e;refine qJ EH ?_ (hp:=by exact hg4);cases e;exact rT ⟨⟨[3,4,5],[(0,0)]⟩,_,by rfl,g⟩
  .refine s8 (s7 (sA ?_));cases e;cases g;exact s9 ⟨⟨[3],[]⟩,by rfl⟩
 .rintro _ rfl;dsimp only at f|-;refine sD (pT ?_);refine pL EH ?_;refine pV ?_;cases f;exact oV []
def P7 (O:tF) (Z:tF):((List (Int×(oT×Unit)))×Int)→Option (((List (Int×(oT×Unit)))×Int)⊕(List (Int×(oT×Unit)))):=fun(aA,aB)=>if (decide (aB<(((([O.1]:oU)++O.2.1)++([O.2.2.1]:oU)).length:Int)))=true then if 0≤aB∧aB<(((([O.1]:oU)++O.2.1)++([O.2.2.1]:oU)).length:Int) then if 0≤aB∧aB<(((([Z.1]:oU)++Z.2.1)++([Z.2.2.1]:oU)).length:Int) then if (!decide ((qB .str ((([O.1]:oU)++O.2.1)++([O.2.2.1]:oU)) aB)=(qB .str ((([Z.1]:oU)++Z.2.1)++([Z.2.2.1]:oU)) aB)))=true then if 0≤aB∧aB<(((([O.1]:oU)++O.2.1)++([O.2.2.1]:oU)).length:Int) then if (aA.length+([(aB,((qB .str ((([O.1]:oU)++O.2.1)++([O.2.2.1]:oU)) aB),()))]:List (Int×(oT×Unit))).length)*24≤140737488355328 then if pO (aB+(1:Int)) then some (.inl ((aA++([(aB,((qB .str ((([O.1]:oU)++O.2.1)++([O.2.2.1]:oU)) aB),()))]:List (Int×(oT×Unit)))),(aB+(1:Int)))) else none else none else none else if pO (aB+(1:Int)) then some (.inl (aA,(aB+(1:Int)))) else none else none else none else some (.inr aA)
def EI (O:tF) (Z:tF):Option ((List (Int×(oT×Unit)))×Int):=if (!decide ((O.2.1.length:Int)=(Z.2.1.length:Int)))=true then some ((([]:List (Int×(oT×Unit))),(1:Int))) else (E5 O).bind fun aA=>(E5 Z).bind fun aB=>sG (rF (P7 O Z) (([]:List (Int×(oT×Unit))),(0:Int))) fun aC=>some ((aC,(0:Int)))
section
variable (O:tF) (Z:tF)
abbrev a33:List pN:=[(.val v8 O,none),(.val v8 Z,none)]
abbrev a34:List pM:=[]
@[go_sem] def a35:pR:=⟨[((EI O Z)).isSome=true],[(.val (.list HW) ((val (EI O Z)).1),some 0),(.val (.int .i64) ((val (EI O Z)).2),none)],[.grow 119 2 (((val (EI O Z)).1).length)]⟩
def aEt:List pN→List pM→Option pR:=qU (V:=(tF×tF)) (fun x=>a33 x.1 x.2) (fun x=>a34) fun x=>a35 x.1 x.2
@[go_sem] def aPu:aEt (no_index (a33 O Z)) (no_index a34)=some (a35 O Z):=qV (fun⟨a0,a1⟩ ⟨b0,b1⟩ h1 h2=>by cases h1;cases h2;rfl) (O,Z)
end
@[go_sem] abbrev aEu:Nat×qC:=(43,⟨[.v,.v],aEt,[],[],none⟩)
def A8:qM Tryz.prog [rG,tG,CT,TW,a0p] (qO [a03]):=⟨⟨rJ,⟨tT,⟨FT,⟨aCl,⟨aK5,trivial⟩⟩⟩⟩⟩,pU aCI qS,qQ⟩
def aLF:qE Tryz.prog aEu:=by
 refine qW A8 Tryz.func43 (c:=_) rfl (N:=46) pE (ts:=[(4,none),(5,none)]) rfl (fun _ _=>rfl) ?_;intro⟨O,Z⟩ hs hrow;dsimp only[a33,a34,a35,qR,pX,qD,qI,qT,Nat.reduceAdd] at hs hrow|-;have hz:=hs;obtain⟨z0,f⟩:=aQF.1 hz
 try rw[r8 f]
 clear hz hs;unfold EI at f;refine pL A8 ?_;refine pW ?_;refine pL A8 ?_;refine pY f (fun f hc1=> ?_) (fun f hc1=> ?_)
 .refine pL A8 ?_;refine pV (qP ?_);cases f;exact oV [(0,352)]
 .refine qG (pT ?_);refine pL A8 ?_;obtain⟨aA,hv1,hw1,f⟩:=q8 f
  try simp only[go_sem] at hw1
  obtain⟨aB,hv2,hw2,f⟩:=q8 f
  try simp only[go_sem] at hw2
  refine tW A8 ?_ (hp:=by exact⟨pZ hv1,(pZ hv2)⟩) (h:=by simp only[go_sem,hw1,hw2];rfl);refine pW ?_;refine pL A8 ?_;refine qY ?_;obtain⟨aC,hy1,f⟩:=r9 f;refine sE 0 (fun s=>s=(fun x=>⟨[(6,(.val (.list HW) x,some 0))],[(0,.grow 119 2 (x.length))],1,46,0⟩) aC) ?_ ?_
  .refine sC hy1 (fun x=>⟨[(6,(.val (.list HW) x.1,some 0)),(7,(.val (.list .str) ((([O.1]:oU)++O.2.1)++([O.2.2.1]:oU)),some 1)),(8,(.val (.list .str) ((([Z.1]:oU)++Z.2.1)++([Z.2.2.1]:oU)),some 2)),(9,(.val (.int .i64) x.2,none))],[(0,.grow 119 2 (x.1.length)),(1,.grow 9 1 (((([O.1]:oU)++O.2.1)++([O.2.2.1]:oU)).length)),(2,.grow 9 1 (((([Z.1]:oU)++Z.2.1)++([Z.2.2.1]:oU)).length))],3,46,0⟩) ⟨[6,7,8,9],[(0,352),(1,416),(2,480)]⟩ pF ?_;intro x1 w1 n1 e g;obtain⟨aD,aE⟩:=x1;unfold P7 at e;dsimp only at e|-;refine pW ?_;refine pL A8 ?_;refine pY e (fun e hc2=> ?_) (fun e hc2=> ?_)
   .refine qG (pT (pW (qY ?_)));obtain⟨hg3,e⟩:=pP e;obtain⟨hg4,e⟩:=pP e;refine tW A8 ?_ (hp:=by exact⟨hg3,hg4⟩);refine pY e (fun e hc3=> ?_) (fun e hc3=> ?_)
    .obtain⟨hg5,e⟩:=pP e;obtain⟨hg6,e⟩:=pP e;refine qJ A8 ?_ (hp:=by exact⟨hg5,pD,hg6⟩)
     refine r5 (pT ?_);obtain⟨hg7,e⟩:=pP e;refine qJ A8 ?_ (hp:=by exact hg7);cases e;exact rT ⟨⟨[6,7,8,9],[(0,0),(1,1),(2,2)]⟩,_,by rfl,g⟩
    .refine qG (r5 (pT ?_));obtain⟨hg8,e⟩:=pP e;refine qJ A8 ?_ (hp:=by exact hg8);cases e;exact rT ⟨⟨[6,7,8,9],[(0,0),(1,1),(2,2)]⟩,_,by rfl,g⟩
   .refine s8 (s7 (sA ?_));cases e;cases g;exact s9 ⟨⟨[6],[(0,0)]⟩,by rfl⟩
  .rintro _ rfl;dsimp only at f|-;refine sD (pT ?_);refine pL A8 ?_;refine pV ?_;cases f;exact oV [(0,0)]
def aEv (O:Int) (Z:Int) (aA:rS) (aB:(p6×Unit)) (aC:p4):(List rO)→Option ((List rO)⊕(List rO)):=fun aD=>if (((decide (Z=(0:Int)))==true)=true→0≤(0:Int)∧(0:Int)<(aD.length:Int)) then if ((((decide (Z=(0:Int)))==true)&&((decide ((qB rX aD (0:Int)).1=(1:Int)))==false))=true→0≤(0:Int)∧(0:Int)<(aD.length:Int)) then if (((((decide (Z=(0:Int)))==true)&&((decide ((qB rX aD (0:Int)).1=(1:Int)))==false))&&((decide ((qB rX aD (0:Int)).1=(3:Int)))==true))=true→0≤(0:Int)∧(0:Int)<(aD.length:Int)) then if (((((decide (Z=(0:Int)))==true)&&((decide ((qB rX aD (0:Int)).1=(1:Int)))==false))&&((decide ((qB rX aD (0:Int)).1=(3:Int)))==true))=true→(List.all ([32,9,10,13]:oT) fun b=>decide (b.toNat<128))=true∧List.length ([32,9,10,13]:oT)<4294967281) then if (((((decide (Z=(0:Int)))==true)&&((decide ((qB rX aD (0:Int)).1=(1:Int)))==false))&&((decide ((qB rX aD (0:Int)).1=(3:Int)))==true))=true→List.length (qB rX aD (0:Int)).2.1≤9223372036854775807) then if ((decide (Z=(0:Int)))&&((decide ((qB rX aD (0:Int)).1=(1:Int)))||((decide ((qB rX aD (0:Int)).1=(3:Int)))&&(decide ((Lib.trimS ((qB rX aD (0:Int)).2.1) ([32,9,10,13]:oT))=([]:oT))))))=true then (wW aD O Z (aA.1,(aA.2.1,(aA.2.2.1,(aA.2.2.2.1,())))) (aB.1,()) aC).bind fun aE=>some (.inl aE) else some (.inr aD) else none else none else none else none else none
def BU (O:(List rO)) (Z:Int) (aA:Int) (aB:rS) (aC:(p6×Unit)) (aD:p4):Option (List rO):=sG (rF (aEv Z aA aB aC aD) O) fun aE=>some (aE)
section
variable (O:(List rO)) (Z:Int) (aA:Int) (aB:rS) (aC:(p6×Unit)) (aD:Nat) (aE:Nat) (aF:p4)
abbrev a36:List pN:=[(.val .ref (some (0,0)),none)]
abbrev a38:List pM:=[.cells rY (O,(Z,(aA,(aB,((some 3),aC))))) [(6,1),(8,2)],.grow 53 7 aD,.grow 3 1 aE,.map .str .bool aF]
@[go_sem] def a39:pR:=⟨[aD=(aB.2.2.2.1.length),aE=(aC.1.length),((BU O Z aA aB aC aF)).isSome=true],[],[.cells rY ((val (BU O Z aA aB aC aF)),(Z,(aA,((aB.1,(aB.2.1,(aB.2.2.1,(aB.2.2.2.1,())))),((some 3),(aC.1,())))))) [(6,1),(8,2)],.grow 53 7 (aB.2.2.2.1.length),.grow 3 1 (aC.1.length),.map .str .bool aF]⟩
def aEw:List pN→List pM→Option pR:=qU (V:=((List rO)×Int×Int×rS×(p6×Unit)×Nat×Nat×p4)) (fun x=>a36) (fun x=>a38 x.1 x.2.1 x.2.2.1 x.2.2.2.1 x.2.2.2.2.1 x.2.2.2.2.2.1 x.2.2.2.2.2.2.1 x.2.2.2.2.2.2.2) fun x=>a39 x.1 x.2.1 x.2.2.1 x.2.2.2.1 x.2.2.2.2.1 x.2.2.2.2.2.1 x.2.2.2.2.2.2.1 x.2.2.2.2.2.2.2
@[go_sem] def aPv:aEw (no_index a36) (no_index (a38 O Z aA aB aC aD aE aF))=some (a39 O Z aA aB aC aD aE aF):=qV (fun⟨a0,a1,a2,a3,a4,a5,a6,a7⟩ ⟨b0,b1,b2,b3,b4,b5,b6,b7⟩ h1 h2=>by cases h1;cases h2;rfl) (O,Z,aA,aB,aC,aD,aE,aF)
end
@[go_sem] abbrev L9:Nat×qC:=(52,⟨[.p rY [6,8]],aEw,[(0,7,.m)],[1,2,3],none⟩)
def a4a:qM Tryz.prog [u7,rG,AQ,A1,A3,y3] (qO [HY,G2]):=⟨⟨uF,⟨rJ,⟨CU,⟨E2,⟨BN,⟨CQ,trivial⟩⟩⟩⟩⟩⟩,pU TL (pU IB qS),qQ⟩
def P8:qE Tryz.prog L9:=by
 refine qW a4a Tryz.func52 (c:=_) rfl (N:=40) pE (ts:=[]) rfl (fun _ _=>rfl) ?_;intro⟨O,Z,aA,aB,aC,aD,aE,aF⟩ hs hrow;dsimp only[a36,a38,a39,qR,pX,qD,qI,qT,Nat.reduceAdd] at hs hrow|-;obtain⟨rfl,rfl,hz⟩:=hs;obtain⟨z0,f⟩:=aQF.1 hz
 try rw[r8 f]
 clear hz;unfold BU at f;refine qY ?_;obtain⟨aG,hy1,f⟩:=r9 f;refine sE 0 (fun s=>s=(fun x=>⟨[],[(0,.cells rY (x,(Z,(aA,((aB.1,(aB.2.1,(aB.2.2.1,(aB.2.2.2.1,())))),((some 3),(aC.1,())))))) [(6,1),(8,2)]),(1,.grow 53 7 (aB.2.2.2.1.length)),(2,.grow 3 1 (aC.1.length)),(3,.map .str .bool aF)],4,40,4⟩) aG) ?_ ?_
 .refine sC hy1 (fun x=>⟨[(0,(.val .ref (some (0,0)),none))],[(0,.cells rY (x,(Z,(aA,((aB.1,(aB.2.1,(aB.2.2.1,(aB.2.2.2.1,())))),((some 3),(aC.1,())))))) [(6,1),(8,2)]),(1,.grow 53 7 (aB.2.2.2.1.length)),(2,.grow 3 1 (aC.1.length)),(3,.map .str .bool aF)],4,40,4⟩) ⟨[0],[(0,0),(1,1),(2,2),(3,3)]⟩ pF ?_;intro aH w1 n1 e g;unfold aEv at e;dsimp only at e|-;refine pW ?_;obtain⟨hg1,e⟩:=pP e;obtain⟨hg2,e⟩:=pP e;obtain⟨hg3,e⟩:=pP e;obtain⟨hg4,e⟩:=pP e;obtain⟨hg5,e⟩:=pP e;refine pL a4a ?_ (hp:=by exact⟨id,id,id,id,hg1,id,id,id,id,id,id,id,id,hg2,id,id,id,id,id,id,id,id,hg3,id,id,id,hg4,hg5,id,id,fun hG d=>KD hG d,id,fun hG d=>CN hG d,rI⟩);refine pY e (fun e hc1=> ?_) (fun e hc1=> ?_)
  .refine qG (pT (qY ?_));obtain⟨aI,hv6,hw6,e⟩:=q8 e
   try simp only[go_sem] at hw6
   refine qJ a4a ?_ (hp:=by exact⟨pD,pD,pD,pD,pD,(pZ hv6)⟩) (h:=by simp only[go_sem,hw6];rfl)
   refine r5 ?_;cases e;exact rT ⟨⟨[0],[(0,0),(1,1),(2,2),(3,3)]⟩,_,by rfl,g⟩
  .refine s8 (s7 (sA ?_));cases e;cases g;exact s9 ⟨⟨[],[(0,0),(1,1),(2,2),(3,3)]⟩,by rfl⟩
 .rintro _ rfl;dsimp only at f|-;refine sD ?_;cases f;exact oV [(0,0),(1,1),(2,2),(3,3)]
def P9 (O:oT):Int→Option (Int⊕(Unit⊕Bool)):=fun Z=>if (decide (Z<(O.length:Int)))=true then if 0≤Z∧Z<(O.length:Int) then if ((((!((decide ((97:Int)≤(rP O Z)))&&(decide ((rP O Z)≤(122:Int)))))&&(!((decide ((48:Int)≤(rP O Z)))&&(decide ((rP O Z)≤(57:Int))))))&&(!decide ((rP O Z)=(45:Int))))&&((decide ((rP O Z)<(65:Int)))||(decide ((90:Int)<(rP O Z)))))=true then some (.inr (.inr (false))) else if pO (Z+(1:Int)) then some (.inl (Z+(1:Int))) else none else none else some (.inr (.inl ()))
def IJ (O:oT):Option Bool:=sR (rF (P9 O) (0:Int)) fun _=>some (((decide ((1:Int)≤(O.length:Int)))&&(decide ((O.length:Int)≤(40:Int)))))
section
variable (O:oT)
abbrev a4b:List pN:=[(.val .str O,none)]
abbrev a4c:List pM:=[]
@[go_sem] def a4d:pR:=⟨[((IJ O)).isSome=true],[(.val .bool (val (IJ O)),none)],[]⟩
def aEx:List pN→List pM→Option pR:=qU (V:=oT) (a4b) (fun x=>a4c) fun x=>a4d x
@[go_sem] def aPw:aEx (no_index (a4b O)) (no_index a4c)=some (a4d O):=qV (fun a0 b0 h1 h2=>by cases h1;cases h2;rfl) O
end
@[go_sem] abbrev aEy:Nat×qC:=(74,⟨[.v],aEx,[],[],none⟩)
def EJ:qM Tryz.prog [rG] (qO [a1z,a1E]):=⟨⟨rJ,trivial⟩,pU aCY (pU aC1 qS),qQ⟩
def aLG:qE Tryz.prog aEy:=by
 refine qW EJ Tryz.func74 (c:=_) rfl (N:=42) pE (ts:=[(2,none)]) rfl (fun _ _=>rfl) ?_;intro O hs hrow;dsimp only[a4b,a4c,a4d,qR,pX,qD,qI,qT,Nat.reduceAdd] at hs hrow|-;have hz:=hs;obtain⟨z0,f⟩:=aQF.1 hz
 try rw[r8 f]
 clear hz hs;unfold IJ at f;refine pL EJ ?_;refine pW ?_;refine pL EJ ?_;refine qY ?_;obtain⟨y1,hy1,f⟩:=tN f;refine sE 0 (fun s=> ∃v,y1= .inl v∧s=(fun _=>⟨[(0,(.val .str O,none))],[],0,42,0⟩) v) ?_ ?_
 .refine sC hy1 (fun x=>⟨[(0,(.val .str O,none)),(3,(.val (.int .i64) x,none))],[],0,42,0⟩) ⟨[0,3],[]⟩ pF ?_;intro Z w1 n1 e g;unfold P9 at e;dsimp only at e|-;refine pW ?_;refine pL EJ ?_;refine pY e (fun e hc1=> ?_) (fun e hc1=> ?_)
  .refine qG (pT (pW (qY ?_)));obtain⟨hg1,e⟩:=pP e;refine pL EJ ?_ (hp:=by exact hg1);refine pL EJ ?_ (hp:=by exact⟨id,id,rI,id,rI,id,id,id,id,fun hG d=>CN hG d,rI⟩);refine pY e (fun e hc2=> ?_) (fun e hc2=> ?_)
   .refine pL EJ ?_;refine pV (r6 (qP (tM (tQ (r6 (qP ?_))))));cases e;cases g;dsimp only at f;cases f;exact oV []
   .refine qG (r5 (pT ?_));obtain⟨hg2,e⟩:=pP e;refine qJ EJ ?_ (hp:=by exact hg2);cases e;exact rT ⟨⟨[0,3],[]⟩,_,by rfl,g⟩
  .refine s8 (s7 (sA ?_));cases e;cases g;exact s9 ⟨⟨[0],[]⟩,_,rfl,by rfl⟩
 .rintro _ ⟨v,rfl,rfl⟩;dsimp only at f|-;refine sD (pT ?_);refine pL EJ ?_ (hp:=by exact⟨id,id,rI⟩);refine pV ?_;cases f;exact oV []
attribute [irreducible] II EI BU IJ
end
noncomputable section
def PA (O:oT):Int→Option (Int⊕(Unit⊕Bool)):=fun Z=>if (decide (Z<(O.length:Int)))=true then if 0≤Z∧Z<(O.length:Int) then if (((((!((decide ((97:Int)≤(rP O Z)))&&(decide ((rP O Z)≤(122:Int)))))&&(!((decide ((48:Int)≤(rP O Z)))&&(decide ((rP O Z)≤(57:Int))))))&&(!decide ((rP O Z)=(45:Int))))&&(!decide ((rP O Z)=(95:Int))))&&(!decide ((rP O Z)=(46:Int))))=true then some (.inr (.inr (false))) else if pO (Z+(1:Int)) then some (.inl (Z+(1:Int))) else none else none else some (.inr (.inl ()))
def G7 (O:oT):Option Bool:=if ((((decide ((O.length:Int)<(1:Int)))||(decide ((40:Int)<(O.length:Int))))==false)=true→0≤(0:Int)∧(0:Int)<(O.length:Int)) then if (((decide ((O.length:Int)<(1:Int)))||(decide ((40:Int)<(O.length:Int))))||(!((decide ((97:Int)≤(rP O (0:Int))))&&(decide ((rP O (0:Int))≤(122:Int))))))=true then some (false) else sR (rF (PA O) (1:Int)) fun _=>some (true) else none
section
variable (O:oT)
abbrev a4e:List pN:=[(.val .str O,none)]
abbrev a4f:List pM:=[]
@[go_sem] def a4g:pR:=⟨[((G7 O)).isSome=true],[(.val .bool (val (G7 O)),none)],[]⟩
def aEz:List pN→List pM→Option pR:=qU (V:=oT) (a4e) (fun x=>a4f) fun x=>a4g x
@[go_sem] def aPx:aEz (no_index (a4e O)) (no_index a4f)=some (a4g O):=qV (fun a0 b0 h1 h2=>by cases h1;cases h2;rfl) O
end
@[go_sem] abbrev a4h:Nat×qC:=(76,⟨[.v],aEz,[],[],none⟩)
def BV:qM Tryz.prog [rG] (qO [a1z,a1E]):=⟨⟨rJ,trivial⟩,pU aCY (pU aC1 qS),qQ⟩
def aEA:qE Tryz.prog a4h:=by
 refine qW BV Tryz.func76 (c:=_) rfl (N:=48) pE (ts:=[(2,none)]) rfl (fun _ _=>rfl) ?_;intro O hs hrow;dsimp only[a4e,a4f,a4g,qR,pX,qD,qI,qT,Nat.reduceAdd] at hs hrow|-;have hz:=hs;obtain⟨z0,d⟩:=aQF.1 hz
 try rw[r8 d]
 clear hz hs;unfold G7 at d;refine pL BV ?_;refine pW ?_;obtain⟨hg1,d⟩:=pP d;refine pL BV ?_ (hp:=by exact⟨id,id,rU,id,hg1,id,id,rU⟩);refine pY d (fun d hc1=> ?_) (fun d hc1=> ?_)
 .refine pL BV ?_;refine pV (qP ?_);cases d;exact oV []
 .refine qG (pT (pW ?_));refine pL BV ?_;refine qY ?_;obtain⟨y1,hy1,d⟩:=tN d;refine sE 0 (fun s=> ∃v,y1= .inl v∧s=(fun _=>⟨[],[],0,48,0⟩) v) ?_ ?_
  .refine sC hy1 (fun x=>⟨[(0,(.val .str O,none)),(3,(.val (.int .i64) x,none))],[],0,48,0⟩) ⟨[0,3],[]⟩ pF ?_;intro Z w1 n1 f g;unfold PA at f;dsimp only at f|-;refine pW ?_;refine pL BV ?_;refine pY f (fun f hc2=> ?_) (fun f hc2=> ?_)
   .refine qG (pT (pW (qY ?_)));obtain⟨hg2,f⟩:=pP f;refine pL BV ?_ (hp:=by exact hg2);refine pL BV ?_ (hp:=by exact⟨id,id,rI,id,rI,id,rI,id,rI⟩);refine pY f (fun f hc3=> ?_) (fun f hc3=> ?_)
    .refine pL BV ?_;refine pV (r6 (qP (tM (tQ (r6 (qP ?_))))));cases f;cases g;dsimp only at d;cases d;exact oV []
    .refine qG (r5 (pT ?_));obtain⟨hg3,f⟩:=pP f;refine qJ BV ?_ (hp:=by exact hg3);cases f;exact rT ⟨⟨[0,3],[]⟩,_,by rfl,g⟩
   .refine s8 (s7 (sA ?_));cases f;cases g;exact s9 ⟨⟨[],[]⟩,_,rfl,by rfl⟩
  .rintro _ ⟨v,rfl,rfl⟩;dsimp only at d|-;refine sD (pT ?_);refine pL BV ?_;refine pV ?_;cases d;exact oV []
def PB (O:qK):Option Bool:=if (decide (O.1=([105,100]:oT)))=true then some (((decide (O.2.1=([]:oT)))||(decide ((200:Int)<(O.2.1.length:Int))))) else if (decide (O.1=([115,116,97,116,101]:oT)))=true then (IC ([([110,101,119]:oT),([102,117,122,122,121]:oT),([116,114,97,110,115,108,97,116,101,100]:oT),([114,101,118,105,101,119,101,100]:oT),([111,98,115,111,108,101,116,101]:oT)]:oU) O.2.1).bind fun Z=>some ((!Z)) else (IF O.2.1).bind fun aA=>some ((!aA))
section
variable (O:qK)
abbrev a4i:List pN:=[(.val (.pair .str (.pair .str .unit)) O,none)]
abbrev a4j:List pM:=[]
@[go_sem] def a4k:pR:=⟨[((PB O)).isSome=true],[(.val .bool (val (PB O)),none)],[]⟩
def aEB:List pN→List pM→Option pR:=qU (V:=qK) (a4i) (fun x=>a4j) fun x=>a4k x
@[go_sem] def aPy:aEB (no_index (a4i O)) (no_index a4j)=some (a4k O):=qV (fun a0 b0 h1 h2=>by cases h1;cases h2;rfl) O
end
@[go_sem] abbrev aEC:Nat×qC:=(90,⟨[.v],aEB,[],[],none⟩)
def EK:qM Tryz.prog [rG,zB] (qO [P2,U1,U4]):=⟨⟨rJ,⟨AR,trivial⟩⟩,pU U3 (pU a1K (pU a3N qS)),qQ⟩
def aLH:qE Tryz.prog aEC:=by
 refine qW EK Tryz.func90 (c:=_) rfl (N:=33) pE (ts:=[(2,none)]) rfl (fun _ _=>rfl) ?_;intro O hs hrow;dsimp only[a4i,a4j,a4k,qR,pX,qD,qI,qT,Nat.reduceAdd] at hs hrow|-;have hz:=hs;obtain⟨z0,d⟩:=aQF.1 hz
 try rw[r8 d]
 clear hz hs;unfold PB at d;refine pL EK ?_;refine pW ?_;refine pL EK ?_;refine qY ?_;refine pL EK ?_;refine pY d (fun d hc1=> ?_) (fun d hc1=> ?_)
 .refine pL EK ?_ (hp:=by exact⟨id,id,id,rU⟩);refine pV (r6 (qP ?_));cases d;exact oV []
 .refine pL EK ?_;refine pY d (fun d hc2=> ?_) (fun d hc2=> ?_)
  .obtain⟨Z,hv1,hw1,d⟩:=q8 d
   try simp only[go_sem] at hw1
   refine tW EK ?_ (hp:=by exact(pZ hv1)) (h:=by simp only[go_sem,hw1];rfl);refine pV (r6 (qP ?_));cases d;exact oV []
  .refine qG (r5 (pT ?_));obtain⟨aA,hv2,hw2,d⟩:=q8 d
   try simp only[go_sem] at hw2
   refine pL EK ?_ (hp:=by exact(pZ hv2)) (h:=by simp only[go_sem,hw2];rfl);refine pL EK ?_;refine pV ?_;cases d;exact oV []
def IK (O:Int) (Z:Int) (aA:Bool):Option oT:=if (decide (O=(4:Int)))=true then (OQ Z).bind fun aB=>some (aB) else if (decide (Z=(10:Int)))=true then some (([92,110]:oT)) else if (decide (Z=(13:Int)))=true then some (([92,114]:oT)) else if (decide (Z=(9:Int)))=true then some (([92,116]:oT)) else sG (σ:=Bool) (if (decide (Z=(92:Int)))=true then some ((decide (Z=(92:Int)))) else if (((decide (O=(1:Int)))==true)=true→((EA Z ([61,58,35,33]:oT))).isSome=true) then if ((decide (O=(1:Int)))&&(val (EA Z ([61,58,35,33]:oT))))=true then some (((decide (O=(1:Int)))&&(val (EA Z ([61,58,35,33]:oT))))) else if (((decide (O=(1:Int)))&&aA)&&(decide (Z=(32:Int))))=true then some ((((decide (O=(1:Int)))&&aA)&&(decide (Z=(32:Int))))) else if ((!decide (O=(1:Int)))&&(decide (Z=(34:Int))))=true then some (((!decide (O=(1:Int)))&&(decide (Z=(34:Int))))) else if (((decide (O=(3:Int)))==true)=true→((EA Z ([123,125]:oT))).isSome=true) then some (((decide (O=(3:Int)))&&(val (EA Z ([123,125]:oT))))) else none else none ) fun aC=>if aC=true then if ((([92]:oT)++(sN ([Z]:p6))).length:Int)≤9223372036854775807 then some ((([92]:oT)++(sN ([Z]:p6)))) else none else if (((decide (Z<(32:Int)))||(decide (Z=(127:Int))))&&(decide (O=(3:Int))))=true then if False then if ((([92,117,48,48]:oT)++(CP (IntKind.wrap .i64 Z))).length:Int)≤9223372036854775807 then some ((([92,117,48,48]:oT)++(CP (IntKind.wrap .i64 Z)))) else none else none else if ((decide (Z<(32:Int)))||(decide (Z=(127:Int))))=true then if False then if ((([92,120]:oT)++(CP (IntKind.wrap .i64 Z))).length:Int)≤9223372036854775807 then some ((([92,120]:oT)++(CP (IntKind.wrap .i64 Z)))) else none else none else some ((sN ([Z]:p6)))
section
variable (O:Int) (Z:Int) (aA:Bool)
abbrev a4l:List pN:=[(.val (.int .i64) O,none),(.val (.int .u8) Z,none),(.val .bool aA,none)]
abbrev a4m:List pM:=[]
@[go_sem] def a4n:pR:=⟨[((IK O Z aA)).isSome=true],[(.val .str (val (IK O Z aA)),none)],[]⟩
def aED:List pN→List pM→Option pR:=qU (V:=(Int×Int×Bool)) (fun x=>a4l x.1 x.2.1 x.2.2) (fun x=>a4m) fun x=>a4n x.1 x.2.1 x.2.2
@[go_sem] def aPz:aED (no_index (a4l O Z aA)) (no_index a4m)=some (a4n O Z aA):=qV (fun⟨a0,a1,a2⟩ ⟨b0,b1,b2⟩ h1 h2=>by cases h1;cases h2;rfl) (O,Z,aA)
end
@[go_sem] abbrev aEE:Nat×qC:=(103,⟨[.v,.v,.v],aED,[],[],none⟩)
def vY:qM Tryz.prog [u7,y5,rG,xO] (qO [aDk,aDi,KK]):=⟨⟨uF,⟨zA,⟨rJ,⟨yN,trivial⟩⟩⟩⟩,pU aLk (pU aLj (pU ZJ qS)),qQ⟩
def aLI:qE Tryz.prog aEE:=by
 refine qW vY Tryz.func103 (c:=_) rfl (N:=84) pE (ts:=[(6,none)]) rfl (fun _ _=>rfl) ?_;intro⟨O,Z,aA⟩ hs hrow;dsimp only[a4l,a4m,a4n,qR,pX,qD,qI,qT,Nat.reduceAdd] at hs hrow|-;have hz:=hs;obtain⟨z0,d⟩:=aQF.1 hz
 try rw[r8 d]
 clear hz hs;unfold IK at d;refine pL vY ?_;refine pL vY ?_;refine pW (qY ?_);refine pL vY ?_;refine pY d (fun d hc1=> ?_) (fun d hc1=> ?_)
 .obtain⟨aB,hv1,hw1,d⟩:=q8 d
  try simp only[go_sem] at hw1
  refine pL vY ?_ (hp:=by exact(pZ hv1)) (h:=by simp only[go_sem,hw1];rfl);refine pV (r6 (qP ?_));cases d;exact oV []
 .refine pL vY ?_;refine pY d (fun d hc2=> ?_) (fun d hc2=> ?_)
  .refine pL vY ?_;refine pV (r6 (qP ?_));cases d;exact oV []
  .refine pL vY ?_;refine pY d (fun d hc3=> ?_) (fun d hc3=> ?_)
   .refine pL vY ?_;refine pV (r6 (qP ?_));cases d;exact oV []
   .refine pL vY ?_;refine pY d (fun d hc4=> ?_) (fun d hc4=> ?_)
    .refine pL vY ?_;refine pV (r6 (qP ?_));cases d;exact oV []
    .refine pW ?_;refine pL vY ?_;obtain⟨aC,f,d⟩:=r9 d;refine vF (fun s=>s=(fun x=>⟨[(0,(.val (.int .i64) O,none)),(1,(.val (.int .u8) Z,none)),(7,(.val .str (sN ([Z]:p6)),none)),(25,(.val .bool x,none))],[],0,84,0⟩) aC) ?_ ?_
     .refine pY f (fun f hc5=> ?_) (fun f hc5=> ?_)
      .refine qG ?_;cases f;exact sB ⟨⟨[0,1,7,25],[]⟩,by rfl⟩
      .obtain⟨hg2,f⟩:=pP f;refine pL vY ?_ (hp:=by exact⟨id,hg2,rI⟩);refine pY f (fun f hc6=> ?_) (fun f hc6=> ?_)
       .refine qG ?_;cases f;exact sB ⟨⟨[0,1,7,25],[]⟩,by rfl⟩
       .refine pL vY ?_ (hp:=by exact⟨rI,id,rI⟩);refine pY f (fun f hc7=> ?_) (fun f hc7=> ?_)
        .refine qG ?_;cases f;exact sB ⟨⟨[0,1,7,25],[]⟩,by rfl⟩
        .refine pL vY ?_ (hp:=by exact⟨id,rI⟩);refine pY f (fun f hc8=> ?_) (fun f hc8=> ?_)
         .refine qG ?_;cases f;exact sB ⟨⟨[0,1,7,25],[]⟩,by rfl⟩
         .obtain⟨hg3,f⟩:=pP f;refine qJ vY ?_ (hp:=by exact⟨id,hg3,rI⟩);cases f;exact sB ⟨⟨[0,1,7,25],[]⟩,by rfl⟩
     .rintro _ rfl;dsimp only at d|-;refine pT ?_;refine pY d (fun d hc9=> ?_) (fun d hc9=> ?_)
      .obtain⟨hg4,d⟩:=pP d;refine pL vY ?_ (hp:=by exact hg4);refine pV (r6 (qP ?_));cases d;exact oV []
      .refine pL vY ?_ (hp:=by exact⟨id,rU,id,rI⟩);refine pY d (fun d hc10=> ?_) (fun d hc10=> ?_)
       .obtain⟨hg5,d⟩:=pP d;obtain⟨hg6,d⟩:=pP d;refine pL vY ?_ (hp:=by exact⟨hg5,hg6⟩);refine pV (r6 (qP ?_));cases d;exact oV []
       .refine pL vY ?_ (hp:=by exact⟨id,rU⟩);refine pY d (fun d hc11=> ?_) (fun d hc11=> ?_)
        .obtain⟨hg7,d⟩:=pP d;obtain⟨hg8,d⟩:=pP d;refine pL vY ?_ (hp:=by exact⟨hg7,hg8⟩);refine pV (r6 (qP ?_));cases d;exact oV []
        .refine qG (r5 (pT ?_));refine pL vY ?_;refine pV ?_;cases d;exact oV []
def LA (O:p6):(oT×Int)→Option ((oT×Int)⊕oT):=fun(Z,aA)=>if (decide (aA<(O.length:Int)))=true then if 0≤aA∧aA<(O.length:Int) then if (((decide ((0:Int)≤(qB (.int .i64) O aA)))&&(decide ((qB (.int .i64) O aA)≤(1114111:Int))))&&((decide ((qB (.int .i64) O aA)<(55296:Int)))||(decide ((57343:Int)<(qB (.int .i64) O aA)))))=true then if 0≤aA∧aA<(O.length:Int) then (AU (qB (.int .i64) O aA)).bind fun aB=>if ((Z++aB).length:Int)≤9223372036854775807 then if pO (aA+(1:Int)) then some (.inl ((Z++aB),(aA+(1:Int)))) else none else none else none else (AU (65533:Int)).bind fun aC=>if ((Z++aC).length:Int)≤9223372036854775807 then if pO (aA+(1:Int)) then some (.inl ((Z++aC),(aA+(1:Int)))) else none else none else none else some (.inr Z)
def IL (O:p6):Option oT:=sG (rF (LA O) (([]:oT),(0:Int))) fun Z=>some (Z)
section
variable (O:p6)
abbrev a4o:List pN:=[(.val (.list (.int .i64)) O,none)]
abbrev a4p:List pM:=[]
@[go_sem] def a4q:pR:=⟨[((IL O)).isSome=true],[(.val .str (val (IL O)),none)],[]⟩
def aEF:List pN→List pM→Option pR:=qU (V:=p6) (a4o) (fun x=>a4p) fun x=>a4q x
@[go_sem] def aPA:aEF (no_index (a4o O)) (no_index a4p)=some (a4q O):=qV (fun a0 b0 h1 h2=>by cases h1;cases h2;rfl) O
end
@[go_sem] abbrev aEG:Nat×qC:=(106,⟨[.v],aEF,[],[],none⟩)
def BW:qM Tryz.prog [u7,CW] (qO [a2h,a2m]):=⟨⟨uF,⟨FV,trivial⟩⟩,pU aDn (pU aDp qS),qQ⟩
def aLJ:qE Tryz.prog aEG:=by
 refine qW BW Tryz.func106 (c:=_) rfl (N:=27) pE (ts:=[(2,none)]) rfl (fun _ _=>rfl) ?_;intro O hs hrow;dsimp only[a4o,a4p,a4q,qR,pX,qD,qI,qT,Nat.reduceAdd] at hs hrow|-;have hz:=hs;obtain⟨z0,d⟩:=aQF.1 hz
 try rw[r8 d]
 clear hz hs;unfold IL at d;refine pL BW ?_;refine pL BW ?_;refine pW ?_;refine pL BW ?_;refine qY ?_;obtain⟨Z,hy1,d⟩:=r9 d;refine sE 0 (fun s=>s=(fun x=>⟨[(3,(.val .str x,none))],[],0,27,0⟩) Z) ?_ ?_
 .refine sC hy1 (fun x=>⟨[(0,(.val (.list (.int .i64)) O,none)),(3,(.val .str x.1,none)),(4,(.val (.int .i64) x.2,none))],[],0,27,0⟩) ⟨[0,3,4],[]⟩ pF ?_;intro x1 w1 n1 f g;obtain⟨aA,aB⟩:=x1;unfold LA at f;dsimp only at f|-;refine pW ?_;refine pL BW ?_;refine pY f (fun f hc1=> ?_) (fun f hc1=> ?_)
  .refine qG (pT (pW (qY ?_)));obtain⟨hg1,f⟩:=pP f;refine pL BW ?_ (hp:=by exact hg1);refine pY f (fun f hc2=> ?_) (fun f hc2=> ?_)
   .obtain⟨hg2,f⟩:=pP f;obtain⟨aC,hv3,hw3,f⟩:=q8 f
    try simp only[go_sem] at hw3
    obtain⟨hg4,f⟩:=pP f;refine qJ BW ?_ (hp:=by exact⟨hg2,pZ hv3,hg4⟩) (h:=by simp only[go_sem,hw3];rfl);refine r5 (pT ?_);obtain⟨hg5,f⟩:=pP f;refine qJ BW ?_ (hp:=by exact hg5);cases f;exact rT ⟨⟨[0,3,4],[]⟩,_,by rfl,g⟩
   .obtain⟨aD,hv6,hw6,f⟩:=q8 f
    try simp only[go_sem] at hw6
    obtain⟨hg7,f⟩:=pP f;refine qJ BW ?_ (hp:=by exact⟨pZ hv6,hg7⟩) (h:=by simp only[go_sem,hw6];rfl);refine r5 (pT ?_);obtain⟨hg8,f⟩:=pP f;refine qJ BW ?_ (hp:=by exact hg8);cases f;exact rT ⟨⟨[0,3,4],[]⟩,_,by rfl,g⟩
  .refine s8 (s7 (sA ?_));cases f;cases g;exact s9 ⟨⟨[3],[]⟩,by rfl⟩
 .rintro _ rfl;dsimp only at d|-;refine sD (pT ?_);refine pL BW ?_;refine pV ?_;cases d;exact oV []
def EL (O:oT) (Z:oT):Option (oT×Bool):=(L2 O Z).bind fun aA=>some ((aA.1,aA.2))
section
variable (O:oT) (Z:oT)
abbrev a4r:List pN:=[(.val .str O,none),(.val .str Z,none)]
abbrev a4s:List pM:=[]
@[go_sem] def a4t:pR:=⟨[((EL O Z)).isSome=true],[(.val .str ((val (EL O Z)).1),none),(.val .bool ((val (EL O Z)).2),none)],[]⟩
def aEH:List pN→List pM→Option pR:=qU (V:=(oT×oT)) (fun x=>a4r x.1 x.2) (fun x=>a4s) fun x=>a4t x.1 x.2
@[go_sem] def aPB:aEH (no_index (a4r O Z)) (no_index a4s)=some (a4t O Z):=qV (fun⟨a0,a1⟩ ⟨b0,b1⟩ h1 h2=>by cases h1;cases h2;rfl) (O,Z)
end
@[go_sem] abbrev U8:Nat×qC:=(124,⟨[.v,.v],aEH,[],[],none⟩)
def a4u:qM Tryz.prog [] (qO [aDw]):=⟨trivial,pU aLn qS,qQ⟩
def a4v:qE Tryz.prog U8:=by
 refine qW a4u Tryz.func124 (c:=_) rfl (N:=11) pE (ts:=[(4,none),(5,none)]) rfl (fun _ _=>rfl) ?_;intro⟨O,Z⟩ hs hrow;dsimp only[a4r,a4s,a4t,qR,pX,qD,qI,qT,Nat.reduceAdd] at hs hrow|-;have hz:=hs;obtain⟨z0,d⟩:=aQF.1 hz
 try rw[r8 d]
 clear hz hs;unfold EL at d;refine pL a4u ?_;obtain⟨aA,hv1,hw1,d⟩:=q8 d
 try simp only[go_sem] at hw1
 refine pL a4u ?_ (hp:=by exact(pZ hv1)) (h:=by simp only[go_sem,hw1];rfl);refine pV ?_;cases d;exact oV []
attribute [irreducible] G7 PB IK IL EL
end
noncomputable section
def LB:(oT×p6)→Option ((oT×p6)⊕p6):=fun(O,Z)=>if (decide ((0:Int)<(O.length:Int)))=true then (G5 O).bind fun aA=>if (Z.length+([aA.1]:p6).length)*8≤140737488355328 then if 0≤aA.2∧aA.2≤(O.length:Int)∧(O.length:Int)≤(O.length:Int) then some (.inl ((s0 O aA.2 (O.length:Int)),(Z++([aA.1]:p6)))) else none else none else some (.inr Z)
def G8 (O:oT):Option p6:=sG (rF LB (O,([]:p6))) fun Z=>some (Z)
section
variable (O:oT)
abbrev a4w:List pN:=[(.val .str O,none)]
abbrev a4x:List pM:=[]
@[go_sem] def a4y:pR:=⟨[((G8 O)).isSome=true],[(.val (.list (.int .i64)) (val (G8 O)),some 0)],[.grow 3 1 ((val (G8 O)).length)]⟩
def aEI:List pN→List pM→Option pR:=qU (V:=oT) (a4w) (fun x=>a4x) fun x=>a4y x
@[go_sem] def aPC:aEI (no_index (a4w O)) (no_index a4x)=some (a4y O):=qV (fun a0 b0 h1 h2=>by cases h1;cases h2;rfl) O
end
@[go_sem] abbrev aEJ:Nat×qC:=(107,⟨[.v],aEI,[],[],none⟩)
def G9:qM Tryz.prog [rG,CW] (qO [aDr]):=⟨⟨rJ,⟨FV,trivial⟩⟩,pU aLl qS,qQ⟩
def aLK:qE Tryz.prog aEJ:=by
 refine qW G9 Tryz.func107 (c:=_) rfl (N:=22) pE (ts:=[(2,none)]) rfl (fun _ _=>rfl) ?_;intro O hs hrow;dsimp only[a4w,a4x,a4y,qR,pX,qD,qI,qT,Nat.reduceAdd] at hs hrow|-;have hz:=hs;obtain⟨z0,d⟩:=aQF.1 hz
 try rw[r8 d]
 clear hz hs;unfold G8 at d;refine pL G9 ?_;refine pL G9 ?_;refine pW (qY ?_);obtain⟨Z,hy1,d⟩:=r9 d;refine sE 0 (fun s=>s=(fun x=>⟨[(3,(.val (.list (.int .i64)) x,some 0))],[(0,.grow 3 1 (x.length))],1,22,0⟩) Z) ?_ ?_
 .refine sC hy1 (fun x=>⟨[(0,(.val .str x.1,none)),(3,(.val (.list (.int .i64)) x.2,some 0))],[(0,.grow 3 1 (x.2.length))],1,22,0⟩) ⟨[0,3],[(0,32)]⟩ pF ?_;intro x1 w1 n1 e g;obtain⟨aA,aB⟩:=x1;unfold LB at e;dsimp only at e|-;refine pW ?_;refine pL G9 ?_;refine pY e (fun e hc1=> ?_) (fun e hc1=> ?_)
  .refine qG (pT (qY ?_));obtain⟨aC,hv1,hw1,e⟩:=q8 e
   try simp only[go_sem] at hw1
   refine pL G9 ?_ (hp:=by exact(pZ hv1)) (h:=by simp only[go_sem,hw1];rfl);obtain⟨hg2,e⟩:=pP e;refine pL G9 ?_ (hp:=by exact⟨pD,hg2⟩)
   obtain⟨hg3,e⟩:=pP e;refine qJ G9 ?_ (hp:=by exact hg3);refine r5 ?_;cases e;exact rT ⟨⟨[0,3],[(0,0)]⟩,_,by rfl,g⟩
  .refine s8 (s7 (sA ?_));cases e;cases g;exact s9 ⟨⟨[3],[(0,0)]⟩,by rfl⟩
 .rintro _ rfl;dsimp only at d|-;refine sD (pT ?_);refine pL G9 ?_;refine pV ?_;cases d;exact oV [(0,0)]
def GA (O:Int):Option oT:=if (decide (O=(38:Int)))=true then some (([38,97,109,112,59]:oT)) else if (decide (O=(60:Int)))=true then some (([38,108,116,59]:oT)) else if (decide (O=(62:Int)))=true then some (([38,103,116,59]:oT)) else if (decide (O=(34:Int)))=true then some (([38,113,117,111,116,59]:oT)) else if ((decide (O<(32:Int)))||(decide (O=(127:Int))))=true then if-9223372036854775808≤(IntKind.wrap .i64 O)∧(IntKind.wrap .i64 O)≤9223372036854775807 then if ((([38,35]:oT)++(Lib.itoa (IntKind.wrap .i64 O))).length:Int)≤9223372036854775807 then if (((([38,35]:oT)++(Lib.itoa (IntKind.wrap .i64 O)))++([59]:oT)).length:Int)≤9223372036854775807 then some (((([38,35]:oT)++(Lib.itoa (IntKind.wrap .i64 O)))++([59]:oT))) else none else none else none else some ((sN ([O]:p6)))
section
variable (O:Int)
abbrev a4z:List pN:=[(.val (.int .u8) O,none)]
abbrev a4A:List pM:=[]
@[go_sem] def a4B:pR:=⟨[((GA O)).isSome=true],[(.val .str (val (GA O)),none)],[]⟩
def aEK:List pN→List pM→Option pR:=qU (V:=Int) (a4z) (fun x=>a4A) fun x=>a4B x
@[go_sem] def aPD:aEK (no_index (a4z O)) (no_index a4A)=some (a4B O):=qV (fun a0 b0 h1 h2=>by cases h1;cases h2;rfl) O
end
@[go_sem] abbrev aEL:Nat×qC:=(140,⟨[.v],aEK,[],[],none⟩)
def zD:qM Tryz.prog [u7,y5,rG,xO] (qO [a2A,KH]):=⟨⟨uF,⟨zA,⟨rJ,⟨yN,trivial⟩⟩⟩⟩,pU aDz (pU ZG qS),qQ⟩
def aLL:qE Tryz.prog aEL:=by
 refine qW zD Tryz.func140 (c:=_) rfl (N:=22) pE (ts:=[(2,none)]) rfl (fun _ _=>rfl) ?_;intro O hs hrow;dsimp only[a4z,a4A,a4B,qR,pX,qD,qI,qT,Nat.reduceAdd] at hs hrow|-;have hz:=hs;obtain⟨z0,d⟩:=aQF.1 hz
 try rw[r8 d]
 clear hz hs;unfold GA at d;refine pL zD ?_;refine pW ?_;refine pL zD ?_;refine qY ?_;refine pL zD ?_;refine pY d (fun d hc1=> ?_) (fun d hc1=> ?_)
 .refine pL zD ?_;refine pV (r6 (qP ?_));cases d;exact oV []
 .refine pL zD ?_;refine pY d (fun d hc2=> ?_) (fun d hc2=> ?_)
  .refine pL zD ?_;refine pV (r6 (qP ?_));cases d;exact oV []
  .refine pL zD ?_;refine pY d (fun d hc3=> ?_) (fun d hc3=> ?_)
   .refine pL zD ?_;refine pV (r6 (qP ?_));cases d;exact oV []
   .refine pL zD ?_;refine pY d (fun d hc4=> ?_) (fun d hc4=> ?_)
    .refine pL zD ?_;refine pV (r6 (qP ?_));cases d;exact oV []
    .refine qG (r5 (pT (pW ?_)));refine pL zD ?_;refine pY d (fun d hc5=> ?_) (fun d hc5=> ?_)
     .obtain⟨hg1,d⟩:=pP d;obtain⟨hg2,d⟩:=pP d;obtain⟨hg3,d⟩:=pP d;refine pL zD ?_ (hp:=by exact⟨hg1,hg2,hg3⟩);refine pV (qP ?_);cases d;exact oV []
     .refine qG (pT ?_);refine pL zD ?_;refine pV ?_;cases d;exact oV []
def PC (O:Int) (Z:Int) (aA:Bool):Option oT:=sG (σ:=oT) (if (decide (O=(1:Int)))=true then some (([61,58,35,33]:oT)) else if (decide (O=(2:Int)))=true then some (([34]:oT)) else if (decide (O=(3:Int)))=true then some (([34,123,125]:oT)) else some (([]:oT)) ) fun aB=>if (decide (Z=(92:Int)))=true then some (([92,92]:oT)) else if (decide (Z=(10:Int)))=true then some (([92,110]:oT)) else if (decide (Z=(13:Int)))=true then some (([92,114]:oT)) else if (decide (Z=(9:Int)))=true then some (([92,116]:oT)) else sG (σ:=Bool) (if (decide ((0:Int)≤(u6 aB Z)))=true then some ((decide ((0:Int)≤(u6 aB Z)))) else some ((((decide (O=(1:Int)))&&aA)&&(decide (Z=(32:Int))))) ) fun aC=>if aC=true then if ((([92]:oT)++(sN ([Z]:p6))).length:Int)≤9223372036854775807 then some ((([92]:oT)++(sN ([Z]:p6)))) else none else if (((decide (Z<(32:Int)))||(decide (Z=(127:Int))))&&(decide (O=(3:Int))))=true then if False then if ((([92,117]:oT)++(O6 Z (4:Int))).length:Int)≤9223372036854775807 then some ((([92,117]:oT)++(O6 Z (4:Int)))) else none else none else if ((decide (Z<(32:Int)))||(decide (Z=(127:Int))))=true then if False then if ((([92,120]:oT)++(O6 Z (2:Int))).length:Int)≤9223372036854775807 then some ((([92,120]:oT)++(O6 Z (2:Int)))) else none else none else some ((sN ([Z]:p6)))
section
variable (O:Int) (Z:Int) (aA:Bool)
abbrev a4C:List pN:=[(.val (.int .i64) O,none),(.val (.int .u8) Z,none),(.val .bool aA,none)]
abbrev a4D:List pM:=[]
@[go_sem] def a4E:pR:=⟨[((PC O Z aA)).isSome=true],[(.val .str (val (PC O Z aA)),none)],[]⟩
def aEM:List pN→List pM→Option pR:=qU (V:=(Int×Int×Bool)) (fun x=>a4C x.1 x.2.1 x.2.2) (fun x=>a4D) fun x=>a4E x.1 x.2.1 x.2.2
@[go_sem] def aPE:aEM (no_index (a4C O Z aA)) (no_index a4D)=some (a4E O Z aA):=qV (fun⟨a0,a1,a2⟩ ⟨b0,b1,b2⟩ h1 h2=>by cases h1;cases h2;rfl) (O,Z,aA)
end
@[go_sem] abbrev aEN:Nat×qC:=(141,⟨[.v,.v,.v],aEM,[],[],none⟩)
def uW:qM Tryz.prog [y5,rG,xO] (qO [CR,a2A,KJ]):=⟨⟨zA,⟨rJ,⟨yN,trivial⟩⟩⟩,pU HX (pU aDz (pU ZI qS)),qQ⟩
def aLM:qE Tryz.prog aEN:=by
 refine qW uW Tryz.func141 (c:=_) rfl (N:=64) pE (ts:=[(6,none)]) rfl (fun _ _=>rfl) ?_;intro⟨O,Z,aA⟩ hs hrow;dsimp only[a4C,a4D,a4E,qR,pX,qD,qI,qT,Nat.reduceAdd] at hs hrow|-;have hz:=hs;obtain⟨z0,d⟩:=aQF.1 hz
 try rw[r8 d]
 clear hz hs;unfold PC at d;refine pL uW ?_;refine pL uW ?_;refine pW ?_;refine pL uW ?_;obtain⟨aB,e,d⟩:=r9 d;refine vF (fun s=>s=(fun x=>⟨[(0,(.val (.int .i64) O,none)),(1,(.val (.int .u8) Z,none)),(2,(.val .bool aA,none)),(7,(.val .str x,none))],[],0,64,0⟩) aB) ?_ ?_
 .refine qY ?_;refine pL uW ?_;refine pY e (fun e hc1=> ?_) (fun e hc1=> ?_)
  .refine qJ uW ?_;refine r5 ?_;cases e;exact sB ⟨⟨[0,1,2,7],[]⟩,by rfl⟩
  .refine pL uW ?_;refine pY e (fun e hc2=> ?_) (fun e hc2=> ?_)
   .refine qJ uW ?_;refine r5 ?_;cases e;exact sB ⟨⟨[0,1,2,7],[]⟩,by rfl⟩
   .refine pL uW ?_;refine pY e (fun e hc3=> ?_) (fun e hc3=> ?_)
    .refine qJ uW ?_;refine r5 ?_;cases e;exact sB ⟨⟨[0,1,2,7],[]⟩,by rfl⟩
    .refine qG (r5 ?_);cases e;exact sB ⟨⟨[0,1,2,7],[]⟩,by rfl⟩
 .rintro _ rfl;dsimp only at d|-;refine pT (pW (qY ?_));refine pL uW ?_;refine pY d (fun d hc4=> ?_) (fun d hc4=> ?_)
  .refine pL uW ?_;refine pV (r6 (qP ?_));cases d;exact oV []
  .refine pL uW ?_;refine pY d (fun d hc5=> ?_) (fun d hc5=> ?_)
   .refine pL uW ?_;refine pV (r6 (qP ?_));cases d;exact oV []
   .refine pL uW ?_;refine pY d (fun d hc6=> ?_) (fun d hc6=> ?_)
    .refine pL uW ?_;refine pV (r6 (qP ?_));cases d;exact oV []
    .refine pL uW ?_;refine pY d (fun d hc7=> ?_) (fun d hc7=> ?_)
     .refine pL uW ?_;refine pV (r6 (qP ?_));cases d;exact oV []
     .refine pW ?_;refine pL uW ?_;obtain⟨aC,e,d⟩:=r9 d;refine vF (fun s=>s=(fun x=>⟨[(0,(.val (.int .i64) O,none)),(1,(.val (.int .u8) Z,none)),(27,(.val .bool x,none))],[],0,64,0⟩) aC) ?_ ?_
      .refine pY e (fun e hc8=> ?_) (fun e hc8=> ?_)
       .refine qG ?_;cases e;exact sB ⟨⟨[0,1,27],[]⟩,by rfl⟩
       .refine qJ uW ?_ (hp:=by exact⟨rI,id,rI⟩);cases e;exact sB ⟨⟨[0,1,27],[]⟩,by rfl⟩
      .rintro _ rfl;dsimp only at d|-;refine pT ?_;refine pY d (fun d hc9=> ?_) (fun d hc9=> ?_)
       .obtain⟨hg1,d⟩:=pP d;refine pL uW ?_ (hp:=by exact hg1);refine pV (r6 (qP ?_));cases d;exact oV []
       .refine pL uW ?_ (hp:=by exact⟨id,rI⟩);refine pY d (fun d hc10=> ?_) (fun d hc10=> ?_)
        .obtain⟨hg2,d⟩:=pP d;obtain⟨hg3,d⟩:=pP d;refine pL uW ?_ (hp:=by exact⟨hg2,hg3⟩);refine pV (r6 (qP ?_));cases d;exact oV []
        .refine pL uW ?_;refine pY d (fun d hc11=> ?_) (fun d hc11=> ?_)
         .obtain⟨hg4,d⟩:=pP d;obtain⟨hg5,d⟩:=pP d;refine pL uW ?_ (hp:=by exact⟨hg4,hg5⟩);refine pV (r6 (qP ?_));cases d;exact oV []
         .refine qG (r5 (pT ?_));refine pL uW ?_;refine pV ?_;cases d;exact oV []
def LC (O:(List qK)) (Z:oT):Option Int:=(OV O Z).bind fun aA=>some (aA)
section
variable (O:(List qK)) (Z:oT)
abbrev a4F:List pN:=[(.val (.list (.pair .str (.pair .str .unit))) O,none),(.val .str Z,none)]
abbrev a4G:List pM:=[]
@[go_sem] def a4H:pR:=⟨[((LC O Z)).isSome=true],[(.val (.int .i64) (val (LC O Z)),none)],[]⟩
def aEO:List pN→List pM→Option pR:=qU (V:=((List qK)×oT)) (fun x=>a4F x.1 x.2) (fun x=>a4G) fun x=>a4H x.1 x.2
@[go_sem] def aPF:aEO (no_index (a4F O Z)) (no_index a4G)=some (a4H O Z):=qV (fun⟨a0,a1⟩ ⟨b0,b1⟩ h1 h2=>by cases h1;cases h2;rfl) (O,Z)
end
@[go_sem] abbrev a4I:Nat×qC:=(155,⟨[.v,.v],aEO,[],[],none⟩)
def a4J:qM Tryz.prog [rG] (qO [aDV]):=⟨⟨rJ,trivial⟩,pU aLv qS,qQ⟩
def aEP:qE Tryz.prog a4I:=by
 refine qW a4J Tryz.func155 (c:=_) rfl (N:=8) pE (ts:=[(4,none)]) rfl (fun _ _=>rfl) ?_;intro⟨O,Z⟩ hs hrow;dsimp only[a4F,a4G,a4H,qR,pX,qD,qI,qT,Nat.reduceAdd] at hs hrow|-;have hz:=hs;obtain⟨z0,d⟩:=aQF.1 hz
 try rw[r8 d]
 clear hz hs;unfold LC at d;refine pL a4J ?_;obtain⟨aA,hv1,hw1,d⟩:=q8 d
 try simp only[go_sem] at hw1
 refine pL a4J ?_ (hp:=by exact⟨pD,(pZ hv1)⟩) (h:=by simp only[go_sem,hw1];rfl)
 refine pV ?_;cases d;exact oV []
def LD (O:oT) (Z:oT):Option (oT×Bool):=(U2 O Z).bind fun aA=>if (!((decide ((Z.length:Int)≤(O.length:Int)))&&(decide ((s0 O ((O.length:Int)- (Z.length:Int)) (O.length:Int))=Z))))=true then some ((O,false)) else if pO ((O.length:Int)- (Z.length:Int)) then if 0≤(0:Int)∧(0:Int)≤((O.length:Int)- (Z.length:Int))∧((O.length:Int)- (Z.length:Int))≤(O.length:Int) then some (((s0 O (0:Int) ((O.length:Int)- (Z.length:Int))),true)) else none else none
section
variable (O:oT) (Z:oT)
abbrev a4K:List pN:=[(.val .str O,none),(.val .str Z,none)]
abbrev a4L:List pM:=[]
@[go_sem] def a4M:pR:=⟨[((LD O Z)).isSome=true],[(.val .str ((val (LD O Z)).1),none),(.val .bool ((val (LD O Z)).2),none)],[]⟩
def aEQ:List pN→List pM→Option pR:=qU (V:=(oT×oT)) (fun x=>a4K x.1 x.2) (fun x=>a4L) fun x=>a4M x.1 x.2
@[go_sem] def aPG:aEQ (no_index (a4K O Z)) (no_index a4L)=some (a4M O Z):=qV (fun⟨a0,a1⟩ ⟨b0,b1⟩ h1 h2=>by cases h1;cases h2;rfl) (O,Z)
end
@[go_sem] abbrev aER:Nat×qC:=(165,⟨[.v,.v],aEQ,[],[],none⟩)
def PD:qM Tryz.prog [rG] (qO [aDE]):=⟨⟨rJ,trivial⟩,pU aLp qS,qQ⟩
def aLN:qE Tryz.prog aER:=by
 refine qW PD Tryz.func165 (c:=_) rfl (N:=18) pE (ts:=[(4,none),(5,none)]) rfl (fun _ _=>rfl) ?_;intro⟨O,Z⟩ hs hrow;dsimp only[a4K,a4L,a4M,qR,pX,qD,qI,qT,Nat.reduceAdd] at hs hrow|-;have hz:=hs;obtain⟨z0,d⟩:=aQF.1 hz
 try rw[r8 d]
 clear hz hs;unfold LD at d;refine pL PD ?_;refine pW ?_;obtain⟨aA,hv1,hw1,d⟩:=q8 d
 try simp only[go_sem] at hw1
 refine pL PD ?_ (hp:=by exact(pZ hv1)) (h:=by simp only[go_sem,hw1];rfl);refine pY d (fun d hc1=> ?_) (fun d hc1=> ?_)
 .refine pL PD ?_;refine pV (qP ?_);cases d;exact oV []
 .refine qG (pT ?_);obtain⟨hg2,d⟩:=pP d;obtain⟨hg3,d⟩:=pP d;refine pL PD ?_ (hp:=by exact⟨hg2,hg3⟩);refine pV ?_;cases d;exact oV []
def IM (O:oT) (Z:oT):Option (oT×oT×Bool):=(ID O Z).bind fun aA=>some ((aA.1,aA.2.1,aA.2.2))
section
variable (O:oT) (Z:oT)
abbrev a4N:List pN:=[(.val .str O,none),(.val .str Z,none)]
abbrev a4O:List pM:=[]
@[go_sem] def a4P:pR:=⟨[((IM O Z)).isSome=true],[(.val .str ((val (IM O Z)).1),none),(.val .str ((val (IM O Z)).2.1),none),(.val .bool ((val (IM O Z)).2.2),none)],[]⟩
def aES:List pN→List pM→Option pR:=qU (V:=(oT×oT)) (fun x=>a4N x.1 x.2) (fun x=>a4O) fun x=>a4P x.1 x.2
@[go_sem] def aPH:aES (no_index (a4N O Z)) (no_index a4O)=some (a4P O Z):=qV (fun⟨a0,a1⟩ ⟨b0,b1⟩ h1 h2=>by cases h1;cases h2;rfl) (O,Z)
end
@[go_sem] abbrev aET:Nat×qC:=(166,⟨[.v,.v],aES,[],[],none⟩)
def a4Q:qM Tryz.prog [] (qO [aDG]):=⟨trivial,pU aLq qS,qQ⟩
def aLO:qE Tryz.prog aET:=by
 refine qW a4Q Tryz.func166 (c:=_) rfl (N:=13) pE (ts:=[(4,none),(5,none),(6,none)]) rfl (fun _ _=>rfl) ?_;intro⟨O,Z⟩ hs hrow;dsimp only[a4N,a4O,a4P,qR,pX,qD,qI,qT,Nat.reduceAdd] at hs hrow|-;have hz:=hs;obtain⟨z0,d⟩:=aQF.1 hz
 try rw[r8 d]
 clear hz hs;unfold IM at d;refine pL a4Q ?_;obtain⟨aA,hv1,hw1,d⟩:=q8 d
 try simp only[go_sem] at hw1
 refine pL a4Q ?_ (hp:=by exact(pZ hv1)) (h:=by simp only[go_sem,hw1];rfl);refine pV ?_;cases d;exact oV []
attribute [irreducible] G8 GA PC LC LD IM
end
noncomputable section
def LE (O:p6) (Z:Int):Option p6:=if (decide ((IntKind.wrap .u32 Z)≤(127:Int)))=true then if (O.length+([(IntKind.wrap .u8 Z)]:p6).length)*1≤140737488355328 then some ((O++([(IntKind.wrap .u8 Z)]:p6))) else none else (L4 O Z).bind fun aA=>some (aA)
section
variable (O:p6) (Z:Int) (aA:Nat)
abbrev a4R:List pN:=[(.val (.list (.int .u8)) O,some 0),(.val (.int .i32) Z,none)]
abbrev a4S:List pM:=[.grow 5 1 aA]
@[go_sem] def a4T:pR:=⟨[aA=(O.length),((LE O Z)).isSome=true],[(.val (.list (.int .u8)) (val (LE O Z)),some 0)],[.grow 5 1 ((val (LE O Z)).length)]⟩
def aEU:List pN→List pM→Option pR:=qU (V:=(p6×Int×Nat)) (fun x=>a4R x.1 x.2.1) (fun x=>a4S x.2.2) fun x=>a4T x.1 x.2.1 x.2.2
@[go_sem] def aPI:aEU (no_index (a4R O Z)) (no_index (a4S aA))=some (a4T O Z aA):=qV (fun⟨a0,a1,a2⟩ ⟨b0,b1,b2⟩ h1 h2=>by cases h1;cases h2;rfl) (O,Z,aA)
end
@[go_sem] abbrev aEV:Nat×qC:=(244,⟨[.own,.v],aEU,[],[],none⟩)
def PE:qM Tryz.prog [y5,OE,xO,TU] (qO [aDP]):=⟨⟨zA,⟨a0n,⟨yN,⟨aCj,trivial⟩⟩⟩⟩,pU aLu qS,qQ⟩
def aLP:qE Tryz.prog aEV:=by
 refine qW PE Tryz.func244 (c:=_) rfl (N:=16) pE (ts:=[(4,none)]) rfl (fun _ _=>rfl) ?_;intro⟨O,Z,aA⟩ hs hrow;dsimp only[a4R,a4S,a4T,qR,pX,qD,qI,qT,Nat.reduceAdd] at hs hrow|-;obtain⟨rfl,hz⟩:=hs;obtain⟨z0,d⟩:=aQF.1 hz
 try rw[r8 d]
 clear hz;unfold LE at d;refine pL PE ?_;refine pW ?_;refine pL PE ?_;refine pY d (fun d hc1=> ?_) (fun d hc1=> ?_)
 .obtain⟨hg1,d⟩:=pP d;refine pL PE ?_ (hp:=by exact⟨pD,hg1⟩)
  refine pV (qP ?_);cases d;exact oV [(0,0)]
 .refine qG (pT ?_);obtain⟨aB,hv2,hw2,d⟩:=q8 d
  try simp only[go_sem] at hw2
  refine pL PE ?_ (hp:=by exact⟨pD,(pZ hv2)⟩) (h:=by simp only[go_sem,hw2];rfl)
  refine pV ?_;cases d;exact oV [(0,0)]
def IN (O:(List qK)) (Z:oT) (aA:oT):Option (List qK):=(IE O).bind fun aB=>(LC aB Z).bind fun aC=>if (decide ((0:Int)≤aC))=true then if 0≤aC∧aC<(((aB.length):Nat):Int) then some ((List.set aB (Int.toNat aC) ((qB (.pair .str (.pair .str .unit)) aB aC).1,(aA,(qB (.pair .str (.pair .str .unit)) aB aC).2.2)))) else none else (OW aB Z).bind fun aD=>if (decide (aD<(0:Int)))=true then if 0≤(((aB.length):Nat):Int)∧(((aB.length):Nat):Int)≤List.length aB then if (aB.length+([(Z,(aA,()))]:List qK).length)*32≤140737488355328 then some ((AO aB (((aB.length):Nat):Int) ([(Z,(aA,()))]:List qK))) else none else none else if 0≤aD∧aD≤List.length aB then if (aB.length+([(Z,(aA,()))]:List qK).length)*32≤140737488355328 then some ((AO aB aD ([(Z,(aA,()))]:List qK))) else none else none
section
variable (O:(List qK)) (Z:oT) (aA:oT)
abbrev a4U:List pN:=[(.val (.list (.pair .str (.pair .str .unit))) O,none),(.val .str Z,none),(.val .str aA,none)]
abbrev a4V:List pM:=[]
@[go_sem] def a4W:pR:=⟨[((IN O Z aA)).isSome=true],[(.val (.list (.pair .str (.pair .str .unit))) (val (IN O Z aA)),some 0)],[.grow 111 2 ((val (IN O Z aA)).length)]⟩
def aEW:List pN→List pM→Option pR:=qU (V:=((List qK)×oT×oT)) (fun x=>a4U x.1 x.2.1 x.2.2) (fun x=>a4V) fun x=>a4W x.1 x.2.1 x.2.2
@[go_sem] def aPJ:aEW (no_index (a4U O Z aA)) (no_index a4V)=some (a4W O Z aA):=qV (fun⟨a0,a1,a2⟩ ⟨b0,b1,b2⟩ h1 h2=>by cases h1;cases h2;rfl) (O,Z,aA)
end
@[go_sem] abbrev a4X:Nat×qC:=(116,⟨[.v,.v,.v],aEW,[],[],none⟩)
def AW:qM Tryz.prog [rG,TV,A2] (qO [aD0,a4I,aDY,KO]):=⟨⟨rJ,⟨aCk,⟨BM,trivial⟩⟩⟩,pU aLx (pU aEP (pU aLw (pU ZM qS))),qQ⟩
def aEX:qE Tryz.prog a4X:=by
 refine qW AW Tryz.func116 (c:=_) rfl (N:=37) pE (ts:=[(6,none)]) rfl (fun _ _=>rfl) ?_;intro⟨O,Z,aA⟩ hs hrow;dsimp only[a4U,a4V,a4W,qR,pX,qD,qI,qT,Nat.reduceAdd] at hs hrow|-;have hz:=hs;obtain⟨z0,d⟩:=aQF.1 hz
 try rw[r8 d]
 clear hz hs;unfold IN at d;refine pL AW ?_;obtain⟨aB,hv1,hw1,d⟩:=q8 d
 try simp only[go_sem] at hw1
 refine pL AW ?_ (hp:=by exact(pZ hv1)) (h:=by simp only[go_sem,hw1];rfl);refine pW ?_;obtain⟨aC,hv2,hw2,d⟩:=q8 d
 try simp only[go_sem] at hw2
 refine pL AW ?_ (hp:=by exact⟨fun _=>by first|exact rfl|exact trivial,(pZ hv2)⟩) (h:=by simp only[go_sem,hw2];rfl)
 refine pL AW ?_;refine pY d (fun d hc1=> ?_) (fun d hc1=> ?_)
 .obtain⟨hg3,d⟩:=pP d;refine pL AW ?_ (hp:=by exact⟨hg3,pD⟩)
  refine pL AW ?_;refine NO 96 rfl (by repeat' (first|exact trivial|apply And.intro|exact(fun _=>rfl) |exact(fun h=>absurd h oX))) ?_
  refine pV (qP ?_);cases d;exact oV [(0,96)]
 .refine qG (pT ?_);obtain⟨aD,hv4,hw4,d⟩:=q8 d
  try simp only[go_sem] at hw4
  refine pL AW ?_ (hp:=by exact⟨pD,fun _=>by first|exact rfl|exact trivial,(pZ hv4)⟩) (h:=by simp only[go_sem,hw4];rfl)
  refine pW ?_;refine pL AW ?_;refine pY d (fun d hc2=> ?_) (fun d hc2=> ?_)
  .refine qJ AW ?_;refine pT ?_;obtain⟨hg5,d⟩:=pP d;obtain⟨hg6,d⟩:=pP d;refine pL AW ?_ (hp:=by exact⟨pD,hg5,hg6⟩)
   refine aBv ⟨[0,1,2,4,6,10,13,14,8,15,16,24,25,9,26,27,29,31,32,33,34,35,36],[(0,0),(32,32),(96,96),(800,800)]⟩ ?_;simp only[go_sem,Nat.max_def];refine NO 96 rfl (by repeat' (first|exact trivial|apply And.intro|exact(fun _=>rfl) |exact(fun h=>absurd h oX))) ?_
   refine pV ?_;cases d;exact oV [(0,96)]
  .refine qG (pT ?_);obtain⟨hg7,d⟩:=pP d;obtain⟨hg8,d⟩:=pP d;refine pL AW ?_ (hp:=by exact⟨pD,hg7,hg8⟩)
   refine aBv ⟨[0,1,2,4,6,10,13,14,8,15,16,24,25,9,26,27,31,32,33,34,35,36],[(0,0),(32,32),(96,96),(704,704)]⟩ ?_;simp only[go_sem,Nat.max_def];refine NO 96 rfl (by repeat' (first|exact trivial|apply And.intro|exact(fun _=>rfl) |exact(fun h=>absurd h oX))) ?_
   refine pV ?_;cases d;exact oV [(0,96)]
def aEY (O:(List qK)):Int→Option (Int⊕(Unit⊕Int)):=fun Z=>if (decide (Z<(O.length:Int)))=true then if 0≤Z∧Z<(O.length:Int) then (PB (qB (.pair .str (.pair .str .unit)) O Z)).bind fun aA=>if aA=true then some (.inr (.inr (Z))) else if pO (Z+(1:Int)) then some (.inl (Z+(1:Int))) else none else none else some (.inr (.inl ()))
def PF (O:(List qK)):Option Int:=sR (rF (aEY O) (0:Int)) fun _=>some ((-1:Int))
section
variable (O:(List qK))
abbrev a4Y:List pN:=[(.val (.list (.pair .str (.pair .str .unit))) O,none),(.val .clo (some (90,[])),none)]
abbrev a4Z:List pM:=[]
@[go_sem] def a41:pR:=⟨[((PF O)).isSome=true],[(.val (.int .i64) (val (PF O)),none)],[]⟩
def aEZ:List pN→List pM→Option pR:=qU (V:=(List qK)) (a4Y) (fun x=>a4Z) fun x=>a41 x
@[go_sem] def aPK:aEZ (no_index (a4Y O)) (no_index a4Z)=some (a41 O):=qV (fun a0 b0 h1 h2=>by cases h1;cases h2;rfl) O
end
@[go_sem] abbrev aE0:Nat×qC:=(136,⟨[.v,.v],aEZ,[],[],none⟩)
def EM:qM Tryz.prog [A4,zB] (qO [aEC]):=⟨⟨BO,⟨AR,trivial⟩⟩,pU aLH qS,qQ⟩
def aLQ:qE Tryz.prog aE0:=by
 refine qW EM Tryz.func136 (c:=_) rfl (N:=19) pE (ts:=[(4,none)]) rfl (fun _ _=>rfl) ?_;intro O hs hrow;dsimp only[a4Y,a4Z,a41,qR,pX,qD,qI,qT,Nat.reduceAdd] at hs hrow|-;have hz:=hs;obtain⟨z0,d⟩:=aQF.1 hz
 try rw[r8 d]
 clear hz hs;unfold PF at d;refine pL EM ?_;refine pW ?_;refine pL EM ?_;refine qY ?_;obtain⟨y1,hy1,d⟩:=tN d;refine sE 0 (fun s=> ∃v,y1= .inl v∧s=(fun _=>⟨[],[],0,19,0⟩) v) ?_ ?_
 .refine sC hy1 (fun x=>⟨[(0,(.val (.list (.pair .str (.pair .str .unit))) O,none)),(1,(.val .clo (some (90,[])),none)),(7,(.val (.int .i64) (O.length:Int),none)),(8,(.val (.int .i64) x,none))],[],0,19,0⟩) ⟨[0,1,7,8],[]⟩ pF ?_;intro Z w1 n1 e g;unfold aEY at e;dsimp only at e|-;refine pL EM ?_;refine pW ?_;refine pY e (fun e hc1=> ?_) (fun e hc1=> ?_)
  .refine qG (pT (pW (qY ?_)));refine pL EM ?_;obtain⟨hg1,e⟩:=pP e;obtain⟨aA,hv2,hw2,e⟩:=q8 e
   try simp only[go_sem] at hw2
   refine pL EM ?_ (hp:=by exact⟨hg1,(pZ hv2)⟩) (h:=by simp only[go_sem,hw2];rfl);refine pY e (fun e hc2=> ?_) (fun e hc2=> ?_)
   .refine pL EM ?_;refine pV (r6 (qP (tM (tQ (r6 (qP ?_))))));cases e;cases g;dsimp only at d;cases d;exact oV []
   .refine qG (r5 (pT ?_));obtain⟨hg3,e⟩:=pP e;refine qJ EM ?_ (hp:=by exact hg3);cases e;exact rT ⟨⟨[0,1,7,8],[]⟩,_,by rfl,g⟩
  .refine s8 (s7 (sA ?_));cases e;cases g;exact s9 ⟨⟨[],[]⟩,_,rfl,by rfl⟩
 .rintro _ ⟨v,rfl,rfl⟩;dsimp only at d|-;refine sD (pT ?_);refine pL EM ?_;refine pV ?_;cases d;exact oV []
def D1 (O:(List qK)):Option Bool:=(PF O).bind fun Z=>some ((decide ((0:Int)≤Z)))
section
variable (O:(List qK))
abbrev a42:List pN:=[(.val (.list (.pair .str (.pair .str .unit))) O,none),(.val .clo (some (90,[])),none)]
abbrev a43:List pM:=[]
@[go_sem] def a44:pR:=⟨[((D1 O)).isSome=true],[(.val .bool (val (D1 O)),none)],[]⟩
def aE1:List pN→List pM→Option pR:=qU (V:=(List qK)) (a42) (fun x=>a43) fun x=>a44 x
@[go_sem] def aPL:aE1 (no_index (a42 O)) (no_index a43)=some (a44 O):=qV (fun a0 b0 h1 h2=>by cases h1;cases h2;rfl) O
end
@[go_sem] abbrev a45:Nat×qC:=(89,⟨[.v,.v],aE1,[],[],none⟩)
def a47:qM Tryz.prog [] (qO [aE0]):=⟨trivial,pU aLQ qS,qQ⟩
def aE2:qE Tryz.prog a45:=by
 refine qW a47 Tryz.func89 (c:=_) rfl (N:=9) pE (ts:=[(4,none)]) rfl (fun _ _=>rfl) ?_;intro O hs hrow;dsimp only[a42,a43,a44,qR,pX,qD,qI,qT,Nat.reduceAdd] at hs hrow|-;have hz:=hs;obtain⟨z0,d⟩:=aQF.1 hz
 try rw[r8 d]
 clear hz hs;unfold D1 at d;refine pL a47 ?_;obtain⟨Z,hv1,hw1,d⟩:=q8 d
 try simp only[go_sem] at hw1
 refine pL a47 ?_ (hp:=by exact(pZ hv1)) (h:=by simp only[go_sem,hw1];rfl);refine pV ?_;cases d;exact oV []
def GB (O:tF) (Z:tF):Option Bool:=(EI O Z).bind fun aA=>some (((decide (aA.2=(0:Int)))&&(decide ((aA.1.length:Int)=(0:Int)))))
section
variable (O:tF) (Z:tF)
abbrev a48:List pN:=[(.val v8 O,none),(.val v8 Z,none)]
abbrev a5a:List pM:=[]
@[go_sem] def a5b:pR:=⟨[((GB O Z)).isSome=true],[(.val .bool (val (GB O Z)),none)],[]⟩
def aE3:List pN→List pM→Option pR:=qU (V:=(tF×tF)) (fun x=>a48 x.1 x.2) (fun x=>a5a) fun x=>a5b x.1 x.2
@[go_sem] def aPM:aE3 (no_index (a48 O Z)) (no_index a5a)=some (a5b O Z):=qV (fun⟨a0,a1⟩ ⟨b0,b1⟩ h1 h2=>by cases h1;cases h2;rfl) (O,Z)
end
@[go_sem] abbrev aE4:Nat×qC:=(20,⟨[.v,.v],aE3,[],[],none⟩)
def U9:qM Tryz.prog [CT,TW] (qO [aEu]):=⟨⟨FT,⟨aCl,trivial⟩⟩,pU aLF qS,qQ⟩
def aLR:qE Tryz.prog aE4:=by
 refine qW U9 Tryz.func20 (c:=_) rfl (N:=20) pE (ts:=[(4,none)]) rfl (fun _ _=>rfl) ?_;intro⟨O,Z⟩ hs hrow;dsimp only[a48,a5a,a5b,qR,pX,qD,qI,qT,Nat.reduceAdd] at hs hrow|-;have hz:=hs;obtain⟨z0,d⟩:=aQF.1 hz
 try rw[r8 d]
 clear hz hs;unfold GB at d;refine pL U9 ?_;obtain⟨aA,hv1,hw1,d⟩:=q8 d
 try simp only[go_sem] at hw1
 refine pL U9 ?_ (hp:=by exact(pZ hv1)) (h:=by simp only[go_sem,hw1];rfl);refine pL U9 ?_ (hp:=by exact⟨id,id,rI⟩);refine pV ?_;cases d;exact oV []
attribute [irreducible] LE IN PF D1 GB
end
noncomputable section
def IP (O:rS):Int→Option (Int⊕(Unit⊕Bool)):=fun Z=>if (decide (Z<(O.2.2.2.1.length:Int)))=true then if 0≤Z∧Z<(O.2.2.2.1.length:Int) then (L8 (qB rN O.2.2.2.1 Z)).bind fun aA=>if (!((decide ((((((qB rN O.2.2.2.1 Z).1).length:Int)+(((qB rN O.2.2.2.1 Z).2.1).length:Int))+(((qB rN O.2.2.2.1 Z).2.2.1).length:Int))≤(6000:Int)))&&(decide (((val (x6 ((qB rN O.2.2.2.1 Z).2.2.2.1) ((qB rN O.2.2.2.1 Z).2.2.2.2.2.2.1)))+(val (x6 ((qB rN O.2.2.2.1 Z).2.2.2.2.1) ([]:List qK))))≤(6000:Int)))))=true then some (.inr (.inr (false))) else if pO (Z+(1:Int)) then some (.inl (Z+(1:Int))) else none else none else some (.inr (.inl ()))
def IQ (O:rS):Option Bool:=if (((decide ((100:Int)<(O.1.length:Int)))==false)=true→((x6 O.2.1 O.2.2.1)).isSome=true) then if (((decide ((100:Int)<(O.1.length:Int)))||(decide ((6000:Int)<(val (x6 O.2.1 O.2.2.1)))))||(decide ((12:Int)<(O.2.2.2.1.length:Int))))=true then some (false) else sR (rF (IP O) (0:Int)) fun _=>some (true) else none
section
variable (O:rS)
abbrev a5c:List pN:=[(.val vM O,none)]
abbrev a5d:List pM:=[]
@[go_sem] def a5e:pR:=⟨[((IQ O)).isSome=true],[(.val .bool (val (IQ O)),none)],[]⟩
def aE5:List pN→List pM→Option pR:=qU (V:=rS) (a5c) (fun x=>a5d) fun x=>a5e x
@[go_sem] def aPN:aE5 (no_index (a5c O)) (no_index a5d)=some (a5e O):=qV (fun a0 b0 h1 h2=>by cases h1;cases h2;rfl) O
end
@[go_sem] abbrev aE6:Nat×qC:=(15,⟨[.v],aE5,[],[],none⟩)
def D2:qM Tryz.prog [rG,tG,vH,BL,x5,vG] (qO [a0R,aEp]):=⟨⟨rJ,⟨tT,⟨vX,⟨E3,⟨y6,⟨vW,trivial⟩⟩⟩⟩⟩⟩,pU aCC (pU aLD qS),qQ⟩
def aLS:qE Tryz.prog aE6:=by
 refine qW D2 Tryz.func15 (c:=_) rfl (N:=36) pE (ts:=[(2,none)]) rfl (fun _ _=>rfl) ?_;intro O hs hrow;dsimp only[a5c,a5d,a5e,qR,pX,qD,qI,qT,Nat.reduceAdd] at hs hrow|-;have hz:=hs;obtain⟨z0,f⟩:=aQF.1 hz
 try rw[r8 f]
 clear hz hs;unfold IQ at f;refine pL D2 ?_;refine pW ?_;obtain⟨hg1,f⟩:=pP f;refine pL D2 ?_ (hp:=by exact⟨id,id,id,id,hg1,id,rU,id,id,id,rU⟩);refine pY f (fun f hc1=> ?_) (fun f hc1=> ?_)
 .refine pL D2 ?_;refine pV (qP ?_);cases f;exact oV []
 .refine qG (pT (pW ?_));refine pL D2 ?_;refine qY ?_;obtain⟨y1,hy1,f⟩:=tN f;refine sE 0 (fun s=> ∃v,y1= .inl v∧s=(fun _=>⟨[],[],0,36,0⟩) v) ?_ ?_
  .refine sC hy1 (fun x=>⟨[(1,(.val .ref (some (0,0)),none)),(3,(.val (.int .i64) x,none))],[(0,.cells vM O [])],1,36,0⟩) ⟨[1,3],[(0,0)]⟩ pF ?_;intro Z w1 n1 e g;unfold IP at e;dsimp only at e|-;refine pW ?_;refine pL D2 ?_;refine pY e (fun e hc2=> ?_) (fun e hc2=> ?_)
   .refine qG (pT (pW (qY ?_)));obtain⟨hg2,e⟩:=pP e;obtain⟨aA,hv3,hw3,e⟩:=q8 e
    try simp only[go_sem] at hw3
    refine pL D2 ?_ (hp:=by exact⟨hg2,(pZ hv3)⟩) (h:=by simp only[go_sem,hw3];rfl);refine pY e (fun e hc3=> ?_) (fun e hc3=> ?_)
    .refine pL D2 ?_;refine pV (r6 (qP (tM (tQ (r6 (qP ?_))))));cases e;cases g;dsimp only at f;cases f;exact oV []
    .refine qG (r5 (pT ?_));obtain⟨hg4,e⟩:=pP e;refine qJ D2 ?_ (hp:=by exact hg4);cases e;exact rT ⟨⟨[1,3],[(0,0)]⟩,_,by rfl,g⟩
   .refine s8 (s7 (sA ?_));cases e;cases g;exact s9 ⟨⟨[],[]⟩,_,rfl,by rfl⟩
  .rintro _ ⟨v,rfl,rfl⟩;dsimp only at f|-;refine sD (pT ?_);refine pL D2 ?_;refine pV ?_;cases f;exact oV []
def PG (O:oU):Int→Option (Int⊕(Unit⊕Bool)):=fun Z=>if (decide (Z<(O.length:Int)))=true then if 0≤Z∧Z<(O.length:Int) then (G7 (qB .str O Z)).bind fun aA=>if ((((!aA)==false)&&((decide ((0:Int)<Z))==true))=true→0≤Z∧Z<(O.length:Int)) then if ((((!aA)==false)&&((decide ((0:Int)<Z))==true))=true→pO (Z- (1:Int))) then if ((((!aA)==false)&&((decide ((0:Int)<Z))==true))=true→0≤(Z- (1:Int))∧(Z- (1:Int))<(O.length:Int)) then if ((!aA)||((decide ((0:Int)<Z))&&(Op.bytesLess (qB .str O Z) (qB .str O (Z- (1:Int)))||decide ((qB .str O Z)=(qB .str O (Z- (1:Int)))))))=true then some (.inr (.inr (false))) else if pO (Z+(1:Int)) then some (.inl (Z+(1:Int))) else none else none else none else none else none else some (.inr (.inl ()))
def BX (O:oU):Option Bool:=sR (rF (PG O) (0:Int)) fun _=>some ((decide ((O.length:Int)≤(20:Int))))
section
variable (O:oU)
abbrev a5f:List pN:=[(.val (.list .str) O,none)]
abbrev a5g:List pM:=[]
@[go_sem] def a5h:pR:=⟨[((BX O)).isSome=true],[(.val .bool (val (BX O)),none)],[]⟩
def aE7:List pN→List pM→Option pR:=qU (V:=oU) (a5f) (fun x=>a5g) fun x=>a5h x
@[go_sem] def aPO:aE7 (no_index (a5f O)) (no_index a5g)=some (a5h O):=qV (fun a0 b0 h1 h2=>by cases h1;cases h2;rfl) O
end
@[go_sem] abbrev aE8:Nat×qC:=(47,⟨[.v],aE7,[],[],none⟩)
def GC:qM Tryz.prog [rG,tG] (qO [a4h]):=⟨⟨rJ,⟨tT,trivial⟩⟩,pU aEA qS,qQ⟩
def aLT:qE Tryz.prog aE8:=by
 refine qW GC Tryz.func47 (c:=_) rfl (N:=35) pE (ts:=[(2,none)]) rfl (fun _ _=>rfl) ?_;intro O hs hrow;dsimp only[a5f,a5g,a5h,qR,pX,qD,qI,qT,Nat.reduceAdd] at hs hrow|-;have hz:=hs;obtain⟨z0,f⟩:=aQF.1 hz
 try rw[r8 f]
 clear hz hs;unfold BX at f;refine pL GC ?_;refine pW ?_;refine pL GC ?_;refine qY ?_;obtain⟨y1,hy1,f⟩:=tN f;refine sE 0 (fun s=> ∃v,y1= .inl v∧s=(fun _=>⟨[(0,(.val (.list .str) O,none))],[],0,35,0⟩) v) ?_ ?_
 .refine sC hy1 (fun x=>⟨[(0,(.val (.list .str) O,none)),(3,(.val (.int .i64) x,none))],[],0,35,0⟩) ⟨[0,3],[]⟩ pF ?_;intro Z w1 n1 e g;unfold PG at e;dsimp only at e|-;refine pW ?_;refine pL GC ?_;refine pY e (fun e hc1=> ?_) (fun e hc1=> ?_)
  .refine qG (pT (pW (qY ?_)));obtain⟨hg1,e⟩:=pP e;obtain⟨aA,hv2,hw2,e⟩:=q8 e
   try simp only[go_sem] at hw2
   obtain⟨hg3,e⟩:=pP e;obtain⟨hg4,e⟩:=pP e;obtain⟨hg5,e⟩:=pP e;refine tW GC ?_ (hp:=by exact⟨hg1,pZ hv2,id,id,id,id,hg3,id,id,hg4,id,id,hg5,id,id,id,id,fun hG d=>KD hG d,rU⟩) (h:=by simp only[go_sem,hw2];rfl);refine pY e (fun e hc2=> ?_) (fun e hc2=> ?_)
   .refine pL GC ?_;refine pV (r6 (qP (tM (tQ (r6 (qP ?_))))));cases e;cases g;dsimp only at f;cases f;exact oV []
   .refine qG (r5 (pT ?_));obtain⟨hg6,e⟩:=pP e;refine qJ GC ?_ (hp:=by exact hg6);cases e;exact rT ⟨⟨[0,3],[]⟩,_,by rfl,g⟩
  .refine s8 (s7 (sA ?_));cases e;cases g;exact s9 ⟨⟨[0],[]⟩,_,rfl,by rfl⟩
 .rintro _ ⟨v,rfl,rfl⟩;dsimp only at f|-;refine sD (pT ?_);refine pL GC ?_;refine pV ?_;cases f;exact oV []
def PH (O:(List qK)):Int→Option (Int⊕(Unit⊕Bool)):=fun Z=>if (decide (Z<(O.length:Int)))=true then if 0≤Z∧Z<(O.length:Int) then (A6 ((qB (.pair .str (.pair .str .unit)) O Z).1)).bind fun aA=>if (((!aA)==false)=true→((BT ((qB (.pair .str (.pair .str .unit)) O Z).2.1))).isSome=true) then if (((((!aA)||(!((decide ((((qB (.pair .str (.pair .str .unit)) O Z).2.1).length:Int)≤(4000:Int)))&&(Lib.validD ((qB (.pair .str (.pair .str .unit)) O Z).2.1)))))==false)&&((decide ((0:Int)<Z))==true))=true→pO (Z- (1:Int))) then if (((((!aA)||(!((decide ((((qB (.pair .str (.pair .str .unit)) O Z).2.1).length:Int)≤(4000:Int)))&&(Lib.validD ((qB (.pair .str (.pair .str .unit)) O Z).2.1)))))==false)&&((decide ((0:Int)<Z))==true))=true→0≤(Z- (1:Int))∧(Z- (1:Int))<(O.length:Int)) then if (((!aA)||(!((decide ((((qB (.pair .str (.pair .str .unit)) O Z).2.1).length:Int)≤(4000:Int)))&&(Lib.validD ((qB (.pair .str (.pair .str .unit)) O Z).2.1)))))||((decide ((0:Int)<Z))&&(!Op.bytesLess (qB (.pair .str (.pair .str .unit)) O (Z- (1:Int))).1 (qB (.pair .str (.pair .str .unit)) O Z).1)))=true then some (.inr (.inr (false))) else if pO (Z+(1:Int)) then some (.inl (Z+(1:Int))) else none else none else none else none else none else some (.inr (.inl ()))
def D3 (O:(List qK)):Option Bool:=sR (rF (PH O) (0:Int)) fun _=>some ((decide ((O.length:Int)≤(20:Int))))
section
variable (O:(List qK))
abbrev a5i:List pN:=[(.val (.list (.pair .str (.pair .str .unit))) O,none)]
abbrev a5j:List pM:=[]
@[go_sem] def a5k:pR:=⟨[((D3 O)).isSome=true],[(.val .bool (val (D3 O)),none)],[]⟩
def aE9:List pN→List pM→Option pR:=qU (V:=(List qK)) (a5i) (fun x=>a5j) fun x=>a5k x
@[go_sem] def aPP:aE9 (no_index (a5i O)) (no_index a5j)=some (a5k O):=qV (fun a0 b0 h1 h2=>by cases h1;cases h2;rfl) O
end
@[go_sem] abbrev a5l:Nat×qC:=(65,⟨[.v],aE9,[],[],none⟩)
def EN:qM Tryz.prog [rG,vH,A2] (qO [KZ,P5]):=⟨⟨rJ,⟨vX,⟨BM,trivial⟩⟩⟩,pU OM (pU U7 qS),qQ⟩
def aFa:qE Tryz.prog a5l:=by
 refine qW EN Tryz.func65 (c:=_) rfl (N:=41) pE (ts:=[(2,none)]) rfl (fun _ _=>rfl) ?_;intro O hs hrow;dsimp only[a5i,a5j,a5k,qR,pX,qD,qI,qT,Nat.reduceAdd] at hs hrow|-;have hz:=hs;obtain⟨z0,f⟩:=aQF.1 hz
 try rw[r8 f]
 clear hz hs;unfold D3 at f;refine pL EN ?_;refine pW ?_;refine pL EN ?_;refine qY ?_;obtain⟨y1,hy1,f⟩:=tN f;refine sE 0 (fun s=> ∃v,y1= .inl v∧s=(fun _=>⟨[(0,(.val (.list (.pair .str (.pair .str .unit))) O,none))],[],0,41,0⟩) v) ?_ ?_
 .refine sC hy1 (fun x=>⟨[(0,(.val (.list (.pair .str (.pair .str .unit))) O,none)),(5,(.val (.list (.pair .str (.pair .str .unit))) O,none)),(6,(.val (.int .i64) (O.length:Int),none)),(7,(.val (.int .i64) x,none))],[],0,41,0⟩) ⟨[0,5,6,7],[]⟩ pF ?_;intro Z w1 n1 e g;unfold PH at e;dsimp only at e|-;refine pL EN ?_;refine pW ?_;refine pY e (fun e hc1=> ?_) (fun e hc1=> ?_)
  .refine qG (pT (pW (qY ?_)));obtain⟨hg1,e⟩:=pP e;refine pL EN ?_ (hp:=by exact hg1);obtain⟨aA,hv2,hw2,e⟩:=q8 e
   try simp only[go_sem] at hw2
   obtain⟨hg3,e⟩:=pP e;obtain⟨hg4,e⟩:=pP e;obtain⟨hg5,e⟩:=pP e;refine tW EN ?_ (hp:=by exact⟨pZ hv2,id,id,hg3,id,rU,id,id,id,hg4,id,id,hg5,id,id,id,id,id,id,fun hG d=>KD hG d,rU⟩) (h:=by simp only[go_sem,hw2];rfl);refine pY e (fun e hc2=> ?_) (fun e hc2=> ?_)
   .refine pL EN ?_;refine pV (r6 (qP (tM (tQ (r6 (qP ?_))))));cases e;cases g;dsimp only at f;cases f;exact oV []
   .refine qG (r5 (pT ?_));obtain⟨hg6,e⟩:=pP e;refine qJ EN ?_ (hp:=by exact hg6);cases e;exact rT ⟨⟨[0,5,6,7],[]⟩,_,by rfl,g⟩
  .refine s8 (s7 (sA ?_));cases e;cases g;exact s9 ⟨⟨[0],[]⟩,_,rfl,by rfl⟩
 .rintro _ ⟨v,rfl,rfl⟩;dsimp only at f|-;refine sD (pT ?_);refine pL EN ?_;refine pV ?_;cases f;exact oV []
def PI (O:Int) (Z:oT):(p6×Int)→Option ((p6×Int)⊕p6):=fun(aA,aB)=>if (decide (aB<(Z.length:Int)))=true then if 0≤aB∧aB<(Z.length:Int) then (IK O (rP Z aB) (decide (aB=(0:Int)))).bind fun aC=>if List.length aA+aC.length≤140737488355328 then if pO (aB+(1:Int)) then some (.inl ((aA++tY aC),(aB+(1:Int)))) else none else none else none else some (.inr aA)
def IR (O:Int) (Z:oT):Option oT:=if (!((decide ((1:Int)≤O))&&(decide (O≤(4:Int)))))=true then some (([]:oT)) else sG (rF (PI O Z) (([]:p6),(0:Int))) fun aA=>some ((sN aA))
section
variable (O:Int) (Z:oT)
abbrev a5m:List pN:=[(.val (.int .i64) O,none),(.val .str Z,none)]
abbrev a5n:List pM:=[]
@[go_sem] def a5o:pR:=⟨[((IR O Z)).isSome=true],[(.val .str (val (IR O Z)),none)],[]⟩
def aFb:List pN→List pM→Option pR:=qU (V:=(Int×oT)) (fun x=>a5m x.1 x.2) (fun x=>a5n) fun x=>a5o x.1 x.2
@[go_sem] def aPQ:aFb (no_index (a5m O Z)) (no_index a5n)=some (a5o O Z):=qV (fun⟨a0,a1⟩ ⟨b0,b1⟩ h1 h2=>by cases h1;cases h2;rfl) (O,Z)
end
@[go_sem] abbrev aFc:Nat×qC:=(71,⟨[.v,.v],aFb,[],[],none⟩)
def D4:qM Tryz.prog [y5,rG,xO] (qO [aCT,aEE]):=⟨⟨zA,⟨rJ,⟨yN,trivial⟩⟩⟩,pU aLe (pU aLI qS),qQ⟩
def aLU:qE Tryz.prog aFc:=by
 refine qW D4 Tryz.func71 (c:=_) rfl (N:=27) pE (ts:=[(4,none)]) rfl (fun _ _=>rfl) ?_;intro⟨O,Z⟩ hs hrow;dsimp only[a5m,a5n,a5o,qR,pX,qD,qI,qT,Nat.reduceAdd] at hs hrow|-;have hz:=hs;obtain⟨z0,f⟩:=aQF.1 hz
 try rw[r8 f]
 clear hz hs;unfold IR at f;refine pL D4 ?_;refine pW ?_;refine pL D4 ?_;refine pY f (fun f hc1=> ?_) (fun f hc1=> ?_)
 .refine pL D4 ?_;refine pV (qP ?_);cases f;exact oV []
 .refine qG (pT ?_);refine pL D4 ?_;refine pW ?_;refine pL D4 ?_;refine qY ?_;obtain⟨aA,hy1,f⟩:=r9 f;refine sE 0 (fun s=>s=(fun x=>⟨[(5,(.val (.list (.int .u8)) x,some 0))],[(0,.grow 5 1 (x.length))],1,27,0⟩) aA) ?_ ?_
  .refine sC hy1 (fun x=>⟨[(0,(.val (.int .i64) O,none)),(1,(.val .str Z,none)),(5,(.val (.list (.int .u8)) x.1,some 0)),(6,(.val (.int .i64) x.2,none))],[(0,.grow 5 1 (x.1.length))],1,27,0⟩) ⟨[0,1,5,6],[(0,128)]⟩ pF ?_;intro x1 w1 n1 e g;obtain⟨aB,aC⟩:=x1;unfold PI at e;dsimp only at e|-;refine pW ?_;refine pL D4 ?_;refine pY e (fun e hc2=> ?_) (fun e hc2=> ?_)
   .refine qG (pT (pW (qY ?_)));obtain⟨hg1,e⟩:=pP e;obtain⟨aD,hv2,hw2,e⟩:=q8 e
    try simp only[go_sem] at hw2
    obtain⟨hg3,e⟩:=pP e;refine qJ D4 ?_ (hp:=by exact⟨hg1,pZ hv2,pD,hg3⟩) (h:=by simp only[go_sem,hw2];rfl)
    refine r5 (pT ?_);obtain⟨hg4,e⟩:=pP e;refine qJ D4 ?_ (hp:=by exact hg4);cases e;exact rT ⟨⟨[0,1,5,6],[(0,0)]⟩,_,by rfl,g⟩
   .refine s8 (s7 (sA ?_));cases e;cases g;exact s9 ⟨⟨[5],[(0,0)]⟩,by rfl⟩
  .rintro _ rfl;dsimp only at f|-;refine sD (pT ?_);refine pL D4 ?_;refine pV ?_;cases f;exact oV []
def tU (O:oT):Option Bool:=(G8 O).bind fun Z=>(IL Z).bind fun aA=>some ((decide (aA=O)))
section
variable (O:oT)
abbrev a5p:List pN:=[(.val .str O,none)]
abbrev a5q:List pM:=[]
@[go_sem] def a5r:pR:=⟨[((tU O)).isSome=true],[(.val .bool (val (tU O)),none)],[]⟩
def aFd:List pN→List pM→Option pR:=qU (V:=oT) (a5p) (fun x=>a5q) fun x=>a5r x
@[go_sem] def aPR:aFd (no_index (a5p O)) (no_index a5q)=some (a5r O):=qV (fun a0 b0 h1 h2=>by cases h1;cases h2;rfl) O
end
@[go_sem] abbrev aFe:Nat×qC:=(75,⟨[.v],aFd,[],[],none⟩)
def a5s:qM Tryz.prog [] (qO [aEJ,aEG]):=⟨trivial,pU aLK (pU aLJ qS),qQ⟩
def aLV:qE Tryz.prog aFe:=by
 refine qW a5s Tryz.func75 (c:=_) rfl (N:=8) pE (ts:=[(2,none)]) rfl (fun _ _=>rfl) ?_;intro O hs hrow;dsimp only[a5p,a5q,a5r,qR,pX,qD,qI,qT,Nat.reduceAdd] at hs hrow|-;have hz:=hs;obtain⟨z0,f⟩:=aQF.1 hz
 try rw[r8 f]
 clear hz hs;unfold tU at f;refine pL a5s ?_;obtain⟨Z,hv1,hw1,f⟩:=q8 f
 try simp only[go_sem] at hw1
 obtain⟨aA,hv2,hw2,f⟩:=q8 f
 try simp only[go_sem] at hw2
 refine pL a5s ?_ (hp:=by exact⟨pZ hv1,(pZ hv2)⟩) (h:=by simp only[go_sem,hw1,hw2];rfl);refine pV ?_;cases f;exact oV []
def PJ (O:oT):Option Unit:=(BT O).bind fun Z=>some (())
section
variable (O:oT)
abbrev a5t:List pN:=[(.val .str O,none)]
abbrev a5u:List pM:=[]
@[go_sem] def a5v:pR:=⟨[((PJ O)).isSome=true],[(.val .bool (!((decide ((O.length:Int)≤(4000:Int)))&&(Lib.validD O))),none)],[]⟩
def aFf:List pN→List pM→Option pR:=qU (V:=oT) (a5t) (fun x=>a5u) fun x=>a5v x
@[go_sem] def aPS:aFf (no_index (a5t O)) (no_index a5u)=some (a5v O):=qV (fun a0 b0 h1 h2=>by cases h1;cases h2;rfl) O
end
@[go_sem] abbrev aFg:Nat×qC:=(96,⟨[.v],aFf,[],[],none⟩)
def a5w:qM Tryz.prog [] (qO [P5]):=⟨trivial,pU U7 qS,qQ⟩
def aLW:qE Tryz.prog aFg:=by
 refine qW a5w Tryz.func96 (c:=_) rfl (N:=6) pE (ts:=[(2,none)]) rfl (fun _ _=>rfl) ?_;intro O hs hrow;dsimp only[a5t,a5u,a5v,qR,pX,qD,qI,qT,Nat.reduceAdd] at hs hrow|-;have hz:=hs;obtain⟨z0,f⟩:=aQF.1 hz
 try rw[r8 f]
 clear hz hs;unfold PJ at f;refine pL a5w ?_;obtain⟨Z,hv1,hw1,f⟩:=q8 f
 try simp only[go_sem] at hw1
 refine pL a5w ?_ (hp:=by exact(pZ hv1)) (h:=by simp only[go_sem,hw1];rfl);refine pV ?_;cases f;exact oV []
attribute [irreducible] IQ BX D3 IR tU PJ
end
noncomputable section
def PL (O:Int) (Z:oT):(Int×p6)→Option ((Int×p6)⊕p6):=fun(aA,aB)=>if (decide (aA<(Z.length:Int)))=true then if (decide (O=(4:Int)))=true then if 0≤aA∧aA<(Z.length:Int) then (GA (rP Z aA)).bind fun aC=>(CX (aB,()) aC).bind fun aD=>if pO (aA+(1:Int)) then some (.inl ((aA+(1:Int)),(aB++tY aC))) else none else none else if 0≤aA∧aA<(Z.length:Int) then (PC O (rP Z aA) (decide (aA=(0:Int)))).bind fun aE=>(CX (aB,()) aE).bind fun aF=>if pO (aA+(1:Int)) then some (.inl ((aA+(1:Int)),(aB++tY aE))) else none else none else some (.inr aB)
def IS (O:Int) (Z:oT):Option oT:=if (!((decide ((1:Int)≤O))&&(decide (O≤(4:Int)))))=true then some (([]:oT)) else sG (rF (PL O Z) ((0:Int),([]:p6))) fun aA=>some ((sN aA))
section
variable (O:Int) (Z:oT)
abbrev a5x:List pN:=[(.val (.int .i64) O,none),(.val .str Z,none)]
abbrev a5y:List pM:=[]
@[go_sem] def a5z:pR:=⟨[((IS O Z)).isSome=true],[(.val .str (val (IS O Z)),none)],[]⟩
def aFh:List pN→List pM→Option pR:=qU (V:=(Int×oT)) (fun x=>a5x x.1 x.2) (fun x=>a5y) fun x=>a5z x.1 x.2
@[go_sem] def aPT:aFh (no_index (a5x O Z)) (no_index a5y)=some (a5z O Z):=qV (fun⟨a0,a1⟩ ⟨b0,b1⟩ h1 h2=>by cases h1;cases h2;rfl) (O,Z)
end
@[go_sem] abbrev aFi:Nat×qC:=(100,⟨[.v,.v],aFh,[],[],none⟩)
def zE:qM Tryz.prog [rG,E4] (qO [a16,aEL,TX,aEN,DY]):=⟨⟨rJ,⟨I7,trivial⟩⟩,pU aDf (pU aLL (pU a0N (pU aLM (pU KL qS)))),qQ⟩
def aLX:qE Tryz.prog aFi:=by
 refine qW zE Tryz.func100 (c:=_) rfl (N:=32) pE (ts:=[(4,none)]) rfl (fun _ _=>rfl) ?_;intro⟨O,Z⟩ hs hrow;dsimp only[a5x,a5y,a5z,qR,pX,qD,qI,qT,Nat.reduceAdd] at hs hrow|-;have hz:=hs;obtain⟨z0,d⟩:=aQF.1 hz
 try rw[r8 d]
 clear hz hs;unfold IS at d;refine pL zE ?_;refine pW ?_;refine pL zE ?_;refine pY d (fun d hc1=> ?_) (fun d hc1=> ?_)
 .refine pL zE ?_;refine pV (qP ?_);cases d;exact oV []
 .refine qG (pT ?_);refine pL zE ?_;refine pW ?_;refine pL zE ?_;refine qY ?_;obtain⟨aA,hy1,d⟩:=r9 d;refine sE 0 (fun s=>s=(fun x=>⟨[(5,(.val .ref (some (0,0)),none))],[(0,.cells uP ((some (0,0)),(x,())) [(1,1)]),(1,.grow 5 1 (x.length))],2,32,0⟩) aA) ?_ ?_
  .refine sC hy1 (fun x=>⟨[(0,(.val (.int .i64) O,none)),(1,(.val .str Z,none)),(5,(.val .ref (some (0,0)),none)),(11,(.val (.int .i64) (Z.length:Int),none)),(12,(.val (.int .i64) x.1,none))],[(0,.cells uP ((some (0,0)),(x.2,())) [(1,1)]),(1,.grow 5 1 (x.2.length))],2,32,0⟩) ⟨[0,1,5,11,12],[(0,128),(1,129)]⟩ pF ?_;intro x1 w1 n1 e f;obtain⟨aB,aC⟩:=x1;unfold PL at e;dsimp only at e|-;refine pL zE ?_;refine pW ?_;refine pY e (fun e hc2=> ?_) (fun e hc2=> ?_)
   .refine qG (pT (pW (qY ?_)));refine pL zE ?_;refine pL zE ?_;refine pY e (fun e hc3=> ?_) (fun e hc3=> ?_)
    .obtain⟨hg1,e⟩:=pP e;obtain⟨aD,hv2,hw2,e⟩:=q8 e
     try simp only[go_sem] at hw2
     obtain⟨aE,hv3,hw3,e⟩:=q8 e
     try simp only[go_sem] at hw3
     refine qJ zE ?_ (hp:=by exact⟨hg1,pZ hv2,pD,(pZ hv3)⟩) (h:=by simp only[go_sem,hw2,hw3];rfl)
     refine r5 (pT ?_);obtain⟨hg4,e⟩:=pP e;refine qJ zE ?_ (hp:=by exact hg4);cases e;exact rT ⟨⟨[0,1,5,11,12],[(0,0),(1,1)]⟩,_,by rfl,f⟩
    .obtain⟨hg5,e⟩:=pP e;obtain⟨aF,hv6,hw6,e⟩:=q8 e
     try simp only[go_sem] at hw6
     obtain⟨aG,hv7,hw7,e⟩:=q8 e
     try simp only[go_sem] at hw7
     refine qJ zE ?_ (hp:=by exact⟨hg5,pZ hv6,pD,(pZ hv7)⟩) (h:=by simp only[go_sem,hw6,hw7];rfl)
     refine r5 (pT ?_);obtain⟨hg8,e⟩:=pP e;refine qJ zE ?_ (hp:=by exact hg8);cases e;exact rT ⟨⟨[0,1,5,11,12],[(0,0),(1,1)]⟩,_,by rfl,f⟩
   .refine s8 (s7 (sA ?_));cases e;cases f;exact s9 ⟨⟨[5],[(0,0),(1,1)]⟩,by rfl⟩
  .rintro _ rfl;dsimp only at d|-;refine sD (pT ?_);refine pL zE ?_ (hp:=by first|rfl|trivial)
   refine pV ?_;cases d;exact oV []
def IT (O:(List qK)) (Z:oT):Option (oT×Bool):=(LC O Z).bind fun aA=>if (decide (aA<(0:Int)))=true then some ((([]:oT),false)) else if 0≤aA∧aA<(O.length:Int) then some (((qB (.pair .str (.pair .str .unit)) O aA).2.1,true)) else none
section
variable (O:(List qK)) (Z:oT)
abbrev a5A:List pN:=[(.val (.list (.pair .str (.pair .str .unit))) O,none),(.val .str Z,none)]
abbrev a5B:List pM:=[]
@[go_sem] def a5C:pR:=⟨[((IT O Z)).isSome=true],[(.val .str ((val (IT O Z)).1),none),(.val .bool ((val (IT O Z)).2),none)],[]⟩
def aFj:List pN→List pM→Option pR:=qU (V:=((List qK)×oT)) (fun x=>a5A x.1 x.2) (fun x=>a5B) fun x=>a5C x.1 x.2
@[go_sem] def aPU:aFj (no_index (a5A O Z)) (no_index a5B)=some (a5C O Z):=qV (fun⟨a0,a1⟩ ⟨b0,b1⟩ h1 h2=>by cases h1;cases h2;rfl) (O,Z)
end
@[go_sem] abbrev a5D:Nat×qC:=(115,⟨[.v,.v],aFj,[],[],none⟩)
def LF:qM Tryz.prog [rG,vH,A2] (qO [a4I]):=⟨⟨rJ,⟨vX,⟨BM,trivial⟩⟩⟩,pU aEP qS,qQ⟩
def aFk:qE Tryz.prog a5D:=by
 refine qW LF Tryz.func115 (c:=_) rfl (N:=17) pE (ts:=[(4,none),(5,none)]) rfl (fun _ _=>rfl) ?_;intro⟨O,Z⟩ hs hrow;dsimp only[a5A,a5B,a5C,qR,pX,qD,qI,qT,Nat.reduceAdd] at hs hrow|-;have hz:=hs;obtain⟨z0,d⟩:=aQF.1 hz
 try rw[r8 d]
 clear hz hs;unfold IT at d;refine pL LF ?_;obtain⟨aA,hv1,hw1,d⟩:=q8 d
 try simp only[go_sem] at hw1
 refine pL LF ?_ (hp:=by exact(pZ hv1)) (h:=by simp only[go_sem,hw1];rfl);refine pW ?_;refine pL LF ?_;refine pY d (fun d hc1=> ?_) (fun d hc1=> ?_)
 .refine pL LF ?_;refine pV (qP ?_);cases d;exact oV []
 .refine qG (pT ?_);obtain⟨hg2,d⟩:=pP d;refine pL LF ?_ (hp:=by exact hg2);refine pV ?_;cases d;exact oV []
def LG (O:oT) (Z:oT):Option (oT×Bool):=(LD O Z).bind fun aA=>some ((aA.1,aA.2))
section
variable (O:oT) (Z:oT)
abbrev a5E:List pN:=[(.val .str O,none),(.val .str Z,none)]
abbrev a5F:List pM:=[]
@[go_sem] def a5G:pR:=⟨[((LG O Z)).isSome=true],[(.val .str ((val (LG O Z)).1),none),(.val .bool ((val (LG O Z)).2),none)],[]⟩
def aFl:List pN→List pM→Option pR:=qU (V:=(oT×oT)) (fun x=>a5E x.1 x.2) (fun x=>a5F) fun x=>a5G x.1 x.2
@[go_sem] def aPV:aFl (no_index (a5E O Z)) (no_index a5F)=some (a5G O Z):=qV (fun⟨a0,a1⟩ ⟨b0,b1⟩ h1 h2=>by cases h1;cases h2;rfl) (O,Z)
end
@[go_sem] abbrev aFm:Nat×qC:=(126,⟨[.v,.v],aFl,[],[],none⟩)
def a5H:qM Tryz.prog [] (qO [aER]):=⟨trivial,pU aLN qS,qQ⟩
def aLY:qE Tryz.prog aFm:=by
 refine qW a5H Tryz.func126 (c:=_) rfl (N:=11) pE (ts:=[(4,none),(5,none)]) rfl (fun _ _=>rfl) ?_;intro⟨O,Z⟩ hs hrow;dsimp only[a5E,a5F,a5G,qR,pX,qD,qI,qT,Nat.reduceAdd] at hs hrow|-;have hz:=hs;obtain⟨z0,d⟩:=aQF.1 hz
 try rw[r8 d]
 clear hz hs;unfold LG at d;refine pL a5H ?_;obtain⟨aA,hv1,hw1,d⟩:=q8 d
 try simp only[go_sem] at hw1
 refine pL a5H ?_ (hp:=by exact(pZ hv1)) (h:=by simp only[go_sem,hw1];rfl);refine pV ?_;cases d;exact oV []
def GD (O:(p6×Unit)) (Z:Int):Option (Int×p6):=(LE O.1 Z).bind fun aA=>if pO ((aA.length:Int)- (O.1.length:Int)) then some ((((aA.length:Int)- (O.1.length:Int)),aA)) else none
section
variable (O:Int) (Z:(p6×Unit)) (aA:Nat)
abbrev a5I:List pN:=[(.val .ref (some (0,0)),none),(.val (.int .i32) O,none)]
abbrev a5J:List pM:=[.cells uP ((some (0,0)),Z) [(1,1)],.grow 5 1 aA]
@[go_sem] def a5K:pR:=⟨[aA=(Z.1.length),((GD Z O)).isSome=true],[(.val (.int .i64) ((val (GD Z O)).1),none),(.any,none)],[.cells uP ((some (0,0)),((val (GD Z O)).2,())) [(1,1)],.grow 5 1 (((val (GD Z O)).2).length)]⟩
def aFn:List pN→List pM→Option pR:=qU (V:=(Int×(p6×Unit)×Nat)) (fun x=>a5I x.1) (fun x=>a5J x.2.1 x.2.2) fun x=>a5K x.1 x.2.1 x.2.2
@[go_sem] def aPW:aFn (no_index (a5I O)) (no_index (a5J Z aA))=some (a5K O Z aA):=qV (fun⟨a0,a1,a2⟩ ⟨b0,b1,b2⟩ h1 h2=>by cases h1;cases h2;rfl) (O,Z,aA)
end
@[go_sem] abbrev aFo:Nat×qC:=(241,⟨[.p uP [1],.v],aFn,[],[],none⟩)
def LH:qM Tryz.prog [xO,E4] (qO [FQ,aEV]):=⟨⟨yN,⟨I7,trivial⟩⟩,pU OA (pU aLP qS),qQ⟩
def aLZ:qE Tryz.prog aFo:=by
 refine qW LH Tryz.func241 (c:=_) rfl (N:=30) pE (ts:=[(4,none),(5,none)]) rfl (fun _ _=>rfl) ?_;intro⟨O,Z,aA⟩ hs hrow;dsimp only[a5I,a5J,a5K,qR,pX,qD,qI,qT,Nat.reduceAdd] at hs hrow|-;obtain⟨rfl,hz⟩:=hs;obtain⟨z0,d⟩:=aQF.1 hz
 try rw[r8 d]
 clear hz;unfold GD at d;refine pL LH ?_;refine pL LH ?_ (hp:=by first|rfl|trivial)
 refine pL LH ?_;obtain⟨aB,hv1,hw1,d⟩:=q8 d
 try simp only[go_sem] at hw1
 refine pL LH ?_ (hp:=by exact⟨pD,(pZ hv1)⟩) (h:=by simp only[go_sem,hw1];rfl)
 obtain⟨hg2,d⟩:=pP d;refine pL LH ?_ (hp:=by exact hg2);refine pV ?_;cases d;exact oV [(0,0),(1,1)]
def PM (O:oU):Int→Option (Int⊕(Unit⊕Int)):=fun Z=>if (decide (Z<(O.length:Int)))=true then if 0≤Z∧Z<(O.length:Int) then (PJ (qB .str O Z)).bind fun aA=>if (!((decide (((qB .str O Z).length:Int)≤(4000:Int)))&&(Lib.validD (qB .str O Z))))=true then some (.inr (.inr (Z))) else if pO (Z+(1:Int)) then some (.inl (Z+(1:Int))) else none else none else some (.inr (.inl ()))
def LI (O:oU):Option Int:=sR (rF (PM O) (0:Int)) fun _=>some ((-1:Int))
section
variable (O:oU)
abbrev a5L:List pN:=[(.val (.list .str) O,none),(.val .clo (some (96,[])),none)]
abbrev a5M:List pM:=[]
@[go_sem] def a5N:pR:=⟨[((LI O)).isSome=true],[(.val (.int .i64) (val (LI O)),none)],[]⟩
def aFp:List pN→List pM→Option pR:=qU (V:=oU) (a5L) (fun x=>a5M) fun x=>a5N x
@[go_sem] def aPX:aFp (no_index (a5L O)) (no_index a5M)=some (a5N O):=qV (fun a0 b0 h1 h2=>by cases h1;cases h2;rfl) O
end
@[go_sem] abbrev aFq:Nat×qC:=(137,⟨[.v,.v],aFp,[],[],none⟩)
def EO:qM Tryz.prog [rG,tG] (qO [aFg]):=⟨⟨rJ,⟨tT,trivial⟩⟩,pU aLW qS,qQ⟩
def aL0:qE Tryz.prog aFq:=by
 refine qW EO Tryz.func137 (c:=_) rfl (N:=19) pE (ts:=[(4,none)]) rfl (fun _ _=>rfl) ?_;intro O hs hrow;dsimp only[a5L,a5M,a5N,qR,pX,qD,qI,qT,Nat.reduceAdd] at hs hrow|-;have hz:=hs;obtain⟨z0,d⟩:=aQF.1 hz
 try rw[r8 d]
 clear hz hs;unfold LI at d;refine pL EO ?_;refine pW ?_;refine pL EO ?_;refine qY ?_;obtain⟨y1,hy1,d⟩:=tN d;refine sE 0 (fun s=> ∃v,y1= .inl v∧s=(fun _=>⟨[],[],0,19,0⟩) v) ?_ ?_
 .refine sC hy1 (fun x=>⟨[(0,(.val (.list .str) O,none)),(1,(.val .clo (some (96,[])),none)),(7,(.val (.int .i64) (O.length:Int),none)),(8,(.val (.int .i64) x,none))],[],0,19,0⟩) ⟨[0,1,7,8],[]⟩ pF ?_;intro Z w1 n1 e f;unfold PM at e;dsimp only at e|-;refine pL EO ?_;refine pW ?_;refine pY e (fun e hc1=> ?_) (fun e hc1=> ?_)
  .refine qG (pT (pW (qY ?_)));refine pL EO ?_;obtain⟨hg1,e⟩:=pP e;obtain⟨aA,hv2,hw2,e⟩:=q8 e
   try simp only[go_sem] at hw2
   refine pL EO ?_ (hp:=by exact⟨hg1,(pZ hv2)⟩) (h:=by simp only[go_sem,hw2];rfl);refine pY e (fun e hc2=> ?_) (fun e hc2=> ?_)
   .refine pL EO ?_;refine pV (r6 (qP (tM (tQ (r6 (qP ?_))))));cases e;cases f;dsimp only at d;cases d;exact oV []
   .refine qG (r5 (pT ?_));obtain⟨hg3,e⟩:=pP e;refine qJ EO ?_ (hp:=by exact hg3);cases e;exact rT ⟨⟨[0,1,7,8],[]⟩,_,by rfl,f⟩
  .refine s8 (s7 (sA ?_));cases e;cases f;exact s9 ⟨⟨[],[]⟩,_,rfl,by rfl⟩
 .rintro _ ⟨v,rfl,rfl⟩;dsimp only at d|-;refine sD (pT ?_);refine pL EO ?_;refine pV ?_;cases d;exact oV []
def zF (O:oU):Option Bool:=(LI O).bind fun Z=>some ((decide ((0:Int)≤Z)))
section
variable (O:oU)
abbrev a5O:List pN:=[(.val (.list .str) O,none),(.val .clo (some (96,[])),none)]
abbrev a5P:List pM:=[]
@[go_sem] def a5Q:pR:=⟨[((zF O)).isSome=true],[(.val .bool (val (zF O)),none)],[]⟩
def aFr:List pN→List pM→Option pR:=qU (V:=oU) (a5O) (fun x=>a5P) fun x=>a5Q x
@[go_sem] def aPY:aFr (no_index (a5O O)) (no_index a5P)=some (a5Q O):=qV (fun a0 b0 h1 h2=>by cases h1;cases h2;rfl) O
end
@[go_sem] abbrev aFs:Nat×qC:=(95,⟨[.v,.v],aFr,[],[],none⟩)
def a5R:qM Tryz.prog [] (qO [aFq]):=⟨trivial,pU aL0 qS,qQ⟩
def aL1:qE Tryz.prog aFs:=by
 refine qW a5R Tryz.func95 (c:=_) rfl (N:=9) pE (ts:=[(4,none)]) rfl (fun _ _=>rfl) ?_;intro O hs hrow;dsimp only[a5O,a5P,a5Q,qR,pX,qD,qI,qT,Nat.reduceAdd] at hs hrow|-;have hz:=hs;obtain⟨z0,d⟩:=aQF.1 hz
 try rw[r8 d]
 clear hz hs;unfold zF at d;refine pL a5R ?_;obtain⟨Z,hv1,hw1,d⟩:=q8 d
 try simp only[go_sem] at hw1
 refine pL a5R ?_ (hp:=by exact(pZ hv1)) (h:=by simp only[go_sem,hw1];rfl);refine pV ?_;cases d;exact oV []
def D5 (O:oT):Option oT:=(IR (4:Int) O).bind fun Z=>some (Z)
section
variable (O:oT)
abbrev a5S:List pN:=[(.val .str O,none)]
abbrev a5T:List pM:=[]
@[go_sem] def a5U:pR:=⟨[((D5 O)).isSome=true],[(.val .str (val (D5 O)),none)],[]⟩
def aFt:List pN→List pM→Option pR:=qU (V:=oT) (a5S) (fun x=>a5T) fun x=>a5U x
@[go_sem] def aPZ:aFt (no_index (a5S O)) (no_index a5T)=some (a5U O):=qV (fun a0 b0 h1 h2=>by cases h1;cases h2;rfl) O
end
@[go_sem] abbrev PN:Nat×qC:=(39,⟨[.v],aFt,[],[],none⟩)
def a5V:qM Tryz.prog [] (qO [aFc]):=⟨trivial,pU aLU qS,qQ⟩
def UA:qE Tryz.prog PN:=by
 refine qW a5V Tryz.func39 (c:=_) rfl (N:=5) pE (ts:=[(2,none)]) rfl (fun _ _=>rfl) ?_;intro O hs hrow;dsimp only[a5S,a5T,a5U,qR,pX,qD,qI,qT,Nat.reduceAdd] at hs hrow|-;have hz:=hs;obtain⟨z0,d⟩:=aQF.1 hz
 try rw[r8 d]
 clear hz hs;unfold D5 at d;refine pL a5V ?_;obtain⟨Z,hv1,hw1,d⟩:=q8 d
 try simp only[go_sem] at hw1
 refine pL a5V ?_ (hp:=by exact(pZ hv1)) (h:=by simp only[go_sem,hw1];rfl);refine pV ?_;cases d;exact oV []
attribute [irreducible] IS IT LG GD LI zF D5
end
noncomputable section
def D6 (O:oT):Option Unit:=if (((decide ((O.length:Int)≤(4000:Int)))==true)=true→((tU O)).isSome=true) then some (()) else none
section
variable (O:oT)
abbrev a5W:List pN:=[(.val .str O,none)]
abbrev a5X:List pM:=[]
@[go_sem] def a5Y:pR:=⟨[((D6 O)).isSome=true],[(.val .bool ((decide ((O.length:Int)≤(4000:Int)))&&(val (tU O))),none)],[]⟩
def aFu:List pN→List pM→Option pR:=qU (V:=oT) (a5W) (fun x=>a5X) fun x=>a5Y x
@[go_sem] def aP0:aFu (no_index (a5W O)) (no_index a5X)=some (a5Y O):=qV (fun a0 b0 h1 h2=>by cases h1;cases h2;rfl) O
end
@[go_sem] abbrev UB:Nat×qC:=(45,⟨[.v],aFu,[],[],none⟩)
def a5Z:qM Tryz.prog [rG] (qO [aFe]):=⟨⟨rJ,trivial⟩,pU aLV qS,qQ⟩
def a50:qE Tryz.prog UB:=by
 refine qW a5Z Tryz.func45 (c:=_) rfl (N:=10) pE (ts:=[(2,none)]) rfl (fun _ _=>rfl) ?_;intro O hs hrow;dsimp only[a5W,a5X,a5Y,qR,pX,qD,qI,qT,Nat.reduceAdd] at hs hrow|-;have hz:=hs;obtain⟨z0,e⟩:=aQF.1 hz
 try rw[r8 e]
 clear hz hs;unfold D6 at e;refine pL a5Z ?_;obtain⟨hg1,e⟩:=pP e;refine pL a5Z ?_ (hp:=by exact⟨id,hg1,rI⟩);refine pV ?_;cases e;exact oV []
def PO (O:oU):Int→Option (Int⊕(Unit⊕Bool)):=fun Z=>if (decide (Z<(O.length:Int)))=true then if 0≤Z∧Z<(O.length:Int) then (D6 (qB .str O Z)).bind fun aA=>if (!((decide (((qB .str O Z).length:Int)≤(4000:Int)))&&(val (tU (qB .str O Z)))))=true then some (.inr (.inr (false))) else if pO (Z+(1:Int)) then some (.inl (Z+(1:Int))) else none else none else some (.inr (.inl ()))
def yP (O:oU):Option Bool:=sR (rF (PO O) (0:Int)) fun _=>some ((decide ((O.length:Int)≤(20:Int))))
section
variable (O:oU)
abbrev a52:List pN:=[(.val (.list .str) O,none)]
abbrev a54:List pM:=[]
@[go_sem] def a55:pR:=⟨[((yP O)).isSome=true],[(.val .bool (val (yP O)),none)],[]⟩
def aFv:List pN→List pM→Option pR:=qU (V:=oU) (a52) (fun x=>a54) fun x=>a55 x
@[go_sem] def aP1:aFv (no_index (a52 O)) (no_index a54)=some (a55 O):=qV (fun a0 b0 h1 h2=>by cases h1;cases h2;rfl) O
end
@[go_sem] abbrev a56:Nat×qC:=(46,⟨[.v],aFv,[],[],none⟩)
def GE:qM Tryz.prog [rG,tG] (qO [UB]):=⟨⟨rJ,⟨tT,trivial⟩⟩,pU a50 qS,qQ⟩
def aFw:qE Tryz.prog a56:=by
 refine qW GE Tryz.func46 (c:=_) rfl (N:=19) pE (ts:=[(2,none)]) rfl (fun _ _=>rfl) ?_;intro O hs hrow;dsimp only[a52,a54,a55,qR,pX,qD,qI,qT,Nat.reduceAdd] at hs hrow|-;have hz:=hs;obtain⟨z0,e⟩:=aQF.1 hz
 try rw[r8 e]
 clear hz hs;unfold yP at e;refine pL GE ?_;refine pW ?_;refine pL GE ?_;refine qY ?_;obtain⟨y1,hy1,e⟩:=tN e;refine sE 0 (fun s=> ∃v,y1= .inl v∧s=(fun _=>⟨[(0,(.val (.list .str) O,none))],[],0,19,0⟩) v) ?_ ?_
 .refine sC hy1 (fun x=>⟨[(0,(.val (.list .str) O,none)),(3,(.val (.int .i64) x,none))],[],0,19,0⟩) ⟨[0,3],[]⟩ pF ?_;intro Z w1 n1 f g;unfold PO at f;dsimp only at f|-;refine pW ?_;refine pL GE ?_;refine pY f (fun f hc1=> ?_) (fun f hc1=> ?_)
  .refine qG (pT (pW (qY ?_)));obtain⟨hg1,f⟩:=pP f;obtain⟨aA,hv2,hw2,f⟩:=q8 f
   try simp only[go_sem] at hw2
   refine pL GE ?_ (hp:=by exact⟨hg1,(pZ hv2)⟩) (h:=by simp only[go_sem,hw2];rfl);refine pY f (fun f hc2=> ?_) (fun f hc2=> ?_)
   .refine pL GE ?_;refine pV (r6 (qP (tM (tQ (r6 (qP ?_))))));cases f;cases g;dsimp only at e;cases e;exact oV []
   .refine qG (r5 (pT ?_));obtain⟨hg3,f⟩:=pP f;refine qJ GE ?_ (hp:=by exact hg3);cases f;exact rT ⟨⟨[0,3],[]⟩,_,by rfl,g⟩
  .refine s8 (s7 (sA ?_));cases f;cases g;exact s9 ⟨⟨[0],[]⟩,_,rfl,by rfl⟩
 .rintro _ ⟨v,rfl,rfl⟩;dsimp only at e|-;refine sD (pT ?_);refine pL GE ?_;refine pV ?_;cases e;exact oV []
def PP (O:(List qK)):Int→Option (Int⊕(Unit⊕Bool)):=fun Z=>if (decide (Z<(O.length:Int)))=true then if 0≤Z∧Z<(O.length:Int) then (G7 ((qB (.pair .str (.pair .str .unit)) O Z).1)).bind fun aA=>if (((!aA)==false)=true→0≤Z∧Z<(O.length:Int)) then if (((!aA)==false)=true→((D6 ((qB (.pair .str (.pair .str .unit)) O Z).2.1))).isSome=true) then if (((((!aA)||(!((decide ((((qB (.pair .str (.pair .str .unit)) O Z).2.1).length:Int)≤(4000:Int)))&&(val (tU ((qB (.pair .str (.pair .str .unit)) O Z).2.1))))))==false)&&((decide ((0:Int)<Z))==true))=true→0≤Z∧Z<(O.length:Int)) then if (((((!aA)||(!((decide ((((qB (.pair .str (.pair .str .unit)) O Z).2.1).length:Int)≤(4000:Int)))&&(val (tU ((qB (.pair .str (.pair .str .unit)) O Z).2.1))))))==false)&&((decide ((0:Int)<Z))==true))=true→pO (Z- (1:Int))) then if (((((!aA)||(!((decide ((((qB (.pair .str (.pair .str .unit)) O Z).2.1).length:Int)≤(4000:Int)))&&(val (tU ((qB (.pair .str (.pair .str .unit)) O Z).2.1))))))==false)&&((decide ((0:Int)<Z))==true))=true→0≤(Z- (1:Int))∧(Z- (1:Int))<(O.length:Int)) then if (((!aA)||(!((decide ((((qB (.pair .str (.pair .str .unit)) O Z).2.1).length:Int)≤(4000:Int)))&&(val (tU ((qB (.pair .str (.pair .str .unit)) O Z).2.1))))))||((decide ((0:Int)<Z))&&(Op.bytesLess (qB (.pair .str (.pair .str .unit)) O Z).1 (qB (.pair .str (.pair .str .unit)) O (Z- (1:Int))).1||decide ((qB (.pair .str (.pair .str .unit)) O Z).1=(qB (.pair .str (.pair .str .unit)) O (Z- (1:Int))).1))))=true then some (.inr (.inr (false))) else if pO (Z+(1:Int)) then some (.inl (Z+(1:Int))) else none else none else none else none else none else none else none else some (.inr (.inl ()))
def AX (O:(List qK)):Option Bool:=sR (rF (PP O) (0:Int)) fun _=>some ((decide ((O.length:Int)≤(20:Int))))
section
variable (O:(List qK))
abbrev a57:List pN:=[(.val (.list (.pair .str (.pair .str .unit))) O,none)]
abbrev a58:List pM:=[]
@[go_sem] def a59:pR:=⟨[((AX O)).isSome=true],[(.val .bool (val (AX O)),none)],[]⟩
def aFx:List pN→List pM→Option pR:=qU (V:=(List qK)) (a57) (fun x=>a58) fun x=>a59 x
@[go_sem] def aP2:aFx (no_index (a57 O)) (no_index a58)=some (a59 O):=qV (fun a0 b0 h1 h2=>by cases h1;cases h2;rfl) O
end
@[go_sem] abbrev a6a:Nat×qC:=(48,⟨[.v],aFx,[],[],none⟩)
def GF:qM Tryz.prog [rG,vH,A2] (qO [a4h,UB]):=⟨⟨rJ,⟨vX,⟨BM,trivial⟩⟩⟩,pU aEA (pU a50 qS),qQ⟩
def aFy:qE Tryz.prog a6a:=by
 refine qW GF Tryz.func48 (c:=_) rfl (N:=47) pE (ts:=[(2,none)]) rfl (fun _ _=>rfl) ?_;intro O hs hrow;dsimp only[a57,a58,a59,qR,pX,qD,qI,qT,Nat.reduceAdd] at hs hrow|-;have hz:=hs;obtain⟨z0,e⟩:=aQF.1 hz
 try rw[r8 e]
 clear hz hs;unfold AX at e;refine pL GF ?_;refine pW ?_;refine pL GF ?_;refine qY ?_;obtain⟨y1,hy1,e⟩:=tN e;refine sE 0 (fun s=> ∃v,y1= .inl v∧s=(fun _=>⟨[(0,(.val (.list (.pair .str (.pair .str .unit))) O,none))],[],0,47,0⟩) v) ?_ ?_
 .refine sC hy1 (fun x=>⟨[(0,(.val (.list (.pair .str (.pair .str .unit))) O,none)),(3,(.val (.int .i64) x,none))],[],0,47,0⟩) ⟨[0,3],[]⟩ pF ?_;intro Z w1 n1 f g;unfold PP at f;dsimp only at f|-;refine pW ?_;refine pL GF ?_;refine pY f (fun f hc1=> ?_) (fun f hc1=> ?_)
  .refine qG (pT (pW (qY ?_)));obtain⟨hg1,f⟩:=pP f;obtain⟨aA,hv2,hw2,f⟩:=q8 f
   try simp only[go_sem] at hw2
   obtain⟨hg3,f⟩:=pP f;obtain⟨hg4,f⟩:=pP f;obtain⟨hg5,f⟩:=pP f;obtain⟨hg6,f⟩:=pP f;obtain⟨hg7,f⟩:=pP f;refine tW GF ?_ (hp:=by exact⟨hg1,pZ hv2,id,id,hg3,id,id,id,hg4,id,rU,id,id,id,id,hg5,id,id,id,hg6,id,id,hg7,id,id,id,id,id,fun hG d=>KD hG d,rU⟩) (h:=by simp only[go_sem,hw2];rfl);refine pY f (fun f hc2=> ?_) (fun f hc2=> ?_)
   .refine pL GF ?_;refine pV (r6 (qP (tM (tQ (r6 (qP ?_))))));cases f;cases g;dsimp only at e;cases e;exact oV []
   .refine qG (r5 (pT ?_));obtain⟨hg8,f⟩:=pP f;refine qJ GF ?_ (hp:=by exact hg8);cases f;exact rT ⟨⟨[0,3],[]⟩,_,by rfl,g⟩
  .refine s8 (s7 (sA ?_));cases f;cases g;exact s9 ⟨⟨[0],[]⟩,_,rfl,by rfl⟩
 .rintro _ ⟨v,rfl,rfl⟩;dsimp only at e|-;refine sD (pT ?_);refine pL GF ?_;refine pV ?_;cases e;exact oV []
def IU (O:oU):Option Unit:=if (((decide ((O.length:Int)≤(20:Int)))==true)=true→((zF O)).isSome=true) then some (()) else none
section
variable (O:oU)
abbrev a6b:List pN:=[(.val (.list .str) O,none)]
abbrev a6c:List pM:=[]
@[go_sem] def a6d:pR:=⟨[((IU O)).isSome=true],[(.val .bool ((decide ((O.length:Int)≤(20:Int)))&&(!(val (zF O)))),none)],[]⟩
def aFz:List pN→List pM→Option pR:=qU (V:=oU) (a6b) (fun x=>a6c) fun x=>a6d x
@[go_sem] def aP3:aFz (no_index (a6b O)) (no_index a6c)=some (a6d O):=qV (fun a0 b0 h1 h2=>by cases h1;cases h2;rfl) O
end
@[go_sem] abbrev a6e:Nat×qC:=(64,⟨[.v],aFz,[],[],none⟩)
def a6f:qM Tryz.prog [tG] (qO [aFs]):=⟨⟨tT,trivial⟩,pU aL1 qS,qQ⟩
def aFA:qE Tryz.prog a6e:=by
 refine qW a6f Tryz.func64 (c:=_) rfl (N:=11) pE (ts:=[(2,none)]) rfl (fun _ _=>rfl) ?_;intro O hs hrow;dsimp only[a6b,a6c,a6d,qR,pX,qD,qI,qT,Nat.reduceAdd] at hs hrow|-;have hz:=hs;obtain⟨z0,e⟩:=aQF.1 hz
 try rw[r8 e]
 clear hz hs;unfold IU at e;refine pL a6f ?_;obtain⟨hg1,e⟩:=pP e;refine pL a6f ?_ (hp:=by exact⟨id,hg1,id,rI⟩);refine pV ?_;cases e;exact oV []
def GG (O:sH):Option Bool:=if ((((decide (O.1=([]:oT)))||(decide ((200:Int)<(O.1.length:Int))))==false)=true→((BT O.1)).isSome=true) then if (((((decide (O.1=([]:oT)))||(decide ((200:Int)<(O.1.length:Int))))||(!((decide ((O.1.length:Int)≤(4000:Int)))&&(Lib.validD O.1))))||(decide (O.2.2.2.2.2.1<(0:Int))))||(decide ((4:Int)<O.2.2.2.2.2.1)))=true then some (false) else (BT O.2.1).bind fun Z=>if ((((decide ((O.2.1.length:Int)≤(4000:Int)))&&(Lib.validD O.2.1))==true)=true→((BT O.2.2.1)).isSome=true) then if (((((decide ((O.2.1.length:Int)≤(4000:Int)))&&(Lib.validD O.2.1))&&((decide ((O.2.2.1.length:Int)≤(4000:Int)))&&(Lib.validD O.2.2.1)))==true)=true→((IU O.2.2.2.1)).isSome=true) then if ((((((decide ((O.2.1.length:Int)≤(4000:Int)))&&(Lib.validD O.2.1))&&((decide ((O.2.2.1.length:Int)≤(4000:Int)))&&(Lib.validD O.2.2.1)))&&((decide ((O.2.2.2.1.length:Int)≤(20:Int)))&&(!(val (zF O.2.2.2.1)))))==true)=true→((E8 O.2.2.2.2.1)).isSome=true) then if (((((((decide ((O.2.1.length:Int)≤(4000:Int)))&&(Lib.validD O.2.1))&&((decide ((O.2.2.1.length:Int)≤(4000:Int)))&&(Lib.validD O.2.2.1)))&&((decide ((O.2.2.2.1.length:Int)≤(20:Int)))&&(!(val (zF O.2.2.2.1)))))&&(val (E8 O.2.2.2.2.1)))==true)=true→((D3 O.2.2.2.2.2.2.1)).isSome=true) then some (((((((decide ((O.2.1.length:Int)≤(4000:Int)))&&(Lib.validD O.2.1))&&((decide ((O.2.2.1.length:Int)≤(4000:Int)))&&(Lib.validD O.2.2.1)))&&((decide ((O.2.2.2.1.length:Int)≤(20:Int)))&&(!(val (zF O.2.2.2.1)))))&&(val (E8 O.2.2.2.2.1)))&&(val (D3 O.2.2.2.2.2.2.1)))) else none else none else none else none else none
section
variable (O:sH)
abbrev a6g:List pN:=[(.val rN O,none)]
abbrev a6h:List pM:=[]
@[go_sem] def a6i:pR:=⟨[((GG O)).isSome=true],[(.val .bool (val (GG O)),none)],[]⟩
def aFB:List pN→List pM→Option pR:=qU (V:=sH) (a6g) (fun x=>a6h) fun x=>a6i x
@[go_sem] def aP4:aFB (no_index (a6g O)) (no_index a6h)=some (a6i O):=qV (fun a0 b0 h1 h2=>by cases h1;cases h2;rfl) O
end
@[go_sem] abbrev aFC:Nat×qC:=(66,⟨[.v],aFB,[],[],none⟩)
def PQ:qM Tryz.prog [u7,rG,tG,vH,vG] (qO [P5,a6e,aCV,a5l]):=⟨⟨uF,⟨rJ,⟨tT,⟨vX,⟨vW,trivial⟩⟩⟩⟩⟩,pU U7 (pU aFA (pU aLf (pU aFa qS))),qQ⟩
def aL2:qE Tryz.prog aFC:=by
 refine qW PQ Tryz.func66 (c:=_) rfl (N:=51) pE (ts:=[(2,none)]) rfl (fun _ _=>rfl) ?_;intro O hs hrow;dsimp only[a6g,a6h,a6i,qR,pX,qD,qI,qT,Nat.reduceAdd] at hs hrow|-;have hz:=hs;obtain⟨z0,e⟩:=aQF.1 hz
 try rw[r8 e]
 clear hz hs;unfold GG at e;refine pL PQ ?_;refine pW ?_;obtain⟨hg1,e⟩:=pP e;refine pL PQ ?_ (hp:=by exact⟨id,id,id,rU,id,id,hg1,id,rU,id,id,rU,id,id,rU⟩);refine pY e (fun e hc1=> ?_) (fun e hc1=> ?_)
 .refine pL PQ ?_;refine pV (qP ?_);cases e;exact oV []
 .refine qG (pT ?_);obtain⟨Z,hv2,hw2,e⟩:=q8 e
  try simp only[go_sem] at hw2
  obtain⟨hg3,e⟩:=pP e;obtain⟨hg4,e⟩:=pP e;obtain⟨hg5,e⟩:=pP e;obtain⟨hg6,e⟩:=pP e;refine pL PQ ?_ (hp:=by exact⟨pZ hv2,id,id,hg3,rI,id,id,hg4,rI,id,id,hg5,rI,id,id,hg6,rI⟩) (h:=by simp only[go_sem,hw2];rfl);refine pV ?_;cases e;exact oV []
def GH (O:oT):Option oT:=(IS (4:Int) O).bind fun Z=>some (Z)
section
variable (O:oT)
abbrev a6j:List pN:=[(.val .str O,none)]
abbrev a6k:List pM:=[]
@[go_sem] def a6l:pR:=⟨[((GH O)).isSome=true],[(.val .str (val (GH O)),none)],[]⟩
def aFD:List pN→List pM→Option pR:=qU (V:=oT) (a6j) (fun x=>a6k) fun x=>a6l x
@[go_sem] def aP5:aFD (no_index (a6j O)) (no_index a6k)=some (a6l O):=qV (fun a0 b0 h1 h2=>by cases h1;cases h2;rfl) O
end
@[go_sem] abbrev a6m:Nat×qC:=(68,⟨[.v],aFD,[],[],none⟩)
def a6n:qM Tryz.prog [] (qO [aFi]):=⟨trivial,pU aLX qS,qQ⟩
def aFE:qE Tryz.prog a6m:=by
 refine qW a6n Tryz.func68 (c:=_) rfl (N:=5) pE (ts:=[(2,none)]) rfl (fun _ _=>rfl) ?_;intro O hs hrow;dsimp only[a6j,a6k,a6l,qR,pX,qD,qI,qT,Nat.reduceAdd] at hs hrow|-;have hz:=hs;obtain⟨z0,e⟩:=aQF.1 hz
 try rw[r8 e]
 clear hz hs;unfold GH at e;refine pL a6n ?_;obtain⟨Z,hv1,hw1,e⟩:=q8 e
 try simp only[go_sem] at hw1
 refine pL a6n ?_ (hp:=by exact(pZ hv1)) (h:=by simp only[go_sem,hw1];rfl);refine pV ?_;cases e;exact oV []
def IV (O:rS):Option Bool:=(IJ O.1).bind fun Z=>if ((Z==true)=true→((yP O.2.1)).isSome=true) then if (((Z&&(val (yP O.2.1)))==true)=true→((AX O.2.2.1)).isSome=true) then some (((Z&&(val (yP O.2.1)))&&(val (AX O.2.2.1)))) else none else none
section
variable (O:rS)
abbrev a6o:List pN:=[(.val vM O,none)]
abbrev a6p:List pM:=[]
@[go_sem] def a6q:pR:=⟨[((IV O)).isSome=true],[(.val .bool (val (IV O)),none)],[]⟩
def aFF:List pN→List pM→Option pR:=qU (V:=rS) (a6o) (fun x=>a6p) fun x=>a6q x
@[go_sem] def aP6:aFF (no_index (a6o O)) (no_index a6p)=some (a6q O):=qV (fun a0 b0 h1 h2=>by cases h1;cases h2;rfl) O
end
@[go_sem] abbrev aFG:Nat×qC:=(44,⟨[.v],aFF,[],[],none⟩)
def a6r:qM Tryz.prog [rG,tG,vH,x5] (qO [aEy,a56,a6a]):=⟨⟨rJ,⟨tT,⟨vX,⟨y6,trivial⟩⟩⟩⟩,pU aLG (pU aFw (pU aFy qS)),qQ⟩
def aL3:qE Tryz.prog aFG:=by
 refine qW a6r Tryz.func44 (c:=_) rfl (N:=16) pE (ts:=[(2,none)]) rfl (fun _ _=>rfl) ?_;intro O hs hrow;dsimp only[a6o,a6p,a6q,qR,pX,qD,qI,qT,Nat.reduceAdd] at hs hrow|-;have hz:=hs;obtain⟨z0,e⟩:=aQF.1 hz
 try rw[r8 e]
 clear hz hs;unfold IV at e;refine pL a6r ?_;obtain⟨Z,hv1,hw1,e⟩:=q8 e
 try simp only[go_sem] at hw1
 obtain⟨hg2,e⟩:=pP e;obtain⟨hg3,e⟩:=pP e;refine pL a6r ?_ (hp:=by exact⟨pZ hv1,id,id,hg2,rI,id,id,hg3,rI⟩) (h:=by simp only[go_sem,hw1];rfl);refine pV ?_;cases e;exact oV []
attribute [irreducible] D6 yP AX IU GG GH IV
end
noncomputable section
def D7 (O:oT) (Z:oT) (aA:oT) (aB:oT):Option oT:=if ((([10]:oT)++O).length:Int)≤9223372036854775807 then if (((([10]:oT)++O)++([60]:oT)).length:Int)≤9223372036854775807 then if ((((([10]:oT)++O)++([60]:oT))++Z).length:Int)≤9223372036854775807 then if (((((([10]:oT)++O)++([60]:oT))++Z)++([62]:oT)).length:Int)≤9223372036854775807 then (D5 aB).bind fun aC=>if ((((((([10]:oT)++O)++([60]:oT))++Z)++([62]:oT))++aC).length:Int)≤9223372036854775807 then if (((((((([10]:oT)++O)++([60]:oT))++Z)++([62]:oT))++aC)++([60,47]:oT)).length:Int)≤9223372036854775807 then if ((((((((([10]:oT)++O)++([60]:oT))++Z)++([62]:oT))++aC)++([60,47]:oT))++aA).length:Int)≤9223372036854775807 then if (((((((((([10]:oT)++O)++([60]:oT))++Z)++([62]:oT))++aC)++([60,47]:oT))++aA)++([62]:oT)).length:Int)≤9223372036854775807 then some (((((((((([10]:oT)++O)++([60]:oT))++Z)++([62]:oT))++aC)++([60,47]:oT))++aA)++([62]:oT))) else none else none else none else none else none else none else none else none
section
variable (O:oT) (Z:oT) (aA:oT) (aB:oT)
abbrev a6s:List pN:=[(.val .str O,none),(.val .str Z,none),(.val .str aA,none),(.val .str aB,none)]
abbrev a6t:List pM:=[]
@[go_sem] def a6u:pR:=⟨[((D7 O Z aA aB)).isSome=true],[(.val .str (val (D7 O Z aA aB)),none)],[]⟩
def aFH:List pN→List pM→Option pR:=qU (V:=(oT×oT×oT×oT)) (fun x=>a6s x.1 x.2.1 x.2.2.1 x.2.2.2) (fun x=>a6t) fun x=>a6u x.1 x.2.1 x.2.2.1 x.2.2.2
@[go_sem] def aP7:aFH (no_index (a6s O Z aA aB)) (no_index a6t)=some (a6u O Z aA aB):=qV (fun⟨a0,a1,a2,a3⟩ ⟨b0,b1,b2,b3⟩ h1 h2=>by cases h1;cases h2;rfl) (O,Z,aA,aB)
end
@[go_sem] abbrev UC:Nat×qC:=(72,⟨[.v,.v,.v,.v],aFH,[],[],none⟩)
def a6v:qM Tryz.prog [] (qO [PN]):=⟨trivial,pU UA qS,qQ⟩
def a6w:qE Tryz.prog UC:=by
 refine qW a6v Tryz.func72 (c:=_) rfl (N:=22) pE (ts:=[(8,none)]) rfl (fun _ _=>rfl) ?_;intro⟨O,Z,aA,aB⟩ hs hrow;dsimp only[a6s,a6t,a6u,qR,pX,qD,qI,qT,Nat.reduceAdd] at hs hrow|-;have hz:=hs;obtain⟨z0,e⟩:=aQF.1 hz
 try rw[r8 e]
 clear hz hs;unfold D7 at e;refine pL a6v ?_;obtain⟨hg1,e⟩:=pP e;obtain⟨hg2,e⟩:=pP e;obtain⟨hg3,e⟩:=pP e;obtain⟨hg4,e⟩:=pP e;obtain⟨aC,hv5,hw5,e⟩:=q8 e
 try simp only[go_sem] at hw5
 obtain⟨hg6,e⟩:=pP e;obtain⟨hg7,e⟩:=pP e;obtain⟨hg8,e⟩:=pP e;obtain⟨hg9,e⟩:=pP e;refine pL a6v ?_ (hp:=by exact⟨hg1,hg2,hg3,hg4,pZ hv5,hg6,hg7,hg8,hg9⟩) (h:=by simp only[go_sem,hw5];rfl);refine pV ?_;cases e;exact oV []
def aFI (O:p6):(Int×p6)→Option ((Int×p6)⊕p6):=fun(Z,aA)=>if (decide (Z<(O.length:Int)))=true then if 0≤Z∧Z<(O.length:Int) then if (!(((decide ((0:Int)≤(qB (.int .i64) O Z)))&&(decide ((qB (.int .i64) O Z)≤(1114111:Int))))&&((decide ((qB (.int .i64) O Z)<(55296:Int)))||(decide ((57343:Int)<(qB (.int .i64) O Z))))))=true then (GD (aA,()) (IntKind.wrap .i32 (65533:Int))).bind fun aB=>if pO (Z+(1:Int)) then some (.inl ((Z+(1:Int)),aB.2)) else none else (GD (aA,()) (IntKind.wrap .i32 (qB (.int .i64) O Z))).bind fun aC=>if pO (Z+(1:Int)) then some (.inl ((Z+(1:Int)),aC.2)) else none else none else some (.inr aA)
def PR (O:p6):Option oT:=sG (rF (aFI O) ((0:Int),([]:p6))) fun Z=>some ((sN Z))
section
variable (O:p6)
abbrev a6x:List pN:=[(.val (.list (.int .i64)) O,none)]
abbrev a6y:List pM:=[]
@[go_sem] def a6z:pR:=⟨[((PR O)).isSome=true],[(.val .str (val (PR O)),none)],[]⟩
def aFJ:List pN→List pM→Option pR:=qU (V:=p6) (a6x) (fun x=>a6y) fun x=>a6z x
@[go_sem] def aP8:aFJ (no_index (a6x O)) (no_index a6y)=some (a6z O):=qV (fun a0 b0 h1 h2=>by cases h1;cases h2;rfl) O
end
@[go_sem] abbrev aFK:Nat×qC:=(235,⟨[.v],aFJ,[],[],none⟩)
def A9:qM Tryz.prog [u7,OE,CW,E4] (qO [aDN,aFo,DY]):=⟨⟨uF,⟨a0n,⟨FV,⟨I7,trivial⟩⟩⟩⟩,pU aLt (pU aLZ (pU KL qS)),qQ⟩
def aL4:qE Tryz.prog aFK:=by
 refine qW A9 Tryz.func235 (c:=_) rfl (N:=20) pE (ts:=[(2,none)]) rfl (fun _ _=>rfl) ?_;intro O hs hrow;dsimp only[a6x,a6y,a6z,qR,pX,qD,qI,qT,Nat.reduceAdd] at hs hrow|-;have hz:=hs;obtain⟨z0,e⟩:=aQF.1 hz
 try rw[r8 e]
 clear hz hs;unfold PR at e;refine pL A9 ?_;refine pL A9 ?_;refine pW ?_;refine pL A9 ?_;refine qY ?_;obtain⟨Z,hy1,e⟩:=r9 e;refine sE 0 (fun s=>s=(fun x=>⟨[(3,(.val .ref (some (0,0)),none))],[(0,.cells uP ((some (0,0)),(x,())) [(1,1)]),(1,.grow 5 1 (x.length))],2,20,0⟩) Z) ?_ ?_
 .refine sC hy1 (fun x=>⟨[(3,(.val .ref (some (0,0)),none)),(6,(.val (.list (.int .i64)) O,none)),(7,(.val (.int .i64) (O.length:Int),none)),(8,(.val (.int .i64) x.1,none))],[(0,.cells uP ((some (0,0)),(x.2,())) [(1,1)]),(1,.grow 5 1 (x.2.length))],2,20,0⟩) ⟨[3,6,7,8],[(0,32),(1,33)]⟩ pF ?_;intro x1 w1 n1 f g;obtain⟨aA,aB⟩:=x1;unfold aFI at f;dsimp only at f|-;refine pL A9 ?_;refine pW ?_;refine pY f (fun f hc1=> ?_) (fun f hc1=> ?_)
  .refine qG (pT (pW (qY ?_)));obtain⟨hg1,f⟩:=pP f;refine pL A9 ?_ (hp:=by exact hg1);refine pW ?_;refine pL A9 ?_;refine pY f (fun f hc2=> ?_) (fun f hc2=> ?_)
   .refine qJ A9 ?_;refine pT ?_;obtain⟨aC,hv2,hw2,f⟩:=q8 f
    try simp only[go_sem] at hw2
    refine qJ A9 ?_ (hp:=by exact⟨pD,(pZ hv2)⟩) (h:=by simp only[go_sem,hw2];rfl)
    refine r5 (pT ?_);obtain⟨hg3,f⟩:=pP f;refine qJ A9 ?_ (hp:=by exact hg3);cases f;exact rT ⟨⟨[3,6,7,8],[(0,0),(1,1)]⟩,_,by rfl,g⟩
   .refine qG (pT ?_);obtain⟨aD,hv4,hw4,f⟩:=q8 f
    try simp only[go_sem] at hw4
    refine qJ A9 ?_ (hp:=by exact⟨pD,(pZ hv4)⟩) (h:=by simp only[go_sem,hw4];rfl)
    refine r5 (pT ?_);obtain⟨hg5,f⟩:=pP f;refine qJ A9 ?_ (hp:=by exact hg5);cases f;exact rT ⟨⟨[3,6,7,8],[(0,0),(1,1)]⟩,_,by rfl,g⟩
  .refine s8 (s7 (sA ?_));cases f;cases g;exact s9 ⟨⟨[3],[(0,0),(1,1)]⟩,by rfl⟩
 .rintro _ rfl;dsimp only at e|-;refine sD (pT ?_);refine pL A9 ?_ (hp:=by first|rfl|trivial)
  refine pV ?_;cases e;exact oV []
def LJ (O:sH):Option Unit:=if ((((!decide (O.1=([]:oT)))&&(decide ((O.1.length:Int)≤(200:Int))))==true)=true→((D6 O.1)).isSome=true) then if (((((!decide (O.1=([]:oT)))&&(decide ((O.1.length:Int)≤(200:Int))))&&((decide ((O.1.length:Int)≤(4000:Int)))&&(val (tU O.1))))==true)=true→((D6 O.2.1)).isSome=true) then if ((((((!decide (O.1=([]:oT)))&&(decide ((O.1.length:Int)≤(200:Int))))&&((decide ((O.1.length:Int)≤(4000:Int)))&&(val (tU O.1))))&&((decide ((O.2.1.length:Int)≤(4000:Int)))&&(val (tU O.2.1))))==true)=true→((D6 O.2.2.1)).isSome=true) then if (((((((!decide (O.1=([]:oT)))&&(decide ((O.1.length:Int)≤(200:Int))))&&((decide ((O.1.length:Int)≤(4000:Int)))&&(val (tU O.1))))&&((decide ((O.2.1.length:Int)≤(4000:Int)))&&(val (tU O.2.1))))&&((decide ((O.2.2.1.length:Int)≤(4000:Int)))&&(val (tU O.2.2.1))))==true)=true→((yP O.2.2.2.1)).isSome=true) then if ((((((((!decide (O.1=([]:oT)))&&(decide ((O.1.length:Int)≤(200:Int))))&&((decide ((O.1.length:Int)≤(4000:Int)))&&(val (tU O.1))))&&((decide ((O.2.1.length:Int)≤(4000:Int)))&&(val (tU O.2.1))))&&((decide ((O.2.2.1.length:Int)≤(4000:Int)))&&(val (tU O.2.2.1))))&&(val (yP O.2.2.2.1)))==true)=true→((BX O.2.2.2.2.1)).isSome=true) then if (((((((((((!decide (O.1=([]:oT)))&&(decide ((O.1.length:Int)≤(200:Int))))&&((decide ((O.1.length:Int)≤(4000:Int)))&&(val (tU O.1))))&&((decide ((O.2.1.length:Int)≤(4000:Int)))&&(val (tU O.2.1))))&&((decide ((O.2.2.1.length:Int)≤(4000:Int)))&&(val (tU O.2.2.1))))&&(val (yP O.2.2.2.1)))&&(val (BX O.2.2.2.2.1)))&&(decide ((0:Int)≤O.2.2.2.2.2.1)))&&(decide (O.2.2.2.2.2.1≤(4:Int))))==true)=true→((AX O.2.2.2.2.2.2.1)).isSome=true) then some (()) else none else none else none else none else none else none
section
variable (O:sH)
abbrev a6A:List pN:=[(.val rN O,none)]
abbrev a6B:List pM:=[]
@[go_sem] def a6C:pR:=⟨[((LJ O)).isSome=true],[(.val .bool ((((((((((!decide (O.1=([]:oT)))&&(decide ((O.1.length:Int)≤(200:Int))))&&((decide ((O.1.length:Int)≤(4000:Int)))&&(val (tU O.1))))&&((decide ((O.2.1.length:Int)≤(4000:Int)))&&(val (tU O.2.1))))&&((decide ((O.2.2.1.length:Int)≤(4000:Int)))&&(val (tU O.2.2.1))))&&(val (yP O.2.2.2.1)))&&(val (BX O.2.2.2.2.1)))&&(decide ((0:Int)≤O.2.2.2.2.2.1)))&&(decide (O.2.2.2.2.2.1≤(4:Int))))&&(val (AX O.2.2.2.2.2.2.1))),none)],[]⟩
def aFL:List pN→List pM→Option pR:=qU (V:=sH) (a6A) (fun x=>a6B) fun x=>a6C x
@[go_sem] def aP9:aFL (no_index (a6A O)) (no_index a6B)=some (a6C O):=qV (fun a0 b0 h1 h2=>by cases h1;cases h2;rfl) O
end
@[go_sem] abbrev aFM:Nat×qC:=(24,⟨[.v],aFL,[],[],none⟩)
def a6D:qM Tryz.prog [u7,rG,tG,vH,vG] (qO [UB,a56,aE8,a6a]):=⟨⟨uF,⟨rJ,⟨tT,⟨vX,⟨vW,trivial⟩⟩⟩⟩⟩,pU a50 (pU aFw (pU aLT (pU aFy qS))),qQ⟩
def aL5:qE Tryz.prog aFM:=by
 refine qW a6D Tryz.func24 (c:=_) rfl (N:=52) pE (ts:=[(2,none)]) rfl (fun _ _=>rfl) ?_;intro O hs hrow;dsimp only[a6A,a6B,a6C,qR,pX,qD,qI,qT,Nat.reduceAdd] at hs hrow|-;have hz:=hs;obtain⟨z0,e⟩:=aQF.1 hz
 try rw[r8 e]
 clear hz hs;unfold LJ at e;refine pL a6D ?_;obtain⟨hg1,e⟩:=pP e;obtain⟨hg2,e⟩:=pP e;obtain⟨hg3,e⟩:=pP e;obtain⟨hg4,e⟩:=pP e;obtain⟨hg5,e⟩:=pP e;obtain⟨hg6,e⟩:=pP e;refine pL a6D ?_ (hp:=by exact⟨id,id,id,rI,id,id,hg1,rI,id,id,hg2,rI,id,id,hg3,rI,id,id,hg4,rI,id,id,hg5,rI,id,id,rI,id,id,rI,id,id,hg6,rI⟩);refine pV ?_;cases e;exact oV []
def IW (O:rS):(Int×p4)→Option ((Int×p4)⊕(Unit⊕Bool)):=fun(Z,aA)=>if (decide (Z<(O.2.2.2.1.length:Int)))=true then if 0≤Z∧Z<(O.2.2.2.1.length:Int) then if (((rM .str .bool aA ((qB rN O.2.2.2.1 Z).1))==false)=true→((GG (qB rN O.2.2.2.1 Z))).isSome=true) then if ((rM .str .bool aA ((qB rN O.2.2.2.1 Z).1))||(!(val (GG (qB rN O.2.2.2.1 Z)))))=true then some (.inr (.inr (false))) else if pO (Z+(1:Int)) then some (.inl ((Z+(1:Int)),(tO .str .bool ((qB rN O.2.2.2.1 Z).1) true aA))) else none else none else none else some (.inr (.inl ()))
def IX (O:rS):Option Bool:=(BP O.1).bind fun Z=>if (((!Z)==false)=true→((IU O.2.1)).isSome=true) then if ((((!Z)||(!((decide ((O.2.1.length:Int)≤(20:Int)))&&(!(val (zF O.2.1))))))==false)=true→((D3 O.2.2.1)).isSome=true) then if ((((!Z)||(!((decide ((O.2.1.length:Int)≤(20:Int)))&&(!(val (zF O.2.1))))))||(!(val (D3 O.2.2.1))))||(decide ((1000:Int)<(O.2.2.2.1.length:Int))))=true then some (false) else sR (rF (IW O) ((0:Int),([]:p4))) fun _=>some (true) else none else none
section
variable (O:rS)
abbrev a6E:List pN:=[(.val vM O,none)]
abbrev a6F:List pM:=[]
@[go_sem] def a6G:pR:=⟨[((IX O)).isSome=true],[(.val .bool (val (IX O)),none)],[]⟩
def aFN:List pN→List pM→Option pR:=qU (V:=rS) (a6E) (fun x=>a6F) fun x=>a6G x
@[go_sem] def aQa:aFN (no_index (a6E O)) (no_index a6F)=some (a6G O):=qV (fun a0 b0 h1 h2=>by cases h1;cases h2;rfl) O
end
@[go_sem] abbrev aFO:Nat×qC:=(36,⟨[.v],aFN,[],[],none⟩)
def AA:qM Tryz.prog [yO,rG,tG,vH,BL,x5,vG,FW] (qO [TY,a6e,a5l,aFC]):=⟨⟨A5,⟨rJ,⟨tT,⟨vX,⟨E3,⟨y6,⟨vW,⟨KT,trivial⟩⟩⟩⟩⟩⟩⟩⟩,pU a08 (pU aFA (pU aFa (pU aL2 qS))),qQ⟩
def aL6:qE Tryz.prog aFO:=by
 refine qW AA Tryz.func36 (c:=_) rfl (N:=49) pE (ts:=[(2,none)]) rfl (fun _ _=>rfl) ?_;intro O hs hrow;dsimp only[a6E,a6F,a6G,qR,pX,qD,qI,qT,Nat.reduceAdd] at hs hrow|-;have hz:=hs;obtain⟨z0,e⟩:=aQF.1 hz
 try rw[r8 e]
 clear hz hs;unfold IX at e;refine pL AA ?_;refine pW ?_;obtain⟨Z,hv1,hw1,e⟩:=q8 e
 try simp only[go_sem] at hw1
 obtain⟨hg2,e⟩:=pP e;obtain⟨hg3,e⟩:=pP e;refine pL AA ?_ (hp:=by exact⟨pZ hv1,id,id,hg2,id,rU,id,id,hg3,id,rU,id,id,id,rU⟩) (h:=by simp only[go_sem,hw1];rfl);refine pY e (fun e hc1=> ?_) (fun e hc1=> ?_)
 .refine pL AA ?_;refine pV (qP ?_);cases e;exact oV []
 .refine qG (pT ?_);refine pL AA ?_;refine pW ?_;refine pL AA ?_;refine qY ?_;obtain⟨y1,hy1,e⟩:=tN e;refine sE 0 (fun s=> ∃v,y1= .inl v∧s=(fun _=>⟨[],[],0,49,0⟩) v) ?_ ?_
  .refine sC hy1 (fun x=>⟨[(3,(.val .mp (some 0),none)),(30,(.val (.list rN) O.2.2.2.1,none)),(31,(.val (.int .i64) (O.2.2.2.1.length:Int),none)),(32,(.val (.int .i64) x.1,none))],[(0,.map .str .bool x.2)],1,49,0⟩) ⟨[3,30,31,32],[(0,768)]⟩ pF ?_;intro x1 w1 n1 f g;obtain⟨aA,aB⟩:=x1;unfold IW at f;dsimp only at f|-;refine pL AA ?_;refine pW ?_;refine pY f (fun f hc2=> ?_) (fun f hc2=> ?_)
   .refine qG (pT (pW (qY ?_)));obtain⟨hg4,f⟩:=pP f;refine pL AA ?_ (hp:=by exact hg4);refine pW ?_;obtain⟨hg5,f⟩:=pP f;refine pL AA ?_ (hp:=by exact⟨id,hg5,id,rU⟩);refine pY f (fun f hc3=> ?_) (fun f hc3=> ?_)
    .refine pL AA ?_;refine pV (qP (r6 (qP (tM (tQ (r6 (qP ?_)))))));cases f;cases g;dsimp only at e;cases e;exact oV []
    .refine qG (pT ?_);refine qJ AA ?_;refine r5 (pT ?_);obtain⟨hg6,f⟩:=pP f;refine qJ AA ?_ (hp:=by exact hg6);cases f;exact rT ⟨⟨[3,30,31,32],[(0,0)]⟩,_,by rfl,g⟩
   .refine s8 (s7 (sA ?_));cases f;cases g;exact s9 ⟨⟨[],[]⟩,_,rfl,by rfl⟩
  .rintro _ ⟨v,rfl,rfl⟩;dsimp only at e|-;refine sD (pT ?_);refine pL AA ?_;refine pV ?_;cases e;exact oV []
def LK (O:Int):Option oT:=(PR ([O]:p6)).bind fun Z=>some (Z)
section
variable (O:Int)
abbrev a6H:List pN:=[(.val (.int .i64) O,none)]
abbrev a6I:List pM:=[]
@[go_sem] def a6J:pR:=⟨[((LK O)).isSome=true],[(.val .str (val (LK O)),none),(.val .bool ((decide (O≤(1114111:Int)))&&((decide (O<(55296:Int)))||(decide ((57343:Int)<O)))),none)],[]⟩
def aFP:List pN→List pM→Option pR:=qU (V:=Int) (a6H) (fun x=>a6I) fun x=>a6J x
@[go_sem] def aQb:aFP (no_index (a6H O)) (no_index a6I)=some (a6J O):=qV (fun a0 b0 h1 h2=>by cases h1;cases h2;rfl) O
end
@[go_sem] abbrev a6K:Nat×qC:=(227,⟨[.v],aFP,[],[],none⟩)
def UD:qM Tryz.prog [CW] (qO [aFK]):=⟨⟨FV,trivial⟩,pU aL4 qS,qQ⟩
def aFQ:qE Tryz.prog a6K:=by
 refine qW UD Tryz.func227 (c:=_) rfl (N:=19) pE (ts:=[(2,none),(3,none)]) rfl (fun _ _=>rfl) ?_;intro O hs hrow;dsimp only[a6H,a6I,a6J,qR,pX,qD,qI,qT,Nat.reduceAdd] at hs hrow|-;have hz:=hs;obtain⟨z0,e⟩:=aQF.1 hz
 try rw[r8 e]
 clear hz hs;unfold LK at e;refine pL UD ?_;refine pL UD ?_ (hp:=by exact⟨id,id,id,id,fun hG d=>CN hG d,rI⟩);obtain⟨Z,hv1,hw1,e⟩:=q8 e
 try simp only[go_sem] at hw1
 refine pL UD ?_ (hp:=by exact(pZ hv1)) (h:=by simp only[go_sem,hw1];rfl);refine pV ?_;cases e;exact oV []
attribute [irreducible] D7 PR LJ IX LK
end
noncomputable section
def PS (O:oT) (Z:oU):(oT×Int)→Option ((oT×Int)⊕oT):=fun(aA,aB)=>if (decide (aB<(Z.length:Int)))=true then if 0≤aB∧aB<(Z.length:Int) then (D7 O ([99,111,109,109,101,110,116]:oT) ([99,111,109,109,101,110,116]:oT) (qB .str Z aB)).bind fun aC=>if ((aA++aC).length:Int)≤9223372036854775807 then if pO (aB+(1:Int)) then some (.inl ((aA++aC),(aB+(1:Int)))) else none else none else none else some (.inr aA)
def GI (O:oT) (Z:oU):Option oT:=sG (rF (PS O Z) (([]:oT),(0:Int))) fun aA=>some (aA)
section
variable (O:oT) (Z:oU)
abbrev a6L:List pN:=[(.val .str O,none),(.val (.list .str) Z,none)]
abbrev a6M:List pM:=[]
@[go_sem] def a6N:pR:=⟨[((GI O Z)).isSome=true],[(.val .str (val (GI O Z)),none)],[]⟩
def aFR:List pN→List pM→Option pR:=qU (V:=(oT×oU)) (fun x=>a6L x.1 x.2) (fun x=>a6M) fun x=>a6N x.1 x.2
@[go_sem] def aQc:aFR (no_index (a6L O Z)) (no_index a6M)=some (a6N O Z):=qV (fun⟨a0,a1⟩ ⟨b0,b1⟩ h1 h2=>by cases h1;cases h2;rfl) (O,Z)
end
@[go_sem] abbrev a6O:Nat×qC:=(40,⟨[.v,.v],aFR,[],[],none⟩)
def GJ:qM Tryz.prog [rG,tG] (qO [UC]):=⟨⟨rJ,⟨tT,trivial⟩⟩,pU a6w qS,qQ⟩
def aFS:qE Tryz.prog a6O:=by
 refine qW GJ Tryz.func40 (c:=_) rfl (N:=22) pE (ts:=[(4,none)]) rfl (fun _ _=>rfl) ?_;intro⟨O,Z⟩ hs hrow;dsimp only[a6L,a6M,a6N,qR,pX,qD,qI,qT,Nat.reduceAdd] at hs hrow|-;have hz:=hs;obtain⟨z0,e⟩:=aQF.1 hz
 try rw[r8 e]
 clear hz hs;unfold GI at e;refine pL GJ ?_;refine pL GJ ?_;refine pW ?_;refine pL GJ ?_;refine qY ?_;obtain⟨aA,hy1,e⟩:=r9 e;refine sE 0 (fun s=>s=(fun x=>⟨[(5,(.val .str x,none))],[],0,22,0⟩) aA) ?_ ?_
 .refine sC hy1 (fun x=>⟨[(0,(.val .str O,none)),(1,(.val (.list .str) Z,none)),(5,(.val .str x.1,none)),(6,(.val (.int .i64) x.2,none))],[],0,22,0⟩) ⟨[0,1,5,6],[]⟩ pF ?_;intro x1 w1 n1 d f;obtain⟨aB,aC⟩:=x1;unfold PS at d;dsimp only at d|-;refine pW ?_;refine pL GJ ?_;refine pY d (fun d hc1=> ?_) (fun d hc1=> ?_)
  .refine qG (pT (pW (qY ?_)));obtain⟨hg1,d⟩:=pP d;obtain⟨aD,hv2,hw2,d⟩:=q8 d
   try simp only[go_sem] at hw2
   obtain⟨hg3,d⟩:=pP d;refine qJ GJ ?_ (hp:=by exact⟨hg1,pZ hv2,hg3⟩) (h:=by simp only[go_sem,hw2];rfl);refine r5 (pT ?_);obtain⟨hg4,d⟩:=pP d;refine qJ GJ ?_ (hp:=by exact hg4);cases d;exact rT ⟨⟨[0,1,5,6],[]⟩,_,by rfl,f⟩
  .refine s8 (s7 (sA ?_));cases d;cases f;exact s9 ⟨⟨[5],[]⟩,by rfl⟩
 .rintro _ rfl;dsimp only at e|-;refine sD (pT ?_);refine pL GJ ?_;refine pV ?_;cases e;exact oV []
def PT (O:oT) (Z:(List qK)):(oT×Int)→Option ((oT×Int)⊕oT):=fun(aA,aB)=>if (decide (aB<(Z.length:Int)))=true then if 0≤aB∧aB<(Z.length:Int) then (D5 ((qB (.pair .str (.pair .str .unit)) Z aB).1)).bind fun aC=>if ((([102,105,101,108,100,32,110,97,109,101,61,34]:oT)++aC).length:Int)≤9223372036854775807 then if (((([102,105,101,108,100,32,110,97,109,101,61,34]:oT)++aC)++([34]:oT)).length:Int)≤9223372036854775807 then if 0≤aB∧aB<(Z.length:Int) then (D7 O ((([102,105,101,108,100,32,110,97,109,101,61,34]:oT)++aC)++([34]:oT)) ([102,105,101,108,100]:oT) ((qB (.pair .str (.pair .str .unit)) Z aB).2.1)).bind fun aD=>if ((aA++aD).length:Int)≤9223372036854775807 then if pO (aB+(1:Int)) then some (.inl ((aA++aD),(aB+(1:Int)))) else none else none else none else none else none else none else some (.inr aA)
def EP (O:oT) (Z:(List qK)):Option oT:=sG (rF (PT O Z) (([]:oT),(0:Int))) fun aA=>some (aA)
section
variable (O:oT) (Z:(List qK))
abbrev a6P:List pN:=[(.val .str O,none),(.val (.list (.pair .str (.pair .str .unit))) Z,none)]
abbrev a6Q:List pM:=[]
@[go_sem] def a6R:pR:=⟨[((EP O Z)).isSome=true],[(.val .str (val (EP O Z)),none)],[]⟩
def aFT:List pN→List pM→Option pR:=qU (V:=(oT×(List qK))) (fun x=>a6P x.1 x.2) (fun x=>a6Q) fun x=>a6R x.1 x.2
@[go_sem] def aQd:aFT (no_index (a6P O Z)) (no_index a6Q)=some (a6R O Z):=qV (fun⟨a0,a1⟩ ⟨b0,b1⟩ h1 h2=>by cases h1;cases h2;rfl) (O,Z)
end
@[go_sem] abbrev a6S:Nat×qC:=(41,⟨[.v,.v],aFT,[],[],none⟩)
def GK:qM Tryz.prog [rG,vH,A2] (qO [PN,UC]):=⟨⟨rJ,⟨vX,⟨BM,trivial⟩⟩⟩,pU UA (pU a6w qS),qQ⟩
def aFU:qE Tryz.prog a6S:=by
 refine qW GK Tryz.func41 (c:=_) rfl (N:=31) pE (ts:=[(4,none)]) rfl (fun _ _=>rfl) ?_;intro⟨O,Z⟩ hs hrow;dsimp only[a6P,a6Q,a6R,qR,pX,qD,qI,qT,Nat.reduceAdd] at hs hrow|-;have hz:=hs;obtain⟨z0,e⟩:=aQF.1 hz
 try rw[r8 e]
 clear hz hs;unfold EP at e;refine pL GK ?_;refine pL GK ?_;refine pW ?_;refine pL GK ?_;refine qY ?_;obtain⟨aA,hy1,e⟩:=r9 e;refine sE 0 (fun s=>s=(fun x=>⟨[(5,(.val .str x,none))],[],0,31,0⟩) aA) ?_ ?_
 .refine sC hy1 (fun x=>⟨[(0,(.val .str O,none)),(1,(.val (.list (.pair .str (.pair .str .unit))) Z,none)),(5,(.val .str x.1,none)),(6,(.val (.int .i64) x.2,none))],[],0,31,0⟩) ⟨[0,1,5,6],[]⟩ pF ?_;intro x1 w1 n1 d f;obtain⟨aB,aC⟩:=x1;unfold PT at d;dsimp only at d|-;refine pW ?_;refine pL GK ?_;refine pY d (fun d hc1=> ?_) (fun d hc1=> ?_)
  .refine qG (pT (pW (qY ?_)));obtain⟨hg1,d⟩:=pP d;obtain⟨aD,hv2,hw2,d⟩:=q8 d
   try simp only[go_sem] at hw2
   obtain⟨hg3,d⟩:=pP d;obtain⟨hg4,d⟩:=pP d;obtain⟨hg5,d⟩:=pP d;obtain⟨aE,hv6,hw6,d⟩:=q8 d
   try simp only[go_sem] at hw6
   obtain⟨hg7,d⟩:=pP d;refine xN GK ?_ (hp:=by exact⟨hg1,pZ hv2,hg3,hg4,hg5,pZ hv6,hg7⟩) (h:=by simp only[go_sem,hw2,hw6];rfl);refine r5 (pT ?_);obtain⟨hg8,d⟩:=pP d;refine qJ GK ?_ (hp:=by exact hg8);cases d;exact rT ⟨⟨[0,1,5,6],[]⟩,_,by rfl,f⟩
  .refine s8 (s7 (sA ?_));cases d;cases f;exact s9 ⟨⟨[5],[]⟩,by rfl⟩
 .rintro _ rfl;dsimp only at e|-;refine sD (pT ?_);refine pL GK ?_;refine pV ?_;cases e;exact oV []
def LL (O:sH):(oT×Int)→Option ((oT×Int)⊕oT):=fun(Z,aA)=>if (decide (aA<(O.2.2.2.2.1.length:Int)))=true then sG (σ:=oT) (if (decide (aA=(0:Int)))=true then if ((Z++([32,102,108,97,103,115,61,34]:oT)).length:Int)≤9223372036854775807 then some ((Z++([32,102,108,97,103,115,61,34]:oT))) else none else if ((Z++([32]:oT)).length:Int)≤9223372036854775807 then some ((Z++([32]:oT))) else none ) fun aB=>if 0≤aA∧aA<(O.2.2.2.2.1.length:Int) then if ((aB++(qB .str O.2.2.2.2.1 aA)).length:Int)≤9223372036854775807 then if pO ((O.2.2.2.2.1.length:Int)- (1:Int)) then if (decide (aA=((O.2.2.2.2.1.length:Int)- (1:Int))))=true then if (((aB++(qB .str O.2.2.2.2.1 aA))++([34]:oT)).length:Int)≤9223372036854775807 then if pO (aA+(1:Int)) then some (.inl (((aB++(qB .str O.2.2.2.2.1 aA))++([34]:oT)),(aA+(1:Int)))) else none else none else if pO (aA+(1:Int)) then some (.inl ((aB++(qB .str O.2.2.2.2.1 aA)),(aA+(1:Int)))) else none else none else none else none else some (.inr Z)
def IY (O:sH):Option oT:=(D5 O.1).bind fun Z=>if ((([10,32,32,60,101,110,116,114,121,32,105,100,61,34]:oT)++Z).length:Int)≤9223372036854775807 then if (((([10,32,32,60,101,110,116,114,121,32,105,100,61,34]:oT)++Z)++([34]:oT)).length:Int)≤9223372036854775807 then sG (σ:=oT) (if (!decide (O.2.2.2.2.2.1=(0:Int)))=true then if ((((([10,32,32,60,101,110,116,114,121,32,105,100,61,34]:oT)++Z)++([34]:oT))++([32,115,116,97,116,101,61,34]:oT)).length:Int)≤9223372036854775807 then (KX O.2.2.2.2.2.1).bind fun aA=>if (((((([10,32,32,60,101,110,116,114,121,32,105,100,61,34]:oT)++Z)++([34]:oT))++([32,115,116,97,116,101,61,34]:oT))++(qB .str ([([110,101,119]:oT),([102,117,122,122,121]:oT),([116,114,97,110,115,108,97,116,101,100]:oT),([114,101,118,105,101,119,101,100]:oT),([111,98,115,111,108,101,116,101]:oT)]:oU) O.2.2.2.2.2.1)).length:Int)≤9223372036854775807 then if ((((((([10,32,32,60,101,110,116,114,121,32,105,100,61,34]:oT)++Z)++([34]:oT))++([32,115,116,97,116,101,61,34]:oT))++(qB .str ([([110,101,119]:oT),([102,117,122,122,121]:oT),([116,114,97,110,115,108,97,116,101,100]:oT),([114,101,118,105,101,119,101,100]:oT),([111,98,115,111,108,101,116,101]:oT)]:oU) O.2.2.2.2.2.1))++([34]:oT)).length:Int)≤9223372036854775807 then some ((((((([10,32,32,60,101,110,116,114,121,32,105,100,61,34]:oT)++Z)++([34]:oT))++([32,115,116,97,116,101,61,34]:oT))++(qB .str ([([110,101,119]:oT),([102,117,122,122,121]:oT),([116,114,97,110,115,108,97,116,101,100]:oT),([114,101,118,105,101,119,101,100]:oT),([111,98,115,111,108,101,116,101]:oT)]:oU) O.2.2.2.2.2.1))++([34]:oT))) else none else none else none else some (((([10,32,32,60,101,110,116,114,121,32,105,100,61,34]:oT)++Z)++([34]:oT))) ) fun aB=>sG (rF (LL O) (aB,(0:Int))) fun aC=>if ((aC++([62]:oT)).length:Int)≤9223372036854775807 then (GI ([32,32,32,32]:oT) O.2.2.2.1).bind fun aD=>if (((aC++([62]:oT))++aD).length:Int)≤9223372036854775807 then sG (σ:=oT) (if (!decide (O.2.1=([]:oT)))=true then (D7 ([32,32,32,32]:oT) ([115,111,117,114,99,101]:oT) ([115,111,117,114,99,101]:oT) O.2.1).bind fun aE=>if ((((aC++([62]:oT))++aD)++aE).length:Int)≤9223372036854775807 then some ((((aC++([62]:oT))++aD)++aE)) else none else some (((aC++([62]:oT))++aD)) ) fun aF=>if (!decide (O.2.2.1=([]:oT)))=true then (D7 ([32,32,32,32]:oT) ([116,97,114,103,101,116]:oT) ([116,97,114,103,101,116]:oT) O.2.2.1).bind fun aG=>if ((aF++aG).length:Int)≤9223372036854775807 then (EP ([32,32,32,32]:oT) O.2.2.2.2.2.2.1).bind fun aH=>if (((aF++aG)++aH).length:Int)≤9223372036854775807 then if ((((aF++aG)++aH)++([10,32,32,60,47,101,110,116,114,121,62]:oT)).length:Int)≤9223372036854775807 then some ((((aF++aG)++aH)++([10,32,32,60,47,101,110,116,114,121,62]:oT))) else none else none else none else (EP ([32,32,32,32]:oT) O.2.2.2.2.2.2.1).bind fun aI=>if ((aF++aI).length:Int)≤9223372036854775807 then if (((aF++aI)++([10,32,32,60,47,101,110,116,114,121,62]:oT)).length:Int)≤9223372036854775807 then some (((aF++aI)++([10,32,32,60,47,101,110,116,114,121,62]:oT))) else none else none else none else none else none else none
section
variable (O:sH)
abbrev a6T:List pN:=[(.val rN O,none)]
abbrev a6U:List pM:=[]
@[go_sem] def a6V:pR:=⟨[((IY O)).isSome=true],[(.val .str (val (IY O)),none)],[]⟩
def aFV:List pN→List pM→Option pR:=qU (V:=sH) (a6T) (fun x=>a6U) fun x=>a6V x
@[go_sem] def aQe:aFV (no_index (a6T O)) (no_index a6U)=some (a6V O):=qV (fun a0 b0 h1 h2=>by cases h1;cases h2;rfl) O
end
@[go_sem] abbrev aFW:Nat×qC:=(42,⟨[.v],aFV,[],[],none⟩)
def vZ:qM Tryz.prog [u7,rG,tG,vH,vG] (qO [PN,aCL,a6O,UC,a6S]):=⟨⟨uF,⟨rJ,⟨tT,⟨vX,⟨vW,trivial⟩⟩⟩⟩⟩,pU UA (pU aLd (pU aFS (pU a6w (pU aFU qS)))),qQ⟩
def aL7:qE Tryz.prog aFW:=by
 refine qW vZ Tryz.func42 (c:=_) rfl (N:=76) pE (ts:=[(2,none)]) rfl (fun _ _=>rfl) ?_;intro O hs hrow;dsimp only[a6T,a6U,a6V,qR,pX,qD,qI,qT,Nat.reduceAdd] at hs hrow|-;have hz:=hs;obtain⟨z0,e⟩:=aQF.1 hz
 try rw[r8 e]
 clear hz hs;unfold IY at e;refine pL vZ ?_;obtain⟨Z,hv1,hw1,e⟩:=q8 e
 try simp only[go_sem] at hw1
 obtain⟨hg2,e⟩:=pP e;obtain⟨hg3,e⟩:=pP e;refine pL vZ ?_ (hp:=by exact⟨pZ hv1,hg2,hg3⟩) (h:=by simp only[go_sem,hw1];rfl);refine pW ?_;refine pL vZ ?_;obtain⟨aA,d,e⟩:=r9 e;refine vF (fun s=>s=(fun x=>⟨[(1,(.val .ref (some (0,0)),none)),(3,(.val .str x,none))],[(0,.cells rN O [])],1,76,0⟩) aA) ?_ ?_
 .refine pY d (fun d hc1=> ?_) (fun d hc1=> ?_)
  .obtain⟨hg4,d⟩:=pP d;obtain⟨aB,hv5,hw5,d⟩:=q8 d
   try simp only[go_sem] at hw5
   obtain⟨hg6,d⟩:=pP d;obtain⟨hg7,d⟩:=pP d;refine qJ vZ ?_ (hp:=by exact⟨hg4,pZ hv5,hg6,hg7⟩) (h:=by simp only[go_sem,hw5];rfl);cases d;exact sB ⟨⟨[1,3],[(0,0)]⟩,by rfl⟩
  .refine qG ?_;cases d;exact sB ⟨⟨[1,3],[(0,0)]⟩,by rfl⟩
 .rintro _ rfl;dsimp only at e|-;refine pT (pW ?_);refine pL vZ ?_;refine qY ?_;obtain⟨aC,hy1,e⟩:=r9 e;refine sE 0 (fun s=>s=(fun x=>⟨[(1,(.val .ref (some (0,0)),none)),(3,(.val .str x,none))],[(0,.cells rN O [])],1,76,0⟩) aC) ?_ ?_
  .refine sC hy1 (fun x=>⟨[(1,(.val .ref (some (0,0)),none)),(3,(.val .str x.1,none)),(4,(.val (.int .i64) x.2,none))],[(0,.cells rN O [])],1,76,0⟩) ⟨[1,3,4],[(0,0)]⟩ pF ?_;intro x1 w1 n1 d f;obtain⟨aD,aE⟩:=x1;unfold LL at d;dsimp only at d|-;refine pW ?_;refine pL vZ ?_;refine pY d (fun d hc2=> ?_) (fun d hc2=> ?_)
   .refine qG (pT (pW (qY (pW ?_))));refine pL vZ ?_;obtain⟨aF,g,d⟩:=r9 d;refine vF (fun s=>s=(fun x=>⟨[(1,(.val .ref (some (0,0)),none)),(3,(.val .str x,none)),(4,(.val (.int .i64) aE,none))],[(0,.cells rN O [])],1,76,0⟩) aF) ?_ ?_
    .refine pY g (fun g hc3=> ?_) (fun g hc3=> ?_)
     .obtain⟨hg8,g⟩:=pP g;refine qJ vZ ?_ (hp:=by exact hg8);cases g;exact sB ⟨⟨[1,3,4],[(0,0)]⟩,by rfl⟩
     .obtain⟨hg9,g⟩:=pP g;refine qJ vZ ?_ (hp:=by exact hg9);cases g;exact sB ⟨⟨[1,3,4],[(0,0)]⟩,by rfl⟩
    .rintro _ rfl;dsimp only at d|-;refine pT ?_;obtain⟨hg10,d⟩:=pP d;obtain⟨hg11,d⟩:=pP d;refine pL vZ ?_ (hp:=by exact⟨hg10,hg11⟩);obtain⟨hg12,d⟩:=pP d;refine pL vZ ?_ (hp:=by exact hg12);refine pY d (fun d hc4=> ?_) (fun d hc4=> ?_)
     .obtain⟨hg13,d⟩:=pP d;refine qJ vZ ?_ (hp:=by exact hg13);refine r5 (pT ?_);obtain⟨hg14,d⟩:=pP d;refine qJ vZ ?_ (hp:=by exact hg14);cases d;exact rT ⟨⟨[1,3,4],[(0,0)]⟩,_,by rfl,f⟩
     .refine qG (r5 (pT ?_));obtain⟨hg15,d⟩:=pP d;refine qJ vZ ?_ (hp:=by exact hg15);cases d;exact rT ⟨⟨[1,3,4],[(0,0)]⟩,_,by rfl,f⟩
   .refine s8 (s7 (sA ?_));cases d;cases f;exact s9 ⟨⟨[1,3],[(0,0)]⟩,by rfl⟩
  .rintro _ rfl;dsimp only at e|-;refine sD (pT ?_);obtain⟨hg16,e⟩:=pP e;obtain⟨aG,hv17,hw17,e⟩:=q8 e
   try simp only[go_sem] at hw17
   obtain⟨hg18,e⟩:=pP e;refine pL vZ ?_ (hp:=by exact⟨hg16,pZ hv17,hg18⟩) (h:=by simp only[go_sem,hw17];rfl);refine pW ?_;refine pL vZ ?_;obtain⟨aH,d,e⟩:=r9 e;refine vF (fun s=>s=(fun x=>⟨[(1,(.val .ref (some (0,0)),none)),(3,(.val .str x,none))],[(0,.cells rN O [])],1,76,0⟩) aH) ?_ ?_
   .refine pY d (fun d hc5=> ?_) (fun d hc5=> ?_)
    .obtain⟨aI,hv19,hw19,d⟩:=q8 d
     try simp only[go_sem] at hw19
     obtain⟨hg20,d⟩:=pP d;refine qJ vZ ?_ (hp:=by exact⟨pZ hv19,hg20⟩) (h:=by simp only[go_sem,hw19];rfl);cases d;exact sB ⟨⟨[1,3],[(0,0)]⟩,by rfl⟩
    .refine qG ?_;cases d;exact sB ⟨⟨[1,3],[(0,0)]⟩,by rfl⟩
   .rintro _ rfl;dsimp only at e|-;refine pT (pW ?_);refine pL vZ ?_;refine pY e (fun e hc6=> ?_) (fun e hc6=> ?_)
    .obtain⟨aJ,hv21,hw21,e⟩:=q8 e
     try simp only[go_sem] at hw21
     obtain⟨hg22,e⟩:=pP e;refine qJ vZ ?_ (hp:=by exact⟨pZ hv21,hg22⟩) (h:=by simp only[go_sem,hw21];rfl);refine pT ?_;obtain⟨aK,hv23,hw23,e⟩:=q8 e
     try simp only[go_sem] at hw23
     obtain⟨hg24,e⟩:=pP e;obtain⟨hg25,e⟩:=pP e;refine pL vZ ?_ (hp:=by exact⟨pZ hv23,hg24,hg25⟩) (h:=by simp only[go_sem,hw23];rfl);refine pV ?_;cases e;exact oV []
    .refine qG (pT ?_);obtain⟨aL,hv26,hw26,e⟩:=q8 e
     try simp only[go_sem] at hw26
     obtain⟨hg27,e⟩:=pP e;obtain⟨hg28,e⟩:=pP e;refine pL vZ ?_ (hp:=by exact⟨pZ hv26,hg27,hg28⟩) (h:=by simp only[go_sem,hw26];rfl);refine pV ?_;cases e;exact oV []
attribute [irreducible] GI EP IY
end
noncomputable section
def BY (O:oT) (Z:oT) (aA:oT) (aB:oT):Option oT:=if ((([10]:oT)++O).length:Int)≤9223372036854775807 then if (((([10]:oT)++O)++([60]:oT)).length:Int)≤9223372036854775807 then if ((((([10]:oT)++O)++([60]:oT))++Z).length:Int)≤9223372036854775807 then if (((((([10]:oT)++O)++([60]:oT))++Z)++aA).length:Int)≤9223372036854775807 then if ((((((([10]:oT)++O)++([60]:oT))++Z)++aA)++([62]:oT)).length:Int)≤9223372036854775807 then (GH aB).bind fun aC=>if (((((((([10]:oT)++O)++([60]:oT))++Z)++aA)++([62]:oT))++aC).length:Int)≤9223372036854775807 then if ((((((((([10]:oT)++O)++([60]:oT))++Z)++aA)++([62]:oT))++aC)++([60,47]:oT)).length:Int)≤9223372036854775807 then if (((((((((([10]:oT)++O)++([60]:oT))++Z)++aA)++([62]:oT))++aC)++([60,47]:oT))++Z).length:Int)≤9223372036854775807 then if ((((((((((([10]:oT)++O)++([60]:oT))++Z)++aA)++([62]:oT))++aC)++([60,47]:oT))++Z)++([62]:oT)).length:Int)≤9223372036854775807 then some ((((((((((([10]:oT)++O)++([60]:oT))++Z)++aA)++([62]:oT))++aC)++([60,47]:oT))++Z)++([62]:oT))) else none else none else none else none else none else none else none else none else none
section
variable (O:oT) (Z:oT) (aA:oT) (aB:oT)
abbrev a6W:List pN:=[(.val .str O,none),(.val .str Z,none),(.val .str aA,none),(.val .str aB,none)]
abbrev a6X:List pM:=[]
@[go_sem] def a6Y:pR:=⟨[((BY O Z aA aB)).isSome=true],[(.val .str (val (BY O Z aA aB)),none)],[]⟩
def aFX:List pN→List pM→Option pR:=qU (V:=(oT×oT×oT×oT)) (fun x=>a6W x.1 x.2.1 x.2.2.1 x.2.2.2) (fun x=>a6X) fun x=>a6Y x.1 x.2.1 x.2.2.1 x.2.2.2
@[go_sem] def aQf:aFX (no_index (a6W O Z aA aB)) (no_index a6X)=some (a6Y O Z aA aB):=qV (fun⟨a0,a1,a2,a3⟩ ⟨b0,b1,b2,b3⟩ h1 h2=>by cases h1;cases h2;rfl) (O,Z,aA,aB)
end
@[go_sem] abbrev a6Z:Nat×qC:=(67,⟨[.v,.v,.v,.v],aFX,[],[],none⟩)
def a60:qM Tryz.prog [] (qO [a6m]):=⟨trivial,pU aFE qS,qQ⟩
def aFY:qE Tryz.prog a6Z:=by
 refine qW a60 Tryz.func67 (c:=_) rfl (N:=24) pE (ts:=[(8,none)]) rfl (fun _ _=>rfl) ?_;intro⟨O,Z,aA,aB⟩ hs hrow;dsimp only[a6W,a6X,a6Y,qR,pX,qD,qI,qT,Nat.reduceAdd] at hs hrow|-;have hz:=hs;obtain⟨z0,e⟩:=aQF.1 hz
 try rw[r8 e]
 clear hz hs;unfold BY at e;refine pL a60 ?_;obtain⟨hg1,e⟩:=pP e;obtain⟨hg2,e⟩:=pP e;obtain⟨hg3,e⟩:=pP e;obtain⟨hg4,e⟩:=pP e;obtain⟨hg5,e⟩:=pP e;obtain⟨aC,hv6,hw6,e⟩:=q8 e
 try simp only[go_sem] at hw6
 obtain⟨hg7,e⟩:=pP e;obtain⟨hg8,e⟩:=pP e;obtain⟨hg9,e⟩:=pP e;obtain⟨hg10,e⟩:=pP e;refine pL a60 ?_ (hp:=by exact⟨hg1,hg2,hg3,hg4,hg5,pZ hv6,hg7,hg8,hg9,hg10⟩) (h:=by simp only[go_sem,hw6];rfl);refine pV ?_;cases e;exact oV []
def PU (O:rS):Int→Option (Int⊕(Unit⊕Bool)):=fun Z=>if (decide (Z<(O.2.2.2.1.length:Int)))=true then if 0≤Z∧Z<(O.2.2.2.1.length:Int) then (FX O ((qB rN O.2.2.2.1 Z).1)).bind fun aA=>if (((!decide (aA.1=Z))==false)=true→0≤Z∧Z<(O.2.2.2.1.length:Int)) then if (((!decide (aA.1=Z))==false)=true→((LJ (qB rN O.2.2.2.1 Z))).isSome=true) then if ((!decide (aA.1=Z))||(!((((((((((!decide (((qB rN O.2.2.2.1 Z).1)=([]:oT)))&&(decide ((((qB rN O.2.2.2.1 Z).1).length:Int)≤(200:Int))))&&((decide ((((qB rN O.2.2.2.1 Z).1).length:Int)≤(4000:Int)))&&(val (tU ((qB rN O.2.2.2.1 Z).1)))))&&((decide ((((qB rN O.2.2.2.1 Z).2.1).length:Int)≤(4000:Int)))&&(val (tU ((qB rN O.2.2.2.1 Z).2.1)))))&&((decide ((((qB rN O.2.2.2.1 Z).2.2.1).length:Int)≤(4000:Int)))&&(val (tU ((qB rN O.2.2.2.1 Z).2.2.1)))))&&(val (yP ((qB rN O.2.2.2.1 Z).2.2.2.1))))&&(val (BX ((qB rN O.2.2.2.1 Z).2.2.2.2.1))))&&(decide ((0:Int)≤((qB rN O.2.2.2.1 Z).2.2.2.2.2.1))))&&(decide (((qB rN O.2.2.2.1 Z).2.2.2.2.2.1)≤(4:Int))))&&(val (AX ((qB rN O.2.2.2.1 Z).2.2.2.2.2.2.1))))))=true then some (.inr (.inr (false))) else if pO (Z+(1:Int)) then some (.inl (Z+(1:Int))) else none else none else none else none else some (.inr (.inl ()))
def IZ (O:rS):Option Bool:=(IV O).bind fun Z=>if ((!Z)||(decide ((1000:Int)<(O.2.2.2.1.length:Int))))=true then some (false) else sR (rF (PU O) (0:Int)) fun _=>some (true)
section
variable (O:rS)
abbrev a61:List pN:=[(.val vM O,none)]
abbrev a62:List pM:=[]
@[go_sem] def a63:pR:=⟨[((IZ O)).isSome=true],[(.val .bool (val (IZ O)),none)],[]⟩
def aFZ:List pN→List pM→Option pR:=qU (V:=rS) (a61) (fun x=>a62) fun x=>a63 x
@[go_sem] def aQg:aFZ (no_index (a61 O)) (no_index a62)=some (a63 O):=qV (fun a0 b0 h1 h2=>by cases h1;cases h2;rfl) O
end
@[go_sem] abbrev aF0:Nat×qC:=(22,⟨[.v],aFZ,[],[],none⟩)
def BZ:qM Tryz.prog [rG,BL,x5,vG] (qO [aFG,aCw,aFM]):=⟨⟨rJ,⟨E3,⟨y6,⟨vW,trivial⟩⟩⟩⟩,pU aL3 (pU aLa (pU aL5 qS)),qQ⟩
def aL8:qE Tryz.prog aF0:=by
 refine qW BZ Tryz.func22 (c:=_) rfl (N:=45) pE (ts:=[(2,none)]) rfl (fun _ _=>rfl) ?_;intro O hs hrow;dsimp only[a61,a62,a63,qR,pX,qD,qI,qT,Nat.reduceAdd] at hs hrow|-;have hz:=hs;obtain⟨z0,e⟩:=aQF.1 hz
 try rw[r8 e]
 clear hz hs;unfold IZ at e;refine pL BZ ?_;refine pW ?_;obtain⟨Z,hv1,hw1,e⟩:=q8 e
 try simp only[go_sem] at hw1
 refine pL BZ ?_ (hp:=by exact⟨pZ hv1,id,id,id,rU⟩) (h:=by simp only[go_sem,hw1];rfl);refine pY e (fun e hc1=> ?_) (fun e hc1=> ?_)
 .refine pL BZ ?_;refine pV (qP ?_);cases e;exact oV []
 .refine qG (pT (pW ?_));refine pL BZ ?_;refine qY ?_;obtain⟨y1,hy1,e⟩:=tN e;refine sE 0 (fun s=> ∃v,y1= .inl v∧s=(fun _=>⟨[],[],0,45,0⟩) v) ?_ ?_
  .refine sC hy1 (fun x=>⟨[(1,(.val .ref (some (0,0)),none)),(3,(.val (.int .i64) x,none))],[(0,.cells vM O [])],1,45,0⟩) ⟨[1,3],[(0,0)]⟩ pF ?_;intro aA w1 n1 d g;unfold PU at d;dsimp only at d|-;refine pW ?_;refine pL BZ ?_;refine pY d (fun d hc2=> ?_) (fun d hc2=> ?_)
   .refine qG (pT (pW (qY ?_)));obtain⟨hg2,d⟩:=pP d;obtain⟨aB,hv3,hw3,d⟩:=q8 d
    try simp only[go_sem] at hw3
    refine tW BZ ?_ (hp:=by exact⟨hg2,(pZ hv3)⟩) (h:=by simp only[go_sem,hw3];rfl);obtain⟨hg4,d⟩:=pP d;obtain⟨hg5,d⟩:=pP d;refine pL BZ ?_ (hp:=by exact⟨id,id,id,hg4,id,id,hg5,id,rU⟩);refine pY d (fun d hc3=> ?_) (fun d hc3=> ?_)
    .refine pL BZ ?_;refine pV (r6 (qP (tM (tQ (r6 (qP ?_))))));cases d;cases g;dsimp only at e;cases e;exact oV []
    .refine qG (r5 (pT ?_));obtain⟨hg6,d⟩:=pP d;refine qJ BZ ?_ (hp:=by exact hg6);cases d;exact rT ⟨⟨[1,3],[(0,0)]⟩,_,by rfl,g⟩
   .refine s8 (s7 (sA ?_));cases d;cases g;exact s9 ⟨⟨[],[]⟩,_,rfl,by rfl⟩
  .rintro _ ⟨v,rfl,rfl⟩;dsimp only at e|-;refine sD (pT ?_);refine pL BZ ?_;refine pV ?_;cases e;exact oV []
def PV (O:oT) (Z:oU):(oT×Int)→Option ((oT×Int)⊕oT):=fun(aA,aB)=>if (decide (aB<(Z.length:Int)))=true then if 0≤aB∧aB<(Z.length:Int) then (BY O ([99,111,109,109,101,110,116]:oT) ([]:oT) (qB .str Z aB)).bind fun aC=>if ((aA++aC).length:Int)≤9223372036854775807 then if pO (aB+(1:Int)) then some (.inl ((aA++aC),(aB+(1:Int)))) else none else none else none else some (.inr aA)
def LM (O:oT) (Z:(List qK)):(oT×Int)→Option ((oT×Int)⊕oT):=fun(aA,aB)=>if (decide (aB<(Z.length:Int)))=true then if 0≤aB∧aB<(Z.length:Int) then if ((([32,110,97,109,101,61,34]:oT)++(qB (.pair .str (.pair .str .unit)) Z aB).1).length:Int)≤9223372036854775807 then if (((([32,110,97,109,101,61,34]:oT)++(qB (.pair .str (.pair .str .unit)) Z aB).1)++([34]:oT)).length:Int)≤9223372036854775807 then (BY O ([102,105,101,108,100]:oT) ((([32,110,97,109,101,61,34]:oT)++(qB (.pair .str (.pair .str .unit)) Z aB).1)++([34]:oT)) ((qB (.pair .str (.pair .str .unit)) Z aB).2.1)).bind fun aC=>if ((aA++aC).length:Int)≤9223372036854775807 then if pO (aB+(1:Int)) then some (.inl ((aA++aC),(aB+(1:Int)))) else none else none else none else none else none else some (.inr aA)
def EQ (O:oT) (Z:oU) (aA:oT) (aB:(List qK)):Option oT:=sG (rF (PV O Z) (([]:oT),(0:Int))) fun aC=>if ((aC++aA).length:Int)≤9223372036854775807 then sG (rF (LM O aB) ((aC++aA),(0:Int))) fun aD=>some (aD) else none
section
variable (O:oT) (Z:oU) (aA:oT) (aB:(List qK))
abbrev a64:List pN:=[(.val .str O,none),(.val (.list .str) Z,none),(.val .str aA,none),(.val (.list (.pair .str (.pair .str .unit))) aB,none)]
abbrev a65:List pM:=[]
@[go_sem] def a66:pR:=⟨[((EQ O Z aA aB)).isSome=true],[(.val .str (val (EQ O Z aA aB)),none)],[]⟩
def aF1:List pN→List pM→Option pR:=qU (V:=(oT×oU×oT×(List qK))) (fun x=>a64 x.1 x.2.1 x.2.2.1 x.2.2.2) (fun x=>a65) fun x=>a66 x.1 x.2.1 x.2.2.1 x.2.2.2
@[go_sem] def aQh:aF1 (no_index (a64 O Z aA aB)) (no_index a65)=some (a66 O Z aA aB):=qV (fun⟨a0,a1,a2,a3⟩ ⟨b0,b1,b2,b3⟩ h1 h2=>by cases h1;cases h2;rfl) (O,Z,aA,aB)
end
@[go_sem] abbrev a67:Nat×qC:=(37,⟨[.v,.v,.v,.v],aF1,[],[],none⟩)
def yQ:qM Tryz.prog [rG,tG,vH,A2] (qO [a6Z]):=⟨⟨rJ,⟨tT,⟨vX,⟨BM,trivial⟩⟩⟩⟩,pU aFY qS,qQ⟩
def aF2:qE Tryz.prog a67:=by
 refine qW yQ Tryz.func37 (c:=_) rfl (N:=47) pE (ts:=[(8,none)]) rfl (fun _ _=>rfl) ?_;intro⟨O,Z,aA,aB⟩ hs hrow;dsimp only[a64,a65,a66,qR,pX,qD,qI,qT,Nat.reduceAdd] at hs hrow|-;have hz:=hs;obtain⟨z0,e⟩:=aQF.1 hz
 try rw[r8 e]
 clear hz hs;unfold EQ at e;refine pL yQ ?_;refine pL yQ ?_;refine pW ?_;refine pL yQ ?_;refine qY ?_;obtain⟨aC,hy1,e⟩:=r9 e;refine sE 0 (fun s=>s=(fun x=>⟨[(0,(.val .str O,none)),(2,(.val .str aA,none)),(3,(.val (.list (.pair .str (.pair .str .unit))) aB,none)),(9,(.val .str x,none))],[],0,47,0⟩) aC) ?_ ?_
 .refine sC hy1 (fun x=>⟨[(0,(.val .str O,none)),(2,(.val .str aA,none)),(3,(.val (.list (.pair .str (.pair .str .unit))) aB,none)),(9,(.val .str x.1,none)),(14,(.val (.list .str) Z,none)),(15,(.val (.int .i64) (Z.length:Int),none)),(16,(.val (.int .i64) x.2,none))],[],0,47,0⟩) ⟨[0,2,3,9,14,15,16],[]⟩ pF ?_;intro x1 w1 n1 d g;obtain⟨aD,aE⟩:=x1;unfold PV at d;dsimp only at d|-;refine pL yQ ?_;refine pW ?_;refine pY d (fun d hc1=> ?_) (fun d hc1=> ?_)
  .refine qG (pT (pW (qY ?_)));obtain⟨hg1,d⟩:=pP d;refine pL yQ ?_ (hp:=by exact hg1);obtain⟨aF,hv2,hw2,d⟩:=q8 d
   try simp only[go_sem] at hw2
   obtain⟨hg3,d⟩:=pP d;refine qJ yQ ?_ (hp:=by exact⟨pZ hv2,hg3⟩) (h:=by simp only[go_sem,hw2];rfl);refine r5 (pT ?_);obtain⟨hg4,d⟩:=pP d;refine qJ yQ ?_ (hp:=by exact hg4);cases d;exact rT ⟨⟨[0,2,3,9,14,15,16],[]⟩,_,by rfl,g⟩
  .refine s8 (s7 (sA ?_));cases d;cases g;exact s9 ⟨⟨[0,2,3,9],[]⟩,by rfl⟩
 .rintro _ rfl;dsimp only at e|-;refine sD (pT ?_);obtain⟨hg5,e⟩:=pP e;refine pL yQ ?_ (hp:=by exact hg5);refine pW ?_;refine pL yQ ?_;refine qY ?_;obtain⟨aG,hy1,e⟩:=r9 e;refine sE 2 (fun s=>s=(fun x=>⟨[(9,(.val .str x,none))],[],0,47,0⟩) aG) ?_ ?_
  .refine sC hy1 (fun x=>⟨[(0,(.val .str O,none)),(9,(.val .str x.1,none)),(29,(.val (.list (.pair .str (.pair .str .unit))) aB,none)),(30,(.val (.int .i64) (aB.length:Int),none)),(31,(.val (.int .i64) x.2,none))],[],0,47,0⟩) ⟨[0,9,29,30,31],[]⟩ pF ?_;intro x1 w1 n1 d g;obtain⟨aH,aI⟩:=x1;unfold LM at d;dsimp only at d|-;refine pL yQ ?_;refine pW ?_;refine pY d (fun d hc2=> ?_) (fun d hc2=> ?_)
   .refine qG (pT (pW (qY ?_)));obtain⟨hg6,d⟩:=pP d;refine pL yQ ?_ (hp:=by exact hg6);obtain⟨hg7,d⟩:=pP d;obtain⟨hg8,d⟩:=pP d;obtain⟨aJ,hv9,hw9,d⟩:=q8 d
    try simp only[go_sem] at hw9
    obtain⟨hg10,d⟩:=pP d;refine qJ yQ ?_ (hp:=by exact⟨hg7,hg8,pZ hv9,hg10⟩) (h:=by simp only[go_sem,hw9];rfl);refine r5 (pT ?_);obtain⟨hg11,d⟩:=pP d;refine qJ yQ ?_ (hp:=by exact hg11);cases d;exact rT ⟨⟨[0,9,29,30,31],[]⟩,_,by rfl,g⟩
   .refine s8 (s7 (sA ?_));cases d;cases g;exact s9 ⟨⟨[9],[]⟩,by rfl⟩
  .rintro _ rfl;dsimp only at e|-;refine sD (pT ?_);refine pL yQ ?_;refine pV ?_;cases e;exact oV []
attribute [irreducible] BY IZ EQ
end
noncomputable section
def J0 (O:sH):Option oT:=(GH O.1).bind fun Z=>if ((([10,32,32,60,101,110,116,114,121,32,105,100,61,34]:oT)++Z).length:Int)≤9223372036854775807 then if (((([10,32,32,60,101,110,116,114,121,32,105,100,61,34]:oT)++Z)++([34]:oT)).length:Int)≤9223372036854775807 then sG (σ:=oT) (if (!decide (O.2.2.2.2.2.1=(0:Int)))=true then if 0≤O.2.2.2.2.2.1∧O.2.2.2.2.2.1<(([([110,101,119]:oT),([102,117,122,122,121]:oT),([116,114,97,110,115,108,97,116,101,100]:oT),([114,101,118,105,101,119,101,100]:oT),([111,98,115,111,108,101,116,101]:oT)]:oU).length:Int) then if ((([32,115,116,97,116,101,61,34]:oT)++(qB .str ([([110,101,119]:oT),([102,117,122,122,121]:oT),([116,114,97,110,115,108,97,116,101,100]:oT),([114,101,118,105,101,119,101,100]:oT),([111,98,115,111,108,101,116,101]:oT)]:oU) O.2.2.2.2.2.1)).length:Int)≤9223372036854775807 then if (((([32,115,116,97,116,101,61,34]:oT)++(qB .str ([([110,101,119]:oT),([102,117,122,122,121]:oT),([116,114,97,110,115,108,97,116,101,100]:oT),([114,101,118,105,101,119,101,100]:oT),([111,98,115,111,108,101,116,101]:oT)]:oU) O.2.2.2.2.2.1))++([34]:oT)).length:Int)≤9223372036854775807 then if ((((([10,32,32,60,101,110,116,114,121,32,105,100,61,34]:oT)++Z)++([34]:oT))++((([32,115,116,97,116,101,61,34]:oT)++(qB .str ([([110,101,119]:oT),([102,117,122,122,121]:oT),([116,114,97,110,115,108,97,116,101,100]:oT),([114,101,118,105,101,119,101,100]:oT),([111,98,115,111,108,101,116,101]:oT)]:oU) O.2.2.2.2.2.1))++([34]:oT))).length:Int)≤9223372036854775807 then some ((((([10,32,32,60,101,110,116,114,121,32,105,100,61,34]:oT)++Z)++([34]:oT))++((([32,115,116,97,116,101,61,34]:oT)++(qB .str ([([110,101,119]:oT),([102,117,122,122,121]:oT),([116,114,97,110,115,108,97,116,101,100]:oT),([114,101,118,105,101,119,101,100]:oT),([111,98,115,111,108,101,116,101]:oT)]:oU) O.2.2.2.2.2.1))++([34]:oT)))) else none else none else none else none else some (((([10,32,32,60,101,110,116,114,121,32,105,100,61,34]:oT)++Z)++([34]:oT))) ) fun aA=>sG (σ:=oT) (if (decide ((0:Int)<(O.2.2.2.2.1.length:Int)))=true then if List.length O.2.2.2.2.1≤140737488355328∧List.length (z8 O.2.2.2.2.1 ([32]:oT))≤140737488355328 then if ((([32,102,108,97,103,115,61,34]:oT)++(z8 O.2.2.2.2.1 ([32]:oT))).length:Int)≤9223372036854775807 then if (((([32,102,108,97,103,115,61,34]:oT)++(z8 O.2.2.2.2.1 ([32]:oT)))++([34]:oT)).length:Int)≤9223372036854775807 then if ((aA++((([32,102,108,97,103,115,61,34]:oT)++(z8 O.2.2.2.2.1 ([32]:oT)))++([34]:oT))).length:Int)≤9223372036854775807 then some ((aA++((([32,102,108,97,103,115,61,34]:oT)++(z8 O.2.2.2.2.1 ([32]:oT)))++([34]:oT)))) else none else none else none else none else some (aA) ) fun aB=>sG (σ:=oT) (if (!decide (O.2.1=([]:oT)))=true then (BY ([32,32,32,32]:oT) ([115,111,117,114,99,101]:oT) ([]:oT) O.2.1).bind fun aC=>if ((([]:oT)++aC).length:Int)≤9223372036854775807 then some ((([]:oT)++aC)) else none else some (([]:oT)) ) fun aD=>if (!decide (O.2.2.1=([]:oT)))=true then (BY ([32,32,32,32]:oT) ([116,97,114,103,101,116]:oT) ([]:oT) O.2.2.1).bind fun aE=>if ((aD++aE).length:Int)≤9223372036854775807 then if ((aB++([62]:oT)).length:Int)≤9223372036854775807 then (EQ ([32,32,32,32]:oT) O.2.2.2.1 (aD++aE) O.2.2.2.2.2.2.1).bind fun aF=>if (((aB++([62]:oT))++aF).length:Int)≤9223372036854775807 then if ((((aB++([62]:oT))++aF)++([10,32,32,60,47,101,110,116,114,121,62]:oT)).length:Int)≤9223372036854775807 then some ((((aB++([62]:oT))++aF)++([10,32,32,60,47,101,110,116,114,121,62]:oT))) else none else none else none else none else if ((aB++([62]:oT)).length:Int)≤9223372036854775807 then (EQ ([32,32,32,32]:oT) O.2.2.2.1 aD O.2.2.2.2.2.2.1).bind fun aG=>if (((aB++([62]:oT))++aG).length:Int)≤9223372036854775807 then if ((((aB++([62]:oT))++aG)++([10,32,32,60,47,101,110,116,114,121,62]:oT)).length:Int)≤9223372036854775807 then some ((((aB++([62]:oT))++aG)++([10,32,32,60,47,101,110,116,114,121,62]:oT))) else none else none else none else none else none
section
variable (O:sH)
abbrev a68:List pN:=[(.val rN O,none)]
abbrev a69:List pM:=[]
@[go_sem] def a7a:pR:=⟨[((J0 O)).isSome=true],[(.val .str (val (J0 O)),none)],[]⟩
def aF3:List pN→List pM→Option pR:=qU (V:=sH) (a68) (fun x=>a69) fun x=>a7a x
@[go_sem] def aQi:aF3 (no_index (a68 O)) (no_index a69)=some (a7a O):=qV (fun a0 b0 h1 h2=>by cases h1;cases h2;rfl) O
end
@[go_sem] abbrev aF4:Nat×qC:=(38,⟨[.v],aF3,[],[],none⟩)
def zG:qM Tryz.prog [u7,rG,tG,vH,vG] (qO [a6m,P2,KP,a6Z,a67]):=⟨⟨uF,⟨rJ,⟨tT,⟨vX,⟨vW,trivial⟩⟩⟩⟩⟩,pU aFE (pU U3 (pU ZN (pU aFY (pU aF2 qS)))),qQ⟩
def aL9:qE Tryz.prog aF4:=by
 refine qW zG Tryz.func38 (c:=_) rfl (N:=59) pE (ts:=[(2,none)]) rfl (fun _ _=>rfl) ?_;intro O hs hrow;dsimp only[a68,a69,a7a,qR,pX,qD,qI,qT,Nat.reduceAdd] at hs hrow|-;have hz:=hs;obtain⟨z0,d⟩:=aQF.1 hz
 try rw[r8 d]
 clear hz hs;unfold J0 at d;refine pL zG ?_;obtain⟨Z,hv1,hw1,d⟩:=q8 d
 try simp only[go_sem] at hw1
 obtain⟨hg2,d⟩:=pP d;obtain⟨hg3,d⟩:=pP d;refine pL zG ?_ (hp:=by exact⟨pZ hv1,hg2,hg3⟩) (h:=by simp only[go_sem,hw1];rfl);refine pW ?_;refine pL zG ?_;obtain⟨aA,e,d⟩:=r9 d;refine vF (fun s=>s=(fun x=>⟨[(1,(.val .ref (some (0,0)),none)),(3,(.val .str x,none))],[(0,.cells rN O [])],1,59,0⟩) aA) ?_ ?_
 .refine pY e (fun e hc1=> ?_) (fun e hc1=> ?_)
  .obtain⟨hg4,e⟩:=pP e;obtain⟨hg5,e⟩:=pP e;obtain⟨hg6,e⟩:=pP e;obtain⟨hg7,e⟩:=pP e;refine xN zG ?_ (hp:=by exact⟨hg4,hg5,hg6,hg7⟩);cases e;exact sB ⟨⟨[1,3],[(0,0)]⟩,by rfl⟩
  .refine qG ?_;cases e;exact sB ⟨⟨[1,3],[(0,0)]⟩,by rfl⟩
 .rintro _ rfl;dsimp only at d|-;refine pT (pW ?_);refine pL zG ?_;obtain⟨aB,e,d⟩:=r9 d;refine vF (fun s=>s=(fun x=>⟨[(1,(.val .ref (some (0,0)),none)),(3,(.val .str x,none))],[(0,.cells rN O [])],1,59,0⟩) aB) ?_ ?_
  .refine pY e (fun e hc2=> ?_) (fun e hc2=> ?_)
   .obtain⟨hg8,e⟩:=pP e;obtain⟨hg9,e⟩:=pP e;obtain⟨hg10,e⟩:=pP e;obtain⟨hg11,e⟩:=pP e;refine qJ zG ?_ (hp:=by exact⟨hg8,hg9,hg10,hg11⟩);cases e;exact sB ⟨⟨[1,3],[(0,0)]⟩,by rfl⟩
   .refine qG ?_;cases e;exact sB ⟨⟨[1,3],[(0,0)]⟩,by rfl⟩
  .rintro _ rfl;dsimp only at d|-;refine pT ?_;refine pL zG ?_;refine pW ?_;refine pL zG ?_;obtain⟨aC,e,d⟩:=r9 d;refine vF (fun s=>s=(fun x=>⟨[(1,(.val .ref (some (0,0)),none)),(3,(.val .str aB,none)),(4,(.val .str x,none))],[(0,.cells rN O [])],1,59,0⟩) aC) ?_ ?_
   .refine pY e (fun e hc3=> ?_) (fun e hc3=> ?_)
    .obtain⟨aD,hv12,hw12,e⟩:=q8 e
     try simp only[go_sem] at hw12
     obtain⟨hg13,e⟩:=pP e;refine qJ zG ?_ (hp:=by exact⟨pZ hv12,hg13⟩) (h:=by simp only[go_sem,hw12];rfl);cases e;exact sB ⟨⟨[1,3,4],[(0,0)]⟩,by rfl⟩
    .refine qG ?_;cases e;exact sB ⟨⟨[1,3,4],[(0,0)]⟩,by rfl⟩
   .rintro _ rfl;dsimp only at d|-;refine pT (pW ?_);refine pL zG ?_;refine pY d (fun d hc4=> ?_) (fun d hc4=> ?_)
    .obtain⟨aE,hv14,hw14,d⟩:=q8 d
     try simp only[go_sem] at hw14
     obtain⟨hg15,d⟩:=pP d;refine qJ zG ?_ (hp:=by exact⟨pZ hv14,hg15⟩) (h:=by simp only[go_sem,hw14];rfl);refine pT ?_;obtain⟨hg16,d⟩:=pP d;obtain⟨aF,hv17,hw17,d⟩:=q8 d
     try simp only[go_sem] at hw17
     obtain⟨hg18,d⟩:=pP d;obtain⟨hg19,d⟩:=pP d;refine pL zG ?_ (hp:=by exact⟨hg16,pZ hv17,hg18,hg19⟩) (h:=by simp only[go_sem,hw17];rfl);refine pV ?_;cases d;exact oV []
    .refine qG (pT ?_);obtain⟨hg20,d⟩:=pP d;obtain⟨aG,hv21,hw21,d⟩:=q8 d
     try simp only[go_sem] at hw21
     obtain⟨hg22,d⟩:=pP d;obtain⟨hg23,d⟩:=pP d;refine pL zG ?_ (hp:=by exact⟨hg20,pZ hv21,hg22,hg23⟩) (h:=by simp only[go_sem,hw21];rfl);refine pV ?_;cases d;exact oV []
def LN (O:oT):Option (oT×Int):=if (decide ((O.length:Int)<(2:Int)))=true then some ((([]:oT),(0:Int))) else if 0≤(1:Int)∧(1:Int)<(O.length:Int) then if (decide ((rP O (1:Int))=(110:Int)))=true then some ((([10]:oT),(2:Int))) else if (decide ((rP O (1:Int))=(114:Int)))=true then some ((([13]:oT),(2:Int))) else if (decide ((rP O (1:Int))=(116:Int)))=true then some ((([9]:oT),(2:Int))) else if (decide ((rP O (1:Int))=(120:Int)))=true then if (decide ((4:Int)≤(O.length:Int)))=true then if 0≤(2:Int)∧(2:Int)≤(4:Int)∧(4:Int)≤(O.length:Int) then (G6 (s0 O (2:Int) (4:Int)) (16:Int)).bind fun Z=>if (Z.2&&(decide (Z.1≤(127:Int))))=true then some (((sN ([(IntKind.wrap .u8 Z.1)]:p6)),(4:Int))) else some ((([]:oT),(0:Int))) else none else some ((([]:oT),(0:Int))) else if (decide ((rP O (1:Int))=(117:Int)))=true then if (decide ((6:Int)≤(O.length:Int)))=true then if 0≤(2:Int)∧(2:Int)≤(6:Int)∧(6:Int)≤(O.length:Int) then (G6 (s0 O (2:Int) (6:Int)) (16:Int)).bind fun aA=>if aA.2=true then (LK aA.1).bind fun aB=>if ((decide (aA.1≤(1114111:Int)))&&((decide (aA.1<(55296:Int)))||(decide ((57343:Int)<aA.1))))=true then some ((aB,(6:Int))) else some ((([]:oT),(0:Int))) else some ((([]:oT),(0:Int))) else none else some ((([]:oT),(0:Int))) else if (decide ((0:Int)≤(u6 ([92,34,61,58,35,33,123,125,32]:oT) (rP O (1:Int)))))=true then if 0≤(1:Int)∧(1:Int)≤(2:Int)∧(2:Int)≤(O.length:Int) then some (((s0 O (1:Int) (2:Int)),(2:Int))) else none else some ((([]:oT),(0:Int))) else none
section
variable (O:oT)
abbrev a7b:List pN:=[(.val .str O,none)]
abbrev a7c:List pM:=[]
@[go_sem] def a7d:pR:=⟨[((LN O)).isSome=true],[(.val .str ((val (LN O)).1),none),(.val (.int .i64) ((val (LN O)).2),none)],[]⟩
def aF5:List pN→List pM→Option pR:=qU (V:=oT) (a7b) (fun x=>a7c) fun x=>a7d x
@[go_sem] def aQj:aF5 (no_index (a7b O)) (no_index a7c)=some (a7d O):=qV (fun a0 b0 h1 h2=>by cases h1;cases h2;rfl) O
end
@[go_sem] abbrev aF6:Nat×qC:=(214,⟨[.v],aF5,[],[],none⟩)
def uA:qM Tryz.prog [u7,y5,rG,xO] (qO [a28,a6K,CR]):=⟨⟨uF,⟨zA,⟨rJ,⟨yN,trivial⟩⟩⟩⟩,pU aDS (pU aFQ (pU HX qS)),qQ⟩
def aMa:qE Tryz.prog aF6:=by
 refine qW uA Tryz.func214 (c:=_) rfl (N:=67) pE (ts:=[(2,none),(3,none)]) rfl (fun _ _=>rfl) ?_;intro O hs hrow;dsimp only[a7b,a7c,a7d,qR,pX,qD,qI,qT,Nat.reduceAdd] at hs hrow|-;have hz:=hs;obtain⟨z0,d⟩:=aQF.1 hz
 try rw[r8 d]
 clear hz hs;unfold LN at d;refine pL uA ?_;refine pW ?_;refine pL uA ?_;refine pY d (fun d hc1=> ?_) (fun d hc1=> ?_)
 .refine pL uA ?_;refine pV (qP ?_);cases d;exact oV []
 .refine qG (pT (pW ?_));obtain⟨hg1,d⟩:=pP d;refine pL uA ?_ (hp:=by exact hg1);refine pL uA ?_;refine qY ?_;refine pL uA ?_;refine pY d (fun d hc2=> ?_) (fun d hc2=> ?_)
  .refine pL uA ?_;refine pV (r6 (qP ?_));cases d;exact oV []
  .refine pL uA ?_;refine pY d (fun d hc3=> ?_) (fun d hc3=> ?_)
   .refine pL uA ?_;refine pV (r6 (qP ?_));cases d;exact oV []
   .refine pL uA ?_;refine pY d (fun d hc4=> ?_) (fun d hc4=> ?_)
    .refine pL uA ?_;refine pV (r6 (qP ?_));cases d;exact oV []
    .refine pL uA ?_;refine pY d (fun d hc5=> ?_) (fun d hc5=> ?_)
     .refine pL uA ?_;refine pY d (fun d hc6=> ?_) (fun d hc6=> ?_)
      .obtain⟨hg2,d⟩:=pP d;obtain⟨Z,hv3,hw3,d⟩:=q8 d
       try simp only[go_sem] at hw3
       refine pL uA ?_ (hp:=by exact⟨hg2,(pZ hv3)⟩) (h:=by simp only[go_sem,hw3];rfl);refine pL uA ?_ (hp:=by exact⟨id,rI⟩);refine pY d (fun d hc7=> ?_) (fun d hc7=> ?_)
       .refine pL uA ?_;refine pV (r6 (qP ?_));cases d;exact oV []
       .refine qG (r5 (pT ?_));refine pL uA ?_;refine pV ?_;cases d;exact oV []
      .refine qG (r5 (pT ?_));refine pL uA ?_;refine pV ?_;cases d;exact oV []
     .refine pL uA ?_;refine pY d (fun d hc8=> ?_) (fun d hc8=> ?_)
      .refine pL uA ?_;refine pY d (fun d hc9=> ?_) (fun d hc9=> ?_)
       .obtain⟨hg4,d⟩:=pP d;obtain⟨aA,hv5,hw5,d⟩:=q8 d
        try simp only[go_sem] at hw5
        refine pL uA ?_ (hp:=by exact⟨hg4,(pZ hv5)⟩) (h:=by simp only[go_sem,hw5];rfl);refine pL uA ?_;refine pY d (fun d hc10=> ?_) (fun d hc10=> ?_)
        .obtain⟨aB,hv6,hw6,d⟩:=q8 d
         try simp only[go_sem] at hw6
         refine pL uA ?_ (hp:=by exact(pZ hv6)) (h:=by simp only[go_sem,hw6];rfl);refine pL uA ?_;refine pY d (fun d hc11=> ?_) (fun d hc11=> ?_)
         .refine pL uA ?_;refine pV (r6 (qP ?_));cases d;exact oV []
         .refine qG (r5 (pT ?_));refine pL uA ?_;refine pV ?_;cases d;exact oV []
        .refine qG (r5 (pT ?_));refine pL uA ?_;refine pV ?_;cases d;exact oV []
       .refine qG (r5 (pT ?_));refine pL uA ?_;refine pV ?_;cases d;exact oV []
      .refine pL uA ?_;refine pY d (fun d hc12=> ?_) (fun d hc12=> ?_)
       .obtain⟨hg7,d⟩:=pP d;refine pL uA ?_ (hp:=by exact hg7);refine pV (r6 (qP ?_));cases d;exact oV []
       .refine qG (r5 (pT ?_));refine pL uA ?_;refine pV ?_;cases d;exact oV []
attribute [irreducible] J0 LN
end
noncomputable section
def LO (O:oT):Option (oT×Int):=if (decide ((u6 O (59:Int))<(0:Int)))=true then some ((([]:oT),(0:Int))) else if 0≤(1:Int)∧(1:Int)≤(u6 O (59:Int))∧(u6 O (59:Int))≤(O.length:Int) then if (decide ((s0 O (1:Int) (u6 O (59:Int)))=([97,109,112]:oT)))=true then if pO ((u6 O (59:Int))+(1:Int)) then some ((([38]:oT),((u6 O (59:Int))+(1:Int)))) else none else if (decide ((s0 O (1:Int) (u6 O (59:Int)))=([108,116]:oT)))=true then if pO ((u6 O (59:Int))+(1:Int)) then some ((([60]:oT),((u6 O (59:Int))+(1:Int)))) else none else if (decide ((s0 O (1:Int) (u6 O (59:Int)))=([103,116]:oT)))=true then if pO ((u6 O (59:Int))+(1:Int)) then some ((([62]:oT),((u6 O (59:Int))+(1:Int)))) else none else if (decide ((s0 O (1:Int) (u6 O (59:Int)))=([113,117,111,116]:oT)))=true then if pO ((u6 O (59:Int))+(1:Int)) then some ((([34]:oT),((u6 O (59:Int))+(1:Int)))) else none else if (decide ((s0 O (1:Int) (u6 O (59:Int)))=([97,112,111,115]:oT)))=true then if pO ((u6 O (59:Int))+(1:Int)) then some ((([39]:oT),((u6 O (59:Int))+(1:Int)))) else none else (EL (s0 O (1:Int) (u6 O (59:Int))) ([35]:oT)).bind fun Z=>if (!Z.2)=true then some ((([]:oT),(0:Int))) else (EL Z.1 ([120]:oT)).bind fun aA=>sG (σ:=(oT×Int×Int)) (if aA.2=true then some ((aA.1,(16:Int),(6:Int))) else some ((Z.1,(10:Int),(7:Int))) ) fun(aB,aC,aD)=>(G6 aB aC).bind fun aE=>if ((!aE.2)||(decide (aD<(aB.length:Int))))=true then some ((([]:oT),(0:Int))) else (LK aE.1).bind fun aF=>if (!((decide (aE.1≤(1114111:Int)))&&((decide (aE.1<(55296:Int)))||(decide ((57343:Int)<aE.1)))))=true then some ((([]:oT),(0:Int))) else if pO ((u6 O (59:Int))+(1:Int)) then some ((aF,((u6 O (59:Int))+(1:Int)))) else none else none
section
variable (O:oT)
abbrev a7e:List pN:=[(.val .str O,none)]
abbrev a7f:List pM:=[]
@[go_sem] def a7g:pR:=⟨[((LO O)).isSome=true],[(.val .str ((val (LO O)).1),none),(.val (.int .i64) ((val (LO O)).2),none)],[]⟩
def aF7:List pN→List pM→Option pR:=qU (V:=oT) (a7e) (fun x=>a7f) fun x=>a7g x
@[go_sem] def aQk:aF7 (no_index (a7e O)) (no_index a7f)=some (a7g O):=qV (fun a0 b0 h1 h2=>by cases h1;cases h2;rfl) O
end
@[go_sem] abbrev aF8:Nat×qC:=(215,⟨[.v],aF7,[],[],none⟩)
def uC:qM Tryz.prog [rG] (qO [CR,U8,a28,a6K]):=⟨⟨rJ,trivial⟩,pU HX (pU a4v (pU aDS (pU aFQ qS))),qQ⟩
def aMb:qE Tryz.prog aF8:=by
 refine qW uC Tryz.func215 (c:=_) rfl (N:=80) pE (ts:=[(2,none),(3,none)]) rfl (fun _ _=>rfl) ?_;intro O hs hrow;dsimp only[a7e,a7f,a7g,qR,pX,qD,qI,qT,Nat.reduceAdd] at hs hrow|-;have hz:=hs;obtain⟨z0,d⟩:=aQF.1 hz
 try rw[r8 d]
 clear hz hs;unfold LO at d;refine pL uC ?_;refine pL uC ?_;refine pW ?_;refine pL uC ?_;refine pY d (fun d hc1=> ?_) (fun d hc1=> ?_)
 .refine pL uC ?_;refine pV (qP ?_);cases d;exact oV []
 .refine qG (pT ?_);obtain⟨hg1,d⟩:=pP d;refine pL uC ?_ (hp:=by exact hg1);refine pW ?_;refine pL uC ?_;refine qY ?_;refine pL uC ?_;refine pY d (fun d hc2=> ?_) (fun d hc2=> ?_)
  .obtain⟨hg2,d⟩:=pP d;refine pL uC ?_ (hp:=by exact hg2);refine pV (r6 (qP ?_));cases d;exact oV []
  .refine pL uC ?_;refine pY d (fun d hc3=> ?_) (fun d hc3=> ?_)
   .obtain⟨hg3,d⟩:=pP d;refine pL uC ?_ (hp:=by exact hg3);refine pV (r6 (qP ?_));cases d;exact oV []
   .refine pL uC ?_;refine pY d (fun d hc4=> ?_) (fun d hc4=> ?_)
    .obtain⟨hg4,d⟩:=pP d;refine pL uC ?_ (hp:=by exact hg4);refine pV (r6 (qP ?_));cases d;exact oV []
    .refine pL uC ?_;refine pY d (fun d hc5=> ?_) (fun d hc5=> ?_)
     .obtain⟨hg5,d⟩:=pP d;refine pL uC ?_ (hp:=by exact hg5);refine pV (r6 (qP ?_));cases d;exact oV []
     .refine pL uC ?_;refine pY d (fun d hc6=> ?_) (fun d hc6=> ?_)
      .obtain⟨hg6,d⟩:=pP d;refine pL uC ?_ (hp:=by exact hg6);refine pV (r6 (qP ?_));cases d;exact oV []
      .refine qG (r5 (pT ?_));obtain⟨Z,hv7,hw7,d⟩:=q8 d
       try simp only[go_sem] at hw7
       refine pL uC ?_ (hp:=by exact(pZ hv7)) (h:=by simp only[go_sem,hw7];rfl);refine pW ?_;refine pL uC ?_;refine pY d (fun d hc7=> ?_) (fun d hc7=> ?_)
       .refine pL uC ?_;refine pV (qP ?_);cases d;exact oV []
       .refine qG (pT ?_);refine pL uC ?_;refine pW ?_;obtain⟨aA,hv8,hw8,d⟩:=q8 d
        try simp only[go_sem] at hw8
        refine pL uC ?_ (hp:=by exact(pZ hv8)) (h:=by simp only[go_sem,hw8];rfl);refine pL uC ?_;obtain⟨y1,e,d⟩:=r9 d;refine vF (fun s=>s=(fun x=>⟨[(4,(.val (.int .i64) (u6 O (59:Int)),none)),(6,(.val .str x.1,none)),(8,(.val (.int .i64) x.2.1,none)),(9,(.val (.int .i64) x.2.2,none))],[],0,80,0⟩) y1) ?_ ?_
        .refine pY e (fun e hc8=> ?_) (fun e hc8=> ?_)
         .refine qJ uC ?_;cases e;exact sB ⟨⟨[4,6,8,9],[]⟩,by rfl⟩
         .refine qG ?_;cases e;exact sB ⟨⟨[4,6,8,9],[]⟩,by rfl⟩
        .rintro _ rfl;obtain⟨aB,aC,aD⟩:=y1;dsimp only at d|-;refine pT ?_;obtain⟨aE,hv9,hw9,d⟩:=q8 d
         try simp only[go_sem] at hw9
         refine pL uC ?_ (hp:=by exact(pZ hv9)) (h:=by simp only[go_sem,hw9];rfl);refine pW ?_;refine pL uC ?_ (hp:=by exact⟨id,id,id,rU⟩);refine pY d (fun d hc9=> ?_) (fun d hc9=> ?_)
         .refine pL uC ?_;refine pV (qP ?_);cases d;exact oV []
         .refine qG (pT ?_);obtain⟨aF,hv10,hw10,d⟩:=q8 d
          try simp only[go_sem] at hw10
          refine pL uC ?_ (hp:=by exact(pZ hv10)) (h:=by simp only[go_sem,hw10];rfl);refine pW ?_;refine pL uC ?_;refine pY d (fun d hc10=> ?_) (fun d hc10=> ?_)
          .refine pL uC ?_;refine pV (qP ?_);cases d;exact oV []
          .refine qG (pT ?_);obtain⟨hg11,d⟩:=pP d;refine pL uC ?_ (hp:=by exact hg11);refine pV ?_;cases d;exact oV []
def aF9 (O:Int) (Z:oT):(Int×p6)→Option ((Int×p6)⊕(p6⊕(oT×Int×Int))):=fun(aA,aB)=>if (decide (aA<(Z.length:Int)))=true then if 0≤aA∧aA<(Z.length:Int) then if (decide ((rP Z aA)=(38:Int)))=true then if 0≤aA∧aA≤(Z.length:Int)∧(Z.length:Int)≤(Z.length:Int) then (LO (s0 Z aA (Z.length:Int))).bind fun aC=>if (decide (aC.2=(0:Int)))=true then some (.inr (.inr ((([]:oT),aA,(3:Int))))) else (CX (aB,()) aC.1).bind fun aD=>if pO (aA+aC.2) then some (.inl ((aA+aC.2),(aB++tY aC.1))) else none else none else if 0≤aA∧aA<(Z.length:Int) then if (OS O (rP Z aA))=true then some (.inr (.inr ((([]:oT),aA,(3:Int))))) else if 0≤aA∧aA<(Z.length:Int) then (OT (aB,()) (rP Z aA)).bind fun aE=>if pO (aA+(1:Int)) then some (.inl ((aA+(1:Int)),(aB++([(rP Z aA)]:p6)))) else none else none else none else none else some (.inr (.inl aB))
def aGa (O:Int) (Z:oT):(Int×p6)→Option ((Int×p6)⊕(p6⊕(oT×Int×Int))):=fun(aA,aB)=>if (decide (aA<(Z.length:Int)))=true then if 0≤aA∧aA<(Z.length:Int) then if (decide ((rP Z aA)=(92:Int)))=true then if 0≤aA∧aA≤(Z.length:Int)∧(Z.length:Int)≤(Z.length:Int) then (LN (s0 Z aA (Z.length:Int))).bind fun aC=>if (decide (aC.2=(0:Int)))=true then some (.inr (.inr ((([]:oT),aA,(3:Int))))) else (CX (aB,()) aC.1).bind fun aD=>if pO (aA+aC.2) then some (.inl ((aA+aC.2),(aB++tY aC.1))) else none else none else if 0≤aA∧aA<(Z.length:Int) then if (OS O (rP Z aA))=true then some (.inr (.inr ((([]:oT),aA,(3:Int))))) else if 0≤aA∧aA<(Z.length:Int) then (OT (aB,()) (rP Z aA)).bind fun aE=>if pO (aA+(1:Int)) then some (.inl ((aA+(1:Int)),(aB++([(rP Z aA)]:p6)))) else none else none else none else none else some (.inr (.inl aB))
def J1 (O:Int) (Z:oT):Option (oT×Int×Int):=if (!((decide ((1:Int)≤O))&&(decide (O≤(4:Int)))))=true then some ((([]:oT),(0:Int),(1:Int))) else if (decide (O=(4:Int)))=true then sR (rF (aF9 O Z) ((0:Int),([]:p6))) fun aA=>some (((sN aA),(0:Int),(0:Int))) else sR (rF (aGa O Z) ((0:Int),([]:p6))) fun aB=>some (((sN aB),(0:Int),(0:Int)))
section
variable (O:Int) (Z:oT)
abbrev a7h:List pN:=[(.val (.int .i64) O,none),(.val .str Z,none)]
abbrev a7i:List pM:=[]
@[go_sem] def a7j:pR:=⟨[((J1 O Z)).isSome=true],[(.val .str ((val (J1 O Z)).1),none),(.val (.int .i64) ((val (J1 O Z)).2.1),none),(.val (.int .i64) ((val (J1 O Z)).2.2),none)],[]⟩
def aGb:List pN→List pM→Option pR:=qU (V:=(Int×oT)) (fun x=>a7h x.1 x.2) (fun x=>a7i) fun x=>a7j x.1 x.2
@[go_sem] def aQl:aGb (no_index (a7h O Z)) (no_index a7i)=some (a7j O Z):=qV (fun⟨a0,a1⟩ ⟨b0,b1⟩ h1 h2=>by cases h1;cases h2;rfl) (O,Z)
end
@[go_sem] abbrev aGc:Nat×qC:=(190,⟨[.v,.v],aGb,[],[],none⟩)
def tV:qM Tryz.prog [rG,E4] (qO [a16,aF8,TX,aDI,aDK,DY,aF6]):=⟨⟨rJ,⟨I7,trivial⟩⟩,pU aDf (pU aMb (pU a0N (pU aLr (pU aLs (pU KL (pU aMa qS)))))),qQ⟩
def aMc:qE Tryz.prog aGc:=by
 refine qW tV Tryz.func190 (c:=_) rfl (N:=58) pE (ts:=[(4,none),(5,none),(6,none)]) rfl (fun _ _=>rfl) ?_;intro⟨O,Z⟩ hs hrow;dsimp only[a7h,a7i,a7j,qR,pX,qD,qI,qT,Nat.reduceAdd] at hs hrow|-;have hz:=hs;obtain⟨z0,d⟩:=aQF.1 hz
 try rw[r8 d]
 clear hz hs;unfold J1 at d;refine pL tV ?_;refine pW ?_;refine pL tV ?_;refine pY d (fun d hc1=> ?_) (fun d hc1=> ?_)
 .refine pL tV ?_;refine pV (qP ?_);cases d;exact oV []
 .refine qG (pT ?_);refine pL tV ?_;refine pW ?_;refine pL tV ?_;refine pY d (fun d hc2=> ?_) (fun d hc2=> ?_)
  .refine qJ tV ?_;refine pT ?_;refine pL tV ?_;refine pW ?_;refine pL tV ?_;refine qY ?_;obtain⟨y1,hy1,d⟩:=tN d;refine sE 0 (fun s=> ∃v,y1= .inl v∧s=(fun x=>⟨[(9,(.val .ref (some (0,0)),none))],[(0,.cells uP ((some (0,0)),(x,())) [(1,1)]),(1,.grow 5 1 (x.length))],2,58,0⟩) v) ?_ ?_
   .refine sC hy1 (fun x=>⟨[(0,(.val (.int .i64) O,none)),(1,(.val .str Z,none)),(7,(.val (.int .u8) (38:Int),none)),(8,(.val .clo (some (215,[])),none)),(9,(.val .ref (some (0,0)),none)),(10,(.val (.int .i64) x.1,none))],[(0,.cells uP ((some (0,0)),(x.2,())) [(1,1)]),(1,.grow 5 1 (x.2.length))],2,58,0⟩) ⟨[0,1,7,8,9,10],[(0,384),(1,385)]⟩ pF ?_;intro x1 w1 n1 e f;obtain⟨aA,aB⟩:=x1;unfold aF9 at e;dsimp only at e|-;refine pW ?_;refine pL tV ?_;refine pY e (fun e hc3=> ?_) (fun e hc3=> ?_)
    .refine qG (pT (qY (qY ?_)));obtain⟨hg1,e⟩:=pP e;refine pL tV ?_ (hp:=by exact hg1);refine pY e (fun e hc4=> ?_) (fun e hc4=> ?_)
     .obtain⟨hg2,e⟩:=pP e;obtain⟨aC,hv3,hw3,e⟩:=q8 e
      try simp only[go_sem] at hw3
      refine pL tV ?_ (hp:=by exact⟨hg2,(pZ hv3)⟩) (h:=by simp only[go_sem,hw3];rfl);refine pW ?_;refine pL tV ?_;refine pY e (fun e hc5=> ?_) (fun e hc5=> ?_)
      .refine pL tV ?_;refine pV (qP (r6 (r6 (tM (tQ (r6 (qP ?_)))))));cases e;cases f;dsimp only at d;cases d;exact oV []
      .refine qG (pT ?_);obtain⟨aD,hv4,hw4,e⟩:=q8 e
       try simp only[go_sem] at hw4
       refine pL tV ?_ (hp:=by exact⟨pD,(pZ hv4)⟩) (h:=by simp only[go_sem,hw4];rfl)
       obtain⟨hg5,e⟩:=pP e;refine qJ tV ?_ (hp:=by exact hg5);refine r5 (r5 ?_);cases e;exact rT ⟨⟨[0,1,7,8,9,10],[(0,0),(1,1)]⟩,_,by rfl,f⟩
     .obtain⟨hg6,e⟩:=pP e;refine pL tV ?_ (hp:=by exact hg6);refine pY e (fun e hc6=> ?_) (fun e hc6=> ?_)
      .refine pL tV ?_;refine pV (r6 (r6 (tM (tQ (r6 (qP ?_))))));cases e;cases f;dsimp only at d;cases d;exact oV []
      .obtain⟨hg7,e⟩:=pP e;obtain⟨aE,hv8,hw8,e⟩:=q8 e
       try simp only[go_sem] at hw8
       refine pL tV ?_ (hp:=by exact⟨hg7,pD,(pZ hv8)⟩) (h:=by simp only[go_sem,hw8];rfl)
       obtain⟨hg9,e⟩:=pP e;refine qJ tV ?_ (hp:=by exact hg9);refine r5 (r5 ?_);cases e;exact rT ⟨⟨[0,1,7,8,9,10],[(0,0),(1,1)]⟩,_,by rfl,f⟩
    .refine s8 (s7 (sA ?_));cases e;cases f;exact s9 ⟨⟨[9],[(0,0),(1,1)]⟩,_,rfl,by rfl⟩
   .rintro _ ⟨aF,rfl,rfl⟩;dsimp only at d|-;refine sD (pT ?_);refine pL tV ?_ (hp:=by first|rfl|trivial)
    refine pV ?_;cases d;exact oV []
  .refine qG (pT ?_);refine pL tV ?_;refine pW ?_;refine pL tV ?_;refine qY ?_;obtain⟨y1,hy1,d⟩:=tN d;refine sE 0 (fun s=> ∃v,y1= .inl v∧s=(fun x=>⟨[(9,(.val .ref (some (0,0)),none))],[(0,.cells uP ((some (0,0)),(x,())) [(1,1)]),(1,.grow 5 1 (x.length))],2,58,0⟩) v) ?_ ?_
   .refine sC hy1 (fun x=>⟨[(0,(.val (.int .i64) O,none)),(1,(.val .str Z,none)),(7,(.val (.int .u8) (92:Int),none)),(8,(.val .clo (some (214,[])),none)),(9,(.val .ref (some (0,0)),none)),(10,(.val (.int .i64) x.1,none))],[(0,.cells uP ((some (0,0)),(x.2,())) [(1,1)]),(1,.grow 5 1 (x.2.length))],2,58,0⟩) ⟨[0,1,7,8,9,10],[(0,320),(1,321)]⟩ pF ?_;intro x1 w1 n1 e f;obtain⟨aG,aH⟩:=x1;unfold aGa at e;dsimp only at e|-;refine pW ?_;refine pL tV ?_;refine pY e (fun e hc7=> ?_) (fun e hc7=> ?_)
    .refine qG (pT (qY (qY ?_)));obtain⟨hg10,e⟩:=pP e;refine pL tV ?_ (hp:=by exact hg10);refine pY e (fun e hc8=> ?_) (fun e hc8=> ?_)
     .obtain⟨hg11,e⟩:=pP e;obtain⟨aI,hv12,hw12,e⟩:=q8 e
      try simp only[go_sem] at hw12
      refine pL tV ?_ (hp:=by exact⟨hg11,(pZ hv12)⟩) (h:=by simp only[go_sem,hw12];rfl);refine pW ?_;refine pL tV ?_;refine pY e (fun e hc9=> ?_) (fun e hc9=> ?_)
      .refine pL tV ?_;refine pV (qP (r6 (r6 (tM (tQ (r6 (qP ?_)))))));cases e;cases f;dsimp only at d;cases d;exact oV []
      .refine qG (pT ?_);obtain⟨aJ,hv13,hw13,e⟩:=q8 e
       try simp only[go_sem] at hw13
       refine pL tV ?_ (hp:=by exact⟨pD,(pZ hv13)⟩) (h:=by simp only[go_sem,hw13];rfl)
       obtain⟨hg14,e⟩:=pP e;refine qJ tV ?_ (hp:=by exact hg14);refine r5 (r5 ?_);cases e;exact rT ⟨⟨[0,1,7,8,9,10],[(0,0),(1,1)]⟩,_,by rfl,f⟩
     .obtain⟨hg15,e⟩:=pP e;refine pL tV ?_ (hp:=by exact hg15);refine pY e (fun e hc10=> ?_) (fun e hc10=> ?_)
      .refine pL tV ?_;refine pV (r6 (r6 (tM (tQ (r6 (qP ?_))))));cases e;cases f;dsimp only at d;cases d;exact oV []
      .obtain⟨hg16,e⟩:=pP e;obtain⟨aK,hv17,hw17,e⟩:=q8 e
       try simp only[go_sem] at hw17
       refine pL tV ?_ (hp:=by exact⟨hg16,pD,(pZ hv17)⟩) (h:=by simp only[go_sem,hw17];rfl)
       obtain⟨hg18,e⟩:=pP e;refine qJ tV ?_ (hp:=by exact hg18);refine r5 (r5 ?_);cases e;exact rT ⟨⟨[0,1,7,8,9,10],[(0,0),(1,1)]⟩,_,by rfl,f⟩
    .refine s8 (s7 (sA ?_));cases e;cases f;exact s9 ⟨⟨[9],[(0,0),(1,1)]⟩,_,rfl,by rfl⟩
   .rintro _ ⟨aL,rfl,rfl⟩;dsimp only at d|-;refine sD (pT ?_);refine pL tV ?_ (hp:=by first|rfl|trivial)
    refine pV ?_;cases d;exact oV []
attribute [irreducible] LO J1
end
noncomputable section
def PW (O:rS):(Int×oU)→Option ((Int×oU)⊕oU):=fun(Z,aA)=>if (decide (Z<(O.2.2.2.1.length:Int)))=true then if 0≤Z∧Z<(O.2.2.2.1.length:Int) then (J0 (qB rN O.2.2.2.1 Z)).bind fun aB=>if (aA.length+([aB]:oU).length)*16≤140737488355328 then if pO (Z+(1:Int)) then some (.inl ((Z+(1:Int)),(aA++([aB]:oU)))) else none else none else none else some (.inr aA)
def C0 (O:rS):Option (oT×oU×oT×Int):=(IX O).bind fun Z=>if (!Z)=true then some ((([]:oT),([]:oU),([]:oT),(1:Int))) else if ((([60,99,97,116,97,108,111,103,32,116,97,103,61,34]:oT)++O.1).length:Int)≤9223372036854775807 then if (((([60,99,97,116,97,108,111,103,32,116,97,103,61,34]:oT)++O.1)++([34,62]:oT)).length:Int)≤9223372036854775807 then (EQ ([32,32]:oT) O.2.1 ([]:oT) O.2.2.1).bind fun aA=>if ((((([60,99,97,116,97,108,111,103,32,116,97,103,61,34]:oT)++O.1)++([34,62]:oT))++aA).length:Int)≤9223372036854775807 then if (((((([60,99,97,116,97,108,111,103,32,116,97,103,61,34]:oT)++O.1)++([34,62]:oT))++aA)++([10,60,101,110,116,114,105,101,115,62]:oT)).length:Int)≤9223372036854775807 then sG (rF (PW O) ((0:Int),([]:oU))) fun aB=>some ((((((([60,99,97,116,97,108,111,103,32,116,97,103,61,34]:oT)++O.1)++([34,62]:oT))++aA)++([10,60,101,110,116,114,105,101,115,62]:oT)),aB,([10,60,47,101,110,116,114,105,101,115,62,10,60,47,99,97,116,97,108,111,103,62,10]:oT),(0:Int))) else none else none else none else none
section
variable (O:rS)
abbrev a7k:List pN:=[(.val vM O,none)]
abbrev a7l:List pM:=[]
@[go_sem] def a7m:pR:=⟨[((C0 O)).isSome=true],[(.val v8 ((val (C0 O)).1,((val (C0 O)).2.1,((val (C0 O)).2.2.1,()))),none),(.val (.int .i64) ((val (C0 O)).2.2.2),none)],[]⟩
def aGd:List pN→List pM→Option pR:=qU (V:=rS) (a7k) (fun x=>a7l) fun x=>a7m x
@[go_sem] def aQm:aGd (no_index (a7k O)) (no_index a7l)=some (a7m O):=qV (fun a0 b0 h1 h2=>by cases h1;cases h2;rfl) O
end
@[go_sem] abbrev a7n:Nat×qC:=(18,⟨[.v],aGd,[],[],none⟩)
def C1:qM Tryz.prog [rG,tG,FS,vH,BL,x5,vG] (qO [aFO,a67,aF4]):=⟨⟨rJ,⟨tT,⟨KS,⟨vX,⟨E3,⟨y6,⟨vW,trivial⟩⟩⟩⟩⟩⟩⟩,pU aL6 (pU aF2 (pU aL9 qS)),qQ⟩
def aGe:qE Tryz.prog a7n:=by
 refine qW C1 Tryz.func18 (c:=_) rfl (N:=39) pE (ts:=[(2,some 26),(3,none)]) rfl (fun _ _=>rfl) ?_;intro O hs hrow;dsimp only[a7k,a7l,a7m,qR,pX,qD,qI,qT,Nat.reduceAdd] at hs hrow|-;have hz:=hs;obtain⟨z0,d⟩:=aQF.1 hz
 try rw[r8 d]
 clear hz hs;unfold C0 at d;refine pL C1 ?_;refine pW ?_;obtain⟨Z,hv1,hw1,d⟩:=q8 d
 try simp only[go_sem] at hw1
 refine pL C1 ?_ (hp:=by exact(pZ hv1)) (h:=by simp only[go_sem,hw1];rfl);refine pY d (fun d hc1=> ?_) (fun d hc1=> ?_)
 .refine pL C1 ?_;refine pV (qP ?_);cases d;exact oV []
 .refine qG (pT ?_);obtain⟨hg2,d⟩:=pP d;obtain⟨hg3,d⟩:=pP d;obtain⟨aA,hv4,hw4,d⟩:=q8 d
  try simp only[go_sem] at hw4
  obtain⟨hg5,d⟩:=pP d;obtain⟨hg6,d⟩:=pP d;refine tW C1 ?_ (hp:=by exact⟨hg2,hg3,pZ hv4,hg5,hg6⟩) (h:=by simp only[go_sem,hw4];rfl);refine pW ?_;refine pL C1 ?_;refine qY ?_;obtain⟨aB,hy1,d⟩:=r9 d;refine sE 0 (fun s=>s=(fun x=>⟨[(2,(.val .ref (some (0,0)),none)),(4,(.val .ref (some (1,0)),none))],[(0,.cells v8 (([]:oT),(([]:oU),(([]:oT),()))) [(1,2)]),(1,.cells v8 (((((([60,99,97,116,97,108,111,103,32,116,97,103,61,34]:oT)++O.1)++([34,62]:oT))++aA)++([10,60,101,110,116,114,105,101,115,62]:oT)),(x,(([10,60,47,101,110,116,114,105,101,115,62,10,60,47,99,97,116,97,108,111,103,62,10]:oT),()))) [(1,3)]),(2,.grow 9 1 (([]:oU).length)),(3,.grow 9 1 (x.length))],4,39,0⟩) aB) ?_ ?_
  .refine sC hy1 (fun x=>⟨[(2,(.val .ref (some (0,0)),none)),(4,(.val .ref (some (1,0)),none)),(24,(.val (.list rN) O.2.2.2.1,none)),(25,(.val (.int .i64) (O.2.2.2.1.length:Int),none)),(26,(.val (.int .i64) x.1,none))],[(0,.cells v8 (([]:oT),(([]:oU),(([]:oT),()))) [(1,2)]),(1,.cells v8 (((((([60,99,97,116,97,108,111,103,32,116,97,103,61,34]:oT)++O.1)++([34,62]:oT))++aA)++([10,60,101,110,116,114,105,101,115,62]:oT)),(x.2,(([10,60,47,101,110,116,114,105,101,115,62,10,60,47,99,97,116,97,108,111,103,62,10]:oT),()))) [(1,3)]),(2,.grow 9 1 (([]:oU).length)),(3,.grow 9 1 (x.2.length))],4,39,0⟩) ⟨[2,4,24,25,26],[(0,32),(1,576),(2,33),(3,608)]⟩ pF ?_;intro x1 w1 n1 e f;obtain⟨aC,aD⟩:=x1;unfold PW at e;dsimp only at e|-;refine pL C1 ?_;refine pW ?_;refine pY e (fun e hc2=> ?_) (fun e hc2=> ?_)
   .refine qG (pT (pW (qY ?_)));obtain⟨hg7,e⟩:=pP e;refine pL C1 ?_ (hp:=by exact hg7);obtain⟨aE,hv8,hw8,e⟩:=q8 e
    try simp only[go_sem] at hw8
    obtain⟨hg9,e⟩:=pP e;refine xN C1 ?_ (hp:=by exact⟨pZ hv8,pD,hg9⟩) (h:=by simp only[go_sem,hw8];rfl)
    refine r5 (pT ?_);obtain⟨hg10,e⟩:=pP e;refine qJ C1 ?_ (hp:=by exact hg10);cases e;exact rT ⟨⟨[2,4,24,25,26],[(0,0),(1,1),(2,2),(3,3)]⟩,_,by rfl,f⟩
   .refine s8 (s7 (sA ?_));cases e;cases f;exact s9 ⟨⟨[2,4],[(0,0),(1,1),(2,2),(3,3)]⟩,by rfl⟩
  .rintro _ rfl;dsimp only at d|-;refine sD (pT ?_);refine pL C1 ?_;refine pV ?_;cases d;exact oV []
def PX (O:rS):(Int×oU)→Option ((Int×oU)⊕oU):=fun(Z,aA)=>if (decide (Z<(O.2.2.2.1.length:Int)))=true then if 0≤Z∧Z<(O.2.2.2.1.length:Int) then (IY (qB rN O.2.2.2.1 Z)).bind fun aB=>if (aA.length+([aB]:oU).length)*16≤140737488355328 then if pO (Z+(1:Int)) then some (.inl ((Z+(1:Int)),(aA++([aB]:oU)))) else none else none else none else some (.inr aA)
def C2 (O:rS):Option (oT×oU×oT×Int):=(IZ O).bind fun Z=>if (!Z)=true then some ((([]:oT),([]:oU),([]:oT),(1:Int))) else (D5 O.1).bind fun aA=>if ((([60,99,97,116,97,108,111,103,32,116,97,103,61,34]:oT)++aA).length:Int)≤9223372036854775807 then if (((([60,99,97,116,97,108,111,103,32,116,97,103,61,34]:oT)++aA)++([34,62]:oT)).length:Int)≤9223372036854775807 then (GI ([32,32]:oT) O.2.1).bind fun aB=>if ((((([60,99,97,116,97,108,111,103,32,116,97,103,61,34]:oT)++aA)++([34,62]:oT))++aB).length:Int)≤9223372036854775807 then (EP ([32,32]:oT) O.2.2.1).bind fun aC=>if (((((([60,99,97,116,97,108,111,103,32,116,97,103,61,34]:oT)++aA)++([34,62]:oT))++aB)++aC).length:Int)≤9223372036854775807 then if ((((((([60,99,97,116,97,108,111,103,32,116,97,103,61,34]:oT)++aA)++([34,62]:oT))++aB)++aC)++([10,60,101,110,116,114,105,101,115,62]:oT)).length:Int)≤9223372036854775807 then sG (rF (PX O) ((0:Int),([]:oU))) fun aD=>some (((((((([60,99,97,116,97,108,111,103,32,116,97,103,61,34]:oT)++aA)++([34,62]:oT))++aB)++aC)++([10,60,101,110,116,114,105,101,115,62]:oT)),aD,([10,60,47,101,110,116,114,105,101,115,62,10,60,47,99,97,116,97,108,111,103,62,10]:oT),(0:Int))) else none else none else none else none else none
section
variable (O:rS)
abbrev a7o:List pN:=[(.val vM O,none)]
abbrev a7p:List pM:=[]
@[go_sem] def a7q:pR:=⟨[((C2 O)).isSome=true],[(.val v8 ((val (C2 O)).1,((val (C2 O)).2.1,((val (C2 O)).2.2.1,()))),none),(.val (.int .i64) ((val (C2 O)).2.2.2),none)],[]⟩
def aGf:List pN→List pM→Option pR:=qU (V:=rS) (a7o) (fun x=>a7p) fun x=>a7q x
@[go_sem] def aQn:aGf (no_index (a7o O)) (no_index a7p)=some (a7q O):=qV (fun a0 b0 h1 h2=>by cases h1;cases h2;rfl) O
end
@[go_sem] abbrev a7r:Nat×qC:=(19,⟨[.v],aGf,[],[],none⟩)
def D8:qM Tryz.prog [rG,tG,vH,BL,x5,CT,vG] (qO [aF0,PN,a6O,a6S,aFW]):=⟨⟨rJ,⟨tT,⟨vX,⟨E3,⟨y6,⟨FT,⟨vW,trivial⟩⟩⟩⟩⟩⟩⟩,pU aL8 (pU UA (pU aFS (pU aFU (pU aL7 qS)))),qQ⟩
def aGg:qE Tryz.prog a7r:=by
 refine qW D8 Tryz.func19 (c:=_) rfl (N:=44) pE (ts:=[(2,some 46),(3,none)]) rfl (fun _ _=>rfl) ?_;intro O hs hrow;dsimp only[a7o,a7p,a7q,qR,pX,qD,qI,qT,Nat.reduceAdd] at hs hrow|-;have hz:=hs;obtain⟨z0,d⟩:=aQF.1 hz
 try rw[r8 d]
 clear hz hs;unfold C2 at d;refine pL D8 ?_;refine pW ?_;obtain⟨Z,hv1,hw1,d⟩:=q8 d
 try simp only[go_sem] at hw1
 refine pL D8 ?_ (hp:=by exact(pZ hv1)) (h:=by simp only[go_sem,hw1];rfl);refine pY d (fun d hc1=> ?_) (fun d hc1=> ?_)
 .refine pL D8 ?_;refine pV (qP ?_);cases d;exact oV []
 .refine qG (pT ?_);obtain⟨aA,hv2,hw2,d⟩:=q8 d
  try simp only[go_sem] at hw2
  obtain⟨hg3,d⟩:=pP d;obtain⟨hg4,d⟩:=pP d;obtain⟨aB,hv5,hw5,d⟩:=q8 d
  try simp only[go_sem] at hw5
  obtain⟨hg6,d⟩:=pP d;obtain⟨aC,hv7,hw7,d⟩:=q8 d
  try simp only[go_sem] at hw7
  obtain⟨hg8,d⟩:=pP d;obtain⟨hg9,d⟩:=pP d;refine tW D8 ?_ (hp:=by exact⟨pZ hv2,hg3,hg4,pZ hv5,hg6,pZ hv7,hg8,hg9⟩) (h:=by simp only[go_sem,hw2,hw5,hw7];rfl);refine pW ?_;refine pL D8 ?_;refine qY ?_;obtain⟨aD,hy1,d⟩:=r9 d;refine sE 0 (fun s=>s=(fun x=>⟨[(2,(.val .ref (some (0,0)),none)),(4,(.val .ref (some (1,0)),none))],[(0,.cells v8 (([]:oT),(([]:oU),(([]:oT),()))) [(1,2)]),(1,.cells v8 ((((((([60,99,97,116,97,108,111,103,32,116,97,103,61,34]:oT)++aA)++([34,62]:oT))++aB)++aC)++([10,60,101,110,116,114,105,101,115,62]:oT)),(x,(([10,60,47,101,110,116,114,105,101,115,62,10,60,47,99,97,116,97,108,111,103,62,10]:oT),()))) [(1,3)]),(2,.grow 9 1 (([]:oU).length)),(3,.grow 9 1 (x.length))],4,44,0⟩) aD) ?_ ?_
  .refine sC hy1 (fun x=>⟨[(1,(.val .ref (some (0,0)),none)),(2,(.val .ref (some (1,0)),none)),(4,(.val .ref (some (2,0)),none)),(5,(.val (.int .i64) x.1,none))],[(0,.cells vM O []),(1,.cells v8 (([]:oT),(([]:oU),(([]:oT),()))) [(1,3)]),(2,.cells v8 ((((((([60,99,97,116,97,108,111,103,32,116,97,103,61,34]:oT)++aA)++([34,62]:oT))++aB)++aC)++([10,60,101,110,116,114,105,101,115,62]:oT)),(x.2,(([10,60,47,101,110,116,114,105,101,115,62,10,60,47,99,97,116,97,108,111,103,62,10]:oT),()))) [(1,4)]),(3,.grow 9 1 (([]:oU).length)),(4,.grow 9 1 (x.2.length))],5,44,0⟩) ⟨[1,2,4,5],[(0,0),(1,32),(2,672),(3,33),(4,704)]⟩ pF ?_;intro x1 w1 n1 e f;obtain⟨aE,aF⟩:=x1;unfold PX at e;dsimp only at e|-;refine pW ?_;refine pL D8 ?_;refine pY e (fun e hc2=> ?_) (fun e hc2=> ?_)
   .refine qG (pT (pW (qY ?_)));obtain⟨hg10,e⟩:=pP e;obtain⟨aG,hv11,hw11,e⟩:=q8 e
    try simp only[go_sem] at hw11
    obtain⟨hg12,e⟩:=pP e;refine xN D8 ?_ (hp:=by exact⟨hg10,pZ hv11,pD,hg12⟩) (h:=by simp only[go_sem,hw11];rfl)
    refine r5 (pT ?_);obtain⟨hg13,e⟩:=pP e;refine qJ D8 ?_ (hp:=by exact hg13);cases e;exact rT ⟨⟨[1,2,4,5],[(0,0),(1,1),(2,2),(3,3),(4,4)]⟩,_,by rfl,f⟩
   .refine s8 (s7 (sA ?_));cases e;cases f;exact s9 ⟨⟨[2,4],[(0,1),(1,2),(2,3),(3,4)]⟩,by rfl⟩
  .rintro _ rfl;dsimp only at d|-;refine sD (pT ?_);refine pL D8 ?_;refine pV ?_;cases d;exact oV []
def J2 (O:oT):Option (oT×Bool):=(J1 (4:Int) O).bind fun Z=>if (((decide (Z.2.2=(0:Int)))==true)=true→((BT Z.1)).isSome=true) then some ((Z.1,((decide (Z.2.2=(0:Int)))&&((decide ((Z.1.length:Int)≤(4000:Int)))&&(Lib.validD Z.1))))) else none
section
variable (O:oT)
abbrev a7s:List pN:=[(.val .str O,none)]
abbrev a7t:List pM:=[]
@[go_sem] def a7u:pR:=⟨[((J2 O)).isSome=true],[(.val .str ((val (J2 O)).1),none),(.val .bool ((val (J2 O)).2),none)],[]⟩
def aGh:List pN→List pM→Option pR:=qU (V:=oT) (a7s) (fun x=>a7t) fun x=>a7u x
@[go_sem] def aQo:aGh (no_index (a7s O)) (no_index a7t)=some (a7u O):=qV (fun a0 b0 h1 h2=>by cases h1;cases h2;rfl) O
end
@[go_sem] abbrev a7v:Nat×qC:=(154,⟨[.v],aGh,[],[],none⟩)
def UE:qM Tryz.prog [] (qO [aGc,P5]):=⟨trivial,pU aMc (pU U7 qS),qQ⟩
def aGi:qE Tryz.prog a7v:=by
 refine qW UE Tryz.func154 (c:=_) rfl (N:=20) pE (ts:=[(2,none),(3,none)]) rfl (fun _ _=>rfl) ?_;intro O hs hrow;dsimp only[a7s,a7t,a7u,qR,pX,qD,qI,qT,Nat.reduceAdd] at hs hrow|-;have hz:=hs;obtain⟨z0,d⟩:=aQF.1 hz
 try rw[r8 d]
 clear hz hs;unfold J2 at d;refine pL UE ?_;obtain⟨Z,hv1,hw1,d⟩:=q8 d
 try simp only[go_sem] at hw1
 refine pL UE ?_ (hp:=by exact(pZ hv1)) (h:=by simp only[go_sem,hw1];rfl);obtain⟨hg2,d⟩:=pP d;refine pL UE ?_ (hp:=by exact⟨id,hg2,rI⟩);refine pV ?_;cases d;exact oV []
def GL (O:rS):Option (oT×Int):=(C0 O).bind fun Z=>(IG (Z.1,(Z.2.1,(Z.2.2.1,())))).bind fun aA=>some ((aA,Z.2.2.2))
section
variable (O:rS)
abbrev a7w:List pN:=[(.val vM O,none)]
abbrev a7x:List pM:=[]
@[go_sem] def a7y:pR:=⟨[((GL O)).isSome=true],[(.val .str ((val (GL O)).1),none),(.val (.int .i64) ((val (GL O)).2),none)],[]⟩
def aGj:List pN→List pM→Option pR:=qU (V:=rS) (a7w) (fun x=>a7x) fun x=>a7y x
@[go_sem] def aQp:aGj (no_index (a7w O)) (no_index a7x)=some (a7y O):=qV (fun a0 b0 h1 h2=>by cases h1;cases h2;rfl) O
end
@[go_sem] abbrev aGk:Nat×qC:=(16,⟨[.v],aGj,[],[],none⟩)
def UF:qM Tryz.prog [FS,x5] (qO [a7n,aEn]):=⟨⟨KS,⟨y6,trivial⟩⟩,pU aGe (pU aLC qS),qQ⟩
def aMd:qE Tryz.prog aGk:=by
 refine qW UF Tryz.func16 (c:=_) rfl (N:=14) pE (ts:=[(2,none),(3,none)]) rfl (fun _ _=>rfl) ?_;intro O hs hrow;dsimp only[a7w,a7x,a7y,qR,pX,qD,qI,qT,Nat.reduceAdd] at hs hrow|-;have hz:=hs;obtain⟨z0,d⟩:=aQF.1 hz
 try rw[r8 d]
 clear hz hs;unfold GL at d;refine pL UF ?_;obtain⟨Z,hv1,hw1,d⟩:=q8 d
 try simp only[go_sem] at hw1
 refine pL UF ?_ (hp:=by exact(pZ hv1)) (h:=by simp only[go_sem,hw1];rfl);obtain⟨aA,hv2,hw2,d⟩:=q8 d
 try simp only[go_sem] at hw2
 refine pL UF ?_ (hp:=by exact(pZ hv2)) (h:=by simp only[go_sem,hw2];rfl);refine pV ?_;cases d;exact oV []
def GM (O:rS):Option (oT×Int):=(C2 O).bind fun Z=>if (!decide (Z.2.2.2=(0:Int)))=true then some ((([]:oT),Z.2.2.2)) else (II (Z.1,(Z.2.1,(Z.2.2.1,())))).bind fun aA=>some ((aA,(0:Int)))
section
variable (O:rS)
abbrev a7z:List pN:=[(.val vM O,none)]
abbrev a7A:List pM:=[]
@[go_sem] def a7B:pR:=⟨[((GM O)).isSome=true],[(.val .str ((val (GM O)).1),none),(.val (.int .i64) ((val (GM O)).2),none)],[]⟩
def aGl:List pN→List pM→Option pR:=qU (V:=rS) (a7z) (fun x=>a7A) fun x=>a7B x
@[go_sem] def aQq:aGl (no_index (a7z O)) (no_index a7A)=some (a7B O):=qV (fun a0 b0 h1 h2=>by cases h1;cases h2;rfl) O
end
@[go_sem] abbrev aGm:Nat×qC:=(17,⟨[.v],aGl,[],[],none⟩)
def LP:qM Tryz.prog [x5,CT] (qO [a7r,aEs]):=⟨⟨y6,⟨FT,trivial⟩⟩,pU aGg (pU aLE qS),qQ⟩
def aMe:qE Tryz.prog aGm:=by
 refine qW LP Tryz.func17 (c:=_) rfl (N:=16) pE (ts:=[(2,none),(3,none)]) rfl (fun _ _=>rfl) ?_;intro O hs hrow;dsimp only[a7z,a7A,a7B,qR,pX,qD,qI,qT,Nat.reduceAdd] at hs hrow|-;have hz:=hs;obtain⟨z0,d⟩:=aQF.1 hz
 try rw[r8 d]
 clear hz hs;unfold GM at d;refine pL LP ?_;obtain⟨Z,hv1,hw1,d⟩:=q8 d
 try simp only[go_sem] at hw1
 refine pL LP ?_ (hp:=by exact(pZ hv1)) (h:=by simp only[go_sem,hw1];rfl);refine pW ?_;refine pL LP ?_;refine pY d (fun d hc1=> ?_) (fun d hc1=> ?_)
 .refine pL LP ?_;refine pV (qP ?_);cases d;exact oV []
 .refine qG (pT ?_);obtain⟨aA,hv2,hw2,d⟩:=q8 d
  try simp only[go_sem] at hw2
  refine pL LP ?_ (hp:=by exact(pZ hv2)) (h:=by simp only[go_sem,hw2];rfl);refine pV ?_;cases d;exact oV []
attribute [irreducible] C0 C2 J2 GL GM
end
noncomputable section
def GN (O:oT):Option (oT×oT×oT×Bool):=(G3 O).bind fun Z=>(EL Z.2 ([61,34]:oT)).bind fun aA=>(IM aA.1 ([34]:oT)).bind fun aB=>(J2 aB.1).bind fun aC=>some ((Z.1,aC.1,aB.2.1,((((!decide (Z.1=([]:oT)))&&aA.2)&&aB.2.2)&&aC.2)))
section
variable (O:oT)
abbrev a7C:List pN:=[(.val .str O,none)]
abbrev a7D:List pM:=[]
@[go_sem] def a7E:pR:=⟨[((GN O)).isSome=true],[(.val (.pair .str (.pair .str .unit)) ((val (GN O)).1,((val (GN O)).2.1,())),none),(.val .str ((val (GN O)).2.2.1),none),(.val .bool ((val (GN O)).2.2.2),none)],[]⟩
def aGn:List pN→List pM→Option pR:=qU (V:=oT) (a7C) (fun x=>a7D) fun x=>a7E x
@[go_sem] def aQr:aGn (no_index (a7C O)) (no_index a7D)=some (a7E O):=qV (fun a0 b0 h1 h2=>by cases h1;cases h2;rfl) O
end
@[go_sem] abbrev aGo:Nat×qC:=(128,⟨[.v],aGn,[],[],none⟩)
def J3:qM Tryz.prog [zB] (qO [a1O,U8,aET,a7v]):=⟨⟨AR,trivial⟩,pU aC5 (pU a4v (pU aLO (pU aGi qS))),qQ⟩
def aMf:qE Tryz.prog aGo:=by
 refine qW J3 Tryz.func128 (c:=_) rfl (N:=48) pE (ts:=[(2,some 127),(3,none),(4,none)]) rfl (fun _ _=>rfl) ?_;intro O hs hrow;dsimp only[a7C,a7D,a7E,qR,pX,qD,qI,qT,Nat.reduceAdd] at hs hrow|-;have hz:=hs;obtain⟨z0,d⟩:=aQF.1 hz
 try rw[r8 d]
 clear hz hs;unfold GN at d;refine pL J3 ?_;obtain⟨Z,hv1,hw1,d⟩:=q8 d
 try simp only[go_sem] at hw1
 refine pL J3 ?_ (hp:=by exact(pZ hv1)) (h:=by simp only[go_sem,hw1];rfl);obtain⟨aA,hv2,hw2,d⟩:=q8 d
 try simp only[go_sem] at hw2
 refine pL J3 ?_ (hp:=by exact(pZ hv2)) (h:=by simp only[go_sem,hw2];rfl);obtain⟨aB,hv3,hw3,d⟩:=q8 d
 try simp only[go_sem] at hw3
 refine pL J3 ?_ (hp:=by exact(pZ hv3)) (h:=by simp only[go_sem,hw3];rfl);obtain⟨aC,hv4,hw4,d⟩:=q8 d
 try simp only[go_sem] at hw4
 refine pL J3 ?_ (hp:=by exact(pZ hv4)) (h:=by simp only[go_sem,hw4];rfl);refine pL J3 ?_ (hp:=by exact⟨rI,rI,rI⟩);refine pV ?_;cases d;exact oV []
def aGp (O:Int) (Z:(oT×oT)):(oT×(List qK)×Bool)→Option ((oT×(List qK)×Bool)⊕(Unit⊕(Int×oT×(List qK)×Bool×Bool))):=fun(aA,aB,aC)=>if (!decide (Z.1=([]:oT)))=true then if (decide ((Lib.trimLeftS aA ([32,9,10,13]:oT))=([]:oT)))=true then some (.inr (.inr ((O,Z.1,aB,aC,true)))) else (GN (Lib.trimLeftS aA ([32,9,10,13]:oT))).bind fun aD=>if ((!aD.2.2.2)||(decide (((Lib.trimLeftS aA ([32,9,10,13]:oT)).length:Int)=(aA.length:Int))))=true then some (.inr (.inl ())) else if (aC==false)=true then if ((aC==false)=true→((L5 aB (aD.1,(aD.2.1,())))).isSome=true) then if (aB.length+([(aD.1,(aD.2.1,()))]:List qK).length)*32≤140737488355328 then some (.inl (aD.2.2.1,(aB++([(aD.1,(aD.2.1,()))]:List qK)),(aC||(val (L5 aB (aD.1,(aD.2.1,()))))))) else none else none else if (aB.length+([(aD.1,(aD.2.1,()))]:List qK).length)*32≤140737488355328 then some (.inl (aD.2.2.1,(aB++([(aD.1,(aD.2.1,()))]:List qK)),true)) else none else some (.inr (.inl ()))
def ER (O:oT):Option (Int×oT×(List qK)×Bool×Bool):=if pO ((O.length:Int)- (1:Int)) then if 0≤(1:Int)∧(1:Int)≤((O.length:Int)- (1:Int))∧((O.length:Int)- (1:Int))≤(O.length:Int) then (EL (s0 O (1:Int) ((O.length:Int)- (1:Int))) ([47]:oT)).bind fun Z=>if Z.2=true then (G3 Z.1).bind fun aA=>if (((decide (aA.1=([]:oT)))==false)=true→(List.all ([32,9,10,13]:oT) fun b=>decide (b.toNat<128))=true∧List.length ([32,9,10,13]:oT)<4294967281) then if (((decide (aA.1=([]:oT)))==false)=true→List.length aA.2≤9223372036854775807) then if ((decide (aA.1=([]:oT)))||(!decide ((Lib.trimS aA.2 ([32,9,10,13]:oT))=([]:oT))))=true then some (((0:Int),([]:oT),([]:List qK),false,false)) else some (((3:Int),aA.1,([]:List qK),false,true)) else none else none else (LG (s0 O (1:Int) ((O.length:Int)- (1:Int))) ([47]:oT)).bind fun aB=>sG (σ:=(oT×Int)) (if aB.2=true then some ((aB.1,(2:Int))) else some (((s0 O (1:Int) ((O.length:Int)- (1:Int))),(1:Int))) ) fun(aC,aD)=>(G3 aC).bind fun aE=>sR (rF (aGp aD aE) (aE.2,([]:List qK),false)) fun _=>some (((0:Int),([]:oT),([]:List qK),false,false)) else none else none
section
variable (O:oT)
abbrev a7F:List pN:=[(.val .str O,none)]
abbrev a7G:List pM:=[]
@[go_sem] def a7H:pR:=⟨[((ER O)).isSome=true],[(.val vA ((val (ER O)).1,((val (ER O)).2.1,((val (ER O)).2.2.1,((val (ER O)).2.2.2.1,())))),none),(.val .bool ((val (ER O)).2.2.2.2),none)],[]⟩
def aGq:List pN→List pM→Option pR:=qU (V:=oT) (a7F) (fun x=>a7G) fun x=>a7H x
@[go_sem] def aQs:aGq (no_index (a7F O)) (no_index a7G)=some (a7H O):=qV (fun a0 b0 h1 h2=>by cases h1;cases h2;rfl) O
end
@[go_sem] abbrev aGr:Nat×qC:=(86,⟨[.v],aGq,[],[],none⟩)
def uL:qM Tryz.prog [u7,yO,rG,A4,wV,zB] (qO [U8,a1O,HY,aFm,KF,aGo,aEa]):=⟨⟨uF,⟨A5,⟨rJ,⟨BO,⟨xP,⟨AR,trivial⟩⟩⟩⟩⟩⟩,pU a4v (pU aC5 (pU TL (pU aLY (pU ZE (pU aMf (pU aLB qS)))))),qQ⟩
def aMg:qE Tryz.prog aGr:=by
 refine qW uL Tryz.func86 (c:=_) rfl (N:=96) pE (ts:=[(2,some 100),(3,none)]) rfl (fun _ _=>rfl) ?_;intro O hs hrow;dsimp only[a7F,a7G,a7H,qR,pX,qD,qI,qT,Nat.reduceAdd] at hs hrow|-;have hz:=hs;obtain⟨z0,d⟩:=aQF.1 hz
 try rw[r8 d]
 clear hz hs;unfold ER at d;refine pL uL ?_;obtain⟨hg1,d⟩:=pP d;obtain⟨hg2,d⟩:=pP d;refine pL uL ?_ (hp:=by exact⟨hg1,hg2⟩);refine pL uL ?_;refine pW ?_;obtain⟨Z,hv3,hw3,d⟩:=q8 d
 try simp only[go_sem] at hw3
 refine pL uL ?_ (hp:=by exact(pZ hv3)) (h:=by simp only[go_sem,hw3];rfl);refine pL uL ?_;refine pY d (fun d hc1=> ?_) (fun d hc1=> ?_)
 .refine pL uL ?_;obtain⟨aA,hv4,hw4,d⟩:=q8 d
  try simp only[go_sem] at hw4
  refine pL uL ?_ (hp:=by exact(pZ hv4)) (h:=by simp only[go_sem,hw4];rfl);refine pW ?_;obtain⟨hg5,d⟩:=pP d;obtain⟨hg6,d⟩:=pP d;refine pL uL ?_ (hp:=by exact⟨id,hg5,hg6,id,rU⟩);refine pY d (fun d hc2=> ?_) (fun d hc2=> ?_)
  .refine pL uL ?_;refine pV (qP (qP ?_));cases d;exact oV []
  .refine qG (pT ?_);refine pL uL ?_;refine pV (qP ?_);cases d;exact oV []
 .refine qG (pT (pW ?_));obtain⟨aB,hv7,hw7,d⟩:=q8 d
  try simp only[go_sem] at hw7
  refine pL uL ?_ (hp:=by exact(pZ hv7)) (h:=by simp only[go_sem,hw7];rfl);refine pL uL ?_;obtain⟨y1,f,d⟩:=r9 d;refine vF (fun s=>s=(fun x=>⟨[(0,(.val .str x.1,none)),(2,(.val .ref (some (0,0)),none)),(4,(.val .ref (some (1,0)),none))],[(0,.cells vA ((0:Int),(([]:oT),(([]:List qK),(false,())))) [(2,2)]),(1,.cells vA (x.2,(([]:oT),(([]:List qK),(false,())))) [(2,3)]),(2,.grow 127 2 (([]:List qK).length)),(3,.grow 127 2 (([]:List qK).length))],4,96,0⟩) y1) ?_ ?_
  .refine pY f (fun f hc3=> ?_) (fun f hc3=> ?_)
   .refine qJ uL ?_;cases f;exact sB ⟨⟨[0,2,4],[(0,0),(1,288),(2,1),(3,320)]⟩,by rfl⟩
   .refine qG ?_;cases f;exact sB ⟨⟨[0,2,4],[(0,0),(1,288),(2,1),(3,320)]⟩,by rfl⟩
  .rintro _ rfl;obtain⟨aC,aD⟩:=y1;dsimp only at d|-;refine pT ?_;obtain⟨aE,hv8,hw8,d⟩:=q8 d
   try simp only[go_sem] at hw8
   refine pL uL ?_ (hp:=by exact(pZ hv8)) (h:=by simp only[go_sem,hw8];rfl);refine pW (qY ?_);obtain⟨y1,hy1,d⟩:=tN d;refine sE 0 (fun s=> ∃v,y1= .inl v∧s=(fun _=>⟨[(2,(.val .ref (some (0,0)),none))],[(0,.cells vA ((0:Int),(([]:oT),(([]:List qK),(false,())))) [(2,1)]),(1,.grow 127 2 (([]:List qK).length))],2,96,0⟩) v) ?_ ?_
   .refine sC hy1 (fun x=>⟨[(0,(.val .str x.1,none)),(2,(.val .ref (some (0,0)),none)),(4,(.val .ref (some (1,0)),none))],[(0,.cells vA ((0:Int),(([]:oT),(([]:List qK),(false,())))) [(2,2)]),(1,.cells vA (aD,(aE.1,(x.2.1,(x.2.2,())))) [(2,3)]),(2,.grow 127 2 (([]:List qK).length)),(3,.grow 127 2 (x.2.1.length))],4,96,0⟩) ⟨[0,2,4],[(0,0),(1,1),(2,2),(3,3)]⟩ pF ?_;intro x1 w1 n1 f g;obtain⟨aF,aG,aH⟩:=x1;unfold aGp at f;dsimp only at f|-;refine pW ?_;refine pL uL ?_;refine pY f (fun f hc4=> ?_) (fun f hc4=> ?_)
    .refine qG (pT (qY ?_));refine pL uL ?_ (hp:=by exact⟨oX,oX⟩);refine pW ?_;refine pL uL ?_;refine pY f (fun f hc5=> ?_) (fun f hc5=> ?_)
     .refine pL uL ?_;refine pV (qP (r6 (tM (tQ (r6 (qP ?_))))));cases f;cases g;dsimp only at d;cases d;exact oV []
     .refine qG (pT ?_);obtain⟨aI,hv9,hw9,f⟩:=q8 f
      try simp only[go_sem] at hw9
      refine pL uL ?_ (hp:=by exact(pZ hv9)) (h:=by simp only[go_sem,hw9];rfl);refine pW ?_;refine pL uL ?_ (hp:=by exact⟨id,id,id,id,rU⟩);refine pY f (fun f hc6=> ?_) (fun f hc6=> ?_)
      .refine s8 (s7 (aBm oX (sA ?_)));cases f;cases g;exact s9 ⟨⟨[2],[(0,0),(1,2)]⟩,_,rfl,by rfl⟩
      .refine qG (pT (pW ?_));by_cases hgs7:(aH==false)=true
       .rw[aQI hgs7] at f;obtain⟨hg10,f⟩:=pP f;refine qJ uL ?_ (hp:=by exact⟨id,pD,hgs7,id,id,hg10⟩)
        refine pT ?_;obtain⟨hg11,f⟩:=pP f;refine pL uL ?_ (hp:=by exact⟨pD,hg11⟩)
        refine qJ uL ?_;refine r5 ?_;cases f;exact rT ⟨⟨[0,2,4],[(0,0),(1,1),(2,2),(3,3)]⟩,_,by rfl,g⟩
       rw[aQO hgs7] at f;refine qJ (YJ (l:=[1000000004]) uL pF) ?_ (hp:=by exact⟨by first|exact Bool.eq_false_iff.2 hgs7|simpa using hgs7|simpa[qI] using hgs7,by first|exact Bool.eq_false_iff.2 hgs7|simpa using hgs7|simpa[qI] using hgs7,by first|exact Bool.eq_false_iff.2 hgs7|simpa using hgs7|simpa[qI] using hgs7,by first|exact Bool.eq_false_iff.2 hgs7|simpa using hgs7|simpa[qI] using hgs7,(by first|exact Bool.of_not_eq_false (fun e=>hgs7 (by rw[e];rfl)) |exact Bool.of_not_eq_true (fun e=>hgs7 (by rw[e];rfl)) |simpa using hgs7|simpa[qI] using hgs7)⟩)
       refine pT ?_;obtain⟨hg12,f⟩:=pP f;refine pL uL ?_ (hp:=by exact⟨pD,hg12⟩)
       refine qJ uL ?_;refine r5 ?_;cases f;exact rT ⟨⟨[0,2,4],[(0,0),(1,1),(2,2),(3,3)]⟩,_,by rfl,g⟩
    .refine s8 (s7 (sA ?_));cases f;cases g;exact s9 ⟨⟨[2],[(0,0),(1,2)]⟩,_,rfl,by rfl⟩
   .rintro _ ⟨v,rfl,rfl⟩;dsimp only at d|-;refine sD (pT ?_);refine pL uL ?_;refine pV ?_;cases d;exact oV []
def zH (O:(List rO)) (Z:Int) (aA:Int) (aB:rS) (aC:(p6×Unit)) (aD:p4):Option (Int×oT×(List qK)×Bool):=if (((!decide (aA=(0:Int)))==false)=true→0≤(0:Int)∧(0:Int)<(O.length:Int)) then if ((!decide (aA=(0:Int)))||(!decide ((qB rX O (0:Int)).1=(2:Int))))=true then some (((0:Int),([]:oT),([]:List qK),false)) else if 0≤(0:Int)∧(0:Int)<(O.length:Int) then (ER ((qB rX O (0:Int)).2.1)).bind fun aE=>some ((aE.1,aE.2.1,aE.2.2.1,aE.2.2.2.1)) else none else none
section
variable (O:(List rO)) (Z:Int) (aA:Int) (aB:rS) (aC:(p6×Unit)) (aD:Nat) (aE:Nat) (aF:p4)
abbrev a7I:List pN:=[(.val .ref (some (0,0)),none)]
abbrev a7J:List pM:=[.cells rY (O,(Z,(aA,(aB,((some 3),aC))))) [(6,1),(8,2)],.grow 53 7 aD,.grow 3 1 aE,.map .str .bool aF]
@[go_sem] def a7K:pR:=⟨[aD=(aB.2.2.2.1.length),aE=(aC.1.length),((zH O Z aA aB aC aF)).isSome=true],[(.val vA ((val (zH O Z aA aB aC aF)).1,((val (zH O Z aA aB aC aF)).2.1,((val (zH O Z aA aB aC aF)).2.2.1,((val (zH O Z aA aB aC aF)).2.2.2,())))),none)],[.cells rY (O,(Z,(aA,((aB.1,(aB.2.1,(aB.2.2.1,(aB.2.2.2.1,())))),((some 3),(aC.1,())))))) [(6,1),(8,2)],.grow 53 7 (aB.2.2.2.1.length),.grow 3 1 (aC.1.length),.map .str .bool aF]⟩
def aGs:List pN→List pM→Option pR:=qU (V:=((List rO)×Int×Int×rS×(p6×Unit)×Nat×Nat×p4)) (fun x=>a7I) (fun x=>a7J x.1 x.2.1 x.2.2.1 x.2.2.2.1 x.2.2.2.2.1 x.2.2.2.2.2.1 x.2.2.2.2.2.2.1 x.2.2.2.2.2.2.2) fun x=>a7K x.1 x.2.1 x.2.2.1 x.2.2.2.1 x.2.2.2.2.1 x.2.2.2.2.2.1 x.2.2.2.2.2.2.1 x.2.2.2.2.2.2.2
@[go_sem] def aQt:aGs (no_index a7I) (no_index (a7J O Z aA aB aC aD aE aF))=some (a7K O Z aA aB aC aD aE aF):=qV (fun⟨a0,a1,a2,a3,a4,a5,a6,a7⟩ ⟨b0,b1,b2,b3,b4,b5,b6,b7⟩ h1 h2=>by cases h1;cases h2;rfl) (O,Z,aA,aB,aC,aD,aE,aF)
end
@[go_sem] abbrev ES:Nat×qC:=(53,⟨[.p rY [6,8]],aGs,[(0,7,.m)],[0,1,2,3],none⟩)
def LQ:qM Tryz.prog [u7,rG,AQ,A1,A3,y3,wV] (qO [aGr]):=⟨⟨uF,⟨rJ,⟨CU,⟨E2,⟨BN,⟨CQ,⟨xP,trivial⟩⟩⟩⟩⟩⟩⟩,pU aMg qS,qQ⟩
def GO:qE Tryz.prog ES:=by
 refine qW LQ Tryz.func53 (c:=_) rfl (N:=33) pE (ts:=[(2,some 100)]) rfl (fun _ _=>rfl) ?_;intro⟨O,Z,aA,aB,aC,aD,aE,aF⟩ hs hrow;dsimp only[a7I,a7J,a7K,qR,pX,qD,qI,qT,Nat.reduceAdd] at hs hrow|-;obtain⟨rfl,rfl,hz⟩:=hs;obtain⟨z0,d⟩:=aQF.1 hz
 try rw[r8 d]
 clear hz;unfold zH at d;refine pL LQ ?_;refine pW ?_;obtain⟨hg1,d⟩:=pP d;refine pL LQ ?_ (hp:=by exact⟨id,id,id,id,hg1,id,id,id,rU⟩);refine pY d (fun d hc1=> ?_) (fun d hc1=> ?_)
 .refine pL LQ ?_;refine pV (qP ?_);cases d;exact oV [(0,0),(1,1),(2,2),(3,3)]
 .refine qG (pT ?_);obtain⟨hg2,d⟩:=pP d;obtain⟨aG,hv3,hw3,d⟩:=q8 d
  try simp only[go_sem] at hw3
  refine pL LQ ?_ (hp:=by exact⟨hg2,(pZ hv3)⟩) (h:=by simp only[go_sem,hw3];rfl);refine pL LQ ?_;refine pV ?_;cases d;exact oV [(0,0),(1,1),(2,2),(3,3)]
attribute [irreducible] GN ER zH
end
noncomputable section
def C3 (O:(List rO)) (Z:Int) (aA:Int) (aB:rS) (aC:(p6×Unit)) (aD:oT) (aE:p4):Option ((List rO)×Int×Int):=(zH O Z aA aB aC aE).bind fun aF=>if ((!decide (aF.1=(3:Int)))||(!decide (aF.2.1=aD)))=true then (AT O Z aA aB aC (3:Int) aE).bind fun aG=>(wW O aG.1 aG.2 (aB.1,(aB.2.1,(aB.2.2.1,(aB.2.2.2.1,())))) (aC.1,()) aE).bind fun aH=>some ((aH,aG.1,aG.2)) else (wW O Z aA aB aC aE).bind fun aI=>some ((aI,Z,aA))
section
variable (O:oT) (Z:(List rO)) (aA:Int) (aB:Int) (aC:rS) (aD:(p6×Unit)) (aE:Nat) (aF:Nat) (aG:p4)
abbrev a7L:List pN:=[(.val .ref (some (0,0)),none),(.val .str O,none)]
abbrev a7M:List pM:=[.cells rY (Z,(aA,(aB,(aC,((some 3),aD))))) [(6,1),(8,2)],.grow 53 7 aE,.grow 3 1 aF,.map .str .bool aG]
@[go_sem] def a7N:pR:=⟨[aE=(aC.2.2.2.1.length),aF=(aD.1.length),((C3 Z aA aB aC aD O aG)).isSome=true],[(.val (.int .i64) ((qB rX Z (0:Int)).2.2.1+(((qB rX Z (0:Int)).2.1).length:Int)),none)],[.cells rY ((val (C3 Z aA aB aC aD O aG)).1,((val (C3 Z aA aB aC aD O aG)).2.1,((val (C3 Z aA aB aC aD O aG)).2.2,((aC.1,(aC.2.1,(aC.2.2.1,(aC.2.2.2.1,())))),((some 3),(aD.1,())))))) [(6,1),(8,2)],.grow 53 7 (aC.2.2.2.1.length),.grow 3 1 (aD.1.length),.map .str .bool aG]⟩
def aGt:List pN→List pM→Option pR:=qU (V:=(oT×(List rO)×Int×Int×rS×(p6×Unit)×Nat×Nat×p4)) (fun x=>a7L x.1) (fun x=>a7M x.2.1 x.2.2.1 x.2.2.2.1 x.2.2.2.2.1 x.2.2.2.2.2.1 x.2.2.2.2.2.2.1 x.2.2.2.2.2.2.2.1 x.2.2.2.2.2.2.2.2) fun x=>a7N x.1 x.2.1 x.2.2.1 x.2.2.2.1 x.2.2.2.2.1 x.2.2.2.2.2.1 x.2.2.2.2.2.2.1 x.2.2.2.2.2.2.2.1 x.2.2.2.2.2.2.2.2
@[go_sem] def aQu:aGt (no_index (a7L O)) (no_index (a7M Z aA aB aC aD aE aF aG))=some (a7N O Z aA aB aC aD aE aF aG):=qV (fun⟨a0,a1,a2,a3,a4,a5,a6,a7,a8⟩ ⟨b0,b1,b2,b3,b4,b5,b6,b7,b8⟩ h1 h2=>by cases h1;cases h2;rfl) (O,Z,aA,aB,aC,aD,aE,aF,aG)
end
@[go_sem] abbrev PY:Nat×qC:=(55,⟨[.p rY [6,8],.v],aGt,[(0,7,.m)],[1,2,3],none⟩)
def J4:qM Tryz.prog [u7,rG,wV] (qO [ES,I8,G2]):=⟨⟨uF,⟨rJ,⟨xP,trivial⟩⟩⟩,pU GO (pU KW (pU IB qS)),qQ⟩
def UG:qE Tryz.prog PY:=by
 refine qW J4 Tryz.func55 (c:=_) rfl (N:=21) pE (ts:=[(4,none)]) rfl (fun _ _=>rfl) ?_;intro⟨O,Z,aA,aB,aC,aD,aE,aF,aG⟩ hs hrow;dsimp only[a7L,a7M,a7N,qR,pX,qD,qI,qT,Nat.reduceAdd] at hs hrow|-;obtain⟨rfl,rfl,hz⟩:=hs;obtain⟨z0,d⟩:=aQF.1 hz
 try rw[r8 d]
 clear hz;unfold C3 at d;refine pL J4 ?_;refine pW ?_;obtain⟨aH,hv1,hw1,d⟩:=q8 d
 try simp only[go_sem] at hw1
 refine pL J4 ?_ (hp:=by exact⟨pD,pD,pD,pD,pD,pD,(pZ hv1)⟩) (h:=by simp only[go_sem,hw1];rfl)
 refine pL J4 ?_ (hp:=by exact⟨id,id,id,rU⟩);refine pY d (fun d hc1=> ?_) (fun d hc1=> ?_)
 .obtain⟨aI,hv2,hw2,d⟩:=q8 d
  try simp only[go_sem] at hw2
  refine qJ J4 ?_ (hp:=by exact⟨pD,pD,pD,pD,pD,(pZ hv2)⟩) (h:=by simp only[go_sem,hw2];rfl)
  refine pT ?_;obtain⟨aJ,hv3,hw3,d⟩:=q8 d
  try simp only[go_sem] at hw3
  refine pL J4 ?_ (hp:=by exact⟨pD,pD,pD,pD,pD,(pZ hv3)⟩) (h:=by simp only[go_sem,hw3];rfl)
  refine pV ?_;cases d;exact oV [(0,0),(1,1),(2,2),(3,3)]
 .refine qG (pT ?_);obtain⟨aK,hv4,hw4,d⟩:=q8 d
  try simp only[go_sem] at hw4
  refine pL J4 ?_ (hp:=by exact⟨pD,pD,pD,pD,pD,(pZ hv4)⟩) (h:=by simp only[go_sem,hw4];rfl)
  refine pV ?_;cases d;exact oV [(0,0),(1,1),(2,2),(3,3)]
def AB (O:(List rO)) (Z:Int) (aA:Int) (aB:rS) (aC:(p6×Unit)) (aD:wU) (aE:p4):Option (oT×(List rO)×Int×Int):=(wW O Z aA aB aC aE).bind fun aF=>if (decide (aD.1=(2:Int)))=true then some ((([]:oT),aF,Z,aA)) else if 0≤(0:Int)∧(0:Int)<(aF.length:Int) then if (decide ((qB rX aF (0:Int)).1=(3:Int)))=true then if 0≤(0:Int)∧(0:Int)<(aF.length:Int) then (J2 ((qB rX aF (0:Int)).2.1)).bind fun aG=>sG (σ:=(Int×Int)) (if (!aG.2)=true then (AT aF Z aA (aB.1,(aB.2.1,(aB.2.2.1,(aB.2.2.2.1,())))) (aC.1,()) (3:Int) aE).bind fun aH=>some ((aH.1,aH.2)) else some ((Z,aA)) ) fun(aI,aJ)=>(wW aF aI aJ (aB.1,(aB.2.1,(aB.2.2.1,(aB.2.2.2.1,())))) (aC.1,()) aE).bind fun aK=>(C3 aK aI aJ (aB.1,(aB.2.1,(aB.2.2.1,(aB.2.2.2.1,())))) (aC.1,()) aD.2.1 aE).bind fun aL=>some ((aG.1,aL.1,aL.2.1,aL.2.2)) else none else (C3 aF Z aA (aB.1,(aB.2.1,(aB.2.2.1,(aB.2.2.2.1,())))) (aC.1,()) aD.2.1 aE).bind fun aM=>some ((([]:oT),aM.1,aM.2.1,aM.2.2)) else none
section
variable (O:wU) (Z:(List rO)) (aA:Int) (aB:Int) (aC:rS) (aD:(p6×Unit)) (aE:Nat) (aF:Nat) (aG:p4)
abbrev a7O:List pN:=[(.val .ref (some (0,0)),none),(.val vA O,none)]
abbrev a7P:List pM:=[.cells rY (Z,(aA,(aB,(aC,((some 3),aD))))) [(6,1),(8,2)],.grow 53 7 aE,.grow 3 1 aF,.map .str .bool aG]
@[go_sem] def a7Q:pR:=⟨[aE=(aC.2.2.2.1.length),aF=(aD.1.length),((AB Z aA aB aC aD O aG)).isSome=true],[(.val .str ((val (AB Z aA aB aC aD O aG)).1),none)],[.cells rY ((val (AB Z aA aB aC aD O aG)).2.1,((val (AB Z aA aB aC aD O aG)).2.2.1,((val (AB Z aA aB aC aD O aG)).2.2.2,((aC.1,(aC.2.1,(aC.2.2.1,(aC.2.2.2.1,())))),((some 3),(aD.1,())))))) [(6,1),(8,2)],.grow 53 7 (aC.2.2.2.1.length),.grow 3 1 (aD.1.length),.map .str .bool aG]⟩
def aGu:List pN→List pM→Option pR:=qU (V:=(wU×(List rO)×Int×Int×rS×(p6×Unit)×Nat×Nat×p4)) (fun x=>a7O x.1) (fun x=>a7P x.2.1 x.2.2.1 x.2.2.2.1 x.2.2.2.2.1 x.2.2.2.2.2.1 x.2.2.2.2.2.2.1 x.2.2.2.2.2.2.2.1 x.2.2.2.2.2.2.2.2) fun x=>a7Q x.1 x.2.1 x.2.2.1 x.2.2.2.1 x.2.2.2.2.1 x.2.2.2.2.2.1 x.2.2.2.2.2.2.1 x.2.2.2.2.2.2.2.1 x.2.2.2.2.2.2.2.2
@[go_sem] def aQv:aGu (no_index (a7O O)) (no_index (a7P Z aA aB aC aD aE aF aG))=some (a7Q O Z aA aB aC aD aE aF aG):=qV (fun⟨a0,a1,a2,a3,a4,a5,a6,a7,a8⟩ ⟨b0,b1,b2,b3,b4,b5,b6,b7,b8⟩ h1 h2=>by cases h1;cases h2;rfl) (O,Z,aA,aB,aC,aD,aE,aF,aG)
end
@[go_sem] abbrev J5:Nat×qC:=(114,⟨[.p rY [6,8],.v],aGu,[(0,7,.m)],[1,2,3],none⟩)
def y7:qM Tryz.prog [u7,rG,A1,A3,y3,wV] (qO [G2,a7v,I8,PY]):=⟨⟨uF,⟨rJ,⟨E2,⟨BN,⟨CQ,⟨xP,trivial⟩⟩⟩⟩⟩⟩,pU IB (pU aGi (pU KW (pU UG qS))),qQ⟩
def LR:qE Tryz.prog J5:=by
 refine qW y7 Tryz.func114 (c:=_) rfl (N:=44) pE (ts:=[(4,none)]) rfl (fun _ _=>rfl) ?_;intro⟨O,Z,aA,aB,aC,aD,aE,aF,aG⟩ hs hrow;dsimp only[a7O,a7P,a7Q,qR,pX,qD,qI,qT,Nat.reduceAdd] at hs hrow|-;obtain⟨rfl,rfl,hz⟩:=hs;obtain⟨z0,d⟩:=aQF.1 hz
 try rw[r8 d]
 clear hz;unfold AB at d;refine pL y7 ?_;obtain⟨aH,hv1,hw1,d⟩:=q8 d
 try simp only[go_sem] at hw1
 refine pL y7 ?_ (hp:=by exact⟨pD,pD,pD,pD,pD,(pZ hv1)⟩) (h:=by simp only[go_sem,hw1];rfl)
 refine pW ?_;refine pL y7 ?_;refine pY d (fun d hc1=> ?_) (fun d hc1=> ?_)
 .refine pL y7 ?_;refine pV (qP ?_);cases d;exact oV [(0,0),(1,1),(2,2),(3,3)]
 .refine qG (pT ?_);refine pL y7 ?_;refine pW ?_;obtain⟨hg2,d⟩:=pP d;refine pL y7 ?_ (hp:=by exact hg2);refine pY d (fun d hc2=> ?_) (fun d hc2=> ?_)
  .obtain⟨hg3,d⟩:=pP d;obtain⟨aI,hv4,hw4,d⟩:=q8 d
   try simp only[go_sem] at hw4
   refine pL y7 ?_ (hp:=by exact⟨hg3,(pZ hv4)⟩) (h:=by simp only[go_sem,hw4];rfl);refine pW ?_;refine pL y7 ?_;obtain⟨y1,f,d⟩:=r9 d;refine vF (fun s=>s=(fun x=>⟨[(0,(.val .ref (some (0,0)),none)),(3,(.val .ref (some (4,0)),none)),(6,(.val .str aI.1,none))],[(0,.cells rY (aH,(x.1,(x.2,((aC.1,(aC.2.1,(aC.2.2.1,(aC.2.2.2.1,())))),((some 3),(aD.1,())))))) [(6,1),(8,2)]),(1,.grow 53 7 (aC.2.2.2.1.length)),(2,.grow 3 1 (aD.1.length)),(3,.map .str .bool aG),(4,.cells vA O [])],5,44,4⟩) y1) ?_ ?_
   .refine pY f (fun f hc3=> ?_) (fun f hc3=> ?_)
    .obtain⟨aJ,hv5,hw5,f⟩:=q8 f
     try simp only[go_sem] at hw5
     refine qJ y7 ?_ (hp:=by exact⟨pD,pD,pD,pD,pD,(pZ hv5)⟩) (h:=by simp only[go_sem,hw5];rfl)
     cases f;exact sB ⟨⟨[0,3,6],[(0,0),(1,1),(2,2),(3,3),(4,4)]⟩,by rfl⟩
    .refine qG ?_;cases f;exact sB ⟨⟨[0,3,6],[(0,0),(1,1),(2,2),(3,3),(4,4)]⟩,by rfl⟩
   .rintro _ rfl;obtain⟨aK,aL⟩:=y1;dsimp only at d|-;refine pT ?_;refine pL y7 ?_;obtain⟨aM,hv6,hw6,d⟩:=q8 d
    try simp only[go_sem] at hw6
    refine qJ y7 ?_ (hp:=by exact⟨pD,pD,pD,pD,pD,(pZ hv6)⟩) (h:=by simp only[go_sem,hw6];rfl)
    refine pT ?_;obtain⟨aN,hv7,hw7,d⟩:=q8 d
    try simp only[go_sem] at hw7
    refine pL y7 ?_ (hp:=by exact⟨pD,pD,pD,pD,pD,(pZ hv7)⟩) (h:=by simp only[go_sem,hw7];rfl)
    refine pL y7 ?_;refine pV ?_;cases d;exact oV [(0,0),(1,1),(2,2),(3,3)]
  .refine qG (pT ?_);obtain⟨aO,hv8,hw8,d⟩:=q8 d
   try simp only[go_sem] at hw8
   refine pL y7 ?_ (hp:=by exact⟨pD,pD,pD,pD,pD,(pZ hv8)⟩) (h:=by simp only[go_sem,hw8];rfl)
   refine pL y7 ?_;refine pV ?_;cases d;exact oV [(0,0),(1,1),(2,2),(3,3)]
def C5 (O:(List rO)) (Z:Int) (aA:Int) (aB:rS) (aC:(p6×Unit)) (aD:wU) (aE:sH) (aF:p4):Option ((List rO)×Int×Int×oU):=if ((vB aD ([]:oT) ([]:oT))).isSome=true then (vB aD ([]:oT) ([]:oT)).bind fun aG=>(wD O Z aA aB aC (!true) aD.2.2.2.1 (decide ((aE.2.2.2.1.length:Int)=(20:Int))) aF).bind fun aH=>(AB O aH.1 aH.2 (aB.1,(aB.2.1,(aB.2.2.1,(aB.2.2.2.1,())))) (aC.1,()) aD aF).bind fun aI=>if (aE.2.2.2.1.length+([aI.1]:oU).length)*16≤140737488355328 then some ((aI.2.1,aI.2.2.1,aI.2.2.2,(aE.2.2.2.1++([aI.1]:oU)))) else none else (D0 aD ([]:oT) ([]:oT)).bind fun aJ=>(wD O Z aA aB aC (!false) aD.2.2.2.1 (decide ((aE.2.2.2.1.length:Int)=(20:Int))) aF).bind fun aK=>(AB O aK.1 aK.2 (aB.1,(aB.2.1,(aB.2.2.1,(aB.2.2.2.1,())))) (aC.1,()) aD aF).bind fun aL=>if (aE.2.2.2.1.length+([aL.1]:oU).length)*16≤140737488355328 then some ((aL.2.1,aL.2.2.1,aL.2.2.2,(aE.2.2.2.1++([aL.1]:oU)))) else none
section
variable (O:wU) (Z:(List rO)) (aA:Int) (aB:Int) (aC:rS) (aD:(p6×Unit)) (aE:Nat) (aF:Nat) (aG:sH) (aH:Nat) (aI:p4)
abbrev a7R:List pN:=[(.val .ref (some (0,0)),none),(.val vA O,none),(.val .ref (some (3,0)),none)]
abbrev a7S:List pM:=[.cells rY (Z,(aA,(aB,(aC,((some 5),aD))))) [(6,1),(8,2)],.grow 53 7 aE,.grow 3 1 aF,.cells rN aG [(3,4)],.grow 9 1 aH,.map .str .bool aI]
@[go_sem] def a7T:pR:=⟨[aE=(aC.2.2.2.1.length),aF=(aD.1.length),aH=(aG.2.2.2.1.length),((C5 Z aA aB aC aD O aG aI)).isSome=true],[],[.cells rY ((val (C5 Z aA aB aC aD O aG aI)).1,((val (C5 Z aA aB aC aD O aG aI)).2.1,((val (C5 Z aA aB aC aD O aG aI)).2.2.1,((aC.1,(aC.2.1,(aC.2.2.1,(aC.2.2.2.1,())))),((some 5),(aD.1,())))))) [(6,1),(8,2)],.grow 53 7 (aC.2.2.2.1.length),.grow 3 1 (aD.1.length),.cells rN (aG.1,(aG.2.1,(aG.2.2.1,((val (C5 Z aA aB aC aD O aG aI)).2.2.2,(aG.2.2.2.2.1,(aG.2.2.2.2.2.1,(aG.2.2.2.2.2.2.1,()))))))) [(3,4)],.grow 9 1 (((val (C5 Z aA aB aC aD O aG aI)).2.2.2).length),.map .str .bool aI]⟩
def aGv:List pN→List pM→Option pR:=qU (V:=(wU×(List rO)×Int×Int×rS×(p6×Unit)×Nat×Nat×sH×Nat×p4)) (fun x=>a7R x.1) (fun x=>a7S x.2.1 x.2.2.1 x.2.2.2.1 x.2.2.2.2.1 x.2.2.2.2.2.1 x.2.2.2.2.2.2.1 x.2.2.2.2.2.2.2.1 x.2.2.2.2.2.2.2.2.1 x.2.2.2.2.2.2.2.2.2.1 x.2.2.2.2.2.2.2.2.2.2) fun x=>a7T x.1 x.2.1 x.2.2.1 x.2.2.2.1 x.2.2.2.2.1 x.2.2.2.2.2.1 x.2.2.2.2.2.2.1 x.2.2.2.2.2.2.2.1 x.2.2.2.2.2.2.2.2.1 x.2.2.2.2.2.2.2.2.2.1 x.2.2.2.2.2.2.2.2.2.2
@[go_sem] def aQw:aGv (no_index (a7R O)) (no_index (a7S Z aA aB aC aD aE aF aG aH aI))=some (a7T O Z aA aB aC aD aE aF aG aH aI):=qV (fun⟨a0,a1,a2,a3,a4,a5,a6,a7,a8,a9,a10⟩ ⟨b0,b1,b2,b3,b4,b5,b6,b7,b8,b9,b10⟩ h1 h2=>by cases h1;cases h2;rfl) (O,Z,aA,aB,aC,aD,aE,aF,aG,aH,aI)
end
@[go_sem] abbrev PZ:Nat×qC:=(83,⟨[.p rY [6,8],.v,.p rN [3]],aGv,[(0,7,.m)],[1,2,5],none⟩)
def J6:qM Tryz.prog [yO,tG,vG,wV] (qO [L6,BQ,J5]):=⟨⟨A5,⟨tT,⟨vW,⟨xP,trivial⟩⟩⟩⟩,pU P3 (pU CY (pU LR qS)),qQ⟩
def aMh:qM Tryz.prog [yO,tG,vG,wV] (qO [BQ,J5,L7]):=⟨⟨A5,⟨tT,⟨vW,⟨xP,trivial⟩⟩⟩⟩,pU CY (pU LR (pU P4 qS)),qQ⟩
def UH:qE Tryz.prog PZ:=by
 refine qW J6 Tryz.func83 (c:=_) rfl (N:=37) pE (ts:=[]) rfl (fun _ _=>rfl) ?_;intro⟨O,Z,aA,aB,aC,aD,aE,aF,aG,aH,aI⟩ hs hrow;dsimp only[a7R,a7S,a7T,qR,pX,qD,qI,qT,Nat.reduceAdd] at hs hrow|-;obtain⟨rfl,rfl,rfl,hz⟩:=hs;obtain⟨z0,d⟩:=aQF.1 hz
 try rw[r8 d]
 clear hz;unfold C5 at d;refine pL J6 ?_;refine pW ?_;by_cases hva1:((vB O ([]:oT) ([]:oT))).isSome=true
 .rw[aQI hva1] at d;obtain⟨aJ,hv1,hw1,d⟩:=q8 d
  try simp only[go_sem] at hw1
  refine qJ J6 ?_ (hp:=by exact(pZ hv1)) (h:=by simp only[go_sem,hw1];rfl);refine pT ?_;obtain⟨aK,hv2,hw2,d⟩:=q8 d
  try simp only[go_sem] at hw2
  refine tW J6 ?_ (hp:=by exact⟨pD,pD,pD,pD,pD,(pZ hv2)⟩) (h:=by simp only[go_sem,hw2];rfl)
  obtain⟨aL,hv3,hw3,d⟩:=q8 d
  try simp only[go_sem] at hw3
  obtain⟨hg4,d⟩:=pP d;refine xN J6 ?_ (hp:=by exact⟨pD,pD,pD,pD,pD,pZ hv3,pD,hg4⟩) (h:=by simp only[go_sem,hw3];rfl)
  cases d;exact oV [(0,0),(1,1),(2,2),(3,3),(4,4),(5,5)]
 rw[aQO hva1] at d;obtain⟨aM,hv5,hw5,d⟩:=q8 d
 try simp only[go_sem] at hw5
 refine qJ aMh ?_ (hp:=by exact(pZ hv5)) (h:=by simp only[go_sem,hw5];rfl);refine pT ?_;obtain⟨aN,hv6,hw6,d⟩:=q8 d
 try simp only[go_sem] at hw6
 refine tW J6 ?_ (hp:=by exact⟨pD,pD,pD,pD,pD,(pZ hv6)⟩) (h:=by simp only[go_sem,hw6];rfl)
 obtain⟨aO,hv7,hw7,d⟩:=q8 d
 try simp only[go_sem] at hw7
 obtain⟨hg8,d⟩:=pP d;refine xN J6 ?_ (hp:=by exact⟨pD,pD,pD,pD,pD,pZ hv7,pD,hg8⟩) (h:=by simp only[go_sem,hw7];rfl)
 cases d;exact oV [(0,0),(1,1),(2,2),(3,3),(4,4),(5,5)]
attribute [irreducible] C3 AB C5
end
end Go.Proofs.YtkpflnijijccpaaGreatDoor
