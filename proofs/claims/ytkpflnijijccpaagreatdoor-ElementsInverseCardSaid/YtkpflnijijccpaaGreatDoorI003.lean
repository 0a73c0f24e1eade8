/- Packed by a program of mine (wip/tools/pack.py): the same texts with short names and few blanks. -/
import Derived.KernelRfl
import Derived.OrdersIn
import Derived.Test.YtkpflnijijccpaaGreatDoorI002
set_option linter.defProp false
set_option linter.unusedVariables false
set_option linter.unusedSimpArgs false
set_option linter.unusedSectionVars false
set_option maxRecDepth 100000
set_option maxHeartbeats 4000000
namespace Go.Proofs.YtkpflnijijccpaaGreatDoor
open Vc
noncomputable section
def aFY (O:Int):Option pD:=if (decide (O=(38:Int)))=true then some (([38,97,109,112,59]:pD)) else if (decide (O=(60:Int)))=true then some (([38,108,116,59]:pD)) else if (decide (O=(62:Int)))=true then some (([38,103,116,59]:pD)) else if (decide (O=(34:Int)))=true then some (([38,113,117,111,116,59]:pD)) else if ((decide (O<(32:Int)))||(decide (O=(127:Int))))=true then (aFf (IntKind.wrap .i64 O)).bind fun Z=>if ((([38,35]:pD)++Z).length:Int)≤9223372036854775807 then if (((([38,35]:pD)++Z)++([59]:pD)).length:Int)≤9223372036854775807 then some (((([38,35]:pD)++Z)++([59]:pD))) else none else none else some ((uA ([O]:pM)))
def aFZ (O:Int):Unit:=()
section
variable (O:Int)
abbrev a4L:List qC:=[(.val (.int .i64) O,none)]
abbrev a4M:List qB:=[]
@[go_sem] def a4N:qI:=⟨[],[(.val .bool (((decide ((0:Int)≤O))&&(decide (O≤(1114111:Int))))&&((decide (O<(55296:Int)))||(decide ((57343:Int)<O)))),none)],[]⟩
def aF0:List qC→List qB→Option qI:=rM (V:=Int) (a4L) (fun x=>a4M) fun x=>a4N x
@[go_sem] def aTV:aF0 (no_index (a4L O)) (no_index a4M)=some (a4N O):=rQ (fun a0 b0 h1 h2=>by cases h1;cases h2;rfl) O
end
@[go_sem] abbrev a4O:Nat×qW:=(146,⟨[.v],aF0,[],[],none⟩)
def a4P:rF Tryz.prog [] (rG []):=⟨trivial,rJ,rH⟩
def aF1:r5 Tryz.prog a4O:=by
 refine rR a4P Tryz.func146 (c:=_) rfl (N:=17) pU (ts:=[(2,none)]) rfl (fun _ _=>rfl) ?_;intro O hs hrow;dsimp only[a4L,a4M,a4N,rI,qR,qZ,r8,rL,Nat.reduceAdd] at hs hrow|-;obtain⟨z0,d⟩: ∃z,(aFZ O)=z:=⟨_,rfl⟩
 try rw[d]
 unfold aFZ at d;refine q9 a4P ?_;refine q9 a4P ?_ (hp:=by exact⟨id,sB,id,id,id,id,fun hG e=>G1 hG e,sB⟩);refine qP ?_;cases d;exact pF []
def DQ (O:Int):Option pD:=if (decide (O<(128:Int)))=true then some ((uA ([(IntKind.wrap .u8 O)]:pM))) else if (decide (O<(2048:Int)))=true then if qD ((192:Int)+(IntKind.wrap .i64 (Int.tdiv O (64:Int)))) then if qD ((128:Int)+(Int.tmod O (64:Int))) then some ((uA ([(IntKind.wrap .u8 ((192:Int)+(IntKind.wrap .i64 (Int.tdiv O (64:Int))))),(IntKind.wrap .u8 ((128:Int)+(Int.tmod O (64:Int))))]:pM))) else none else none else if (decide (O<(65536:Int)))=true then if qD ((224:Int)+(IntKind.wrap .i64 (Int.tdiv O (4096:Int)))) then if qD ((128:Int)+(Int.tmod (IntKind.wrap .i64 (Int.tdiv O (64:Int))) (64:Int))) then if qD ((128:Int)+(Int.tmod O (64:Int))) then some ((uA ([(IntKind.wrap .u8 ((224:Int)+(IntKind.wrap .i64 (Int.tdiv O (4096:Int))))),(IntKind.wrap .u8 ((128:Int)+(Int.tmod (IntKind.wrap .i64 (Int.tdiv O (64:Int))) (64:Int)))),(IntKind.wrap .u8 ((128:Int)+(Int.tmod O (64:Int))))]:pM))) else none else none else none else if qD ((240:Int)+(IntKind.wrap .i64 (Int.tdiv O (262144:Int)))) then if qD ((128:Int)+(Int.tmod (IntKind.wrap .i64 (Int.tdiv O (4096:Int))) (64:Int))) then if qD ((128:Int)+(Int.tmod (IntKind.wrap .i64 (Int.tdiv O (64:Int))) (64:Int))) then if qD ((128:Int)+(Int.tmod O (64:Int))) then some ((uA ([(IntKind.wrap .u8 ((240:Int)+(IntKind.wrap .i64 (Int.tdiv O (262144:Int))))),(IntKind.wrap .u8 ((128:Int)+(Int.tmod (IntKind.wrap .i64 (Int.tdiv O (4096:Int))) (64:Int)))),(IntKind.wrap .u8 ((128:Int)+(Int.tmod (IntKind.wrap .i64 (Int.tdiv O (64:Int))) (64:Int)))),(IntKind.wrap .u8 ((128:Int)+(Int.tmod O (64:Int))))]:pM))) else none else none else none else none
section
variable (O:Int)
abbrev a4Q:List qC:=[(.val (.int .i64) O,none)]
abbrev a4R:List qB:=[]
@[go_sem] def a4S:qI:=⟨[((DQ O)).isSome=true],[(.val .str (val (DQ O)),none)],[]⟩
def aF2:List qC→List qB→Option qI:=rM (V:=Int) (a4Q) (fun x=>a4R) fun x=>a4S x
@[go_sem] def aTW:aF2 (no_index (a4Q O)) (no_index a4R)=some (a4S O):=rQ (fun a0 b0 h1 h2=>by cases h1;cases h2;rfl) O
end
@[go_sem] abbrev a4T:Nat×qW:=(147,⟨[.v],aF2,[],[],none⟩)
def HU:rF Tryz.prog [wP,G5,sJ,EQ] (rG []):=⟨⟨xE,⟨JM,⟨sM,⟨HO,trivial⟩⟩⟩⟩,rJ,rH⟩
def aF3:r5 Tryz.prog a4T:=by
 refine rR HU Tryz.func147 (c:=_) rfl (N:=61) pU (ts:=[(2,none)]) rfl (fun _ _=>rfl) ?_;intro O hs hrow;dsimp only[a4Q,a4R,a4S,rI,qR,qZ,r8,rL,Nat.reduceAdd] at hs hrow|-;have hz:=hs;obtain⟨z0,d⟩:=aVt.1 hz
 try rw[rY d]
 clear hz hs;unfold DQ at d;refine q9 HU ?_;refine qO (rP ?_);refine q9 HU ?_;refine qS d (fun d hc1=> ?_) (fun d hc1=> ?_)
 .refine q9 HU ?_;refine qP (rT (rD ?_));cases d;exact pF []
 .refine q9 HU ?_;refine qS d (fun d hc2=> ?_) (fun d hc2=> ?_)
  .obtain⟨hg1,d⟩:=qG d;obtain⟨hg2,d⟩:=qG d;refine q9 HU ?_ (hp:=by exact⟨show (64:Int)≠0 from by decide,hg1,show (64:Int)≠0 from by decide,hg2⟩);refine qP (rT (rD ?_));cases d;exact pF []
  .refine q9 HU ?_;refine qS d (fun d hc3=> ?_) (fun d hc3=> ?_)
   .obtain⟨hg3,d⟩:=qG d;obtain⟨hg4,d⟩:=qG d;obtain⟨hg5,d⟩:=qG d;refine q9 HU ?_ (hp:=by exact⟨show (4096:Int)≠0 from by decide,hg3,show (64:Int)≠0 from by decide,show (64:Int)≠0 from by decide,hg4,show (64:Int)≠0 from by decide,hg5⟩);refine qP (rT (rD ?_));cases d;exact pF []
   .refine r7 (rU (qJ ?_));obtain⟨hg6,d⟩:=qG d;obtain⟨hg7,d⟩:=qG d;obtain⟨hg8,d⟩:=qG d;obtain⟨hg9,d⟩:=qG d;refine q9 HU ?_ (hp:=by exact⟨show (262144:Int)≠0 from by decide,hg6,show (4096:Int)≠0 from by decide,show (64:Int)≠0 from by decide,hg7,show (64:Int)≠0 from by decide,show (64:Int)≠0 from by decide,hg8,show (64:Int)≠0 from by decide,hg9⟩);refine qP ?_;cases d;exact pF []
def EY (O:pD) (Z:Int):(Int×Int)→Option ((Int×Int)⊕(Int⊕(Int×Int))):=fun(aA,aB)=>if (decide (aB<Z))=true then if 0≤aB∧aB<(O.length:Int) then if (((decide ((sF O aB)<(128:Int)))==false)=true→0≤aB∧aB<(O.length:Int)) then if ((decide ((sF O aB)<(128:Int)))||(decide ((191:Int)<(sF O aB))))=true then some (.inr (.inr (((65533:Int),(1:Int))))) else if qD ((64:Int)*aA) then if 0≤aB∧aB<(O.length:Int) then if qD (((64:Int)*aA)+(IntKind.wrap .i64 (sF O aB))) then if qD ((((64:Int)*aA)+(IntKind.wrap .i64 (sF O aB)))- (128:Int)) then if qD (aB+(1:Int)) then some (.inl (((((64:Int)*aA)+(IntKind.wrap .i64 (sF O aB)))- (128:Int)),(aB+(1:Int)))) else none else none else none else none else none else none else none else some (.inr (.inl aA))
def JW (O:pD):Option (Int×Int):=if 0≤(0:Int)∧(0:Int)<(O.length:Int) then tY (σ:=(Int×Int)) (if (decide ((IntKind.wrap .i64 (sF O (0:Int)))<(128:Int)))=true then some (.inr (((IntKind.wrap .i64 (sF O (0:Int))),(1:Int)))) else if ((decide ((192:Int)≤(IntKind.wrap .i64 (sF O (0:Int)))))&&(decide ((IntKind.wrap .i64 (sF O (0:Int)))<(224:Int))))=true then if qD ((IntKind.wrap .i64 (sF O (0:Int)))- (192:Int)) then some (.inl (((IntKind.wrap .i64 (sF O (0:Int)))- (192:Int)),(2:Int))) else none else if ((decide ((224:Int)≤(IntKind.wrap .i64 (sF O (0:Int)))))&&(decide ((IntKind.wrap .i64 (sF O (0:Int)))<(240:Int))))=true then if qD ((IntKind.wrap .i64 (sF O (0:Int)))- (224:Int)) then some (.inl (((IntKind.wrap .i64 (sF O (0:Int)))- (224:Int)),(3:Int))) else none else if ((decide ((240:Int)≤(IntKind.wrap .i64 (sF O (0:Int)))))&&(decide ((IntKind.wrap .i64 (sF O (0:Int)))<(248:Int))))=true then if qD ((IntKind.wrap .i64 (sF O (0:Int)))- (240:Int)) then some (.inl (((IntKind.wrap .i64 (sF O (0:Int)))- (240:Int)),(4:Int))) else none else some (.inr (((65533:Int),(1:Int)))) ) fun(Z,aA)=>if (decide ((O.length:Int)<aA))=true then some (((65533:Int),(1:Int))) else tY (rO (EY O aA) (Z,(1:Int))) fun aB=>if (((!(((decide ((0:Int)≤aB))&&(decide (aB≤(1114111:Int))))&&((decide (aB<(55296:Int)))||(decide ((57343:Int)<aB)))))==false)=true→((DQ aB)).isSome=true) then if (((!(((decide ((0:Int)≤aB))&&(decide (aB≤(1114111:Int))))&&((decide (aB<(55296:Int)))||(decide ((57343:Int)<aB)))))==false)=true→0≤(0:Int)∧(0:Int)≤aA∧aA≤(O.length:Int)) then if ((!(((decide ((0:Int)≤aB))&&(decide (aB≤(1114111:Int))))&&((decide (aB<(55296:Int)))||(decide ((57343:Int)<aB)))))||(!decide ((val (DQ aB))=(sO O (0:Int) aA))))=true then some (((65533:Int),(1:Int))) else some ((aB,aA)) else none else none else none
section
variable (O:pD)
abbrev a4U:List qC:=[(.val .str O,none)]
abbrev a4V:List qB:=[]
@[go_sem] def a4W:qI:=⟨[((JW O)).isSome=true],[(.val (.int .i64) ((val (JW O)).1),none),(.val (.int .i64) ((val (JW O)).2),none)],[]⟩
def aF4:List qC→List qB→Option qI:=rM (V:=pD) (a4U) (fun x=>a4V) fun x=>a4W x
@[go_sem] def aTX:aF4 (no_index (a4U O)) (no_index a4V)=some (a4W O):=rQ (fun a0 b0 h1 h2=>by cases h1;cases h2;rfl) O
end
@[go_sem] abbrev aF5:Nat×qW:=(148,⟨[.v],aF4,[],[],none⟩)
def xU:rF Tryz.prog [wP,G5,sJ] (rG [a4O,a4T]):=⟨⟨xE,⟨JM,⟨sM,trivial⟩⟩⟩,qK aF1 (qK aF3 rJ),rH⟩
def aOX:r5 Tryz.prog aF5:=by
 refine rR xU Tryz.func148 (c:=_) rfl (N:=81) pU (ts:=[(2,none),(3,none)]) rfl (fun _ _=>rfl) ?_;intro O hs hrow;dsimp only[a4U,a4V,a4W,rI,qR,qZ,r8,rL,Nat.reduceAdd] at hs hrow|-;have hz:=hs;obtain⟨z0,d⟩:=aVt.1 hz
 try rw[rY d]
 clear hz hs;unfold JW at d;refine q9 xU ?_;obtain⟨hg1,d⟩:=qG d;refine q9 xU ?_ (hp:=by exact hg1);refine qO ?_;obtain⟨y1,f,d⟩:=uV d;refine yM (fun s=> ∃v,y1= .inl v∧s=(fun x=>⟨[(0,(.val .str O,none)),(4,(.val (.int .i64) x.1,none)),(5,(.val (.int .i64) x.2,none))],[],0,81,0⟩) v) ?_ ?_
 .refine rP ?_;refine q9 xU ?_;refine qS f (fun f hc1=> ?_) (fun f hc1=> ?_)
  .refine q9 xU ?_;refine qP (rT (a2b (rD ?_)));cases f;dsimp only at d;cases d;exact pF []
  .refine q9 xU ?_ (hp:=by exact⟨id,sB⟩);refine qS f (fun f hc2=> ?_) (fun f hc2=> ?_)
   .obtain⟨hg2,f⟩:=qG f;refine rC xU ?_ (hp:=by exact hg2);refine rU ?_;cases f;exact u6 ⟨⟨[0,4,5],[]⟩,_,rfl,by rfl⟩
   .refine q9 xU ?_ (hp:=by exact⟨id,sB⟩);refine qS f (fun f hc3=> ?_) (fun f hc3=> ?_)
    .obtain⟨hg3,f⟩:=qG f;refine rC xU ?_ (hp:=by exact hg3);refine rU ?_;cases f;exact u6 ⟨⟨[0,4,5],[]⟩,_,rfl,by rfl⟩
    .refine q9 xU ?_ (hp:=by exact⟨id,sB⟩);refine qS f (fun f hc4=> ?_) (fun f hc4=> ?_)
     .obtain⟨hg4,f⟩:=qG f;refine rC xU ?_ (hp:=by exact hg4);refine rU ?_;cases f;exact u6 ⟨⟨[0,4,5],[]⟩,_,rfl,by rfl⟩
     .refine q9 xU ?_;refine qP (rT (a2b (rD ?_)));cases f;dsimp only at d;cases d;exact pF []
 .rintro _ ⟨v,rfl,rfl⟩;obtain⟨Z,aA⟩:=v;dsimp only at d|-;refine qJ (qO ?_);refine q9 xU ?_;refine qS d (fun d hc5=> ?_) (fun d hc5=> ?_)
  .refine q9 xU ?_;refine qP (rD ?_);cases d;exact pF []
  .refine r7 (qJ (qO ?_));refine q9 xU ?_;refine rP ?_;obtain⟨y1,hy1,d⟩:=uV d;refine tV 1 (fun s=> ∃v,y1= .inl v∧s=(fun x=>⟨[(0,(.val .str O,none)),(4,(.val (.int .i64) x,none)),(5,(.val (.int .i64) aA,none))],[],0,81,0⟩) v) ?_ ?_
   .refine tP hy1 (fun x=>⟨[(0,(.val .str O,none)),(4,(.val (.int .i64) x.1,none)),(5,(.val (.int .i64) aA,none)),(6,(.val (.int .i64) x.2,none))],[],0,81,0⟩) ⟨[0,4,5,6],[]⟩ pV ?_;intro x1 w1 n1 f g;obtain⟨aB,aC⟩:=x1;unfold EY at f;dsimp only at f|-;refine qO ?_;refine q9 xU ?_;refine qS f (fun f hc6=> ?_) (fun f hc6=> ?_)
    .refine r7 (qJ (qO (rP (qO ?_))));obtain⟨hg5,f⟩:=qG f;obtain⟨hg6,f⟩:=qG f;refine q9 xU ?_ (hp:=by exact⟨hg5,id,id,hg6,id,sP⟩);refine qS f (fun f hc7=> ?_) (fun f hc7=> ?_)
     .refine q9 xU ?_;refine qP (rD (rT (rD (uX (uZ (rT (rD ?_)))))));cases f;cases g;dsimp only at d;cases d;exact pF []
     .refine r7 (qJ ?_);obtain⟨hg7,f⟩:=qG f;obtain⟨hg8,f⟩:=qG f;obtain⟨hg9,f⟩:=qG f;obtain⟨hg10,f⟩:=qG f;refine rC xU ?_ (hp:=by exact⟨hg7,hg8,hg9,hg10⟩);refine rU (qJ ?_);obtain⟨hg11,f⟩:=qG f;refine rC xU ?_ (hp:=by exact hg11);cases f;exact sU ⟨⟨[0,4,5,6],[]⟩,_,by rfl,g⟩
    .refine tK (tJ (tN ?_));cases f;cases g;exact tM ⟨⟨[0,4,5],[]⟩,_,rfl,by rfl⟩
   .rintro _ ⟨aD,rfl,rfl⟩;dsimp only at d|-;refine tU (qJ (qO ?_));obtain⟨hg12,d⟩:=qG d;obtain⟨hg13,d⟩:=qG d;refine vY xU ?_ (hp:=by exact⟨id,hg12,id,id,hg13,id,id,sP⟩);refine qS d (fun d hc8=> ?_) (fun d hc8=> ?_)
    .refine q9 xU ?_;refine qP (rD ?_);cases d;exact pF []
    .refine r7 (qJ ?_);refine q9 xU ?_;refine qP ?_;cases d;exact pF []
def internal_stringslite_HasPrefix (O:pD) (Z:pD):Option Unit:=if (((decide ((Z.length:Int)≤(O.length:Int)))==true)=true→0≤(0:Int)∧(0:Int)≤(Z.length:Int)∧(Z.length:Int)≤(O.length:Int)) then some (()) else none
section
variable (O:pD) (Z:pD)
abbrev M1:List qC:=[(.val .str O,none),(.val .str Z,none)]
abbrev M2:List qB:=[]
@[go_sem] def M3:qI:=⟨[((internal_stringslite_HasPrefix O Z)).isSome=true],[(.val .bool ((decide ((Z.length:Int)≤(O.length:Int)))&&(decide ((sO O (0:Int) (Z.length:Int))=Z))),none)],[]⟩
def SI:List qC→List qB→Option qI:=rM (V:=(pD×pD)) (fun x=>M1 x.1 x.2) (fun x=>M2) fun x=>M3 x.1 x.2
@[go_sem] def aOA:SI (no_index (M1 O Z)) (no_index M2)=some (M3 O Z):=rQ (fun⟨a0,a1⟩ ⟨b0,b1⟩ h1 h2=>by cases h1;cases h2;rfl) (O,Z)
end
@[go_sem] abbrev SJ:Nat×qW:=(150,⟨[.v,.v],SI,[],[],none⟩)
def M4:rF Tryz.prog [sJ] (rG []):=⟨⟨sM,trivial⟩,rJ,rH⟩
def a2O:r5 Tryz.prog SJ:=by
 refine rR M4 Tryz.func150 (c:=_) rfl (N:=18) pU (ts:=[(4,none)]) rfl (fun _ _=>rfl) ?_;intro⟨O,Z⟩ hs hrow;dsimp only[M1,M2,M3,rI,qR,qZ,r8,rL,Nat.reduceAdd] at hs hrow|-;have hz:=hs;obtain⟨z0,d⟩:=aVt.1 hz
 try rw[rY d]
 clear hz hs;unfold internal_stringslite_HasPrefix at d;refine q9 M4 ?_;obtain⟨hg1,d⟩:=qG d;refine q9 M4 ?_ (hp:=by exact⟨id,id,id,hg1,id,id,sB⟩);refine qP ?_;cases d;exact pF []
attribute [irreducible] aFY DQ JW internal_stringslite_HasPrefix
end
noncomputable section
def aF6 (O:r6) (Z:pD):Unit:=()
section
variable (O:r6) (Z:pD)
abbrev a4X:List qC:=[(.val (.pair .str (.pair .str .unit)) O,none),(.val .ref (some (0,0)),none)]
abbrev a4Y:List qB:=[.cells .str Z []]
@[go_sem] def a4Z:qI:=⟨[],[(.val .bool (!(Op.bytesLess O.1 Z||decide (O.1=Z))),none)],[.cells .str Z []]⟩
def aF7:List qC→List qB→Option qI:=rM (V:=(r6×pD)) (fun x=>a4X x.1) (fun x=>a4Y x.2) fun x=>a4Z x.1 x.2
@[go_sem] def aTY:aF7 (no_index (a4X O)) (no_index (a4Y Z))=some (a4Z O Z):=rQ (fun⟨a0,a1⟩ ⟨b0,b1⟩ h1 h2=>by cases h1;cases h2;rfl) (O,Z)
end
@[go_sem] abbrev aF8:Nat×qW:=(158,⟨[.v,.p .str []],aF7,[],[0],none⟩)
def a41:rF Tryz.prog [sJ,CU] (rG []):=⟨⟨sM,⟨ER,trivial⟩⟩,rJ,rH⟩
def aOY:r5 Tryz.prog aF8:=by
 refine rR a41 Tryz.func158 (c:=_) rfl (N:=8) pU (ts:=[(3,none)]) rfl (fun _ _=>rfl) ?_;intro⟨O,Z⟩ hs hrow;dsimp only[a4X,a4Y,a4Z,rI,qR,qZ,r8,rL,Nat.reduceAdd] at hs hrow|-;obtain⟨z0,d⟩: ∃z,(aF6 O Z)=z:=⟨_,rfl⟩
 try rw[d]
 unfold aF6 at d;refine q9 a41 ?_;refine q9 a41 ?_;refine qP ?_;cases d;exact pF [(0,0)]
def MB (O:pD) (Z:pD):Option (pD×Bool):=(internal_stringslite_HasPrefix O Z).bind fun aA=>if (!((decide ((Z.length:Int)≤(O.length:Int)))&&(decide ((sO O (0:Int) (Z.length:Int))=Z))))=true then some ((O,false)) else if 0≤(Z.length:Int)∧(Z.length:Int)≤(O.length:Int)∧(O.length:Int)≤(O.length:Int) then some (((sO O (Z.length:Int) (O.length:Int)),true)) else none
section
variable (O:pD) (Z:pD)
abbrev a42:List qC:=[(.val .str O,none),(.val .str Z,none)]
abbrev a43:List qB:=[]
@[go_sem] def a44:qI:=⟨[((MB O Z)).isSome=true],[(.val .str ((val (MB O Z)).1),none),(.val .bool ((val (MB O Z)).2),none)],[]⟩
def aF9:List qC→List qB→Option qI:=rM (V:=(pD×pD)) (fun x=>a42 x.1 x.2) (fun x=>a43) fun x=>a44 x.1 x.2
@[go_sem] def aTZ:aF9 (no_index (a42 O Z)) (no_index a43)=some (a44 O Z):=rQ (fun⟨a0,a1⟩ ⟨b0,b1⟩ h1 h2=>by cases h1;cases h2;rfl) (O,Z)
end
@[go_sem] abbrev aGa:Nat×qW:=(164,⟨[.v,.v],aF9,[],[],none⟩)
def ST:rF Tryz.prog [sJ] (rG [SJ]):=⟨⟨sM,trivial⟩,qK a2O rJ,rH⟩
def aOZ:r5 Tryz.prog aGa:=by
 refine rR ST Tryz.func164 (c:=_) rfl (N:=15) pU (ts:=[(4,none),(5,none)]) rfl (fun _ _=>rfl) ?_;intro⟨O,Z⟩ hs hrow;dsimp only[a42,a43,a44,rI,qR,qZ,r8,rL,Nat.reduceAdd] at hs hrow|-;have hz:=hs;obtain⟨z0,d⟩:=aVt.1 hz
 try rw[rY d]
 clear hz hs;unfold MB at d;refine q9 ST ?_;refine qO ?_;obtain⟨aA,hv1,hw1,d⟩:=qV d
 try simp only[go_sem] at hw1
 refine q9 ST ?_ (hp:=by exact(qU hv1)) (h:=by simp only[go_sem,hw1];rfl);refine qS d (fun d hc1=> ?_) (fun d hc1=> ?_)
 .refine q9 ST ?_;refine qP (rD ?_);cases d;exact pF []
 .refine r7 (qJ ?_);obtain⟨hg2,d⟩:=qG d;refine q9 ST ?_ (hp:=by exact hg2);refine qP ?_;cases d;exact pF []
def aGb (O:Int):Unit:=()
section
variable (O:Int)
abbrev a45:List qC:=[(.val (.int .u8) O,none)]
abbrev a47:List qB:=[]
@[go_sem] def a48:qI:=⟨[],[(.val .bool ((decide (O<(32:Int)))||(decide (O=(127:Int)))),none)],[]⟩
def aGc:List qC→List qB→Option qI:=rM (V:=Int) (a45) (fun x=>a47) fun x=>a48 x
@[go_sem] def aT0:aGc (no_index (a45 O)) (no_index a47)=some (a48 O):=rQ (fun a0 b0 h1 h2=>by cases h1;cases h2;rfl) O
end
@[go_sem] abbrev a5a:Nat×qW:=(180,⟨[.v],aGc,[],[],none⟩)
def a5b:rF Tryz.prog [] (rG []):=⟨trivial,rJ,rH⟩
def aGd:r5 Tryz.prog a5a:=by
 refine rR a5b Tryz.func180 (c:=_) rfl (N:=9) pU (ts:=[(2,none)]) rfl (fun _ _=>rfl) ?_;intro O hs hrow;dsimp only[a45,a47,a48,rI,qR,qZ,r8,rL,Nat.reduceAdd] at hs hrow|-;obtain⟨z0,d⟩: ∃z,(aGb O)=z:=⟨_,rfl⟩
 try rw[d]
 unfold aGb at d;refine q9 a5b ?_;refine q9 a5b ?_ (hp:=by exact⟨id,sP⟩);refine qP ?_;cases d;exact pF []
def aGe (O:r6) (Z:pD):Unit:=()
section
variable (O:r6) (Z:pD)
abbrev a5c:List qC:=[(.val (.pair .str (.pair .str .unit)) O,none),(.val .ref (some (0,0)),none)]
abbrev a5d:List qB:=[.cells .str Z []]
@[go_sem] def a5e:qI:=⟨[],[(.val .bool (decide (O.1=Z)),none)],[.cells .str Z []]⟩
def aGf:List qC→List qB→Option qI:=rM (V:=(r6×pD)) (fun x=>a5c x.1) (fun x=>a5d x.2) fun x=>a5e x.1 x.2
@[go_sem] def aT1:aGf (no_index (a5c O)) (no_index (a5d Z))=some (a5e O Z):=rQ (fun⟨a0,a1⟩ ⟨b0,b1⟩ h1 h2=>by cases h1;cases h2;rfl) (O,Z)
end
@[go_sem] abbrev aGg:Nat×qW:=(191,⟨[.v,.p .str []],aGf,[],[0],none⟩)
def a5f:rF Tryz.prog [sJ,CU] (rG []):=⟨⟨sM,⟨ER,trivial⟩⟩,rJ,rH⟩
def aO0:r5 Tryz.prog aGg:=by
 refine rR a5f Tryz.func191 (c:=_) rfl (N:=8) pU (ts:=[(3,none)]) rfl (fun _ _=>rfl) ?_;intro⟨O,Z⟩ hs hrow;dsimp only[a5c,a5d,a5e,rI,qR,qZ,r8,rL,Nat.reduceAdd] at hs hrow|-;obtain⟨z0,d⟩: ∃z,(aGe O Z)=z:=⟨_,rfl⟩
 try rw[d]
 unfold aGe at d;refine q9 a5f ?_;refine q9 a5f ?_;refine qP ?_;cases d;exact pF [(0,0)]
def SU (O:pD) (Z:pD):Option Unit:=if (((decide ((Z.length:Int)≤(O.length:Int)))==true)=true→qD ((O.length:Int)- (Z.length:Int))) then if (((decide ((Z.length:Int)≤(O.length:Int)))==true)=true→0≤((O.length:Int)- (Z.length:Int))∧((O.length:Int)- (Z.length:Int))≤(O.length:Int)∧(O.length:Int)≤(O.length:Int)) then some (()) else none else none
section
variable (O:pD) (Z:pD)
abbrev a5g:List qC:=[(.val .str O,none),(.val .str Z,none)]
abbrev a5h:List qB:=[]
@[go_sem] def a5i:qI:=⟨[((SU O Z)).isSome=true],[(.val .bool ((decide ((Z.length:Int)≤(O.length:Int)))&&(decide ((sO O ((O.length:Int)- (Z.length:Int)) (O.length:Int))=Z))),none)],[]⟩
def aGh:List qC→List qB→Option qI:=rM (V:=(pD×pD)) (fun x=>a5g x.1 x.2) (fun x=>a5h) fun x=>a5i x.1 x.2
@[go_sem] def aT2:aGh (no_index (a5g O Z)) (no_index a5h)=some (a5i O Z):=rQ (fun⟨a0,a1⟩ ⟨b0,b1⟩ h1 h2=>by cases h1;cases h2;rfl) (O,Z)
end
@[go_sem] abbrev aGi:Nat×qW:=(197,⟨[.v,.v],aGh,[],[],none⟩)
def a5j:rF Tryz.prog [sJ] (rG []):=⟨⟨sM,trivial⟩,rJ,rH⟩
def aO1:r5 Tryz.prog aGi:=by
 refine rR a5j Tryz.func197 (c:=_) rfl (N:=21) pU (ts:=[(4,none)]) rfl (fun _ _=>rfl) ?_;intro⟨O,Z⟩ hs hrow;dsimp only[a5g,a5h,a5i,rI,qR,qZ,r8,rL,Nat.reduceAdd] at hs hrow|-;have hz:=hs;obtain⟨z0,d⟩:=aVt.1 hz
 try rw[rY d]
 clear hz hs;unfold SU at d;refine q9 a5j ?_;obtain⟨hg1,d⟩:=qG d;obtain⟨hg2,d⟩:=qG d;refine q9 a5j ?_ (hp:=by exact⟨id,id,id,id,hg1,id,id,hg2,id,id,sB⟩);refine qP ?_;cases d;exact pF []
def JX (O:pD) (Z:pD):Option (pD×pD×Bool):=if List.length O<4294967281 then if (decide ((0:Int)≤(yY O Z)))=true then if 0≤(0:Int)∧(0:Int)≤(yY O Z)∧(yY O Z)≤(O.length:Int) then if qD ((yY O Z)+(Z.length:Int)) then if 0≤((yY O Z)+(Z.length:Int))∧((yY O Z)+(Z.length:Int))≤(O.length:Int)∧(O.length:Int)≤(O.length:Int) then some (((sO O (0:Int) (yY O Z)),(sO O ((yY O Z)+(Z.length:Int)) (O.length:Int)),true)) else none else none else none else some ((O,([]:pD),false)) else none
section
variable (O:pD) (Z:pD)
abbrev a5k:List qC:=[(.val .str O,none),(.val .str Z,none)]
abbrev a5l:List qB:=[]
@[go_sem] def a5m:qI:=⟨[((JX O Z)).isSome=true],[(.val .str ((val (JX O Z)).1),none),(.val .str ((val (JX O Z)).2.1),none),(.val .bool ((val (JX O Z)).2.2),none)],[]⟩
def aGj:List qC→List qB→Option qI:=rM (V:=(pD×pD)) (fun x=>a5k x.1 x.2) (fun x=>a5l) fun x=>a5m x.1 x.2
@[go_sem] def aT3:aGj (no_index (a5k O Z)) (no_index a5l)=some (a5m O Z):=rQ (fun⟨a0,a1⟩ ⟨b0,b1⟩ h1 h2=>by cases h1;cases h2;rfl) (O,Z)
end
@[go_sem] abbrev aGk:Nat×qW:=(198,⟨[.v,.v],aGj,[],[],none⟩)
def P2:rF Tryz.prog [sJ] (rG [LZ]):=⟨⟨sM,trivial⟩,qK Y0 rJ,rH⟩
def aO2:r5 Tryz.prog aGk:=by
 refine rR P2 Tryz.func198 (c:=_) rfl (N:=23) pU (ts:=[(4,none),(5,none),(6,none)]) rfl (fun _ _=>rfl) ?_;intro⟨O,Z⟩ hs hrow;dsimp only[a5k,a5l,a5m,rI,qR,qZ,r8,rL,Nat.reduceAdd] at hs hrow|-;have hz:=hs;obtain⟨z0,d⟩:=aVt.1 hz
 try rw[rY d]
 clear hz hs;unfold JX at d;refine q9 P2 ?_;refine qO ?_;obtain⟨hg1,d⟩:=qG d;refine q9 P2 ?_ (hp:=by exact hg1);refine q9 P2 ?_;refine qS d (fun d hc1=> ?_) (fun d hc1=> ?_)
 .obtain⟨hg2,d⟩:=qG d;obtain⟨hg3,d⟩:=qG d;obtain⟨hg4,d⟩:=qG d;refine vY P2 ?_ (hp:=by exact⟨hg2,hg3,hg4⟩);refine qP (rD ?_);cases d;exact pF []
 .refine r7 (qJ ?_);refine q9 P2 ?_;refine qP ?_;cases d;exact pF []
def MC (O:Int) (Z:Int):Bool:=if (decide (O=(1:Int)))=true then (decide (Z=(10:Int))) else a2c (σ:=Bool) (if (decide (O=(2:Int)))=true then (decide (O=(2:Int))) else (decide (O=(3:Int))) ) fun aA=>if aA=true then ((decide (Z=(10:Int)))||(decide (Z=(34:Int)))) else ((decide (Z=(60:Int)))||(decide (Z=(34:Int))))
section
variable (O:Int) (Z:Int)
abbrev a5n:List qC:=[(.val (.int .i64) O,none),(.val (.int .u8) Z,none)]
abbrev a5o:List qB:=[]
@[go_sem] def a5p:qI:=⟨[],[(.val .bool (MC O Z),none)],[]⟩
def aGl:List qC→List qB→Option qI:=rM (V:=(Int×Int)) (fun x=>a5n x.1 x.2) (fun x=>a5o) fun x=>a5p x.1 x.2
@[go_sem] def aT4:aGl (no_index (a5n O Z)) (no_index a5o)=some (a5p O Z):=rQ (fun⟨a0,a1⟩ ⟨b0,b1⟩ h1 h2=>by cases h1;cases h2;rfl) (O,Z)
end
@[go_sem] abbrev aGm:Nat×qW:=(216,⟨[.v,.v],aGl,[],[],none⟩)
def HV:rF Tryz.prog [] (rG []):=⟨trivial,rJ,rH⟩
def aO3:r5 Tryz.prog aGm:=by
 refine rR HV Tryz.func216 (c:=_) rfl (N:=25) pU (ts:=[(4,none)]) rfl (fun _ _=>rfl) ?_;intro⟨O,Z⟩ hs hrow;dsimp only[a5n,a5o,a5p,rI,qR,qZ,r8,rL,Nat.reduceAdd] at hs hrow|-;obtain⟨z0,d⟩: ∃z,(MC O Z)=z:=⟨_,rfl⟩
 try rw[d]
 unfold MC at d;refine q9 HV ?_;refine qO ?_;refine q9 HV ?_;refine rP ?_;refine q9 HV ?_;refine qS d (fun d hc1=> ?_) (fun d hc1=> ?_)
 .refine q9 HV ?_;refine qP (rT (rD ?_));cases d;exact pF []
 .refine qO ?_;refine q9 HV ?_;obtain⟨aA,f,d⟩:=aNS d;refine yM (fun s=>s=(fun x=>⟨[(1,(.val (.int .u8) Z,none)),(10,(.val .bool x,none))],[],0,25,0⟩) aA) ?_ ?_
  .refine qS f (fun f hc2=> ?_) (fun f hc2=> ?_)
   .refine r7 ?_;cases f;exact u6 ⟨⟨[1,10],[]⟩,by rfl⟩
   .refine rC HV ?_;cases f;exact u6 ⟨⟨[1,10],[]⟩,by rfl⟩
  .rintro _ rfl;dsimp only at d|-;refine qJ ?_;refine qS d (fun d hc3=> ?_) (fun d hc3=> ?_)
   .refine q9 HV ?_ (hp:=by exact⟨id,sP⟩);refine qP (rT (rD ?_));cases d;exact pF []
   .refine r7 (rU (qJ ?_));refine q9 HV ?_ (hp:=by exact⟨id,sP⟩);refine qP ?_;cases d;exact pF []
def MD (O:(pM×Unit)) (Z:Int):Option Unit:=if (O.1.length+([Z]:pM).length)*1≤140737488355328 then some (()) else none
section
variable (O:Int) (Z:(pM×Unit)) (aA:Nat)
abbrev a5q:List qC:=[(.val .ref (some (0,0)),none),(.val (.int .u8) O,none)]
abbrev a5r:List qB:=[.cells wO ((some (0,0)),Z) [(1,1)],.grow 5 1 aA]
@[go_sem] def a5s:qI:=⟨[aA=(Z.1.length),((MD Z O)).isSome=true],[(.any,none)],[.cells wO ((some (0,0)),((Z.1++([O]:pM)),())) [(1,1)],.grow 5 1 ((Z.1++([O]:pM)).length)]⟩
def aGn:List qC→List qB→Option qI:=rM (V:=(Int×(pM×Unit)×Nat)) (fun x=>a5q x.1) (fun x=>a5r x.2.1 x.2.2) fun x=>a5s x.1 x.2.1 x.2.2
@[go_sem] def aT5:aGn (no_index (a5q O)) (no_index (a5r Z aA))=some (a5s O Z aA):=rQ (fun⟨a0,a1,a2⟩ ⟨b0,b1,b2⟩ h1 h2=>by cases h1;cases h2;rfl) (O,Z,aA)
end
@[go_sem] abbrev aGo:Nat×qW:=(217,⟨[.p wO [1],.v],aGn,[],[],none⟩)
def SV:rF Tryz.prog [EQ,HP] (rG [JL]):=⟨⟨HO,⟨M6,trivial⟩⟩,qK SH rJ,rH⟩
def aO4:r5 Tryz.prog aGo:=by
 refine rR SV Tryz.func217 (c:=_) rfl (N:=17) pU (ts:=[(4,none)]) rfl (fun _ _=>rfl) ?_;intro⟨O,Z,aA⟩ hs hrow;dsimp only[a5q,a5r,a5s,rI,qR,qZ,r8,rL,Nat.reduceAdd] at hs hrow|-;obtain⟨rfl,hz⟩:=hs;obtain⟨z0,d⟩:=aVt.1 hz
 try rw[rY d]
 clear hz;unfold MD at d;refine q9 SV ?_;refine q9 SV ?_ (hp:=by first|rfl|trivial)
 obtain⟨hg1,d⟩:=qG d;refine q9 SV ?_ (hp:=by exact⟨pT,hg1⟩)
 refine q9 SV ?_;refine qP ?_;cases d;exact pF [(0,0),(1,1)]
def aGp (O:Int):Unit:=()
section
variable (O:Int)
abbrev a5t:List qC:=[(.val (.int .i64) O,none)]
abbrev a5u:List qB:=[]
@[go_sem] def a5v:qI:=⟨[],[(.val .bool (((decide ((0:Int)≤O))&&(decide (O≤(1114111:Int))))&&((decide (O<(55296:Int)))||(decide ((57343:Int)<O)))),none)],[]⟩
def aGq:List qC→List qB→Option qI:=rM (V:=Int) (a5t) (fun x=>a5u) fun x=>a5v x
@[go_sem] def aT6:aGq (no_index (a5t O)) (no_index a5u)=some (a5v O):=rQ (fun a0 b0 h1 h2=>by cases h1;cases h2;rfl) O
end
@[go_sem] abbrev aGr:Nat×qW:=(240,⟨[.v],aGq,[],[],none⟩)
def a5w:rF Tryz.prog [] (rG []):=⟨trivial,rJ,rH⟩
def aO5:r5 Tryz.prog aGr:=by
 refine rR a5w Tryz.func240 (c:=_) rfl (N:=17) pU (ts:=[(2,none)]) rfl (fun _ _=>rfl) ?_;intro O hs hrow;dsimp only[a5t,a5u,a5v,rI,qR,qZ,r8,rL,Nat.reduceAdd] at hs hrow|-;obtain⟨z0,d⟩: ∃z,(aGp O)=z:=⟨_,rfl⟩
 try rw[d]
 unfold aGp at d;refine q9 a5w ?_;refine q9 a5w ?_ (hp:=by exact⟨id,sB,id,id,id,id,fun hG e=>G1 hG e,sB⟩);refine qP ?_;cases d;exact pF []
attribute [irreducible] MB SU JX MD
end
noncomputable section
def ME (O:pM) (Z:Int):Option pM:=if (decide ((IntKind.wrap .u32 Z)≤(2047:Int)))=true then if (O.length+([(bits .or .u8 (192:Int) (IntKind.wrap .u8 (yR .i32 Z (6:Int)))),(bits .or .u8 (128:Int) (bits .and .u8 (IntKind.wrap .u8 Z) (63:Int)))]:pM).length)*1≤140737488355328 then some ((O++([(bits .or .u8 (192:Int) (IntKind.wrap .u8 (yR .i32 Z (6:Int)))),(bits .or .u8 (128:Int) (bits .and .u8 (IntKind.wrap .u8 Z) (63:Int)))]:pM))) else none else sQ (σ:=Bool) (if (decide ((IntKind.wrap .u32 Z)<(55296:Int)))=true then some ((decide ((IntKind.wrap .u32 Z)<(55296:Int)))) else some (((decide ((57343:Int)<(IntKind.wrap .u32 Z)))&&(decide ((IntKind.wrap .u32 Z)≤(65535:Int))))) ) fun aA=>if aA=true then if (O.length+([(bits .or .u8 (224:Int) (IntKind.wrap .u8 (yR .i32 Z (12:Int)))),(bits .or .u8 (128:Int) (bits .and .u8 (IntKind.wrap .u8 (yR .i32 Z (6:Int))) (63:Int))),(bits .or .u8 (128:Int) (bits .and .u8 (IntKind.wrap .u8 Z) (63:Int)))]:pM).length)*1≤140737488355328 then some ((O++([(bits .or .u8 (224:Int) (IntKind.wrap .u8 (yR .i32 Z (12:Int)))),(bits .or .u8 (128:Int) (bits .and .u8 (IntKind.wrap .u8 (yR .i32 Z (6:Int))) (63:Int))),(bits .or .u8 (128:Int) (bits .and .u8 (IntKind.wrap .u8 Z) (63:Int)))]:pM))) else none else if ((decide ((65535:Int)<(IntKind.wrap .u32 Z)))&&(decide ((IntKind.wrap .u32 Z)≤(1114111:Int))))=true then if (O.length+([(bits .or .u8 (240:Int) (IntKind.wrap .u8 (yR .i32 Z (18:Int)))),(bits .or .u8 (128:Int) (bits .and .u8 (IntKind.wrap .u8 (yR .i32 Z (12:Int))) (63:Int))),(bits .or .u8 (128:Int) (bits .and .u8 (IntKind.wrap .u8 (yR .i32 Z (6:Int))) (63:Int))),(bits .or .u8 (128:Int) (bits .and .u8 (IntKind.wrap .u8 Z) (63:Int)))]:pM).length)*1≤140737488355328 then some ((O++([(bits .or .u8 (240:Int) (IntKind.wrap .u8 (yR .i32 Z (18:Int)))),(bits .or .u8 (128:Int) (bits .and .u8 (IntKind.wrap .u8 (yR .i32 Z (12:Int))) (63:Int))),(bits .or .u8 (128:Int) (bits .and .u8 (IntKind.wrap .u8 (yR .i32 Z (6:Int))) (63:Int))),(bits .or .u8 (128:Int) (bits .and .u8 (IntKind.wrap .u8 Z) (63:Int)))]:pM))) else none else if (O.length+([(239:Int),(191:Int),(189:Int)]:pM).length)*1≤140737488355328 then some ((O++([(239:Int),(191:Int),(189:Int)]:pM))) else none
section
variable (O:pM) (Z:Int) (aA:Nat)
abbrev a5x:List qC:=[(.val (.list (.int .u8)) O,some 0),(.val (.int .i32) Z,none)]
abbrev a5y:List qB:=[.grow 5 1 aA]
@[go_sem] def a5z:qI:=⟨[aA=(O.length),((ME O Z)).isSome=true],[(.val (.list (.int .u8)) (val (ME O Z)),some 0)],[.grow 5 1 ((val (ME O Z)).length)]⟩
def aGs:List qC→List qB→Option qI:=rM (V:=(pM×Int×Nat)) (fun x=>a5x x.1 x.2.1) (fun x=>a5y x.2.2) fun x=>a5z x.1 x.2.1 x.2.2
@[go_sem] def aT7:aGs (no_index (a5x O Z)) (no_index (a5y aA))=some (a5z O Z aA):=rQ (fun⟨a0,a1,a2⟩ ⟨b0,b1,b2⟩ h1 h2=>by cases h1;cases h2;rfl) (O,Z,aA)
end
@[go_sem] abbrev aGt:Nat×qW:=(245,⟨[.own,.v],aGs,[],[],none⟩)
def EZ:rF Tryz.prog [G5,SK,EQ,Y6] (rG []):=⟨⟨JM,⟨a3c,⟨HO,⟨aFd,trivial⟩⟩⟩⟩,rJ,rH⟩
def aO6:r5 Tryz.prog aGt:=by
 refine rR EZ Tryz.func245 (c:=_) rfl (N:=78) pU (ts:=[(4,none)]) rfl (fun _ _=>rfl) ?_;intro⟨O,Z,aA⟩ hs hrow;dsimp only[a5x,a5y,a5z,rI,qR,qZ,r8,rL,Nat.reduceAdd] at hs hrow|-;obtain⟨rfl,hz⟩:=hs;obtain⟨z0,e⟩:=aVt.1 hz
 try rw[rY e]
 clear hz;unfold ME at e;refine q9 EZ ?_;refine q9 EZ ?_;refine rP ?_;refine q9 EZ ?_;refine qS e (fun e hc1=> ?_) (fun e hc1=> ?_)
 .obtain⟨hg1,e⟩:=qG e;refine q9 EZ ?_ (hp:=by exact⟨show (0:Int)≤(6:Int) from by decide,pT,hg1⟩)
  refine qP (rT ?_);cases e;exact pF [(0,0)]
 .refine qO ?_;refine q9 EZ ?_;obtain⟨aB,d,e⟩:=qM e;refine yM (fun s=>s=(fun x=>⟨[(0,(.val (.list (.int .u8)) O,some 0)),(1,(.val (.int .i32) Z,none)),(5,(.val (.int .u32) (IntKind.wrap .u32 Z),none)),(25,(.val .bool x,none))],[(0,.grow 5 1 (O.length))],1,78,1⟩) aB) ?_ ?_
  .refine qS d (fun d hc2=> ?_) (fun d hc2=> ?_)
   .refine r7 ?_;cases d;exact u6 ⟨⟨[0,1,5,25],[(0,0)]⟩,by rfl⟩
   .refine rC EZ ?_ (hp:=by exact⟨id,sB⟩);cases d;exact u6 ⟨⟨[0,1,5,25],[(0,0)]⟩,by rfl⟩
  .rintro _ rfl;dsimp only at e|-;refine qJ ?_;refine qS e (fun e hc3=> ?_) (fun e hc3=> ?_)
   .obtain⟨hg2,e⟩:=qG e;refine q9 EZ ?_ (hp:=by exact⟨show (0:Int)≤(12:Int) from by decide,show (0:Int)≤(6:Int) from by decide,pT,hg2⟩)
    refine qP (rT ?_);cases e;exact pF [(0,0)]
   .refine q9 EZ ?_ (hp:=by exact⟨id,sB⟩);refine qS e (fun e hc4=> ?_) (fun e hc4=> ?_)
    .obtain⟨hg3,e⟩:=qG e;refine q9 EZ ?_ (hp:=by exact⟨show (0:Int)≤(18:Int) from by decide,show (0:Int)≤(12:Int) from by decide,show (0:Int)≤(6:Int) from by decide,pT,hg3⟩)
     refine qP (rT ?_);cases e;exact pF [(0,0)]
    .obtain⟨hg4,e⟩:=qG e;refine q9 EZ ?_ (hp:=by exact⟨pT,hg4⟩)
     refine qP (rT ?_);cases e;exact pF [(0,0)]
def JY (O:pD) (Z:Int):(Int×Int)→Option ((Int×Int)⊕(Int⊕(Int×Bool))):=fun(aA,aB)=>if (decide (aB<(O.length:Int)))=true then if 0≤aB∧aB<(O.length:Int) then if 0≤aB∧aB<(O.length:Int) then if (((decide ((65:Int)≤(sF O aB)))==true)=true→0≤aB∧aB<(O.length:Int)) then sQ (σ:=Int) (if ((decide ((65:Int)≤(sF O aB)))&&(decide ((sF O aB)≤(70:Int))))=true then if 0≤aB∧aB<(O.length:Int) then some ((IntKind.wrap .i64 ((IntKind.wrap .i64 (IntKind.wrap .u8 ((sF O aB)- (65:Int))))+(10:Int)))) else none else some ((vE ([48,49,50,51,52,53,54,55,56,57,97,98,99,100,101,102]:pD) (sF O aB))) ) fun aC=>if ((decide (aC<(0:Int)))||(decide (Z≤aC)))=true then some (.inr (.inr (((0:Int),false)))) else some (.inl ((IntKind.wrap .i64 ((IntKind.wrap .i64 (aA*Z))+aC)),(IntKind.wrap .i64 (aB+(1:Int))))) else none else none else none else some (.inr (.inl aA))
def GE (O:pD) (Z:Int):Option (Int×Bool):=tY (rO (JY O Z) ((0:Int),(0:Int))) fun aA=>some ((aA,(!decide (O=([]:pD)))))
section
variable (O:pD) (Z:Int)
abbrev a5A:List qC:=[(.val .str O,none),(.val (.int .i64) Z,none)]
abbrev a5B:List qB:=[]
@[go_sem] def a5C:qI:=⟨[((GE O Z)).isSome=true],[(.val (.int .i64) ((val (GE O Z)).1),none),(.val .bool ((val (GE O Z)).2),none)],[]⟩
def aGu:List qC→List qB→Option qI:=rM (V:=(pD×Int)) (fun x=>a5A x.1 x.2) (fun x=>a5B) fun x=>a5C x.1 x.2
@[go_sem] def aT8:aGu (no_index (a5A O Z)) (no_index a5B)=some (a5C O Z):=rQ (fun⟨a0,a1⟩ ⟨b0,b1⟩ h1 h2=>by cases h1;cases h2;rfl) (O,Z)
end
@[go_sem] abbrev a5D:Nat×qW:=(226,⟨[.v,.v],aGu,[],[],none⟩)
def BX:rF Tryz.prog [a2y,G5,sJ] (rG [G4]):=⟨⟨aOx,⟨JM,⟨sM,trivial⟩⟩⟩,qK LV rJ,rH⟩
def aGv:r5 Tryz.prog a5D:=by
 refine rR BX Tryz.func226 (c:=_) rfl (N:=50) pU (ts:=[(4,none),(5,none)]) rfl (fun _ _=>rfl) ?_;intro⟨O,Z⟩ hs hrow;dsimp only[a5A,a5B,a5C,rI,qR,qZ,r8,rL,Nat.reduceAdd] at hs hrow|-;have hz:=hs;obtain⟨z0,e⟩:=aVt.1 hz
 try rw[rY e]
 clear hz hs;unfold GE at e;refine q9 BX ?_;refine q9 BX ?_;refine qO ?_;refine q9 BX ?_;refine rP ?_;obtain⟨y1,hy1,e⟩:=uV e;refine tV 0 (fun s=> ∃v,y1= .inl v∧s=(fun x=>⟨[(0,(.val .str O,none)),(6,(.val (.int .i64) x,none))],[],0,50,0⟩) v) ?_ ?_
 .refine tP hy1 (fun x=>⟨[(0,(.val .str O,none)),(1,(.val (.int .i64) Z,none)),(6,(.val (.int .i64) x.1,none)),(10,(.val (.int .i64) (O.length:Int),none)),(11,(.val (.int .i64) x.2,none))],[],0,50,0⟩) ⟨[0,1,6,10,11],[]⟩ pV ?_;intro x1 w1 n1 d i;obtain⟨aA,aB⟩:=x1;unfold JY at d;dsimp only at d|-;refine q9 BX ?_;refine qO ?_;refine qS d (fun d hc1=> ?_) (fun d hc1=> ?_)
  .refine r7 (qJ (qO (rP ?_)));refine q9 BX ?_;obtain⟨hg1,d⟩:=qG d;refine q9 BX ?_ (hp:=by exact hg1);refine qO ?_;obtain⟨hg2,d⟩:=qG d;obtain⟨hg3,d⟩:=qG d;refine q9 BX ?_ (hp:=by exact⟨hg2,id,id,hg3,id,sB⟩);obtain⟨aC,j,d⟩:=qM d;refine yM (fun s=>s=(fun x=>⟨[(0,(.val .str O,none)),(1,(.val (.int .i64) Z,none)),(6,(.val (.int .i64) aA,none)),(8,(.val (.int .i64) x,none)),(10,(.val (.int .i64) (O.length:Int),none)),(11,(.val (.int .i64) aB,none))],[],0,50,0⟩) aC) ?_ ?_
   .refine qS j (fun j hc2=> ?_) (fun j hc2=> ?_)
    .obtain⟨hg4,j⟩:=qG j;refine rC BX ?_ (hp:=by exact hg4);cases j;exact u6 ⟨⟨[0,1,6,8,10,11],[]⟩,by rfl⟩
    .refine r7 ?_;cases j;exact u6 ⟨⟨[0,1,6,8,10,11],[]⟩,by rfl⟩
   .rintro _ rfl;dsimp only at d|-;refine qJ (qO ?_);refine q9 BX ?_ (hp:=by exact⟨id,id,sP⟩);refine qS d (fun d hc3=> ?_) (fun d hc3=> ?_)
    .refine q9 BX ?_;refine qP (rD (rT (rD (uX (uZ (rT (rD ?_)))))));cases d;cases i;dsimp only at e;cases e;exact pF []
    .refine r7 (qJ ?_);refine rC BX ?_;refine rU (qJ ?_);refine rC BX ?_;cases d;exact sU ⟨⟨[0,1,6,10,11],[]⟩,_,by rfl,i⟩
  .refine tK (tJ (tN ?_));cases d;cases i;exact tM ⟨⟨[0,6],[]⟩,_,rfl,by rfl⟩
 .rintro _ ⟨aD,rfl,rfl⟩;dsimp only at e|-;refine tU (qJ ?_);refine q9 BX ?_;refine qP ?_;cases e;exact pF []
def SW (O:(List r6)) (Z:pD):Int→Option (Int⊕(Unit⊕Int)):=fun aA=>if (decide (aA<(O.length:Int)))=true then if 0≤aA∧aA<(O.length:Int) then if (decide (((qQ (.pair .str (.pair .str .unit)) O aA).1)=Z))=true then some (.inr (.inr (aA))) else if qD (aA+(1:Int)) then some (.inl (aA+(1:Int))) else none else none else some (.inr (.inl ()))
def P3 (O:(List r6)) (Z:pD):Option Int:=tY (rO (SW O Z) (0:Int)) fun _=>some ((-1:Int))
section
variable (O:(List r6)) (Z:pD)
abbrev a5E:List qC:=[(.val (.list (.pair .str (.pair .str .unit))) O,none),(.val .clo (some (191,[(0,0)])),none)]
abbrev a5F:List qB:=[.cells .str Z []]
@[go_sem] def a5G:qI:=⟨[((P3 O Z)).isSome=true],[(.val (.int .i64) (val (P3 O Z)),none)],[.cells .str Z []]⟩
def aGw:List qC→List qB→Option qI:=rM (V:=((List r6)×pD)) (fun x=>a5E x.1) (fun x=>a5F x.2) fun x=>a5G x.1 x.2
@[go_sem] def aT9:aGw (no_index (a5E O)) (no_index (a5F Z))=some (a5G O Z):=rQ (fun⟨a0,a1⟩ ⟨b0,b1⟩ h1 h2=>by cases h1;cases h2;rfl) (O,Z)
end
@[go_sem] abbrev aGx:Nat×qW:=(157,⟨[.v,.f [(.str,[])]],aGw,[],[0],none⟩)
def HW:rF Tryz.prog [xJ,CU] (rG [aGg]):=⟨⟨y6,⟨ER,trivial⟩⟩,qK aO0 rJ,rH⟩
def aO7:r5 Tryz.prog aGx:=by
 refine rR HW Tryz.func157 (c:=_) rfl (N:=19) pU (ts:=[(4,none)]) rfl (fun _ _=>rfl) ?_;intro⟨O,Z⟩ hs hrow;dsimp only[a5E,a5F,a5G,rI,qR,qZ,r8,rL,Nat.reduceAdd] at hs hrow|-;have hz:=hs;obtain⟨z0,e⟩:=aVt.1 hz
 try rw[rY e]
 clear hz hs;unfold P3 at e;refine q9 HW ?_;refine qO ?_;refine q9 HW ?_;refine rP ?_;obtain⟨y1,hy1,e⟩:=uV e;refine tV 0 (fun s=> ∃v,y1= .inl v∧s=(fun _=>⟨[],[(0,.cells .str Z [])],1,19,1⟩) v) ?_ ?_
 .refine tP hy1 (fun x=>⟨[(0,(.val (.list (.pair .str (.pair .str .unit))) O,none)),(1,(.val .clo (some (191,[(0,0)])),none)),(7,(.val (.int .i64) (O.length:Int),none)),(8,(.val (.int .i64) x,none))],[(0,.cells .str Z [])],1,19,1⟩) ⟨[0,1,7,8],[(0,0)]⟩ pV ?_;intro aA w1 n1 d i;unfold SW at d;dsimp only at d|-;refine q9 HW ?_;refine qO ?_;refine qS d (fun d hc1=> ?_) (fun d hc1=> ?_)
  .refine r7 (qJ (qO (rP ?_)));refine q9 HW ?_;obtain⟨hg1,d⟩:=qG d;refine q9 HW ?_ (hp:=by exact⟨hg1,pT⟩)
   refine qS d (fun d hc2=> ?_) (fun d hc2=> ?_)
   .refine q9 HW ?_;refine qP (rT (rD (uX (uZ (rT (rD ?_))))));cases d;cases i;dsimp only at e;cases e;exact pF [(0,0)]
   .refine r7 (rU (qJ ?_));obtain⟨hg2,d⟩:=qG d;refine rC HW ?_ (hp:=by exact hg2);cases d;exact sU ⟨⟨[0,1,7,8],[(0,0)]⟩,_,by rfl,i⟩
  .refine tK (tJ (tN ?_));cases d;cases i;exact tM ⟨⟨[],[(0,0)]⟩,_,rfl,by rfl⟩
 .rintro _ ⟨v,rfl,rfl⟩;dsimp only at e|-;refine tU (qJ ?_);refine q9 HW ?_;refine qP ?_;cases e;exact pF [(0,0)]
def SX (O:(List r6)) (Z:pD):Int→Option (Int⊕(Unit⊕Int)):=fun aA=>if (decide (aA<(O.length:Int)))=true then if 0≤aA∧aA<(O.length:Int) then if (!(Op.bytesLess ((qQ (.pair .str (.pair .str .unit)) O aA).1) Z||decide (((qQ (.pair .str (.pair .str .unit)) O aA).1)=Z)))=true then some (.inr (.inr (aA))) else if qD (aA+(1:Int)) then some (.inl (aA+(1:Int))) else none else none else some (.inr (.inl ()))
def P4 (O:(List r6)) (Z:pD):Option Int:=tY (rO (SX O Z) (0:Int)) fun _=>some ((-1:Int))
section
variable (O:(List r6)) (Z:pD)
abbrev a5H:List qC:=[(.val (.list (.pair .str (.pair .str .unit))) O,none),(.val .clo (some (158,[(0,0)])),none)]
abbrev a5I:List qB:=[.cells .str Z []]
@[go_sem] def a5J:qI:=⟨[((P4 O Z)).isSome=true],[(.val (.int .i64) (val (P4 O Z)),none)],[.cells .str Z []]⟩
def aGy:List qC→List qB→Option qI:=rM (V:=((List r6)×pD)) (fun x=>a5H x.1) (fun x=>a5I x.2) fun x=>a5J x.1 x.2
@[go_sem] def aUa:aGy (no_index (a5H O)) (no_index (a5I Z))=some (a5J O Z):=rQ (fun⟨a0,a1⟩ ⟨b0,b1⟩ h1 h2=>by cases h1;cases h2;rfl) (O,Z)
end
@[go_sem] abbrev aGz:Nat×qW:=(157,⟨[.v,.f [(.str,[])]],aGy,[],[0],none⟩)
def HX:rF Tryz.prog [xJ,CU] (rG [aF8]):=⟨⟨y6,⟨ER,trivial⟩⟩,qK aOY rJ,rH⟩
def aO8:r5 Tryz.prog aGz:=by
 refine rR HX Tryz.func157 (c:=_) rfl (N:=19) pU (ts:=[(4,none)]) rfl (fun _ _=>rfl) ?_;intro⟨O,Z⟩ hs hrow;dsimp only[a5H,a5I,a5J,rI,qR,qZ,r8,rL,Nat.reduceAdd] at hs hrow|-;have hz:=hs;obtain⟨z0,e⟩:=aVt.1 hz
 try rw[rY e]
 clear hz hs;unfold P4 at e;refine q9 HX ?_;refine qO ?_;refine q9 HX ?_;refine rP ?_;obtain⟨y1,hy1,e⟩:=uV e;refine tV 0 (fun s=> ∃v,y1= .inl v∧s=(fun _=>⟨[],[(0,.cells .str Z [])],1,19,1⟩) v) ?_ ?_
 .refine tP hy1 (fun x=>⟨[(0,(.val (.list (.pair .str (.pair .str .unit))) O,none)),(1,(.val .clo (some (158,[(0,0)])),none)),(7,(.val (.int .i64) (O.length:Int),none)),(8,(.val (.int .i64) x,none))],[(0,.cells .str Z [])],1,19,1⟩) ⟨[0,1,7,8],[(0,0)]⟩ pV ?_;intro aA w1 n1 d i;unfold SX at d;dsimp only at d|-;refine q9 HX ?_;refine qO ?_;refine qS d (fun d hc1=> ?_) (fun d hc1=> ?_)
  .refine r7 (qJ (qO (rP ?_)));refine q9 HX ?_;obtain⟨hg1,d⟩:=qG d;refine q9 HX ?_ (hp:=by exact⟨hg1,pT⟩)
   refine qS d (fun d hc2=> ?_) (fun d hc2=> ?_)
   .refine q9 HX ?_;refine qP (rT (rD (uX (uZ (rT (rD ?_))))));cases d;cases i;dsimp only at e;cases e;exact pF [(0,0)]
   .refine r7 (rU (qJ ?_));obtain⟨hg2,d⟩:=qG d;refine rC HX ?_ (hp:=by exact hg2);cases d;exact sU ⟨⟨[0,1,7,8],[(0,0)]⟩,_,by rfl,i⟩
  .refine tK (tJ (tN ?_));cases d;cases i;exact tM ⟨⟨[],[(0,0)]⟩,_,rfl,by rfl⟩
 .rintro _ ⟨v,rfl,rfl⟩;dsimp only at e|-;refine tU (qJ ?_);refine q9 HX ?_;refine qP ?_;cases e;exact pF [(0,0)]
attribute [irreducible] ME GE P3 P4
end
noncomputable section
def JZ (O:(List r6)):Option (List r6):=if (0+O.length)*32≤140737488355328 then some ((([]:List r6)++O)) else none
section
variable (O:(List r6))
abbrev a5K:List qC:=[(.val (.list (.pair .str (.pair .str .unit))) O,none)]
abbrev a5L:List qB:=[]
@[go_sem] def a5M:qI:=⟨[((JZ O)).isSome=true],[(.own 0 ((val (JZ O)).length),none)],[.row 111 (.pair .str (.pair .str .unit)) (val (JZ O)) ((val (JZ O)).length)]⟩
def aGA:List qC→List qB→Option qI:=rM (V:=(List r6)) (a5K) (fun x=>a5L) fun x=>a5M x
@[go_sem] def aUb:aGA (no_index (a5K O)) (no_index a5L)=some (a5M O):=rQ (fun a0 b0 h1 h2=>by cases h1;cases h2;rfl) O
end
@[go_sem] abbrev aGB:Nat×qW:=(156,⟨[.v],aGA,[],[],none⟩)
def SY:rF Tryz.prog [Y7] (rG []):=⟨⟨aFe,trivial⟩,rJ,rH⟩
def aO9:r5 Tryz.prog aGB:=by
 refine rR SY Tryz.func156 (c:=_) rfl (N:=8) pU (ts:=[(2,none)]) rfl (fun _ _=>rfl) ?_;intro O hs hrow;dsimp only[a5K,a5L,a5M,rI,qR,qZ,r8,rL,Nat.reduceAdd] at hs hrow|-;have hz:=hs;obtain⟨z0,d⟩:=aVt.1 hz
 try rw[rY d]
 clear hz hs;unfold JZ at d;refine q9 SY ?_;refine qO ?_;refine q9 SY ?_;refine aEt (by simp only[go_sem];rfl) (fun hnil=> ?_) (fun hnil=> ?_)
 .subst hnil;obtain⟨_,d⟩:=qG d;refine q9 SY ?_;refine qP (rD ?_);cases d;exact pF [(0,96)]
 .refine r7 (qJ ?_);obtain⟨hg1,d⟩:=qG d;refine q9 SY ?_ (hp:=by exact⟨pT,hg1⟩)
  refine qP ?_;cases d;exact pF [(0,96)]
def SZ (O:pE):Int→Option (Int⊕(Unit⊕Int)):=fun Z=>if (decide (Z<(O.length:Int)))=true then if 0≤Z∧Z<(O.length:Int) then (OZ (qQ .str O Z)).bind fun aA=>if aA=true then some (.inr (.inr (Z))) else if qD (Z+(1:Int)) then some (.inl (Z+(1:Int))) else none else none else some (.inr (.inl ()))
def P5 (O:pE):Option Int:=tY (rO (SZ O) (0:Int)) fun _=>some ((-1:Int))
section
variable (O:pE)
abbrev a5N:List qC:=[(.val (.list .str) O,none),(.val .clo (some (133,[])),none)]
abbrev a5O:List qB:=[]
@[go_sem] def a5P:qI:=⟨[((P5 O)).isSome=true],[(.val (.int .i64) (val (P5 O)),none)],[]⟩
def aGC:List qC→List qB→Option qI:=rM (V:=pE) (a5N) (fun x=>a5O) fun x=>a5P x
@[go_sem] def aUc:aGC (no_index (a5N O)) (no_index a5O)=some (a5P O):=rQ (fun a0 b0 h1 h2=>by cases h1;cases h2;rfl) O
end
@[go_sem] abbrev aGD:Nat×qW:=(137,⟨[.v,.v],aGC,[],[],none⟩)
def HY:rF Tryz.prog [sJ,vU] (rG [aFS]):=⟨⟨sM,⟨w7,trivial⟩⟩,qK aOU rJ,rH⟩
def aPa:r5 Tryz.prog aGD:=by
 refine rR HY Tryz.func137 (c:=_) rfl (N:=19) pU (ts:=[(4,none)]) rfl (fun _ _=>rfl) ?_;intro O hs hrow;dsimp only[a5N,a5O,a5P,rI,qR,qZ,r8,rL,Nat.reduceAdd] at hs hrow|-;have hz:=hs;obtain⟨z0,d⟩:=aVt.1 hz
 try rw[rY d]
 clear hz hs;unfold P5 at d;refine q9 HY ?_;refine qO ?_;refine q9 HY ?_;refine rP ?_;obtain⟨y1,hy1,d⟩:=uV d;refine tV 0 (fun s=> ∃v,y1= .inl v∧s=(fun _=>⟨[],[],0,19,0⟩) v) ?_ ?_
 .refine tP hy1 (fun x=>⟨[(0,(.val (.list .str) O,none)),(1,(.val .clo (some (133,[])),none)),(7,(.val (.int .i64) (O.length:Int),none)),(8,(.val (.int .i64) x,none))],[],0,19,0⟩) ⟨[0,1,7,8],[]⟩ pV ?_;intro Z w1 n1 e g;unfold SZ at e;dsimp only at e|-;refine q9 HY ?_;refine qO ?_;refine qS e (fun e hc1=> ?_) (fun e hc1=> ?_)
  .refine r7 (qJ (qO (rP ?_)));refine q9 HY ?_;obtain⟨hg1,e⟩:=qG e;obtain⟨aA,hv2,hw2,e⟩:=qV e
   try simp only[go_sem] at hw2
   refine q9 HY ?_ (hp:=by exact⟨hg1,(qU hv2)⟩) (h:=by simp only[go_sem,hw2];rfl);refine qS e (fun e hc2=> ?_) (fun e hc2=> ?_)
   .refine q9 HY ?_;refine qP (rT (rD (uX (uZ (rT (rD ?_))))));cases e;cases g;dsimp only at d;cases d;exact pF []
   .refine r7 (rU (qJ ?_));obtain⟨hg3,e⟩:=qG e;refine rC HY ?_ (hp:=by exact hg3);cases e;exact sU ⟨⟨[0,1,7,8],[]⟩,_,by rfl,g⟩
  .refine tK (tJ (tN ?_));cases e;cases g;exact tM ⟨⟨[],[]⟩,_,rfl,by rfl⟩
 .rintro _ ⟨v,rfl,rfl⟩;dsimp only at d|-;refine tU (qJ ?_);refine q9 HY ?_;refine qP ?_;cases d;exact pF []
def MF (O:pE):Option Bool:=(P5 O).bind fun Z=>some ((decide ((0:Int)≤Z)))
section
variable (O:pE)
abbrev a5Q:List qC:=[(.val (.list .str) O,none),(.val .clo (some (133,[])),none)]
abbrev a5R:List qB:=[]
@[go_sem] def a5S:qI:=⟨[((MF O)).isSome=true],[(.val .bool (val (MF O)),none)],[]⟩
def aGE:List qC→List qB→Option qI:=rM (V:=pE) (a5Q) (fun x=>a5R) fun x=>a5S x
@[go_sem] def aUd:aGE (no_index (a5Q O)) (no_index a5R)=some (a5S O):=rQ (fun a0 b0 h1 h2=>by cases h1;cases h2;rfl) O
end
@[go_sem] abbrev aGF:Nat×qW:=(95,⟨[.v,.v],aGE,[],[],none⟩)
def a5T:rF Tryz.prog [] (rG [aGD]):=⟨trivial,qK aPa rJ,rH⟩
def aPb:r5 Tryz.prog aGF:=by
 refine rR a5T Tryz.func95 (c:=_) rfl (N:=9) pU (ts:=[(4,none)]) rfl (fun _ _=>rfl) ?_;intro O hs hrow;dsimp only[a5Q,a5R,a5S,rI,qR,qZ,r8,rL,Nat.reduceAdd] at hs hrow|-;have hz:=hs;obtain⟨z0,d⟩:=aVt.1 hz
 try rw[rY d]
 clear hz hs;unfold MF at d;refine q9 a5T ?_;obtain⟨Z,hv1,hw1,d⟩:=qV d
 try simp only[go_sem] at hw1
 refine q9 a5T ?_ (hp:=by exact(qU hv1)) (h:=by simp only[go_sem,hw1];rfl);refine qP ?_;cases d;exact pF []
def T0 (O:(List r6)) (Z:r6):Int→Option (Int⊕(Unit⊕Int)):=fun aA=>if (decide (aA<(O.length:Int)))=true then if 0≤aA∧aA<(O.length:Int) then if (decide (((qQ (.pair .str (.pair .str .unit)) O aA).1)=Z.1))=true then some (.inr (.inr (aA))) else if qD (aA+(1:Int)) then some (.inl (aA+(1:Int))) else none else none else some (.inr (.inl ()))
def P6 (O:(List r6)) (Z:r6):Option Int:=tY (rO (T0 O Z) (0:Int)) fun _=>some ((-1:Int))
section
variable (O:(List r6)) (Z:r6)
abbrev a5U:List qC:=[(.val (.list (.pair .str (.pair .str .unit))) O,none),(.val .clo (some (129,[(0,0)])),none)]
abbrev a5V:List qB:=[.cells (.pair .str (.pair .str .unit)) Z []]
@[go_sem] def a5W:qI:=⟨[((P6 O Z)).isSome=true],[(.val (.int .i64) (val (P6 O Z)),none)],[.cells (.pair .str (.pair .str .unit)) Z []]⟩
def aGG:List qC→List qB→Option qI:=rM (V:=((List r6)×r6)) (fun x=>a5U x.1) (fun x=>a5V x.2) fun x=>a5W x.1 x.2
@[go_sem] def aUe:aGG (no_index (a5U O)) (no_index (a5V Z))=some (a5W O Z):=rQ (fun⟨a0,a1⟩ ⟨b0,b1⟩ h1 h2=>by cases h1;cases h2;rfl) (O,Z)
end
@[go_sem] abbrev aGH:Nat×qW:=(136,⟨[.v,.f [((.pair .str (.pair .str .unit)),[])]],aGG,[],[0],none⟩)
def HZ:rF Tryz.prog [CW,BV] (rG [aFQ]):=⟨⟨ET,⟨DN,trivial⟩⟩,qK aOT rJ,rH⟩
def aPc:r5 Tryz.prog aGH:=by
 refine rR HZ Tryz.func136 (c:=_) rfl (N:=19) pU (ts:=[(4,none)]) rfl (fun _ _=>rfl) ?_;intro⟨O,Z⟩ hs hrow;dsimp only[a5U,a5V,a5W,rI,qR,qZ,r8,rL,Nat.reduceAdd] at hs hrow|-;have hz:=hs;obtain⟨z0,d⟩:=aVt.1 hz
 try rw[rY d]
 clear hz hs;unfold P6 at d;refine q9 HZ ?_;refine qO ?_;refine q9 HZ ?_;refine rP ?_;obtain⟨y1,hy1,d⟩:=uV d;refine tV 0 (fun s=> ∃v,y1= .inl v∧s=(fun _=>⟨[],[(0,.cells (.pair .str (.pair .str .unit)) Z [])],1,19,1⟩) v) ?_ ?_
 .refine tP hy1 (fun x=>⟨[(0,(.val (.list (.pair .str (.pair .str .unit))) O,none)),(1,(.val .clo (some (129,[(0,0)])),none)),(7,(.val (.int .i64) (O.length:Int),none)),(8,(.val (.int .i64) x,none))],[(0,.cells (.pair .str (.pair .str .unit)) Z [])],1,19,1⟩) ⟨[0,1,7,8],[(0,0)]⟩ pV ?_;intro aA w1 n1 e g;unfold T0 at e;dsimp only at e|-;refine q9 HZ ?_;refine qO ?_;refine qS e (fun e hc1=> ?_) (fun e hc1=> ?_)
  .refine r7 (qJ (qO (rP ?_)));refine q9 HZ ?_;obtain⟨hg1,e⟩:=qG e;refine q9 HZ ?_ (hp:=by exact⟨hg1,pT⟩)
   refine qS e (fun e hc2=> ?_) (fun e hc2=> ?_)
   .refine q9 HZ ?_;refine qP (rT (rD (uX (uZ (rT (rD ?_))))));cases e;cases g;dsimp only at d;cases d;exact pF [(0,0)]
   .refine r7 (rU (qJ ?_));obtain⟨hg2,e⟩:=qG e;refine rC HZ ?_ (hp:=by exact hg2);cases e;exact sU ⟨⟨[0,1,7,8],[(0,0)]⟩,_,by rfl,g⟩
  .refine tK (tJ (tN ?_));cases e;cases g;exact tM ⟨⟨[],[(0,0)]⟩,_,rfl,by rfl⟩
 .rintro _ ⟨v,rfl,rfl⟩;dsimp only at d|-;refine tU (qJ ?_);refine q9 HZ ?_;refine qP ?_;cases d;exact pF [(0,0)]
def K0 (O:(List r6)) (Z:r6):Option Bool:=(P6 O Z).bind fun aA=>some ((decide ((0:Int)≤aA)))
section
variable (O:(List r6)) (Z:r6)
abbrev a5X:List qC:=[(.val (.list (.pair .str (.pair .str .unit))) O,none),(.val .clo (some (129,[(0,0)])),none)]
abbrev a5Y:List qB:=[.cells (.pair .str (.pair .str .unit)) Z []]
@[go_sem] def a5Z:qI:=⟨[((K0 O Z)).isSome=true],[(.val .bool (val (K0 O Z)),none)],[.cells (.pair .str (.pair .str .unit)) Z []]⟩
def aGI:List qC→List qB→Option qI:=rM (V:=((List r6)×r6)) (fun x=>a5X x.1) (fun x=>a5Y x.2) fun x=>a5Z x.1 x.2
@[go_sem] def aUf:aGI (no_index (a5X O)) (no_index (a5Y Z))=some (a5Z O Z):=rQ (fun⟨a0,a1⟩ ⟨b0,b1⟩ h1 h2=>by cases h1;cases h2;rfl) (O,Z)
end
@[go_sem] abbrev aGJ:Nat×qW:=(89,⟨[.v,.f [((.pair .str (.pair .str .unit)),[])]],aGI,[],[0],none⟩)
def a50:rF Tryz.prog [] (rG [aGH]):=⟨trivial,qK aPc rJ,rH⟩
def aPd:r5 Tryz.prog aGJ:=by
 refine rR a50 Tryz.func89 (c:=_) rfl (N:=9) pU (ts:=[(4,none)]) rfl (fun _ _=>rfl) ?_;intro⟨O,Z⟩ hs hrow;dsimp only[a5X,a5Y,a5Z,rI,qR,qZ,r8,rL,Nat.reduceAdd] at hs hrow|-;have hz:=hs;obtain⟨z0,d⟩:=aVt.1 hz
 try rw[rY d]
 clear hz hs;unfold K0 at d;refine q9 a50 ?_;obtain⟨aA,hv1,hw1,d⟩:=qV d
 try simp only[go_sem] at hw1
 refine q9 a50 ?_ (hp:=by exact⟨pT,(qU hv1)⟩) (h:=by simp only[go_sem,hw1];rfl)
 refine qP ?_;cases d;exact pF [(0,0)]
def z7 (O:pE):Option pE:=if (0+O.length)*16≤140737488355328 then some ((([]:pE)++O)) else none
section
variable (O:pE)
abbrev a52:List qC:=[(.val (.list .str) O,none)]
abbrev a54:List qB:=[]
@[go_sem] def a55:qI:=⟨[((z7 O)).isSome=true],[(.own 0 ((val (z7 O)).length),none)],[.row 9 .str (val (z7 O)) ((val (z7 O)).length)]⟩
def aGK:List qC→List qB→Option qI:=rM (V:=pE) (a52) (fun x=>a54) fun x=>a55 x
@[go_sem] def aUg:aGK (no_index (a52 O)) (no_index a54)=some (a55 O):=rQ (fun a0 b0 h1 h2=>by cases h1;cases h2;rfl) O
end
@[go_sem] abbrev a56:Nat×qW:=(28,⟨[.v],aGK,[],[],none⟩)
def T1:rF Tryz.prog [a3d] (rG []):=⟨⟨aON,trivial⟩,rJ,rH⟩
def aGL:r5 Tryz.prog a56:=by
 refine rR T1 Tryz.func28 (c:=_) rfl (N:=8) pU (ts:=[(2,none)]) rfl (fun _ _=>rfl) ?_;intro O hs hrow;dsimp only[a52,a54,a55,rI,qR,qZ,r8,rL,Nat.reduceAdd] at hs hrow|-;have hz:=hs;obtain⟨z0,d⟩:=aVt.1 hz
 try rw[rY d]
 clear hz hs;unfold z7 at d;refine q9 T1 ?_;refine qO ?_;refine q9 T1 ?_;refine aEt (by simp only[go_sem];rfl) (fun hnil=> ?_) (fun hnil=> ?_)
 .subst hnil;obtain⟨_,d⟩:=qG d;refine q9 T1 ?_;refine qP (rD ?_);cases d;exact pF [(0,96)]
 .refine r7 (qJ ?_);obtain⟨hg1,d⟩:=qG d;refine q9 T1 ?_ (hp:=by exact⟨pT,hg1⟩)
  refine qP ?_;cases d;exact pF [(0,96)]
def aGM:Unit:=()
section
abbrev a57:List qC:=[]
abbrev a58:List qB:=[]
@[go_sem] def a59:qI:=⟨[],[(.val (.list .str) ([([110,101,119]:pD),([102,117,122,122,121]:pD),([116,114,97,110,115,108,97,116,101,100]:pD),([114,101,118,105,101,119,101,100]:pD),([111,98,115,111,108,101,116,101]:pD)]:pE),none)],[]⟩
def aGN:List qC→List qB→Option qI:=rM (V:=Unit) (fun x=>a57) (fun x=>a58) fun x=>a59
@[go_sem] def aUh:aGN (no_index a57) (no_index a58)=some a59:=rQ (fun _ _ h1 h2=>by cases h1;cases h2;rfl) ()
end
@[go_sem] abbrev T2:Nat×qW:=(69,⟨[],aGN,[],[],none⟩)
def a6a:rF Tryz.prog [vU] (rG []):=⟨⟨w7,trivial⟩,rJ,rH⟩
def YE:r5 Tryz.prog T2:=by
 refine rR a6a Tryz.func69 (c:=_) rfl (N:=2) pU (ts:=[(0,none)]) rfl (fun _ _=>rfl) ?_;intro⟨⟩ hs hrow;dsimp only[a57,a58,a59,rI,qR,qZ,r8,rL,Nat.reduceAdd] at hs hrow|-;obtain⟨z0,d⟩: ∃z,aGM=z:=⟨_,rfl⟩
 try rw[d]
 unfold aGM at d;refine q9 a6a ?_;refine q9 a6a ?_;refine qP ?_;cases d;exact pF []
attribute [irreducible] JZ P5 MF P6 K0 z7
end
noncomputable section
def P7 (O:z6) (Z:pD) (aA:pD):(Int×(List (pD×pD)))→Option ((Int×(List (pD×pD)))⊕((List (pD×pD))⊕(List (pD×pD)))):=fun(aB,aC)=>if (decide (aB<(O.2.2.1.length:Int)))=true then if 0≤aB∧aB<(O.2.2.1.length:Int) then if ((Z++([32]:pD)).length:Int)≤9223372036854775807 then if (((Z++([32]:pD))++aA).length:Int)≤9223372036854775807 then if (List.all ((Z++([32]:pD))++aA) fun b=>decide (b.toNat<128))=true∧List.length ((Z++([32]:pD))++aA)<4294967281 then (EW (Lib.fields ((Z++([32]:pD))++aA)) ((qQ (.pair .str (.pair .str .unit)) O.2.2.1 aB).1)).bind fun aD=>if (!aD)=true then none else if qD (aB+(1:Int)) then some (.inl ((aB+(1:Int)),(tW .str .str ((qQ (.pair .str (.pair .str .unit)) O.2.2.1 aB).1) ((qQ (.pair .str (.pair .str .unit)) O.2.2.1 aB).2.1) aC))) else none else none else none else none else none else some (.inr (.inl aC))
def K1 (O:pD) (Z:(List (pD×pD))):Int→Option (Int⊕(Unit⊕(List (pD×pD)))):=fun aA=>if (decide (aA<((((Lib.fields O).length):Nat):Int)))=true then if 0≤aA∧aA<((((Lib.fields O).length):Nat):Int) then if (!(vX .str .str Z (qQ .str (Lib.fields O) aA)))=true then none else if qD (aA+(1:Int)) then some (.inl (aA+(1:Int))) else none else none else some (.inr (.inl ()))
def wQ (O:z6) (Z:pD) (aA:pD):Option (List (pD×pD)):=tY (rO (P7 O Z aA) ((0:Int),([]:List (pD×pD)))) fun aB=>if (List.all Z fun b=>decide (b.toNat<128))=true∧List.length Z<4294967281 then tY (rO (K1 Z aB) (0:Int)) fun _=>some (aB) else none
section
variable (O:z6) (Z:pD) (aA:pD)
abbrev a6b:List qC:=[(.val xD O,none),(.val .str Z,none),(.val .str aA,none)]
abbrev a6c:List qB:=[]
@[go_sem] def a6d:qI:=⟨[((wQ O Z aA)).isSome=true],[(.val .mp (some 0),none),(.val .bool true,none)],[.map .str .str (val (wQ O Z aA))]⟩
def aGO:List qC→List qB→Option qI:=rM (V:=(z6×pD×pD)) (fun x=>a6b x.1 x.2.1 x.2.2) (fun x=>a6c) fun x=>a6d x.1 x.2.1 x.2.2
@[go_sem] def aUi:aGO (no_index (a6b O Z aA)) (no_index a6c)=some (a6d O Z aA):=rQ (fun⟨a0,a1,a2⟩ ⟨b0,b1,b2⟩ h1 h2=>by cases h1;cases h2;rfl) (O,Z,aA)
end
@[go_sem] abbrev P8:Nat×qW:=(80,⟨[.v,.v,.v],aGO,[],[],none⟩)
def zT:rF Tryz.prog [sJ,vU,CW,zI,G8,BV] (rG [LX,YD]):=⟨⟨sM,⟨w7,⟨ET,⟨A9,⟨JN,⟨DN,trivial⟩⟩⟩⟩⟩⟩,qK XY (qK a4p rJ),rH⟩
def T3:r5 Tryz.prog P8:=by
 refine rR zT Tryz.func80 (c:=_) rfl (N:=55) pU (ts:=[(6,none),(7,none)]) rfl (fun _ _=>rfl) ?_;intro⟨O,Z,aA⟩ hs hrow;dsimp only[a6b,a6c,a6d,rI,qR,qZ,r8,rL,Nat.reduceAdd] at hs hrow|-;have hz:=hs;obtain⟨z0,e⟩:=aVt.1 hz
 try rw[rY e]
 clear hz hs;unfold wQ at e;refine q9 zT ?_;refine q9 zT ?_;refine qO ?_;refine q9 zT ?_;refine rP ?_;obtain⟨y1,hy1,e⟩:=uV e;refine tV 0 (fun s=> ∃v,y1= .inl v∧s=(fun x=>⟨[(1,(.val .str Z,none)),(8,(.val .mp (some 0),none))],[(0,.map .str .str x)],1,55,0⟩) v) ?_ ?_
 .refine tP hy1 (fun x=>⟨[(1,(.val .str Z,none)),(2,(.val .str aA,none)),(8,(.val .mp (some 0),none)),(17,(.val (.list (.pair .str (.pair .str .unit))) O.2.2.1,none)),(18,(.val (.int .i64) (O.2.2.1.length:Int),none)),(19,(.val (.int .i64) x.1,none))],[(0,.map .str .str x.2)],1,55,0⟩) ⟨[1,2,8,17,18,19],[(0,96)]⟩ pV ?_;intro x1 w1 n1 d f;obtain⟨aB,aC⟩:=x1;unfold P7 at d;dsimp only at d|-;refine q9 zT ?_;refine qO ?_;refine qS d (fun d hc1=> ?_) (fun d hc1=> ?_)
  .refine r7 (qJ (qO (rP ?_)));obtain⟨hg1,d⟩:=qG d;refine q9 zT ?_ (hp:=by exact hg1);refine qO ?_;obtain⟨hg2,d⟩:=qG d;obtain⟨hg3,d⟩:=qG d;obtain⟨hg4,d⟩:=qG d;obtain⟨aD,hv5,hw5,d⟩:=qV d
   try simp only[go_sem] at hw5
   refine vY zT ?_ (hp:=by exact⟨hg2,hg3,hg4,fun _=>by first|exact rfl|exact trivial,(qU hv5)⟩) (h:=by simp only[go_sem,hw5];rfl)
   refine qS d (fun d hc2=> ?_) (fun d hc2=> ?_)
   .refine qO ?_;refine rC zT ?_;cases d
   .refine r7 (qJ ?_);refine rC zT ?_;refine rU (qJ ?_);obtain⟨hg6,d⟩:=qG d;refine rC zT ?_ (hp:=by exact hg6);cases d;exact sU ⟨⟨[1,2,8,17,18,19],[(0,0)]⟩,_,by rfl,f⟩
  .refine tK (tJ (tN ?_));cases d;cases f;exact tM ⟨⟨[1,8],[(0,0)]⟩,_,rfl,by rfl⟩
 .rintro _ ⟨aE,rfl,rfl⟩;dsimp only at e|-;refine tU (qJ (qO ?_));obtain⟨hg7,e⟩:=qG e;refine q9 zT ?_ (hp:=by exact hg7);refine rP ?_;obtain⟨y1,hy1,e⟩:=uV e;refine tV 2 (fun s=> ∃v,y1= .inl v∧s=(fun _=>⟨[(8,(.val .mp (some 0),none))],[(0,.map .str .str aE)],1,55,0⟩) v) ?_ ?_
  .refine tP hy1 (fun x=>⟨[(8,(.val .mp (some 0),none)),(39,(.own 1 ((Lib.fields Z).length),none)),(40,(.val (.int .i64) ((((Lib.fields Z).length):Nat):Int),none)),(41,(.val (.int .i64) x,none))],[(0,.map .str .str aE),(1,.row 9 .str (Lib.fields Z) ((Lib.fields Z).length))],2,55,0⟩) ⟨[8,39,40,41],[(0,0),(1,33)]⟩ pV ?_;intro aF w1 n1 d f;unfold K1 at d;dsimp only at d|-;refine q9 zT ?_;refine qO ?_;refine qS d (fun d hc3=> ?_) (fun d hc3=> ?_)
   .refine r7 (qJ (qO (rP ?_)));obtain⟨hg8,d⟩:=qG d;refine q9 zT ?_ (hp:=by exact⟨hg8,pT⟩)
    refine q9 zT ?_;refine q9 zT ?_;refine qS d (fun d hc4=> ?_) (fun d hc4=> ?_)
    .refine qO ?_;refine rC zT ?_;cases d
    .refine r7 (rU (qJ ?_));obtain⟨hg9,d⟩:=qG d;refine rC zT ?_ (hp:=by exact hg9);cases d;exact sU ⟨⟨[8,39,40,41],[(0,0),(1,1)]⟩,_,by rfl,f⟩
   .refine tK (tJ (tN ?_));cases d;cases f;exact tM ⟨⟨[8],[(0,0)]⟩,_,rfl,by rfl⟩
  .rintro _ ⟨v,rfl,rfl⟩;dsimp only at e|-;refine tU (qJ ?_);refine q9 zT ?_;refine qP ?_;cases e;exact pF [(0,0)]
def P9 (O:z6) (Z:pD) (aA:pD):(Int×(List (pD×pD)))→Option ((Int×(List (pD×pD)))⊕((List (pD×pD))⊕Unit)):=fun(aB,aC)=>if (decide (aB<(O.2.2.1.length:Int)))=true then if 0≤aB∧aB<(O.2.2.1.length:Int) then if ((Z++([32]:pD)).length:Int)≤9223372036854775807 then if (((Z++([32]:pD))++aA).length:Int)≤9223372036854775807 then if (List.all ((Z++([32]:pD))++aA) fun b=>decide (b.toNat<128))=true∧List.length ((Z++([32]:pD))++aA)<4294967281 then (EW (Lib.fields ((Z++([32]:pD))++aA)) ((qQ (.pair .str (.pair .str .unit)) O.2.2.1 aB).1)).bind fun aD=>if (!aD)=true then some (.inr (.inr (()))) else if qD (aB+(1:Int)) then some (.inl ((aB+(1:Int)),(tW .str .str ((qQ (.pair .str (.pair .str .unit)) O.2.2.1 aB).1) ((qQ (.pair .str (.pair .str .unit)) O.2.2.1 aB).2.1) aC))) else none else none else none else none else none else some (.inr (.inl aC))
def MG (O:pD) (Z:(List (pD×pD))):Int→Option (Int⊕(Unit⊕Unit)):=fun aA=>if (decide (aA<((((Lib.fields O).length):Nat):Int)))=true then if 0≤aA∧aA<((((Lib.fields O).length):Nat):Int) then if (!(vX .str .str Z (qQ .str (Lib.fields O) aA)))=true then some (.inr (.inr (()))) else if qD (aA+(1:Int)) then some (.inl (aA+(1:Int))) else none else none else some (.inr (.inl ()))
def DR (O:z6) (Z:pD) (aA:pD):Option Unit:=tY (rO (P9 O Z aA) ((0:Int),([]:List (pD×pD)))) fun aB=>if (List.all Z fun b=>decide (b.toNat<128))=true∧List.length Z<4294967281 then tY (rO (MG Z aB) (0:Int)) fun _=>none else none
section
variable (O:z6) (Z:pD) (aA:pD)
abbrev a6e:List qC:=[(.val xD O,none),(.val .str Z,none),(.val .str aA,none)]
abbrev a6f:List qB:=[]
@[go_sem] def a6g:qI:=⟨[((DR O Z aA)).isSome=true],[(.val .mp none,none),(.val .bool false,none)],[]⟩
def aGP:List qC→List qB→Option qI:=rM (V:=(z6×pD×pD)) (fun x=>a6e x.1 x.2.1 x.2.2) (fun x=>a6f) fun x=>a6g x.1 x.2.1 x.2.2
@[go_sem] def aUj:aGP (no_index (a6e O Z aA)) (no_index a6f)=some (a6g O Z aA):=rQ (fun⟨a0,a1,a2⟩ ⟨b0,b1,b2⟩ h1 h2=>by cases h1;cases h2;rfl) (O,Z,aA)
end
@[go_sem] abbrev PA:Nat×qW:=(80,⟨[.v,.v,.v],aGP,[],[],none⟩)
def zU:rF Tryz.prog [sJ,vU,CW,zI,G8,BV] (rG [LX,YD]):=⟨⟨sM,⟨w7,⟨ET,⟨A9,⟨JN,⟨DN,trivial⟩⟩⟩⟩⟩⟩,qK XY (qK a4p rJ),rH⟩
def T4:r5 Tryz.prog PA:=by
 refine rR zU Tryz.func80 (c:=_) rfl (N:=55) pU (ts:=[(6,none),(7,none)]) rfl (fun _ _=>rfl) ?_;intro⟨O,Z,aA⟩ hs hrow;dsimp only[a6e,a6f,a6g,rI,qR,qZ,r8,rL,Nat.reduceAdd] at hs hrow|-;have hz:=hs;obtain⟨z0,e⟩:=aVt.1 hz
 try rw[rY e]
 clear hz hs;unfold DR at e;refine q9 zU ?_;refine q9 zU ?_;refine qO ?_;refine q9 zU ?_;refine rP ?_;obtain⟨y1,hy1,e⟩:=uV e;refine tV 0 (fun s=> ∃v,y1= .inl v∧s=(fun x=>⟨[(1,(.val .str Z,none)),(8,(.val .mp (some 0),none))],[(0,.map .str .str x)],1,55,0⟩) v) ?_ ?_
 .refine tP hy1 (fun x=>⟨[(1,(.val .str Z,none)),(2,(.val .str aA,none)),(8,(.val .mp (some 0),none)),(17,(.val (.list (.pair .str (.pair .str .unit))) O.2.2.1,none)),(18,(.val (.int .i64) (O.2.2.1.length:Int),none)),(19,(.val (.int .i64) x.1,none))],[(0,.map .str .str x.2)],1,55,0⟩) ⟨[1,2,8,17,18,19],[(0,96)]⟩ pV ?_;intro x1 w1 n1 d f;obtain⟨aB,aC⟩:=x1;unfold P9 at d;dsimp only at d|-;refine q9 zU ?_;refine qO ?_;refine qS d (fun d hc1=> ?_) (fun d hc1=> ?_)
  .refine r7 (qJ (qO (rP ?_)));obtain⟨hg1,d⟩:=qG d;refine q9 zU ?_ (hp:=by exact hg1);refine qO ?_;obtain⟨hg2,d⟩:=qG d;obtain⟨hg3,d⟩:=qG d;obtain⟨hg4,d⟩:=qG d;obtain⟨aD,hv5,hw5,d⟩:=qV d
   try simp only[go_sem] at hw5
   refine vY zU ?_ (hp:=by exact⟨hg2,hg3,hg4,fun _=>by first|exact rfl|exact trivial,(qU hv5)⟩) (h:=by simp only[go_sem,hw5];rfl)
   refine qS d (fun d hc2=> ?_) (fun d hc2=> ?_)
   .refine q9 zU ?_;refine qP (rD (rT (rD (uX (uZ (rT (rD ?_)))))));cases d;cases f;dsimp only at e;cases e;exact pF []
   .refine r7 (qJ ?_);refine rC zU ?_;refine rU (qJ ?_);obtain⟨hg6,d⟩:=qG d;refine rC zU ?_ (hp:=by exact hg6);cases d;exact sU ⟨⟨[1,2,8,17,18,19],[(0,0)]⟩,_,by rfl,f⟩
  .refine tK (tJ (tN ?_));cases d;cases f;exact tM ⟨⟨[1,8],[(0,0)]⟩,_,rfl,by rfl⟩
 .rintro _ ⟨aE,rfl,rfl⟩;dsimp only at e|-;refine tU (qJ (qO ?_));obtain⟨hg7,e⟩:=qG e;refine q9 zU ?_ (hp:=by exact hg7);refine rP ?_;obtain⟨y1,hy1,e⟩:=uV e;refine tV 2 (fun s=> ∃v,y1= .inl v∧s=(fun _=>⟨[(8,(.val .mp (some 0),none))],[(0,.map .str .str aE)],1,55,0⟩) v) ?_ ?_
  .refine tP hy1 (fun x=>⟨[(8,(.val .mp (some 0),none)),(39,(.own 1 ((Lib.fields Z).length),none)),(40,(.val (.int .i64) ((((Lib.fields Z).length):Nat):Int),none)),(41,(.val (.int .i64) x,none))],[(0,.map .str .str aE),(1,.row 9 .str (Lib.fields Z) ((Lib.fields Z).length))],2,55,0⟩) ⟨[8,39,40,41],[(0,0),(1,33)]⟩ pV ?_;intro aF w1 n1 d f;unfold MG at d;dsimp only at d|-;refine q9 zU ?_;refine qO ?_;refine qS d (fun d hc3=> ?_) (fun d hc3=> ?_)
   .refine r7 (qJ (qO (rP ?_)));obtain⟨hg8,d⟩:=qG d;refine q9 zU ?_ (hp:=by exact⟨hg8,pT⟩)
    refine q9 zU ?_;refine q9 zU ?_;refine qS d (fun d hc4=> ?_) (fun d hc4=> ?_)
    .refine q9 zU ?_;refine qP (rT (rD (uX (uZ (rT (rD ?_))))));cases d;cases f;dsimp only at e;cases e;exact pF []
    .refine r7 (rU (qJ ?_));obtain⟨hg9,d⟩:=qG d;refine rC zU ?_ (hp:=by exact hg9);cases d;exact sU ⟨⟨[8,39,40,41],[(0,0),(1,1)]⟩,_,by rfl,f⟩
   .refine tK (tJ (tN ?_));cases d;cases f;exact tM ⟨⟨[8],[(0,0)]⟩,_,rfl,by rfl⟩
  .rintro _ ⟨v,rfl,rfl⟩;dsimp only at e|-;refine tU (qJ (qO ?_));refine rC zU ?_;cases e
def I0 (O:pD):Option Bool:=if 0<([32]:pD).length∧List.length O<4294967281 then if 0<(tC O ([32]:pD)).length∧List.length (tC O ([32]:pD))≤9223372036854775807 then (MF (uK (tC O ([32]:pD)))).bind fun Z=>some ((!Z)) else none else none
section
variable (O:pD)
abbrev a6h:List qC:=[(.val .str O,none)]
abbrev a6i:List qB:=[]
@[go_sem] def a6j:qI:=⟨[((I0 O)).isSome=true],[(.own 0 ((uK (tC O ([32]:pD))).length),none),(.val .bool (val (I0 O)),none)],[.row 9 .str (uK (tC O ([32]:pD))) ((uK (tC O ([32]:pD))).length)]⟩
def aGQ:List qC→List qB→Option qI:=rM (V:=pD) (a6h) (fun x=>a6i) fun x=>a6j x
@[go_sem] def aUk:aGQ (no_index (a6h O)) (no_index a6i)=some (a6j O):=rQ (fun a0 b0 h1 h2=>by cases h1;cases h2;rfl) O
end
@[go_sem] abbrev YF:Nat×qW:=(87,⟨[.v],aGQ,[],[],none⟩)
def YG:rF Tryz.prog [vU] (rG [OM,ON,aGF]):=⟨⟨w7,trivial⟩,qK a2D (qK a2E (qK aPb rJ)),rH⟩
def a6k:r5 Tryz.prog YF:=by
 refine rR YG Tryz.func87 (c:=_) rfl (N:=12) pU (ts:=[(2,none),(3,none)]) rfl (fun _ _=>rfl) ?_;intro O hs hrow;dsimp only[a6h,a6i,a6j,rI,qR,qZ,r8,rL,Nat.reduceAdd] at hs hrow|-;have hz:=hs;obtain⟨z0,e⟩:=aVt.1 hz
 try rw[rY e]
 clear hz hs;unfold I0 at e;refine q9 YG ?_;obtain⟨hg1,e⟩:=qG e;obtain⟨hg2,e⟩:=qG e;refine q9 YG ?_ (hp:=by exact⟨hg1,pT,hg2⟩)
 obtain⟨Z,hv3,hw3,e⟩:=qV e
 try simp only[go_sem] at hw3
 refine q9 YG ?_ (hp:=by exact⟨fun _=>by first|exact rfl|exact trivial,(qU hv3)⟩) (h:=by simp only[go_sem,hw3];rfl)
 refine qP ?_;cases e;exact pF [(0,129)]
attribute [irreducible] wQ DR I0
end
noncomputable section
def YH:(Int×pD)→pM→Option (pM⊕pD):=fun O Z=>(DO (Z,()) O.2).bind fun aA=>some (.inl (Z++uY O.2))
def MH (O:G2):Option pD:=if List.length O.2.1≤4611686018427387904 then tY (zP (YH) (CR O) ([]:pM)) fun Z=>some ((uA Z)) else none
section
variable (O:G2)
abbrev a6l:List qC:=[(.val EP O,none)]
abbrev a6m:List qB:=[]
@[go_sem] def a6n:qI:=⟨[((MH O)).isSome=true],[(.val .str (val (MH O)),none)],[]⟩
def aGR:List qC→List qB→Option qI:=rM (V:=G2) (a6l) (fun x=>a6m) fun x=>a6n x
@[go_sem] def aUl:aGR (no_index (a6l O)) (no_index a6m)=some (a6n O):=rQ (fun a0 b0 h1 h2=>by cases h1;cases h2;rfl) O
end
@[go_sem] abbrev aGS:Nat×qW:=(13,⟨[.v],aGR,[],[],none⟩)
def MI:rF Tryz.prog [OS,HP] (rG [aFk,Y8,HM]):=⟨⟨Y5,⟨M6,trivial⟩⟩,qK aOP (qK a3q (qK OL rJ)),rH⟩
def aPe:r5 Tryz.prog aGS:=by
 refine rR MI Tryz.func13 (c:=_) rfl (N:=13) pU (ts:=[(2,none)]) rfl (fun _ _=>rfl) ?_;intro O hs hrow;dsimp only[a6l,a6m,a6n,rI,qR,qZ,r8,rL,Nat.reduceAdd] at hs hrow|-;have hz:=hs;obtain⟨z0,d⟩:=aVt.1 hz
 try rw[rY d]
 clear hz hs;unfold MH at d;refine q9 MI ?_;refine q9 MI ?_;refine qO ?_;refine q9 MI ?_;refine rP ?_;obtain⟨hgF2,d⟩:=qG d;obtain⟨y1,hy1,d⟩:=uV d;refine aOk aOr aOm pV pV hgF2 hy1 [(3,(.val .ref (some (0,0)),none))] (fun Z=>[(3,(.val .ref (some (0,0)),none)),(5,(.val .str Z.2,none))]) (fun x=>[.cells wO ((some (0,0)),(x,())) [(1,1)],.grow 5 1 (x.length)]) 1 ⟨[3],[(0,64),(1,65)]⟩ pV pV pV pV (aWQ pV) (fun _=>aWQ rfl) (fun _=>by rfl) (fun _=>rfl) pV ?_ ?_
 .intro Z aA w1 f g;refine⟨?_,?_⟩
  .dsimp only[JJ,aEU,uI,qR,qZ,Nat.reduceAdd,List.toList_toArray];refine rC MI ?_;exact aES ⟨[3,5],[(0,0),(1,1)]⟩ pV
  .unfold YH at f;dsimp only[qR,qZ,Nat.reduceAdd] at f|-;refine rP ?_;obtain⟨aB,hv1,hw1,f⟩:=qV f
   try simp only[go_sem] at hw1
   refine rC MI ?_ (hp:=by exact⟨pT,(qU hv1)⟩) (h:=by simp only[go_sem,hw1];rfl)
   refine rU ?_;cases f;exact aET ⟨[],[(0,0),(1,1)]⟩ _ rfl pV
 .rintro aA rfl;dsimp only[qR,qZ,Nat.reduceAdd] at d|-;refine rU (qJ ?_);refine q9 MI ?_ (hp:=by first|rfl|trivial)
  refine qP ?_;cases d;exact pF []
def PB (O:s0):Option Unit:=if qD ((O.1.length:Int)+(O.2.1.length:Int)) then if qD (((O.1.length:Int)+(O.2.1.length:Int))+(O.2.2.1.length:Int)) then if (((decide ((((O.1.length:Int)+(O.2.1.length:Int))+(O.2.2.1.length:Int))≤(6000:Int)))==true)=true→((zR O.2.2.2.1 O.2.2.2.2.2.2.1)).isSome=true) then if (((decide ((((O.1.length:Int)+(O.2.1.length:Int))+(O.2.2.1.length:Int))≤(6000:Int)))==true)=true→((zR O.2.2.2.2.1 ([]:List r6))).isSome=true) then if (((decide ((((O.1.length:Int)+(O.2.1.length:Int))+(O.2.2.1.length:Int))≤(6000:Int)))==true)=true→qD ((val (zR O.2.2.2.1 O.2.2.2.2.2.2.1))+(val (zR O.2.2.2.2.1 ([]:List r6))))) then some (()) else none else none else none else none else none
section
variable (O:s0)
abbrev a6o:List qC:=[(.val s7 O,none)]
abbrev a6p:List qB:=[]
@[go_sem] def a6q:qI:=⟨[((PB O)).isSome=true],[(.val .bool ((decide ((((O.1.length:Int)+(O.2.1.length:Int))+(O.2.2.1.length:Int))≤(6000:Int)))&&(decide (((val (zR O.2.2.2.1 O.2.2.2.2.2.2.1))+(val (zR O.2.2.2.2.1 ([]:List r6))))≤(6000:Int)))),none)],[]⟩
def aGT:List qC→List qB→Option qI:=rM (V:=s0) (a6o) (fun x=>a6p) fun x=>a6q x
@[go_sem] def aUm:aGT (no_index (a6o O)) (no_index a6p)=some (a6q O):=rQ (fun a0 b0 h1 h2=>by cases h1;cases h2;rfl) O
end
@[go_sem] abbrev aGU:Nat×qW:=(23,⟨[.v],aGT,[],[],none⟩)
def a6r:rF Tryz.prog [sJ,vU,xJ,xI] (rG [a3u]):=⟨⟨sM,⟨w7,⟨y6,⟨y5,trivial⟩⟩⟩⟩,qK aFn rJ,rH⟩
def aPf:r5 Tryz.prog aGU:=by
 refine rR a6r Tryz.func23 (c:=_) rfl (N:=27) pU (ts:=[(2,none)]) rfl (fun _ _=>rfl) ?_;intro O hs hrow;dsimp only[a6o,a6p,a6q,rI,qR,qZ,r8,rL,Nat.reduceAdd] at hs hrow|-;have hz:=hs;obtain⟨z0,d⟩:=aVt.1 hz
 try rw[rY d]
 clear hz hs;unfold PB at d;refine q9 a6r ?_;obtain⟨hg1,d⟩:=qG d;obtain⟨hg2,d⟩:=qG d;obtain⟨hg3,d⟩:=qG d;obtain⟨hg4,d⟩:=qG d;obtain⟨hg5,d⟩:=qG d;refine vY a6r ?_ (hp:=by exact⟨hg1,hg2,id,id,id,id,hg3,id,id,hg4,id,id,hg5,id,sB⟩);refine qP ?_;cases d;exact pF []
def PC (O:sD) (Z:sD):Option Unit:=if (((decide (O.1=Z.1))==true)=true→((x4 O.2.1 Z.2.1)).isSome=true) then if ((((decide (O.1=Z.1))&&(val (x4 O.2.1 Z.2.1)))==true)=true→((zJ O.2.2.1 Z.2.2.1)).isSome=true) then some (()) else none else none
section
variable (O:sD) (Z:sD)
abbrev a6s:List qC:=[(.val xG O,none),(.val xG Z,none)]
abbrev a6t:List qB:=[]
@[go_sem] def a6u:qI:=⟨[((PC O Z)).isSome=true],[(.val .bool (((decide (O.1=Z.1))&&(val (x4 O.2.1 Z.2.1)))&&(val (zJ O.2.2.1 Z.2.2.1))),none)],[]⟩
def aGV:List qC→List qB→Option qI:=rM (V:=(sD×sD)) (fun x=>a6s x.1 x.2) (fun x=>a6t) fun x=>a6u x.1 x.2
@[go_sem] def aUn:aGV (no_index (a6s O Z)) (no_index a6t)=some (a6u O Z):=rQ (fun⟨a0,a1⟩ ⟨b0,b1⟩ h1 h2=>by cases h1;cases h2;rfl) (O,Z)
end
@[go_sem] abbrev aGW:Nat×qW:=(32,⟨[.v,.v],aGV,[],[],none⟩)
def a6v:rF Tryz.prog [sJ,vU,xJ,zQ] (rG [a3G,a3K]):=⟨⟨sM,⟨w7,⟨y6,⟨AS,trivial⟩⟩⟩⟩,qK aFt (qK aFv rJ),rH⟩
def aPg:r5 Tryz.prog aGW:=by
 refine rR a6v Tryz.func32 (c:=_) rfl (N:=24) pU (ts:=[(4,none)]) rfl (fun _ _=>rfl) ?_;intro⟨O,Z⟩ hs hrow;dsimp only[a6s,a6t,a6u,rI,qR,qZ,r8,rL,Nat.reduceAdd] at hs hrow|-;have hz:=hs;obtain⟨z0,d⟩:=aVt.1 hz
 try rw[rY d]
 clear hz hs;unfold PC at d;refine q9 a6v ?_;obtain⟨hg1,d⟩:=qG d;obtain⟨hg2,d⟩:=qG d;refine q9 a6v ?_ (hp:=by exact⟨id,id,id,id,hg1,sB,id,id,id,id,hg2,sB⟩);refine qP ?_;cases d;exact pF []
def YI (O:(List s0)) (Z:(List s0)):Int→Option (Int⊕(Unit⊕Bool)):=fun aA=>if (decide (aA<(O.length:Int)))=true then if 0≤aA∧aA<(O.length:Int) then if 0≤aA∧aA<(Z.length:Int) then (OV (qQ s7 O aA) (qQ s7 Z aA)).bind fun aB=>if (!(((((((decide (((qQ s7 O aA).1)=((qQ s7 Z aA).1)))&&(decide (((qQ s7 O aA).2.1)=((qQ s7 Z aA).2.1))))&&(decide (((qQ s7 O aA).2.2.1)=((qQ s7 Z aA).2.2.1))))&&(decide (((qQ s7 O aA).2.2.2.2.2.1)=((qQ s7 Z aA).2.2.2.2.2.1))))&&(val (x4 ((qQ s7 O aA).2.2.2.1) ((qQ s7 Z aA).2.2.2.1))))&&(val (x4 ((qQ s7 O aA).2.2.2.2.1) ((qQ s7 Z aA).2.2.2.2.1))))&&(val (zJ ((qQ s7 O aA).2.2.2.2.2.2.1) ((qQ s7 Z aA).2.2.2.2.2.2.1)))))=true then some (.inr (.inr (false))) else if qD (aA+(1:Int)) then some (.inl (aA+(1:Int))) else none else none else none else some (.inr (.inl ()))
def BY (O:(List s0)) (Z:(List s0)):Option Bool:=if (!decide ((O.length:Int)=(Z.length:Int)))=true then some (false) else tY (rO (YI O Z) (0:Int)) fun _=>some (true)
section
variable (O:(List s0)) (Z:(List s0))
abbrev a6w:List qC:=[(.val (.list s7) O,none),(.val (.list s7) Z,none)]
abbrev a6x:List qB:=[]
@[go_sem] def a6y:qI:=⟨[((BY O Z)).isSome=true],[(.val .bool (val (BY O Z)),none)],[]⟩
def aGX:List qC→List qB→Option qI:=rM (V:=((List s0)×(List s0))) (fun x=>a6w x.1 x.2) (fun x=>a6x) fun x=>a6y x.1 x.2
@[go_sem] def aUo:aGX (no_index (a6w O Z)) (no_index a6x)=some (a6y O Z):=rQ (fun⟨a0,a1⟩ ⟨b0,b1⟩ h1 h2=>by cases h1;cases h2;rfl) (O,Z)
end
@[go_sem] abbrev aGY:Nat×qW:=(33,⟨[.v,.v],aGX,[],[],none⟩)
def GF:rF Tryz.prog [DL,xI] (rG [aFx]):=⟨⟨G6,⟨y5,trivial⟩⟩,qK aOR rJ,rH⟩
def aPh:r5 Tryz.prog aGY:=by
 refine rR GF Tryz.func33 (c:=_) rfl (N:=27) pU (ts:=[(4,none)]) rfl (fun _ _=>rfl) ?_;intro⟨O,Z⟩ hs hrow;dsimp only[a6w,a6x,a6y,rI,qR,qZ,r8,rL,Nat.reduceAdd] at hs hrow|-;have hz:=hs;obtain⟨z0,d⟩:=aVt.1 hz
 try rw[rY d]
 clear hz hs;unfold BY at d;refine q9 GF ?_;refine qO ?_;refine q9 GF ?_;refine qS d (fun d hc1=> ?_) (fun d hc1=> ?_)
 .refine q9 GF ?_;refine qP (rD ?_);cases d;exact pF []
 .refine r7 (qJ (qO ?_));refine q9 GF ?_;refine rP ?_;obtain⟨y1,hy1,d⟩:=uV d;refine tV 0 (fun s=> ∃v,y1= .inl v∧s=(fun _=>⟨[],[],0,27,0⟩) v) ?_ ?_
  .refine tP hy1 (fun x=>⟨[(0,(.val (.list s7) O,none)),(1,(.val (.list s7) Z,none)),(5,(.val (.int .i64) x,none))],[],0,27,0⟩) ⟨[0,1,5],[]⟩ pV ?_;intro aA w1 n1 f g;unfold YI at f;dsimp only at f|-;refine qO ?_;refine q9 GF ?_;refine qS f (fun f hc2=> ?_) (fun f hc2=> ?_)
   .refine r7 (qJ (qO (rP ?_)));obtain⟨hg1,f⟩:=qG f;obtain⟨hg2,f⟩:=qG f;obtain⟨aB,hv3,hw3,f⟩:=qV f
    try simp only[go_sem] at hw3
    refine vY GF ?_ (hp:=by exact⟨hg1,hg2,(qU hv3)⟩) (h:=by simp only[go_sem,hw3];rfl);refine qS f (fun f hc3=> ?_) (fun f hc3=> ?_)
    .refine q9 GF ?_;refine qP (rT (rD (uX (uZ (rT (rD ?_))))));cases f;cases g;dsimp only at d;cases d;exact pF []
    .refine r7 (rU (qJ ?_));obtain⟨hg4,f⟩:=qG f;refine rC GF ?_ (hp:=by exact hg4);cases f;exact sU ⟨⟨[0,1,5],[]⟩,_,by rfl,g⟩
   .refine tK (tJ (tN ?_));cases f;cases g;exact tM ⟨⟨[],[]⟩,_,rfl,by rfl⟩
  .rintro _ ⟨v,rfl,rfl⟩;dsimp only at d|-;refine tU (qJ ?_);refine q9 GF ?_;refine qP ?_;cases d;exact pF []
def F0 (O:pD):Option Unit:=if (((decide ((O.length:Int)≤(4000:Int)))==true)=true→((SS O)).isSome=true) then some (()) else none
section
variable (O:pD)
abbrev a6z:List qC:=[(.val .str O,none)]
abbrev a6A:List qB:=[]
@[go_sem] def a6B:qI:=⟨[((F0 O)).isSome=true],[(.val .bool ((decide ((O.length:Int)≤(4000:Int)))&&(Lib.validD O)),none)],[]⟩
def aGZ:List qC→List qB→Option qI:=rM (V:=pD) (a6z) (fun x=>a6A) fun x=>a6B x
@[go_sem] def aUp:aGZ (no_index (a6z O)) (no_index a6A)=some (a6B O):=rQ (fun a0 b0 h1 h2=>by cases h1;cases h2;rfl) O
end
@[go_sem] abbrev T5:Nat×qW:=(97,⟨[.v],aGZ,[],[],none⟩)
def a6C:rF Tryz.prog [sJ] (rG [aFU]):=⟨⟨sM,trivial⟩,qK aOV rJ,rH⟩
def YJ:r5 Tryz.prog T5:=by
 refine rR a6C Tryz.func97 (c:=_) rfl (N:=10) pU (ts:=[(2,none)]) rfl (fun _ _=>rfl) ?_;intro O hs hrow;dsimp only[a6z,a6A,a6B,rI,qR,qZ,r8,rL,Nat.reduceAdd] at hs hrow|-;have hz:=hs;obtain⟨z0,d⟩:=aVt.1 hz
 try rw[rY d]
 clear hz hs;unfold F0 at d;refine q9 a6C ?_;obtain⟨hg1,d⟩:=qG d;refine q9 a6C ?_ (hp:=by exact⟨id,hg1,sB⟩);refine qP ?_;cases d;exact pF []
attribute [irreducible] MH PB PC BY F0
end
noncomputable section
def T6 (O:Int) (Z:Int) (aA:sD) (aB:(pM×Unit)) (aC:pK):(List sH)→Option ((List sH)⊕(List sH)):=fun aD=>if (((decide (Z=(0:Int)))==true)=true→0≤(0:Int)∧(0:Int)<(aD.length:Int)) then if ((((decide (Z=(0:Int)))==true)&&((decide ((qQ sW aD (0:Int)).1=(1:Int)))==false))=true→0≤(0:Int)∧(0:Int)<(aD.length:Int)) then if (((((decide (Z=(0:Int)))==true)&&((decide ((qQ sW aD (0:Int)).1=(1:Int)))==false))&&((decide ((qQ sW aD (0:Int)).1=(3:Int)))==true))=true→0≤(0:Int)∧(0:Int)<(aD.length:Int)) then if (((((decide (Z=(0:Int)))==true)&&((decide ((qQ sW aD (0:Int)).1=(1:Int)))==false))&&((decide ((qQ sW aD (0:Int)).1=(3:Int)))==true))=true→(List.all ([32,9,10,13]:pD) fun b=>decide (b.toNat<128))=true∧List.length ([32,9,10,13]:pD)<4294967281) then if (((((decide (Z=(0:Int)))==true)&&((decide ((qQ sW aD (0:Int)).1=(1:Int)))==false))&&((decide ((qQ sW aD (0:Int)).1=(3:Int)))==true))=true→List.length (qQ sW aD (0:Int)).2.1≤9223372036854775807) then if ((decide (Z=(0:Int)))&&((decide ((qQ sW aD (0:Int)).1=(1:Int)))||((decide ((qQ sW aD (0:Int)).1=(3:Int)))&&(decide ((Lib.trimS ((qQ sW aD (0:Int)).2.1) ([32,9,10,13]:pD))=([]:pD))))))=true then (y7 aD O Z (aA.1,(aA.2.1,(aA.2.2.1,(aA.2.2.2.1,())))) (aB.1,()) aC).bind fun aE=>some (.inl aE) else some (.inr aD) else none else none else none else none else none
def AA (O:(List sH)) (Z:Int) (aA:Int) (aB:sD) (aC:(pM×Unit)) (aD:pK):Option (List sH):=sQ (rO (T6 Z aA aB aC aD) O) fun aE=>some (aE)
section
variable (O:(List sH)) (Z:Int) (aA:Int) (aB:sD) (aC:(pM×Unit)) (aD:Nat) (aE:Nat) (aF:pK)
abbrev a6D:List qC:=[(.val .ref (some (0,0)),none)]
abbrev a6E:List qB:=[.cells sX (O,(Z,(aA,(aB,((some 3),aC))))) [(6,1),(8,2)],.grow 53 7 aD,.grow 3 1 aE,.map .str .bool aF]
@[go_sem] def a6F:qI:=⟨[aD=(aB.2.2.2.1.length),aE=(aC.1.length),((AA O Z aA aB aC aF)).isSome=true],[],[.cells sX ((val (AA O Z aA aB aC aF)),(Z,(aA,((aB.1,(aB.2.1,(aB.2.2.1,(aB.2.2.2.1,())))),((some 3),(aC.1,())))))) [(6,1),(8,2)],.grow 53 7 (aB.2.2.2.1.length),.grow 3 1 (aC.1.length),.map .str .bool aF]⟩
def aG0:List qC→List qB→Option qI:=rM (V:=((List sH)×Int×Int×sD×(pM×Unit)×Nat×Nat×pK)) (fun x=>a6D) (fun x=>a6E x.1 x.2.1 x.2.2.1 x.2.2.2.1 x.2.2.2.2.1 x.2.2.2.2.2.1 x.2.2.2.2.2.2.1 x.2.2.2.2.2.2.2) fun x=>a6F x.1 x.2.1 x.2.2.1 x.2.2.2.1 x.2.2.2.2.1 x.2.2.2.2.2.1 x.2.2.2.2.2.2.1 x.2.2.2.2.2.2.2
@[go_sem] def aUq:aG0 (no_index a6D) (no_index (a6E O Z aA aB aC aD aE aF))=some (a6F O Z aA aB aC aD aE aF):=rQ (fun⟨a0,a1,a2,a3,a4,a5,a6,a7⟩ ⟨b0,b1,b2,b3,b4,b5,b6,b7⟩ h1 h2=>by cases h1;cases h2;rfl) (O,Z,aA,aB,aC,aD,aE,aF)
end
@[go_sem] abbrev PD:Nat×qW:=(52,⟨[.p sX [6,8]],aG0,[(0,7,.m)],[1,2,3],none⟩)
def a6G:rF Tryz.prog [wP,sJ,DM,CT,CV,AQ] (rG [LW,JV]):=⟨⟨xE,⟨sM,⟨G7,⟨HN,⟨ES,⟨G3,trivial⟩⟩⟩⟩⟩⟩,qK XX (qK MA rJ),rH⟩
def T7:r5 Tryz.prog PD:=by
 refine rR a6G Tryz.func52 (c:=_) rfl (N:=40) pU (ts:=[]) rfl (fun _ _=>rfl) ?_;intro⟨O,Z,aA,aB,aC,aD,aE,aF⟩ hs hrow;dsimp only[a6D,a6E,a6F,rI,qR,qZ,r8,rL,Nat.reduceAdd] at hs hrow|-;obtain⟨rfl,rfl,hz⟩:=hs;obtain⟨z0,f⟩:=aVt.1 hz
 try rw[rY f]
 clear hz;unfold AA at f;refine rP ?_;obtain⟨aG,hy1,f⟩:=qM f;refine tV 0 (fun s=>s=(fun x=>⟨[],[(0,.cells sX (x,(Z,(aA,((aB.1,(aB.2.1,(aB.2.2.1,(aB.2.2.2.1,())))),((some 3),(aC.1,())))))) [(6,1),(8,2)]),(1,.grow 53 7 (aB.2.2.2.1.length)),(2,.grow 3 1 (aC.1.length)),(3,.map .str .bool aF)],4,40,4⟩) aG) ?_ ?_
 .refine tP hy1 (fun x=>⟨[(0,(.val .ref (some (0,0)),none))],[(0,.cells sX (x,(Z,(aA,((aB.1,(aB.2.1,(aB.2.2.1,(aB.2.2.2.1,())))),((some 3),(aC.1,())))))) [(6,1),(8,2)]),(1,.grow 53 7 (aB.2.2.2.1.length)),(2,.grow 3 1 (aC.1.length)),(3,.map .str .bool aF)],4,40,4⟩) ⟨[0],[(0,0),(1,1),(2,2),(3,3)]⟩ pV ?_;intro aH w1 n1 e g;unfold T6 at e;dsimp only at e|-;refine qO ?_;obtain⟨hg1,e⟩:=qG e;obtain⟨hg2,e⟩:=qG e;obtain⟨hg3,e⟩:=qG e;obtain⟨hg4,e⟩:=qG e;obtain⟨hg5,e⟩:=qG e;refine q9 a6G ?_ (hp:=by exact⟨id,id,id,id,hg1,id,id,id,id,id,id,id,id,hg2,id,id,id,id,id,id,id,id,hg3,id,id,id,hg4,hg5,id,id,fun hG d=>OF hG d,id,fun hG d=>G1 hG d,sB⟩);refine qS e (fun e hc1=> ?_) (fun e hc1=> ?_)
  .refine r7 (qJ (rP ?_));obtain⟨aI,hv6,hw6,e⟩:=qV e
   try simp only[go_sem] at hw6
   refine rC a6G ?_ (hp:=by exact⟨pT,pT,pT,pT,pT,(qU hv6)⟩) (h:=by simp only[go_sem,hw6];rfl)
   refine rU ?_;cases e;exact sU ⟨⟨[0],[(0,0),(1,1),(2,2),(3,3)]⟩,_,by rfl,g⟩
  .refine tK (tJ (tN ?_));cases e;cases g;exact tM ⟨⟨[],[(0,0),(1,1),(2,2),(3,3)]⟩,by rfl⟩
 .rintro _ rfl;dsimp only at f|-;refine tU ?_;cases f;exact pF [(0,0),(1,1),(2,2),(3,3)]
def T8 (O:pD):Int→Option (Int⊕(Unit⊕Bool)):=fun Z=>if (decide (Z<(O.length:Int)))=true then if 0≤Z∧Z<(O.length:Int) then if ((((!((decide ((97:Int)≤(sF O Z)))&&(decide ((sF O Z)≤(122:Int)))))&&(!((decide ((48:Int)≤(sF O Z)))&&(decide ((sF O Z)≤(57:Int))))))&&(!decide ((sF O Z)=(45:Int))))&&((decide ((sF O Z)<(65:Int)))||(decide ((90:Int)<(sF O Z)))))=true then some (.inr (.inr (false))) else if qD (Z+(1:Int)) then some (.inl (Z+(1:Int))) else none else none else some (.inr (.inl ()))
def MJ (O:pD):Option Bool:=tY (rO (T8 O) (0:Int)) fun _=>some (((decide ((1:Int)≤(O.length:Int)))&&(decide ((O.length:Int)≤(40:Int)))))
section
variable (O:pD)
abbrev a6H:List qC:=[(.val .str O,none)]
abbrev a6I:List qB:=[]
@[go_sem] def a6J:qI:=⟨[((MJ O)).isSome=true],[(.val .bool (val (MJ O)),none)],[]⟩
def aG1:List qC→List qB→Option qI:=rM (V:=pD) (a6H) (fun x=>a6I) fun x=>a6J x
@[go_sem] def aUr:aG1 (no_index (a6H O)) (no_index a6I)=some (a6J O):=rQ (fun a0 b0 h1 h2=>by cases h1;cases h2;rfl) O
end
@[go_sem] abbrev aG2:Nat×qW:=(74,⟨[.v],aG1,[],[],none⟩)
def I1:rF Tryz.prog [sJ] (rG [a4e,a4j]):=⟨⟨sM,trivial⟩,qK aFH (qK aFK rJ),rH⟩
def aPi:r5 Tryz.prog aG2:=by
 refine rR I1 Tryz.func74 (c:=_) rfl (N:=42) pU (ts:=[(2,none)]) rfl (fun _ _=>rfl) ?_;intro O hs hrow;dsimp only[a6H,a6I,a6J,rI,qR,qZ,r8,rL,Nat.reduceAdd] at hs hrow|-;have hz:=hs;obtain⟨z0,f⟩:=aVt.1 hz
 try rw[rY f]
 clear hz hs;unfold MJ at f;refine q9 I1 ?_;refine qO ?_;refine q9 I1 ?_;refine rP ?_;obtain⟨y1,hy1,f⟩:=uV f;refine tV 0 (fun s=> ∃v,y1= .inl v∧s=(fun _=>⟨[(0,(.val .str O,none))],[],0,42,0⟩) v) ?_ ?_
 .refine tP hy1 (fun x=>⟨[(0,(.val .str O,none)),(3,(.val (.int .i64) x,none))],[],0,42,0⟩) ⟨[0,3],[]⟩ pV ?_;intro Z w1 n1 e g;unfold T8 at e;dsimp only at e|-;refine qO ?_;refine q9 I1 ?_;refine qS e (fun e hc1=> ?_) (fun e hc1=> ?_)
  .refine r7 (qJ (qO (rP ?_)));obtain⟨hg1,e⟩:=qG e;refine q9 I1 ?_ (hp:=by exact hg1);refine q9 I1 ?_ (hp:=by exact⟨id,id,sB,id,sB,id,id,id,id,fun hG d=>G1 hG d,sB⟩);refine qS e (fun e hc2=> ?_) (fun e hc2=> ?_)
   .refine q9 I1 ?_;refine qP (rT (rD (uX (uZ (rT (rD ?_))))));cases e;cases g;dsimp only at f;cases f;exact pF []
   .refine r7 (rU (qJ ?_));obtain⟨hg2,e⟩:=qG e;refine rC I1 ?_ (hp:=by exact hg2);cases e;exact sU ⟨⟨[0,3],[]⟩,_,by rfl,g⟩
  .refine tK (tJ (tN ?_));cases e;cases g;exact tM ⟨⟨[0],[]⟩,_,rfl,by rfl⟩
 .rintro _ ⟨v,rfl,rfl⟩;dsimp only at f|-;refine tU (qJ ?_);refine q9 I1 ?_ (hp:=by exact⟨id,id,sB⟩);refine qP ?_;cases f;exact pF []
attribute [irreducible] AA MJ
end
noncomputable section
def T9 (O:pD):Int→Option (Int⊕(Unit⊕Bool)):=fun Z=>if (decide (Z<(O.length:Int)))=true then if 0≤Z∧Z<(O.length:Int) then if (((((!((decide ((97:Int)≤(sF O Z)))&&(decide ((sF O Z)≤(122:Int)))))&&(!((decide ((48:Int)≤(sF O Z)))&&(decide ((sF O Z)≤(57:Int))))))&&(!decide ((sF O Z)=(45:Int))))&&(!decide ((sF O Z)=(95:Int))))&&(!decide ((sF O Z)=(46:Int))))=true then some (.inr (.inr (false))) else if qD (Z+(1:Int)) then some (.inl (Z+(1:Int))) else none else none else some (.inr (.inl ()))
def K2 (O:pD):Option Bool:=if ((((decide ((O.length:Int)<(1:Int)))||(decide ((40:Int)<(O.length:Int))))==false)=true→0≤(0:Int)∧(0:Int)<(O.length:Int)) then if (((decide ((O.length:Int)<(1:Int)))||(decide ((40:Int)<(O.length:Int))))||(!((decide ((97:Int)≤(sF O (0:Int))))&&(decide ((sF O (0:Int))≤(122:Int))))))=true then some (false) else tY (rO (T9 O) (1:Int)) fun _=>some (true) else none
section
variable (O:pD)
abbrev a6K:List qC:=[(.val .str O,none)]
abbrev a6L:List qB:=[]
@[go_sem] def a6M:qI:=⟨[((K2 O)).isSome=true],[(.val .bool (val (K2 O)),none)],[]⟩
def aG3:List qC→List qB→Option qI:=rM (V:=pD) (a6K) (fun x=>a6L) fun x=>a6M x
@[go_sem] def aUs:aG3 (no_index (a6K O)) (no_index a6L)=some (a6M O):=rQ (fun a0 b0 h1 h2=>by cases h1;cases h2;rfl) O
end
@[go_sem] abbrev a6N:Nat×qW:=(76,⟨[.v],aG3,[],[],none⟩)
def F1:rF Tryz.prog [sJ] (rG [a4e,a4j]):=⟨⟨sM,trivial⟩,qK aFH (qK aFK rJ),rH⟩
def aG4:r5 Tryz.prog a6N:=by
 refine rR F1 Tryz.func76 (c:=_) rfl (N:=48) pU (ts:=[(2,none)]) rfl (fun _ _=>rfl) ?_;intro O hs hrow;dsimp only[a6K,a6L,a6M,rI,qR,qZ,r8,rL,Nat.reduceAdd] at hs hrow|-;have hz:=hs;obtain⟨z0,d⟩:=aVt.1 hz
 try rw[rY d]
 clear hz hs;unfold K2 at d;refine q9 F1 ?_;refine qO ?_;obtain⟨hg1,d⟩:=qG d;refine q9 F1 ?_ (hp:=by exact⟨id,id,sP,id,hg1,id,id,sP⟩);refine qS d (fun d hc1=> ?_) (fun d hc1=> ?_)
 .refine q9 F1 ?_;refine qP (rD ?_);cases d;exact pF []
 .refine r7 (qJ (qO ?_));refine q9 F1 ?_;refine rP ?_;obtain⟨y1,hy1,d⟩:=uV d;refine tV 0 (fun s=> ∃v,y1= .inl v∧s=(fun _=>⟨[],[],0,48,0⟩) v) ?_ ?_
  .refine tP hy1 (fun x=>⟨[(0,(.val .str O,none)),(3,(.val (.int .i64) x,none))],[],0,48,0⟩) ⟨[0,3],[]⟩ pV ?_;intro Z w1 n1 e g;unfold T9 at e;dsimp only at e|-;refine qO ?_;refine q9 F1 ?_;refine qS e (fun e hc2=> ?_) (fun e hc2=> ?_)
   .refine r7 (qJ (qO (rP ?_)));obtain⟨hg2,e⟩:=qG e;refine q9 F1 ?_ (hp:=by exact hg2);refine q9 F1 ?_ (hp:=by exact⟨id,id,sB,id,sB,id,sB,id,sB⟩);refine qS e (fun e hc3=> ?_) (fun e hc3=> ?_)
    .refine q9 F1 ?_;refine qP (rT (rD (uX (uZ (rT (rD ?_))))));cases e;cases g;dsimp only at d;cases d;exact pF []
    .refine r7 (rU (qJ ?_));obtain⟨hg3,e⟩:=qG e;refine rC F1 ?_ (hp:=by exact hg3);cases e;exact sU ⟨⟨[0,3],[]⟩,_,by rfl,g⟩
   .refine tK (tJ (tN ?_));cases e;cases g;exact tM ⟨⟨[],[]⟩,_,rfl,by rfl⟩
  .rintro _ ⟨v,rfl,rfl⟩;dsimp only at d|-;refine tU (qJ ?_);refine q9 F1 ?_;refine qP ?_;cases d;exact pF []
def MK (O:r6):Option Bool:=if (decide (O.1=([105,100]:pD)))=true then some (((decide (O.2.1=([]:pD)))||(decide ((200:Int)<(O.2.1.length:Int))))) else if (decide (O.1=([115,116,97,116,101]:pD)))=true then (EW ([([110,101,119]:pD),([102,117,122,122,121]:pD),([116,114,97,110,115,108,97,116,101,100]:pD),([114,101,118,105,101,119,101,100]:pD),([111,98,115,111,108,101,116,101]:pD)]:pE) O.2.1).bind fun Z=>some ((!Z)) else (I0 O.2.1).bind fun aA=>some ((!aA))
section
variable (O:r6)
abbrev a6O:List qC:=[(.val (.pair .str (.pair .str .unit)) O,none)]
abbrev a6P:List qB:=[]
@[go_sem] def a6Q:qI:=⟨[((MK O)).isSome=true],[(.val .bool (val (MK O)),none)],[]⟩
def aG5:List qC→List qB→Option qI:=rM (V:=r6) (a6O) (fun x=>a6P) fun x=>a6Q x
@[go_sem] def aUt:aG5 (no_index (a6O O)) (no_index a6P)=some (a6Q O):=rQ (fun a0 b0 h1 h2=>by cases h1;cases h2;rfl) O
end
@[go_sem] abbrev aG6:Nat×qW:=(90,⟨[.v],aG5,[],[],none⟩)
def I2:rF Tryz.prog [sJ,BV] (rG [T2,YD,YF]):=⟨⟨sM,⟨DN,trivial⟩⟩,qK YE (qK a4p (qK a6k rJ)),rH⟩
def aPj:r5 Tryz.prog aG6:=by
 refine rR I2 Tryz.func90 (c:=_) rfl (N:=33) pU (ts:=[(2,none)]) rfl (fun _ _=>rfl) ?_;intro O hs hrow;dsimp only[a6O,a6P,a6Q,rI,qR,qZ,r8,rL,Nat.reduceAdd] at hs hrow|-;have hz:=hs;obtain⟨z0,d⟩:=aVt.1 hz
 try rw[rY d]
 clear hz hs;unfold MK at d;refine q9 I2 ?_;refine qO ?_;refine q9 I2 ?_;refine rP ?_;refine q9 I2 ?_;refine qS d (fun d hc1=> ?_) (fun d hc1=> ?_)
 .refine q9 I2 ?_ (hp:=by exact⟨id,id,id,sP⟩);refine qP (rT (rD ?_));cases d;exact pF []
 .refine q9 I2 ?_;refine qS d (fun d hc2=> ?_) (fun d hc2=> ?_)
  .obtain⟨Z,hv1,hw1,d⟩:=qV d
   try simp only[go_sem] at hw1
   refine vY I2 ?_ (hp:=by exact(qU hv1)) (h:=by simp only[go_sem,hw1];rfl);refine qP (rT (rD ?_));cases d;exact pF []
  .refine r7 (rU (qJ ?_));obtain⟨aA,hv2,hw2,d⟩:=qV d
   try simp only[go_sem] at hw2
   refine q9 I2 ?_ (hp:=by exact(qU hv2)) (h:=by simp only[go_sem,hw2];rfl);refine q9 I2 ?_;refine qP ?_;cases d;exact pF []
def a6R (O:Int) (Z:Int) (aA:Bool):Option pD:=if (decide (O=(4:Int)))=true then (aFY Z).bind fun aB=>some (aB) else if (decide (Z=(10:Int)))=true then some (([92,110]:pD)) else if (decide (Z=(13:Int)))=true then some (([92,114]:pD)) else if (decide (Z=(9:Int)))=true then some (([92,116]:pD)) else sQ (σ:=Bool) (if (decide (Z=(92:Int)))=true then some ((decide (Z=(92:Int)))) else if (((decide (O=(1:Int)))==true)=true→((P0 Z ([61,58,35,33]:pD))).isSome=true) then if ((decide (O=(1:Int)))&&(val (P0 Z ([61,58,35,33]:pD))))=true then some (((decide (O=(1:Int)))&&(val (P0 Z ([61,58,35,33]:pD))))) else if (((decide (O=(1:Int)))&&aA)&&(decide (Z=(32:Int))))=true then some ((((decide (O=(1:Int)))&&aA)&&(decide (Z=(32:Int))))) else if ((!decide (O=(1:Int)))&&(decide (Z=(34:Int))))=true then some (((!decide (O=(1:Int)))&&(decide (Z=(34:Int))))) else if (((decide (O=(3:Int)))==true)=true→((P0 Z ([123,125]:pD))).isSome=true) then some (((decide (O=(3:Int)))&&(val (P0 Z ([123,125]:pD))))) else none else none ) fun aC=>if aC=true then if ((([92]:pD)++(uA ([Z]:pM))).length:Int)≤9223372036854775807 then some ((([92]:pD)++(uA ([Z]:pM)))) else none else if (((decide (Z<(32:Int)))||(decide (Z=(127:Int))))&&(decide (O=(3:Int))))=true then if False then if ((([92,117,48,48]:pD)++(JK (IntKind.wrap .i64 Z))).length:Int)≤9223372036854775807 then some ((([92,117,48,48]:pD)++(JK (IntKind.wrap .i64 Z)))) else none else none else if ((decide (Z<(32:Int)))||(decide (Z=(127:Int))))=true then if False then if ((([92,120]:pD)++(JK (IntKind.wrap .i64 Z))).length:Int)≤9223372036854775807 then some ((([92,120]:pD)++(JK (IntKind.wrap .i64 Z)))) else none else none else some ((uA ([Z]:pM)))
def PE (O:pM):(pD×Int)→Option ((pD×Int)⊕pD):=fun(Z,aA)=>if (decide (aA<(O.length:Int)))=true then if 0≤aA∧aA<(O.length:Int) then if (((decide ((0:Int)≤(qQ (.int .i64) O aA)))&&(decide ((qQ (.int .i64) O aA)≤(1114111:Int))))&&((decide ((qQ (.int .i64) O aA)<(55296:Int)))||(decide ((57343:Int)<(qQ (.int .i64) O aA)))))=true then if 0≤aA∧aA<(O.length:Int) then (DQ (qQ (.int .i64) O aA)).bind fun aB=>if ((Z++aB).length:Int)≤9223372036854775807 then if qD (aA+(1:Int)) then some (.inl ((Z++aB),(aA+(1:Int)))) else none else none else none else (DQ (65533:Int)).bind fun aC=>if ((Z++aC).length:Int)≤9223372036854775807 then if qD (aA+(1:Int)) then some (.inl ((Z++aC),(aA+(1:Int)))) else none else none else none else some (.inr Z)
def ML (O:pM):Option pD:=sQ (rO (PE O) (([]:pD),(0:Int))) fun Z=>some (Z)
section
variable (O:pM)
abbrev a6S:List qC:=[(.val (.list (.int .i64)) O,none)]
abbrev a6T:List qB:=[]
@[go_sem] def a6U:qI:=⟨[((ML O)).isSome=true],[(.val .str (val (ML O)),none)],[]⟩
def aG7:List qC→List qB→Option qI:=rM (V:=pM) (a6S) (fun x=>a6T) fun x=>a6U x
@[go_sem] def aUu:aG7 (no_index (a6S O)) (no_index a6T)=some (a6U O):=rQ (fun a0 b0 h1 h2=>by cases h1;cases h2;rfl) O
end
@[go_sem] abbrev aG8:Nat×qW:=(106,⟨[.v],aG7,[],[],none⟩)
def F2:rF Tryz.prog [wP,G9] (rG [a4O,a4T]):=⟨⟨xE,⟨JO,trivial⟩⟩,qK aF1 (qK aF3 rJ),rH⟩
def aPk:r5 Tryz.prog aG8:=by
 refine rR F2 Tryz.func106 (c:=_) rfl (N:=27) pU (ts:=[(2,none)]) rfl (fun _ _=>rfl) ?_;intro O hs hrow;dsimp only[a6S,a6T,a6U,rI,qR,qZ,r8,rL,Nat.reduceAdd] at hs hrow|-;have hz:=hs;obtain⟨z0,d⟩:=aVt.1 hz
 try rw[rY d]
 clear hz hs;unfold ML at d;refine q9 F2 ?_;refine q9 F2 ?_;refine qO ?_;refine q9 F2 ?_;refine rP ?_;obtain⟨Z,hy1,d⟩:=qM d;refine tV 0 (fun s=>s=(fun x=>⟨[(3,(.val .str x,none))],[],0,27,0⟩) Z) ?_ ?_
 .refine tP hy1 (fun x=>⟨[(0,(.val (.list (.int .i64)) O,none)),(3,(.val .str x.1,none)),(4,(.val (.int .i64) x.2,none))],[],0,27,0⟩) ⟨[0,3,4],[]⟩ pV ?_;intro x1 w1 n1 e g;obtain⟨aA,aB⟩:=x1;unfold PE at e;dsimp only at e|-;refine qO ?_;refine q9 F2 ?_;refine qS e (fun e hc1=> ?_) (fun e hc1=> ?_)
  .refine r7 (qJ (qO (rP ?_)));obtain⟨hg1,e⟩:=qG e;refine q9 F2 ?_ (hp:=by exact hg1);refine qS e (fun e hc2=> ?_) (fun e hc2=> ?_)
   .obtain⟨hg2,e⟩:=qG e;obtain⟨aC,hv3,hw3,e⟩:=qV e
    try simp only[go_sem] at hw3
    obtain⟨hg4,e⟩:=qG e;refine rC F2 ?_ (hp:=by exact⟨hg2,qU hv3,hg4⟩) (h:=by simp only[go_sem,hw3];rfl);refine rU (qJ ?_);obtain⟨hg5,e⟩:=qG e;refine rC F2 ?_ (hp:=by exact hg5);cases e;exact sU ⟨⟨[0,3,4],[]⟩,_,by rfl,g⟩
   .obtain⟨aD,hv6,hw6,e⟩:=qV e
    try simp only[go_sem] at hw6
    obtain⟨hg7,e⟩:=qG e;refine rC F2 ?_ (hp:=by exact⟨qU hv6,hg7⟩) (h:=by simp only[go_sem,hw6];rfl);refine rU (qJ ?_);obtain⟨hg8,e⟩:=qG e;refine rC F2 ?_ (hp:=by exact hg8);cases e;exact sU ⟨⟨[0,3,4],[]⟩,_,by rfl,g⟩
  .refine tK (tJ (tN ?_));cases e;cases g;exact tM ⟨⟨[3],[]⟩,by rfl⟩
 .rintro _ rfl;dsimp only at d|-;refine tU (qJ ?_);refine q9 F2 ?_;refine qP ?_;cases d;exact pF []
def F3 (O:pD) (Z:pD):Option (pD×Bool):=(MB O Z).bind fun aA=>some ((aA.1,aA.2))
section
variable (O:pD) (Z:pD)
abbrev a6V:List qC:=[(.val .str O,none),(.val .str Z,none)]
abbrev a6W:List qB:=[]
@[go_sem] def a6X:qI:=⟨[((F3 O Z)).isSome=true],[(.val .str ((val (F3 O Z)).1),none),(.val .bool ((val (F3 O Z)).2),none)],[]⟩
def aG9:List qC→List qB→Option qI:=rM (V:=(pD×pD)) (fun x=>a6V x.1 x.2) (fun x=>a6W) fun x=>a6X x.1 x.2
@[go_sem] def aUv:aG9 (no_index (a6V O Z)) (no_index a6W)=some (a6X O Z):=rQ (fun⟨a0,a1⟩ ⟨b0,b1⟩ h1 h2=>by cases h1;cases h2;rfl) (O,Z)
end
@[go_sem] abbrev YK:Nat×qW:=(124,⟨[.v,.v],aG9,[],[],none⟩)
def a6Y:rF Tryz.prog [] (rG [aGa]):=⟨trivial,qK aOZ rJ,rH⟩
def a6Z:r5 Tryz.prog YK:=by
 refine rR a6Y Tryz.func124 (c:=_) rfl (N:=11) pU (ts:=[(4,none),(5,none)]) rfl (fun _ _=>rfl) ?_;intro⟨O,Z⟩ hs hrow;dsimp only[a6V,a6W,a6X,rI,qR,qZ,r8,rL,Nat.reduceAdd] at hs hrow|-;have hz:=hs;obtain⟨z0,d⟩:=aVt.1 hz
 try rw[rY d]
 clear hz hs;unfold F3 at d;refine q9 a6Y ?_;obtain⟨aA,hv1,hw1,d⟩:=qV d
 try simp only[go_sem] at hw1
 refine q9 a6Y ?_ (hp:=by exact(qU hv1)) (h:=by simp only[go_sem,hw1];rfl);refine qP ?_;cases d;exact pF []
attribute [irreducible] K2 MK a6R ML F3
end
noncomputable section
def PF:(pD×pM)→Option ((pD×pM)⊕pM):=fun(O,Z)=>if (decide ((0:Int)<(O.length:Int)))=true then (JW O).bind fun aA=>if (Z.length+([aA.1]:pM).length)*8≤140737488355328 then if 0≤aA.2∧aA.2≤(O.length:Int)∧(O.length:Int)≤(O.length:Int) then some (.inl ((sO O aA.2 (O.length:Int)),(Z++([aA.1]:pM)))) else none else none else some (.inr Z)
def K3 (O:pD):Option pM:=sQ (rO PF (O,([]:pM))) fun Z=>some (Z)
section
variable (O:pD)
abbrev a60:List qC:=[(.val .str O,none)]
abbrev a61:List qB:=[]
@[go_sem] def a62:qI:=⟨[((K3 O)).isSome=true],[(.val (.list (.int .i64)) (val (K3 O)),some 0)],[.grow 3 1 ((val (K3 O)).length)]⟩
def aHa:List qC→List qB→Option qI:=rM (V:=pD) (a60) (fun x=>a61) fun x=>a62 x
@[go_sem] def aUw:aHa (no_index (a60 O)) (no_index a61)=some (a62 O):=rQ (fun a0 b0 h1 h2=>by cases h1;cases h2;rfl) O
end
@[go_sem] abbrev aHb:Nat×qW:=(107,⟨[.v],aHa,[],[],none⟩)
def K4:rF Tryz.prog [sJ,G9] (rG [aF5]):=⟨⟨sM,⟨JO,trivial⟩⟩,qK aOX rJ,rH⟩
def aPl:r5 Tryz.prog aHb:=by
 refine rR K4 Tryz.func107 (c:=_) rfl (N:=22) pU (ts:=[(2,none)]) rfl (fun _ _=>rfl) ?_;intro O hs hrow;dsimp only[a60,a61,a62,rI,qR,qZ,r8,rL,Nat.reduceAdd] at hs hrow|-;have hz:=hs;obtain⟨z0,d⟩:=aVt.1 hz
 try rw[rY d]
 clear hz hs;unfold K3 at d;refine q9 K4 ?_;refine q9 K4 ?_;refine qO (rP ?_);obtain⟨Z,hy1,d⟩:=qM d;refine tV 0 (fun s=>s=(fun x=>⟨[(3,(.val (.list (.int .i64)) x,some 0))],[(0,.grow 3 1 (x.length))],1,22,0⟩) Z) ?_ ?_
 .refine tP hy1 (fun x=>⟨[(0,(.val .str x.1,none)),(3,(.val (.list (.int .i64)) x.2,some 0))],[(0,.grow 3 1 (x.2.length))],1,22,0⟩) ⟨[0,3],[(0,32)]⟩ pV ?_;intro x1 w1 n1 e g;obtain⟨aA,aB⟩:=x1;unfold PF at e;dsimp only at e|-;refine qO ?_;refine q9 K4 ?_;refine qS e (fun e hc1=> ?_) (fun e hc1=> ?_)
  .refine r7 (qJ (rP ?_));obtain⟨aC,hv1,hw1,e⟩:=qV e
   try simp only[go_sem] at hw1
   refine q9 K4 ?_ (hp:=by exact(qU hv1)) (h:=by simp only[go_sem,hw1];rfl);obtain⟨hg2,e⟩:=qG e;refine q9 K4 ?_ (hp:=by exact⟨pT,hg2⟩)
   obtain⟨hg3,e⟩:=qG e;refine rC K4 ?_ (hp:=by exact hg3);refine rU ?_;cases e;exact sU ⟨⟨[0,3],[(0,0)]⟩,_,by rfl,g⟩
  .refine tK (tJ (tN ?_));cases e;cases g;exact tM ⟨⟨[3],[(0,0)]⟩,by rfl⟩
 .rintro _ rfl;dsimp only at d|-;refine tU (qJ ?_);refine q9 K4 ?_;refine qP ?_;cases d;exact pF [(0,0)]
def K5 (O:Int):Option pD:=if (decide (O=(38:Int)))=true then some (([38,97,109,112,59]:pD)) else if (decide (O=(60:Int)))=true then some (([38,108,116,59]:pD)) else if (decide (O=(62:Int)))=true then some (([38,103,116,59]:pD)) else if (decide (O=(34:Int)))=true then some (([38,113,117,111,116,59]:pD)) else if ((decide (O<(32:Int)))||(decide (O=(127:Int))))=true then if-9223372036854775808≤(IntKind.wrap .i64 O)∧(IntKind.wrap .i64 O)≤9223372036854775807 then if ((([38,35]:pD)++(Lib.itoa (IntKind.wrap .i64 O))).length:Int)≤9223372036854775807 then if (((([38,35]:pD)++(Lib.itoa (IntKind.wrap .i64 O)))++([59]:pD)).length:Int)≤9223372036854775807 then some (((([38,35]:pD)++(Lib.itoa (IntKind.wrap .i64 O)))++([59]:pD))) else none else none else none else some ((uA ([O]:pM)))
section
variable (O:Int)
abbrev a63:List qC:=[(.val (.int .u8) O,none)]
abbrev a64:List qB:=[]
@[go_sem] def a65:qI:=⟨[((K5 O)).isSome=true],[(.val .str (val (K5 O)),none)],[]⟩
def aHc:List qC→List qB→Option qI:=rM (V:=Int) (a63) (fun x=>a64) fun x=>a65 x
@[go_sem] def aUx:aHc (no_index (a63 O)) (no_index a64)=some (a65 O):=rQ (fun a0 b0 h1 h2=>by cases h1;cases h2;rfl) O
end
@[go_sem] abbrev aHd:Nat×qW:=(140,⟨[.v],aHc,[],[],none⟩)
def BZ:rF Tryz.prog [wP,G5,sJ,EQ] (rG [a5a,OJ]):=⟨⟨xE,⟨JM,⟨sM,⟨HO,trivial⟩⟩⟩⟩,qK aGd (qK a2B rJ),rH⟩
def aPm:r5 Tryz.prog aHd:=by
 refine rR BZ Tryz.func140 (c:=_) rfl (N:=22) pU (ts:=[(2,none)]) rfl (fun _ _=>rfl) ?_;intro O hs hrow;dsimp only[a63,a64,a65,rI,qR,qZ,r8,rL,Nat.reduceAdd] at hs hrow|-;have hz:=hs;obtain⟨z0,d⟩:=aVt.1 hz
 try rw[rY d]
 clear hz hs;unfold K5 at d;refine q9 BZ ?_;refine qO ?_;refine q9 BZ ?_;refine rP ?_;refine q9 BZ ?_;refine qS d (fun d hc1=> ?_) (fun d hc1=> ?_)
 .refine q9 BZ ?_;refine qP (rT (rD ?_));cases d;exact pF []
 .refine q9 BZ ?_;refine qS d (fun d hc2=> ?_) (fun d hc2=> ?_)
  .refine q9 BZ ?_;refine qP (rT (rD ?_));cases d;exact pF []
  .refine q9 BZ ?_;refine qS d (fun d hc3=> ?_) (fun d hc3=> ?_)
   .refine q9 BZ ?_;refine qP (rT (rD ?_));cases d;exact pF []
   .refine q9 BZ ?_;refine qS d (fun d hc4=> ?_) (fun d hc4=> ?_)
    .refine q9 BZ ?_;refine qP (rT (rD ?_));cases d;exact pF []
    .refine r7 (rU (qJ (qO ?_)));refine q9 BZ ?_;refine qS d (fun d hc5=> ?_) (fun d hc5=> ?_)
     .obtain⟨hg1,d⟩:=qG d;obtain⟨hg2,d⟩:=qG d;obtain⟨hg3,d⟩:=qG d;refine q9 BZ ?_ (hp:=by exact⟨hg1,hg2,hg3⟩);refine qP (rD ?_);cases d;exact pF []
     .refine r7 (qJ ?_);refine q9 BZ ?_;refine qP ?_;cases d;exact pF []
def TA (O:Int) (Z:Int) (aA:Bool):Option pD:=sQ (σ:=pD) (if (decide (O=(1:Int)))=true then some (([61,58,35,33]:pD)) else if (decide (O=(2:Int)))=true then some (([34]:pD)) else if (decide (O=(3:Int)))=true then some (([34,123,125]:pD)) else some (([]:pD)) ) fun aB=>if (decide (Z=(92:Int)))=true then some (([92,92]:pD)) else if (decide (Z=(10:Int)))=true then some (([92,110]:pD)) else if (decide (Z=(13:Int)))=true then some (([92,114]:pD)) else if (decide (Z=(9:Int)))=true then some (([92,116]:pD)) else sQ (σ:=Bool) (if (decide ((0:Int)≤(vE aB Z)))=true then some ((decide ((0:Int)≤(vE aB Z)))) else some ((((decide (O=(1:Int)))&&aA)&&(decide (Z=(32:Int))))) ) fun aC=>if aC=true then if ((([92]:pD)++(uA ([Z]:pM))).length:Int)≤9223372036854775807 then some ((([92]:pD)++(uA ([Z]:pM)))) else none else if (((decide (Z<(32:Int)))||(decide (Z=(127:Int))))&&(decide (O=(3:Int))))=true then if False then if ((([92,117]:pD)++(SF Z (4:Int))).length:Int)≤9223372036854775807 then some ((([92,117]:pD)++(SF Z (4:Int)))) else none else none else if ((decide (Z<(32:Int)))||(decide (Z=(127:Int))))=true then if False then if ((([92,120]:pD)++(SF Z (2:Int))).length:Int)≤9223372036854775807 then some ((([92,120]:pD)++(SF Z (2:Int)))) else none else none else some ((uA ([Z]:pM)))
section
variable (O:Int) (Z:Int) (aA:Bool)
abbrev a66:List qC:=[(.val (.int .i64) O,none),(.val (.int .u8) Z,none),(.val .bool aA,none)]
abbrev a67:List qB:=[]
@[go_sem] def a68:qI:=⟨[((TA O Z aA)).isSome=true],[(.val .str (val (TA O Z aA)),none)],[]⟩
def aHe:List qC→List qB→Option qI:=rM (V:=(Int×Int×Bool)) (fun x=>a66 x.1 x.2.1 x.2.2) (fun x=>a67) fun x=>a68 x.1 x.2.1 x.2.2
@[go_sem] def aUy:aHe (no_index (a66 O Z aA)) (no_index a67)=some (a68 O Z aA):=rQ (fun⟨a0,a1,a2⟩ ⟨b0,b1,b2⟩ h1 h2=>by cases h1;cases h2;rfl) (O,Z,aA)
end
@[go_sem] abbrev aHf:Nat×qW:=(141,⟨[.v,.v,.v],aHe,[],[],none⟩)
def x5:rF Tryz.prog [G5,sJ,EQ] (rG [G4,a5a,OK]):=⟨⟨JM,⟨sM,⟨HO,trivial⟩⟩⟩,qK LV (qK aGd (qK a2C rJ)),rH⟩
def aPn:r5 Tryz.prog aHf:=by
 refine rR x5 Tryz.func141 (c:=_) rfl (N:=64) pU (ts:=[(6,none)]) rfl (fun _ _=>rfl) ?_;intro⟨O,Z,aA⟩ hs hrow;dsimp only[a66,a67,a68,rI,qR,qZ,r8,rL,Nat.reduceAdd] at hs hrow|-;have hz:=hs;obtain⟨z0,d⟩:=aVt.1 hz
 try rw[rY d]
 clear hz hs;unfold TA at d;refine q9 x5 ?_;refine q9 x5 ?_;refine qO ?_;refine q9 x5 ?_;obtain⟨aB,e,d⟩:=qM d;refine yM (fun s=>s=(fun x=>⟨[(0,(.val (.int .i64) O,none)),(1,(.val (.int .u8) Z,none)),(2,(.val .bool aA,none)),(7,(.val .str x,none))],[],0,64,0⟩) aB) ?_ ?_
 .refine rP ?_;refine q9 x5 ?_;refine qS e (fun e hc1=> ?_) (fun e hc1=> ?_)
  .refine rC x5 ?_;refine rU ?_;cases e;exact u6 ⟨⟨[0,1,2,7],[]⟩,by rfl⟩
  .refine q9 x5 ?_;refine qS e (fun e hc2=> ?_) (fun e hc2=> ?_)
   .refine rC x5 ?_;refine rU ?_;cases e;exact u6 ⟨⟨[0,1,2,7],[]⟩,by rfl⟩
   .refine q9 x5 ?_;refine qS e (fun e hc3=> ?_) (fun e hc3=> ?_)
    .refine rC x5 ?_;refine rU ?_;cases e;exact u6 ⟨⟨[0,1,2,7],[]⟩,by rfl⟩
    .refine r7 (rU ?_);cases e;exact u6 ⟨⟨[0,1,2,7],[]⟩,by rfl⟩
 .rintro _ rfl;dsimp only at d|-;refine qJ (qO (rP ?_));refine q9 x5 ?_;refine qS d (fun d hc4=> ?_) (fun d hc4=> ?_)
  .refine q9 x5 ?_;refine qP (rT (rD ?_));cases d;exact pF []
  .refine q9 x5 ?_;refine qS d (fun d hc5=> ?_) (fun d hc5=> ?_)
   .refine q9 x5 ?_;refine qP (rT (rD ?_));cases d;exact pF []
   .refine q9 x5 ?_;refine qS d (fun d hc6=> ?_) (fun d hc6=> ?_)
    .refine q9 x5 ?_;refine qP (rT (rD ?_));cases d;exact pF []
    .refine q9 x5 ?_;refine qS d (fun d hc7=> ?_) (fun d hc7=> ?_)
     .refine q9 x5 ?_;refine qP (rT (rD ?_));cases d;exact pF []
     .refine qO ?_;refine q9 x5 ?_;obtain⟨aC,e,d⟩:=qM d;refine yM (fun s=>s=(fun x=>⟨[(0,(.val (.int .i64) O,none)),(1,(.val (.int .u8) Z,none)),(27,(.val .bool x,none))],[],0,64,0⟩) aC) ?_ ?_
      .refine qS e (fun e hc8=> ?_) (fun e hc8=> ?_)
       .refine r7 ?_;cases e;exact u6 ⟨⟨[0,1,27],[]⟩,by rfl⟩
       .refine rC x5 ?_ (hp:=by exact⟨sB,id,sB⟩);cases e;exact u6 ⟨⟨[0,1,27],[]⟩,by rfl⟩
      .rintro _ rfl;dsimp only at d|-;refine qJ ?_;refine qS d (fun d hc9=> ?_) (fun d hc9=> ?_)
       .obtain⟨hg1,d⟩:=qG d;refine q9 x5 ?_ (hp:=by exact hg1);refine qP (rT (rD ?_));cases d;exact pF []
       .refine q9 x5 ?_ (hp:=by exact⟨id,sB⟩);refine qS d (fun d hc10=> ?_) (fun d hc10=> ?_)
        .obtain⟨hg2,d⟩:=qG d;obtain⟨hg3,d⟩:=qG d;refine q9 x5 ?_ (hp:=by exact⟨hg2,hg3⟩);refine qP (rT (rD ?_));cases d;exact pF []
        .refine q9 x5 ?_;refine qS d (fun d hc11=> ?_) (fun d hc11=> ?_)
         .obtain⟨hg4,d⟩:=qG d;obtain⟨hg5,d⟩:=qG d;refine q9 x5 ?_ (hp:=by exact⟨hg4,hg5⟩);refine qP (rT (rD ?_));cases d;exact pF []
         .refine r7 (rU (qJ ?_));refine q9 x5 ?_;refine qP ?_;cases d;exact pF []
def I3 (O:(List r6)) (Z:pD):Option Int:=(P3 O Z).bind fun aA=>some (aA)
section
variable (O:(List r6)) (Z:pD)
abbrev a69:List qC:=[(.val (.list (.pair .str (.pair .str .unit))) O,none),(.val .str Z,none)]
abbrev a7a:List qB:=[]
@[go_sem] def a7b:qI:=⟨[((I3 O Z)).isSome=true],[(.val (.int .i64) (val (I3 O Z)),none)],[]⟩
def aHg:List qC→List qB→Option qI:=rM (V:=((List r6)×pD)) (fun x=>a69 x.1 x.2) (fun x=>a7a) fun x=>a7b x.1 x.2
@[go_sem] def aUz:aHg (no_index (a69 O Z)) (no_index a7a)=some (a7b O Z):=rQ (fun⟨a0,a1⟩ ⟨b0,b1⟩ h1 h2=>by cases h1;cases h2;rfl) (O,Z)
end
@[go_sem] abbrev a7c:Nat×qW:=(155,⟨[.v,.v],aHg,[],[],none⟩)
def a7d:rF Tryz.prog [sJ] (rG [aGx]):=⟨⟨sM,trivial⟩,qK aO7 rJ,rH⟩
def aHh:r5 Tryz.prog a7c:=by
 refine rR a7d Tryz.func155 (c:=_) rfl (N:=8) pU (ts:=[(4,none)]) rfl (fun _ _=>rfl) ?_;intro⟨O,Z⟩ hs hrow;dsimp only[a69,a7a,a7b,rI,qR,qZ,r8,rL,Nat.reduceAdd] at hs hrow|-;have hz:=hs;obtain⟨z0,d⟩:=aVt.1 hz
 try rw[rY d]
 clear hz hs;unfold I3 at d;refine q9 a7d ?_;obtain⟨aA,hv1,hw1,d⟩:=qV d
 try simp only[go_sem] at hw1
 refine q9 a7d ?_ (hp:=by exact⟨pT,(qU hv1)⟩) (h:=by simp only[go_sem,hw1];rfl)
 refine qP ?_;cases d;exact pF []
def MM (O:pD) (Z:pD):Option (pD×Bool):=(SU O Z).bind fun aA=>if (!((decide ((Z.length:Int)≤(O.length:Int)))&&(decide ((sO O ((O.length:Int)- (Z.length:Int)) (O.length:Int))=Z))))=true then some ((O,false)) else if qD ((O.length:Int)- (Z.length:Int)) then if 0≤(0:Int)∧(0:Int)≤((O.length:Int)- (Z.length:Int))∧((O.length:Int)- (Z.length:Int))≤(O.length:Int) then some (((sO O (0:Int) ((O.length:Int)- (Z.length:Int))),true)) else none else none
section
variable (O:pD) (Z:pD)
abbrev a7e:List qC:=[(.val .str O,none),(.val .str Z,none)]
abbrev a7f:List qB:=[]
@[go_sem] def a7g:qI:=⟨[((MM O Z)).isSome=true],[(.val .str ((val (MM O Z)).1),none),(.val .bool ((val (MM O Z)).2),none)],[]⟩
def aHi:List qC→List qB→Option qI:=rM (V:=(pD×pD)) (fun x=>a7e x.1 x.2) (fun x=>a7f) fun x=>a7g x.1 x.2
@[go_sem] def aUA:aHi (no_index (a7e O Z)) (no_index a7f)=some (a7g O Z):=rQ (fun⟨a0,a1⟩ ⟨b0,b1⟩ h1 h2=>by cases h1;cases h2;rfl) (O,Z)
end
@[go_sem] abbrev aHj:Nat×qW:=(165,⟨[.v,.v],aHi,[],[],none⟩)
def TB:rF Tryz.prog [sJ] (rG [aGi]):=⟨⟨sM,trivial⟩,qK aO1 rJ,rH⟩
def aPo:r5 Tryz.prog aHj:=by
 refine rR TB Tryz.func165 (c:=_) rfl (N:=18) pU (ts:=[(4,none),(5,none)]) rfl (fun _ _=>rfl) ?_;intro⟨O,Z⟩ hs hrow;dsimp only[a7e,a7f,a7g,rI,qR,qZ,r8,rL,Nat.reduceAdd] at hs hrow|-;have hz:=hs;obtain⟨z0,d⟩:=aVt.1 hz
 try rw[rY d]
 clear hz hs;unfold MM at d;refine q9 TB ?_;refine qO ?_;obtain⟨aA,hv1,hw1,d⟩:=qV d
 try simp only[go_sem] at hw1
 refine q9 TB ?_ (hp:=by exact(qU hv1)) (h:=by simp only[go_sem,hw1];rfl);refine qS d (fun d hc1=> ?_) (fun d hc1=> ?_)
 .refine q9 TB ?_;refine qP (rD ?_);cases d;exact pF []
 .refine r7 (qJ ?_);obtain⟨hg2,d⟩:=qG d;obtain⟨hg3,d⟩:=qG d;refine q9 TB ?_ (hp:=by exact⟨hg2,hg3⟩);refine qP ?_;cases d;exact pF []
def I4 (O:pD) (Z:pD):Option (pD×pD×Bool):=(JX O Z).bind fun aA=>some ((aA.1,aA.2.1,aA.2.2))
section
variable (O:pD) (Z:pD)
abbrev a7h:List qC:=[(.val .str O,none),(.val .str Z,none)]
abbrev a7i:List qB:=[]
@[go_sem] def a7j:qI:=⟨[((I4 O Z)).isSome=true],[(.val .str ((val (I4 O Z)).1),none),(.val .str ((val (I4 O Z)).2.1),none),(.val .bool ((val (I4 O Z)).2.2),none)],[]⟩
def aHk:List qC→List qB→Option qI:=rM (V:=(pD×pD)) (fun x=>a7h x.1 x.2) (fun x=>a7i) fun x=>a7j x.1 x.2
@[go_sem] def aUB:aHk (no_index (a7h O Z)) (no_index a7i)=some (a7j O Z):=rQ (fun⟨a0,a1⟩ ⟨b0,b1⟩ h1 h2=>by cases h1;cases h2;rfl) (O,Z)
end
@[go_sem] abbrev aHl:Nat×qW:=(166,⟨[.v,.v],aHk,[],[],none⟩)
def a7k:rF Tryz.prog [] (rG [aGk]):=⟨trivial,qK aO2 rJ,rH⟩
def aPp:r5 Tryz.prog aHl:=by
 refine rR a7k Tryz.func166 (c:=_) rfl (N:=13) pU (ts:=[(4,none),(5,none),(6,none)]) rfl (fun _ _=>rfl) ?_;intro⟨O,Z⟩ hs hrow;dsimp only[a7h,a7i,a7j,rI,qR,qZ,r8,rL,Nat.reduceAdd] at hs hrow|-;have hz:=hs;obtain⟨z0,d⟩:=aVt.1 hz
 try rw[rY d]
 clear hz hs;unfold I4 at d;refine q9 a7k ?_;obtain⟨aA,hv1,hw1,d⟩:=qV d
 try simp only[go_sem] at hw1
 refine q9 a7k ?_ (hp:=by exact(qU hv1)) (h:=by simp only[go_sem,hw1];rfl);refine qP ?_;cases d;exact pF []
attribute [irreducible] K3 K5 TA I3 MM I4
end
noncomputable section
def K6 (O:pM) (Z:Int):Option pM:=if (decide ((IntKind.wrap .u32 Z)≤(127:Int)))=true then if (O.length+([(IntKind.wrap .u8 Z)]:pM).length)*1≤140737488355328 then some ((O++([(IntKind.wrap .u8 Z)]:pM))) else none else (ME O Z).bind fun aA=>some (aA)
section
variable (O:pM) (Z:Int) (aA:Nat)
abbrev a7l:List qC:=[(.val (.list (.int .u8)) O,some 0),(.val (.int .i32) Z,none)]
abbrev a7m:List qB:=[.grow 5 1 aA]
@[go_sem] def a7n:qI:=⟨[aA=(O.length),((K6 O Z)).isSome=true],[(.val (.list (.int .u8)) (val (K6 O Z)),some 0)],[.grow 5 1 ((val (K6 O Z)).length)]⟩
def aHm:List qC→List qB→Option qI:=rM (V:=(pM×Int×Nat)) (fun x=>a7l x.1 x.2.1) (fun x=>a7m x.2.2) fun x=>a7n x.1 x.2.1 x.2.2
@[go_sem] def aUC:aHm (no_index (a7l O Z)) (no_index (a7m aA))=some (a7n O Z aA):=rQ (fun⟨a0,a1,a2⟩ ⟨b0,b1,b2⟩ h1 h2=>by cases h1;cases h2;rfl) (O,Z,aA)
end
@[go_sem] abbrev aHn:Nat×qW:=(244,⟨[.own,.v],aHm,[],[],none⟩)
def TC:rF Tryz.prog [G5,SK,EQ,Y6] (rG [aGt]):=⟨⟨JM,⟨a3c,⟨HO,⟨aFd,trivial⟩⟩⟩⟩,qK aO6 rJ,rH⟩
def aPq:r5 Tryz.prog aHn:=by
 refine rR TC Tryz.func244 (c:=_) rfl (N:=16) pU (ts:=[(4,none)]) rfl (fun _ _=>rfl) ?_;intro⟨O,Z,aA⟩ hs hrow;dsimp only[a7l,a7m,a7n,rI,qR,qZ,r8,rL,Nat.reduceAdd] at hs hrow|-;obtain⟨rfl,hz⟩:=hs;obtain⟨z0,d⟩:=aVt.1 hz
 try rw[rY d]
 clear hz;unfold K6 at d;refine q9 TC ?_;refine qO ?_;refine q9 TC ?_;refine qS d (fun d hc1=> ?_) (fun d hc1=> ?_)
 .obtain⟨hg1,d⟩:=qG d;refine q9 TC ?_ (hp:=by exact⟨pT,hg1⟩)
  refine qP (rD ?_);cases d;exact pF [(0,0)]
 .refine r7 (qJ ?_);obtain⟨aB,hv2,hw2,d⟩:=qV d
  try simp only[go_sem] at hw2
  refine q9 TC ?_ (hp:=by exact⟨pT,(qU hv2)⟩) (h:=by simp only[go_sem,hw2];rfl)
  refine qP ?_;cases d;exact pF [(0,0)]
def I5 (O:(List r6)) (Z:pD) (aA:pD):Option (List r6):=(JZ O).bind fun aB=>(I3 aB Z).bind fun aC=>if (decide ((0:Int)≤aC))=true then if 0≤aC∧aC<(((aB.length):Nat):Int) then some ((List.set aB (Int.toNat aC) ((qQ (.pair .str (.pair .str .unit)) aB aC).1,(aA,(qQ (.pair .str (.pair .str .unit)) aB aC).2.2)))) else none else (P4 aB Z).bind fun aD=>if (decide (aD<(0:Int)))=true then if 0≤(((aB.length):Nat):Int)∧(((aB.length):Nat):Int)≤List.length aB then if (aB.length+([(Z,(aA,()))]:List r6).length)*32≤140737488355328 then some ((BU aB (((aB.length):Nat):Int) ([(Z,(aA,()))]:List r6))) else none else none else if 0≤aD∧aD≤List.length aB then if (aB.length+([(Z,(aA,()))]:List r6).length)*32≤140737488355328 then some ((BU aB aD ([(Z,(aA,()))]:List r6))) else none else none
section
variable (O:(List r6)) (Z:pD) (aA:pD)
abbrev a7o:List qC:=[(.val (.list (.pair .str (.pair .str .unit))) O,none),(.val .str Z,none),(.val .str aA,none)]
abbrev a7p:List qB:=[]
@[go_sem] def a7q:qI:=⟨[((I5 O Z aA)).isSome=true],[(.val (.list (.pair .str (.pair .str .unit))) (val (I5 O Z aA)),some 0)],[.grow 111 2 ((val (I5 O Z aA)).length)]⟩
def aHo:List qC→List qB→Option qI:=rM (V:=((List r6)×pD×pD)) (fun x=>a7o x.1 x.2.1 x.2.2) (fun x=>a7p) fun x=>a7q x.1 x.2.1 x.2.2
@[go_sem] def aUD:aHo (no_index (a7o O Z aA)) (no_index a7p)=some (a7q O Z aA):=rQ (fun⟨a0,a1,a2⟩ ⟨b0,b1,b2⟩ h1 h2=>by cases h1;cases h2;rfl) (O,Z,aA)
end
@[go_sem] abbrev a7r:Nat×qW:=(116,⟨[.v,.v,.v],aHo,[],[],none⟩)
def DS:rF Tryz.prog [sJ,Y7,CU] (rG [aGB,a7c,aGz,OO]):=⟨⟨sM,⟨aFe,⟨ER,trivial⟩⟩⟩,qK aO9 (qK aHh (qK aO8 (qK a2F rJ))),rH⟩
def aHp:r5 Tryz.prog a7r:=by
 refine rR DS Tryz.func116 (c:=_) rfl (N:=37) pU (ts:=[(6,none)]) rfl (fun _ _=>rfl) ?_;intro⟨O,Z,aA⟩ hs hrow;dsimp only[a7o,a7p,a7q,rI,qR,qZ,r8,rL,Nat.reduceAdd] at hs hrow|-;have hz:=hs;obtain⟨z0,d⟩:=aVt.1 hz
 try rw[rY d]
 clear hz hs;unfold I5 at d;refine q9 DS ?_;obtain⟨aB,hv1,hw1,d⟩:=qV d
 try simp only[go_sem] at hw1
 refine q9 DS ?_ (hp:=by exact(qU hv1)) (h:=by simp only[go_sem,hw1];rfl);refine qO ?_;obtain⟨aC,hv2,hw2,d⟩:=qV d
 try simp only[go_sem] at hw2
 refine q9 DS ?_ (hp:=by exact⟨fun _=>by first|exact rfl|exact trivial,(qU hv2)⟩) (h:=by simp only[go_sem,hw2];rfl)
 refine q9 DS ?_;refine qS d (fun d hc1=> ?_) (fun d hc1=> ?_)
 .obtain⟨hg3,d⟩:=qG d;refine q9 DS ?_ (hp:=by exact⟨hg3,pT⟩)
  refine q9 DS ?_;refine RW 96 rfl (by repeat' (first|exact trivial|apply And.intro|exact(fun _=>rfl) |exact(fun h=>absurd h pH))) ?_
  refine qP (rD ?_);cases d;exact pF [(0,96)]
 .refine r7 (qJ ?_);obtain⟨aD,hv4,hw4,d⟩:=qV d
  try simp only[go_sem] at hw4
  refine q9 DS ?_ (hp:=by exact⟨pT,fun _=>by first|exact rfl|exact trivial,(qU hv4)⟩) (h:=by simp only[go_sem,hw4];rfl)
  refine qO ?_;refine q9 DS ?_;refine qS d (fun d hc2=> ?_) (fun d hc2=> ?_)
  .refine rC DS ?_;refine qJ ?_;obtain⟨hg5,d⟩:=qG d;obtain⟨hg6,d⟩:=qG d;refine q9 DS ?_ (hp:=by exact⟨pT,hg5,hg6⟩)
   refine aEs ⟨[0,1,2,4,6,10,13,14,8,15,16,24,25,9,26,27,29,31,32,33,34,35,36],[(0,0),(32,32),(96,96),(800,800)]⟩ ?_;simp only[go_sem,Nat.max_def];refine RW 96 rfl (by repeat' (first|exact trivial|apply And.intro|exact(fun _=>rfl) |exact(fun h=>absurd h pH))) ?_
   refine qP ?_;cases d;exact pF [(0,96)]
  .refine r7 (qJ ?_);obtain⟨hg7,d⟩:=qG d;obtain⟨hg8,d⟩:=qG d;refine q9 DS ?_ (hp:=by exact⟨pT,hg7,hg8⟩)
   refine aEs ⟨[0,1,2,4,6,10,13,14,8,15,16,24,25,9,26,27,31,32,33,34,35,36],[(0,0),(32,32),(96,96),(704,704)]⟩ ?_;simp only[go_sem,Nat.max_def];refine RW 96 rfl (by repeat' (first|exact trivial|apply And.intro|exact(fun _=>rfl) |exact(fun h=>absurd h pH))) ?_
   refine qP ?_;cases d;exact pF [(0,96)]
def TD (O:(List r6)):Int→Option (Int⊕(Unit⊕Int)):=fun Z=>if (decide (Z<(O.length:Int)))=true then if 0≤Z∧Z<(O.length:Int) then (MK (qQ (.pair .str (.pair .str .unit)) O Z)).bind fun aA=>if aA=true then some (.inr (.inr (Z))) else if qD (Z+(1:Int)) then some (.inl (Z+(1:Int))) else none else none else some (.inr (.inl ()))
def PG (O:(List r6)):Option Int:=tY (rO (TD O) (0:Int)) fun _=>some ((-1:Int))
section
variable (O:(List r6))
abbrev a7s:List qC:=[(.val (.list (.pair .str (.pair .str .unit))) O,none),(.val .clo (some (90,[])),none)]
abbrev a7t:List qB:=[]
@[go_sem] def a7u:qI:=⟨[((PG O)).isSome=true],[(.val (.int .i64) (val (PG O)),none)],[]⟩
def aHq:List qC→List qB→Option qI:=rM (V:=(List r6)) (a7s) (fun x=>a7t) fun x=>a7u x
@[go_sem] def aUE:aHq (no_index (a7s O)) (no_index a7t)=some (a7u O):=rQ (fun a0 b0 h1 h2=>by cases h1;cases h2;rfl) O
end
@[go_sem] abbrev aHr:Nat×qW:=(136,⟨[.v,.v],aHq,[],[],none⟩)
def I7:rF Tryz.prog [CW,BV] (rG [aG6]):=⟨⟨ET,⟨DN,trivial⟩⟩,qK aPj rJ,rH⟩
def aPr:r5 Tryz.prog aHr:=by
 refine rR I7 Tryz.func136 (c:=_) rfl (N:=19) pU (ts:=[(4,none)]) rfl (fun _ _=>rfl) ?_;intro O hs hrow;dsimp only[a7s,a7t,a7u,rI,qR,qZ,r8,rL,Nat.reduceAdd] at hs hrow|-;have hz:=hs;obtain⟨z0,d⟩:=aVt.1 hz
 try rw[rY d]
 clear hz hs;unfold PG at d;refine q9 I7 ?_;refine qO ?_;refine q9 I7 ?_;refine rP ?_;obtain⟨y1,hy1,d⟩:=uV d;refine tV 0 (fun s=> ∃v,y1= .inl v∧s=(fun _=>⟨[],[],0,19,0⟩) v) ?_ ?_
 .refine tP hy1 (fun x=>⟨[(0,(.val (.list (.pair .str (.pair .str .unit))) O,none)),(1,(.val .clo (some (90,[])),none)),(7,(.val (.int .i64) (O.length:Int),none)),(8,(.val (.int .i64) x,none))],[],0,19,0⟩) ⟨[0,1,7,8],[]⟩ pV ?_;intro Z w1 n1 e g;unfold TD at e;dsimp only at e|-;refine q9 I7 ?_;refine qO ?_;refine qS e (fun e hc1=> ?_) (fun e hc1=> ?_)
  .refine r7 (qJ (qO (rP ?_)));refine q9 I7 ?_;obtain⟨hg1,e⟩:=qG e;obtain⟨aA,hv2,hw2,e⟩:=qV e
   try simp only[go_sem] at hw2
   refine q9 I7 ?_ (hp:=by exact⟨hg1,(qU hv2)⟩) (h:=by simp only[go_sem,hw2];rfl);refine qS e (fun e hc2=> ?_) (fun e hc2=> ?_)
   .refine q9 I7 ?_;refine qP (rT (rD (uX (uZ (rT (rD ?_))))));cases e;cases g;dsimp only at d;cases d;exact pF []
   .refine r7 (rU (qJ ?_));obtain⟨hg3,e⟩:=qG e;refine rC I7 ?_ (hp:=by exact hg3);cases e;exact sU ⟨⟨[0,1,7,8],[]⟩,_,by rfl,g⟩
  .refine tK (tJ (tN ?_));cases e;cases g;exact tM ⟨⟨[],[]⟩,_,rfl,by rfl⟩
 .rintro _ ⟨v,rfl,rfl⟩;dsimp only at d|-;refine tU (qJ ?_);refine q9 I7 ?_;refine qP ?_;cases d;exact pF []
def DT (O:(List r6)):Option Bool:=(PG O).bind fun Z=>some ((decide ((0:Int)≤Z)))
section
variable (O:(List r6))
abbrev a7v:List qC:=[(.val (.list (.pair .str (.pair .str .unit))) O,none),(.val .clo (some (90,[])),none)]
abbrev a7w:List qB:=[]
@[go_sem] def a7x:qI:=⟨[((DT O)).isSome=true],[(.val .bool (val (DT O)),none)],[]⟩
def aHs:List qC→List qB→Option qI:=rM (V:=(List r6)) (a7v) (fun x=>a7w) fun x=>a7x x
@[go_sem] def aUF:aHs (no_index (a7v O)) (no_index a7w)=some (a7x O):=rQ (fun a0 b0 h1 h2=>by cases h1;cases h2;rfl) O
end
@[go_sem] abbrev a7y:Nat×qW:=(89,⟨[.v,.v],aHs,[],[],none⟩)
def a7z:rF Tryz.prog [] (rG [aHr]):=⟨trivial,qK aPr rJ,rH⟩
def aHt:r5 Tryz.prog a7y:=by
 refine rR a7z Tryz.func89 (c:=_) rfl (N:=9) pU (ts:=[(4,none)]) rfl (fun _ _=>rfl) ?_;intro O hs hrow;dsimp only[a7v,a7w,a7x,rI,qR,qZ,r8,rL,Nat.reduceAdd] at hs hrow|-;have hz:=hs;obtain⟨z0,d⟩:=aVt.1 hz
 try rw[rY d]
 clear hz hs;unfold DT at d;refine q9 a7z ?_;obtain⟨Z,hv1,hw1,d⟩:=qV d
 try simp only[go_sem] at hw1
 refine q9 a7z ?_ (hp:=by exact(qU hv1)) (h:=by simp only[go_sem,hw1];rfl);refine qP ?_;cases d;exact pF []
def DU (O:sD) (Z:sD):Option Unit:=(PC O Z).bind fun aA=>if (((((decide (O.1=Z.1))&&(val (x4 O.2.1 Z.2.1)))&&(val (zJ O.2.2.1 Z.2.2.1)))==true)=true→((BY O.2.2.2.1 Z.2.2.2.1)).isSome=true) then some (()) else none
section
variable (O:sD) (Z:sD)
abbrev a7A:List qC:=[(.val xG O,none),(.val xG Z,none)]
abbrev a7B:List qB:=[]
@[go_sem] def a7C:qI:=⟨[((DU O Z)).isSome=true],[(.val .bool ((((decide (O.1=Z.1))&&(val (x4 O.2.1 Z.2.1)))&&(val (zJ O.2.2.1 Z.2.2.1)))&&(val (BY O.2.2.2.1 Z.2.2.2.1))),none)],[]⟩
def aHu:List qC→List qB→Option qI:=rM (V:=(sD×sD)) (fun x=>a7A x.1 x.2) (fun x=>a7B) fun x=>a7C x.1 x.2
@[go_sem] def aUG:aHu (no_index (a7A O Z)) (no_index a7B)=some (a7C O Z):=rQ (fun⟨a0,a1⟩ ⟨b0,b1⟩ h1 h2=>by cases h1;cases h2;rfl) (O,Z)
end
@[go_sem] abbrev aHv:Nat×qW:=(14,⟨[.v,.v],aHu,[],[],none⟩)
def a7D:rF Tryz.prog [DL,zQ] (rG [aGW,aGY]):=⟨⟨G6,⟨AS,trivial⟩⟩,qK aPg (qK aPh rJ),rH⟩
def aPs:r5 Tryz.prog aHv:=by
 refine rR a7D Tryz.func14 (c:=_) rfl (N:=15) pU (ts:=[(4,none)]) rfl (fun _ _=>rfl) ?_;intro⟨O,Z⟩ hs hrow;dsimp only[a7A,a7B,a7C,rI,qR,qZ,r8,rL,Nat.reduceAdd] at hs hrow|-;have hz:=hs;obtain⟨z0,d⟩:=aVt.1 hz
 try rw[rY d]
 clear hz hs;unfold DU at d;refine q9 a7D ?_;obtain⟨aA,hv1,hw1,d⟩:=qV d
 try simp only[go_sem] at hw1
 obtain⟨hg2,d⟩:=qG d;refine q9 a7D ?_ (hp:=by exact⟨qU hv1,id,id,id,id,hg2,sB⟩) (h:=by simp only[go_sem,hw1];rfl);refine qP ?_;cases d;exact pF []
attribute [irreducible] K6 I5 PG DT DU
end
noncomputable section
def MN (O:sD):Int→Option (Int⊕(Unit⊕Bool)):=fun Z=>if (decide (Z<(O.2.2.2.1.length:Int)))=true then if 0≤Z∧Z<(O.2.2.2.1.length:Int) then (PB (qQ s7 O.2.2.2.1 Z)).bind fun aA=>if (!((decide ((((((qQ s7 O.2.2.2.1 Z).1).length:Int)+(((qQ s7 O.2.2.2.1 Z).2.1).length:Int))+(((qQ s7 O.2.2.2.1 Z).2.2.1).length:Int))≤(6000:Int)))&&(decide (((val (zR ((qQ s7 O.2.2.2.1 Z).2.2.2.1) ((qQ s7 O.2.2.2.1 Z).2.2.2.2.2.2.1)))+(val (zR ((qQ s7 O.2.2.2.1 Z).2.2.2.2.1) ([]:List r6))))≤(6000:Int)))))=true then some (.inr (.inr (false))) else if qD (Z+(1:Int)) then some (.inl (Z+(1:Int))) else none else none else some (.inr (.inl ()))
def I8 (O:sD):Option Bool:=if (((decide ((100:Int)<(O.1.length:Int)))==false)=true→((zR O.2.1 O.2.2.1)).isSome=true) then if (((decide ((100:Int)<(O.1.length:Int)))||(decide ((6000:Int)<(val (zR O.2.1 O.2.2.1)))))||(decide ((12:Int)<(O.2.2.2.1.length:Int))))=true then some (false) else tY (rO (MN O) (0:Int)) fun _=>some (true) else none
section
variable (O:sD)
abbrev a7E:List qC:=[(.val xG O,none)]
abbrev a7F:List qB:=[]
@[go_sem] def a7G:qI:=⟨[((I8 O)).isSome=true],[(.val .bool (val (I8 O)),none)],[]⟩
def aHw:List qC→List qB→Option qI:=rM (V:=sD) (a7E) (fun x=>a7F) fun x=>a7G x
@[go_sem] def aUH:aHw (no_index (a7E O)) (no_index a7F)=some (a7G O):=rQ (fun a0 b0 h1 h2=>by cases h1;cases h2;rfl) O
end
@[go_sem] abbrev aHx:Nat×qW:=(15,⟨[.v],aHw,[],[],none⟩)
def GG:rF Tryz.prog [sJ,vU,xJ,DL,zQ,xI] (rG [a3u,aGU]):=⟨⟨sM,⟨w7,⟨y6,⟨G6,⟨AS,⟨y5,trivial⟩⟩⟩⟩⟩⟩,qK aFn (qK aPf rJ),rH⟩
def aPt:r5 Tryz.prog aHx:=by
 refine rR GG Tryz.func15 (c:=_) rfl (N:=36) pU (ts:=[(2,none)]) rfl (fun _ _=>rfl) ?_;intro O hs hrow;dsimp only[a7E,a7F,a7G,rI,qR,qZ,r8,rL,Nat.reduceAdd] at hs hrow|-;have hz:=hs;obtain⟨z0,f⟩:=aVt.1 hz
 try rw[rY f]
 clear hz hs;unfold I8 at f;refine q9 GG ?_;refine qO ?_;obtain⟨hg1,f⟩:=qG f;refine q9 GG ?_ (hp:=by exact⟨id,id,id,id,hg1,id,sP,id,id,id,sP⟩);refine qS f (fun f hc1=> ?_) (fun f hc1=> ?_)
 .refine q9 GG ?_;refine qP (rD ?_);cases f;exact pF []
 .refine r7 (qJ (qO ?_));refine q9 GG ?_;refine rP ?_;obtain⟨y1,hy1,f⟩:=uV f;refine tV 0 (fun s=> ∃v,y1= .inl v∧s=(fun _=>⟨[],[],0,36,0⟩) v) ?_ ?_
  .refine tP hy1 (fun x=>⟨[(1,(.val .ref (some (0,0)),none)),(3,(.val (.int .i64) x,none))],[(0,.cells xG O [])],1,36,0⟩) ⟨[1,3],[(0,0)]⟩ pV ?_;intro Z w1 n1 e g;unfold MN at e;dsimp only at e|-;refine qO ?_;refine q9 GG ?_;refine qS e (fun e hc2=> ?_) (fun e hc2=> ?_)
   .refine r7 (qJ (qO (rP ?_)));obtain⟨hg2,e⟩:=qG e;obtain⟨aA,hv3,hw3,e⟩:=qV e
    try simp only[go_sem] at hw3
    refine q9 GG ?_ (hp:=by exact⟨hg2,(qU hv3)⟩) (h:=by simp only[go_sem,hw3];rfl);refine qS e (fun e hc3=> ?_) (fun e hc3=> ?_)
    .refine q9 GG ?_;refine qP (rT (rD (uX (uZ (rT (rD ?_))))));cases e;cases g;dsimp only at f;cases f;exact pF []
    .refine r7 (rU (qJ ?_));obtain⟨hg4,e⟩:=qG e;refine rC GG ?_ (hp:=by exact hg4);cases e;exact sU ⟨⟨[1,3],[(0,0)]⟩,_,by rfl,g⟩
   .refine tK (tJ (tN ?_));cases e;cases g;exact tM ⟨⟨[],[]⟩,_,rfl,by rfl⟩
  .rintro _ ⟨v,rfl,rfl⟩;dsimp only at f|-;refine tU (qJ ?_);refine q9 GG ?_;refine qP ?_;cases f;exact pF []
def TF (O:pE):Int→Option (Int⊕(Unit⊕Bool)):=fun Z=>if (decide (Z<(O.length:Int)))=true then if 0≤Z∧Z<(O.length:Int) then (K2 (qQ .str O Z)).bind fun aA=>if ((((!aA)==false)&&((decide ((0:Int)<Z))==true))=true→0≤Z∧Z<(O.length:Int)) then if ((((!aA)==false)&&((decide ((0:Int)<Z))==true))=true→qD (Z- (1:Int))) then if ((((!aA)==false)&&((decide ((0:Int)<Z))==true))=true→0≤(Z- (1:Int))∧(Z- (1:Int))<(O.length:Int)) then if ((!aA)||((decide ((0:Int)<Z))&&(Op.bytesLess (qQ .str O Z) (qQ .str O (Z- (1:Int)))||decide ((qQ .str O Z)=(qQ .str O (Z- (1:Int)))))))=true then some (.inr (.inr (false))) else if qD (Z+(1:Int)) then some (.inl (Z+(1:Int))) else none else none else none else none else none else some (.inr (.inl ()))
def F4 (O:pE):Option Bool:=tY (rO (TF O) (0:Int)) fun _=>some ((decide ((O.length:Int)≤(20:Int))))
section
variable (O:pE)
abbrev a7H:List qC:=[(.val (.list .str) O,none)]
abbrev a7I:List qB:=[]
@[go_sem] def a7J:qI:=⟨[((F4 O)).isSome=true],[(.val .bool (val (F4 O)),none)],[]⟩
def aHy:List qC→List qB→Option qI:=rM (V:=pE) (a7H) (fun x=>a7I) fun x=>a7J x
@[go_sem] def aUI:aHy (no_index (a7H O)) (no_index a7I)=some (a7J O):=rQ (fun a0 b0 h1 h2=>by cases h1;cases h2;rfl) O
end
@[go_sem] abbrev aHz:Nat×qW:=(47,⟨[.v],aHy,[],[],none⟩)
def K7:rF Tryz.prog [sJ,vU] (rG [a6N]):=⟨⟨sM,⟨w7,trivial⟩⟩,qK aG4 rJ,rH⟩
def aPu:r5 Tryz.prog aHz:=by
 refine rR K7 Tryz.func47 (c:=_) rfl (N:=35) pU (ts:=[(2,none)]) rfl (fun _ _=>rfl) ?_;intro O hs hrow;dsimp only[a7H,a7I,a7J,rI,qR,qZ,r8,rL,Nat.reduceAdd] at hs hrow|-;have hz:=hs;obtain⟨z0,f⟩:=aVt.1 hz
 try rw[rY f]
 clear hz hs;unfold F4 at f;refine q9 K7 ?_;refine qO ?_;refine q9 K7 ?_;refine rP ?_;obtain⟨y1,hy1,f⟩:=uV f;refine tV 0 (fun s=> ∃v,y1= .inl v∧s=(fun _=>⟨[(0,(.val (.list .str) O,none))],[],0,35,0⟩) v) ?_ ?_
 .refine tP hy1 (fun x=>⟨[(0,(.val (.list .str) O,none)),(3,(.val (.int .i64) x,none))],[],0,35,0⟩) ⟨[0,3],[]⟩ pV ?_;intro Z w1 n1 e g;unfold TF at e;dsimp only at e|-;refine qO ?_;refine q9 K7 ?_;refine qS e (fun e hc1=> ?_) (fun e hc1=> ?_)
  .refine r7 (qJ (qO (rP ?_)));obtain⟨hg1,e⟩:=qG e;obtain⟨aA,hv2,hw2,e⟩:=qV e
   try simp only[go_sem] at hw2
   obtain⟨hg3,e⟩:=qG e;obtain⟨hg4,e⟩:=qG e;obtain⟨hg5,e⟩:=qG e;refine vY K7 ?_ (hp:=by exact⟨hg1,qU hv2,id,id,id,id,hg3,id,id,hg4,id,id,hg5,id,id,id,id,fun hG d=>OF hG d,sP⟩) (h:=by simp only[go_sem,hw2];rfl);refine qS e (fun e hc2=> ?_) (fun e hc2=> ?_)
   .refine q9 K7 ?_;refine qP (rT (rD (uX (uZ (rT (rD ?_))))));cases e;cases g;dsimp only at f;cases f;exact pF []
   .refine r7 (rU (qJ ?_));obtain⟨hg6,e⟩:=qG e;refine rC K7 ?_ (hp:=by exact hg6);cases e;exact sU ⟨⟨[0,3],[]⟩,_,by rfl,g⟩
  .refine tK (tJ (tN ?_));cases e;cases g;exact tM ⟨⟨[0],[]⟩,_,rfl,by rfl⟩
 .rintro _ ⟨v,rfl,rfl⟩;dsimp only at f|-;refine tU (qJ ?_);refine q9 K7 ?_;refine qP ?_;cases f;exact pF []
def TG (O:(List r6)):Int→Option (Int⊕(Unit⊕Bool)):=fun Z=>if (decide (Z<(O.length:Int)))=true then if 0≤Z∧Z<(O.length:Int) then (CY ((qQ (.pair .str (.pair .str .unit)) O Z).1)).bind fun aA=>if (((!aA)==false)=true→((F0 ((qQ (.pair .str (.pair .str .unit)) O Z).2.1))).isSome=true) then if (((((!aA)||(!((decide ((((qQ (.pair .str (.pair .str .unit)) O Z).2.1).length:Int)≤(4000:Int)))&&(Lib.validD ((qQ (.pair .str (.pair .str .unit)) O Z).2.1)))))==false)&&((decide ((0:Int)<Z))==true))=true→qD (Z- (1:Int))) then if (((((!aA)||(!((decide ((((qQ (.pair .str (.pair .str .unit)) O Z).2.1).length:Int)≤(4000:Int)))&&(Lib.validD ((qQ (.pair .str (.pair .str .unit)) O Z).2.1)))))==false)&&((decide ((0:Int)<Z))==true))=true→0≤(Z- (1:Int))∧(Z- (1:Int))<(O.length:Int)) then if (((!aA)||(!((decide ((((qQ (.pair .str (.pair .str .unit)) O Z).2.1).length:Int)≤(4000:Int)))&&(Lib.validD ((qQ (.pair .str (.pair .str .unit)) O Z).2.1)))))||((decide ((0:Int)<Z))&&(!Op.bytesLess (qQ (.pair .str (.pair .str .unit)) O (Z- (1:Int))).1 (qQ (.pair .str (.pair .str .unit)) O Z).1)))=true then some (.inr (.inr (false))) else if qD (Z+(1:Int)) then some (.inl (Z+(1:Int))) else none else none else none else none else none else some (.inr (.inl ()))
def GH (O:(List r6)):Option Bool:=tY (rO (TG O) (0:Int)) fun _=>some ((decide ((O.length:Int)≤(20:Int))))
section
variable (O:(List r6))
abbrev a7K:List qC:=[(.val (.list (.pair .str (.pair .str .unit))) O,none)]
abbrev a7L:List qB:=[]
@[go_sem] def a7M:qI:=⟨[((GH O)).isSome=true],[(.val .bool (val (GH O)),none)],[]⟩
def aHA:List qC→List qB→Option qI:=rM (V:=(List r6)) (a7K) (fun x=>a7L) fun x=>a7M x
@[go_sem] def aUJ:aHA (no_index (a7K O)) (no_index a7L)=some (a7M O):=rQ (fun a0 b0 h1 h2=>by cases h1;cases h2;rfl) O
end
@[go_sem] abbrev a7N:Nat×qW:=(65,⟨[.v],aHA,[],[],none⟩)
def I9:rF Tryz.prog [sJ,xJ,CU] (rG [OX,T5]):=⟨⟨sM,⟨y6,⟨ER,trivial⟩⟩⟩,qK SP (qK YJ rJ),rH⟩
def aHB:r5 Tryz.prog a7N:=by
 refine rR I9 Tryz.func65 (c:=_) rfl (N:=41) pU (ts:=[(2,none)]) rfl (fun _ _=>rfl) ?_;intro O hs hrow;dsimp only[a7K,a7L,a7M,rI,qR,qZ,r8,rL,Nat.reduceAdd] at hs hrow|-;have hz:=hs;obtain⟨z0,f⟩:=aVt.1 hz
 try rw[rY f]
 clear hz hs;unfold GH at f;refine q9 I9 ?_;refine qO ?_;refine q9 I9 ?_;refine rP ?_;obtain⟨y1,hy1,f⟩:=uV f;refine tV 0 (fun s=> ∃v,y1= .inl v∧s=(fun _=>⟨[(0,(.val (.list (.pair .str (.pair .str .unit))) O,none))],[],0,41,0⟩) v) ?_ ?_
 .refine tP hy1 (fun x=>⟨[(0,(.val (.list (.pair .str (.pair .str .unit))) O,none)),(5,(.val (.list (.pair .str (.pair .str .unit))) O,none)),(6,(.val (.int .i64) (O.length:Int),none)),(7,(.val (.int .i64) x,none))],[],0,41,0⟩) ⟨[0,5,6,7],[]⟩ pV ?_;intro Z w1 n1 e g;unfold TG at e;dsimp only at e|-;refine q9 I9 ?_;refine qO ?_;refine qS e (fun e hc1=> ?_) (fun e hc1=> ?_)
  .refine r7 (qJ (qO (rP ?_)));obtain⟨hg1,e⟩:=qG e;refine q9 I9 ?_ (hp:=by exact hg1);obtain⟨aA,hv2,hw2,e⟩:=qV e
   try simp only[go_sem] at hw2
   obtain⟨hg3,e⟩:=qG e;obtain⟨hg4,e⟩:=qG e;obtain⟨hg5,e⟩:=qG e;refine vY I9 ?_ (hp:=by exact⟨qU hv2,id,id,hg3,id,sP,id,id,id,hg4,id,id,hg5,id,id,id,id,id,id,fun hG d=>OF hG d,sP⟩) (h:=by simp only[go_sem,hw2];rfl);refine qS e (fun e hc2=> ?_) (fun e hc2=> ?_)
   .refine q9 I9 ?_;refine qP (rT (rD (uX (uZ (rT (rD ?_))))));cases e;cases g;dsimp only at f;cases f;exact pF []
   .refine r7 (rU (qJ ?_));obtain⟨hg6,e⟩:=qG e;refine rC I9 ?_ (hp:=by exact hg6);cases e;exact sU ⟨⟨[0,5,6,7],[]⟩,_,by rfl,g⟩
  .refine tK (tJ (tN ?_));cases e;cases g;exact tM ⟨⟨[0],[]⟩,_,rfl,by rfl⟩
 .rintro _ ⟨v,rfl,rfl⟩;dsimp only at f|-;refine tU (qJ ?_);refine q9 I9 ?_;refine qP ?_;cases f;exact pF []
def vH (O:pD):Option Bool:=(K3 O).bind fun Z=>(ML Z).bind fun aA=>some ((decide (aA=O)))
section
variable (O:pD)
abbrev a7O:List qC:=[(.val .str O,none)]
abbrev a7P:List qB:=[]
@[go_sem] def a7Q:qI:=⟨[((vH O)).isSome=true],[(.val .bool (val (vH O)),none)],[]⟩
def aHC:List qC→List qB→Option qI:=rM (V:=pD) (a7O) (fun x=>a7P) fun x=>a7Q x
@[go_sem] def aUK:aHC (no_index (a7O O)) (no_index a7P)=some (a7Q O):=rQ (fun a0 b0 h1 h2=>by cases h1;cases h2;rfl) O
end
@[go_sem] abbrev aHD:Nat×qW:=(75,⟨[.v],aHC,[],[],none⟩)
def a7R:rF Tryz.prog [] (rG [aHb,aG8]):=⟨trivial,qK aPl (qK aPk rJ),rH⟩
def aPv:r5 Tryz.prog aHD:=by
 refine rR a7R Tryz.func75 (c:=_) rfl (N:=8) pU (ts:=[(2,none)]) rfl (fun _ _=>rfl) ?_;intro O hs hrow;dsimp only[a7O,a7P,a7Q,rI,qR,qZ,r8,rL,Nat.reduceAdd] at hs hrow|-;have hz:=hs;obtain⟨z0,f⟩:=aVt.1 hz
 try rw[rY f]
 clear hz hs;unfold vH at f;refine q9 a7R ?_;obtain⟨Z,hv1,hw1,f⟩:=qV f
 try simp only[go_sem] at hw1
 obtain⟨aA,hv2,hw2,f⟩:=qV f
 try simp only[go_sem] at hw2
 refine q9 a7R ?_ (hp:=by exact⟨qU hv1,(qU hv2)⟩) (h:=by simp only[go_sem,hw1,hw2];rfl);refine qP ?_;cases f;exact pF []
def TH (O:pD):Option Unit:=(F0 O).bind fun Z=>some (())
section
variable (O:pD)
abbrev a7S:List qC:=[(.val .str O,none)]
abbrev a7T:List qB:=[]
@[go_sem] def a7U:qI:=⟨[((TH O)).isSome=true],[(.val .bool (!((decide ((O.length:Int)≤(4000:Int)))&&(Lib.validD O))),none)],[]⟩
def aHE:List qC→List qB→Option qI:=rM (V:=pD) (a7S) (fun x=>a7T) fun x=>a7U x
@[go_sem] def aUL:aHE (no_index (a7S O)) (no_index a7T)=some (a7U O):=rQ (fun a0 b0 h1 h2=>by cases h1;cases h2;rfl) O
end
@[go_sem] abbrev aHF:Nat×qW:=(96,⟨[.v],aHE,[],[],none⟩)
def a7V:rF Tryz.prog [] (rG [T5]):=⟨trivial,qK YJ rJ,rH⟩
def aPw:r5 Tryz.prog aHF:=by
 refine rR a7V Tryz.func96 (c:=_) rfl (N:=6) pU (ts:=[(2,none)]) rfl (fun _ _=>rfl) ?_;intro O hs hrow;dsimp only[a7S,a7T,a7U,rI,qR,qZ,r8,rL,Nat.reduceAdd] at hs hrow|-;have hz:=hs;obtain⟨z0,f⟩:=aVt.1 hz
 try rw[rY f]
 clear hz hs;unfold TH at f;refine q9 a7V ?_;obtain⟨Z,hv1,hw1,f⟩:=qV f
 try simp only[go_sem] at hw1
 refine q9 a7V ?_ (hp:=by exact(qU hv1)) (h:=by simp only[go_sem,hw1];rfl);refine qP ?_;cases f;exact pF []
attribute [irreducible] I8 F4 GH vH TH
end
noncomputable section
def TJ (O:Int) (Z:pD):(Int×pM)→Option ((Int×pM)⊕pM):=fun(aA,aB)=>if (decide (aA<(Z.length:Int)))=true then if (decide (O=(4:Int)))=true then if 0≤aA∧aA<(Z.length:Int) then (K5 (sF Z aA)).bind fun aC=>(DO (aB,()) aC).bind fun aD=>if qD (aA+(1:Int)) then some (.inl ((aA+(1:Int)),(aB++uY aC))) else none else none else if 0≤aA∧aA<(Z.length:Int) then (TA O (sF Z aA) (decide (aA=(0:Int)))).bind fun aE=>(DO (aB,()) aE).bind fun aF=>if qD (aA+(1:Int)) then some (.inl ((aA+(1:Int)),(aB++uY aE))) else none else none else some (.inr aB)
def MO (O:Int) (Z:pD):Option pD:=if (!((decide ((1:Int)≤O))&&(decide (O≤(4:Int)))))=true then some (([]:pD)) else sQ (rO (TJ O Z) ((0:Int),([]:pM))) fun aA=>some ((uA aA))
section
variable (O:Int) (Z:pD)
abbrev a7W:List qC:=[(.val (.int .i64) O,none),(.val .str Z,none)]
abbrev a7X:List qB:=[]
@[go_sem] def a7Y:qI:=⟨[((MO O Z)).isSome=true],[(.val .str (val (MO O Z)),none)],[]⟩
def aHG:List qC→List qB→Option qI:=rM (V:=(Int×pD)) (fun x=>a7W x.1 x.2) (fun x=>a7X) fun x=>a7Y x.1 x.2
@[go_sem] def aUM:aHG (no_index (a7W O Z)) (no_index a7X)=some (a7Y O Z):=rQ (fun⟨a0,a1⟩ ⟨b0,b1⟩ h1 h2=>by cases h1;cases h2;rfl) (O,Z)
end
@[go_sem] abbrev aHH:Nat×qW:=(100,⟨[.v,.v],aHG,[],[],none⟩)
def C0:rF Tryz.prog [sJ,HP] (rG [a4J,aHd,Y8,aHf,HM]):=⟨⟨sM,⟨M6,trivial⟩⟩,qK aFX (qK aPm (qK a3q (qK aPn (qK OL rJ)))),rH⟩
def aPx:r5 Tryz.prog aHH:=by
 refine rR C0 Tryz.func100 (c:=_) rfl (N:=32) pU (ts:=[(4,none)]) rfl (fun _ _=>rfl) ?_;intro⟨O,Z⟩ hs hrow;dsimp only[a7W,a7X,a7Y,rI,qR,qZ,r8,rL,Nat.reduceAdd] at hs hrow|-;have hz:=hs;obtain⟨z0,d⟩:=aVt.1 hz
 try rw[rY d]
 clear hz hs;unfold MO at d;refine q9 C0 ?_;refine qO ?_;refine q9 C0 ?_;refine qS d (fun d hc1=> ?_) (fun d hc1=> ?_)
 .refine q9 C0 ?_;refine qP (rD ?_);cases d;exact pF []
 .refine r7 (qJ ?_);refine q9 C0 ?_;refine qO ?_;refine q9 C0 ?_;refine rP ?_;obtain⟨aA,hy1,d⟩:=qM d;refine tV 0 (fun s=>s=(fun x=>⟨[(5,(.val .ref (some (0,0)),none))],[(0,.cells wO ((some (0,0)),(x,())) [(1,1)]),(1,.grow 5 1 (x.length))],2,32,0⟩) aA) ?_ ?_
  .refine tP hy1 (fun x=>⟨[(0,(.val (.int .i64) O,none)),(1,(.val .str Z,none)),(5,(.val .ref (some (0,0)),none)),(11,(.val (.int .i64) (Z.length:Int),none)),(12,(.val (.int .i64) x.1,none))],[(0,.cells wO ((some (0,0)),(x.2,())) [(1,1)]),(1,.grow 5 1 (x.2.length))],2,32,0⟩) ⟨[0,1,5,11,12],[(0,128),(1,129)]⟩ pV ?_;intro x1 w1 n1 e f;obtain⟨aB,aC⟩:=x1;unfold TJ at e;dsimp only at e|-;refine q9 C0 ?_;refine qO ?_;refine qS e (fun e hc2=> ?_) (fun e hc2=> ?_)
   .refine r7 (qJ (qO (rP ?_)));refine q9 C0 ?_;refine q9 C0 ?_;refine qS e (fun e hc3=> ?_) (fun e hc3=> ?_)
    .obtain⟨hg1,e⟩:=qG e;obtain⟨aD,hv2,hw2,e⟩:=qV e
     try simp only[go_sem] at hw2
     obtain⟨aE,hv3,hw3,e⟩:=qV e
     try simp only[go_sem] at hw3
     refine rC C0 ?_ (hp:=by exact⟨hg1,qU hv2,pT,(qU hv3)⟩) (h:=by simp only[go_sem,hw2,hw3];rfl)
     refine rU (qJ ?_);obtain⟨hg4,e⟩:=qG e;refine rC C0 ?_ (hp:=by exact hg4);cases e;exact sU ⟨⟨[0,1,5,11,12],[(0,0),(1,1)]⟩,_,by rfl,f⟩
    .obtain⟨hg5,e⟩:=qG e;obtain⟨aF,hv6,hw6,e⟩:=qV e
     try simp only[go_sem] at hw6
     obtain⟨aG,hv7,hw7,e⟩:=qV e
     try simp only[go_sem] at hw7
     refine rC C0 ?_ (hp:=by exact⟨hg5,qU hv6,pT,(qU hv7)⟩) (h:=by simp only[go_sem,hw6,hw7];rfl)
     refine rU (qJ ?_);obtain⟨hg8,e⟩:=qG e;refine rC C0 ?_ (hp:=by exact hg8);cases e;exact sU ⟨⟨[0,1,5,11,12],[(0,0),(1,1)]⟩,_,by rfl,f⟩
   .refine tK (tJ (tN ?_));cases e;cases f;exact tM ⟨⟨[5],[(0,0),(1,1)]⟩,by rfl⟩
  .rintro _ rfl;dsimp only at d|-;refine tU (qJ ?_);refine q9 C0 ?_ (hp:=by first|rfl|trivial)
   refine qP ?_;cases d;exact pF []
def IA (O:(List r6)) (Z:pD):Option (pD×Bool):=(I3 O Z).bind fun aA=>if (decide (aA<(0:Int)))=true then some ((([]:pD),false)) else if 0≤aA∧aA<(O.length:Int) then some (((qQ (.pair .str (.pair .str .unit)) O aA).2.1,true)) else none
section
variable (O:(List r6)) (Z:pD)
abbrev a7Z:List qC:=[(.val (.list (.pair .str (.pair .str .unit))) O,none),(.val .str Z,none)]
abbrev a71:List qB:=[]
@[go_sem] def a73:qI:=⟨[((IA O Z)).isSome=true],[(.val .str ((val (IA O Z)).1),none),(.val .bool ((val (IA O Z)).2),none)],[]⟩
def aHI:List qC→List qB→Option qI:=rM (V:=((List r6)×pD)) (fun x=>a7Z x.1 x.2) (fun x=>a71) fun x=>a73 x.1 x.2
@[go_sem] def aUN:aHI (no_index (a7Z O Z)) (no_index a71)=some (a73 O Z):=rQ (fun⟨a0,a1⟩ ⟨b0,b1⟩ h1 h2=>by cases h1;cases h2;rfl) (O,Z)
end
@[go_sem] abbrev a74:Nat×qW:=(115,⟨[.v,.v],aHI,[],[],none⟩)
def PH:rF Tryz.prog [sJ,xJ,CU] (rG [a7c]):=⟨⟨sM,⟨y6,⟨ER,trivial⟩⟩⟩,qK aHh rJ,rH⟩
def aHJ:r5 Tryz.prog a74:=by
 refine rR PH Tryz.func115 (c:=_) rfl (N:=17) pU (ts:=[(4,none),(5,none)]) rfl (fun _ _=>rfl) ?_;intro⟨O,Z⟩ hs hrow;dsimp only[a7Z,a71,a73,rI,qR,qZ,r8,rL,Nat.reduceAdd] at hs hrow|-;have hz:=hs;obtain⟨z0,d⟩:=aVt.1 hz
 try rw[rY d]
 clear hz hs;unfold IA at d;refine q9 PH ?_;obtain⟨aA,hv1,hw1,d⟩:=qV d
 try simp only[go_sem] at hw1
 refine q9 PH ?_ (hp:=by exact(qU hv1)) (h:=by simp only[go_sem,hw1];rfl);refine qO ?_;refine q9 PH ?_;refine qS d (fun d hc1=> ?_) (fun d hc1=> ?_)
 .refine q9 PH ?_;refine qP (rD ?_);cases d;exact pF []
 .refine r7 (qJ ?_);obtain⟨hg2,d⟩:=qG d;refine q9 PH ?_ (hp:=by exact hg2);refine qP ?_;cases d;exact pF []
def K8 (O:pD) (Z:pD):Option (pD×Bool):=(MM O Z).bind fun aA=>some ((aA.1,aA.2))
section
variable (O:pD) (Z:pD)
abbrev a77:List qC:=[(.val .str O,none),(.val .str Z,none)]
abbrev a78:List qB:=[]
@[go_sem] def a79:qI:=⟨[((K8 O Z)).isSome=true],[(.val .str ((val (K8 O Z)).1),none),(.val .bool ((val (K8 O Z)).2),none)],[]⟩
def aHK:List qC→List qB→Option qI:=rM (V:=(pD×pD)) (fun x=>a77 x.1 x.2) (fun x=>a78) fun x=>a79 x.1 x.2
@[go_sem] def aUO:aHK (no_index (a77 O Z)) (no_index a78)=some (a79 O Z):=rQ (fun⟨a0,a1⟩ ⟨b0,b1⟩ h1 h2=>by cases h1;cases h2;rfl) (O,Z)
end
@[go_sem] abbrev aHL:Nat×qW:=(126,⟨[.v,.v],aHK,[],[],none⟩)
def a8a:rF Tryz.prog [] (rG [aHj]):=⟨trivial,qK aPo rJ,rH⟩
def aPy:r5 Tryz.prog aHL:=by
 refine rR a8a Tryz.func126 (c:=_) rfl (N:=11) pU (ts:=[(4,none),(5,none)]) rfl (fun _ _=>rfl) ?_;intro⟨O,Z⟩ hs hrow;dsimp only[a77,a78,a79,rI,qR,qZ,r8,rL,Nat.reduceAdd] at hs hrow|-;have hz:=hs;obtain⟨z0,d⟩:=aVt.1 hz
 try rw[rY d]
 clear hz hs;unfold K8 at d;refine q9 a8a ?_;obtain⟨aA,hv1,hw1,d⟩:=qV d
 try simp only[go_sem] at hw1
 refine q9 a8a ?_ (hp:=by exact(qU hv1)) (h:=by simp only[go_sem,hw1];rfl);refine qP ?_;cases d;exact pF []
def GI (O:(pM×Unit)) (Z:Int):Option (Int×pM):=(K6 O.1 Z).bind fun aA=>if qD ((aA.length:Int)- (O.1.length:Int)) then some ((((aA.length:Int)- (O.1.length:Int)),aA)) else none
section
variable (O:Int) (Z:(pM×Unit)) (aA:Nat)
abbrev a8b:List qC:=[(.val .ref (some (0,0)),none),(.val (.int .i32) O,none)]
abbrev a8c:List qB:=[.cells wO ((some (0,0)),Z) [(1,1)],.grow 5 1 aA]
@[go_sem] def a8d:qI:=⟨[aA=(Z.1.length),((GI Z O)).isSome=true],[(.val (.int .i64) ((val (GI Z O)).1),none),(.any,none)],[.cells wO ((some (0,0)),((val (GI Z O)).2,())) [(1,1)],.grow 5 1 (((val (GI Z O)).2).length)]⟩
def aHM:List qC→List qB→Option qI:=rM (V:=(Int×(pM×Unit)×Nat)) (fun x=>a8b x.1) (fun x=>a8c x.2.1 x.2.2) fun x=>a8d x.1 x.2.1 x.2.2
@[go_sem] def aUP:aHM (no_index (a8b O)) (no_index (a8c Z aA))=some (a8d O Z aA):=rQ (fun⟨a0,a1,a2⟩ ⟨b0,b1,b2⟩ h1 h2=>by cases h1;cases h2;rfl) (O,Z,aA)
end
@[go_sem] abbrev aHN:Nat×qW:=(241,⟨[.p wO [1],.v],aHM,[],[],none⟩)
def PI:rF Tryz.prog [EQ,HP] (rG [JL,aHn]):=⟨⟨HO,⟨M6,trivial⟩⟩,qK SH (qK aPq rJ),rH⟩
def aPz:r5 Tryz.prog aHN:=by
 refine rR PI Tryz.func241 (c:=_) rfl (N:=30) pU (ts:=[(4,none),(5,none)]) rfl (fun _ _=>rfl) ?_;intro⟨O,Z,aA⟩ hs hrow;dsimp only[a8b,a8c,a8d,rI,qR,qZ,r8,rL,Nat.reduceAdd] at hs hrow|-;obtain⟨rfl,hz⟩:=hs;obtain⟨z0,d⟩:=aVt.1 hz
 try rw[rY d]
 clear hz;unfold GI at d;refine q9 PI ?_;refine q9 PI ?_ (hp:=by first|rfl|trivial)
 refine q9 PI ?_;obtain⟨aB,hv1,hw1,d⟩:=qV d
 try simp only[go_sem] at hw1
 refine q9 PI ?_ (hp:=by exact⟨pT,(qU hv1)⟩) (h:=by simp only[go_sem,hw1];rfl)
 obtain⟨hg2,d⟩:=qG d;refine q9 PI ?_ (hp:=by exact hg2);refine qP ?_;cases d;exact pF [(0,0),(1,1)]
def TK (O:pE):Int→Option (Int⊕(Unit⊕Int)):=fun Z=>if (decide (Z<(O.length:Int)))=true then if 0≤Z∧Z<(O.length:Int) then (TH (qQ .str O Z)).bind fun aA=>if (!((decide (((qQ .str O Z).length:Int)≤(4000:Int)))&&(Lib.validD (qQ .str O Z))))=true then some (.inr (.inr (Z))) else if qD (Z+(1:Int)) then some (.inl (Z+(1:Int))) else none else none else some (.inr (.inl ()))
def PJ (O:pE):Option Int:=tY (rO (TK O) (0:Int)) fun _=>some ((-1:Int))
section
variable (O:pE)
abbrev a8e:List qC:=[(.val (.list .str) O,none),(.val .clo (some (96,[])),none)]
abbrev a8f:List qB:=[]
@[go_sem] def a8g:qI:=⟨[((PJ O)).isSome=true],[(.val (.int .i64) (val (PJ O)),none)],[]⟩
def aHO:List qC→List qB→Option qI:=rM (V:=pE) (a8e) (fun x=>a8f) fun x=>a8g x
@[go_sem] def aUQ:aHO (no_index (a8e O)) (no_index a8f)=some (a8g O):=rQ (fun a0 b0 h1 h2=>by cases h1;cases h2;rfl) O
end
@[go_sem] abbrev aHP:Nat×qW:=(137,⟨[.v,.v],aHO,[],[],none⟩)
def IB:rF Tryz.prog [sJ,vU] (rG [aHF]):=⟨⟨sM,⟨w7,trivial⟩⟩,qK aPw rJ,rH⟩
def aPA:r5 Tryz.prog aHP:=by
 refine rR IB Tryz.func137 (c:=_) rfl (N:=19) pU (ts:=[(4,none)]) rfl (fun _ _=>rfl) ?_;intro O hs hrow;dsimp only[a8e,a8f,a8g,rI,qR,qZ,r8,rL,Nat.reduceAdd] at hs hrow|-;have hz:=hs;obtain⟨z0,d⟩:=aVt.1 hz
 try rw[rY d]
 clear hz hs;unfold PJ at d;refine q9 IB ?_;refine qO ?_;refine q9 IB ?_;refine rP ?_;obtain⟨y1,hy1,d⟩:=uV d;refine tV 0 (fun s=> ∃v,y1= .inl v∧s=(fun _=>⟨[],[],0,19,0⟩) v) ?_ ?_
 .refine tP hy1 (fun x=>⟨[(0,(.val (.list .str) O,none)),(1,(.val .clo (some (96,[])),none)),(7,(.val (.int .i64) (O.length:Int),none)),(8,(.val (.int .i64) x,none))],[],0,19,0⟩) ⟨[0,1,7,8],[]⟩ pV ?_;intro Z w1 n1 e f;unfold TK at e;dsimp only at e|-;refine q9 IB ?_;refine qO ?_;refine qS e (fun e hc1=> ?_) (fun e hc1=> ?_)
  .refine r7 (qJ (qO (rP ?_)));refine q9 IB ?_;obtain⟨hg1,e⟩:=qG e;obtain⟨aA,hv2,hw2,e⟩:=qV e
   try simp only[go_sem] at hw2
   refine q9 IB ?_ (hp:=by exact⟨hg1,(qU hv2)⟩) (h:=by simp only[go_sem,hw2];rfl);refine qS e (fun e hc2=> ?_) (fun e hc2=> ?_)
   .refine q9 IB ?_;refine qP (rT (rD (uX (uZ (rT (rD ?_))))));cases e;cases f;dsimp only at d;cases d;exact pF []
   .refine r7 (rU (qJ ?_));obtain⟨hg3,e⟩:=qG e;refine rC IB ?_ (hp:=by exact hg3);cases e;exact sU ⟨⟨[0,1,7,8],[]⟩,_,by rfl,f⟩
  .refine tK (tJ (tN ?_));cases e;cases f;exact tM ⟨⟨[],[]⟩,_,rfl,by rfl⟩
 .rintro _ ⟨v,rfl,rfl⟩;dsimp only at d|-;refine tU (qJ ?_);refine q9 IB ?_;refine qP ?_;cases d;exact pF []
def C1 (O:pE):Option Bool:=(PJ O).bind fun Z=>some ((decide ((0:Int)≤Z)))
section
variable (O:pE)
abbrev a8h:List qC:=[(.val (.list .str) O,none),(.val .clo (some (96,[])),none)]
abbrev a8i:List qB:=[]
@[go_sem] def a8j:qI:=⟨[((C1 O)).isSome=true],[(.val .bool (val (C1 O)),none)],[]⟩
def aHQ:List qC→List qB→Option qI:=rM (V:=pE) (a8h) (fun x=>a8i) fun x=>a8j x
@[go_sem] def aUR:aHQ (no_index (a8h O)) (no_index a8i)=some (a8j O):=rQ (fun a0 b0 h1 h2=>by cases h1;cases h2;rfl) O
end
@[go_sem] abbrev aHR:Nat×qW:=(95,⟨[.v,.v],aHQ,[],[],none⟩)
def a8k:rF Tryz.prog [] (rG [aHP]):=⟨trivial,qK aPA rJ,rH⟩
def aPB:r5 Tryz.prog aHR:=by
 refine rR a8k Tryz.func95 (c:=_) rfl (N:=9) pU (ts:=[(4,none)]) rfl (fun _ _=>rfl) ?_;intro O hs hrow;dsimp only[a8h,a8i,a8j,rI,qR,qZ,r8,rL,Nat.reduceAdd] at hs hrow|-;have hz:=hs;obtain⟨z0,d⟩:=aVt.1 hz
 try rw[rY d]
 clear hz hs;unfold C1 at d;refine q9 a8k ?_;obtain⟨Z,hv1,hw1,d⟩:=qV d
 try simp only[go_sem] at hw1
 refine q9 a8k ?_ (hp:=by exact(qU hv1)) (h:=by simp only[go_sem,hw1];rfl);refine qP ?_;cases d;exact pF []
attribute [irreducible] MO IA K8 GI PJ C1
end
noncomputable section
def GJ (O:pD):Option Unit:=if (((decide ((O.length:Int)≤(4000:Int)))==true)=true→((vH O)).isSome=true) then some (()) else none
section
variable (O:pD)
abbrev a8l:List qC:=[(.val .str O,none)]
abbrev a8m:List qB:=[]
@[go_sem] def a8n:qI:=⟨[((GJ O)).isSome=true],[(.val .bool ((decide ((O.length:Int)≤(4000:Int)))&&(val (vH O))),none)],[]⟩
def aHS:List qC→List qB→Option qI:=rM (V:=pD) (a8l) (fun x=>a8m) fun x=>a8n x
@[go_sem] def aUS:aHS (no_index (a8l O)) (no_index a8m)=some (a8n O):=rQ (fun a0 b0 h1 h2=>by cases h1;cases h2;rfl) O
end
@[go_sem] abbrev YL:Nat×qW:=(45,⟨[.v],aHS,[],[],none⟩)
def a8o:rF Tryz.prog [sJ] (rG [aHD]):=⟨⟨sM,trivial⟩,qK aPv rJ,rH⟩
def a8p:r5 Tryz.prog YL:=by
 refine rR a8o Tryz.func45 (c:=_) rfl (N:=10) pU (ts:=[(2,none)]) rfl (fun _ _=>rfl) ?_;intro O hs hrow;dsimp only[a8l,a8m,a8n,rI,qR,qZ,r8,rL,Nat.reduceAdd] at hs hrow|-;have hz:=hs;obtain⟨z0,e⟩:=aVt.1 hz
 try rw[rY e]
 clear hz hs;unfold GJ at e;refine q9 a8o ?_;obtain⟨hg1,e⟩:=qG e;refine q9 a8o ?_ (hp:=by exact⟨id,hg1,sB⟩);refine qP ?_;cases e;exact pF []
def TL (O:pE):Int→Option (Int⊕(Unit⊕Bool)):=fun Z=>if (decide (Z<(O.length:Int)))=true then if 0≤Z∧Z<(O.length:Int) then (GJ (qQ .str O Z)).bind fun aA=>if (!((decide (((qQ .str O Z).length:Int)≤(4000:Int)))&&(val (vH (qQ .str O Z)))))=true then some (.inr (.inr (false))) else if qD (Z+(1:Int)) then some (.inl (Z+(1:Int))) else none else none else some (.inr (.inl ()))
def BG (O:pE):Option Bool:=tY (rO (TL O) (0:Int)) fun _=>some ((decide ((O.length:Int)≤(20:Int))))
section
variable (O:pE)
abbrev a8q:List qC:=[(.val (.list .str) O,none)]
abbrev a8r:List qB:=[]
@[go_sem] def a8s:qI:=⟨[((BG O)).isSome=true],[(.val .bool (val (BG O)),none)],[]⟩
def aHT:List qC→List qB→Option qI:=rM (V:=pE) (a8q) (fun x=>a8r) fun x=>a8s x
@[go_sem] def aUT:aHT (no_index (a8q O)) (no_index a8r)=some (a8s O):=rQ (fun a0 b0 h1 h2=>by cases h1;cases h2;rfl) O
end
@[go_sem] abbrev a8t:Nat×qW:=(46,⟨[.v],aHT,[],[],none⟩)
def K9:rF Tryz.prog [sJ,vU] (rG [YL]):=⟨⟨sM,⟨w7,trivial⟩⟩,qK a8p rJ,rH⟩
def aHU:r5 Tryz.prog a8t:=by
 refine rR K9 Tryz.func46 (c:=_) rfl (N:=19) pU (ts:=[(2,none)]) rfl (fun _ _=>rfl) ?_;intro O hs hrow;dsimp only[a8q,a8r,a8s,rI,qR,qZ,r8,rL,Nat.reduceAdd] at hs hrow|-;have hz:=hs;obtain⟨z0,e⟩:=aVt.1 hz
 try rw[rY e]
 clear hz hs;unfold BG at e;refine q9 K9 ?_;refine qO ?_;refine q9 K9 ?_;refine rP ?_;obtain⟨y1,hy1,e⟩:=uV e;refine tV 0 (fun s=> ∃v,y1= .inl v∧s=(fun _=>⟨[(0,(.val (.list .str) O,none))],[],0,19,0⟩) v) ?_ ?_
 .refine tP hy1 (fun x=>⟨[(0,(.val (.list .str) O,none)),(3,(.val (.int .i64) x,none))],[],0,19,0⟩) ⟨[0,3],[]⟩ pV ?_;intro Z w1 n1 f g;unfold TL at f;dsimp only at f|-;refine qO ?_;refine q9 K9 ?_;refine qS f (fun f hc1=> ?_) (fun f hc1=> ?_)
  .refine r7 (qJ (qO (rP ?_)));obtain⟨hg1,f⟩:=qG f;obtain⟨aA,hv2,hw2,f⟩:=qV f
   try simp only[go_sem] at hw2
   refine q9 K9 ?_ (hp:=by exact⟨hg1,(qU hv2)⟩) (h:=by simp only[go_sem,hw2];rfl);refine qS f (fun f hc2=> ?_) (fun f hc2=> ?_)
   .refine q9 K9 ?_;refine qP (rT (rD (uX (uZ (rT (rD ?_))))));cases f;cases g;dsimp only at e;cases e;exact pF []
   .refine r7 (rU (qJ ?_));obtain⟨hg3,f⟩:=qG f;refine rC K9 ?_ (hp:=by exact hg3);cases f;exact sU ⟨⟨[0,3],[]⟩,_,by rfl,g⟩
  .refine tK (tJ (tN ?_));cases f;cases g;exact tM ⟨⟨[0],[]⟩,_,rfl,by rfl⟩
 .rintro _ ⟨v,rfl,rfl⟩;dsimp only at e|-;refine tU (qJ ?_);refine q9 K9 ?_;refine qP ?_;cases e;exact pF []
def TM (O:(List r6)):Int→Option (Int⊕(Unit⊕Bool)):=fun Z=>if (decide (Z<(O.length:Int)))=true then if 0≤Z∧Z<(O.length:Int) then (K2 ((qQ (.pair .str (.pair .str .unit)) O Z).1)).bind fun aA=>if (((!aA)==false)=true→0≤Z∧Z<(O.length:Int)) then if (((!aA)==false)=true→((GJ ((qQ (.pair .str (.pair .str .unit)) O Z).2.1))).isSome=true) then if (((((!aA)||(!((decide ((((qQ (.pair .str (.pair .str .unit)) O Z).2.1).length:Int)≤(4000:Int)))&&(val (vH ((qQ (.pair .str (.pair .str .unit)) O Z).2.1))))))==false)&&((decide ((0:Int)<Z))==true))=true→0≤Z∧Z<(O.length:Int)) then if (((((!aA)||(!((decide ((((qQ (.pair .str (.pair .str .unit)) O Z).2.1).length:Int)≤(4000:Int)))&&(val (vH ((qQ (.pair .str (.pair .str .unit)) O Z).2.1))))))==false)&&((decide ((0:Int)<Z))==true))=true→qD (Z- (1:Int))) then if (((((!aA)||(!((decide ((((qQ (.pair .str (.pair .str .unit)) O Z).2.1).length:Int)≤(4000:Int)))&&(val (vH ((qQ (.pair .str (.pair .str .unit)) O Z).2.1))))))==false)&&((decide ((0:Int)<Z))==true))=true→0≤(Z- (1:Int))∧(Z- (1:Int))<(O.length:Int)) then if (((!aA)||(!((decide ((((qQ (.pair .str (.pair .str .unit)) O Z).2.1).length:Int)≤(4000:Int)))&&(val (vH ((qQ (.pair .str (.pair .str .unit)) O Z).2.1))))))||((decide ((0:Int)<Z))&&(Op.bytesLess (qQ (.pair .str (.pair .str .unit)) O Z).1 (qQ (.pair .str (.pair .str .unit)) O (Z- (1:Int))).1||decide ((qQ (.pair .str (.pair .str .unit)) O Z).1=(qQ (.pair .str (.pair .str .unit)) O (Z- (1:Int))).1))))=true then some (.inr (.inr (false))) else if qD (Z+(1:Int)) then some (.inl (Z+(1:Int))) else none else none else none else none else none else none else none else some (.inr (.inl ()))
def DW (O:(List r6)):Option Bool:=tY (rO (TM O) (0:Int)) fun _=>some ((decide ((O.length:Int)≤(20:Int))))
section
variable (O:(List r6))
abbrev a8u:List qC:=[(.val (.list (.pair .str (.pair .str .unit))) O,none)]
abbrev a8v:List qB:=[]
@[go_sem] def a8w:qI:=⟨[((DW O)).isSome=true],[(.val .bool (val (DW O)),none)],[]⟩
def aHV:List qC→List qB→Option qI:=rM (V:=(List r6)) (a8u) (fun x=>a8v) fun x=>a8w x
@[go_sem] def aUU:aHV (no_index (a8u O)) (no_index a8v)=some (a8w O):=rQ (fun a0 b0 h1 h2=>by cases h1;cases h2;rfl) O
end
@[go_sem] abbrev a8x:Nat×qW:=(48,⟨[.v],aHV,[],[],none⟩)
def KA:rF Tryz.prog [sJ,xJ,CU] (rG [a6N,YL]):=⟨⟨sM,⟨y6,⟨ER,trivial⟩⟩⟩,qK aG4 (qK a8p rJ),rH⟩
def aHW:r5 Tryz.prog a8x:=by
 refine rR KA Tryz.func48 (c:=_) rfl (N:=47) pU (ts:=[(2,none)]) rfl (fun _ _=>rfl) ?_;intro O hs hrow;dsimp only[a8u,a8v,a8w,rI,qR,qZ,r8,rL,Nat.reduceAdd] at hs hrow|-;have hz:=hs;obtain⟨z0,e⟩:=aVt.1 hz
 try rw[rY e]
 clear hz hs;unfold DW at e;refine q9 KA ?_;refine qO ?_;refine q9 KA ?_;refine rP ?_;obtain⟨y1,hy1,e⟩:=uV e;refine tV 0 (fun s=> ∃v,y1= .inl v∧s=(fun _=>⟨[(0,(.val (.list (.pair .str (.pair .str .unit))) O,none))],[],0,47,0⟩) v) ?_ ?_
 .refine tP hy1 (fun x=>⟨[(0,(.val (.list (.pair .str (.pair .str .unit))) O,none)),(3,(.val (.int .i64) x,none))],[],0,47,0⟩) ⟨[0,3],[]⟩ pV ?_;intro Z w1 n1 f g;unfold TM at f;dsimp only at f|-;refine qO ?_;refine q9 KA ?_;refine qS f (fun f hc1=> ?_) (fun f hc1=> ?_)
  .refine r7 (qJ (qO (rP ?_)));obtain⟨hg1,f⟩:=qG f;obtain⟨aA,hv2,hw2,f⟩:=qV f
   try simp only[go_sem] at hw2
   obtain⟨hg3,f⟩:=qG f;obtain⟨hg4,f⟩:=qG f;obtain⟨hg5,f⟩:=qG f;obtain⟨hg6,f⟩:=qG f;obtain⟨hg7,f⟩:=qG f;refine vY KA ?_ (hp:=by exact⟨hg1,qU hv2,id,id,hg3,id,id,id,hg4,id,sP,id,id,id,id,hg5,id,id,id,hg6,id,id,hg7,id,id,id,id,id,fun hG d=>OF hG d,sP⟩) (h:=by simp only[go_sem,hw2];rfl);refine qS f (fun f hc2=> ?_) (fun f hc2=> ?_)
   .refine q9 KA ?_;refine qP (rT (rD (uX (uZ (rT (rD ?_))))));cases f;cases g;dsimp only at e;cases e;exact pF []
   .refine r7 (rU (qJ ?_));obtain⟨hg8,f⟩:=qG f;refine rC KA ?_ (hp:=by exact hg8);cases f;exact sU ⟨⟨[0,3],[]⟩,_,by rfl,g⟩
  .refine tK (tJ (tN ?_));cases f;cases g;exact tM ⟨⟨[0],[]⟩,_,rfl,by rfl⟩
 .rintro _ ⟨v,rfl,rfl⟩;dsimp only at e|-;refine tU (qJ ?_);refine q9 KA ?_;refine qP ?_;cases e;exact pF []
def MP (O:pE):Option Unit:=if (((decide ((O.length:Int)≤(20:Int)))==true)=true→((C1 O)).isSome=true) then some (()) else none
section
variable (O:pE)
abbrev a8y:List qC:=[(.val (.list .str) O,none)]
abbrev a8z:List qB:=[]
@[go_sem] def a8A:qI:=⟨[((MP O)).isSome=true],[(.val .bool ((decide ((O.length:Int)≤(20:Int)))&&(!(val (C1 O)))),none)],[]⟩
def aHX:List qC→List qB→Option qI:=rM (V:=pE) (a8y) (fun x=>a8z) fun x=>a8A x
@[go_sem] def aUV:aHX (no_index (a8y O)) (no_index a8z)=some (a8A O):=rQ (fun a0 b0 h1 h2=>by cases h1;cases h2;rfl) O
end
@[go_sem] abbrev a8B:Nat×qW:=(64,⟨[.v],aHX,[],[],none⟩)
def a8C:rF Tryz.prog [vU] (rG [aHR]):=⟨⟨w7,trivial⟩,qK aPB rJ,rH⟩
def aHY:r5 Tryz.prog a8B:=by
 refine rR a8C Tryz.func64 (c:=_) rfl (N:=11) pU (ts:=[(2,none)]) rfl (fun _ _=>rfl) ?_;intro O hs hrow;dsimp only[a8y,a8z,a8A,rI,qR,qZ,r8,rL,Nat.reduceAdd] at hs hrow|-;have hz:=hs;obtain⟨z0,e⟩:=aVt.1 hz
 try rw[rY e]
 clear hz hs;unfold MP at e;refine q9 a8C ?_;obtain⟨hg1,e⟩:=qG e;refine q9 a8C ?_ (hp:=by exact⟨id,hg1,id,sB⟩);refine qP ?_;cases e;exact pF []
def KB (O:s0):Option Bool:=if ((((decide (O.1=([]:pD)))||(decide ((200:Int)<(O.1.length:Int))))==false)=true→((F0 O.1)).isSome=true) then if (((((decide (O.1=([]:pD)))||(decide ((200:Int)<(O.1.length:Int))))||(!((decide ((O.1.length:Int)≤(4000:Int)))&&(Lib.validD O.1))))||(decide (O.2.2.2.2.2.1<(0:Int))))||(decide ((4:Int)<O.2.2.2.2.2.1)))=true then some (false) else (F0 O.2.1).bind fun Z=>if ((((decide ((O.2.1.length:Int)≤(4000:Int)))&&(Lib.validD O.2.1))==true)=true→((F0 O.2.2.1)).isSome=true) then if (((((decide ((O.2.1.length:Int)≤(4000:Int)))&&(Lib.validD O.2.1))&&((decide ((O.2.2.1.length:Int)≤(4000:Int)))&&(Lib.validD O.2.2.1)))==true)=true→((MP O.2.2.2.1)).isSome=true) then if ((((((decide ((O.2.1.length:Int)≤(4000:Int)))&&(Lib.validD O.2.1))&&((decide ((O.2.2.1.length:Int)≤(4000:Int)))&&(Lib.validD O.2.2.1)))&&((decide ((O.2.2.2.1.length:Int)≤(20:Int)))&&(!(val (C1 O.2.2.2.1)))))==true)=true→((HS O.2.2.2.2.1)).isSome=true) then if (((((((decide ((O.2.1.length:Int)≤(4000:Int)))&&(Lib.validD O.2.1))&&((decide ((O.2.2.1.length:Int)≤(4000:Int)))&&(Lib.validD O.2.2.1)))&&((decide ((O.2.2.2.1.length:Int)≤(20:Int)))&&(!(val (C1 O.2.2.2.1)))))&&(val (HS O.2.2.2.2.1)))==true)=true→((GH O.2.2.2.2.2.2.1)).isSome=true) then some (((((((decide ((O.2.1.length:Int)≤(4000:Int)))&&(Lib.validD O.2.1))&&((decide ((O.2.2.1.length:Int)≤(4000:Int)))&&(Lib.validD O.2.2.1)))&&((decide ((O.2.2.2.1.length:Int)≤(20:Int)))&&(!(val (C1 O.2.2.2.1)))))&&(val (HS O.2.2.2.2.1)))&&(val (GH O.2.2.2.2.2.2.1)))) else none else none else none else none else none
section
variable (O:s0)
abbrev a8D:List qC:=[(.val s7 O,none)]
abbrev a8E:List qB:=[]
@[go_sem] def a8F:qI:=⟨[((KB O)).isSome=true],[(.val .bool (val (KB O)),none)],[]⟩
def aHZ:List qC→List qB→Option qI:=rM (V:=s0) (a8D) (fun x=>a8E) fun x=>a8F x
@[go_sem] def aUW:aHZ (no_index (a8D O)) (no_index a8E)=some (a8F O):=rQ (fun a0 b0 h1 h2=>by cases h1;cases h2;rfl) O
end
@[go_sem] abbrev aH0:Nat×qW:=(66,⟨[.v],aHZ,[],[],none⟩)
def TN:rF Tryz.prog [wP,sJ,vU,xJ,xI] (rG [T5,a8B,aFE,a7N]):=⟨⟨xE,⟨sM,⟨w7,⟨y6,⟨y5,trivial⟩⟩⟩⟩⟩,qK YJ (qK aHY (qK aOS (qK aHB rJ))),rH⟩
def aPC:r5 Tryz.prog aH0:=by
 refine rR TN Tryz.func66 (c:=_) rfl (N:=51) pU (ts:=[(2,none)]) rfl (fun _ _=>rfl) ?_;intro O hs hrow;dsimp only[a8D,a8E,a8F,rI,qR,qZ,r8,rL,Nat.reduceAdd] at hs hrow|-;have hz:=hs;obtain⟨z0,e⟩:=aVt.1 hz
 try rw[rY e]
 clear hz hs;unfold KB at e;refine q9 TN ?_;refine qO ?_;obtain⟨hg1,e⟩:=qG e;refine q9 TN ?_ (hp:=by exact⟨id,id,id,sP,id,id,hg1,id,sP,id,id,sP,id,id,sP⟩);refine qS e (fun e hc1=> ?_) (fun e hc1=> ?_)
 .refine q9 TN ?_;refine qP (rD ?_);cases e;exact pF []
 .refine r7 (qJ ?_);obtain⟨Z,hv2,hw2,e⟩:=qV e
  try simp only[go_sem] at hw2
  obtain⟨hg3,e⟩:=qG e;obtain⟨hg4,e⟩:=qG e;obtain⟨hg5,e⟩:=qG e;obtain⟨hg6,e⟩:=qG e;refine q9 TN ?_ (hp:=by exact⟨qU hv2,id,id,hg3,sB,id,id,hg4,sB,id,id,hg5,sB,id,id,hg6,sB⟩) (h:=by simp only[go_sem,hw2];rfl);refine qP ?_;cases e;exact pF []
def KC (O:pD):Option pD:=(MO (4:Int) O).bind fun Z=>some (Z)
section
variable (O:pD)
abbrev a8G:List qC:=[(.val .str O,none)]
abbrev a8H:List qB:=[]
@[go_sem] def a8I:qI:=⟨[((KC O)).isSome=true],[(.val .str (val (KC O)),none)],[]⟩
def aH1:List qC→List qB→Option qI:=rM (V:=pD) (a8G) (fun x=>a8H) fun x=>a8I x
@[go_sem] def aUX:aH1 (no_index (a8G O)) (no_index a8H)=some (a8I O):=rQ (fun a0 b0 h1 h2=>by cases h1;cases h2;rfl) O
end
@[go_sem] abbrev a8J:Nat×qW:=(68,⟨[.v],aH1,[],[],none⟩)
def a8K:rF Tryz.prog [] (rG [aHH]):=⟨trivial,qK aPx rJ,rH⟩
def aH2:r5 Tryz.prog a8J:=by
 refine rR a8K Tryz.func68 (c:=_) rfl (N:=5) pU (ts:=[(2,none)]) rfl (fun _ _=>rfl) ?_;intro O hs hrow;dsimp only[a8G,a8H,a8I,rI,qR,qZ,r8,rL,Nat.reduceAdd] at hs hrow|-;have hz:=hs;obtain⟨z0,e⟩:=aVt.1 hz
 try rw[rY e]
 clear hz hs;unfold KC at e;refine q9 a8K ?_;obtain⟨Z,hv1,hw1,e⟩:=qV e
 try simp only[go_sem] at hw1
 refine q9 a8K ?_ (hp:=by exact(qU hv1)) (h:=by simp only[go_sem,hw1];rfl);refine qP ?_;cases e;exact pF []
def MQ (O:sD):Option Bool:=(MJ O.1).bind fun Z=>if ((Z==true)=true→((BG O.2.1)).isSome=true) then if (((Z&&(val (BG O.2.1)))==true)=true→((DW O.2.2.1)).isSome=true) then some (((Z&&(val (BG O.2.1)))&&(val (DW O.2.2.1)))) else none else none
section
variable (O:sD)
abbrev a8L:List qC:=[(.val xG O,none)]
abbrev a8M:List qB:=[]
@[go_sem] def a8N:qI:=⟨[((MQ O)).isSome=true],[(.val .bool (val (MQ O)),none)],[]⟩
def aH3:List qC→List qB→Option qI:=rM (V:=sD) (a8L) (fun x=>a8M) fun x=>a8N x
@[go_sem] def aUY:aH3 (no_index (a8L O)) (no_index a8M)=some (a8N O):=rQ (fun a0 b0 h1 h2=>by cases h1;cases h2;rfl) O
end
@[go_sem] abbrev aH4:Nat×qW:=(44,⟨[.v],aH3,[],[],none⟩)
def a8O:rF Tryz.prog [sJ,vU,xJ,zQ] (rG [aG2,a8t,a8x]):=⟨⟨sM,⟨w7,⟨y6,⟨AS,trivial⟩⟩⟩⟩,qK aPi (qK aHU (qK aHW rJ)),rH⟩
def aPD:r5 Tryz.prog aH4:=by
 refine rR a8O Tryz.func44 (c:=_) rfl (N:=16) pU (ts:=[(2,none)]) rfl (fun _ _=>rfl) ?_;intro O hs hrow;dsimp only[a8L,a8M,a8N,rI,qR,qZ,r8,rL,Nat.reduceAdd] at hs hrow|-;have hz:=hs;obtain⟨z0,e⟩:=aVt.1 hz
 try rw[rY e]
 clear hz hs;unfold MQ at e;refine q9 a8O ?_;obtain⟨Z,hv1,hw1,e⟩:=qV e
 try simp only[go_sem] at hw1
 obtain⟨hg2,e⟩:=qG e;obtain⟨hg3,e⟩:=qG e;refine q9 a8O ?_ (hp:=by exact⟨qU hv1,id,id,hg2,sB,id,id,hg3,sB⟩) (h:=by simp only[go_sem,hw1];rfl);refine qP ?_;cases e;exact pF []
attribute [irreducible] GJ BG DW MP KB KC MQ
end
noncomputable section
def TO (O:pM):(Int×pM)→Option ((Int×pM)⊕pM):=fun(Z,aA)=>if (decide (Z<(O.length:Int)))=true then if 0≤Z∧Z<(O.length:Int) then if (!(((decide ((0:Int)≤(qQ (.int .i64) O Z)))&&(decide ((qQ (.int .i64) O Z)≤(1114111:Int))))&&((decide ((qQ (.int .i64) O Z)<(55296:Int)))||(decide ((57343:Int)<(qQ (.int .i64) O Z))))))=true then (GI (aA,()) (IntKind.wrap .i32 (65533:Int))).bind fun aB=>if qD (Z+(1:Int)) then some (.inl ((Z+(1:Int)),aB.2)) else none else (GI (aA,()) (IntKind.wrap .i32 (qQ (.int .i64) O Z))).bind fun aC=>if qD (Z+(1:Int)) then some (.inl ((Z+(1:Int)),aC.2)) else none else none else some (.inr aA)
def PL (O:pM):Option pD:=sQ (rO (TO O) ((0:Int),([]:pM))) fun Z=>some ((uA Z))
section
variable (O:pM)
abbrev a8P:List qC:=[(.val (.list (.int .i64)) O,none)]
abbrev a8Q:List qB:=[]
@[go_sem] def a8R:qI:=⟨[((PL O)).isSome=true],[(.val .str (val (PL O)),none)],[]⟩
def aH5:List qC→List qB→Option qI:=rM (V:=pM) (a8P) (fun x=>a8Q) fun x=>a8R x
@[go_sem] def aUZ:aH5 (no_index (a8P O)) (no_index a8Q)=some (a8R O):=rQ (fun a0 b0 h1 h2=>by cases h1;cases h2;rfl) O
end
@[go_sem] abbrev aH6:Nat×qW:=(235,⟨[.v],aH5,[],[],none⟩)
def CZ:rF Tryz.prog [wP,SK,G9,HP] (rG [aGr,aHN,HM]):=⟨⟨xE,⟨a3c,⟨JO,⟨M6,trivial⟩⟩⟩⟩,qK aO5 (qK aPz (qK OL rJ)),rH⟩
def aPE:r5 Tryz.prog aH6:=by
 refine rR CZ Tryz.func235 (c:=_) rfl (N:=20) pU (ts:=[(2,none)]) rfl (fun _ _=>rfl) ?_;intro O hs hrow;dsimp only[a8P,a8Q,a8R,rI,qR,qZ,r8,rL,Nat.reduceAdd] at hs hrow|-;have hz:=hs;obtain⟨z0,e⟩:=aVt.1 hz
 try rw[rY e]
 clear hz hs;unfold PL at e;refine q9 CZ ?_;refine q9 CZ ?_;refine qO ?_;refine q9 CZ ?_;refine rP ?_;obtain⟨Z,hy1,e⟩:=qM e;refine tV 0 (fun s=>s=(fun x=>⟨[(3,(.val .ref (some (0,0)),none))],[(0,.cells wO ((some (0,0)),(x,())) [(1,1)]),(1,.grow 5 1 (x.length))],2,20,0⟩) Z) ?_ ?_
 .refine tP hy1 (fun x=>⟨[(3,(.val .ref (some (0,0)),none)),(6,(.val (.list (.int .i64)) O,none)),(7,(.val (.int .i64) (O.length:Int),none)),(8,(.val (.int .i64) x.1,none))],[(0,.cells wO ((some (0,0)),(x.2,())) [(1,1)]),(1,.grow 5 1 (x.2.length))],2,20,0⟩) ⟨[3,6,7,8],[(0,32),(1,33)]⟩ pV ?_;intro x1 w1 n1 f g;obtain⟨aA,aB⟩:=x1;unfold TO at f;dsimp only at f|-;refine q9 CZ ?_;refine qO ?_;refine qS f (fun f hc1=> ?_) (fun f hc1=> ?_)
  .refine r7 (qJ (qO (rP ?_)));obtain⟨hg1,f⟩:=qG f;refine q9 CZ ?_ (hp:=by exact hg1);refine qO ?_;refine q9 CZ ?_;refine qS f (fun f hc2=> ?_) (fun f hc2=> ?_)
   .refine rC CZ ?_;refine qJ ?_;obtain⟨aC,hv2,hw2,f⟩:=qV f
    try simp only[go_sem] at hw2
    refine rC CZ ?_ (hp:=by exact⟨pT,(qU hv2)⟩) (h:=by simp only[go_sem,hw2];rfl)
    refine rU (qJ ?_);obtain⟨hg3,f⟩:=qG f;refine rC CZ ?_ (hp:=by exact hg3);cases f;exact sU ⟨⟨[3,6,7,8],[(0,0),(1,1)]⟩,_,by rfl,g⟩
   .refine r7 (qJ ?_);obtain⟨aD,hv4,hw4,f⟩:=qV f
    try simp only[go_sem] at hw4
    refine rC CZ ?_ (hp:=by exact⟨pT,(qU hv4)⟩) (h:=by simp only[go_sem,hw4];rfl)
    refine rU (qJ ?_);obtain⟨hg5,f⟩:=qG f;refine rC CZ ?_ (hp:=by exact hg5);cases f;exact sU ⟨⟨[3,6,7,8],[(0,0),(1,1)]⟩,_,by rfl,g⟩
  .refine tK (tJ (tN ?_));cases f;cases g;exact tM ⟨⟨[3],[(0,0),(1,1)]⟩,by rfl⟩
 .rintro _ rfl;dsimp only at e|-;refine tU (qJ ?_);refine q9 CZ ?_ (hp:=by first|rfl|trivial)
  refine qP ?_;cases e;exact pF []
def PM (O:s0):Option Unit:=if ((((!decide (O.1=([]:pD)))&&(decide ((O.1.length:Int)≤(200:Int))))==true)=true→((GJ O.1)).isSome=true) then if (((((!decide (O.1=([]:pD)))&&(decide ((O.1.length:Int)≤(200:Int))))&&((decide ((O.1.length:Int)≤(4000:Int)))&&(val (vH O.1))))==true)=true→((GJ O.2.1)).isSome=true) then if ((((((!decide (O.1=([]:pD)))&&(decide ((O.1.length:Int)≤(200:Int))))&&((decide ((O.1.length:Int)≤(4000:Int)))&&(val (vH O.1))))&&((decide ((O.2.1.length:Int)≤(4000:Int)))&&(val (vH O.2.1))))==true)=true→((GJ O.2.2.1)).isSome=true) then if (((((((!decide (O.1=([]:pD)))&&(decide ((O.1.length:Int)≤(200:Int))))&&((decide ((O.1.length:Int)≤(4000:Int)))&&(val (vH O.1))))&&((decide ((O.2.1.length:Int)≤(4000:Int)))&&(val (vH O.2.1))))&&((decide ((O.2.2.1.length:Int)≤(4000:Int)))&&(val (vH O.2.2.1))))==true)=true→((BG O.2.2.2.1)).isSome=true) then if ((((((((!decide (O.1=([]:pD)))&&(decide ((O.1.length:Int)≤(200:Int))))&&((decide ((O.1.length:Int)≤(4000:Int)))&&(val (vH O.1))))&&((decide ((O.2.1.length:Int)≤(4000:Int)))&&(val (vH O.2.1))))&&((decide ((O.2.2.1.length:Int)≤(4000:Int)))&&(val (vH O.2.2.1))))&&(val (BG O.2.2.2.1)))==true)=true→((F4 O.2.2.2.2.1)).isSome=true) then if (((((((((((!decide (O.1=([]:pD)))&&(decide ((O.1.length:Int)≤(200:Int))))&&((decide ((O.1.length:Int)≤(4000:Int)))&&(val (vH O.1))))&&((decide ((O.2.1.length:Int)≤(4000:Int)))&&(val (vH O.2.1))))&&((decide ((O.2.2.1.length:Int)≤(4000:Int)))&&(val (vH O.2.2.1))))&&(val (BG O.2.2.2.1)))&&(val (F4 O.2.2.2.2.1)))&&(decide ((0:Int)≤O.2.2.2.2.2.1)))&&(decide (O.2.2.2.2.2.1≤(4:Int))))==true)=true→((DW O.2.2.2.2.2.2.1)).isSome=true) then some (()) else none else none else none else none else none else none
section
variable (O:s0)
abbrev a8S:List qC:=[(.val s7 O,none)]
abbrev a8T:List qB:=[]
@[go_sem] def a8U:qI:=⟨[((PM O)).isSome=true],[(.val .bool ((((((((((!decide (O.1=([]:pD)))&&(decide ((O.1.length:Int)≤(200:Int))))&&((decide ((O.1.length:Int)≤(4000:Int)))&&(val (vH O.1))))&&((decide ((O.2.1.length:Int)≤(4000:Int)))&&(val (vH O.2.1))))&&((decide ((O.2.2.1.length:Int)≤(4000:Int)))&&(val (vH O.2.2.1))))&&(val (BG O.2.2.2.1)))&&(val (F4 O.2.2.2.2.1)))&&(decide ((0:Int)≤O.2.2.2.2.2.1)))&&(decide (O.2.2.2.2.2.1≤(4:Int))))&&(val (DW O.2.2.2.2.2.2.1))),none)],[]⟩
def aH7:List qC→List qB→Option qI:=rM (V:=s0) (a8S) (fun x=>a8T) fun x=>a8U x
@[go_sem] def aU0:aH7 (no_index (a8S O)) (no_index a8T)=some (a8U O):=rQ (fun a0 b0 h1 h2=>by cases h1;cases h2;rfl) O
end
@[go_sem] abbrev aH8:Nat×qW:=(24,⟨[.v],aH7,[],[],none⟩)
def a8V:rF Tryz.prog [wP,sJ,vU,xJ,xI] (rG [YL,a8t,aHz,a8x]):=⟨⟨xE,⟨sM,⟨w7,⟨y6,⟨y5,trivial⟩⟩⟩⟩⟩,qK a8p (qK aHU (qK aPu (qK aHW rJ))),rH⟩
def aPF:r5 Tryz.prog aH8:=by
 refine rR a8V Tryz.func24 (c:=_) rfl (N:=52) pU (ts:=[(2,none)]) rfl (fun _ _=>rfl) ?_;intro O hs hrow;dsimp only[a8S,a8T,a8U,rI,qR,qZ,r8,rL,Nat.reduceAdd] at hs hrow|-;have hz:=hs;obtain⟨z0,e⟩:=aVt.1 hz
 try rw[rY e]
 clear hz hs;unfold PM at e;refine q9 a8V ?_;obtain⟨hg1,e⟩:=qG e;obtain⟨hg2,e⟩:=qG e;obtain⟨hg3,e⟩:=qG e;obtain⟨hg4,e⟩:=qG e;obtain⟨hg5,e⟩:=qG e;obtain⟨hg6,e⟩:=qG e;refine q9 a8V ?_ (hp:=by exact⟨id,id,id,sB,id,id,hg1,sB,id,id,hg2,sB,id,id,hg3,sB,id,id,hg4,sB,id,id,hg5,sB,id,id,sB,id,id,sB,id,id,hg6,sB⟩);refine qP ?_;cases e;exact pF []
def MR (O:sD):(Int×pK)→Option ((Int×pK)⊕(Unit⊕Bool)):=fun(Z,aA)=>if (decide (Z<(O.2.2.2.1.length:Int)))=true then if 0≤Z∧Z<(O.2.2.2.1.length:Int) then if (((s8 .str .bool aA ((qQ s7 O.2.2.2.1 Z).1))==false)=true→((KB (qQ s7 O.2.2.2.1 Z))).isSome=true) then if ((s8 .str .bool aA ((qQ s7 O.2.2.2.1 Z).1))||(!(val (KB (qQ s7 O.2.2.2.1 Z)))))=true then some (.inr (.inr (false))) else if qD (Z+(1:Int)) then some (.inl ((Z+(1:Int)),(tW .str .bool ((qQ s7 O.2.2.2.1 Z).1) true aA))) else none else none else none else some (.inr (.inl ()))
def MS (O:sD):Option Bool:=(EU O.1).bind fun Z=>if (((!Z)==false)=true→((MP O.2.1)).isSome=true) then if ((((!Z)||(!((decide ((O.2.1.length:Int)≤(20:Int)))&&(!(val (C1 O.2.1))))))==false)=true→((GH O.2.2.1)).isSome=true) then if ((((!Z)||(!((decide ((O.2.1.length:Int)≤(20:Int)))&&(!(val (C1 O.2.1))))))||(!(val (GH O.2.2.1))))||(decide ((1000:Int)<(O.2.2.2.1.length:Int))))=true then some (false) else tY (rO (MR O) ((0:Int),([]:pK))) fun _=>some (true) else none else none
section
variable (O:sD)
abbrev a8W:List qC:=[(.val xG O,none)]
abbrev a8X:List qB:=[]
@[go_sem] def a8Y:qI:=⟨[((MS O)).isSome=true],[(.val .bool (val (MS O)),none)],[]⟩
def aH9:List qC→List qB→Option qI:=rM (V:=sD) (a8W) (fun x=>a8X) fun x=>a8Y x
@[go_sem] def aU1:aH9 (no_index (a8W O)) (no_index a8X)=some (a8Y O):=rQ (fun a0 b0 h1 h2=>by cases h1;cases h2;rfl) O
end
@[go_sem] abbrev aIa:Nat×qW:=(36,⟨[.v],aH9,[],[],none⟩)
def D0:rF Tryz.prog [BF,sJ,vU,xJ,DL,zQ,xI,JP] (rG [YB,a8B,a7N,aH0]):=⟨⟨CX,⟨sM,⟨w7,⟨y6,⟨G6,⟨AS,⟨y5,⟨OT,trivial⟩⟩⟩⟩⟩⟩⟩⟩,qK a3S (qK aHY (qK aHB (qK aPC rJ))),rH⟩
def aPG:r5 Tryz.prog aIa:=by
 refine rR D0 Tryz.func36 (c:=_) rfl (N:=49) pU (ts:=[(2,none)]) rfl (fun _ _=>rfl) ?_;intro O hs hrow;dsimp only[a8W,a8X,a8Y,rI,qR,qZ,r8,rL,Nat.reduceAdd] at hs hrow|-;have hz:=hs;obtain⟨z0,e⟩:=aVt.1 hz
 try rw[rY e]
 clear hz hs;unfold MS at e;refine q9 D0 ?_;refine qO ?_;obtain⟨Z,hv1,hw1,e⟩:=qV e
 try simp only[go_sem] at hw1
 obtain⟨hg2,e⟩:=qG e;obtain⟨hg3,e⟩:=qG e;refine q9 D0 ?_ (hp:=by exact⟨qU hv1,id,id,hg2,id,sP,id,id,hg3,id,sP,id,id,id,sP⟩) (h:=by simp only[go_sem,hw1];rfl);refine qS e (fun e hc1=> ?_) (fun e hc1=> ?_)
 .refine q9 D0 ?_;refine qP (rD ?_);cases e;exact pF []
 .refine r7 (qJ ?_);refine q9 D0 ?_;refine qO ?_;refine q9 D0 ?_;refine rP ?_;obtain⟨y1,hy1,e⟩:=uV e;refine tV 0 (fun s=> ∃v,y1= .inl v∧s=(fun _=>⟨[],[],0,49,0⟩) v) ?_ ?_
  .refine tP hy1 (fun x=>⟨[(3,(.val .mp (some 0),none)),(30,(.val (.list s7) O.2.2.2.1,none)),(31,(.val (.int .i64) (O.2.2.2.1.length:Int),none)),(32,(.val (.int .i64) x.1,none))],[(0,.map .str .bool x.2)],1,49,0⟩) ⟨[3,30,31,32],[(0,768)]⟩ pV ?_;intro x1 w1 n1 f g;obtain⟨aA,aB⟩:=x1;unfold MR at f;dsimp only at f|-;refine q9 D0 ?_;refine qO ?_;refine qS f (fun f hc2=> ?_) (fun f hc2=> ?_)
   .refine r7 (qJ (qO (rP ?_)));obtain⟨hg4,f⟩:=qG f;refine q9 D0 ?_ (hp:=by exact hg4);refine qO ?_;obtain⟨hg5,f⟩:=qG f;refine q9 D0 ?_ (hp:=by exact⟨id,hg5,id,sP⟩);refine qS f (fun f hc3=> ?_) (fun f hc3=> ?_)
    .refine q9 D0 ?_;refine qP (rD (rT (rD (uX (uZ (rT (rD ?_)))))));cases f;cases g;dsimp only at e;cases e;exact pF []
    .refine r7 (qJ ?_);refine rC D0 ?_;refine rU (qJ ?_);obtain⟨hg6,f⟩:=qG f;refine rC D0 ?_ (hp:=by exact hg6);cases f;exact sU ⟨⟨[3,30,31,32],[(0,0)]⟩,_,by rfl,g⟩
   .refine tK (tJ (tN ?_));cases f;cases g;exact tM ⟨⟨[],[]⟩,_,rfl,by rfl⟩
  .rintro _ ⟨v,rfl,rfl⟩;dsimp only at e|-;refine tU (qJ ?_);refine q9 D0 ?_;refine qP ?_;cases e;exact pF []
def KD (O:Int):Option pD:=(PL ([O]:pM)).bind fun Z=>some (Z)
section
variable (O:Int)
abbrev a8Z:List qC:=[(.val (.int .i64) O,none)]
abbrev a80:List qB:=[]
@[go_sem] def a81:qI:=⟨[((KD O)).isSome=true],[(.val .str (val (KD O)),none),(.val .bool ((decide (O≤(1114111:Int)))&&((decide (O<(55296:Int)))||(decide ((57343:Int)<O)))),none)],[]⟩
def aIb:List qC→List qB→Option qI:=rM (V:=Int) (a8Z) (fun x=>a80) fun x=>a81 x
@[go_sem] def aU2:aIb (no_index (a8Z O)) (no_index a80)=some (a81 O):=rQ (fun a0 b0 h1 h2=>by cases h1;cases h2;rfl) O
end
@[go_sem] abbrev a82:Nat×qW:=(227,⟨[.v],aIb,[],[],none⟩)
def YM:rF Tryz.prog [G9] (rG [aH6]):=⟨⟨JO,trivial⟩,qK aPE rJ,rH⟩
def aIc:r5 Tryz.prog a82:=by
 refine rR YM Tryz.func227 (c:=_) rfl (N:=19) pU (ts:=[(2,none),(3,none)]) rfl (fun _ _=>rfl) ?_;intro O hs hrow;dsimp only[a8Z,a80,a81,rI,qR,qZ,r8,rL,Nat.reduceAdd] at hs hrow|-;have hz:=hs;obtain⟨z0,e⟩:=aVt.1 hz
 try rw[rY e]
 clear hz hs;unfold KD at e;refine q9 YM ?_;refine q9 YM ?_ (hp:=by exact⟨id,id,id,id,fun hG d=>G1 hG d,sB⟩);obtain⟨Z,hv1,hw1,e⟩:=qV e
 try simp only[go_sem] at hw1
 refine q9 YM ?_ (hp:=by exact(qU hv1)) (h:=by simp only[go_sem,hw1];rfl);refine qP ?_;cases e;exact pF []
attribute [irreducible] PL PM MS KD
end
noncomputable section
def F5 (O:pD) (Z:pD) (aA:pD) (aB:pD):Option pD:=if ((([10]:pD)++O).length:Int)≤9223372036854775807 then if (((([10]:pD)++O)++([60]:pD)).length:Int)≤9223372036854775807 then if ((((([10]:pD)++O)++([60]:pD))++Z).length:Int)≤9223372036854775807 then if (((((([10]:pD)++O)++([60]:pD))++Z)++aA).length:Int)≤9223372036854775807 then if ((((((([10]:pD)++O)++([60]:pD))++Z)++aA)++([62]:pD)).length:Int)≤9223372036854775807 then (KC aB).bind fun aC=>if (((((((([10]:pD)++O)++([60]:pD))++Z)++aA)++([62]:pD))++aC).length:Int)≤9223372036854775807 then if ((((((((([10]:pD)++O)++([60]:pD))++Z)++aA)++([62]:pD))++aC)++([60,47]:pD)).length:Int)≤9223372036854775807 then if (((((((((([10]:pD)++O)++([60]:pD))++Z)++aA)++([62]:pD))++aC)++([60,47]:pD))++Z).length:Int)≤9223372036854775807 then if ((((((((((([10]:pD)++O)++([60]:pD))++Z)++aA)++([62]:pD))++aC)++([60,47]:pD))++Z)++([62]:pD)).length:Int)≤9223372036854775807 then some ((((((((((([10]:pD)++O)++([60]:pD))++Z)++aA)++([62]:pD))++aC)++([60,47]:pD))++Z)++([62]:pD))) else none else none else none else none else none else none else none else none else none
section
variable (O:pD) (Z:pD) (aA:pD) (aB:pD)
abbrev a83:List qC:=[(.val .str O,none),(.val .str Z,none),(.val .str aA,none),(.val .str aB,none)]
abbrev a84:List qB:=[]
@[go_sem] def a85:qI:=⟨[((F5 O Z aA aB)).isSome=true],[(.val .str (val (F5 O Z aA aB)),none)],[]⟩
def aId:List qC→List qB→Option qI:=rM (V:=(pD×pD×pD×pD)) (fun x=>a83 x.1 x.2.1 x.2.2.1 x.2.2.2) (fun x=>a84) fun x=>a85 x.1 x.2.1 x.2.2.1 x.2.2.2
@[go_sem] def aU3:aId (no_index (a83 O Z aA aB)) (no_index a84)=some (a85 O Z aA aB):=rQ (fun⟨a0,a1,a2,a3⟩ ⟨b0,b1,b2,b3⟩ h1 h2=>by cases h1;cases h2;rfl) (O,Z,aA,aB)
end
@[go_sem] abbrev a86:Nat×qW:=(67,⟨[.v,.v,.v,.v],aId,[],[],none⟩)
def a87:rF Tryz.prog [] (rG [a8J]):=⟨trivial,qK aH2 rJ,rH⟩
def aIe:r5 Tryz.prog a86:=by
 refine rR a87 Tryz.func67 (c:=_) rfl (N:=24) pU (ts:=[(8,none)]) rfl (fun _ _=>rfl) ?_;intro⟨O,Z,aA,aB⟩ hs hrow;dsimp only[a83,a84,a85,rI,qR,qZ,r8,rL,Nat.reduceAdd] at hs hrow|-;have hz:=hs;obtain⟨z0,e⟩:=aVt.1 hz
 try rw[rY e]
 clear hz hs;unfold F5 at e;refine q9 a87 ?_;obtain⟨hg1,e⟩:=qG e;obtain⟨hg2,e⟩:=qG e;obtain⟨hg3,e⟩:=qG e;obtain⟨hg4,e⟩:=qG e;obtain⟨hg5,e⟩:=qG e;obtain⟨aC,hv6,hw6,e⟩:=qV e
 try simp only[go_sem] at hw6
 obtain⟨hg7,e⟩:=qG e;obtain⟨hg8,e⟩:=qG e;obtain⟨hg9,e⟩:=qG e;obtain⟨hg10,e⟩:=qG e;refine q9 a87 ?_ (hp:=by exact⟨hg1,hg2,hg3,hg4,hg5,qU hv6,hg7,hg8,hg9,hg10⟩) (h:=by simp only[go_sem,hw6];rfl);refine qP ?_;cases e;exact pF []
def TP (O:sD):Int→Option (Int⊕(Unit⊕Bool)):=fun Z=>if (decide (Z<(O.2.2.2.1.length:Int)))=true then if 0≤Z∧Z<(O.2.2.2.1.length:Int) then (JQ O ((qQ s7 O.2.2.2.1 Z).1)).bind fun aA=>if (((!decide (aA.1=Z))==false)=true→0≤Z∧Z<(O.2.2.2.1.length:Int)) then if (((!decide (aA.1=Z))==false)=true→((PM (qQ s7 O.2.2.2.1 Z))).isSome=true) then if ((!decide (aA.1=Z))||(!((((((((((!decide (((qQ s7 O.2.2.2.1 Z).1)=([]:pD)))&&(decide ((((qQ s7 O.2.2.2.1 Z).1).length:Int)≤(200:Int))))&&((decide ((((qQ s7 O.2.2.2.1 Z).1).length:Int)≤(4000:Int)))&&(val (vH ((qQ s7 O.2.2.2.1 Z).1)))))&&((decide ((((qQ s7 O.2.2.2.1 Z).2.1).length:Int)≤(4000:Int)))&&(val (vH ((qQ s7 O.2.2.2.1 Z).2.1)))))&&((decide ((((qQ s7 O.2.2.2.1 Z).2.2.1).length:Int)≤(4000:Int)))&&(val (vH ((qQ s7 O.2.2.2.1 Z).2.2.1)))))&&(val (BG ((qQ s7 O.2.2.2.1 Z).2.2.2.1))))&&(val (F4 ((qQ s7 O.2.2.2.1 Z).2.2.2.2.1))))&&(decide ((0:Int)≤((qQ s7 O.2.2.2.1 Z).2.2.2.2.2.1))))&&(decide (((qQ s7 O.2.2.2.1 Z).2.2.2.2.2.1)≤(4:Int))))&&(val (DW ((qQ s7 O.2.2.2.1 Z).2.2.2.2.2.2.1))))))=true then some (.inr (.inr (false))) else if qD (Z+(1:Int)) then some (.inl (Z+(1:Int))) else none else none else none else none else some (.inr (.inl ()))
def D1 (O:sD):Option Bool:=(MQ O).bind fun Z=>if ((!Z)||(decide ((1000:Int)<(O.2.2.2.1.length:Int))))=true then some (false) else tY (rO (TP O) (0:Int)) fun _=>some (true)
section
variable (O:sD)
abbrev a88:List qC:=[(.val xG O,none)]
abbrev a89:List qB:=[]
@[go_sem] def a9a:qI:=⟨[((D1 O)).isSome=true],[(.val .bool (val (D1 O)),none)],[]⟩
def aIf:List qC→List qB→Option qI:=rM (V:=sD) (a88) (fun x=>a89) fun x=>a9a x
@[go_sem] def aU4:aIf (no_index (a88 O)) (no_index a89)=some (a9a O):=rQ (fun a0 b0 h1 h2=>by cases h1;cases h2;rfl) O
end
@[go_sem] abbrev aIg:Nat×qW:=(22,⟨[.v],aIf,[],[],none⟩)
def F6:rF Tryz.prog [sJ,DL,zQ,xI] (rG [aH4,aFh,aH8]):=⟨⟨sM,⟨G6,⟨AS,⟨y5,trivial⟩⟩⟩⟩,qK aPD (qK aOO (qK aPF rJ)),rH⟩
def aPH:r5 Tryz.prog aIg:=by
 refine rR F6 Tryz.func22 (c:=_) rfl (N:=45) pU (ts:=[(2,none)]) rfl (fun _ _=>rfl) ?_;intro O hs hrow;dsimp only[a88,a89,a9a,rI,qR,qZ,r8,rL,Nat.reduceAdd] at hs hrow|-;have hz:=hs;obtain⟨z0,e⟩:=aVt.1 hz
 try rw[rY e]
 clear hz hs;unfold D1 at e;refine q9 F6 ?_;refine qO ?_;obtain⟨Z,hv1,hw1,e⟩:=qV e
 try simp only[go_sem] at hw1
 refine q9 F6 ?_ (hp:=by exact⟨qU hv1,id,id,id,sP⟩) (h:=by simp only[go_sem,hw1];rfl);refine qS e (fun e hc1=> ?_) (fun e hc1=> ?_)
 .refine q9 F6 ?_;refine qP (rD ?_);cases e;exact pF []
 .refine r7 (qJ (qO ?_));refine q9 F6 ?_;refine rP ?_;obtain⟨y1,hy1,e⟩:=uV e;refine tV 0 (fun s=> ∃v,y1= .inl v∧s=(fun _=>⟨[],[],0,45,0⟩) v) ?_ ?_
  .refine tP hy1 (fun x=>⟨[(1,(.val .ref (some (0,0)),none)),(3,(.val (.int .i64) x,none))],[(0,.cells xG O [])],1,45,0⟩) ⟨[1,3],[(0,0)]⟩ pV ?_;intro aA w1 n1 d g;unfold TP at d;dsimp only at d|-;refine qO ?_;refine q9 F6 ?_;refine qS d (fun d hc2=> ?_) (fun d hc2=> ?_)
   .refine r7 (qJ (qO (rP ?_)));obtain⟨hg2,d⟩:=qG d;obtain⟨aB,hv3,hw3,d⟩:=qV d
    try simp only[go_sem] at hw3
    refine vY F6 ?_ (hp:=by exact⟨hg2,(qU hv3)⟩) (h:=by simp only[go_sem,hw3];rfl);obtain⟨hg4,d⟩:=qG d;obtain⟨hg5,d⟩:=qG d;refine q9 F6 ?_ (hp:=by exact⟨id,id,id,hg4,id,id,hg5,id,sP⟩);refine qS d (fun d hc3=> ?_) (fun d hc3=> ?_)
    .refine q9 F6 ?_;refine qP (rT (rD (uX (uZ (rT (rD ?_))))));cases d;cases g;dsimp only at e;cases e;exact pF []
    .refine r7 (rU (qJ ?_));obtain⟨hg6,d⟩:=qG d;refine rC F6 ?_ (hp:=by exact hg6);cases d;exact sU ⟨⟨[1,3],[(0,0)]⟩,_,by rfl,g⟩
   .refine tK (tJ (tN ?_));cases d;cases g;exact tM ⟨⟨[],[]⟩,_,rfl,by rfl⟩
  .rintro _ ⟨v,rfl,rfl⟩;dsimp only at e|-;refine tU (qJ ?_);refine q9 F6 ?_;refine qP ?_;cases e;exact pF []
def TQ (O:pD) (Z:pE):(pD×Int)→Option ((pD×Int)⊕pD):=fun(aA,aB)=>if (decide (aB<(Z.length:Int)))=true then if 0≤aB∧aB<(Z.length:Int) then (F5 O ([99,111,109,109,101,110,116]:pD) ([]:pD) (qQ .str Z aB)).bind fun aC=>if ((aA++aC).length:Int)≤9223372036854775807 then if qD (aB+(1:Int)) then some (.inl ((aA++aC),(aB+(1:Int)))) else none else none else none else some (.inr aA)
def PN (O:pD) (Z:(List r6)):(pD×Int)→Option ((pD×Int)⊕pD):=fun(aA,aB)=>if (decide (aB<(Z.length:Int)))=true then if 0≤aB∧aB<(Z.length:Int) then if ((([32,110,97,109,101,61,34]:pD)++(qQ (.pair .str (.pair .str .unit)) Z aB).1).length:Int)≤9223372036854775807 then if (((([32,110,97,109,101,61,34]:pD)++(qQ (.pair .str (.pair .str .unit)) Z aB).1)++([34]:pD)).length:Int)≤9223372036854775807 then (F5 O ([102,105,101,108,100]:pD) ((([32,110,97,109,101,61,34]:pD)++(qQ (.pair .str (.pair .str .unit)) Z aB).1)++([34]:pD)) ((qQ (.pair .str (.pair .str .unit)) Z aB).2.1)).bind fun aC=>if ((aA++aC).length:Int)≤9223372036854775807 then if qD (aB+(1:Int)) then some (.inl ((aA++aC),(aB+(1:Int)))) else none else none else none else none else none else some (.inr aA)
def IC (O:pD) (Z:pE) (aA:pD) (aB:(List r6)):Option pD:=sQ (rO (TQ O Z) (([]:pD),(0:Int))) fun aC=>if ((aC++aA).length:Int)≤9223372036854775807 then sQ (rO (PN O aB) ((aC++aA),(0:Int))) fun aD=>some (aD) else none
section
variable (O:pD) (Z:pE) (aA:pD) (aB:(List r6))
abbrev a9b:List qC:=[(.val .str O,none),(.val (.list .str) Z,none),(.val .str aA,none),(.val (.list (.pair .str (.pair .str .unit))) aB,none)]
abbrev a9c:List qB:=[]
@[go_sem] def a9d:qI:=⟨[((IC O Z aA aB)).isSome=true],[(.val .str (val (IC O Z aA aB)),none)],[]⟩
def aIh:List qC→List qB→Option qI:=rM (V:=(pD×pE×pD×(List r6))) (fun x=>a9b x.1 x.2.1 x.2.2.1 x.2.2.2) (fun x=>a9c) fun x=>a9d x.1 x.2.1 x.2.2.1 x.2.2.2
@[go_sem] def aU5:aIh (no_index (a9b O Z aA aB)) (no_index a9c)=some (a9d O Z aA aB):=rQ (fun⟨a0,a1,a2,a3⟩ ⟨b0,b1,b2,b3⟩ h1 h2=>by cases h1;cases h2;rfl) (O,Z,aA,aB)
end
@[go_sem] abbrev a9e:Nat×qW:=(37,⟨[.v,.v,.v,.v],aIh,[],[],none⟩)
def BH:rF Tryz.prog [sJ,vU,xJ,CU] (rG [a86]):=⟨⟨sM,⟨w7,⟨y6,⟨ER,trivial⟩⟩⟩⟩,qK aIe rJ,rH⟩
def aIi:r5 Tryz.prog a9e:=by
 refine rR BH Tryz.func37 (c:=_) rfl (N:=47) pU (ts:=[(8,none)]) rfl (fun _ _=>rfl) ?_;intro⟨O,Z,aA,aB⟩ hs hrow;dsimp only[a9b,a9c,a9d,rI,qR,qZ,r8,rL,Nat.reduceAdd] at hs hrow|-;have hz:=hs;obtain⟨z0,e⟩:=aVt.1 hz
 try rw[rY e]
 clear hz hs;unfold IC at e;refine q9 BH ?_;refine q9 BH ?_;refine qO ?_;refine q9 BH ?_;refine rP ?_;obtain⟨aC,hy1,e⟩:=qM e;refine tV 0 (fun s=>s=(fun x=>⟨[(0,(.val .str O,none)),(2,(.val .str aA,none)),(3,(.val (.list (.pair .str (.pair .str .unit))) aB,none)),(9,(.val .str x,none))],[],0,47,0⟩) aC) ?_ ?_
 .refine tP hy1 (fun x=>⟨[(0,(.val .str O,none)),(2,(.val .str aA,none)),(3,(.val (.list (.pair .str (.pair .str .unit))) aB,none)),(9,(.val .str x.1,none)),(14,(.val (.list .str) Z,none)),(15,(.val (.int .i64) (Z.length:Int),none)),(16,(.val (.int .i64) x.2,none))],[],0,47,0⟩) ⟨[0,2,3,9,14,15,16],[]⟩ pV ?_;intro x1 w1 n1 d g;obtain⟨aD,aE⟩:=x1;unfold TQ at d;dsimp only at d|-;refine q9 BH ?_;refine qO ?_;refine qS d (fun d hc1=> ?_) (fun d hc1=> ?_)
  .refine r7 (qJ (qO (rP ?_)));obtain⟨hg1,d⟩:=qG d;refine q9 BH ?_ (hp:=by exact hg1);obtain⟨aF,hv2,hw2,d⟩:=qV d
   try simp only[go_sem] at hw2
   obtain⟨hg3,d⟩:=qG d;refine rC BH ?_ (hp:=by exact⟨qU hv2,hg3⟩) (h:=by simp only[go_sem,hw2];rfl);refine rU (qJ ?_);obtain⟨hg4,d⟩:=qG d;refine rC BH ?_ (hp:=by exact hg4);cases d;exact sU ⟨⟨[0,2,3,9,14,15,16],[]⟩,_,by rfl,g⟩
  .refine tK (tJ (tN ?_));cases d;cases g;exact tM ⟨⟨[0,2,3,9],[]⟩,by rfl⟩
 .rintro _ rfl;dsimp only at e|-;refine tU (qJ ?_);obtain⟨hg5,e⟩:=qG e;refine q9 BH ?_ (hp:=by exact hg5);refine qO ?_;refine q9 BH ?_;refine rP ?_;obtain⟨aG,hy1,e⟩:=qM e;refine tV 2 (fun s=>s=(fun x=>⟨[(9,(.val .str x,none))],[],0,47,0⟩) aG) ?_ ?_
  .refine tP hy1 (fun x=>⟨[(0,(.val .str O,none)),(9,(.val .str x.1,none)),(29,(.val (.list (.pair .str (.pair .str .unit))) aB,none)),(30,(.val (.int .i64) (aB.length:Int),none)),(31,(.val (.int .i64) x.2,none))],[],0,47,0⟩) ⟨[0,9,29,30,31],[]⟩ pV ?_;intro x1 w1 n1 d g;obtain⟨aH,aI⟩:=x1;unfold PN at d;dsimp only at d|-;refine q9 BH ?_;refine qO ?_;refine qS d (fun d hc2=> ?_) (fun d hc2=> ?_)
   .refine r7 (qJ (qO (rP ?_)));obtain⟨hg6,d⟩:=qG d;refine q9 BH ?_ (hp:=by exact hg6);obtain⟨hg7,d⟩:=qG d;obtain⟨hg8,d⟩:=qG d;obtain⟨aJ,hv9,hw9,d⟩:=qV d
    try simp only[go_sem] at hw9
    obtain⟨hg10,d⟩:=qG d;refine rC BH ?_ (hp:=by exact⟨hg7,hg8,qU hv9,hg10⟩) (h:=by simp only[go_sem,hw9];rfl);refine rU (qJ ?_);obtain⟨hg11,d⟩:=qG d;refine rC BH ?_ (hp:=by exact hg11);cases d;exact sU ⟨⟨[0,9,29,30,31],[]⟩,_,by rfl,g⟩
   .refine tK (tJ (tN ?_));cases d;cases g;exact tM ⟨⟨[9],[]⟩,by rfl⟩
  .rintro _ rfl;dsimp only at e|-;refine tU (qJ ?_);refine q9 BH ?_;refine qP ?_;cases e;exact pF []
attribute [irreducible] F5 D1 IC
end
noncomputable section
def MT (O:s0):Option pD:=(KC O.1).bind fun Z=>if ((([10,32,32,60,101,110,116,114,121,32,105,100,61,34]:pD)++Z).length:Int)≤9223372036854775807 then if (((([10,32,32,60,101,110,116,114,121,32,105,100,61,34]:pD)++Z)++([34]:pD)).length:Int)≤9223372036854775807 then sQ (σ:=pD) (if (!decide (O.2.2.2.2.2.1=(0:Int)))=true then if 0≤O.2.2.2.2.2.1∧O.2.2.2.2.2.1<(([([110,101,119]:pD),([102,117,122,122,121]:pD),([116,114,97,110,115,108,97,116,101,100]:pD),([114,101,118,105,101,119,101,100]:pD),([111,98,115,111,108,101,116,101]:pD)]:pE).length:Int) then if ((([32,115,116,97,116,101,61,34]:pD)++(qQ .str ([([110,101,119]:pD),([102,117,122,122,121]:pD),([116,114,97,110,115,108,97,116,101,100]:pD),([114,101,118,105,101,119,101,100]:pD),([111,98,115,111,108,101,116,101]:pD)]:pE) O.2.2.2.2.2.1)).length:Int)≤9223372036854775807 then if (((([32,115,116,97,116,101,61,34]:pD)++(qQ .str ([([110,101,119]:pD),([102,117,122,122,121]:pD),([116,114,97,110,115,108,97,116,101,100]:pD),([114,101,118,105,101,119,101,100]:pD),([111,98,115,111,108,101,116,101]:pD)]:pE) O.2.2.2.2.2.1))++([34]:pD)).length:Int)≤9223372036854775807 then if ((((([10,32,32,60,101,110,116,114,121,32,105,100,61,34]:pD)++Z)++([34]:pD))++((([32,115,116,97,116,101,61,34]:pD)++(qQ .str ([([110,101,119]:pD),([102,117,122,122,121]:pD),([116,114,97,110,115,108,97,116,101,100]:pD),([114,101,118,105,101,119,101,100]:pD),([111,98,115,111,108,101,116,101]:pD)]:pE) O.2.2.2.2.2.1))++([34]:pD))).length:Int)≤9223372036854775807 then some ((((([10,32,32,60,101,110,116,114,121,32,105,100,61,34]:pD)++Z)++([34]:pD))++((([32,115,116,97,116,101,61,34]:pD)++(qQ .str ([([110,101,119]:pD),([102,117,122,122,121]:pD),([116,114,97,110,115,108,97,116,101,100]:pD),([114,101,118,105,101,119,101,100]:pD),([111,98,115,111,108,101,116,101]:pD)]:pE) O.2.2.2.2.2.1))++([34]:pD)))) else none else none else none else none else some (((([10,32,32,60,101,110,116,114,121,32,105,100,61,34]:pD)++Z)++([34]:pD))) ) fun aA=>sQ (σ:=pD) (if (decide ((0:Int)<(O.2.2.2.2.1.length:Int)))=true then if List.length O.2.2.2.2.1≤140737488355328∧List.length (vZ O.2.2.2.2.1 ([32]:pD))≤140737488355328 then if ((([32,102,108,97,103,115,61,34]:pD)++(vZ O.2.2.2.2.1 ([32]:pD))).length:Int)≤9223372036854775807 then if (((([32,102,108,97,103,115,61,34]:pD)++(vZ O.2.2.2.2.1 ([32]:pD)))++([34]:pD)).length:Int)≤9223372036854775807 then if ((aA++((([32,102,108,97,103,115,61,34]:pD)++(vZ O.2.2.2.2.1 ([32]:pD)))++([34]:pD))).length:Int)≤9223372036854775807 then some ((aA++((([32,102,108,97,103,115,61,34]:pD)++(vZ O.2.2.2.2.1 ([32]:pD)))++([34]:pD)))) else none else none else none else none else some (aA) ) fun aB=>sQ (σ:=pD) (if (!decide (O.2.1=([]:pD)))=true then (F5 ([32,32,32,32]:pD) ([115,111,117,114,99,101]:pD) ([]:pD) O.2.1).bind fun aC=>if ((([]:pD)++aC).length:Int)≤9223372036854775807 then some ((([]:pD)++aC)) else none else some (([]:pD)) ) fun aD=>if (!decide (O.2.2.1=([]:pD)))=true then (F5 ([32,32,32,32]:pD) ([116,97,114,103,101,116]:pD) ([]:pD) O.2.2.1).bind fun aE=>if ((aD++aE).length:Int)≤9223372036854775807 then if ((aB++([62]:pD)).length:Int)≤9223372036854775807 then (IC ([32,32,32,32]:pD) O.2.2.2.1 (aD++aE) O.2.2.2.2.2.2.1).bind fun aF=>if (((aB++([62]:pD))++aF).length:Int)≤9223372036854775807 then if ((((aB++([62]:pD))++aF)++([10,32,32,60,47,101,110,116,114,121,62]:pD)).length:Int)≤9223372036854775807 then some ((((aB++([62]:pD))++aF)++([10,32,32,60,47,101,110,116,114,121,62]:pD))) else none else none else none else none else if ((aB++([62]:pD)).length:Int)≤9223372036854775807 then (IC ([32,32,32,32]:pD) O.2.2.2.1 aD O.2.2.2.2.2.2.1).bind fun aG=>if (((aB++([62]:pD))++aG).length:Int)≤9223372036854775807 then if ((((aB++([62]:pD))++aG)++([10,32,32,60,47,101,110,116,114,121,62]:pD)).length:Int)≤9223372036854775807 then some ((((aB++([62]:pD))++aG)++([10,32,32,60,47,101,110,116,114,121,62]:pD))) else none else none else none else none else none
section
variable (O:s0)
abbrev a9f:List qC:=[(.val s7 O,none)]
abbrev a9g:List qB:=[]
@[go_sem] def a9h:qI:=⟨[((MT O)).isSome=true],[(.val .str (val (MT O)),none)],[]⟩
def aIj:List qC→List qB→Option qI:=rM (V:=s0) (a9f) (fun x=>a9g) fun x=>a9h x
@[go_sem] def aU6:aIj (no_index (a9f O)) (no_index a9g)=some (a9h O):=rQ (fun a0 b0 h1 h2=>by cases h1;cases h2;rfl) O
end
@[go_sem] abbrev aIk:Nat×qW:=(38,⟨[.v],aIj,[],[],none⟩)
def C2:rF Tryz.prog [wP,sJ,vU,xJ,xI] (rG [a8J,T2,OP,a86,a9e]):=⟨⟨xE,⟨sM,⟨w7,⟨y6,⟨y5,trivial⟩⟩⟩⟩⟩,qK aH2 (qK YE (qK a2G (qK aIe (qK aIi rJ)))),rH⟩
def aPI:r5 Tryz.prog aIk:=by
 refine rR C2 Tryz.func38 (c:=_) rfl (N:=59) pU (ts:=[(2,none)]) rfl (fun _ _=>rfl) ?_;intro O hs hrow;dsimp only[a9f,a9g,a9h,rI,qR,qZ,r8,rL,Nat.reduceAdd] at hs hrow|-;have hz:=hs;obtain⟨z0,d⟩:=aVt.1 hz
 try rw[rY d]
 clear hz hs;unfold MT at d;refine q9 C2 ?_;obtain⟨Z,hv1,hw1,d⟩:=qV d
 try simp only[go_sem] at hw1
 obtain⟨hg2,d⟩:=qG d;obtain⟨hg3,d⟩:=qG d;refine q9 C2 ?_ (hp:=by exact⟨qU hv1,hg2,hg3⟩) (h:=by simp only[go_sem,hw1];rfl);refine qO ?_;refine q9 C2 ?_;obtain⟨aA,e,d⟩:=qM d;refine yM (fun s=>s=(fun x=>⟨[(1,(.val .ref (some (0,0)),none)),(3,(.val .str x,none))],[(0,.cells s7 O [])],1,59,0⟩) aA) ?_ ?_
 .refine qS e (fun e hc1=> ?_) (fun e hc1=> ?_)
  .obtain⟨hg4,e⟩:=qG e;obtain⟨hg5,e⟩:=qG e;obtain⟨hg6,e⟩:=qG e;obtain⟨hg7,e⟩:=qG e;refine BD C2 ?_ (hp:=by exact⟨hg4,hg5,hg6,hg7⟩);cases e;exact u6 ⟨⟨[1,3],[(0,0)]⟩,by rfl⟩
  .refine r7 ?_;cases e;exact u6 ⟨⟨[1,3],[(0,0)]⟩,by rfl⟩
 .rintro _ rfl;dsimp only at d|-;refine qJ (qO ?_);refine q9 C2 ?_;obtain⟨aB,e,d⟩:=qM d;refine yM (fun s=>s=(fun x=>⟨[(1,(.val .ref (some (0,0)),none)),(3,(.val .str x,none))],[(0,.cells s7 O [])],1,59,0⟩) aB) ?_ ?_
  .refine qS e (fun e hc2=> ?_) (fun e hc2=> ?_)
   .obtain⟨hg8,e⟩:=qG e;obtain⟨hg9,e⟩:=qG e;obtain⟨hg10,e⟩:=qG e;obtain⟨hg11,e⟩:=qG e;refine rC C2 ?_ (hp:=by exact⟨hg8,hg9,hg10,hg11⟩);cases e;exact u6 ⟨⟨[1,3],[(0,0)]⟩,by rfl⟩
   .refine r7 ?_;cases e;exact u6 ⟨⟨[1,3],[(0,0)]⟩,by rfl⟩
  .rintro _ rfl;dsimp only at d|-;refine qJ ?_;refine q9 C2 ?_;refine qO ?_;refine q9 C2 ?_;obtain⟨aC,e,d⟩:=qM d;refine yM (fun s=>s=(fun x=>⟨[(1,(.val .ref (some (0,0)),none)),(3,(.val .str aB,none)),(4,(.val .str x,none))],[(0,.cells s7 O [])],1,59,0⟩) aC) ?_ ?_
   .refine qS e (fun e hc3=> ?_) (fun e hc3=> ?_)
    .obtain⟨aD,hv12,hw12,e⟩:=qV e
     try simp only[go_sem] at hw12
     obtain⟨hg13,e⟩:=qG e;refine rC C2 ?_ (hp:=by exact⟨qU hv12,hg13⟩) (h:=by simp only[go_sem,hw12];rfl);cases e;exact u6 ⟨⟨[1,3,4],[(0,0)]⟩,by rfl⟩
    .refine r7 ?_;cases e;exact u6 ⟨⟨[1,3,4],[(0,0)]⟩,by rfl⟩
   .rintro _ rfl;dsimp only at d|-;refine qJ (qO ?_);refine q9 C2 ?_;refine qS d (fun d hc4=> ?_) (fun d hc4=> ?_)
    .obtain⟨aE,hv14,hw14,d⟩:=qV d
     try simp only[go_sem] at hw14
     obtain⟨hg15,d⟩:=qG d;refine rC C2 ?_ (hp:=by exact⟨qU hv14,hg15⟩) (h:=by simp only[go_sem,hw14];rfl);refine qJ ?_;obtain⟨hg16,d⟩:=qG d;obtain⟨aF,hv17,hw17,d⟩:=qV d
     try simp only[go_sem] at hw17
     obtain⟨hg18,d⟩:=qG d;obtain⟨hg19,d⟩:=qG d;refine q9 C2 ?_ (hp:=by exact⟨hg16,qU hv17,hg18,hg19⟩) (h:=by simp only[go_sem,hw17];rfl);refine qP ?_;cases d;exact pF []
    .refine r7 (qJ ?_);obtain⟨hg20,d⟩:=qG d;obtain⟨aG,hv21,hw21,d⟩:=qV d
     try simp only[go_sem] at hw21
     obtain⟨hg22,d⟩:=qG d;obtain⟨hg23,d⟩:=qG d;refine q9 C2 ?_ (hp:=by exact⟨hg20,qU hv21,hg22,hg23⟩) (h:=by simp only[go_sem,hw21];rfl);refine qP ?_;cases d;exact pF []
def PO (O:pD):Option (pD×Int):=if (decide ((O.length:Int)<(2:Int)))=true then some ((([]:pD),(0:Int))) else if 0≤(1:Int)∧(1:Int)<(O.length:Int) then if (decide ((sF O (1:Int))=(110:Int)))=true then some ((([10]:pD),(2:Int))) else if (decide ((sF O (1:Int))=(114:Int)))=true then some ((([13]:pD),(2:Int))) else if (decide ((sF O (1:Int))=(116:Int)))=true then some ((([9]:pD),(2:Int))) else if (decide ((sF O (1:Int))=(120:Int)))=true then if (decide ((4:Int)≤(O.length:Int)))=true then if 0≤(2:Int)∧(2:Int)≤(4:Int)∧(4:Int)≤(O.length:Int) then (GE (sO O (2:Int) (4:Int)) (16:Int)).bind fun Z=>if (Z.2&&(decide (Z.1≤(127:Int))))=true then some (((uA ([(IntKind.wrap .u8 Z.1)]:pM)),(4:Int))) else some ((([]:pD),(0:Int))) else none else some ((([]:pD),(0:Int))) else if (decide ((sF O (1:Int))=(117:Int)))=true then if (decide ((6:Int)≤(O.length:Int)))=true then if 0≤(2:Int)∧(2:Int)≤(6:Int)∧(6:Int)≤(O.length:Int) then (GE (sO O (2:Int) (6:Int)) (16:Int)).bind fun aA=>if aA.2=true then (KD aA.1).bind fun aB=>if ((decide (aA.1≤(1114111:Int)))&&((decide (aA.1<(55296:Int)))||(decide ((57343:Int)<aA.1))))=true then some ((aB,(6:Int))) else some ((([]:pD),(0:Int))) else some ((([]:pD),(0:Int))) else none else some ((([]:pD),(0:Int))) else if (decide ((0:Int)≤(vE ([92,34,61,58,35,33,123,125,32]:pD) (sF O (1:Int)))))=true then if 0≤(1:Int)∧(1:Int)≤(2:Int)∧(2:Int)≤(O.length:Int) then some (((sO O (1:Int) (2:Int)),(2:Int))) else none else some ((([]:pD),(0:Int))) else none
section
variable (O:pD)
abbrev a9i:List qC:=[(.val .str O,none)]
abbrev a9j:List qB:=[]
@[go_sem] def a9k:qI:=⟨[((PO O)).isSome=true],[(.val .str ((val (PO O)).1),none),(.val (.int .i64) ((val (PO O)).2),none)],[]⟩
def aIl:List qC→List qB→Option qI:=rM (V:=pD) (a9i) (fun x=>a9j) fun x=>a9k x
@[go_sem] def aU7:aIl (no_index (a9i O)) (no_index a9j)=some (a9k O):=rQ (fun a0 b0 h1 h2=>by cases h1;cases h2;rfl) O
end
@[go_sem] abbrev aIm:Nat×qW:=(214,⟨[.v],aIl,[],[],none⟩)
def vV:rF Tryz.prog [wP,G5,sJ,EQ] (rG [a5D,a82,G4]):=⟨⟨xE,⟨JM,⟨sM,⟨HO,trivial⟩⟩⟩⟩,qK aGv (qK aIc (qK LV rJ)),rH⟩
def aPJ:r5 Tryz.prog aIm:=by
 refine rR vV Tryz.func214 (c:=_) rfl (N:=67) pU (ts:=[(2,none),(3,none)]) rfl (fun _ _=>rfl) ?_;intro O hs hrow;dsimp only[a9i,a9j,a9k,rI,qR,qZ,r8,rL,Nat.reduceAdd] at hs hrow|-;have hz:=hs;obtain⟨z0,d⟩:=aVt.1 hz
 try rw[rY d]
 clear hz hs;unfold PO at d;refine q9 vV ?_;refine qO ?_;refine q9 vV ?_;refine qS d (fun d hc1=> ?_) (fun d hc1=> ?_)
 .refine q9 vV ?_;refine qP (rD ?_);cases d;exact pF []
 .refine r7 (qJ (qO ?_));obtain⟨hg1,d⟩:=qG d;refine q9 vV ?_ (hp:=by exact hg1);refine q9 vV ?_;refine rP ?_;refine q9 vV ?_;refine qS d (fun d hc2=> ?_) (fun d hc2=> ?_)
  .refine q9 vV ?_;refine qP (rT (rD ?_));cases d;exact pF []
  .refine q9 vV ?_;refine qS d (fun d hc3=> ?_) (fun d hc3=> ?_)
   .refine q9 vV ?_;refine qP (rT (rD ?_));cases d;exact pF []
   .refine q9 vV ?_;refine qS d (fun d hc4=> ?_) (fun d hc4=> ?_)
    .refine q9 vV ?_;refine qP (rT (rD ?_));cases d;exact pF []
    .refine q9 vV ?_;refine qS d (fun d hc5=> ?_) (fun d hc5=> ?_)
     .refine q9 vV ?_;refine qS d (fun d hc6=> ?_) (fun d hc6=> ?_)
      .obtain⟨hg2,d⟩:=qG d;obtain⟨Z,hv3,hw3,d⟩:=qV d
       try simp only[go_sem] at hw3
       refine q9 vV ?_ (hp:=by exact⟨hg2,(qU hv3)⟩) (h:=by simp only[go_sem,hw3];rfl);refine q9 vV ?_ (hp:=by exact⟨id,sB⟩);refine qS d (fun d hc7=> ?_) (fun d hc7=> ?_)
       .refine q9 vV ?_;refine qP (rT (rD ?_));cases d;exact pF []
       .refine r7 (rU (qJ ?_));refine q9 vV ?_;refine qP ?_;cases d;exact pF []
      .refine r7 (rU (qJ ?_));refine q9 vV ?_;refine qP ?_;cases d;exact pF []
     .refine q9 vV ?_;refine qS d (fun d hc8=> ?_) (fun d hc8=> ?_)
      .refine q9 vV ?_;refine qS d (fun d hc9=> ?_) (fun d hc9=> ?_)
       .obtain⟨hg4,d⟩:=qG d;obtain⟨aA,hv5,hw5,d⟩:=qV d
        try simp only[go_sem] at hw5
        refine q9 vV ?_ (hp:=by exact⟨hg4,(qU hv5)⟩) (h:=by simp only[go_sem,hw5];rfl);refine q9 vV ?_;refine qS d (fun d hc10=> ?_) (fun d hc10=> ?_)
        .obtain⟨aB,hv6,hw6,d⟩:=qV d
         try simp only[go_sem] at hw6
         refine q9 vV ?_ (hp:=by exact(qU hv6)) (h:=by simp only[go_sem,hw6];rfl);refine q9 vV ?_;refine qS d (fun d hc11=> ?_) (fun d hc11=> ?_)
         .refine q9 vV ?_;refine qP (rT (rD ?_));cases d;exact pF []
         .refine r7 (rU (qJ ?_));refine q9 vV ?_;refine qP ?_;cases d;exact pF []
        .refine r7 (rU (qJ ?_));refine q9 vV ?_;refine qP ?_;cases d;exact pF []
       .refine r7 (rU (qJ ?_));refine q9 vV ?_;refine qP ?_;cases d;exact pF []
      .refine q9 vV ?_;refine qS d (fun d hc12=> ?_) (fun d hc12=> ?_)
       .obtain⟨hg7,d⟩:=qG d;refine q9 vV ?_ (hp:=by exact hg7);refine qP (rT (rD ?_));cases d;exact pF []
       .refine r7 (rU (qJ ?_));refine q9 vV ?_;refine qP ?_;cases d;exact pF []
attribute [irreducible] MT PO
end
noncomputable section
def F7 (O:pD):Option (pD×Int):=if (decide ((vE O (59:Int))<(0:Int)))=true then some ((([]:pD),(0:Int))) else if 0≤(1:Int)∧(1:Int)≤(vE O (59:Int))∧(vE O (59:Int))≤(O.length:Int) then if (decide ((sO O (1:Int) (vE O (59:Int)))=([97,109,112]:pD)))=true then if qD ((vE O (59:Int))+(1:Int)) then some ((([38]:pD),((vE O (59:Int))+(1:Int)))) else none else if (decide ((sO O (1:Int) (vE O (59:Int)))=([108,116]:pD)))=true then if qD ((vE O (59:Int))+(1:Int)) then some ((([60]:pD),((vE O (59:Int))+(1:Int)))) else none else if (decide ((sO O (1:Int) (vE O (59:Int)))=([103,116]:pD)))=true then if qD ((vE O (59:Int))+(1:Int)) then some ((([62]:pD),((vE O (59:Int))+(1:Int)))) else none else if (decide ((sO O (1:Int) (vE O (59:Int)))=([113,117,111,116]:pD)))=true then if qD ((vE O (59:Int))+(1:Int)) then some ((([34]:pD),((vE O (59:Int))+(1:Int)))) else none else if (decide ((sO O (1:Int) (vE O (59:Int)))=([97,112,111,115]:pD)))=true then if qD ((vE O (59:Int))+(1:Int)) then some ((([39]:pD),((vE O (59:Int))+(1:Int)))) else none else (F3 (sO O (1:Int) (vE O (59:Int))) ([35]:pD)).bind fun Z=>if (!Z.2)=true then some ((([]:pD),(0:Int))) else (F3 Z.1 ([120]:pD)).bind fun aA=>sQ (σ:=(pD×Int×Int)) (if aA.2=true then some ((aA.1,(16:Int),(6:Int))) else some ((Z.1,(10:Int),(7:Int))) ) fun(aB,aC,aD)=>(GE aB aC).bind fun aE=>if ((!aE.2)||(decide (aD<(aB.length:Int))))=true then some ((([]:pD),(0:Int))) else (KD aE.1).bind fun aF=>if (!((decide (aE.1≤(1114111:Int)))&&((decide (aE.1<(55296:Int)))||(decide ((57343:Int)<aE.1)))))=true then some ((([]:pD),(0:Int))) else if qD ((vE O (59:Int))+(1:Int)) then some ((aF,((vE O (59:Int))+(1:Int)))) else none else none
section
variable (O:pD)
abbrev a9l:List qC:=[(.val .str O,none)]
abbrev a9m:List qB:=[]
@[go_sem] def a9n:qI:=⟨[((F7 O)).isSome=true],[(.val .str ((val (F7 O)).1),none),(.val (.int .i64) ((val (F7 O)).2),none)],[]⟩
def aIn:List qC→List qB→Option qI:=rM (V:=pD) (a9l) (fun x=>a9m) fun x=>a9n x
@[go_sem] def aU8:aIn (no_index (a9l O)) (no_index a9m)=some (a9n O):=rQ (fun a0 b0 h1 h2=>by cases h1;cases h2;rfl) O
end
@[go_sem] abbrev aIo:Nat×qW:=(215,⟨[.v],aIn,[],[],none⟩)
def w4:rF Tryz.prog [sJ] (rG [G4,YK,a5D,a82]):=⟨⟨sM,trivial⟩,qK LV (qK a6Z (qK aGv (qK aIc rJ))),rH⟩
def aPK:r5 Tryz.prog aIo:=by
 refine rR w4 Tryz.func215 (c:=_) rfl (N:=80) pU (ts:=[(2,none),(3,none)]) rfl (fun _ _=>rfl) ?_;intro O hs hrow;dsimp only[a9l,a9m,a9n,rI,qR,qZ,r8,rL,Nat.reduceAdd] at hs hrow|-;have hz:=hs;obtain⟨z0,d⟩:=aVt.1 hz
 try rw[rY d]
 clear hz hs;unfold F7 at d;refine q9 w4 ?_;refine q9 w4 ?_;refine qO ?_;refine q9 w4 ?_;refine qS d (fun d hc1=> ?_) (fun d hc1=> ?_)
 .refine q9 w4 ?_;refine qP (rD ?_);cases d;exact pF []
 .refine r7 (qJ ?_);obtain⟨hg1,d⟩:=qG d;refine q9 w4 ?_ (hp:=by exact hg1);refine qO ?_;refine q9 w4 ?_;refine rP ?_;refine q9 w4 ?_;refine qS d (fun d hc2=> ?_) (fun d hc2=> ?_)
  .obtain⟨hg2,d⟩:=qG d;refine q9 w4 ?_ (hp:=by exact hg2);refine qP (rT (rD ?_));cases d;exact pF []
  .refine q9 w4 ?_;refine qS d (fun d hc3=> ?_) (fun d hc3=> ?_)
   .obtain⟨hg3,d⟩:=qG d;refine q9 w4 ?_ (hp:=by exact hg3);refine qP (rT (rD ?_));cases d;exact pF []
   .refine q9 w4 ?_;refine qS d (fun d hc4=> ?_) (fun d hc4=> ?_)
    .obtain⟨hg4,d⟩:=qG d;refine q9 w4 ?_ (hp:=by exact hg4);refine qP (rT (rD ?_));cases d;exact pF []
    .refine q9 w4 ?_;refine qS d (fun d hc5=> ?_) (fun d hc5=> ?_)
     .obtain⟨hg5,d⟩:=qG d;refine q9 w4 ?_ (hp:=by exact hg5);refine qP (rT (rD ?_));cases d;exact pF []
     .refine q9 w4 ?_;refine qS d (fun d hc6=> ?_) (fun d hc6=> ?_)
      .obtain⟨hg6,d⟩:=qG d;refine q9 w4 ?_ (hp:=by exact hg6);refine qP (rT (rD ?_));cases d;exact pF []
      .refine r7 (rU (qJ ?_));obtain⟨Z,hv7,hw7,d⟩:=qV d
       try simp only[go_sem] at hw7
       refine q9 w4 ?_ (hp:=by exact(qU hv7)) (h:=by simp only[go_sem,hw7];rfl);refine qO ?_;refine q9 w4 ?_;refine qS d (fun d hc7=> ?_) (fun d hc7=> ?_)
       .refine q9 w4 ?_;refine qP (rD ?_);cases d;exact pF []
       .refine r7 (qJ ?_);refine q9 w4 ?_;refine qO ?_;obtain⟨aA,hv8,hw8,d⟩:=qV d
        try simp only[go_sem] at hw8
        refine q9 w4 ?_ (hp:=by exact(qU hv8)) (h:=by simp only[go_sem,hw8];rfl);refine q9 w4 ?_;obtain⟨y1,e,d⟩:=qM d;refine yM (fun s=>s=(fun x=>⟨[(4,(.val (.int .i64) (vE O (59:Int)),none)),(6,(.val .str x.1,none)),(8,(.val (.int .i64) x.2.1,none)),(9,(.val (.int .i64) x.2.2,none))],[],0,80,0⟩) y1) ?_ ?_
        .refine qS e (fun e hc8=> ?_) (fun e hc8=> ?_)
         .refine rC w4 ?_;cases e;exact u6 ⟨⟨[4,6,8,9],[]⟩,by rfl⟩
         .refine r7 ?_;cases e;exact u6 ⟨⟨[4,6,8,9],[]⟩,by rfl⟩
        .rintro _ rfl;obtain⟨aB,aC,aD⟩:=y1;dsimp only at d|-;refine qJ ?_;obtain⟨aE,hv9,hw9,d⟩:=qV d
         try simp only[go_sem] at hw9
         refine q9 w4 ?_ (hp:=by exact(qU hv9)) (h:=by simp only[go_sem,hw9];rfl);refine qO ?_;refine q9 w4 ?_ (hp:=by exact⟨id,id,id,sP⟩);refine qS d (fun d hc9=> ?_) (fun d hc9=> ?_)
         .refine q9 w4 ?_;refine qP (rD ?_);cases d;exact pF []
         .refine r7 (qJ ?_);obtain⟨aF,hv10,hw10,d⟩:=qV d
          try simp only[go_sem] at hw10
          refine q9 w4 ?_ (hp:=by exact(qU hv10)) (h:=by simp only[go_sem,hw10];rfl);refine qO ?_;refine q9 w4 ?_;refine qS d (fun d hc10=> ?_) (fun d hc10=> ?_)
          .refine q9 w4 ?_;refine qP (rD ?_);cases d;exact pF []
          .refine r7 (qJ ?_);obtain⟨hg11,d⟩:=qG d;refine q9 w4 ?_ (hp:=by exact hg11);refine qP ?_;cases d;exact pF []
def F8 (O:Int) (Z:pD):(Int×pM)→Option ((Int×pM)⊕(pM⊕(pD×Int×Int))):=fun(aA,aB)=>if (decide (aA<(Z.length:Int)))=true then if 0≤aA∧aA<(Z.length:Int) then if (decide ((sF Z aA)=(38:Int)))=true then if 0≤aA∧aA≤(Z.length:Int)∧(Z.length:Int)≤(Z.length:Int) then (F7 (sO Z aA (Z.length:Int))).bind fun aC=>if (decide (aC.2=(0:Int)))=true then some (.inr (.inr ((([]:pD),aA,(3:Int))))) else (DO (aB,()) aC.1).bind fun aD=>if qD (aA+aC.2) then some (.inl ((aA+aC.2),(aB++uY aC.1))) else none else none else if 0≤aA∧aA<(Z.length:Int) then if (MC O (sF Z aA))=true then some (.inr (.inr ((([]:pD),aA,(3:Int))))) else if 0≤aA∧aA<(Z.length:Int) then (MD (aB,()) (sF Z aA)).bind fun aE=>if qD (aA+(1:Int)) then some (.inl ((aA+(1:Int)),(aB++([(sF Z aA)]:pM)))) else none else none else none else none else some (.inr (.inl aB))
def aIp (O:Int) (Z:pD):(Int×pM)→Option ((Int×pM)⊕(pM⊕(pD×Int×Int))):=fun(aA,aB)=>if (decide (aA<(Z.length:Int)))=true then if 0≤aA∧aA<(Z.length:Int) then if (decide ((sF Z aA)=(92:Int)))=true then if 0≤aA∧aA≤(Z.length:Int)∧(Z.length:Int)≤(Z.length:Int) then (PO (sO Z aA (Z.length:Int))).bind fun aC=>if (decide (aC.2=(0:Int)))=true then some (.inr (.inr ((([]:pD),aA,(3:Int))))) else (DO (aB,()) aC.1).bind fun aD=>if qD (aA+aC.2) then some (.inl ((aA+aC.2),(aB++uY aC.1))) else none else none else if 0≤aA∧aA<(Z.length:Int) then if (MC O (sF Z aA))=true then some (.inr (.inr ((([]:pD),aA,(3:Int))))) else if 0≤aA∧aA<(Z.length:Int) then (MD (aB,()) (sF Z aA)).bind fun aE=>if qD (aA+(1:Int)) then some (.inl ((aA+(1:Int)),(aB++([(sF Z aA)]:pM)))) else none else none else none else none else some (.inr (.inl aB))
def ID (O:Int) (Z:pD):Option (pD×Int×Int):=if (!((decide ((1:Int)≤O))&&(decide (O≤(4:Int)))))=true then some ((([]:pD),(0:Int),(1:Int))) else if (decide (O=(4:Int)))=true then tY (rO (F8 O Z) ((0:Int),([]:pM))) fun aA=>some (((uA aA),(0:Int),(0:Int))) else tY (rO (aIp O Z) ((0:Int),([]:pM))) fun aB=>some (((uA aB),(0:Int),(0:Int)))
section
variable (O:Int) (Z:pD)
abbrev a9o:List qC:=[(.val (.int .i64) O,none),(.val .str Z,none)]
abbrev a9p:List qB:=[]
@[go_sem] def a9q:qI:=⟨[((ID O Z)).isSome=true],[(.val .str ((val (ID O Z)).1),none),(.val (.int .i64) ((val (ID O Z)).2.1),none),(.val (.int .i64) ((val (ID O Z)).2.2),none)],[]⟩
def aIq:List qC→List qB→Option qI:=rM (V:=(Int×pD)) (fun x=>a9o x.1 x.2) (fun x=>a9p) fun x=>a9q x.1 x.2
@[go_sem] def aU9:aIq (no_index (a9o O Z)) (no_index a9p)=some (a9q O Z):=rQ (fun⟨a0,a1⟩ ⟨b0,b1⟩ h1 h2=>by cases h1;cases h2;rfl) (O,Z)
end
@[go_sem] abbrev aIr:Nat×qW:=(190,⟨[.v,.v],aIq,[],[],none⟩)
def vI:rF Tryz.prog [sJ,HP] (rG [a4J,aIo,Y8,aGm,aGo,HM,aIm]):=⟨⟨sM,⟨M6,trivial⟩⟩,qK aFX (qK aPK (qK a3q (qK aO3 (qK aO4 (qK OL (qK aPJ rJ)))))),rH⟩
def aPL:r5 Tryz.prog aIr:=by
 refine rR vI Tryz.func190 (c:=_) rfl (N:=58) pU (ts:=[(4,none),(5,none),(6,none)]) rfl (fun _ _=>rfl) ?_;intro⟨O,Z⟩ hs hrow;dsimp only[a9o,a9p,a9q,rI,qR,qZ,r8,rL,Nat.reduceAdd] at hs hrow|-;have hz:=hs;obtain⟨z0,d⟩:=aVt.1 hz
 try rw[rY d]
 clear hz hs;unfold ID at d;refine q9 vI ?_;refine qO ?_;refine q9 vI ?_;refine qS d (fun d hc1=> ?_) (fun d hc1=> ?_)
 .refine q9 vI ?_;refine qP (rD ?_);cases d;exact pF []
 .refine r7 (qJ ?_);refine q9 vI ?_;refine qO ?_;refine q9 vI ?_;refine qS d (fun d hc2=> ?_) (fun d hc2=> ?_)
  .refine rC vI ?_;refine qJ ?_;refine q9 vI ?_;refine qO ?_;refine q9 vI ?_;refine rP ?_;obtain⟨y1,hy1,d⟩:=uV d;refine tV 0 (fun s=> ∃v,y1= .inl v∧s=(fun x=>⟨[(9,(.val .ref (some (0,0)),none))],[(0,.cells wO ((some (0,0)),(x,())) [(1,1)]),(1,.grow 5 1 (x.length))],2,58,0⟩) v) ?_ ?_
   .refine tP hy1 (fun x=>⟨[(0,(.val (.int .i64) O,none)),(1,(.val .str Z,none)),(7,(.val (.int .u8) (38:Int),none)),(8,(.val .clo (some (215,[])),none)),(9,(.val .ref (some (0,0)),none)),(10,(.val (.int .i64) x.1,none))],[(0,.cells wO ((some (0,0)),(x.2,())) [(1,1)]),(1,.grow 5 1 (x.2.length))],2,58,0⟩) ⟨[0,1,7,8,9,10],[(0,384),(1,385)]⟩ pV ?_;intro x1 w1 n1 e f;obtain⟨aA,aB⟩:=x1;unfold F8 at e;dsimp only at e|-;refine qO ?_;refine q9 vI ?_;refine qS e (fun e hc3=> ?_) (fun e hc3=> ?_)
    .refine r7 (qJ (rP (rP ?_)));obtain⟨hg1,e⟩:=qG e;refine q9 vI ?_ (hp:=by exact hg1);refine qS e (fun e hc4=> ?_) (fun e hc4=> ?_)
     .obtain⟨hg2,e⟩:=qG e;obtain⟨aC,hv3,hw3,e⟩:=qV e
      try simp only[go_sem] at hw3
      refine q9 vI ?_ (hp:=by exact⟨hg2,(qU hv3)⟩) (h:=by simp only[go_sem,hw3];rfl);refine qO ?_;refine q9 vI ?_;refine qS e (fun e hc5=> ?_) (fun e hc5=> ?_)
      .refine q9 vI ?_;refine qP (rD (rT (rT (uX (uZ (rT (rD ?_)))))));cases e;cases f;dsimp only at d;cases d;exact pF []
      .refine r7 (qJ ?_);obtain⟨aD,hv4,hw4,e⟩:=qV e
       try simp only[go_sem] at hw4
       refine q9 vI ?_ (hp:=by exact⟨pT,(qU hv4)⟩) (h:=by simp only[go_sem,hw4];rfl)
       obtain⟨hg5,e⟩:=qG e;refine rC vI ?_ (hp:=by exact hg5);refine rU (rU ?_);cases e;exact sU ⟨⟨[0,1,7,8,9,10],[(0,0),(1,1)]⟩,_,by rfl,f⟩
     .obtain⟨hg6,e⟩:=qG e;refine q9 vI ?_ (hp:=by exact hg6);refine qS e (fun e hc6=> ?_) (fun e hc6=> ?_)
      .refine q9 vI ?_;refine qP (rT (rT (uX (uZ (rT (rD ?_))))));cases e;cases f;dsimp only at d;cases d;exact pF []
      .obtain⟨hg7,e⟩:=qG e;obtain⟨aE,hv8,hw8,e⟩:=qV e
       try simp only[go_sem] at hw8
       refine q9 vI ?_ (hp:=by exact⟨hg7,pT,(qU hv8)⟩) (h:=by simp only[go_sem,hw8];rfl)
       obtain⟨hg9,e⟩:=qG e;refine rC vI ?_ (hp:=by exact hg9);refine rU (rU ?_);cases e;exact sU ⟨⟨[0,1,7,8,9,10],[(0,0),(1,1)]⟩,_,by rfl,f⟩
    .refine tK (tJ (tN ?_));cases e;cases f;exact tM ⟨⟨[9],[(0,0),(1,1)]⟩,_,rfl,by rfl⟩
   .rintro _ ⟨aF,rfl,rfl⟩;dsimp only at d|-;refine tU (qJ ?_);refine q9 vI ?_ (hp:=by first|rfl|trivial)
    refine qP ?_;cases d;exact pF []
  .refine r7 (qJ ?_);refine q9 vI ?_;refine qO ?_;refine q9 vI ?_;refine rP ?_;obtain⟨y1,hy1,d⟩:=uV d;refine tV 0 (fun s=> ∃v,y1= .inl v∧s=(fun x=>⟨[(9,(.val .ref (some (0,0)),none))],[(0,.cells wO ((some (0,0)),(x,())) [(1,1)]),(1,.grow 5 1 (x.length))],2,58,0⟩) v) ?_ ?_
   .refine tP hy1 (fun x=>⟨[(0,(.val (.int .i64) O,none)),(1,(.val .str Z,none)),(7,(.val (.int .u8) (92:Int),none)),(8,(.val .clo (some (214,[])),none)),(9,(.val .ref (some (0,0)),none)),(10,(.val (.int .i64) x.1,none))],[(0,.cells wO ((some (0,0)),(x.2,())) [(1,1)]),(1,.grow 5 1 (x.2.length))],2,58,0⟩) ⟨[0,1,7,8,9,10],[(0,320),(1,321)]⟩ pV ?_;intro x1 w1 n1 e f;obtain⟨aG,aH⟩:=x1;unfold aIp at e;dsimp only at e|-;refine qO ?_;refine q9 vI ?_;refine qS e (fun e hc7=> ?_) (fun e hc7=> ?_)
    .refine r7 (qJ (rP (rP ?_)));obtain⟨hg10,e⟩:=qG e;refine q9 vI ?_ (hp:=by exact hg10);refine qS e (fun e hc8=> ?_) (fun e hc8=> ?_)
     .obtain⟨hg11,e⟩:=qG e;obtain⟨aI,hv12,hw12,e⟩:=qV e
      try simp only[go_sem] at hw12
      refine q9 vI ?_ (hp:=by exact⟨hg11,(qU hv12)⟩) (h:=by simp only[go_sem,hw12];rfl);refine qO ?_;refine q9 vI ?_;refine qS e (fun e hc9=> ?_) (fun e hc9=> ?_)
      .refine q9 vI ?_;refine qP (rD (rT (rT (uX (uZ (rT (rD ?_)))))));cases e;cases f;dsimp only at d;cases d;exact pF []
      .refine r7 (qJ ?_);obtain⟨aJ,hv13,hw13,e⟩:=qV e
       try simp only[go_sem] at hw13
       refine q9 vI ?_ (hp:=by exact⟨pT,(qU hv13)⟩) (h:=by simp only[go_sem,hw13];rfl)
       obtain⟨hg14,e⟩:=qG e;refine rC vI ?_ (hp:=by exact hg14);refine rU (rU ?_);cases e;exact sU ⟨⟨[0,1,7,8,9,10],[(0,0),(1,1)]⟩,_,by rfl,f⟩
     .obtain⟨hg15,e⟩:=qG e;refine q9 vI ?_ (hp:=by exact hg15);refine qS e (fun e hc10=> ?_) (fun e hc10=> ?_)
      .refine q9 vI ?_;refine qP (rT (rT (uX (uZ (rT (rD ?_))))));cases e;cases f;dsimp only at d;cases d;exact pF []
      .obtain⟨hg16,e⟩:=qG e;obtain⟨aK,hv17,hw17,e⟩:=qV e
       try simp only[go_sem] at hw17
       refine q9 vI ?_ (hp:=by exact⟨hg16,pT,(qU hv17)⟩) (h:=by simp only[go_sem,hw17];rfl)
       obtain⟨hg18,e⟩:=qG e;refine rC vI ?_ (hp:=by exact hg18);refine rU (rU ?_);cases e;exact sU ⟨⟨[0,1,7,8,9,10],[(0,0),(1,1)]⟩,_,by rfl,f⟩
    .refine tK (tJ (tN ?_));cases e;cases f;exact tM ⟨⟨[9],[(0,0),(1,1)]⟩,_,rfl,by rfl⟩
   .rintro _ ⟨aL,rfl,rfl⟩;dsimp only at d|-;refine tU (qJ ?_);refine q9 vI ?_ (hp:=by first|rfl|trivial)
    refine qP ?_;cases d;exact pF []
attribute [irreducible] F7 ID
end
noncomputable section
def TR (O:sD):(Int×pE)→Option ((Int×pE)⊕pE):=fun(Z,aA)=>if (decide (Z<(O.2.2.2.1.length:Int)))=true then if 0≤Z∧Z<(O.2.2.2.1.length:Int) then (MT (qQ s7 O.2.2.2.1 Z)).bind fun aB=>if (aA.length+([aB]:pE).length)*16≤140737488355328 then if qD (Z+(1:Int)) then some (.inl ((Z+(1:Int)),(aA++([aB]:pE)))) else none else none else none else some (.inr aA)
def GK (O:sD):Option (pD×pE×pD×Int):=(MS O).bind fun Z=>if (!Z)=true then some ((([]:pD),([]:pE),([]:pD),(1:Int))) else if ((([60,99,97,116,97,108,111,103,32,116,97,103,61,34]:pD)++O.1).length:Int)≤9223372036854775807 then if (((([60,99,97,116,97,108,111,103,32,116,97,103,61,34]:pD)++O.1)++([34,62]:pD)).length:Int)≤9223372036854775807 then (IC ([32,32]:pD) O.2.1 ([]:pD) O.2.2.1).bind fun aA=>if ((((([60,99,97,116,97,108,111,103,32,116,97,103,61,34]:pD)++O.1)++([34,62]:pD))++aA).length:Int)≤9223372036854775807 then if (((((([60,99,97,116,97,108,111,103,32,116,97,103,61,34]:pD)++O.1)++([34,62]:pD))++aA)++([10,60,101,110,116,114,105,101,115,62]:pD)).length:Int)≤9223372036854775807 then sQ (rO (TR O) ((0:Int),([]:pE))) fun aB=>some ((((((([60,99,97,116,97,108,111,103,32,116,97,103,61,34]:pD)++O.1)++([34,62]:pD))++aA)++([10,60,101,110,116,114,105,101,115,62]:pD)),aB,([10,60,47,101,110,116,114,105,101,115,62,10,60,47,99,97,116,97,108,111,103,62,10]:pD),(0:Int))) else none else none else none else none
section
variable (O:sD)
abbrev a9r:List qC:=[(.val xG O,none)]
abbrev a9s:List qB:=[]
@[go_sem] def a9t:qI:=⟨[((GK O)).isSome=true],[(.val EP ((val (GK O)).1,((val (GK O)).2.1,((val (GK O)).2.2.1,()))),none),(.val (.int .i64) ((val (GK O)).2.2.2),none)],[]⟩
def aIs:List qC→List qB→Option qI:=rM (V:=sD) (a9r) (fun x=>a9s) fun x=>a9t x
@[go_sem] def aVa:aIs (no_index (a9r O)) (no_index a9s)=some (a9t O):=rQ (fun a0 b0 h1 h2=>by cases h1;cases h2;rfl) O
end
@[go_sem] abbrev aIt:Nat×qW:=(18,⟨[.v],aIs,[],[],none⟩)
def F9:rF Tryz.prog [sJ,vU,OS,xJ,DL,zQ,xI] (rG [aIa,a9e,aIk]):=⟨⟨sM,⟨w7,⟨Y5,⟨y6,⟨G6,⟨AS,⟨y5,trivial⟩⟩⟩⟩⟩⟩⟩,qK aPG (qK aIi (qK aPI rJ)),rH⟩
def aPM:r5 Tryz.prog aIt:=by
 refine rR F9 Tryz.func18 (c:=_) rfl (N:=39) pU (ts:=[(2,some 26),(3,none)]) rfl (fun _ _=>rfl) ?_;intro O hs hrow;dsimp only[a9r,a9s,a9t,rI,qR,qZ,r8,rL,Nat.reduceAdd] at hs hrow|-;have hz:=hs;obtain⟨z0,d⟩:=aVt.1 hz
 try rw[rY d]
 clear hz hs;unfold GK at d;refine q9 F9 ?_;refine qO ?_;obtain⟨Z,hv1,hw1,d⟩:=qV d
 try simp only[go_sem] at hw1
 refine q9 F9 ?_ (hp:=by exact(qU hv1)) (h:=by simp only[go_sem,hw1];rfl);refine qS d (fun d hc1=> ?_) (fun d hc1=> ?_)
 .refine q9 F9 ?_;refine qP (rD ?_);cases d;exact pF []
 .refine r7 (qJ ?_);obtain⟨hg2,d⟩:=qG d;obtain⟨hg3,d⟩:=qG d;obtain⟨aA,hv4,hw4,d⟩:=qV d
  try simp only[go_sem] at hw4
  obtain⟨hg5,d⟩:=qG d;obtain⟨hg6,d⟩:=qG d;refine vY F9 ?_ (hp:=by exact⟨hg2,hg3,qU hv4,hg5,hg6⟩) (h:=by simp only[go_sem,hw4];rfl);refine qO ?_;refine q9 F9 ?_;refine rP ?_;obtain⟨aB,hy1,d⟩:=qM d;refine tV 0 (fun s=>s=(fun x=>⟨[(2,(.val .ref (some (0,0)),none)),(4,(.val .ref (some (1,0)),none))],[(0,.cells EP (([]:pD),(([]:pE),(([]:pD),()))) [(1,2)]),(1,.cells EP (((((([60,99,97,116,97,108,111,103,32,116,97,103,61,34]:pD)++O.1)++([34,62]:pD))++aA)++([10,60,101,110,116,114,105,101,115,62]:pD)),(x,(([10,60,47,101,110,116,114,105,101,115,62,10,60,47,99,97,116,97,108,111,103,62,10]:pD),()))) [(1,3)]),(2,.grow 9 1 (([]:pE).length)),(3,.grow 9 1 (x.length))],4,39,0⟩) aB) ?_ ?_
  .refine tP hy1 (fun x=>⟨[(2,(.val .ref (some (0,0)),none)),(4,(.val .ref (some (1,0)),none)),(24,(.val (.list s7) O.2.2.2.1,none)),(25,(.val (.int .i64) (O.2.2.2.1.length:Int),none)),(26,(.val (.int .i64) x.1,none))],[(0,.cells EP (([]:pD),(([]:pE),(([]:pD),()))) [(1,2)]),(1,.cells EP (((((([60,99,97,116,97,108,111,103,32,116,97,103,61,34]:pD)++O.1)++([34,62]:pD))++aA)++([10,60,101,110,116,114,105,101,115,62]:pD)),(x.2,(([10,60,47,101,110,116,114,105,101,115,62,10,60,47,99,97,116,97,108,111,103,62,10]:pD),()))) [(1,3)]),(2,.grow 9 1 (([]:pE).length)),(3,.grow 9 1 (x.2.length))],4,39,0⟩) ⟨[2,4,24,25,26],[(0,32),(1,576),(2,33),(3,608)]⟩ pV ?_;intro x1 w1 n1 e g;obtain⟨aC,aD⟩:=x1;unfold TR at e;dsimp only at e|-;refine q9 F9 ?_;refine qO ?_;refine qS e (fun e hc2=> ?_) (fun e hc2=> ?_)
   .refine r7 (qJ (qO (rP ?_)));obtain⟨hg7,e⟩:=qG e;refine q9 F9 ?_ (hp:=by exact hg7);obtain⟨aE,hv8,hw8,e⟩:=qV e
    try simp only[go_sem] at hw8
    obtain⟨hg9,e⟩:=qG e;refine BD F9 ?_ (hp:=by exact⟨qU hv8,pT,hg9⟩) (h:=by simp only[go_sem,hw8];rfl)
    refine rU (qJ ?_);obtain⟨hg10,e⟩:=qG e;refine rC F9 ?_ (hp:=by exact hg10);cases e;exact sU ⟨⟨[2,4,24,25,26],[(0,0),(1,1),(2,2),(3,3)]⟩,_,by rfl,g⟩
   .refine tK (tJ (tN ?_));cases e;cases g;exact tM ⟨⟨[2,4],[(0,0),(1,1),(2,2),(3,3)]⟩,by rfl⟩
  .rintro _ rfl;dsimp only at d|-;refine tU (qJ ?_);refine q9 F9 ?_;refine qP ?_;cases d;exact pF []
def GL (O:pD):Option (pD×Bool):=(ID (4:Int) O).bind fun Z=>if (((decide (Z.2.2=(0:Int)))==true)=true→((F0 Z.1)).isSome=true) then some ((Z.1,((decide (Z.2.2=(0:Int)))&&((decide ((Z.1.length:Int)≤(4000:Int)))&&(Lib.validD Z.1))))) else none
section
variable (O:pD)
abbrev a9u:List qC:=[(.val .str O,none)]
abbrev a9v:List qB:=[]
@[go_sem] def a9w:qI:=⟨[((GL O)).isSome=true],[(.val .str ((val (GL O)).1),none),(.val .bool ((val (GL O)).2),none)],[]⟩
def aIu:List qC→List qB→Option qI:=rM (V:=pD) (a9u) (fun x=>a9v) fun x=>a9w x
@[go_sem] def aVb:aIu (no_index (a9u O)) (no_index a9v)=some (a9w O):=rQ (fun a0 b0 h1 h2=>by cases h1;cases h2;rfl) O
end
@[go_sem] abbrev a9x:Nat×qW:=(154,⟨[.v],aIu,[],[],none⟩)
def YN:rF Tryz.prog [] (rG [aIr,T5]):=⟨trivial,qK aPL (qK YJ rJ),rH⟩
def aIv:r5 Tryz.prog a9x:=by
 refine rR YN Tryz.func154 (c:=_) rfl (N:=20) pU (ts:=[(2,none),(3,none)]) rfl (fun _ _=>rfl) ?_;intro O hs hrow;dsimp only[a9u,a9v,a9w,rI,qR,qZ,r8,rL,Nat.reduceAdd] at hs hrow|-;have hz:=hs;obtain⟨z0,d⟩:=aVt.1 hz
 try rw[rY d]
 clear hz hs;unfold GL at d;refine q9 YN ?_;obtain⟨Z,hv1,hw1,d⟩:=qV d
 try simp only[go_sem] at hw1
 refine q9 YN ?_ (hp:=by exact(qU hv1)) (h:=by simp only[go_sem,hw1];rfl);obtain⟨hg2,d⟩:=qG d;refine q9 YN ?_ (hp:=by exact⟨id,hg2,sB⟩);refine qP ?_;cases d;exact pF []
def DX (O:sD):Option (pD×Int):=(GK O).bind fun Z=>(MH (Z.1,(Z.2.1,(Z.2.2.1,())))).bind fun aA=>some ((aA,Z.2.2.2))
section
variable (O:sD)
abbrev a9y:List qC:=[(.val xG O,none)]
abbrev a9z:List qB:=[]
@[go_sem] def a9A:qI:=⟨[((DX O)).isSome=true],[(.val .str ((val (DX O)).1),none),(.val (.int .i64) ((val (DX O)).2),none)],[]⟩
def aIw:List qC→List qB→Option qI:=rM (V:=sD) (a9y) (fun x=>a9z) fun x=>a9A x
@[go_sem] def aVc:aIw (no_index (a9y O)) (no_index a9z)=some (a9A O):=rQ (fun a0 b0 h1 h2=>by cases h1;cases h2;rfl) O
end
@[go_sem] abbrev aIx:Nat×qW:=(16,⟨[.v],aIw,[],[],none⟩)
def YO:rF Tryz.prog [OS,zQ] (rG [aIt,aGS]):=⟨⟨Y5,⟨AS,trivial⟩⟩,qK aPM (qK aPe rJ),rH⟩
def aPN:r5 Tryz.prog aIx:=by
 refine rR YO Tryz.func16 (c:=_) rfl (N:=14) pU (ts:=[(2,none),(3,none)]) rfl (fun _ _=>rfl) ?_;intro O hs hrow;dsimp only[a9y,a9z,a9A,rI,qR,qZ,r8,rL,Nat.reduceAdd] at hs hrow|-;have hz:=hs;obtain⟨z0,d⟩:=aVt.1 hz
 try rw[rY d]
 clear hz hs;unfold DX at d;refine q9 YO ?_;obtain⟨Z,hv1,hw1,d⟩:=qV d
 try simp only[go_sem] at hw1
 refine q9 YO ?_ (hp:=by exact(qU hv1)) (h:=by simp only[go_sem,hw1];rfl);obtain⟨aA,hv2,hw2,d⟩:=qV d
 try simp only[go_sem] at hw2
 refine q9 YO ?_ (hp:=by exact(qU hv2)) (h:=by simp only[go_sem,hw2];rfl);refine qP ?_;cases d;exact pF []
attribute [irreducible] GK GL DX
end
noncomputable section
def GM (O:pD):Option (pD×pD×pD×Bool):=(EX O).bind fun Z=>(F3 Z.2 ([61,34]:pD)).bind fun aA=>(I4 aA.1 ([34]:pD)).bind fun aB=>(GL aB.1).bind fun aC=>some ((Z.1,aC.1,aB.2.1,((((!decide (Z.1=([]:pD)))&&aA.2)&&aB.2.2)&&aC.2)))
section
variable (O:pD)
abbrev a9B:List qC:=[(.val .str O,none)]
abbrev a9C:List qB:=[]
@[go_sem] def a9D:qI:=⟨[((GM O)).isSome=true],[(.val (.pair .str (.pair .str .unit)) ((val (GM O)).1,((val (GM O)).2.1,())),none),(.val .str ((val (GM O)).2.2.1),none),(.val .bool ((val (GM O)).2.2.2),none)],[]⟩
def aIy:List qC→List qB→Option qI:=rM (V:=pD) (a9B) (fun x=>a9C) fun x=>a9D x
@[go_sem] def aVd:aIy (no_index (a9B O)) (no_index a9C)=some (a9D O):=rQ (fun a0 b0 h1 h2=>by cases h1;cases h2;rfl) O
end
@[go_sem] abbrev aIz:Nat×qW:=(128,⟨[.v],aIy,[],[],none⟩)
def MU:rF Tryz.prog [BV] (rG [a4t,YK,aHl,a9x]):=⟨⟨DN,trivial⟩,qK aFN (qK a6Z (qK aPp (qK aIv rJ))),rH⟩
def aPO:r5 Tryz.prog aIz:=by
 refine rR MU Tryz.func128 (c:=_) rfl (N:=48) pU (ts:=[(2,some 127),(3,none),(4,none)]) rfl (fun _ _=>rfl) ?_;intro O hs hrow;dsimp only[a9B,a9C,a9D,rI,qR,qZ,r8,rL,Nat.reduceAdd] at hs hrow|-;have hz:=hs;obtain⟨z0,d⟩:=aVt.1 hz
 try rw[rY d]
 clear hz hs;unfold GM at d;refine q9 MU ?_;obtain⟨Z,hv1,hw1,d⟩:=qV d
 try simp only[go_sem] at hw1
 refine q9 MU ?_ (hp:=by exact(qU hv1)) (h:=by simp only[go_sem,hw1];rfl);obtain⟨aA,hv2,hw2,d⟩:=qV d
 try simp only[go_sem] at hw2
 refine q9 MU ?_ (hp:=by exact(qU hv2)) (h:=by simp only[go_sem,hw2];rfl);obtain⟨aB,hv3,hw3,d⟩:=qV d
 try simp only[go_sem] at hw3
 refine q9 MU ?_ (hp:=by exact(qU hv3)) (h:=by simp only[go_sem,hw3];rfl);obtain⟨aC,hv4,hw4,d⟩:=qV d
 try simp only[go_sem] at hw4
 refine q9 MU ?_ (hp:=by exact(qU hv4)) (h:=by simp only[go_sem,hw4];rfl);refine q9 MU ?_ (hp:=by exact⟨sB,sB,sB⟩);refine qP ?_;cases d;exact pF []
def GN (O:Int) (Z:(pD×pD)):(pD×(List r6)×Bool)→Option ((pD×(List r6)×Bool)⊕(Unit⊕(Int×pD×(List r6)×Bool×Bool))):=fun(aA,aB,aC)=>if (!decide (Z.1=([]:pD)))=true then if (decide ((Lib.trimLeftS aA ([32,9,10,13]:pD))=([]:pD)))=true then some (.inr (.inr ((O,Z.1,aB,aC,true)))) else (GM (Lib.trimLeftS aA ([32,9,10,13]:pD))).bind fun aD=>if ((!aD.2.2.2)||(decide (((Lib.trimLeftS aA ([32,9,10,13]:pD)).length:Int)=(aA.length:Int))))=true then some (.inr (.inl ())) else if (aC==false)=true then if ((aC==false)=true→((K0 aB (aD.1,(aD.2.1,())))).isSome=true) then if (aB.length+([(aD.1,(aD.2.1,()))]:List r6).length)*32≤140737488355328 then some (.inl (aD.2.2.1,(aB++([(aD.1,(aD.2.1,()))]:List r6)),(aC||(val (K0 aB (aD.1,(aD.2.1,()))))))) else none else none else if (aB.length+([(aD.1,(aD.2.1,()))]:List r6).length)*32≤140737488355328 then some (.inl (aD.2.2.1,(aB++([(aD.1,(aD.2.1,()))]:List r6)),true)) else none else some (.inr (.inl ()))
def FA (O:pD):Option (Int×pD×(List r6)×Bool×Bool):=if qD ((O.length:Int)- (1:Int)) then if 0≤(1:Int)∧(1:Int)≤((O.length:Int)- (1:Int))∧((O.length:Int)- (1:Int))≤(O.length:Int) then (F3 (sO O (1:Int) ((O.length:Int)- (1:Int))) ([47]:pD)).bind fun Z=>if Z.2=true then (EX Z.1).bind fun aA=>if (((decide (aA.1=([]:pD)))==false)=true→(List.all ([32,9,10,13]:pD) fun b=>decide (b.toNat<128))=true∧List.length ([32,9,10,13]:pD)<4294967281) then if (((decide (aA.1=([]:pD)))==false)=true→List.length aA.2≤9223372036854775807) then if ((decide (aA.1=([]:pD)))||(!decide ((Lib.trimS aA.2 ([32,9,10,13]:pD))=([]:pD))))=true then some (((0:Int),([]:pD),([]:List r6),false,false)) else some (((3:Int),aA.1,([]:List r6),false,true)) else none else none else (K8 (sO O (1:Int) ((O.length:Int)- (1:Int))) ([47]:pD)).bind fun aB=>sQ (σ:=(pD×Int)) (if aB.2=true then some ((aB.1,(2:Int))) else some (((sO O (1:Int) ((O.length:Int)- (1:Int))),(1:Int))) ) fun(aC,aD)=>(EX aC).bind fun aE=>tY (rO (GN aD aE) (aE.2,([]:List r6),false)) fun _=>some (((0:Int),([]:pD),([]:List r6),false,false)) else none else none
section
variable (O:pD)
abbrev a9E:List qC:=[(.val .str O,none)]
abbrev a9F:List qB:=[]
@[go_sem] def a9G:qI:=⟨[((FA O)).isSome=true],[(.val xD ((val (FA O)).1,((val (FA O)).2.1,((val (FA O)).2.2.1,((val (FA O)).2.2.2.1,())))),none),(.val .bool ((val (FA O)).2.2.2.2),none)],[]⟩
def aIA:List qC→List qB→Option qI:=rM (V:=pD) (a9E) (fun x=>a9F) fun x=>a9G x
@[go_sem] def aVe:aIA (no_index (a9E O)) (no_index a9F)=some (a9G O):=rQ (fun a0 b0 h1 h2=>by cases h1;cases h2;rfl) O
end
@[go_sem] abbrev aIB:Nat×qW:=(86,⟨[.v],aIA,[],[],none⟩)
def wG:rF Tryz.prog [wP,BF,sJ,CW,zI,BV] (rG [YK,a4t,LW,aHL,OH,aIz,aGJ]):=⟨⟨xE,⟨CX,⟨sM,⟨ET,⟨A9,⟨DN,trivial⟩⟩⟩⟩⟩⟩,qK a6Z (qK aFN (qK XX (qK aPy (qK a2z (qK aPO (qK aPd rJ)))))),rH⟩
def aPP:r5 Tryz.prog aIB:=by
 refine rR wG Tryz.func86 (c:=_) rfl (N:=96) pU (ts:=[(2,some 100),(3,none)]) rfl (fun _ _=>rfl) ?_;intro O hs hrow;dsimp only[a9E,a9F,a9G,rI,qR,qZ,r8,rL,Nat.reduceAdd] at hs hrow|-;have hz:=hs;obtain⟨z0,d⟩:=aVt.1 hz
 try rw[rY d]
 clear hz hs;unfold FA at d;refine q9 wG ?_;obtain⟨hg1,d⟩:=qG d;obtain⟨hg2,d⟩:=qG d;refine q9 wG ?_ (hp:=by exact⟨hg1,hg2⟩);refine q9 wG ?_;refine qO ?_;obtain⟨Z,hv3,hw3,d⟩:=qV d
 try simp only[go_sem] at hw3
 refine q9 wG ?_ (hp:=by exact(qU hv3)) (h:=by simp only[go_sem,hw3];rfl);refine q9 wG ?_;refine qS d (fun d hc1=> ?_) (fun d hc1=> ?_)
 .refine q9 wG ?_;obtain⟨aA,hv4,hw4,d⟩:=qV d
  try simp only[go_sem] at hw4
  refine q9 wG ?_ (hp:=by exact(qU hv4)) (h:=by simp only[go_sem,hw4];rfl);refine qO ?_;obtain⟨hg5,d⟩:=qG d;obtain⟨hg6,d⟩:=qG d;refine q9 wG ?_ (hp:=by exact⟨id,hg5,hg6,id,sP⟩);refine qS d (fun d hc2=> ?_) (fun d hc2=> ?_)
  .refine q9 wG ?_;refine qP (rD (rD ?_));cases d;exact pF []
  .refine r7 (qJ ?_);refine q9 wG ?_;refine qP (rD ?_);cases d;exact pF []
 .refine r7 (qJ (qO ?_));obtain⟨aB,hv7,hw7,d⟩:=qV d
  try simp only[go_sem] at hw7
  refine q9 wG ?_ (hp:=by exact(qU hv7)) (h:=by simp only[go_sem,hw7];rfl);refine q9 wG ?_;obtain⟨y1,f,d⟩:=qM d;refine yM (fun s=>s=(fun x=>⟨[(0,(.val .str x.1,none)),(2,(.val .ref (some (0,0)),none)),(4,(.val .ref (some (1,0)),none))],[(0,.cells xD ((0:Int),(([]:pD),(([]:List r6),(false,())))) [(2,2)]),(1,.cells xD (x.2,(([]:pD),(([]:List r6),(false,())))) [(2,3)]),(2,.grow 127 2 (([]:List r6).length)),(3,.grow 127 2 (([]:List r6).length))],4,96,0⟩) y1) ?_ ?_
  .refine qS f (fun f hc3=> ?_) (fun f hc3=> ?_)
   .refine rC wG ?_;cases f;exact u6 ⟨⟨[0,2,4],[(0,0),(1,288),(2,1),(3,320)]⟩,by rfl⟩
   .refine r7 ?_;cases f;exact u6 ⟨⟨[0,2,4],[(0,0),(1,288),(2,1),(3,320)]⟩,by rfl⟩
  .rintro _ rfl;obtain⟨aC,aD⟩:=y1;dsimp only at d|-;refine qJ ?_;obtain⟨aE,hv8,hw8,d⟩:=qV d
   try simp only[go_sem] at hw8
   refine q9 wG ?_ (hp:=by exact(qU hv8)) (h:=by simp only[go_sem,hw8];rfl);refine qO (rP ?_);obtain⟨y1,hy1,d⟩:=uV d;refine tV 0 (fun s=> ∃v,y1= .inl v∧s=(fun _=>⟨[(2,(.val .ref (some (0,0)),none))],[(0,.cells xD ((0:Int),(([]:pD),(([]:List r6),(false,())))) [(2,1)]),(1,.grow 127 2 (([]:List r6).length))],2,96,0⟩) v) ?_ ?_
   .refine tP hy1 (fun x=>⟨[(0,(.val .str x.1,none)),(2,(.val .ref (some (0,0)),none)),(4,(.val .ref (some (1,0)),none))],[(0,.cells xD ((0:Int),(([]:pD),(([]:List r6),(false,())))) [(2,2)]),(1,.cells xD (aD,(aE.1,(x.2.1,(x.2.2,())))) [(2,3)]),(2,.grow 127 2 (([]:List r6).length)),(3,.grow 127 2 (x.2.1.length))],4,96,0⟩) ⟨[0,2,4],[(0,0),(1,1),(2,2),(3,3)]⟩ pV ?_;intro x1 w1 n1 f g;obtain⟨aF,aG,aH⟩:=x1;unfold GN at f;dsimp only at f|-;refine qO ?_;refine q9 wG ?_;refine qS f (fun f hc4=> ?_) (fun f hc4=> ?_)
    .refine r7 (qJ (rP ?_));refine q9 wG ?_ (hp:=by exact⟨pH,pH⟩);refine qO ?_;refine q9 wG ?_;refine qS f (fun f hc5=> ?_) (fun f hc5=> ?_)
     .refine q9 wG ?_;refine qP (rD (rT (uX (uZ (rT (rD ?_))))));cases f;cases g;dsimp only at d;cases d;exact pF []
     .refine r7 (qJ ?_);obtain⟨aI,hv9,hw9,f⟩:=qV f
      try simp only[go_sem] at hw9
      refine q9 wG ?_ (hp:=by exact(qU hv9)) (h:=by simp only[go_sem,hw9];rfl);refine qO ?_;refine q9 wG ?_ (hp:=by exact⟨id,id,id,id,sP⟩);refine qS f (fun f hc6=> ?_) (fun f hc6=> ?_)
      .refine tK (tJ (aEj pH (tN ?_)));cases f;cases g;exact tM ⟨⟨[2],[(0,0),(1,2)]⟩,_,rfl,by rfl⟩
      .refine r7 (qJ (qO ?_));by_cases hgs7:(aH==false)=true
       .rw[aVs hgs7] at f;obtain⟨hg10,f⟩:=qG f;refine rC wG ?_ (hp:=by exact⟨id,pT,hgs7,id,id,hg10⟩)
        refine qJ ?_;obtain⟨hg11,f⟩:=qG f;refine q9 wG ?_ (hp:=by exact⟨pT,hg11⟩)
        refine rC wG ?_;refine rU ?_;cases f;exact sU ⟨⟨[0,2,4],[(0,0),(1,1),(2,2),(3,3)]⟩,_,by rfl,g⟩
       rw[aVv hgs7] at f;refine rC (a16 (l:=[1000000004]) wG pV) ?_ (hp:=by exact⟨by first|exact Bool.eq_false_iff.2 hgs7|simpa using hgs7|simpa[r8] using hgs7,by first|exact Bool.eq_false_iff.2 hgs7|simpa using hgs7|simpa[r8] using hgs7,by first|exact Bool.eq_false_iff.2 hgs7|simpa using hgs7|simpa[r8] using hgs7,by first|exact Bool.eq_false_iff.2 hgs7|simpa using hgs7|simpa[r8] using hgs7,(by first|exact Bool.of_not_eq_false (fun e=>hgs7 (by rw[e];rfl)) |exact Bool.of_not_eq_true (fun e=>hgs7 (by rw[e];rfl)) |simpa using hgs7|simpa[r8] using hgs7)⟩)
       refine qJ ?_;obtain⟨hg12,f⟩:=qG f;refine q9 wG ?_ (hp:=by exact⟨pT,hg12⟩)
       refine rC wG ?_;refine rU ?_;cases f;exact sU ⟨⟨[0,2,4],[(0,0),(1,1),(2,2),(3,3)]⟩,_,by rfl,g⟩
    .refine tK (tJ (tN ?_));cases f;cases g;exact tM ⟨⟨[2],[(0,0),(1,2)]⟩,_,rfl,by rfl⟩
   .rintro _ ⟨v,rfl,rfl⟩;dsimp only at d|-;refine tU (qJ ?_);refine q9 wG ?_;refine qP ?_;cases d;exact pF []
def AT (O:(List sH)) (Z:Int) (aA:Int) (aB:sD) (aC:(pM×Unit)) (aD:pK):Option (Int×pD×(List r6)×Bool):=if (((!decide (aA=(0:Int)))==false)=true→0≤(0:Int)∧(0:Int)<(O.length:Int)) then if ((!decide (aA=(0:Int)))||(!decide ((qQ sW O (0:Int)).1=(2:Int))))=true then some (((0:Int),([]:pD),([]:List r6),false)) else if 0≤(0:Int)∧(0:Int)<(O.length:Int) then (FA ((qQ sW O (0:Int)).2.1)).bind fun aE=>some ((aE.1,aE.2.1,aE.2.2.1,aE.2.2.2.1)) else none else none
section
variable (O:(List sH)) (Z:Int) (aA:Int) (aB:sD) (aC:(pM×Unit)) (aD:Nat) (aE:Nat) (aF:pK)
abbrev a9H:List qC:=[(.val .ref (some (0,0)),none)]
abbrev a9I:List qB:=[.cells sX (O,(Z,(aA,(aB,((some 3),aC))))) [(6,1),(8,2)],.grow 53 7 aD,.grow 3 1 aE,.map .str .bool aF]
@[go_sem] def a9J:qI:=⟨[aD=(aB.2.2.2.1.length),aE=(aC.1.length),((AT O Z aA aB aC aF)).isSome=true],[(.val xD ((val (AT O Z aA aB aC aF)).1,((val (AT O Z aA aB aC aF)).2.1,((val (AT O Z aA aB aC aF)).2.2.1,((val (AT O Z aA aB aC aF)).2.2.2,())))),none)],[.cells sX (O,(Z,(aA,((aB.1,(aB.2.1,(aB.2.2.1,(aB.2.2.2.1,())))),((some 3),(aC.1,())))))) [(6,1),(8,2)],.grow 53 7 (aB.2.2.2.1.length),.grow 3 1 (aC.1.length),.map .str .bool aF]⟩
def aIC:List qC→List qB→Option qI:=rM (V:=((List sH)×Int×Int×sD×(pM×Unit)×Nat×Nat×pK)) (fun x=>a9H) (fun x=>a9I x.1 x.2.1 x.2.2.1 x.2.2.2.1 x.2.2.2.2.1 x.2.2.2.2.2.1 x.2.2.2.2.2.2.1 x.2.2.2.2.2.2.2) fun x=>a9J x.1 x.2.1 x.2.2.1 x.2.2.2.1 x.2.2.2.2.1 x.2.2.2.2.2.1 x.2.2.2.2.2.2.1 x.2.2.2.2.2.2.2
@[go_sem] def aVf:aIC (no_index a9H) (no_index (a9I O Z aA aB aC aD aE aF))=some (a9J O Z aA aB aC aD aE aF):=rQ (fun⟨a0,a1,a2,a3,a4,a5,a6,a7⟩ ⟨b0,b1,b2,b3,b4,b5,b6,b7⟩ h1 h2=>by cases h1;cases h2;rfl) (O,Z,aA,aB,aC,aD,aE,aF)
end
@[go_sem] abbrev IE:Nat×qW:=(53,⟨[.p sX [6,8]],aIC,[(0,7,.m)],[0,1,2,3],none⟩)
def PP:rF Tryz.prog [wP,sJ,DM,CT,CV,AQ,zI] (rG [aIB]):=⟨⟨xE,⟨sM,⟨G7,⟨HN,⟨ES,⟨G3,⟨A9,trivial⟩⟩⟩⟩⟩⟩⟩,qK aPP rJ,rH⟩
def KE:r5 Tryz.prog IE:=by
 refine rR PP Tryz.func53 (c:=_) rfl (N:=33) pU (ts:=[(2,some 100)]) rfl (fun _ _=>rfl) ?_;intro⟨O,Z,aA,aB,aC,aD,aE,aF⟩ hs hrow;dsimp only[a9H,a9I,a9J,rI,qR,qZ,r8,rL,Nat.reduceAdd] at hs hrow|-;obtain⟨rfl,rfl,hz⟩:=hs;obtain⟨z0,d⟩:=aVt.1 hz
 try rw[rY d]
 clear hz;unfold AT at d;refine q9 PP ?_;refine qO ?_;obtain⟨hg1,d⟩:=qG d;refine q9 PP ?_ (hp:=by exact⟨id,id,id,id,hg1,id,id,id,sP⟩);refine qS d (fun d hc1=> ?_) (fun d hc1=> ?_)
 .refine q9 PP ?_;refine qP (rD ?_);cases d;exact pF [(0,0),(1,1),(2,2),(3,3)]
 .refine r7 (qJ ?_);obtain⟨hg2,d⟩:=qG d;obtain⟨aG,hv3,hw3,d⟩:=qV d
  try simp only[go_sem] at hw3
  refine q9 PP ?_ (hp:=by exact⟨hg2,(qU hv3)⟩) (h:=by simp only[go_sem,hw3];rfl);refine q9 PP ?_;refine qP ?_;cases d;exact pF [(0,0),(1,1),(2,2),(3,3)]
attribute [irreducible] GM FA AT
end
noncomputable section
def BI (O:(List sH)) (Z:Int) (aA:Int) (aB:sD) (aC:(pM×Unit)) (aD:pD) (aE:pK):Option ((List sH)×Int×Int):=(AT O Z aA aB aC aE).bind fun aF=>if ((!decide (aF.1=(3:Int)))||(!decide (aF.2.1=aD)))=true then (zS O Z aA aB aC (3:Int) aE).bind fun aG=>(y7 O aG.1 aG.2 (aB.1,(aB.2.1,(aB.2.2.1,(aB.2.2.2.1,())))) (aC.1,()) aE).bind fun aH=>some ((aH,aG.1,aG.2)) else (y7 O Z aA aB aC aE).bind fun aI=>some ((aI,Z,aA))
section
variable (O:pD) (Z:(List sH)) (aA:Int) (aB:Int) (aC:sD) (aD:(pM×Unit)) (aE:Nat) (aF:Nat) (aG:pK)
abbrev a9K:List qC:=[(.val .ref (some (0,0)),none),(.val .str O,none)]
abbrev a9L:List qB:=[.cells sX (Z,(aA,(aB,(aC,((some 3),aD))))) [(6,1),(8,2)],.grow 53 7 aE,.grow 3 1 aF,.map .str .bool aG]
@[go_sem] def a9M:qI:=⟨[aE=(aC.2.2.2.1.length),aF=(aD.1.length),((BI Z aA aB aC aD O aG)).isSome=true],[(.val (.int .i64) ((qQ sW Z (0:Int)).2.2.1+(((qQ sW Z (0:Int)).2.1).length:Int)),none)],[.cells sX ((val (BI Z aA aB aC aD O aG)).1,((val (BI Z aA aB aC aD O aG)).2.1,((val (BI Z aA aB aC aD O aG)).2.2,((aC.1,(aC.2.1,(aC.2.2.1,(aC.2.2.2.1,())))),((some 3),(aD.1,())))))) [(6,1),(8,2)],.grow 53 7 (aC.2.2.2.1.length),.grow 3 1 (aD.1.length),.map .str .bool aG]⟩
def aID:List qC→List qB→Option qI:=rM (V:=(pD×(List sH)×Int×Int×sD×(pM×Unit)×Nat×Nat×pK)) (fun x=>a9K x.1) (fun x=>a9L x.2.1 x.2.2.1 x.2.2.2.1 x.2.2.2.2.1 x.2.2.2.2.2.1 x.2.2.2.2.2.2.1 x.2.2.2.2.2.2.2.1 x.2.2.2.2.2.2.2.2) fun x=>a9M x.1 x.2.1 x.2.2.1 x.2.2.2.1 x.2.2.2.2.1 x.2.2.2.2.2.1 x.2.2.2.2.2.2.1 x.2.2.2.2.2.2.2.1 x.2.2.2.2.2.2.2.2
@[go_sem] def aVg:aID (no_index (a9K O)) (no_index (a9L Z aA aB aC aD aE aF aG))=some (a9M O Z aA aB aC aD aE aF aG):=rQ (fun⟨a0,a1,a2,a3,a4,a5,a6,a7,a8⟩ ⟨b0,b1,b2,b3,b4,b5,b6,b7,b8⟩ h1 h2=>by cases h1;cases h2;rfl) (O,Z,aA,aB,aC,aD,aE,aF,aG)
end
@[go_sem] abbrev TS:Nat×qW:=(55,⟨[.p sX [6,8],.v],aID,[(0,7,.m)],[1,2,3],none⟩)
def MV:rF Tryz.prog [wP,sJ,zI] (rG [IE,M7,JV]):=⟨⟨xE,⟨sM,⟨A9,trivial⟩⟩⟩,qK KE (qK OU (qK MA rJ)),rH⟩
def YP:r5 Tryz.prog TS:=by
 refine rR MV Tryz.func55 (c:=_) rfl (N:=21) pU (ts:=[(4,none)]) rfl (fun _ _=>rfl) ?_;intro⟨O,Z,aA,aB,aC,aD,aE,aF,aG⟩ hs hrow;dsimp only[a9K,a9L,a9M,rI,qR,qZ,r8,rL,Nat.reduceAdd] at hs hrow|-;obtain⟨rfl,rfl,hz⟩:=hs;obtain⟨z0,d⟩:=aVt.1 hz
 try rw[rY d]
 clear hz;unfold BI at d;refine q9 MV ?_;refine qO ?_;obtain⟨aH,hv1,hw1,d⟩:=qV d
 try simp only[go_sem] at hw1
 refine q9 MV ?_ (hp:=by exact⟨pT,pT,pT,pT,pT,pT,(qU hv1)⟩) (h:=by simp only[go_sem,hw1];rfl)
 refine q9 MV ?_ (hp:=by exact⟨id,id,id,sP⟩);refine qS d (fun d hc1=> ?_) (fun d hc1=> ?_)
 .obtain⟨aI,hv2,hw2,d⟩:=qV d
  try simp only[go_sem] at hw2
  refine rC MV ?_ (hp:=by exact⟨pT,pT,pT,pT,pT,(qU hv2)⟩) (h:=by simp only[go_sem,hw2];rfl)
  refine qJ ?_;obtain⟨aJ,hv3,hw3,d⟩:=qV d
  try simp only[go_sem] at hw3
  refine q9 MV ?_ (hp:=by exact⟨pT,pT,pT,pT,pT,(qU hv3)⟩) (h:=by simp only[go_sem,hw3];rfl)
  refine qP ?_;cases d;exact pF [(0,0),(1,1),(2,2),(3,3)]
 .refine r7 (qJ ?_);obtain⟨aK,hv4,hw4,d⟩:=qV d
  try simp only[go_sem] at hw4
  refine q9 MV ?_ (hp:=by exact⟨pT,pT,pT,pT,pT,(qU hv4)⟩) (h:=by simp only[go_sem,hw4];rfl)
  refine qP ?_;cases d;exact pF [(0,0),(1,1),(2,2),(3,3)]
def BJ (O:(List sH)) (Z:Int) (aA:Int) (aB:sD) (aC:(pM×Unit)) (aD:z6) (aE:pK):Option (pD×(List sH)×Int×Int):=(y7 O Z aA aB aC aE).bind fun aF=>if (decide (aD.1=(2:Int)))=true then some ((([]:pD),aF,Z,aA)) else if 0≤(0:Int)∧(0:Int)<(aF.length:Int) then if (decide ((qQ sW aF (0:Int)).1=(3:Int)))=true then if 0≤(0:Int)∧(0:Int)<(aF.length:Int) then (GL ((qQ sW aF (0:Int)).2.1)).bind fun aG=>sQ (σ:=(Int×Int)) (if (!aG.2)=true then (zS aF Z aA (aB.1,(aB.2.1,(aB.2.2.1,(aB.2.2.2.1,())))) (aC.1,()) (3:Int) aE).bind fun aH=>some ((aH.1,aH.2)) else some ((Z,aA)) ) fun(aI,aJ)=>(y7 aF aI aJ (aB.1,(aB.2.1,(aB.2.2.1,(aB.2.2.2.1,())))) (aC.1,()) aE).bind fun aK=>(BI aK aI aJ (aB.1,(aB.2.1,(aB.2.2.1,(aB.2.2.2.1,())))) (aC.1,()) aD.2.1 aE).bind fun aL=>some ((aG.1,aL.1,aL.2.1,aL.2.2)) else none else (BI aF Z aA (aB.1,(aB.2.1,(aB.2.2.1,(aB.2.2.2.1,())))) (aC.1,()) aD.2.1 aE).bind fun aM=>some ((([]:pD),aM.1,aM.2.1,aM.2.2)) else none
section
variable (O:z6) (Z:(List sH)) (aA:Int) (aB:Int) (aC:sD) (aD:(pM×Unit)) (aE:Nat) (aF:Nat) (aG:pK)
abbrev a9N:List qC:=[(.val .ref (some (0,0)),none),(.val xD O,none)]
abbrev a9O:List qB:=[.cells sX (Z,(aA,(aB,(aC,((some 3),aD))))) [(6,1),(8,2)],.grow 53 7 aE,.grow 3 1 aF,.map .str .bool aG]
@[go_sem] def a9P:qI:=⟨[aE=(aC.2.2.2.1.length),aF=(aD.1.length),((BJ Z aA aB aC aD O aG)).isSome=true],[(.val .str ((val (BJ Z aA aB aC aD O aG)).1),none)],[.cells sX ((val (BJ Z aA aB aC aD O aG)).2.1,((val (BJ Z aA aB aC aD O aG)).2.2.1,((val (BJ Z aA aB aC aD O aG)).2.2.2,((aC.1,(aC.2.1,(aC.2.2.1,(aC.2.2.2.1,())))),((some 3),(aD.1,())))))) [(6,1),(8,2)],.grow 53 7 (aC.2.2.2.1.length),.grow 3 1 (aD.1.length),.map .str .bool aG]⟩
def aIE:List qC→List qB→Option qI:=rM (V:=(z6×(List sH)×Int×Int×sD×(pM×Unit)×Nat×Nat×pK)) (fun x=>a9N x.1) (fun x=>a9O x.2.1 x.2.2.1 x.2.2.2.1 x.2.2.2.2.1 x.2.2.2.2.2.1 x.2.2.2.2.2.2.1 x.2.2.2.2.2.2.2.1 x.2.2.2.2.2.2.2.2) fun x=>a9P x.1 x.2.1 x.2.2.1 x.2.2.2.1 x.2.2.2.2.1 x.2.2.2.2.2.1 x.2.2.2.2.2.2.1 x.2.2.2.2.2.2.2.1 x.2.2.2.2.2.2.2.2
@[go_sem] def aVh:aIE (no_index (a9N O)) (no_index (a9O Z aA aB aC aD aE aF aG))=some (a9P O Z aA aB aC aD aE aF aG):=rQ (fun⟨a0,a1,a2,a3,a4,a5,a6,a7,a8⟩ ⟨b0,b1,b2,b3,b4,b5,b6,b7,b8⟩ h1 h2=>by cases h1;cases h2;rfl) (O,Z,aA,aB,aC,aD,aE,aF,aG)
end
@[go_sem] abbrev MW:Nat×qW:=(114,⟨[.p sX [6,8],.v],aIE,[(0,7,.m)],[1,2,3],none⟩)
def AU:rF Tryz.prog [wP,sJ,CT,CV,AQ,zI] (rG [JV,a9x,M7,TS]):=⟨⟨xE,⟨sM,⟨HN,⟨ES,⟨G3,⟨A9,trivial⟩⟩⟩⟩⟩⟩,qK MA (qK aIv (qK OU (qK YP rJ))),rH⟩
def PQ:r5 Tryz.prog MW:=by
 refine rR AU Tryz.func114 (c:=_) rfl (N:=44) pU (ts:=[(4,none)]) rfl (fun _ _=>rfl) ?_;intro⟨O,Z,aA,aB,aC,aD,aE,aF,aG⟩ hs hrow;dsimp only[a9N,a9O,a9P,rI,qR,qZ,r8,rL,Nat.reduceAdd] at hs hrow|-;obtain⟨rfl,rfl,hz⟩:=hs;obtain⟨z0,d⟩:=aVt.1 hz
 try rw[rY d]
 clear hz;unfold BJ at d;refine q9 AU ?_;obtain⟨aH,hv1,hw1,d⟩:=qV d
 try simp only[go_sem] at hw1
 refine q9 AU ?_ (hp:=by exact⟨pT,pT,pT,pT,pT,(qU hv1)⟩) (h:=by simp only[go_sem,hw1];rfl)
 refine qO ?_;refine q9 AU ?_;refine qS d (fun d hc1=> ?_) (fun d hc1=> ?_)
 .refine q9 AU ?_;refine qP (rD ?_);cases d;exact pF [(0,0),(1,1),(2,2),(3,3)]
 .refine r7 (qJ ?_);refine q9 AU ?_;refine qO ?_;obtain⟨hg2,d⟩:=qG d;refine q9 AU ?_ (hp:=by exact hg2);refine qS d (fun d hc2=> ?_) (fun d hc2=> ?_)
  .obtain⟨hg3,d⟩:=qG d;obtain⟨aI,hv4,hw4,d⟩:=qV d
   try simp only[go_sem] at hw4
   refine q9 AU ?_ (hp:=by exact⟨hg3,(qU hv4)⟩) (h:=by simp only[go_sem,hw4];rfl);refine qO ?_;refine q9 AU ?_;obtain⟨y1,f,d⟩:=qM d;refine yM (fun s=>s=(fun x=>⟨[(0,(.val .ref (some (0,0)),none)),(3,(.val .ref (some (4,0)),none)),(6,(.val .str aI.1,none))],[(0,.cells sX (aH,(x.1,(x.2,((aC.1,(aC.2.1,(aC.2.2.1,(aC.2.2.2.1,())))),((some 3),(aD.1,())))))) [(6,1),(8,2)]),(1,.grow 53 7 (aC.2.2.2.1.length)),(2,.grow 3 1 (aD.1.length)),(3,.map .str .bool aG),(4,.cells xD O [])],5,44,4⟩) y1) ?_ ?_
   .refine qS f (fun f hc3=> ?_) (fun f hc3=> ?_)
    .obtain⟨aJ,hv5,hw5,f⟩:=qV f
     try simp only[go_sem] at hw5
     refine rC AU ?_ (hp:=by exact⟨pT,pT,pT,pT,pT,(qU hv5)⟩) (h:=by simp only[go_sem,hw5];rfl)
     cases f;exact u6 ⟨⟨[0,3,6],[(0,0),(1,1),(2,2),(3,3),(4,4)]⟩,by rfl⟩
    .refine r7 ?_;cases f;exact u6 ⟨⟨[0,3,6],[(0,0),(1,1),(2,2),(3,3),(4,4)]⟩,by rfl⟩
   .rintro _ rfl;obtain⟨aK,aL⟩:=y1;dsimp only at d|-;refine qJ ?_;refine q9 AU ?_;obtain⟨aM,hv6,hw6,d⟩:=qV d
    try simp only[go_sem] at hw6
    refine rC AU ?_ (hp:=by exact⟨pT,pT,pT,pT,pT,(qU hv6)⟩) (h:=by simp only[go_sem,hw6];rfl)
    refine qJ ?_;obtain⟨aN,hv7,hw7,d⟩:=qV d
    try simp only[go_sem] at hw7
    refine q9 AU ?_ (hp:=by exact⟨pT,pT,pT,pT,pT,(qU hv7)⟩) (h:=by simp only[go_sem,hw7];rfl)
    refine q9 AU ?_;refine qP ?_;cases d;exact pF [(0,0),(1,1),(2,2),(3,3)]
  .refine r7 (qJ ?_);obtain⟨aO,hv8,hw8,d⟩:=qV d
   try simp only[go_sem] at hw8
   refine q9 AU ?_ (hp:=by exact⟨pT,pT,pT,pT,pT,(qU hv8)⟩) (h:=by simp only[go_sem,hw8];rfl)
   refine q9 AU ?_;refine qP ?_;cases d;exact pF [(0,0),(1,1),(2,2),(3,3)]
def D2 (O:(List sH)) (Z:Int) (aA:Int) (aB:sD) (aC:(pM×Unit)) (aD:z6) (aE:s0) (aF:pK):Option ((List sH)×Int×Int×pE):=if ((wQ aD ([]:pD) ([]:pD))).isSome=true then (wQ aD ([]:pD) ([]:pD)).bind fun aG=>(xT O Z aA aB aC (!true) aD.2.2.2.1 (decide ((aE.2.2.2.1.length:Int)=(20:Int))) aF).bind fun aH=>(BJ O aH.1 aH.2 (aB.1,(aB.2.1,(aB.2.2.1,(aB.2.2.2.1,())))) (aC.1,()) aD aF).bind fun aI=>if (aE.2.2.2.1.length+([aI.1]:pE).length)*16≤140737488355328 then some ((aI.2.1,aI.2.2.1,aI.2.2.2,(aE.2.2.2.1++([aI.1]:pE)))) else none else (DR aD ([]:pD) ([]:pD)).bind fun aJ=>(xT O Z aA aB aC (!false) aD.2.2.2.1 (decide ((aE.2.2.2.1.length:Int)=(20:Int))) aF).bind fun aK=>(BJ O aK.1 aK.2 (aB.1,(aB.2.1,(aB.2.2.1,(aB.2.2.2.1,())))) (aC.1,()) aD aF).bind fun aL=>if (aE.2.2.2.1.length+([aL.1]:pE).length)*16≤140737488355328 then some ((aL.2.1,aL.2.2.1,aL.2.2.2,(aE.2.2.2.1++([aL.1]:pE)))) else none
section
variable (O:z6) (Z:(List sH)) (aA:Int) (aB:Int) (aC:sD) (aD:(pM×Unit)) (aE:Nat) (aF:Nat) (aG:s0) (aH:Nat) (aI:pK)
abbrev a9Q:List qC:=[(.val .ref (some (0,0)),none),(.val xD O,none),(.val .ref (some (3,0)),none)]
abbrev a9R:List qB:=[.cells sX (Z,(aA,(aB,(aC,((some 5),aD))))) [(6,1),(8,2)],.grow 53 7 aE,.grow 3 1 aF,.cells s7 aG [(3,4)],.grow 9 1 aH,.map .str .bool aI]
@[go_sem] def a9S:qI:=⟨[aE=(aC.2.2.2.1.length),aF=(aD.1.length),aH=(aG.2.2.2.1.length),((D2 Z aA aB aC aD O aG aI)).isSome=true],[],[.cells sX ((val (D2 Z aA aB aC aD O aG aI)).1,((val (D2 Z aA aB aC aD O aG aI)).2.1,((val (D2 Z aA aB aC aD O aG aI)).2.2.1,((aC.1,(aC.2.1,(aC.2.2.1,(aC.2.2.2.1,())))),((some 5),(aD.1,())))))) [(6,1),(8,2)],.grow 53 7 (aC.2.2.2.1.length),.grow 3 1 (aD.1.length),.cells s7 (aG.1,(aG.2.1,(aG.2.2.1,((val (D2 Z aA aB aC aD O aG aI)).2.2.2,(aG.2.2.2.2.1,(aG.2.2.2.2.2.1,(aG.2.2.2.2.2.2.1,()))))))) [(3,4)],.grow 9 1 (((val (D2 Z aA aB aC aD O aG aI)).2.2.2).length),.map .str .bool aI]⟩
def aIF:List qC→List qB→Option qI:=rM (V:=(z6×(List sH)×Int×Int×sD×(pM×Unit)×Nat×Nat×s0×Nat×pK)) (fun x=>a9Q x.1) (fun x=>a9R x.2.1 x.2.2.1 x.2.2.2.1 x.2.2.2.2.1 x.2.2.2.2.2.1 x.2.2.2.2.2.2.1 x.2.2.2.2.2.2.2.1 x.2.2.2.2.2.2.2.2.1 x.2.2.2.2.2.2.2.2.2.1 x.2.2.2.2.2.2.2.2.2.2) fun x=>a9S x.1 x.2.1 x.2.2.1 x.2.2.2.1 x.2.2.2.2.1 x.2.2.2.2.2.1 x.2.2.2.2.2.2.1 x.2.2.2.2.2.2.2.1 x.2.2.2.2.2.2.2.2.1 x.2.2.2.2.2.2.2.2.2.1 x.2.2.2.2.2.2.2.2.2.2
@[go_sem] def aVi:aIF (no_index (a9Q O)) (no_index (a9R Z aA aB aC aD aE aF aG aH aI))=some (a9S O Z aA aB aC aD aE aF aG aH aI):=rQ (fun⟨a0,a1,a2,a3,a4,a5,a6,a7,a8,a9,a10⟩ ⟨b0,b1,b2,b3,b4,b5,b6,b7,b8,b9,b10⟩ h1 h2=>by cases h1;cases h2;rfl) (O,Z,aA,aB,aC,aD,aE,aF,aG,aH,aI)
end
@[go_sem] abbrev TT:Nat×qW:=(83,⟨[.p sX [6,8],.v,.p s7 [3]],aIF,[(0,7,.m)],[1,2,5],none⟩)
def MX:rF Tryz.prog [BF,vU,xI,zI] (rG [P8,EV,MW]):=⟨⟨CX,⟨w7,⟨y5,⟨A9,trivial⟩⟩⟩⟩,qK T3 (qK GC (qK PQ rJ)),rH⟩
def aPQ:rF Tryz.prog [BF,vU,xI,zI] (rG [EV,MW,PA]):=⟨⟨CX,⟨w7,⟨y5,⟨A9,trivial⟩⟩⟩⟩,qK GC (qK PQ (qK T4 rJ)),rH⟩
def YQ:r5 Tryz.prog TT:=by
 refine rR MX Tryz.func83 (c:=_) rfl (N:=37) pU (ts:=[]) rfl (fun _ _=>rfl) ?_;intro⟨O,Z,aA,aB,aC,aD,aE,aF,aG,aH,aI⟩ hs hrow;dsimp only[a9Q,a9R,a9S,rI,qR,qZ,r8,rL,Nat.reduceAdd] at hs hrow|-;obtain⟨rfl,rfl,rfl,hz⟩:=hs;obtain⟨z0,d⟩:=aVt.1 hz
 try rw[rY d]
 clear hz;unfold D2 at d;refine q9 MX ?_;refine qO ?_;by_cases hva1:((wQ O ([]:pD) ([]:pD))).isSome=true
 .rw[aVs hva1] at d;obtain⟨aJ,hv1,hw1,d⟩:=qV d
  try simp only[go_sem] at hw1
  refine rC MX ?_ (hp:=by exact(qU hv1)) (h:=by simp only[go_sem,hw1];rfl);refine qJ ?_;obtain⟨aK,hv2,hw2,d⟩:=qV d
  try simp only[go_sem] at hw2
  refine vY MX ?_ (hp:=by exact⟨pT,pT,pT,pT,pT,(qU hv2)⟩) (h:=by simp only[go_sem,hw2];rfl)
  obtain⟨aL,hv3,hw3,d⟩:=qV d
  try simp only[go_sem] at hw3
  obtain⟨hg4,d⟩:=qG d;refine BD MX ?_ (hp:=by exact⟨pT,pT,pT,pT,pT,qU hv3,pT,hg4⟩) (h:=by simp only[go_sem,hw3];rfl)
  cases d;exact pF [(0,0),(1,1),(2,2),(3,3),(4,4),(5,5)]
 rw[aVv hva1] at d;obtain⟨aM,hv5,hw5,d⟩:=qV d
 try simp only[go_sem] at hw5
 refine rC aPQ ?_ (hp:=by exact(qU hv5)) (h:=by simp only[go_sem,hw5];rfl);refine qJ ?_;obtain⟨aN,hv6,hw6,d⟩:=qV d
 try simp only[go_sem] at hw6
 refine vY MX ?_ (hp:=by exact⟨pT,pT,pT,pT,pT,(qU hv6)⟩) (h:=by simp only[go_sem,hw6];rfl)
 obtain⟨aO,hv7,hw7,d⟩:=qV d
 try simp only[go_sem] at hw7
 obtain⟨hg8,d⟩:=qG d;refine BD MX ?_ (hp:=by exact⟨pT,pT,pT,pT,pT,qU hv7,pT,hg8⟩) (h:=by simp only[go_sem,hw7];rfl)
 cases d;exact pF [(0,0),(1,1),(2,2),(3,3),(4,4),(5,5)]
attribute [irreducible] BI BJ D2
end
noncomputable section
def TU (O:z6):(Bool×Int)→Option ((Bool×Int)⊕Bool):=fun(Z,aA)=>if (decide (aA<(O.2.2.1.length:Int)))=true then if 0≤aA∧aA<(O.2.2.1.length:Int) then if ((Z==true)=true→((CY ((qQ (.pair .str (.pair .str .unit)) O.2.2.1 aA).2.1))).isSome=true) then if qD (aA+(1:Int)) then some (.inl ((Z&&(val (CY ((qQ (.pair .str (.pair .str .unit)) O.2.2.1 aA).2.1)))),(aA+(1:Int)))) else none else none else none else some (.inr Z)
def TV (O:z6):(Bool×Int)→Option ((Bool×Int)⊕Bool):=fun(Z,aA)=>if (decide (aA<(O.2.2.1.length:Int)))=true then if 0≤aA∧aA<(O.2.2.1.length:Int) then if ((Z==true)=true→((CY ((qQ (.pair .str (.pair .str .unit)) O.2.2.1 aA).2.1))).isSome=true) then if qD (aA+(1:Int)) then some (.inl ((Z&&(val (CY ((qQ (.pair .str (.pair .str .unit)) O.2.2.1 aA).2.1)))),(aA+(1:Int)))) else none else none else none else some (.inr Z)
def D3 (O:(List sH)) (Z:Int) (aA:Int) (aB:sD) (aC:(pM×Unit)) (aD:z6) (aE:s0) (aF:pK):Option ((List sH)×Int×Int×(List r6)):=if ((wQ aD ([110,97,109,101]:pD) ([]:pD))).isSome=true then (wQ aD ([110,97,109,101]:pD) ([]:pD)).bind fun aG=>(IA aE.2.2.2.2.2.2.1 (s8 .str .str aG ([110,97,109,101]:pD))).bind fun aH=>sQ (rO (TU aD) (true,(0:Int))) fun aI=>(xT O Z aA (aB.1,(aB.2.1,(aB.2.2.1,(aB.2.2.2.1,())))) (aC.1,()) ((!true)||(!aI)) (aD.2.2.2.1||aH.2) (decide ((aE.2.2.2.2.2.2.1.length:Int)=(20:Int))) aF).bind fun aJ=>(BJ O aJ.1 aJ.2 (aB.1,(aB.2.1,(aB.2.2.1,(aB.2.2.2.1,())))) (aC.1,()) aD aF).bind fun aK=>(I5 aE.2.2.2.2.2.2.1 (s8 .str .str aG ([110,97,109,101]:pD)) aK.1).bind fun aL=>some ((aK.2.1,aK.2.2.1,aK.2.2.2,aL)) else (DR aD ([110,97,109,101]:pD) ([]:pD)).bind fun aM=>(IA aE.2.2.2.2.2.2.1 ([]:pD)).bind fun aN=>sQ (rO (TV aD) (true,(0:Int))) fun aO=>(xT O Z aA (aB.1,(aB.2.1,(aB.2.2.1,(aB.2.2.2.1,())))) (aC.1,()) ((!false)||(!aO)) (aD.2.2.2.1||aN.2) (decide ((aE.2.2.2.2.2.2.1.length:Int)=(20:Int))) aF).bind fun aP=>(BJ O aP.1 aP.2 (aB.1,(aB.2.1,(aB.2.2.1,(aB.2.2.2.1,())))) (aC.1,()) aD aF).bind fun aQ=>(I5 aE.2.2.2.2.2.2.1 ([]:pD) aQ.1).bind fun aR=>some ((aQ.2.1,aQ.2.2.1,aQ.2.2.2,aR))
section
variable (O:z6) (Z:(List sH)) (aA:Int) (aB:Int) (aC:sD) (aD:(pM×Unit)) (aE:Nat) (aF:Nat) (aG:s0) (aH:Nat) (aI:pK)
abbrev a9T:List qC:=[(.val .ref (some (0,0)),none),(.val xD O,none),(.val .ref (some (3,0)),none)]
abbrev a9U:List qB:=[.cells sX (Z,(aA,(aB,(aC,((some 5),aD))))) [(6,1),(8,2)],.grow 53 7 aE,.grow 3 1 aF,.cells s7 aG [(3,4)],.grow 9 1 aH,.map .str .bool aI]
@[go_sem] def a9V:qI:=⟨[aE=(aC.2.2.2.1.length),aF=(aD.1.length),aH=(aG.2.2.2.1.length),((D3 Z aA aB aC aD O aG aI)).isSome=true],[],[.cells sX ((val (D3 Z aA aB aC aD O aG aI)).1,((val (D3 Z aA aB aC aD O aG aI)).2.1,((val (D3 Z aA aB aC aD O aG aI)).2.2.1,((aC.1,(aC.2.1,(aC.2.2.1,(aC.2.2.2.1,())))),((some 5),(aD.1,())))))) [(6,1),(8,2)],.grow 53 7 (aC.2.2.2.1.length),.grow 3 1 (aD.1.length),.cells s7 (aG.1,(aG.2.1,(aG.2.2.1,(aG.2.2.2.1,(aG.2.2.2.2.1,(aG.2.2.2.2.2.1,((val (D3 Z aA aB aC aD O aG aI)).2.2.2,()))))))) [(3,4),(6,6)],.grow 9 1 (aG.2.2.2.1.length),.map .str .bool aI,.grow 111 2 (((val (D3 Z aA aB aC aD O aG aI)).2.2.2).length)]⟩
def aIG:List qC→List qB→Option qI:=rM (V:=(z6×(List sH)×Int×Int×sD×(pM×Unit)×Nat×Nat×s0×Nat×pK)) (fun x=>a9T x.1) (fun x=>a9U x.2.1 x.2.2.1 x.2.2.2.1 x.2.2.2.2.1 x.2.2.2.2.2.1 x.2.2.2.2.2.2.1 x.2.2.2.2.2.2.2.1 x.2.2.2.2.2.2.2.2.1 x.2.2.2.2.2.2.2.2.2.1 x.2.2.2.2.2.2.2.2.2.2) fun x=>a9V x.1 x.2.1 x.2.2.1 x.2.2.2.1 x.2.2.2.2.1 x.2.2.2.2.2.1 x.2.2.2.2.2.2.1 x.2.2.2.2.2.2.2.1 x.2.2.2.2.2.2.2.2.1 x.2.2.2.2.2.2.2.2.2.1 x.2.2.2.2.2.2.2.2.2.2
@[go_sem] def aVj:aIG (no_index (a9T O)) (no_index (a9U Z aA aB aC aD aE aF aG aH aI))=some (a9V O Z aA aB aC aD aE aF aG aH aI):=rQ (fun⟨a0,a1,a2,a3,a4,a5,a6,a7,a8,a9,a10⟩ ⟨b0,b1,b2,b3,b4,b5,b6,b7,b8,b9,b10⟩ h1 h2=>by cases h1;cases h2;rfl) (O,Z,aA,aB,aC,aD,aE,aF,aG,aH,aI)
end
@[go_sem] abbrev TW:Nat×qW:=(84,⟨[.p sX [6,8],.v,.p s7 [3]],aIG,[(0,7,.m)],[1,2,4,5],none⟩)
def yN:rF Tryz.prog [BF,sJ,xJ,xI,CW,zI,G8,BV] (rG [P8,a74,OX,EV,MW,a7r]):=⟨⟨CX,⟨sM,⟨y6,⟨y5,⟨ET,⟨A9,⟨JN,⟨DN,trivial⟩⟩⟩⟩⟩⟩⟩⟩,qK T3 (qK aHJ (qK SP (qK GC (qK PQ (qK aHp rJ))))),rH⟩
def aPR:rF Tryz.prog [BF,sJ,xJ,xI,CW,zI,G8,BV] (rG [a74,OX,EV,MW,a7r,PA]):=⟨⟨CX,⟨sM,⟨y6,⟨y5,⟨ET,⟨A9,⟨JN,⟨DN,trivial⟩⟩⟩⟩⟩⟩⟩⟩,qK aHJ (qK SP (qK GC (qK PQ (qK aHp (qK T4 rJ))))),rH⟩
def YR:r5 Tryz.prog TW:=by
 refine rR yN Tryz.func84 (c:=_) rfl (N:=74) pU (ts:=[]) rfl (fun _ _=>rfl) ?_;intro⟨O,Z,aA,aB,aC,aD,aE,aF,aG,aH,aI⟩ hs hrow;dsimp only[a9T,a9U,a9V,rI,qR,qZ,r8,rL,Nat.reduceAdd] at hs hrow|-;obtain⟨rfl,rfl,rfl,hz⟩:=hs;obtain⟨z0,d⟩:=aVt.1 hz
 try rw[rY d]
 clear hz;unfold D3 at d;refine q9 yN ?_;refine qO ?_;by_cases hva1:((wQ O ([110,97,109,101]:pD) ([]:pD))).isSome=true
 .rw[aVs hva1] at d;obtain⟨aJ,hv1,hw1,d⟩:=qV d
  try simp only[go_sem] at hw1
  refine rC yN ?_ (hp:=by exact(qU hv1)) (h:=by simp only[go_sem,hw1];rfl);refine qJ ?_;obtain⟨aK,hv2,hw2,d⟩:=qV d
  try simp only[go_sem] at hw2
  refine vY yN ?_ (hp:=by exact(qU hv2)) (h:=by simp only[go_sem,hw2];rfl);refine q9 yN ?_;refine qO ?_;refine q9 yN ?_;refine rP ?_;obtain⟨aL,hy1,d⟩:=qM d;refine tV 0 (fun s=>s=(fun x=>⟨[(0,(.val .ref (some (0,0)),none)),(2,(.val .ref (some (3,0)),none)),(4,(.val .ref (some (6,0)),none)),(6,(.val .mp (some 7),none)),(7,(.val .bool true,none)),(9,(.val .bool aK.2,none)),(10,(.val .bool x,none))],[(0,.cells sX (Z,(aA,(aB,((aC.1,(aC.2.1,(aC.2.2.1,(aC.2.2.2.1,())))),((some 5),(aD.1,())))))) [(6,1),(8,2)]),(1,.grow 53 7 (aC.2.2.2.1.length)),(2,.grow 3 1 (aD.1.length)),(3,.cells s7 aG [(3,4)]),(4,.grow 9 1 (aG.2.2.2.1.length)),(5,.map .str .bool aI),(6,.cells xD O []),(7,.map .str .str aJ)],8,74,6⟩) aL) ?_ ?_
  .refine tP hy1 (fun x=>⟨[(0,(.val .ref (some (0,0)),none)),(2,(.val .ref (some (3,0)),none)),(4,(.val .ref (some (6,0)),none)),(6,(.val .mp (some 7),none)),(7,(.val .bool true,none)),(9,(.val .bool aK.2,none)),(10,(.val .bool x.1,none)),(29,(.val (.list (.pair .str (.pair .str .unit))) O.2.2.1,none)),(30,(.val (.int .i64) (O.2.2.1.length:Int),none)),(31,(.val (.int .i64) x.2,none))],[(0,.cells sX (Z,(aA,(aB,((aC.1,(aC.2.1,(aC.2.2.1,(aC.2.2.2.1,())))),((some 5),(aD.1,())))))) [(6,1),(8,2)]),(1,.grow 53 7 (aC.2.2.2.1.length)),(2,.grow 3 1 (aD.1.length)),(3,.cells s7 aG [(3,4)]),(4,.grow 9 1 (aG.2.2.2.1.length)),(5,.map .str .bool aI),(6,.cells xD O []),(7,.map .str .str aJ)],8,74,6⟩) ⟨[0,2,4,6,7,9,10,29,30,31],[(0,0),(1,1),(2,2),(3,3),(4,4),(5,5),(6,6),(7,70)]⟩ pV ?_;intro x1 w1 n1 e g;obtain⟨aM,aN⟩:=x1;unfold TU at e;dsimp only at e|-;refine q9 yN ?_;refine qO ?_;refine qS e (fun e hc2=> ?_) (fun e hc2=> ?_)
   .refine r7 (qJ (qO (rP ?_)));obtain⟨hg3,e⟩:=qG e;refine q9 yN ?_ (hp:=by exact hg3);obtain⟨hg4,e⟩:=qG e;refine rC yN ?_ (hp:=by exact⟨id,id,hg4,sB⟩);refine rU (qJ ?_);obtain⟨hg5,e⟩:=qG e;refine rC yN ?_ (hp:=by exact hg5);cases e;exact sU ⟨⟨[0,2,4,6,7,9,10,29,30,31],[(0,0),(1,1),(2,2),(3,3),(4,4),(5,5),(6,6),(7,7)]⟩,_,by rfl,g⟩
   .refine tK (tJ (tN ?_));cases e;cases g;exact tM ⟨⟨[0,2,4,6,7,9,10],[(0,0),(1,1),(2,2),(3,3),(4,4),(5,5),(6,6),(7,7)]⟩,by rfl⟩
  .rintro _ rfl;dsimp only at d|-;refine tU (qJ ?_);obtain⟨aO,hv6,hw6,d⟩:=qV d
   try simp only[go_sem] at hw6
   refine vY yN ?_ (hp:=by exact⟨id,fun f=>by first|exact sP f|exact rfl|exact f.elim|simp_all,sP,pT,pT,pT,pT,pT,(qU hv6)⟩) (h:=by simp only[go_sem,hw6];rfl)
   obtain⟨aP,hv7,hw7,d⟩:=qV d
   try simp only[go_sem] at hw7
   obtain⟨aQ,hv8,hw8,d⟩:=qV d
   try simp only[go_sem] at hw8
   refine BD yN ?_ (hp:=by exact⟨pT,pT,pT,pT,pT,qU hv7,(qU hv8)⟩) (h:=by simp only[go_sem,hw7,hw8];rfl)
   cases d;exact pF [(0,0),(1,1),(2,2),(3,3),(4,4),(5,5),(6,936)]
 rw[aVv hva1] at d;obtain⟨aR,hv9,hw9,d⟩:=qV d
 try simp only[go_sem] at hw9
 refine rC aPR ?_ (hp:=by exact(qU hv9)) (h:=by simp only[go_sem,hw9];rfl);refine qJ ?_;obtain⟨aS,hv10,hw10,d⟩:=qV d
 try simp only[go_sem] at hw10
 refine vY yN ?_ (hp:=by exact(qU hv10)) (h:=by simp only[go_sem,hw10];rfl);refine q9 yN ?_;refine qO ?_;refine q9 yN ?_;refine rP ?_;obtain⟨aT,hy1,d⟩:=qM d;refine tV 0 (fun s=>s=(fun x=>⟨[(0,(.val .ref (some (0,0)),none)),(2,(.val .ref (some (3,0)),none)),(4,(.val .ref (some (6,0)),none)),(6,(.val .mp none,none)),(7,(.val .bool false,none)),(9,(.val .bool aS.2,none)),(10,(.val .bool x,none))],[(0,.cells sX (Z,(aA,(aB,((aC.1,(aC.2.1,(aC.2.2.1,(aC.2.2.2.1,())))),((some 5),(aD.1,())))))) [(6,1),(8,2)]),(1,.grow 53 7 (aC.2.2.2.1.length)),(2,.grow 3 1 (aD.1.length)),(3,.cells s7 aG [(3,4)]),(4,.grow 9 1 (aG.2.2.2.1.length)),(5,.map .str .bool aI),(6,.cells xD O [])],7,74,6⟩) aT) ?_ ?_
 .refine tP hy1 (fun x=>⟨[(0,(.val .ref (some (0,0)),none)),(2,(.val .ref (some (3,0)),none)),(4,(.val .ref (some (6,0)),none)),(6,(.val .mp none,none)),(7,(.val .bool false,none)),(9,(.val .bool aS.2,none)),(10,(.val .bool x.1,none)),(29,(.val (.list (.pair .str (.pair .str .unit))) O.2.2.1,none)),(30,(.val (.int .i64) (O.2.2.1.length:Int),none)),(31,(.val (.int .i64) x.2,none))],[(0,.cells sX (Z,(aA,(aB,((aC.1,(aC.2.1,(aC.2.2.1,(aC.2.2.2.1,())))),((some 5),(aD.1,())))))) [(6,1),(8,2)]),(1,.grow 53 7 (aC.2.2.2.1.length)),(2,.grow 3 1 (aD.1.length)),(3,.cells s7 aG [(3,4)]),(4,.grow 9 1 (aG.2.2.2.1.length)),(5,.map .str .bool aI),(6,.cells xD O [])],7,74,6⟩) ⟨[0,2,4,6,7,9,10,29,30,31],[(0,0),(1,1),(2,2),(3,3),(4,4),(5,5),(6,6)]⟩ pV ?_;intro x1 w1 n1 e g;obtain⟨aU,aV⟩:=x1;unfold TV at e;dsimp only at e|-;refine q9 yN ?_;refine qO ?_;refine qS e (fun e hc3=> ?_) (fun e hc3=> ?_)
  .refine r7 (qJ (qO (rP ?_)));obtain⟨hg11,e⟩:=qG e;refine q9 yN ?_ (hp:=by exact hg11);obtain⟨hg12,e⟩:=qG e;refine rC yN ?_ (hp:=by exact⟨id,id,hg12,sB⟩);refine rU (qJ ?_);obtain⟨hg13,e⟩:=qG e;refine rC yN ?_ (hp:=by exact hg13);cases e;exact sU ⟨⟨[0,2,4,6,7,9,10,29,30,31],[(0,0),(1,1),(2,2),(3,3),(4,4),(5,5),(6,6)]⟩,_,by rfl,g⟩
  .refine tK (tJ (tN ?_));cases e;cases g;exact tM ⟨⟨[0,2,4,6,7,9,10],[(0,0),(1,1),(2,2),(3,3),(4,4),(5,5),(6,6)]⟩,by rfl⟩
 .rintro _ rfl;dsimp only at d|-;refine tU (qJ ?_);obtain⟨aW,hv14,hw14,d⟩:=qV d
  try simp only[go_sem] at hw14
  refine vY yN ?_ (hp:=by exact⟨id,fun f=>by first|exact sP f|exact rfl|exact f.elim|simp_all,sP,pT,pT,pT,pT,pT,(qU hv14)⟩) (h:=by simp only[go_sem,hw14];rfl)
  obtain⟨aX,hv15,hw15,d⟩:=qV d
  try simp only[go_sem] at hw15
  obtain⟨aY,hv16,hw16,d⟩:=qV d
  try simp only[go_sem] at hw16
  refine BD yN ?_ (hp:=by exact⟨pT,pT,pT,pT,pT,qU hv15,(qU hv16)⟩) (h:=by simp only[go_sem,hw15,hw16];rfl)
  cases d;exact pF [(0,0),(1,1),(2,2),(3,3),(4,4),(5,5),(6,935)]
attribute [irreducible] D3
end
noncomputable section
def AB (O:sD) (Z:(pM×Unit)) (aA:s0) (aB:pK):((List sH)×Int×Int×pD×pD×pE×(List r6)×pK)→Option (((List sH)×Int×Int×pD×pD×pE×(List r6)×pK)⊕(Int×(List sH)×Int×Int×pD×pD×pE×(List r6))):=fun(aC,aD,aE,aF,aG,aH,aI,aJ)=>(AA aC aD aE (O.1,(O.2.1,(O.2.2.1,(O.2.2.2.1,())))) (Z.1,()) aB).bind fun aK=>(AT aK aD aE (O.1,(O.2.1,(O.2.2.1,(O.2.2.2.1,())))) (Z.1,()) aB).bind fun aL=>if ((decide (aL.1=(3:Int)))||(decide (aL.1=(0:Int))))=true then (BI aK aD aE (O.1,(O.2.1,(O.2.2.1,(O.2.2.2.1,())))) (Z.1,()) ([101,110,116,114,121]:pD) aB).bind fun aM=>some (.inr ((((qQ sW aK (0:Int)).2.2.1+(((qQ sW aK (0:Int)).2.1).length:Int)),aM.1,aM.2.1,aM.2.2,aF,aG,aH,aI))) else if (decide (aL.2.1=([99,111,109,109,101,110,116]:pD)))=true then (D2 aK aD aE (O.1,(O.2.1,(O.2.2.1,(O.2.2.2.1,())))) (Z.1,()) (aL.1,(aL.2.1,(aL.2.2.1,(aL.2.2.2,())))) (aA.1,(aF,(aG,(aH,(aA.2.2.2.2.1,(aA.2.2.2.2.2.1,(aI,()))))))) aB).bind fun aN=>some (.inl (aN.1,aN.2.1,aN.2.2.1,aF,aG,aN.2.2.2,aI,aJ)) else if (decide (aL.2.1=([102,105,101,108,100]:pD)))=true then (D3 aK aD aE (O.1,(O.2.1,(O.2.2.1,(O.2.2.2.1,())))) (Z.1,()) (aL.1,(aL.2.1,(aL.2.2.1,(aL.2.2.2,())))) (aA.1,(aF,(aG,(aH,(aA.2.2.2.2.1,(aA.2.2.2.2.2.1,(aI,()))))))) aB).bind fun aO=>some (.inl (aO.1,aO.2.1,aO.2.2.1,aF,aG,aH,aO.2.2.2,aJ)) else sQ (σ:=Bool) (if (decide (aL.2.1=([115,111,117,114,99,101]:pD)))=true then some ((decide (aL.2.1=([115,111,117,114,99,101]:pD)))) else some ((decide (aL.2.1=([116,97,114,103,101,116]:pD)))) ) fun aP=>if aP=true then if ((wQ (aL.1,(aL.2.1,(aL.2.2.1,(aL.2.2.2,())))) ([]:pD) ([]:pD))).isSome=true then (wQ (aL.1,(aL.2.1,(aL.2.2.1,(aL.2.2.2,())))) ([]:pD) ([]:pD)).bind fun aQ=>(xT aK aD aE (O.1,(O.2.1,(O.2.2.1,(O.2.2.2.1,())))) (Z.1,()) (!true) (aL.2.2.2||(s8 .str .bool aJ aL.2.1)) false aB).bind fun aR=>(BJ aK aR.1 aR.2 (O.1,(O.2.1,(O.2.2.1,(O.2.2.2.1,())))) (Z.1,()) (aL.1,(aL.2.1,(aL.2.2.1,(aL.2.2.2,())))) aB).bind fun aS=>if (decide (aL.2.1=([115,111,117,114,99,101]:pD)))=true then some (.inl (aS.2.1,aS.2.2.1,aS.2.2.2,aS.1,aG,aH,aI,(tW .str .bool aL.2.1 true aJ))) else some (.inl (aS.2.1,aS.2.2.1,aS.2.2.2,aF,aS.1,aH,aI,(tW .str .bool aL.2.1 true aJ))) else (DR (aL.1,(aL.2.1,(aL.2.2.1,(aL.2.2.2,())))) ([]:pD) ([]:pD)).bind fun aT=>(xT aK aD aE (O.1,(O.2.1,(O.2.2.1,(O.2.2.2.1,())))) (Z.1,()) (!false) (aL.2.2.2||(s8 .str .bool aJ aL.2.1)) false aB).bind fun aU=>(BJ aK aU.1 aU.2 (O.1,(O.2.1,(O.2.2.1,(O.2.2.2.1,())))) (Z.1,()) (aL.1,(aL.2.1,(aL.2.2.1,(aL.2.2.2,())))) aB).bind fun aV=>if (decide (aL.2.1=([115,111,117,114,99,101]:pD)))=true then some (.inl (aV.2.1,aV.2.2.1,aV.2.2.2,aV.1,aG,aH,aI,(tW .str .bool aL.2.1 true aJ))) else some (.inl (aV.2.1,aV.2.2.1,aV.2.2.2,aF,aV.1,aH,aI,(tW .str .bool aL.2.1 true aJ))) else (zS aK aD aE (O.1,(O.2.1,(O.2.2.1,(O.2.2.2.1,())))) (Z.1,()) (3:Int) aB).bind fun aW=>some (.inl (aK,aW.1,aW.2,aF,aG,aH,aI,aJ))
def zK (O:(List sH)) (Z:Int) (aA:Int) (aB:sD) (aC:(pM×Unit)) (aD:s0) (aE:pK):Option (Int×(List sH)×Int×Int×pD×pD×pE×(List r6)):=rO (AB aB aC aD aE) (O,Z,aA,aD.2.1,aD.2.2.1,aD.2.2.2.1,aD.2.2.2.2.2.2.1,([]:pK))
section
variable (O:(List sH)) (Z:Int) (aA:Int) (aB:sD) (aC:(pM×Unit)) (aD:Nat) (aE:Nat) (aF:s0) (aG:Nat) (aH:pK)
abbrev a9W:List qC:=[(.val .ref (some (0,0)),none),(.val .ref (some (3,0)),none)]
abbrev a9X:List qB:=[.cells sX (O,(Z,(aA,(aB,((some 5),aC))))) [(6,1),(8,2)],.grow 53 7 aD,.grow 3 1 aE,.cells s7 aF [(3,4)],.grow 9 1 aG,.map .str .bool aH]
@[go_sem] def a9Y:qI:=⟨[aD=(aB.2.2.2.1.length),aE=(aC.1.length),aG=(aF.2.2.2.1.length),((zK O Z aA aB aC aF aH)).isSome=true],[(.val (.int .i64) ((val (zK O Z aA aB aC aF aH)).1),none)],[.cells sX ((val (zK O Z aA aB aC aF aH)).2.1,((val (zK O Z aA aB aC aF aH)).2.2.1,((val (zK O Z aA aB aC aF aH)).2.2.2.1,((aB.1,(aB.2.1,(aB.2.2.1,(aB.2.2.2.1,())))),((some 5),(aC.1,())))))) [(6,1),(8,2)],.grow 53 7 (aB.2.2.2.1.length),.grow 3 1 (aC.1.length),.cells s7 (aF.1,((val (zK O Z aA aB aC aF aH)).2.2.2.2.1,((val (zK O Z aA aB aC aF aH)).2.2.2.2.2.1,((val (zK O Z aA aB aC aF aH)).2.2.2.2.2.2.1,(aF.2.2.2.2.1,(aF.2.2.2.2.2.1,((val (zK O Z aA aB aC aF aH)).2.2.2.2.2.2.2,()))))))) [(3,4)],.grow 9 1 (((val (zK O Z aA aB aC aF aH)).2.2.2.2.2.2.1).length),.map .str .bool aH]⟩
def aIH:List qC→List qB→Option qI:=rM (V:=((List sH)×Int×Int×sD×(pM×Unit)×Nat×Nat×s0×Nat×pK)) (fun x=>a9W) (fun x=>a9X x.1 x.2.1 x.2.2.1 x.2.2.2.1 x.2.2.2.2.1 x.2.2.2.2.2.1 x.2.2.2.2.2.2.1 x.2.2.2.2.2.2.2.1 x.2.2.2.2.2.2.2.2.1 x.2.2.2.2.2.2.2.2.2) fun x=>a9Y x.1 x.2.1 x.2.2.1 x.2.2.2.1 x.2.2.2.2.1 x.2.2.2.2.2.1 x.2.2.2.2.2.2.1 x.2.2.2.2.2.2.2.1 x.2.2.2.2.2.2.2.2.1 x.2.2.2.2.2.2.2.2.2
@[go_sem] def aVk:aIH (no_index a9W) (no_index (a9X O Z aA aB aC aD aE aF aG aH))=some (a9Y O Z aA aB aC aD aE aF aG aH):=rQ (fun⟨a0,a1,a2,a3,a4,a5,a6,a7,a8,a9⟩ ⟨b0,b1,b2,b3,b4,b5,b6,b7,b8,b9⟩ h1 h2=>by cases h1;cases h2;rfl) (O,Z,aA,aB,aC,aD,aE,aF,aG,aH)
end
@[go_sem] abbrev a9Z:Nat×qW:=(93,⟨[.p sX [6,8],.p s7 [3]],aIH,[(0,7,.m)],[1,2,5],none⟩)
def wH:rF Tryz.prog [wP,BF,sJ,xI,JP,zI] (rG [PD,IE,TS,TT,TW,P8,EV,MW,M7]):=⟨⟨xE,⟨CX,⟨sM,⟨y5,⟨OT,⟨A9,trivial⟩⟩⟩⟩⟩⟩,qK T7 (qK KE (qK YP (qK YQ (qK YR (qK T3 (qK GC (qK PQ (qK OU rJ)))))))),rH⟩
def aPS:rF Tryz.prog [wP,BF,sJ,xI,JP,zI] (rG [PD,IE,TS,TT,TW,EV,MW,PA,M7]):=⟨⟨xE,⟨CX,⟨sM,⟨y5,⟨OT,⟨A9,trivial⟩⟩⟩⟩⟩⟩,qK T7 (qK KE (qK YP (qK YQ (qK YR (qK GC (qK PQ (qK T4 (qK OU rJ)))))))),rH⟩
def aII:r5 Tryz.prog a9Z:=by
 refine rR wH Tryz.func93 (c:=_) rfl (N:=78) pU (ts:=[(4,none)]) rfl (fun _ _=>rfl) ?_;intro⟨O,Z,aA,aB,aC,aD,aE,aF,aG,aH⟩ hs hrow;dsimp only[a9W,a9X,a9Y,rI,qR,qZ,r8,rL,Nat.reduceAdd] at hs hrow|-;obtain⟨rfl,rfl,rfl,hz⟩:=hs;obtain⟨z0,g⟩:=aVt.1 hz
 try rw[rY g]
 clear hz;unfold zK at g;refine q9 wH ?_;refine q9 wH ?_;refine rP ?_;have hy1:=g;refine tP hy1 (fun x=>⟨[(0,(.val .ref (some (0,0)),none)),(1,(.val .ref (some (3,0)),none)),(5,(.val .mp (some 6),none))],[(0,.cells sX (x.1,(x.2.1,(x.2.2.1,((aB.1,(aB.2.1,(aB.2.2.1,(aB.2.2.2.1,())))),((some 5),(aC.1,())))))) [(6,1),(8,2)]),(1,.grow 53 7 (aB.2.2.2.1.length)),(2,.grow 3 1 (aC.1.length)),(3,.cells s7 (aF.1,(x.2.2.2.1,(x.2.2.2.2.1,(x.2.2.2.2.2.1,(aF.2.2.2.2.1,(aF.2.2.2.2.2.1,(x.2.2.2.2.2.2.1,()))))))) [(3,4)]),(4,.grow 9 1 (x.2.2.2.2.2.1.length)),(5,.map .str .bool aH),(6,.map .str .bool x.2.2.2.2.2.2.2)],7,78,6⟩) ⟨[0,1,5],[(0,0),(1,1),(2,2),(3,3),(4,4),(5,5),(6,38)]⟩ pV ?_;intro x1 w1 n1 d f;obtain⟨aI,aJ,aK,aL,aM,aN,aO,aP⟩:=x1;unfold AB at d;dsimp only at d|-;refine rP ?_;obtain⟨aQ,hv1,hw1,d⟩:=qV d
 try simp only[go_sem] at hw1
 refine q9 wH ?_ (hp:=by exact⟨pT,pT,pT,pT,pT,(qU hv1)⟩) (h:=by simp only[go_sem,hw1];rfl)
 obtain⟨aR,hv2,hw2,d⟩:=qV d
 try simp only[go_sem] at hw2
 refine q9 wH ?_ (hp:=by exact⟨pT,pT,pT,pT,pT,pT,(qU hv2)⟩) (h:=by simp only[go_sem,hw2];rfl)
 refine qO ?_;refine q9 wH ?_ (hp:=by exact⟨id,id,sP⟩);refine qS d (fun d hc1=> ?_) (fun d hc1=> ?_)
 .obtain⟨aS,hv3,hw3,d⟩:=qV d
  try simp only[go_sem] at hw3
  refine q9 wH ?_ (hp:=by exact⟨pT,pT,pT,pT,pT,(qU hv3)⟩) (h:=by simp only[go_sem,hw3];rfl)
  refine qP (rD (rT (uX (rT ?_))));cases d;have g:=aVL some (show _=_ from f);cases g;exact pF [(0,0),(1,1),(2,2),(3,3),(4,4),(5,5)]
 .refine r7 (qJ ?_);refine q9 wH ?_;refine rP ?_;refine q9 wH ?_;refine qS d (fun d hc2=> ?_) (fun d hc2=> ?_)
  .obtain⟨aT,hv4,hw4,d⟩:=qV d
   try simp only[go_sem] at hw4
   refine rC wH ?_ (hp:=by exact⟨pT,pT,pT,pT,pT,pT,(qU hv4)⟩) (h:=by simp only[go_sem,hw4];rfl)
   refine rU (rU ?_);cases d;exact sU ⟨⟨[0,1,5],[(0,0),(1,1),(2,2),(3,3),(4,4),(5,5),(6,6)]⟩,_,by rfl,f⟩
  .refine q9 wH ?_;refine qS d (fun d hc3=> ?_) (fun d hc3=> ?_)
   .obtain⟨aU,hv5,hw5,d⟩:=qV d
    try simp only[go_sem] at hw5
    refine rC wH ?_ (hp:=by exact⟨pT,pT,pT,pT,pT,pT,pT,(qU hv5)⟩) (h:=by simp only[go_sem,hw5];rfl)
    refine rU (rU ?_);cases d;exact sU ⟨⟨[0,1,5],[(0,0),(1,1),(2,2),(3,3),(4,4),(5,5),(6,6)]⟩,_,by rfl,f⟩
   .refine qO ?_;refine q9 wH ?_;obtain⟨aV,i,d⟩:=qM d;refine yM (fun s=>s=(fun x=>⟨[(0,(.val .ref (some (0,0)),none)),(1,(.val .ref (some (3,0)),none)),(5,(.val .mp (some 6),none)),(6,(.val .ref (some (7,0)),none)),(41,(.val .bool x,none))],[(0,.cells sX (aQ,(aJ,(aK,((aB.1,(aB.2.1,(aB.2.2.1,(aB.2.2.2.1,())))),((some 5),(aC.1,())))))) [(6,1),(8,2)]),(1,.grow 53 7 (aB.2.2.2.1.length)),(2,.grow 3 1 (aC.1.length)),(3,.cells s7 (aF.1,(aL,(aM,(aN,(aF.2.2.2.2.1,(aF.2.2.2.2.2.1,(aO,()))))))) [(3,4)]),(4,.grow 9 1 (aN.length)),(5,.map .str .bool aH),(6,.map .str .bool aP),(7,.cells xD (aR.1,(aR.2.1,(aR.2.2.1,(aR.2.2.2,())))) [])],8,78,6⟩) aV) ?_ ?_
    .refine qS i (fun i hc4=> ?_) (fun i hc4=> ?_)
     .refine r7 ?_;cases i;exact u6 ⟨⟨[0,1,5,6,41],[(0,0),(1,1),(2,2),(3,3),(4,4),(5,5),(6,6),(7,135)]⟩,by rfl⟩
     .refine rC wH ?_;cases i;exact u6 ⟨⟨[0,1,5,6,41],[(0,0),(1,1),(2,2),(3,3),(4,4),(5,5),(6,6),(7,135)]⟩,by rfl⟩
    .rintro _ rfl;dsimp only at d|-;refine qJ ?_;refine qS d (fun d hc5=> ?_) (fun d hc5=> ?_)
     .refine qO ?_;by_cases hva6:((wQ (aR.1,(aR.2.1,(aR.2.2.1,(aR.2.2.2,())))) ([]:pD) ([]:pD))).isSome=true
      .rw[aVs hva6] at d;obtain⟨aW,hv6,hw6,d⟩:=qV d
       try simp only[go_sem] at hw6
       refine rC wH ?_ (hp:=by exact(qU hv6)) (h:=by simp only[go_sem,hw6];rfl);refine qJ ?_;obtain⟨aX,hv7,hw7,d⟩:=qV d
       try simp only[go_sem] at hw7
       refine q9 wH ?_ (hp:=by exact⟨id,id,id,sP,pT,pT,pT,pT,pT,(qU hv7)⟩) (h:=by simp only[go_sem,hw7];rfl)
       refine q9 wH ?_;obtain⟨aY,hv8,hw8,d⟩:=qV d
       try simp only[go_sem] at hw8
       refine q9 wH ?_ (hp:=by exact⟨pT,pT,pT,pT,pT,(qU hv8)⟩) (h:=by simp only[go_sem,hw8];rfl)
       refine q9 wH ?_;refine qS d (fun d hc7=> ?_) (fun d hc7=> ?_)
       .refine rC wH ?_;refine rU (rU ?_);cases d;exact sU ⟨⟨[0,1,5],[(0,0),(1,1),(2,2),(3,3),(4,4),(5,5),(6,6)]⟩,_,by rfl,f⟩
       .refine rC wH ?_;refine rU (rU ?_);cases d;exact sU ⟨⟨[0,1,5],[(0,0),(1,1),(2,2),(3,3),(4,4),(5,5),(6,6)]⟩,_,by rfl,f⟩
      rw[aVv hva6] at d;obtain⟨aZ,hv9,hw9,d⟩:=qV d
      try simp only[go_sem] at hw9
      refine rC aPS ?_ (hp:=by exact(qU hv9)) (h:=by simp only[go_sem,hw9];rfl);refine qJ ?_;obtain⟨bA,hv10,hw10,d⟩:=qV d
      try simp only[go_sem] at hw10
      refine q9 wH ?_ (hp:=by exact⟨id,id,id,sP,pT,pT,pT,pT,pT,(qU hv10)⟩) (h:=by simp only[go_sem,hw10];rfl)
      refine q9 wH ?_;obtain⟨bB,hv11,hw11,d⟩:=qV d
      try simp only[go_sem] at hw11
      refine q9 wH ?_ (hp:=by exact⟨pT,pT,pT,pT,pT,(qU hv11)⟩) (h:=by simp only[go_sem,hw11];rfl)
      refine q9 wH ?_;refine qS d (fun d hc8=> ?_) (fun d hc8=> ?_)
      .refine rC wH ?_;refine rU (rU ?_);cases d;exact sU ⟨⟨[0,1,5],[(0,0),(1,1),(2,2),(3,3),(4,4),(5,5),(6,6)]⟩,_,by rfl,f⟩
      .refine rC wH ?_;refine rU (rU ?_);cases d;exact sU ⟨⟨[0,1,5],[(0,0),(1,1),(2,2),(3,3),(4,4),(5,5),(6,6)]⟩,_,by rfl,f⟩
     .obtain⟨bC,hv12,hw12,d⟩:=qV d
      try simp only[go_sem] at hw12
      refine rC wH ?_ (hp:=by exact⟨pT,pT,pT,pT,pT,(qU hv12)⟩) (h:=by simp only[go_sem,hw12];rfl)
      refine rU (rU ?_);cases d;exact sU ⟨⟨[0,1,5],[(0,0),(1,1),(2,2),(3,3),(4,4),(5,5),(6,6)]⟩,_,by rfl,f⟩
attribute [irreducible] zK
end
end Go.Proofs.YtkpflnijijccpaaGreatDoor
namespace Go.Proofs.YtkpflnijijccpaaGreatDoor.Vc
open Go.RowKit
section
variable {R:Bool}{P:Program}{T:sV}{Γ:uH}(E:rF P T Γ) {s:St}{Q:Ex->St->Prop}
include E
theorem aPT (i0 j0:Nat) {id:Nat}{ops:Array Oper}{a a1:w9}{o1:Oper}{ex fx:qT}(h:vC T Γ ops.toList ops.toList (some ⟨s,[],[]⟩)=some a) (hf:NU i0 j0 ops s.nb a.es.reverse=true) (hp:r8 a.side) (hij0:i0<j0) (hex:a.es.reverse[i0]? =some ex) (hup:ex.upd=[]) (hfx:a.es.reverse[j0]? =some fx) (ho1:ops.toList[i0]? =some o1) (ha1:vC T Γ ops.toList (ops.toList.take i0) (some ⟨s,[],[]⟩)=some a1) (hx1:zF T Γ ops.toList o1 ⟨a1.s.env,qY (xO fx) a1.s.H,a1.s.nb,a1.s.N,a1.s.np⟩=some ex) (hq:Q .normal a.s):Ev R P (.region id ops true) s Q:=
 fun ro hro A L g0 w0 g w' w B hB hr hg hn=>aEh E.T E.Γ E.m h hf (fun _=>⟨hij0,_,_,_,_,hex,hup,hfx,ho1,ha1,hx1⟩) (XJ hp) hr hg hn.symm (fun g' a' w' hr' hg'=>⟨.normal,g',a.s,rfl,hq,hr',hg',(FY h).2.2.trans hn⟩)
theorem YS (i0 j0:Nat) {id:Nat}{ops:Array Oper}{a a1:w9}{o1:Oper}{ex fx:qT}{y:Code}(hq:Ev R P y a.s Q) (h:vC T Γ ops.toList ops.toList (some ⟨s,[],[]⟩)=some a:=by simp only[go_sem];rfl) (hp:r8 a.side:=by exact trivial) (hf:NU i0 j0 ops s.nb a.es.reverse=true:=by kernel_rfl) (hij0:i0<j0:=by decide) (hex:a.es.reverse[i0]? =some ex:=by rfl) (hup:ex.upd=[]:=by rfl) (hfx:a.es.reverse[j0]? =some fx:=by rfl) (ho1:ops.toList[i0]? =some o1:=by rfl) (ha1:vC T Γ ops.toList (ops.toList.take i0) (some ⟨s,[],[]⟩)=some a1:=by simp only[go_sem,List.take_succ_cons,List.take_zero];rfl) (hx1:zF T Γ ops.toList o1 ⟨a1.s.env,qY (xO fx) a1.s.H,a1.s.nb,a1.s.N,a1.s.np⟩=some ex:=by simp only[go_sem];rfl):Ev R P (.seq (.region id ops true) y) s Q:=
 qO (aPT E i0 j0 h hf hp hij0 hex hup hfx ho1 ha1 hx1 hq)
end
end Go.Proofs.YtkpflnijijccpaaGreatDoor.Vc
