/- Packed by a program of mine (wip/tools/pack.py): the same texts with short names and few blanks. -/
import Derived.KernelRfl
import Derived.OrdersIn
import Derived.Test.YtkpflnijijccpaaGreatDoorX002
set_option linter.defProp false
set_option linter.unusedVariables false
set_option linter.unusedSimpArgs false
set_option linter.unusedSectionVars false
set_option maxRecDepth 100000
set_option maxHeartbeats 4000000
namespace Go.Proofs.YtkpflnijijccpaaGreatDoor
open Vc
noncomputable section
def aFK (O:Int):Option pF:=if (decide (O=(38:Int)))=true then some (([38,97,109,112,59]:pF)) else if (decide (O=(60:Int)))=true then some (([38,108,116,59]:pF)) else if (decide (O=(62:Int)))=true then some (([38,103,116,59]:pF)) else if (decide (O=(34:Int)))=true then some (([38,113,117,111,116,59]:pF)) else if ((decide (O<(32:Int)))||(decide (O=(127:Int))))=true then (aE2 (IntKind.wrap .i64 O)).bind fun Z=>if ((([38,35]:pF)++Z).length:Int)≤9223372036854775807 then if (((([38,35]:pF)++Z)++([59]:pF)).length:Int)≤9223372036854775807 then some (((([38,35]:pF)++Z)++([59]:pF))) else none else none else some ((uC ([O]:pO)))
def aFL (O:Int):Unit:=()
section
variable (O:Int)
abbrev a4H:List qE:=[(.val (.int .i64) O,none)]
abbrev a4I:List qD:=[]
@[go_sem] def a4J:qK:=⟨[],[(.val .bool (((decide ((0:Int)≤O))&&(decide (O≤(1114111:Int))))&&((decide (O<(55296:Int)))||(decide ((57343:Int)<O)))),none)],[]⟩
def aFM:List qE→List qD→Option qK:=rP (V:=Int) (a4H) (fun x=>a4I) fun x=>a4J x
@[go_sem] def aTr:aFM (no_index (a4H O)) (no_index a4I)=some (a4J O):=rT (fun a0 b0 h1 h2=>by cases h1;cases h2;rfl) O
end
@[go_sem] abbrev a4K:Nat×r5:=(146,⟨[.v],aFM,[],[],none⟩)
def a4L:rH Tryz.prog [] (rI []):=⟨trivial,rN,rK⟩
def aFN:r8 Tryz.prog a4K:=by
 refine rU a4L Tryz.func146 (c:=_) rfl (N:=17) pW (ts:=[(2,none)]) rfl (fun _ _=>rfl) ?_;intro O hs hrow;dsimp only[a4H,a4I,a4J,rM,qT,r6,rC,rO,Nat.reduceAdd] at hs hrow|-;obtain⟨z0,d⟩: ∃z,(aFL O)=z:=⟨_,rfl⟩
 try rw[d]
 unfold aFL at d;refine qC a4L ?_;refine qC a4L ?_ (hp:=by exact⟨id,sI,id,id,id,id,fun hG e=>HK hG e,sI⟩);refine qS ?_;cases d;exact pH []
def DX (O:Int):Option pF:=if (decide (O<(128:Int)))=true then some ((uC ([(IntKind.wrap .u8 O)]:pO))) else if (decide (O<(2048:Int)))=true then if qG ((192:Int)+(IntKind.wrap .i64 (Int.tdiv O (64:Int)))) then if qG ((128:Int)+(Int.tmod O (64:Int))) then some ((uC ([(IntKind.wrap .u8 ((192:Int)+(IntKind.wrap .i64 (Int.tdiv O (64:Int))))),(IntKind.wrap .u8 ((128:Int)+(Int.tmod O (64:Int))))]:pO))) else none else none else if (decide (O<(65536:Int)))=true then if qG ((224:Int)+(IntKind.wrap .i64 (Int.tdiv O (4096:Int)))) then if qG ((128:Int)+(Int.tmod (IntKind.wrap .i64 (Int.tdiv O (64:Int))) (64:Int))) then if qG ((128:Int)+(Int.tmod O (64:Int))) then some ((uC ([(IntKind.wrap .u8 ((224:Int)+(IntKind.wrap .i64 (Int.tdiv O (4096:Int))))),(IntKind.wrap .u8 ((128:Int)+(Int.tmod (IntKind.wrap .i64 (Int.tdiv O (64:Int))) (64:Int)))),(IntKind.wrap .u8 ((128:Int)+(Int.tmod O (64:Int))))]:pO))) else none else none else none else if qG ((240:Int)+(IntKind.wrap .i64 (Int.tdiv O (262144:Int)))) then if qG ((128:Int)+(Int.tmod (IntKind.wrap .i64 (Int.tdiv O (4096:Int))) (64:Int))) then if qG ((128:Int)+(Int.tmod (IntKind.wrap .i64 (Int.tdiv O (64:Int))) (64:Int))) then if qG ((128:Int)+(Int.tmod O (64:Int))) then some ((uC ([(IntKind.wrap .u8 ((240:Int)+(IntKind.wrap .i64 (Int.tdiv O (262144:Int))))),(IntKind.wrap .u8 ((128:Int)+(Int.tmod (IntKind.wrap .i64 (Int.tdiv O (4096:Int))) (64:Int)))),(IntKind.wrap .u8 ((128:Int)+(Int.tmod (IntKind.wrap .i64 (Int.tdiv O (64:Int))) (64:Int)))),(IntKind.wrap .u8 ((128:Int)+(Int.tmod O (64:Int))))]:pO))) else none else none else none else none
section
variable (O:Int)
abbrev a4M:List qE:=[(.val (.int .i64) O,none)]
abbrev a4N:List qD:=[]
@[go_sem] def a4O:qK:=⟨[((DX O)).isSome=true],[(.val .str (val (DX O)),none)],[]⟩
def aFO:List qE→List qD→Option qK:=rP (V:=Int) (a4M) (fun x=>a4N) fun x=>a4O x
@[go_sem] def aTs:aFO (no_index (a4M O)) (no_index a4N)=some (a4O O):=rT (fun a0 b0 h1 h2=>by cases h1;cases h2;rfl) O
end
@[go_sem] abbrev a4P:Nat×r5:=(147,⟨[.v],aFO,[],[],none⟩)
def HW:rH Tryz.prog [wD,ER,sL,ES] (rI []):=⟨⟨wS,⟨HO,⟨sP,⟨HP,trivial⟩⟩⟩⟩,rN,rK⟩
def aFP:r8 Tryz.prog a4P:=by
 refine rU HW Tryz.func147 (c:=_) rfl (N:=61) pW (ts:=[(2,none)]) rfl (fun _ _=>rfl) ?_;intro O hs hrow;dsimp only[a4M,a4N,a4O,rM,qT,r6,rC,rO,Nat.reduceAdd] at hs hrow|-;have hz:=hs;obtain⟨z0,d⟩:=aUV.1 hz
 try rw[s7 d]
 clear hz hs;unfold DX at d;refine qC HW ?_;refine qQ (rS ?_);refine qC HW ?_;refine qV d (fun d hc1=> ?_) (fun d hc1=> ?_)
 .refine qC HW ?_;refine qS (rY (rG ?_));cases d;exact pH []
 .refine qC HW ?_;refine qV d (fun d hc2=> ?_) (fun d hc2=> ?_)
  .obtain⟨hg1,d⟩:=qI d;obtain⟨hg2,d⟩:=qI d;refine qC HW ?_ (hp:=by exact⟨show (64:Int)≠0 from by decide,hg1,show (64:Int)≠0 from by decide,hg2⟩);refine qS (rY (rG ?_));cases d;exact pH []
  .refine qC HW ?_;refine qV d (fun d hc3=> ?_) (fun d hc3=> ?_)
   .obtain⟨hg3,d⟩:=qI d;obtain⟨hg4,d⟩:=qI d;obtain⟨hg5,d⟩:=qI d;refine qC HW ?_ (hp:=by exact⟨show (4096:Int)≠0 from by decide,hg3,show (64:Int)≠0 from by decide,show (64:Int)≠0 from by decide,hg4,show (64:Int)≠0 from by decide,hg5⟩);refine qS (rY (rG ?_));cases d;exact pH []
   .refine r9 (rW (qM ?_));obtain⟨hg6,d⟩:=qI d;obtain⟨hg7,d⟩:=qI d;obtain⟨hg8,d⟩:=qI d;obtain⟨hg9,d⟩:=qI d;refine qC HW ?_ (hp:=by exact⟨show (262144:Int)≠0 from by decide,hg6,show (4096:Int)≠0 from by decide,show (64:Int)≠0 from by decide,hg7,show (64:Int)≠0 from by decide,show (64:Int)≠0 from by decide,hg8,show (64:Int)≠0 from by decide,hg9⟩);refine qS ?_;cases d;exact pH []
def F1 (O:pF) (Z:Int):(Int×Int)→Option ((Int×Int)⊕(Int⊕(Int×Int))):=fun(aA,aB)=>if (decide (aB<Z))=true then if 0≤aB∧aB<(O.length:Int) then if (((decide ((sJ O aB)<(128:Int)))==false)=true→0≤aB∧aB<(O.length:Int)) then if ((decide ((sJ O aB)<(128:Int)))||(decide ((191:Int)<(sJ O aB))))=true then some (.inr (.inr (((65533:Int),(1:Int))))) else if qG ((64:Int)*aA) then if 0≤aB∧aB<(O.length:Int) then if qG (((64:Int)*aA)+(IntKind.wrap .i64 (sJ O aB))) then if qG ((((64:Int)*aA)+(IntKind.wrap .i64 (sJ O aB)))- (128:Int)) then if qG (aB+(1:Int)) then some (.inl (((((64:Int)*aA)+(IntKind.wrap .i64 (sJ O aB)))- (128:Int)),(aB+(1:Int)))) else none else none else none else none else none else none else none else some (.inr (.inl aA))
def JV (O:pF):Option (Int×Int):=if 0≤(0:Int)∧(0:Int)<(O.length:Int) then uF (σ:=(Int×Int)) (if (decide ((IntKind.wrap .i64 (sJ O (0:Int)))<(128:Int)))=true then some (.inr (((IntKind.wrap .i64 (sJ O (0:Int))),(1:Int)))) else if ((decide ((192:Int)≤(IntKind.wrap .i64 (sJ O (0:Int)))))&&(decide ((IntKind.wrap .i64 (sJ O (0:Int)))<(224:Int))))=true then if qG ((IntKind.wrap .i64 (sJ O (0:Int)))- (192:Int)) then some (.inl (((IntKind.wrap .i64 (sJ O (0:Int)))- (192:Int)),(2:Int))) else none else if ((decide ((224:Int)≤(IntKind.wrap .i64 (sJ O (0:Int)))))&&(decide ((IntKind.wrap .i64 (sJ O (0:Int)))<(240:Int))))=true then if qG ((IntKind.wrap .i64 (sJ O (0:Int)))- (224:Int)) then some (.inl (((IntKind.wrap .i64 (sJ O (0:Int)))- (224:Int)),(3:Int))) else none else if ((decide ((240:Int)≤(IntKind.wrap .i64 (sJ O (0:Int)))))&&(decide ((IntKind.wrap .i64 (sJ O (0:Int)))<(248:Int))))=true then if qG ((IntKind.wrap .i64 (sJ O (0:Int)))- (240:Int)) then some (.inl (((IntKind.wrap .i64 (sJ O (0:Int)))- (240:Int)),(4:Int))) else none else some (.inr (((65533:Int),(1:Int)))) ) fun(Z,aA)=>if (decide ((O.length:Int)<aA))=true then some (((65533:Int),(1:Int))) else uF (rQ (F1 O aA) (Z,(1:Int))) fun aB=>if (((!(((decide ((0:Int)≤aB))&&(decide (aB≤(1114111:Int))))&&((decide (aB<(55296:Int)))||(decide ((57343:Int)<aB)))))==false)=true→((DX aB)).isSome=true) then if (((!(((decide ((0:Int)≤aB))&&(decide (aB≤(1114111:Int))))&&((decide (aB<(55296:Int)))||(decide ((57343:Int)<aB)))))==false)=true→0≤(0:Int)∧(0:Int)≤aA∧aA≤(O.length:Int)) then if ((!(((decide ((0:Int)≤aB))&&(decide (aB≤(1114111:Int))))&&((decide (aB<(55296:Int)))||(decide ((57343:Int)<aB)))))||(!decide ((val (DX aB))=(sF O (0:Int) aA))))=true then some (((65533:Int),(1:Int))) else some ((aB,aA)) else none else none else none
section
variable (O:pF)
abbrev a4Q:List qE:=[(.val .str O,none)]
abbrev a4R:List qD:=[]
@[go_sem] def a4S:qK:=⟨[((JV O)).isSome=true],[(.val (.int .i64) ((val (JV O)).1),none),(.val (.int .i64) ((val (JV O)).2),none)],[]⟩
def aFQ:List qE→List qD→Option qK:=rP (V:=pF) (a4Q) (fun x=>a4R) fun x=>a4S x
@[go_sem] def aTt:aFQ (no_index (a4Q O)) (no_index a4R)=some (a4S O):=rT (fun a0 b0 h1 h2=>by cases h1;cases h2;rfl) O
end
@[go_sem] abbrev aFR:Nat×r5:=(148,⟨[.v],aFQ,[],[],none⟩)
def xV:rH Tryz.prog [wD,ER,sL] (rI [a4K,a4P]):=⟨⟨wS,⟨HO,⟨sP,trivial⟩⟩⟩,qP aFN (qP aFP rN),rK⟩
def aOE:r8 Tryz.prog aFR:=by
 refine rU xV Tryz.func148 (c:=_) rfl (N:=81) pW (ts:=[(2,none),(3,none)]) rfl (fun _ _=>rfl) ?_;intro O hs hrow;dsimp only[a4Q,a4R,a4S,rM,qT,r6,rC,rO,Nat.reduceAdd] at hs hrow|-;have hz:=hs;obtain⟨z0,d⟩:=aUV.1 hz
 try rw[s7 d]
 clear hz hs;unfold JV at d;refine qC xV ?_;obtain⟨hg1,d⟩:=qI d;refine qC xV ?_ (hp:=by exact hg1);refine qQ ?_;obtain⟨y1,f,d⟩:=vF d;refine yZ (fun s=> ∃v,y1= .inl v∧s=(fun x=>⟨[(0,(.val .str O,none)),(4,(.val (.int .i64) x.1,none)),(5,(.val (.int .i64) x.2,none))],[],0,81,0⟩) v) ?_ ?_
 .refine rS ?_;refine qC xV ?_;refine qV f (fun f hc1=> ?_) (fun f hc1=> ?_)
  .refine qC xV ?_;refine qS (rY (aEk (rG ?_)));cases f;dsimp only at d;cases d;exact pH []
  .refine qC xV ?_ (hp:=by exact⟨id,sI⟩);refine qV f (fun f hc2=> ?_) (fun f hc2=> ?_)
   .obtain⟨hg2,f⟩:=qI f;refine rF xV ?_ (hp:=by exact hg2);refine rW ?_;cases f;exact uE ⟨⟨[0,4,5],[]⟩,_,rfl,by rfl⟩
   .refine qC xV ?_ (hp:=by exact⟨id,sI⟩);refine qV f (fun f hc3=> ?_) (fun f hc3=> ?_)
    .obtain⟨hg3,f⟩:=qI f;refine rF xV ?_ (hp:=by exact hg3);refine rW ?_;cases f;exact uE ⟨⟨[0,4,5],[]⟩,_,rfl,by rfl⟩
    .refine qC xV ?_ (hp:=by exact⟨id,sI⟩);refine qV f (fun f hc4=> ?_) (fun f hc4=> ?_)
     .obtain⟨hg4,f⟩:=qI f;refine rF xV ?_ (hp:=by exact hg4);refine rW ?_;cases f;exact uE ⟨⟨[0,4,5],[]⟩,_,rfl,by rfl⟩
     .refine qC xV ?_;refine qS (rY (aEk (rG ?_)));cases f;dsimp only at d;cases d;exact pH []
 .rintro _ ⟨v,rfl,rfl⟩;obtain⟨Z,aA⟩:=v;dsimp only at d|-;refine qM (qQ ?_);refine qC xV ?_;refine qV d (fun d hc5=> ?_) (fun d hc5=> ?_)
  .refine qC xV ?_;refine qS (rG ?_);cases d;exact pH []
  .refine r9 (qM (qQ ?_));refine qC xV ?_;refine rS ?_;obtain⟨y1,hy1,d⟩:=vF d;refine uA 1 (fun s=> ∃v,y1= .inl v∧s=(fun x=>⟨[(0,(.val .str O,none)),(4,(.val (.int .i64) x,none)),(5,(.val (.int .i64) aA,none))],[],0,81,0⟩) v) ?_ ?_
   .refine tZ hy1 (fun x=>⟨[(0,(.val .str O,none)),(4,(.val (.int .i64) x.1,none)),(5,(.val (.int .i64) aA,none)),(6,(.val (.int .i64) x.2,none))],[],0,81,0⟩) ⟨[0,4,5,6],[]⟩ pX ?_;intro x1 w1 n1 f g;obtain⟨aB,aC⟩:=x1;unfold F1 at f;dsimp only at f|-;refine qQ ?_;refine qC xV ?_;refine qV f (fun f hc6=> ?_) (fun f hc6=> ?_)
    .refine r9 (qM (qQ (rS (qQ ?_))));obtain⟨hg5,f⟩:=qI f;obtain⟨hg6,f⟩:=qI f;refine qC xV ?_ (hp:=by exact⟨hg5,id,id,hg6,id,sQ⟩);refine qV f (fun f hc7=> ?_) (fun f hc7=> ?_)
     .refine qC xV ?_;refine qS (rG (rY (rG (vE (vM (rY (rG ?_)))))));cases f;cases g;dsimp only at d;cases d;exact pH []
     .refine r9 (qM ?_);obtain⟨hg7,f⟩:=qI f;obtain⟨hg8,f⟩:=qI f;obtain⟨hg9,f⟩:=qI f;obtain⟨hg10,f⟩:=qI f;refine rF xV ?_ (hp:=by exact⟨hg7,hg8,hg9,hg10⟩);refine rW (qM ?_);obtain⟨hg11,f⟩:=qI f;refine rF xV ?_ (hp:=by exact hg11);cases f;exact sX ⟨⟨[0,4,5,6],[]⟩,_,by rfl,g⟩
    .refine tV (tU (tX ?_));cases f;cases g;exact tW ⟨⟨[0,4,5],[]⟩,_,rfl,by rfl⟩
   .rintro _ ⟨aD,rfl,rfl⟩;dsimp only at d|-;refine u7 (qM (qQ ?_));obtain⟨hg12,d⟩:=qI d;obtain⟨hg13,d⟩:=qI d;refine vN xV ?_ (hp:=by exact⟨id,hg12,id,id,hg13,id,id,sQ⟩);refine qV d (fun d hc8=> ?_) (fun d hc8=> ?_)
    .refine qC xV ?_;refine qS (rG ?_);cases d;exact pH []
    .refine r9 (qM ?_);refine qC xV ?_;refine qS ?_;cases d;exact pH []
def internal_stringslite_HasPrefix (O:pF) (Z:pF):Option Unit:=if (((decide ((Z.length:Int)≤(O.length:Int)))==true)=true→0≤(0:Int)∧(0:Int)≤(Z.length:Int)∧(Z.length:Int)≤(O.length:Int)) then some (()) else none
section
variable (O:pF) (Z:pF)
abbrev M0:List qE:=[(.val .str O,none),(.val .str Z,none)]
abbrev M1:List qD:=[]
@[go_sem] def M2:qK:=⟨[((internal_stringslite_HasPrefix O Z)).isSome=true],[(.val .bool ((decide ((Z.length:Int)≤(O.length:Int)))&&(decide ((sF O (0:Int) (Z.length:Int))=Z))),none)],[]⟩
def SH:List qE→List qD→Option qK:=rP (V:=(pF×pF)) (fun x=>M0 x.1 x.2) (fun x=>M1) fun x=>M2 x.1 x.2
@[go_sem] def aOf:SH (no_index (M0 O Z)) (no_index M1)=some (M2 O Z):=rT (fun⟨a0,a1⟩ ⟨b0,b1⟩ h1 h2=>by cases h1;cases h2;rfl) (O,Z)
end
@[go_sem] abbrev SI:Nat×r5:=(150,⟨[.v,.v],SH,[],[],none⟩)
def M3:rH Tryz.prog [sL] (rI []):=⟨⟨sP,trivial⟩,rN,rK⟩
def a2M:r8 Tryz.prog SI:=by
 refine rU M3 Tryz.func150 (c:=_) rfl (N:=18) pW (ts:=[(4,none)]) rfl (fun _ _=>rfl) ?_;intro⟨O,Z⟩ hs hrow;dsimp only[M0,M1,M2,rM,qT,r6,rC,rO,Nat.reduceAdd] at hs hrow|-;have hz:=hs;obtain⟨z0,d⟩:=aUV.1 hz
 try rw[s7 d]
 clear hz hs;unfold internal_stringslite_HasPrefix at d;refine qC M3 ?_;obtain⟨hg1,d⟩:=qI d;refine qC M3 ?_ (hp:=by exact⟨id,id,id,hg1,id,id,sI⟩);refine qS ?_;cases d;exact pH []
attribute [irreducible] aFK DX JV internal_stringslite_HasPrefix
end
noncomputable section
def aFS (O:r7) (Z:pF):Unit:=()
section
variable (O:r7) (Z:pF)
abbrev a4T:List qE:=[(.val (.pair .str (.pair .str .unit)) O,none),(.val .ref (some (0,0)),none)]
abbrev a4U:List qD:=[.cells .str Z []]
@[go_sem] def a4V:qK:=⟨[],[(.val .bool (!(Op.bytesLess O.1 Z||decide (O.1=Z))),none)],[.cells .str Z []]⟩
def aFT:List qE→List qD→Option qK:=rP (V:=(r7×pF)) (fun x=>a4T x.1) (fun x=>a4U x.2) fun x=>a4V x.1 x.2
@[go_sem] def aTu:aFT (no_index (a4T O)) (no_index (a4U Z))=some (a4V O Z):=rT (fun⟨a0,a1⟩ ⟨b0,b1⟩ h1 h2=>by cases h1;cases h2;rfl) (O,Z)
end
@[go_sem] abbrev aFU:Nat×r5:=(158,⟨[.v,.p .str []],aFT,[],[0],none⟩)
def a4W:rH Tryz.prog [sL,D4] (rI []):=⟨⟨sP,⟨ET,trivial⟩⟩,rN,rK⟩
def aOF:r8 Tryz.prog aFU:=by
 refine rU a4W Tryz.func158 (c:=_) rfl (N:=8) pW (ts:=[(3,none)]) rfl (fun _ _=>rfl) ?_;intro⟨O,Z⟩ hs hrow;dsimp only[a4T,a4U,a4V,rM,qT,r6,rC,rO,Nat.reduceAdd] at hs hrow|-;obtain⟨z0,d⟩: ∃z,(aFS O Z)=z:=⟨_,rfl⟩
 try rw[d]
 unfold aFS at d;refine qC a4W ?_;refine qC a4W ?_;refine qS ?_;cases d;exact pH [(0,0)]
def MA (O:pF) (Z:pF):Option (pF×Bool):=(internal_stringslite_HasPrefix O Z).bind fun aA=>if (!((decide ((Z.length:Int)≤(O.length:Int)))&&(decide ((sF O (0:Int) (Z.length:Int))=Z))))=true then some ((O,false)) else if 0≤(Z.length:Int)∧(Z.length:Int)≤(O.length:Int)∧(O.length:Int)≤(O.length:Int) then some (((sF O (Z.length:Int) (O.length:Int)),true)) else none
section
variable (O:pF) (Z:pF)
abbrev a4X:List qE:=[(.val .str O,none),(.val .str Z,none)]
abbrev a4Y:List qD:=[]
@[go_sem] def a4Z:qK:=⟨[((MA O Z)).isSome=true],[(.val .str ((val (MA O Z)).1),none),(.val .bool ((val (MA O Z)).2),none)],[]⟩
def aFV:List qE→List qD→Option qK:=rP (V:=(pF×pF)) (fun x=>a4X x.1 x.2) (fun x=>a4Y) fun x=>a4Z x.1 x.2
@[go_sem] def aTv:aFV (no_index (a4X O Z)) (no_index a4Y)=some (a4Z O Z):=rT (fun⟨a0,a1⟩ ⟨b0,b1⟩ h1 h2=>by cases h1;cases h2;rfl) (O,Z)
end
@[go_sem] abbrev aFW:Nat×r5:=(164,⟨[.v,.v],aFV,[],[],none⟩)
def ST:rH Tryz.prog [sL] (rI [SI]):=⟨⟨sP,trivial⟩,qP a2M rN,rK⟩
def aOG:r8 Tryz.prog aFW:=by
 refine rU ST Tryz.func164 (c:=_) rfl (N:=15) pW (ts:=[(4,none),(5,none)]) rfl (fun _ _=>rfl) ?_;intro⟨O,Z⟩ hs hrow;dsimp only[a4X,a4Y,a4Z,rM,qT,r6,rC,rO,Nat.reduceAdd] at hs hrow|-;have hz:=hs;obtain⟨z0,d⟩:=aUV.1 hz
 try rw[s7 d]
 clear hz hs;unfold MA at d;refine qC ST ?_;refine qQ ?_;obtain⟨aA,hv1,hw1,d⟩:=qY d
 try simp only[go_sem] at hw1
 refine qC ST ?_ (hp:=by exact(qW hv1)) (h:=by simp only[go_sem,hw1];rfl);refine qV d (fun d hc1=> ?_) (fun d hc1=> ?_)
 .refine qC ST ?_;refine qS (rG ?_);cases d;exact pH []
 .refine r9 (qM ?_);obtain⟨hg2,d⟩:=qI d;refine qC ST ?_ (hp:=by exact hg2);refine qS ?_;cases d;exact pH []
def aFX (O:Int):Unit:=()
section
variable (O:Int)
abbrev a41:List qE:=[(.val (.int .u8) O,none)]
abbrev a42:List qD:=[]
@[go_sem] def a43:qK:=⟨[],[(.val .bool ((decide (O<(32:Int)))||(decide (O=(127:Int)))),none)],[]⟩
def aFY:List qE→List qD→Option qK:=rP (V:=Int) (a41) (fun x=>a42) fun x=>a43 x
@[go_sem] def aTw:aFY (no_index (a41 O)) (no_index a42)=some (a43 O):=rT (fun a0 b0 h1 h2=>by cases h1;cases h2;rfl) O
end
@[go_sem] abbrev a44:Nat×r5:=(180,⟨[.v],aFY,[],[],none⟩)
def a45:rH Tryz.prog [] (rI []):=⟨trivial,rN,rK⟩
def aFZ:r8 Tryz.prog a44:=by
 refine rU a45 Tryz.func180 (c:=_) rfl (N:=9) pW (ts:=[(2,none)]) rfl (fun _ _=>rfl) ?_;intro O hs hrow;dsimp only[a41,a42,a43,rM,qT,r6,rC,rO,Nat.reduceAdd] at hs hrow|-;obtain⟨z0,d⟩: ∃z,(aFX O)=z:=⟨_,rfl⟩
 try rw[d]
 unfold aFX at d;refine qC a45 ?_;refine qC a45 ?_ (hp:=by exact⟨id,sQ⟩);refine qS ?_;cases d;exact pH []
def aF0 (O:r7) (Z:pF):Unit:=()
section
variable (O:r7) (Z:pF)
abbrev a47:List qE:=[(.val (.pair .str (.pair .str .unit)) O,none),(.val .ref (some (0,0)),none)]
abbrev a48:List qD:=[.cells .str Z []]
@[go_sem] def a5a:qK:=⟨[],[(.val .bool (decide (O.1=Z)),none)],[.cells .str Z []]⟩
def aF1:List qE→List qD→Option qK:=rP (V:=(r7×pF)) (fun x=>a47 x.1) (fun x=>a48 x.2) fun x=>a5a x.1 x.2
@[go_sem] def aTx:aF1 (no_index (a47 O)) (no_index (a48 Z))=some (a5a O Z):=rT (fun⟨a0,a1⟩ ⟨b0,b1⟩ h1 h2=>by cases h1;cases h2;rfl) (O,Z)
end
@[go_sem] abbrev aF2:Nat×r5:=(191,⟨[.v,.p .str []],aF1,[],[0],none⟩)
def a5b:rH Tryz.prog [sL,D4] (rI []):=⟨⟨sP,⟨ET,trivial⟩⟩,rN,rK⟩
def aOH:r8 Tryz.prog aF2:=by
 refine rU a5b Tryz.func191 (c:=_) rfl (N:=8) pW (ts:=[(3,none)]) rfl (fun _ _=>rfl) ?_;intro⟨O,Z⟩ hs hrow;dsimp only[a47,a48,a5a,rM,qT,r6,rC,rO,Nat.reduceAdd] at hs hrow|-;obtain⟨z0,d⟩: ∃z,(aF0 O Z)=z:=⟨_,rfl⟩
 try rw[d]
 unfold aF0 at d;refine qC a5b ?_;refine qC a5b ?_;refine qS ?_;cases d;exact pH [(0,0)]
def SU (O:pF) (Z:pF):Option Unit:=if (((decide ((Z.length:Int)≤(O.length:Int)))==true)=true→qG ((O.length:Int)- (Z.length:Int))) then if (((decide ((Z.length:Int)≤(O.length:Int)))==true)=true→0≤((O.length:Int)- (Z.length:Int))∧((O.length:Int)- (Z.length:Int))≤(O.length:Int)∧(O.length:Int)≤(O.length:Int)) then some (()) else none else none
section
variable (O:pF) (Z:pF)
abbrev a5c:List qE:=[(.val .str O,none),(.val .str Z,none)]
abbrev a5d:List qD:=[]
@[go_sem] def a5e:qK:=⟨[((SU O Z)).isSome=true],[(.val .bool ((decide ((Z.length:Int)≤(O.length:Int)))&&(decide ((sF O ((O.length:Int)- (Z.length:Int)) (O.length:Int))=Z))),none)],[]⟩
def aF3:List qE→List qD→Option qK:=rP (V:=(pF×pF)) (fun x=>a5c x.1 x.2) (fun x=>a5d) fun x=>a5e x.1 x.2
@[go_sem] def aTy:aF3 (no_index (a5c O Z)) (no_index a5d)=some (a5e O Z):=rT (fun⟨a0,a1⟩ ⟨b0,b1⟩ h1 h2=>by cases h1;cases h2;rfl) (O,Z)
end
@[go_sem] abbrev aF4:Nat×r5:=(197,⟨[.v,.v],aF3,[],[],none⟩)
def a5f:rH Tryz.prog [sL] (rI []):=⟨⟨sP,trivial⟩,rN,rK⟩
def aOI:r8 Tryz.prog aF4:=by
 refine rU a5f Tryz.func197 (c:=_) rfl (N:=21) pW (ts:=[(4,none)]) rfl (fun _ _=>rfl) ?_;intro⟨O,Z⟩ hs hrow;dsimp only[a5c,a5d,a5e,rM,qT,r6,rC,rO,Nat.reduceAdd] at hs hrow|-;have hz:=hs;obtain⟨z0,d⟩:=aUV.1 hz
 try rw[s7 d]
 clear hz hs;unfold SU at d;refine qC a5f ?_;obtain⟨hg1,d⟩:=qI d;obtain⟨hg2,d⟩:=qI d;refine qC a5f ?_ (hp:=by exact⟨id,id,id,id,hg1,id,id,hg2,id,id,sI⟩);refine qS ?_;cases d;exact pH []
def JW (O:pF) (Z:pF):Option (pF×pF×Bool):=if List.length O<4294967281 then if (decide ((0:Int)≤(z6 O Z)))=true then if 0≤(0:Int)∧(0:Int)≤(z6 O Z)∧(z6 O Z)≤(O.length:Int) then if qG ((z6 O Z)+(Z.length:Int)) then if 0≤((z6 O Z)+(Z.length:Int))∧((z6 O Z)+(Z.length:Int))≤(O.length:Int)∧(O.length:Int)≤(O.length:Int) then some (((sF O (0:Int) (z6 O Z)),(sF O ((z6 O Z)+(Z.length:Int)) (O.length:Int)),true)) else none else none else none else some ((O,([]:pF),false)) else none
section
variable (O:pF) (Z:pF)
abbrev a5g:List qE:=[(.val .str O,none),(.val .str Z,none)]
abbrev a5h:List qD:=[]
@[go_sem] def a5i:qK:=⟨[((JW O Z)).isSome=true],[(.val .str ((val (JW O Z)).1),none),(.val .str ((val (JW O Z)).2.1),none),(.val .bool ((val (JW O Z)).2.2),none)],[]⟩
def aF5:List qE→List qD→Option qK:=rP (V:=(pF×pF)) (fun x=>a5g x.1 x.2) (fun x=>a5h) fun x=>a5i x.1 x.2
@[go_sem] def aTz:aF5 (no_index (a5g O Z)) (no_index a5h)=some (a5i O Z):=rT (fun⟨a0,a1⟩ ⟨b0,b1⟩ h1 h2=>by cases h1;cases h2;rfl) (O,Z)
end
@[go_sem] abbrev aF6:Nat×r5:=(198,⟨[.v,.v],aF5,[],[],none⟩)
def OV:rH Tryz.prog [sL] (rI [LY]):=⟨⟨sP,trivial⟩,qP XV rN,rK⟩
def aOJ:r8 Tryz.prog aF6:=by
 refine rU OV Tryz.func198 (c:=_) rfl (N:=23) pW (ts:=[(4,none),(5,none),(6,none)]) rfl (fun _ _=>rfl) ?_;intro⟨O,Z⟩ hs hrow;dsimp only[a5g,a5h,a5i,rM,qT,r6,rC,rO,Nat.reduceAdd] at hs hrow|-;have hz:=hs;obtain⟨z0,d⟩:=aUV.1 hz
 try rw[s7 d]
 clear hz hs;unfold JW at d;refine qC OV ?_;refine qQ ?_;obtain⟨hg1,d⟩:=qI d;refine qC OV ?_ (hp:=by exact hg1);refine qC OV ?_;refine qV d (fun d hc1=> ?_) (fun d hc1=> ?_)
 .obtain⟨hg2,d⟩:=qI d;obtain⟨hg3,d⟩:=qI d;obtain⟨hg4,d⟩:=qI d;refine vN OV ?_ (hp:=by exact⟨hg2,hg3,hg4⟩);refine qS (rG ?_);cases d;exact pH []
 .refine r9 (qM ?_);refine qC OV ?_;refine qS ?_;cases d;exact pH []
def MB (O:Int) (Z:Int):Bool:=if (decide (O=(1:Int)))=true then (decide (Z=(10:Int))) else a2a (σ:=Bool) (if (decide (O=(2:Int)))=true then (decide (O=(2:Int))) else (decide (O=(3:Int))) ) fun aA=>if aA=true then ((decide (Z=(10:Int)))||(decide (Z=(34:Int)))) else ((decide (Z=(60:Int)))||(decide (Z=(34:Int))))
section
variable (O:Int) (Z:Int)
abbrev a5j:List qE:=[(.val (.int .i64) O,none),(.val (.int .u8) Z,none)]
abbrev a5k:List qD:=[]
@[go_sem] def a5l:qK:=⟨[],[(.val .bool (MB O Z),none)],[]⟩
def aF7:List qE→List qD→Option qK:=rP (V:=(Int×Int)) (fun x=>a5j x.1 x.2) (fun x=>a5k) fun x=>a5l x.1 x.2
@[go_sem] def aTA:aF7 (no_index (a5j O Z)) (no_index a5k)=some (a5l O Z):=rT (fun⟨a0,a1⟩ ⟨b0,b1⟩ h1 h2=>by cases h1;cases h2;rfl) (O,Z)
end
@[go_sem] abbrev aF8:Nat×r5:=(216,⟨[.v,.v],aF7,[],[],none⟩)
def HX:rH Tryz.prog [] (rI []):=⟨trivial,rN,rK⟩
def aOK:r8 Tryz.prog aF8:=by
 refine rU HX Tryz.func216 (c:=_) rfl (N:=25) pW (ts:=[(4,none)]) rfl (fun _ _=>rfl) ?_;intro⟨O,Z⟩ hs hrow;dsimp only[a5j,a5k,a5l,rM,qT,r6,rC,rO,Nat.reduceAdd] at hs hrow|-;obtain⟨z0,d⟩: ∃z,(MB O Z)=z:=⟨_,rfl⟩
 try rw[d]
 unfold MB at d;refine qC HX ?_;refine qQ ?_;refine qC HX ?_;refine rS ?_;refine qC HX ?_;refine qV d (fun d hc1=> ?_) (fun d hc1=> ?_)
 .refine qC HX ?_;refine qS (rY (rG ?_));cases d;exact pH []
 .refine qQ ?_;refine qC HX ?_;obtain⟨aA,f,d⟩:=aNx d;refine yZ (fun s=>s=(fun x=>⟨[(1,(.val (.int .u8) Z,none)),(10,(.val .bool x,none))],[],0,25,0⟩) aA) ?_ ?_
  .refine qV f (fun f hc2=> ?_) (fun f hc2=> ?_)
   .refine r9 ?_;cases f;exact uE ⟨⟨[1,10],[]⟩,by rfl⟩
   .refine rF HX ?_;cases f;exact uE ⟨⟨[1,10],[]⟩,by rfl⟩
  .rintro _ rfl;dsimp only at d|-;refine qM ?_;refine qV d (fun d hc3=> ?_) (fun d hc3=> ?_)
   .refine qC HX ?_ (hp:=by exact⟨id,sQ⟩);refine qS (rY (rG ?_));cases d;exact pH []
   .refine r9 (rW (qM ?_));refine qC HX ?_ (hp:=by exact⟨id,sQ⟩);refine qS ?_;cases d;exact pH []
def MC (O:(pO×Unit)) (Z:Int):Option Unit:=if (O.1.length+([Z]:pO).length)*1≤140737488355328 then some (()) else none
section
variable (O:Int) (Z:(pO×Unit)) (aA:Nat)
abbrev a5m:List qE:=[(.val .ref (some (0,0)),none),(.val (.int .u8) O,none)]
abbrev a5n:List qD:=[.cells wR ((some (0,0)),Z) [(1,1)],.grow 5 1 aA]
@[go_sem] def a5o:qK:=⟨[aA=(Z.1.length),((MC Z O)).isSome=true],[(.any,none)],[.cells wR ((some (0,0)),((Z.1++([O]:pO)),())) [(1,1)],.grow 5 1 ((Z.1++([O]:pO)).length)]⟩
def aF9:List qE→List qD→Option qK:=rP (V:=(Int×(pO×Unit)×Nat)) (fun x=>a5m x.1) (fun x=>a5n x.2.1 x.2.2) fun x=>a5o x.1 x.2.1 x.2.2
@[go_sem] def aTB:aF9 (no_index (a5m O)) (no_index (a5n Z aA))=some (a5o O Z aA):=rT (fun⟨a0,a1,a2⟩ ⟨b0,b1,b2⟩ h1 h2=>by cases h1;cases h2;rfl) (O,Z,aA)
end
@[go_sem] abbrev aGa:Nat×r5:=(217,⟨[.p wR [1],.v],aF9,[],[],none⟩)
def SV:rH Tryz.prog [ES,HQ] (rI [JK]):=⟨⟨HP,⟨M5,trivial⟩⟩,qP SG rN,rK⟩
def aOL:r8 Tryz.prog aGa:=by
 refine rU SV Tryz.func217 (c:=_) rfl (N:=17) pW (ts:=[(4,none)]) rfl (fun _ _=>rfl) ?_;intro⟨O,Z,aA⟩ hs hrow;dsimp only[a5m,a5n,a5o,rM,qT,r6,rC,rO,Nat.reduceAdd] at hs hrow|-;obtain⟨rfl,hz⟩:=hs;obtain⟨z0,d⟩:=aUV.1 hz
 try rw[s7 d]
 clear hz;unfold MC at d;refine qC SV ?_;refine qC SV ?_ (hp:=by first|rfl|trivial)
 obtain⟨hg1,d⟩:=qI d;refine qC SV ?_ (hp:=by exact⟨pV,hg1⟩)
 refine qC SV ?_;refine qS ?_;cases d;exact pH [(0,0),(1,1)]
def aGb (O:Int):Unit:=()
section
variable (O:Int)
abbrev a5p:List qE:=[(.val (.int .i64) O,none)]
abbrev a5q:List qD:=[]
@[go_sem] def a5r:qK:=⟨[],[(.val .bool (((decide ((0:Int)≤O))&&(decide (O≤(1114111:Int))))&&((decide (O<(55296:Int)))||(decide ((57343:Int)<O)))),none)],[]⟩
def aGc:List qE→List qD→Option qK:=rP (V:=Int) (a5p) (fun x=>a5q) fun x=>a5r x
@[go_sem] def aTC:aGc (no_index (a5p O)) (no_index a5q)=some (a5r O):=rT (fun a0 b0 h1 h2=>by cases h1;cases h2;rfl) O
end
@[go_sem] abbrev aGd:Nat×r5:=(240,⟨[.v],aGc,[],[],none⟩)
def a5s:rH Tryz.prog [] (rI []):=⟨trivial,rN,rK⟩
def aOM:r8 Tryz.prog aGd:=by
 refine rU a5s Tryz.func240 (c:=_) rfl (N:=17) pW (ts:=[(2,none)]) rfl (fun _ _=>rfl) ?_;intro O hs hrow;dsimp only[a5p,a5q,a5r,rM,qT,r6,rC,rO,Nat.reduceAdd] at hs hrow|-;obtain⟨z0,d⟩: ∃z,(aGb O)=z:=⟨_,rfl⟩
 try rw[d]
 unfold aGb at d;refine qC a5s ?_;refine qC a5s ?_ (hp:=by exact⟨id,sI,id,id,id,id,fun hG e=>HK hG e,sI⟩);refine qS ?_;cases d;exact pH []
attribute [irreducible] MA SU JW MC
end
noncomputable section
def MD (O:pO) (Z:Int):Option pO:=if (decide ((IntKind.wrap .u32 Z)≤(2047:Int)))=true then if (O.length+([(bits .or .u8 (192:Int) (IntKind.wrap .u8 (yS .i32 Z (6:Int)))),(bits .or .u8 (128:Int) (bits .and .u8 (IntKind.wrap .u8 Z) (63:Int)))]:pO).length)*1≤140737488355328 then some ((O++([(bits .or .u8 (192:Int) (IntKind.wrap .u8 (yS .i32 Z (6:Int)))),(bits .or .u8 (128:Int) (bits .and .u8 (IntKind.wrap .u8 Z) (63:Int)))]:pO))) else none else sU (σ:=Bool) (if (decide ((IntKind.wrap .u32 Z)<(55296:Int)))=true then some ((decide ((IntKind.wrap .u32 Z)<(55296:Int)))) else some (((decide ((57343:Int)<(IntKind.wrap .u32 Z)))&&(decide ((IntKind.wrap .u32 Z)≤(65535:Int))))) ) fun aA=>if aA=true then if (O.length+([(bits .or .u8 (224:Int) (IntKind.wrap .u8 (yS .i32 Z (12:Int)))),(bits .or .u8 (128:Int) (bits .and .u8 (IntKind.wrap .u8 (yS .i32 Z (6:Int))) (63:Int))),(bits .or .u8 (128:Int) (bits .and .u8 (IntKind.wrap .u8 Z) (63:Int)))]:pO).length)*1≤140737488355328 then some ((O++([(bits .or .u8 (224:Int) (IntKind.wrap .u8 (yS .i32 Z (12:Int)))),(bits .or .u8 (128:Int) (bits .and .u8 (IntKind.wrap .u8 (yS .i32 Z (6:Int))) (63:Int))),(bits .or .u8 (128:Int) (bits .and .u8 (IntKind.wrap .u8 Z) (63:Int)))]:pO))) else none else if ((decide ((65535:Int)<(IntKind.wrap .u32 Z)))&&(decide ((IntKind.wrap .u32 Z)≤(1114111:Int))))=true then if (O.length+([(bits .or .u8 (240:Int) (IntKind.wrap .u8 (yS .i32 Z (18:Int)))),(bits .or .u8 (128:Int) (bits .and .u8 (IntKind.wrap .u8 (yS .i32 Z (12:Int))) (63:Int))),(bits .or .u8 (128:Int) (bits .and .u8 (IntKind.wrap .u8 (yS .i32 Z (6:Int))) (63:Int))),(bits .or .u8 (128:Int) (bits .and .u8 (IntKind.wrap .u8 Z) (63:Int)))]:pO).length)*1≤140737488355328 then some ((O++([(bits .or .u8 (240:Int) (IntKind.wrap .u8 (yS .i32 Z (18:Int)))),(bits .or .u8 (128:Int) (bits .and .u8 (IntKind.wrap .u8 (yS .i32 Z (12:Int))) (63:Int))),(bits .or .u8 (128:Int) (bits .and .u8 (IntKind.wrap .u8 (yS .i32 Z (6:Int))) (63:Int))),(bits .or .u8 (128:Int) (bits .and .u8 (IntKind.wrap .u8 Z) (63:Int)))]:pO))) else none else if (O.length+([(239:Int),(191:Int),(189:Int)]:pO).length)*1≤140737488355328 then some ((O++([(239:Int),(191:Int),(189:Int)]:pO))) else none
section
variable (O:pO) (Z:Int) (aA:Nat)
abbrev a5t:List qE:=[(.val (.list (.int .u8)) O,some 0),(.val (.int .i32) Z,none)]
abbrev a5u:List qD:=[.grow 5 1 aA]
@[go_sem] def a5v:qK:=⟨[aA=(O.length),((MD O Z)).isSome=true],[(.val (.list (.int .u8)) (val (MD O Z)),some 0)],[.grow 5 1 ((val (MD O Z)).length)]⟩
def aGe:List qE→List qD→Option qK:=rP (V:=(pO×Int×Nat)) (fun x=>a5t x.1 x.2.1) (fun x=>a5u x.2.2) fun x=>a5v x.1 x.2.1 x.2.2
@[go_sem] def aTD:aGe (no_index (a5t O Z)) (no_index (a5u aA))=some (a5v O Z aA):=rT (fun⟨a0,a1,a2⟩ ⟨b0,b1,b2⟩ h1 h2=>by cases h1;cases h2;rfl) (O,Z,aA)
end
@[go_sem] abbrev aGf:Nat×r5:=(245,⟨[.own,.v],aGe,[],[],none⟩)
def F2:rH Tryz.prog [ER,SJ,ES,Y0] (rI []):=⟨⟨HO,⟨a3a,⟨HP,⟨aEZ,trivial⟩⟩⟩⟩,rN,rK⟩
def aON:r8 Tryz.prog aGf:=by
 refine rU F2 Tryz.func245 (c:=_) rfl (N:=78) pW (ts:=[(4,none)]) rfl (fun _ _=>rfl) ?_;intro⟨O,Z,aA⟩ hs hrow;dsimp only[a5t,a5u,a5v,rM,qT,r6,rC,rO,Nat.reduceAdd] at hs hrow|-;obtain⟨rfl,hz⟩:=hs;obtain⟨z0,e⟩:=aUV.1 hz
 try rw[s7 e]
 clear hz;unfold MD at e;refine qC F2 ?_;refine qC F2 ?_;refine rS ?_;refine qC F2 ?_;refine qV e (fun e hc1=> ?_) (fun e hc1=> ?_)
 .obtain⟨hg1,e⟩:=qI e;refine qC F2 ?_ (hp:=by exact⟨show (0:Int)≤(6:Int) from by decide,pV,hg1⟩)
  refine qS (rY ?_);cases e;exact pH [(0,0)]
 .refine qQ ?_;refine qC F2 ?_;obtain⟨aB,d,e⟩:=qO e;refine yZ (fun s=>s=(fun x=>⟨[(0,(.val (.list (.int .u8)) O,some 0)),(1,(.val (.int .i32) Z,none)),(5,(.val (.int .u32) (IntKind.wrap .u32 Z),none)),(25,(.val .bool x,none))],[(0,.grow 5 1 (O.length))],1,78,1⟩) aB) ?_ ?_
  .refine qV d (fun d hc2=> ?_) (fun d hc2=> ?_)
   .refine r9 ?_;cases d;exact uE ⟨⟨[0,1,5,25],[(0,0)]⟩,by rfl⟩
   .refine rF F2 ?_ (hp:=by exact⟨id,sI⟩);cases d;exact uE ⟨⟨[0,1,5,25],[(0,0)]⟩,by rfl⟩
  .rintro _ rfl;dsimp only at e|-;refine qM ?_;refine qV e (fun e hc3=> ?_) (fun e hc3=> ?_)
   .obtain⟨hg2,e⟩:=qI e;refine qC F2 ?_ (hp:=by exact⟨show (0:Int)≤(12:Int) from by decide,show (0:Int)≤(6:Int) from by decide,pV,hg2⟩)
    refine qS (rY ?_);cases e;exact pH [(0,0)]
   .refine qC F2 ?_ (hp:=by exact⟨id,sI⟩);refine qV e (fun e hc4=> ?_) (fun e hc4=> ?_)
    .obtain⟨hg3,e⟩:=qI e;refine qC F2 ?_ (hp:=by exact⟨show (0:Int)≤(18:Int) from by decide,show (0:Int)≤(12:Int) from by decide,show (0:Int)≤(6:Int) from by decide,pV,hg3⟩)
     refine qS (rY ?_);cases e;exact pH [(0,0)]
    .obtain⟨hg4,e⟩:=qI e;refine qC F2 ?_ (hp:=by exact⟨pV,hg4⟩)
     refine qS (rY ?_);cases e;exact pH [(0,0)]
def JX (O:pF) (Z:Int):(Int×Int)→Option ((Int×Int)⊕(Int⊕(Int×Bool))):=fun(aA,aB)=>if (decide (aB<(O.length:Int)))=true then if 0≤aB∧aB<(O.length:Int) then if 0≤aB∧aB<(O.length:Int) then if (((decide ((65:Int)≤(sJ O aB)))==true)=true→0≤aB∧aB<(O.length:Int)) then sU (σ:=Int) (if ((decide ((65:Int)≤(sJ O aB)))&&(decide ((sJ O aB)≤(70:Int))))=true then if 0≤aB∧aB<(O.length:Int) then some ((IntKind.wrap .i64 ((IntKind.wrap .i64 (IntKind.wrap .u8 ((sJ O aB)- (65:Int))))+(10:Int)))) else none else some ((vD ([48,49,50,51,52,53,54,55,56,57,97,98,99,100,101,102]:pF) (sJ O aB))) ) fun aC=>if ((decide (aC<(0:Int)))||(decide (Z≤aC)))=true then some (.inr (.inr (((0:Int),false)))) else some (.inl ((IntKind.wrap .i64 ((IntKind.wrap .i64 (aA*Z))+aC)),(IntKind.wrap .i64 (aB+(1:Int))))) else none else none else none else some (.inr (.inl aA))
def GC (O:pF) (Z:Int):Option (Int×Bool):=uF (rQ (JX O Z) ((0:Int),(0:Int))) fun aA=>some ((aA,(!decide (O=([]:pF)))))
section
variable (O:pF) (Z:Int)
abbrev a5w:List qE:=[(.val .str O,none),(.val (.int .i64) Z,none)]
abbrev a5x:List qD:=[]
@[go_sem] def a5y:qK:=⟨[((GC O Z)).isSome=true],[(.val (.int .i64) ((val (GC O Z)).1),none),(.val .bool ((val (GC O Z)).2),none)],[]⟩
def aGg:List qE→List qD→Option qK:=rP (V:=(pF×Int)) (fun x=>a5w x.1 x.2) (fun x=>a5x) fun x=>a5y x.1 x.2
@[go_sem] def aTE:aGg (no_index (a5w O Z)) (no_index a5x)=some (a5y O Z):=rT (fun⟨a0,a1⟩ ⟨b0,b1⟩ h1 h2=>by cases h1;cases h2;rfl) (O,Z)
end
@[go_sem] abbrev a5z:Nat×r5:=(226,⟨[.v,.v],aGg,[],[],none⟩)
def C5:rH Tryz.prog [a2w,ER,sL] (rI [G5]):=⟨⟨aOc,⟨HO,⟨sP,trivial⟩⟩⟩,qP LU rN,rK⟩
def aGh:r8 Tryz.prog a5z:=by
 refine rU C5 Tryz.func226 (c:=_) rfl (N:=50) pW (ts:=[(4,none),(5,none)]) rfl (fun _ _=>rfl) ?_;intro⟨O,Z⟩ hs hrow;dsimp only[a5w,a5x,a5y,rM,qT,r6,rC,rO,Nat.reduceAdd] at hs hrow|-;have hz:=hs;obtain⟨z0,e⟩:=aUV.1 hz
 try rw[s7 e]
 clear hz hs;unfold GC at e;refine qC C5 ?_;refine qC C5 ?_;refine qQ ?_;refine qC C5 ?_;refine rS ?_;obtain⟨y1,hy1,e⟩:=vF e;refine uA 0 (fun s=> ∃v,y1= .inl v∧s=(fun x=>⟨[(0,(.val .str O,none)),(6,(.val (.int .i64) x,none))],[],0,50,0⟩) v) ?_ ?_
 .refine tZ hy1 (fun x=>⟨[(0,(.val .str O,none)),(1,(.val (.int .i64) Z,none)),(6,(.val (.int .i64) x.1,none)),(10,(.val (.int .i64) (O.length:Int),none)),(11,(.val (.int .i64) x.2,none))],[],0,50,0⟩) ⟨[0,1,6,10,11],[]⟩ pX ?_;intro x1 w1 n1 d i;obtain⟨aA,aB⟩:=x1;unfold JX at d;dsimp only at d|-;refine qC C5 ?_;refine qQ ?_;refine qV d (fun d hc1=> ?_) (fun d hc1=> ?_)
  .refine r9 (qM (qQ (rS ?_)));refine qC C5 ?_;obtain⟨hg1,d⟩:=qI d;refine qC C5 ?_ (hp:=by exact hg1);refine qQ ?_;obtain⟨hg2,d⟩:=qI d;obtain⟨hg3,d⟩:=qI d;refine qC C5 ?_ (hp:=by exact⟨hg2,id,id,hg3,id,sI⟩);obtain⟨aC,j,d⟩:=qO d;refine yZ (fun s=>s=(fun x=>⟨[(0,(.val .str O,none)),(1,(.val (.int .i64) Z,none)),(6,(.val (.int .i64) aA,none)),(8,(.val (.int .i64) x,none)),(10,(.val (.int .i64) (O.length:Int),none)),(11,(.val (.int .i64) aB,none))],[],0,50,0⟩) aC) ?_ ?_
   .refine qV j (fun j hc2=> ?_) (fun j hc2=> ?_)
    .obtain⟨hg4,j⟩:=qI j;refine rF C5 ?_ (hp:=by exact hg4);cases j;exact uE ⟨⟨[0,1,6,8,10,11],[]⟩,by rfl⟩
    .refine r9 ?_;cases j;exact uE ⟨⟨[0,1,6,8,10,11],[]⟩,by rfl⟩
   .rintro _ rfl;dsimp only at d|-;refine qM (qQ ?_);refine qC C5 ?_ (hp:=by exact⟨id,id,sQ⟩);refine qV d (fun d hc3=> ?_) (fun d hc3=> ?_)
    .refine qC C5 ?_;refine qS (rG (rY (rG (vE (vM (rY (rG ?_)))))));cases d;cases i;dsimp only at e;cases e;exact pH []
    .refine r9 (qM ?_);refine rF C5 ?_;refine rW (qM ?_);refine rF C5 ?_;cases d;exact sX ⟨⟨[0,1,6,10,11],[]⟩,_,by rfl,i⟩
  .refine tV (tU (tX ?_));cases d;cases i;exact tW ⟨⟨[0,6],[]⟩,_,rfl,by rfl⟩
 .rintro _ ⟨aD,rfl,rfl⟩;dsimp only at e|-;refine u7 (qM ?_);refine qC C5 ?_;refine qS ?_;cases e;exact pH []
def SW (O:(List r7)) (Z:pF):Int→Option (Int⊕(Unit⊕Int)):=fun aA=>if (decide (aA<(O.length:Int)))=true then if 0≤aA∧aA<(O.length:Int) then if (decide (((qR (.pair .str (.pair .str .unit)) O aA).1)=Z))=true then some (.inr (.inr (aA))) else if qG (aA+(1:Int)) then some (.inl (aA+(1:Int))) else none else none else some (.inr (.inl ()))
def OW (O:(List r7)) (Z:pF):Option Int:=uF (rQ (SW O Z) (0:Int)) fun _=>some ((-1:Int))
section
variable (O:(List r7)) (Z:pF)
abbrev a5A:List qE:=[(.val (.list (.pair .str (.pair .str .unit))) O,none),(.val .clo (some (191,[(0,0)])),none)]
abbrev a5B:List qD:=[.cells .str Z []]
@[go_sem] def a5C:qK:=⟨[((OW O Z)).isSome=true],[(.val (.int .i64) (val (OW O Z)),none)],[.cells .str Z []]⟩
def aGi:List qE→List qD→Option qK:=rP (V:=((List r7)×pF)) (fun x=>a5A x.1) (fun x=>a5B x.2) fun x=>a5C x.1 x.2
@[go_sem] def aTF:aGi (no_index (a5A O)) (no_index (a5B Z))=some (a5C O Z):=rT (fun⟨a0,a1⟩ ⟨b0,b1⟩ h1 h2=>by cases h1;cases h2;rfl) (O,Z)
end
@[go_sem] abbrev aGj:Nat×r5:=(157,⟨[.v,.f [(.str,[])]],aGi,[],[0],none⟩)
def HY:rH Tryz.prog [y8,D4] (rI [aF2]):=⟨⟨z8,⟨ET,trivial⟩⟩,qP aOH rN,rK⟩
def aOO:r8 Tryz.prog aGj:=by
 refine rU HY Tryz.func157 (c:=_) rfl (N:=19) pW (ts:=[(4,none)]) rfl (fun _ _=>rfl) ?_;intro⟨O,Z⟩ hs hrow;dsimp only[a5A,a5B,a5C,rM,qT,r6,rC,rO,Nat.reduceAdd] at hs hrow|-;have hz:=hs;obtain⟨z0,e⟩:=aUV.1 hz
 try rw[s7 e]
 clear hz hs;unfold OW at e;refine qC HY ?_;refine qQ ?_;refine qC HY ?_;refine rS ?_;obtain⟨y1,hy1,e⟩:=vF e;refine uA 0 (fun s=> ∃v,y1= .inl v∧s=(fun _=>⟨[],[(0,.cells .str Z [])],1,19,1⟩) v) ?_ ?_
 .refine tZ hy1 (fun x=>⟨[(0,(.val (.list (.pair .str (.pair .str .unit))) O,none)),(1,(.val .clo (some (191,[(0,0)])),none)),(7,(.val (.int .i64) (O.length:Int),none)),(8,(.val (.int .i64) x,none))],[(0,.cells .str Z [])],1,19,1⟩) ⟨[0,1,7,8],[(0,0)]⟩ pX ?_;intro aA w1 n1 d i;unfold SW at d;dsimp only at d|-;refine qC HY ?_;refine qQ ?_;refine qV d (fun d hc1=> ?_) (fun d hc1=> ?_)
  .refine r9 (qM (qQ (rS ?_)));refine qC HY ?_;obtain⟨hg1,d⟩:=qI d;refine qC HY ?_ (hp:=by exact⟨hg1,pV⟩)
   refine qV d (fun d hc2=> ?_) (fun d hc2=> ?_)
   .refine qC HY ?_;refine qS (rY (rG (vE (vM (rY (rG ?_))))));cases d;cases i;dsimp only at e;cases e;exact pH [(0,0)]
   .refine r9 (rW (qM ?_));obtain⟨hg2,d⟩:=qI d;refine rF HY ?_ (hp:=by exact hg2);cases d;exact sX ⟨⟨[0,1,7,8],[(0,0)]⟩,_,by rfl,i⟩
  .refine tV (tU (tX ?_));cases d;cases i;exact tW ⟨⟨[],[(0,0)]⟩,_,rfl,by rfl⟩
 .rintro _ ⟨v,rfl,rfl⟩;dsimp only at e|-;refine u7 (qM ?_);refine qC HY ?_;refine qS ?_;cases e;exact pH [(0,0)]
def SX (O:(List r7)) (Z:pF):Int→Option (Int⊕(Unit⊕Int)):=fun aA=>if (decide (aA<(O.length:Int)))=true then if 0≤aA∧aA<(O.length:Int) then if (!(Op.bytesLess ((qR (.pair .str (.pair .str .unit)) O aA).1) Z||decide (((qR (.pair .str (.pair .str .unit)) O aA).1)=Z)))=true then some (.inr (.inr (aA))) else if qG (aA+(1:Int)) then some (.inl (aA+(1:Int))) else none else none else some (.inr (.inl ()))
def OX (O:(List r7)) (Z:pF):Option Int:=uF (rQ (SX O Z) (0:Int)) fun _=>some ((-1:Int))
section
variable (O:(List r7)) (Z:pF)
abbrev a5D:List qE:=[(.val (.list (.pair .str (.pair .str .unit))) O,none),(.val .clo (some (158,[(0,0)])),none)]
abbrev a5E:List qD:=[.cells .str Z []]
@[go_sem] def a5F:qK:=⟨[((OX O Z)).isSome=true],[(.val (.int .i64) (val (OX O Z)),none)],[.cells .str Z []]⟩
def aGk:List qE→List qD→Option qK:=rP (V:=((List r7)×pF)) (fun x=>a5D x.1) (fun x=>a5E x.2) fun x=>a5F x.1 x.2
@[go_sem] def aTG:aGk (no_index (a5D O)) (no_index (a5E Z))=some (a5F O Z):=rT (fun⟨a0,a1⟩ ⟨b0,b1⟩ h1 h2=>by cases h1;cases h2;rfl) (O,Z)
end
@[go_sem] abbrev aGl:Nat×r5:=(157,⟨[.v,.f [(.str,[])]],aGk,[],[0],none⟩)
def HZ:rH Tryz.prog [y8,D4] (rI [aFU]):=⟨⟨z8,⟨ET,trivial⟩⟩,qP aOF rN,rK⟩
def aOP:r8 Tryz.prog aGl:=by
 refine rU HZ Tryz.func157 (c:=_) rfl (N:=19) pW (ts:=[(4,none)]) rfl (fun _ _=>rfl) ?_;intro⟨O,Z⟩ hs hrow;dsimp only[a5D,a5E,a5F,rM,qT,r6,rC,rO,Nat.reduceAdd] at hs hrow|-;have hz:=hs;obtain⟨z0,e⟩:=aUV.1 hz
 try rw[s7 e]
 clear hz hs;unfold OX at e;refine qC HZ ?_;refine qQ ?_;refine qC HZ ?_;refine rS ?_;obtain⟨y1,hy1,e⟩:=vF e;refine uA 0 (fun s=> ∃v,y1= .inl v∧s=(fun _=>⟨[],[(0,.cells .str Z [])],1,19,1⟩) v) ?_ ?_
 .refine tZ hy1 (fun x=>⟨[(0,(.val (.list (.pair .str (.pair .str .unit))) O,none)),(1,(.val .clo (some (158,[(0,0)])),none)),(7,(.val (.int .i64) (O.length:Int),none)),(8,(.val (.int .i64) x,none))],[(0,.cells .str Z [])],1,19,1⟩) ⟨[0,1,7,8],[(0,0)]⟩ pX ?_;intro aA w1 n1 d i;unfold SX at d;dsimp only at d|-;refine qC HZ ?_;refine qQ ?_;refine qV d (fun d hc1=> ?_) (fun d hc1=> ?_)
  .refine r9 (qM (qQ (rS ?_)));refine qC HZ ?_;obtain⟨hg1,d⟩:=qI d;refine qC HZ ?_ (hp:=by exact⟨hg1,pV⟩)
   refine qV d (fun d hc2=> ?_) (fun d hc2=> ?_)
   .refine qC HZ ?_;refine qS (rY (rG (vE (vM (rY (rG ?_))))));cases d;cases i;dsimp only at e;cases e;exact pH [(0,0)]
   .refine r9 (rW (qM ?_));obtain⟨hg2,d⟩:=qI d;refine rF HZ ?_ (hp:=by exact hg2);cases d;exact sX ⟨⟨[0,1,7,8],[(0,0)]⟩,_,by rfl,i⟩
  .refine tV (tU (tX ?_));cases d;cases i;exact tW ⟨⟨[],[(0,0)]⟩,_,rfl,by rfl⟩
 .rintro _ ⟨v,rfl,rfl⟩;dsimp only at e|-;refine u7 (qM ?_);refine qC HZ ?_;refine qS ?_;cases e;exact pH [(0,0)]
attribute [irreducible] MD GC OW OX
end
noncomputable section
def JY (O:(List r7)):Option (List r7):=if (0+O.length)*32≤140737488355328 then some ((([]:List r7)++O)) else none
section
variable (O:(List r7))
abbrev a5G:List qE:=[(.val (.list (.pair .str (.pair .str .unit))) O,none)]
abbrev a5H:List qD:=[]
@[go_sem] def a5I:qK:=⟨[((JY O)).isSome=true],[(.own 0 ((val (JY O)).length),none)],[.row 111 (.pair .str (.pair .str .unit)) (val (JY O)) ((val (JY O)).length)]⟩
def aGm:List qE→List qD→Option qK:=rP (V:=(List r7)) (a5G) (fun x=>a5H) fun x=>a5I x
@[go_sem] def aTH:aGm (no_index (a5G O)) (no_index a5H)=some (a5I O):=rT (fun a0 b0 h1 h2=>by cases h1;cases h2;rfl) O
end
@[go_sem] abbrev aGn:Nat×r5:=(156,⟨[.v],aGm,[],[],none⟩)
def SY:rH Tryz.prog [Y1] (rI []):=⟨⟨aE0,trivial⟩,rN,rK⟩
def aOQ:r8 Tryz.prog aGn:=by
 refine rU SY Tryz.func156 (c:=_) rfl (N:=8) pW (ts:=[(2,none)]) rfl (fun _ _=>rfl) ?_;intro O hs hrow;dsimp only[a5G,a5H,a5I,rM,qT,r6,rC,rO,Nat.reduceAdd] at hs hrow|-;have hz:=hs;obtain⟨z0,d⟩:=aUV.1 hz
 try rw[s7 d]
 clear hz hs;unfold JY at d;refine qC SY ?_;refine qQ ?_;refine qC SY ?_;refine aEe (by simp only[go_sem];rfl) (fun hnil=> ?_) (fun hnil=> ?_)
 .subst hnil;obtain⟨_,d⟩:=qI d;refine qC SY ?_;refine qS (rG ?_);cases d;exact pH [(0,96)]
 .refine r9 (qM ?_);obtain⟨hg1,d⟩:=qI d;refine qC SY ?_ (hp:=by exact⟨pV,hg1⟩)
  refine qS ?_;cases d;exact pH [(0,96)]
def SZ (O:pG):Int→Option (Int⊕(Unit⊕Int)):=fun Z=>if (decide (Z<(O.length:Int)))=true then if 0≤Z∧Z<(O.length:Int) then (OT (qR .str O Z)).bind fun aA=>if aA=true then some (.inr (.inr (Z))) else if qG (Z+(1:Int)) then some (.inl (Z+(1:Int))) else none else none else some (.inr (.inl ()))
def OY (O:pG):Option Int:=uF (rQ (SZ O) (0:Int)) fun _=>some ((-1:Int))
section
variable (O:pG)
abbrev a5J:List qE:=[(.val (.list .str) O,none),(.val .clo (some (133,[])),none)]
abbrev a5K:List qD:=[]
@[go_sem] def a5L:qK:=⟨[((OY O)).isSome=true],[(.val (.int .i64) (val (OY O)),none)],[]⟩
def aGo:List qE→List qD→Option qK:=rP (V:=pG) (a5J) (fun x=>a5K) fun x=>a5L x
@[go_sem] def aTI:aGo (no_index (a5J O)) (no_index a5K)=some (a5L O):=rT (fun a0 b0 h1 h2=>by cases h1;cases h2;rfl) O
end
@[go_sem] abbrev aGp:Nat×r5:=(137,⟨[.v,.v],aGo,[],[],none⟩)
def I0:rH Tryz.prog [sL,vY] (rI [aFE]):=⟨⟨sP,⟨wE,trivial⟩⟩,qP aOB rN,rK⟩
def aOR:r8 Tryz.prog aGp:=by
 refine rU I0 Tryz.func137 (c:=_) rfl (N:=19) pW (ts:=[(4,none)]) rfl (fun _ _=>rfl) ?_;intro O hs hrow;dsimp only[a5J,a5K,a5L,rM,qT,r6,rC,rO,Nat.reduceAdd] at hs hrow|-;have hz:=hs;obtain⟨z0,d⟩:=aUV.1 hz
 try rw[s7 d]
 clear hz hs;unfold OY at d;refine qC I0 ?_;refine qQ ?_;refine qC I0 ?_;refine rS ?_;obtain⟨y1,hy1,d⟩:=vF d;refine uA 0 (fun s=> ∃v,y1= .inl v∧s=(fun _=>⟨[],[],0,19,0⟩) v) ?_ ?_
 .refine tZ hy1 (fun x=>⟨[(0,(.val (.list .str) O,none)),(1,(.val .clo (some (133,[])),none)),(7,(.val (.int .i64) (O.length:Int),none)),(8,(.val (.int .i64) x,none))],[],0,19,0⟩) ⟨[0,1,7,8],[]⟩ pX ?_;intro Z w1 n1 e g;unfold SZ at e;dsimp only at e|-;refine qC I0 ?_;refine qQ ?_;refine qV e (fun e hc1=> ?_) (fun e hc1=> ?_)
  .refine r9 (qM (qQ (rS ?_)));refine qC I0 ?_;obtain⟨hg1,e⟩:=qI e;obtain⟨aA,hv2,hw2,e⟩:=qY e
   try simp only[go_sem] at hw2
   refine qC I0 ?_ (hp:=by exact⟨hg1,(qW hv2)⟩) (h:=by simp only[go_sem,hw2];rfl);refine qV e (fun e hc2=> ?_) (fun e hc2=> ?_)
   .refine qC I0 ?_;refine qS (rY (rG (vE (vM (rY (rG ?_))))));cases e;cases g;dsimp only at d;cases d;exact pH []
   .refine r9 (rW (qM ?_));obtain⟨hg3,e⟩:=qI e;refine rF I0 ?_ (hp:=by exact hg3);cases e;exact sX ⟨⟨[0,1,7,8],[]⟩,_,by rfl,g⟩
  .refine tV (tU (tX ?_));cases e;cases g;exact tW ⟨⟨[],[]⟩,_,rfl,by rfl⟩
 .rintro _ ⟨v,rfl,rfl⟩;dsimp only at d|-;refine u7 (qM ?_);refine qC I0 ?_;refine qS ?_;cases d;exact pH []
def ME (O:pG):Option Bool:=(OY O).bind fun Z=>some ((decide ((0:Int)≤Z)))
section
variable (O:pG)
abbrev a5M:List qE:=[(.val (.list .str) O,none),(.val .clo (some (133,[])),none)]
abbrev a5N:List qD:=[]
@[go_sem] def a5O:qK:=⟨[((ME O)).isSome=true],[(.val .bool (val (ME O)),none)],[]⟩
def aGq:List qE→List qD→Option qK:=rP (V:=pG) (a5M) (fun x=>a5N) fun x=>a5O x
@[go_sem] def aTJ:aGq (no_index (a5M O)) (no_index a5N)=some (a5O O):=rT (fun a0 b0 h1 h2=>by cases h1;cases h2;rfl) O
end
@[go_sem] abbrev aGr:Nat×r5:=(95,⟨[.v,.v],aGq,[],[],none⟩)
def a5P:rH Tryz.prog [] (rI [aGp]):=⟨trivial,qP aOR rN,rK⟩
def aOS:r8 Tryz.prog aGr:=by
 refine rU a5P Tryz.func95 (c:=_) rfl (N:=9) pW (ts:=[(4,none)]) rfl (fun _ _=>rfl) ?_;intro O hs hrow;dsimp only[a5M,a5N,a5O,rM,qT,r6,rC,rO,Nat.reduceAdd] at hs hrow|-;have hz:=hs;obtain⟨z0,d⟩:=aUV.1 hz
 try rw[s7 d]
 clear hz hs;unfold ME at d;refine qC a5P ?_;obtain⟨Z,hv1,hw1,d⟩:=qY d
 try simp only[go_sem] at hw1
 refine qC a5P ?_ (hp:=by exact(qW hv1)) (h:=by simp only[go_sem,hw1];rfl);refine qS ?_;cases d;exact pH []
def T0 (O:(List r7)) (Z:r7):Int→Option (Int⊕(Unit⊕Int)):=fun aA=>if (decide (aA<(O.length:Int)))=true then if 0≤aA∧aA<(O.length:Int) then if (decide (((qR (.pair .str (.pair .str .unit)) O aA).1)=Z.1))=true then some (.inr (.inr (aA))) else if qG (aA+(1:Int)) then some (.inl (aA+(1:Int))) else none else none else some (.inr (.inl ()))
def OZ (O:(List r7)) (Z:r7):Option Int:=uF (rQ (T0 O Z) (0:Int)) fun _=>some ((-1:Int))
section
variable (O:(List r7)) (Z:r7)
abbrev a5Q:List qE:=[(.val (.list (.pair .str (.pair .str .unit))) O,none),(.val .clo (some (129,[(0,0)])),none)]
abbrev a5R:List qD:=[.cells (.pair .str (.pair .str .unit)) Z []]
@[go_sem] def a5S:qK:=⟨[((OZ O Z)).isSome=true],[(.val (.int .i64) (val (OZ O Z)),none)],[.cells (.pair .str (.pair .str .unit)) Z []]⟩
def aGs:List qE→List qD→Option qK:=rP (V:=((List r7)×r7)) (fun x=>a5Q x.1) (fun x=>a5R x.2) fun x=>a5S x.1 x.2
@[go_sem] def aTK:aGs (no_index (a5Q O)) (no_index (a5R Z))=some (a5S O Z):=rT (fun⟨a0,a1⟩ ⟨b0,b1⟩ h1 h2=>by cases h1;cases h2;rfl) (O,Z)
end
@[go_sem] abbrev aGt:Nat×r5:=(136,⟨[.v,.f [((.pair .str (.pair .str .unit)),[])]],aGs,[],[0],none⟩)
def I1:rH Tryz.prog [D6,C2] (rI [aFC]):=⟨⟨EV,⟨DT,trivial⟩⟩,qP aOA rN,rK⟩
def aOT:r8 Tryz.prog aGt:=by
 refine rU I1 Tryz.func136 (c:=_) rfl (N:=19) pW (ts:=[(4,none)]) rfl (fun _ _=>rfl) ?_;intro⟨O,Z⟩ hs hrow;dsimp only[a5Q,a5R,a5S,rM,qT,r6,rC,rO,Nat.reduceAdd] at hs hrow|-;have hz:=hs;obtain⟨z0,d⟩:=aUV.1 hz
 try rw[s7 d]
 clear hz hs;unfold OZ at d;refine qC I1 ?_;refine qQ ?_;refine qC I1 ?_;refine rS ?_;obtain⟨y1,hy1,d⟩:=vF d;refine uA 0 (fun s=> ∃v,y1= .inl v∧s=(fun _=>⟨[],[(0,.cells (.pair .str (.pair .str .unit)) Z [])],1,19,1⟩) v) ?_ ?_
 .refine tZ hy1 (fun x=>⟨[(0,(.val (.list (.pair .str (.pair .str .unit))) O,none)),(1,(.val .clo (some (129,[(0,0)])),none)),(7,(.val (.int .i64) (O.length:Int),none)),(8,(.val (.int .i64) x,none))],[(0,.cells (.pair .str (.pair .str .unit)) Z [])],1,19,1⟩) ⟨[0,1,7,8],[(0,0)]⟩ pX ?_;intro aA w1 n1 e g;unfold T0 at e;dsimp only at e|-;refine qC I1 ?_;refine qQ ?_;refine qV e (fun e hc1=> ?_) (fun e hc1=> ?_)
  .refine r9 (qM (qQ (rS ?_)));refine qC I1 ?_;obtain⟨hg1,e⟩:=qI e;refine qC I1 ?_ (hp:=by exact⟨hg1,pV⟩)
   refine qV e (fun e hc2=> ?_) (fun e hc2=> ?_)
   .refine qC I1 ?_;refine qS (rY (rG (vE (vM (rY (rG ?_))))));cases e;cases g;dsimp only at d;cases d;exact pH [(0,0)]
   .refine r9 (rW (qM ?_));obtain⟨hg2,e⟩:=qI e;refine rF I1 ?_ (hp:=by exact hg2);cases e;exact sX ⟨⟨[0,1,7,8],[(0,0)]⟩,_,by rfl,g⟩
  .refine tV (tU (tX ?_));cases e;cases g;exact tW ⟨⟨[],[(0,0)]⟩,_,rfl,by rfl⟩
 .rintro _ ⟨v,rfl,rfl⟩;dsimp only at d|-;refine u7 (qM ?_);refine qC I1 ?_;refine qS ?_;cases d;exact pH [(0,0)]
def JZ (O:(List r7)) (Z:r7):Option Bool:=(OZ O Z).bind fun aA=>some ((decide ((0:Int)≤aA)))
section
variable (O:(List r7)) (Z:r7)
abbrev a5T:List qE:=[(.val (.list (.pair .str (.pair .str .unit))) O,none),(.val .clo (some (129,[(0,0)])),none)]
abbrev a5U:List qD:=[.cells (.pair .str (.pair .str .unit)) Z []]
@[go_sem] def a5V:qK:=⟨[((JZ O Z)).isSome=true],[(.val .bool (val (JZ O Z)),none)],[.cells (.pair .str (.pair .str .unit)) Z []]⟩
def aGu:List qE→List qD→Option qK:=rP (V:=((List r7)×r7)) (fun x=>a5T x.1) (fun x=>a5U x.2) fun x=>a5V x.1 x.2
@[go_sem] def aTL:aGu (no_index (a5T O)) (no_index (a5U Z))=some (a5V O Z):=rT (fun⟨a0,a1⟩ ⟨b0,b1⟩ h1 h2=>by cases h1;cases h2;rfl) (O,Z)
end
@[go_sem] abbrev aGv:Nat×r5:=(89,⟨[.v,.f [((.pair .str (.pair .str .unit)),[])]],aGu,[],[0],none⟩)
def a5W:rH Tryz.prog [] (rI [aGt]):=⟨trivial,qP aOT rN,rK⟩
def aOU:r8 Tryz.prog aGv:=by
 refine rU a5W Tryz.func89 (c:=_) rfl (N:=9) pW (ts:=[(4,none)]) rfl (fun _ _=>rfl) ?_;intro⟨O,Z⟩ hs hrow;dsimp only[a5T,a5U,a5V,rM,qT,r6,rC,rO,Nat.reduceAdd] at hs hrow|-;have hz:=hs;obtain⟨z0,d⟩:=aUV.1 hz
 try rw[s7 d]
 clear hz hs;unfold JZ at d;refine qC a5W ?_;obtain⟨aA,hv1,hw1,d⟩:=qY d
 try simp only[go_sem] at hw1
 refine qC a5W ?_ (hp:=by exact⟨pV,(qW hv1)⟩) (h:=by simp only[go_sem,hw1];rfl)
 refine qS ?_;cases d;exact pH [(0,0)]
def zA (O:pG):Option pG:=if (0+O.length)*16≤140737488355328 then some ((([]:pG)++O)) else none
section
variable (O:pG)
abbrev a5X:List qE:=[(.val (.list .str) O,none)]
abbrev a5Y:List qD:=[]
@[go_sem] def a5Z:qK:=⟨[((zA O)).isSome=true],[(.own 0 ((val (zA O)).length),none)],[.row 9 .str (val (zA O)) ((val (zA O)).length)]⟩
def aGw:List qE→List qD→Option qK:=rP (V:=pG) (a5X) (fun x=>a5Y) fun x=>a5Z x
@[go_sem] def aTM:aGw (no_index (a5X O)) (no_index a5Y)=some (a5Z O):=rT (fun a0 b0 h1 h2=>by cases h1;cases h2;rfl) O
end
@[go_sem] abbrev a50:Nat×r5:=(28,⟨[.v],aGw,[],[],none⟩)
def T1:rH Tryz.prog [SK] (rI []):=⟨⟨a3b,trivial⟩,rN,rK⟩
def aGx:r8 Tryz.prog a50:=by
 refine rU T1 Tryz.func28 (c:=_) rfl (N:=8) pW (ts:=[(2,none)]) rfl (fun _ _=>rfl) ?_;intro O hs hrow;dsimp only[a5X,a5Y,a5Z,rM,qT,r6,rC,rO,Nat.reduceAdd] at hs hrow|-;have hz:=hs;obtain⟨z0,d⟩:=aUV.1 hz
 try rw[s7 d]
 clear hz hs;unfold zA at d;refine qC T1 ?_;refine qQ ?_;refine qC T1 ?_;refine aEe (by simp only[go_sem];rfl) (fun hnil=> ?_) (fun hnil=> ?_)
 .subst hnil;obtain⟨_,d⟩:=qI d;refine qC T1 ?_;refine qS (rG ?_);cases d;exact pH [(0,96)]
 .refine r9 (qM ?_);obtain⟨hg1,d⟩:=qI d;refine qC T1 ?_ (hp:=by exact⟨pV,hg1⟩)
  refine qS ?_;cases d;exact pH [(0,96)]
def aGy:Unit:=()
section
abbrev a52:List qE:=[]
abbrev a54:List qD:=[]
@[go_sem] def a55:qK:=⟨[],[(.val (.list .str) ([([110,101,119]:pF),([102,117,122,122,121]:pF),([116,114,97,110,115,108,97,116,101,100]:pF),([114,101,118,105,101,119,101,100]:pF),([111,98,115,111,108,101,116,101]:pF)]:pG),none)],[]⟩
def aGz:List qE→List qD→Option qK:=rP (V:=Unit) (fun x=>a52) (fun x=>a54) fun x=>a55
@[go_sem] def aTN:aGz (no_index a52) (no_index a54)=some a55:=rT (fun _ _ h1 h2=>by cases h1;cases h2;rfl) ()
end
@[go_sem] abbrev T2:Nat×r5:=(69,⟨[],aGz,[],[],none⟩)
def a56:rH Tryz.prog [vY] (rI []):=⟨⟨wE,trivial⟩,rN,rK⟩
def Y9:r8 Tryz.prog T2:=by
 refine rU a56 Tryz.func69 (c:=_) rfl (N:=2) pW (ts:=[(0,none)]) rfl (fun _ _=>rfl) ?_;intro⟨⟩ hs hrow;dsimp only[a52,a54,a55,rM,qT,r6,rC,rO,Nat.reduceAdd] at hs hrow|-;obtain⟨z0,d⟩: ∃z,aGy=z:=⟨_,rfl⟩
 try rw[d]
 unfold aGy at d;refine qC a56 ?_;refine qC a56 ?_;refine qS ?_;cases d;exact pH []
attribute [irreducible] JY OY ME OZ JZ zA
end
noncomputable section
def P0 (O:z7) (Z:pF) (aA:pF):(Int×(List (pF×pF)))→Option ((Int×(List (pF×pF)))⊕((List (pF×pF))⊕(List (pF×pF)))):=fun(aB,aC)=>if (decide (aB<(O.2.2.1.length:Int)))=true then if 0≤aB∧aB<(O.2.2.1.length:Int) then if ((Z++([32]:pF)).length:Int)≤9223372036854775807 then if (((Z++([32]:pF))++aA).length:Int)≤9223372036854775807 then if (List.all ((Z++([32]:pF))++aA) fun b=>decide (b.toNat<128))=true∧List.length ((Z++([32]:pF))++aA)<4294967281 then (EZ (Lib.fields ((Z++([32]:pF))++aA)) ((qR (.pair .str (.pair .str .unit)) O.2.2.1 aB).1)).bind fun aD=>if (!aD)=true then none else if qG (aB+(1:Int)) then some (.inl ((aB+(1:Int)),(tY .str .str ((qR (.pair .str (.pair .str .unit)) O.2.2.1 aB).1) ((qR (.pair .str (.pair .str .unit)) O.2.2.1 aB).2.1) aC))) else none else none else none else none else none else some (.inr (.inl aC))
def K0 (O:pF) (Z:(List (pF×pF))):Int→Option (Int⊕(Unit⊕(List (pF×pF)))):=fun aA=>if (decide (aA<((((Lib.fields O).length):Nat):Int)))=true then if 0≤aA∧aA<((((Lib.fields O).length):Nat):Int) then if (!(vW .str .str Z (qR .str (Lib.fields O) aA)))=true then none else if qG (aA+(1:Int)) then some (.inl (aA+(1:Int))) else none else none else some (.inr (.inl ()))
def wT (O:z7) (Z:pF) (aA:pF):Option (List (pF×pF)):=uF (rQ (P0 O Z aA) ((0:Int),([]:List (pF×pF)))) fun aB=>if (List.all Z fun b=>decide (b.toNat<128))=true∧List.length Z<4294967281 then uF (rQ (K0 Z aB) (0:Int)) fun _=>some (aB) else none
section
variable (O:z7) (Z:pF) (aA:pF)
abbrev a57:List qE:=[(.val xF O,none),(.val .str Z,none),(.val .str aA,none)]
abbrev a58:List qD:=[]
@[go_sem] def a59:qK:=⟨[((wT O Z aA)).isSome=true],[(.val .mp (some 0),none),(.val .bool true,none)],[.map .str .str (val (wT O Z aA))]⟩
def aGA:List qE→List qD→Option qK:=rP (V:=(z7×pF×pF)) (fun x=>a57 x.1 x.2.1 x.2.2) (fun x=>a58) fun x=>a59 x.1 x.2.1 x.2.2
@[go_sem] def aTO:aGA (no_index (a57 O Z aA)) (no_index a58)=some (a59 O Z aA):=rT (fun⟨a0,a1,a2⟩ ⟨b0,b1,b2⟩ h1 h2=>by cases h1;cases h2;rfl) (O,Z,aA)
end
@[go_sem] abbrev P2:Nat×r5:=(80,⟨[.v,.v,.v],aGA,[],[],none⟩)
def zU:rH Tryz.prog [sL,vY,D6,zJ,G7,C2] (rI [LW,Y8]):=⟨⟨sP,⟨wE,⟨EV,⟨AA,⟨JN,⟨DT,trivial⟩⟩⟩⟩⟩⟩,qP XT (qP a4l rN),rK⟩
def T3:r8 Tryz.prog P2:=by
 refine rU zU Tryz.func80 (c:=_) rfl (N:=55) pW (ts:=[(6,none),(7,none)]) rfl (fun _ _=>rfl) ?_;intro⟨O,Z,aA⟩ hs hrow;dsimp only[a57,a58,a59,rM,qT,r6,rC,rO,Nat.reduceAdd] at hs hrow|-;have hz:=hs;obtain⟨z0,e⟩:=aUV.1 hz
 try rw[s7 e]
 clear hz hs;unfold wT at e;refine qC zU ?_;refine qC zU ?_;refine qQ ?_;refine qC zU ?_;refine rS ?_;obtain⟨y1,hy1,e⟩:=vF e;refine uA 0 (fun s=> ∃v,y1= .inl v∧s=(fun x=>⟨[(1,(.val .str Z,none)),(8,(.val .mp (some 0),none))],[(0,.map .str .str x)],1,55,0⟩) v) ?_ ?_
 .refine tZ hy1 (fun x=>⟨[(1,(.val .str Z,none)),(2,(.val .str aA,none)),(8,(.val .mp (some 0),none)),(17,(.val (.list (.pair .str (.pair .str .unit))) O.2.2.1,none)),(18,(.val (.int .i64) (O.2.2.1.length:Int),none)),(19,(.val (.int .i64) x.1,none))],[(0,.map .str .str x.2)],1,55,0⟩) ⟨[1,2,8,17,18,19],[(0,96)]⟩ pX ?_;intro x1 w1 n1 d f;obtain⟨aB,aC⟩:=x1;unfold P0 at d;dsimp only at d|-;refine qC zU ?_;refine qQ ?_;refine qV d (fun d hc1=> ?_) (fun d hc1=> ?_)
  .refine r9 (qM (qQ (rS ?_)));obtain⟨hg1,d⟩:=qI d;refine qC zU ?_ (hp:=by exact hg1);refine qQ ?_;obtain⟨hg2,d⟩:=qI d;obtain⟨hg3,d⟩:=qI d;obtain⟨hg4,d⟩:=qI d;obtain⟨aD,hv5,hw5,d⟩:=qY d
   try simp only[go_sem] at hw5
   refine vN zU ?_ (hp:=by exact⟨hg2,hg3,hg4,fun _=>by first|exact rfl|exact trivial,(qW hv5)⟩) (h:=by simp only[go_sem,hw5];rfl)
   refine qV d (fun d hc2=> ?_) (fun d hc2=> ?_)
   .refine qQ ?_;refine rF zU ?_;cases d
   .refine r9 (qM ?_);refine rF zU ?_;refine rW (qM ?_);obtain⟨hg6,d⟩:=qI d;refine rF zU ?_ (hp:=by exact hg6);cases d;exact sX ⟨⟨[1,2,8,17,18,19],[(0,0)]⟩,_,by rfl,f⟩
  .refine tV (tU (tX ?_));cases d;cases f;exact tW ⟨⟨[1,8],[(0,0)]⟩,_,rfl,by rfl⟩
 .rintro _ ⟨aE,rfl,rfl⟩;dsimp only at e|-;refine u7 (qM (qQ ?_));obtain⟨hg7,e⟩:=qI e;refine qC zU ?_ (hp:=by exact hg7);refine rS ?_;obtain⟨y1,hy1,e⟩:=vF e;refine uA 2 (fun s=> ∃v,y1= .inl v∧s=(fun _=>⟨[(8,(.val .mp (some 0),none))],[(0,.map .str .str aE)],1,55,0⟩) v) ?_ ?_
  .refine tZ hy1 (fun x=>⟨[(8,(.val .mp (some 0),none)),(39,(.own 1 ((Lib.fields Z).length),none)),(40,(.val (.int .i64) ((((Lib.fields Z).length):Nat):Int),none)),(41,(.val (.int .i64) x,none))],[(0,.map .str .str aE),(1,.row 9 .str (Lib.fields Z) ((Lib.fields Z).length))],2,55,0⟩) ⟨[8,39,40,41],[(0,0),(1,33)]⟩ pX ?_;intro aF w1 n1 d f;unfold K0 at d;dsimp only at d|-;refine qC zU ?_;refine qQ ?_;refine qV d (fun d hc3=> ?_) (fun d hc3=> ?_)
   .refine r9 (qM (qQ (rS ?_)));obtain⟨hg8,d⟩:=qI d;refine qC zU ?_ (hp:=by exact⟨hg8,pV⟩)
    refine qC zU ?_;refine qC zU ?_;refine qV d (fun d hc4=> ?_) (fun d hc4=> ?_)
    .refine qQ ?_;refine rF zU ?_;cases d
    .refine r9 (rW (qM ?_));obtain⟨hg9,d⟩:=qI d;refine rF zU ?_ (hp:=by exact hg9);cases d;exact sX ⟨⟨[8,39,40,41],[(0,0),(1,1)]⟩,_,by rfl,f⟩
   .refine tV (tU (tX ?_));cases d;cases f;exact tW ⟨⟨[8],[(0,0)]⟩,_,rfl,by rfl⟩
  .rintro _ ⟨v,rfl,rfl⟩;dsimp only at e|-;refine u7 (qM ?_);refine qC zU ?_;refine qS ?_;cases e;exact pH [(0,0)]
def P3 (O:z7) (Z:pF) (aA:pF):(Int×(List (pF×pF)))→Option ((Int×(List (pF×pF)))⊕((List (pF×pF))⊕Unit)):=fun(aB,aC)=>if (decide (aB<(O.2.2.1.length:Int)))=true then if 0≤aB∧aB<(O.2.2.1.length:Int) then if ((Z++([32]:pF)).length:Int)≤9223372036854775807 then if (((Z++([32]:pF))++aA).length:Int)≤9223372036854775807 then if (List.all ((Z++([32]:pF))++aA) fun b=>decide (b.toNat<128))=true∧List.length ((Z++([32]:pF))++aA)<4294967281 then (EZ (Lib.fields ((Z++([32]:pF))++aA)) ((qR (.pair .str (.pair .str .unit)) O.2.2.1 aB).1)).bind fun aD=>if (!aD)=true then some (.inr (.inr (()))) else if qG (aB+(1:Int)) then some (.inl ((aB+(1:Int)),(tY .str .str ((qR (.pair .str (.pair .str .unit)) O.2.2.1 aB).1) ((qR (.pair .str (.pair .str .unit)) O.2.2.1 aB).2.1) aC))) else none else none else none else none else none else some (.inr (.inl aC))
def MF (O:pF) (Z:(List (pF×pF))):Int→Option (Int⊕(Unit⊕Unit)):=fun aA=>if (decide (aA<((((Lib.fields O).length):Nat):Int)))=true then if 0≤aA∧aA<((((Lib.fields O).length):Nat):Int) then if (!(vW .str .str Z (qR .str (Lib.fields O) aA)))=true then some (.inr (.inr (()))) else if qG (aA+(1:Int)) then some (.inl (aA+(1:Int))) else none else none else some (.inr (.inl ()))
def DY (O:z7) (Z:pF) (aA:pF):Option Unit:=uF (rQ (P3 O Z aA) ((0:Int),([]:List (pF×pF)))) fun aB=>if (List.all Z fun b=>decide (b.toNat<128))=true∧List.length Z<4294967281 then uF (rQ (MF Z aB) (0:Int)) fun _=>none else none
section
variable (O:z7) (Z:pF) (aA:pF)
abbrev a6a:List qE:=[(.val xF O,none),(.val .str Z,none),(.val .str aA,none)]
abbrev a6b:List qD:=[]
@[go_sem] def a6c:qK:=⟨[((DY O Z aA)).isSome=true],[(.val .mp none,none),(.val .bool false,none)],[]⟩
def aGB:List qE→List qD→Option qK:=rP (V:=(z7×pF×pF)) (fun x=>a6a x.1 x.2.1 x.2.2) (fun x=>a6b) fun x=>a6c x.1 x.2.1 x.2.2
@[go_sem] def aTP:aGB (no_index (a6a O Z aA)) (no_index a6b)=some (a6c O Z aA):=rT (fun⟨a0,a1,a2⟩ ⟨b0,b1,b2⟩ h1 h2=>by cases h1;cases h2;rfl) (O,Z,aA)
end
@[go_sem] abbrev P4:Nat×r5:=(80,⟨[.v,.v,.v],aGB,[],[],none⟩)
def zV:rH Tryz.prog [sL,vY,D6,zJ,G7,C2] (rI [LW,Y8]):=⟨⟨sP,⟨wE,⟨EV,⟨AA,⟨JN,⟨DT,trivial⟩⟩⟩⟩⟩⟩,qP XT (qP a4l rN),rK⟩
def T4:r8 Tryz.prog P4:=by
 refine rU zV Tryz.func80 (c:=_) rfl (N:=55) pW (ts:=[(6,none),(7,none)]) rfl (fun _ _=>rfl) ?_;intro⟨O,Z,aA⟩ hs hrow;dsimp only[a6a,a6b,a6c,rM,qT,r6,rC,rO,Nat.reduceAdd] at hs hrow|-;have hz:=hs;obtain⟨z0,e⟩:=aUV.1 hz
 try rw[s7 e]
 clear hz hs;unfold DY at e;refine qC zV ?_;refine qC zV ?_;refine qQ ?_;refine qC zV ?_;refine rS ?_;obtain⟨y1,hy1,e⟩:=vF e;refine uA 0 (fun s=> ∃v,y1= .inl v∧s=(fun x=>⟨[(1,(.val .str Z,none)),(8,(.val .mp (some 0),none))],[(0,.map .str .str x)],1,55,0⟩) v) ?_ ?_
 .refine tZ hy1 (fun x=>⟨[(1,(.val .str Z,none)),(2,(.val .str aA,none)),(8,(.val .mp (some 0),none)),(17,(.val (.list (.pair .str (.pair .str .unit))) O.2.2.1,none)),(18,(.val (.int .i64) (O.2.2.1.length:Int),none)),(19,(.val (.int .i64) x.1,none))],[(0,.map .str .str x.2)],1,55,0⟩) ⟨[1,2,8,17,18,19],[(0,96)]⟩ pX ?_;intro x1 w1 n1 d f;obtain⟨aB,aC⟩:=x1;unfold P3 at d;dsimp only at d|-;refine qC zV ?_;refine qQ ?_;refine qV d (fun d hc1=> ?_) (fun d hc1=> ?_)
  .refine r9 (qM (qQ (rS ?_)));obtain⟨hg1,d⟩:=qI d;refine qC zV ?_ (hp:=by exact hg1);refine qQ ?_;obtain⟨hg2,d⟩:=qI d;obtain⟨hg3,d⟩:=qI d;obtain⟨hg4,d⟩:=qI d;obtain⟨aD,hv5,hw5,d⟩:=qY d
   try simp only[go_sem] at hw5
   refine vN zV ?_ (hp:=by exact⟨hg2,hg3,hg4,fun _=>by first|exact rfl|exact trivial,(qW hv5)⟩) (h:=by simp only[go_sem,hw5];rfl)
   refine qV d (fun d hc2=> ?_) (fun d hc2=> ?_)
   .refine qC zV ?_;refine qS (rG (rY (rG (vE (vM (rY (rG ?_)))))));cases d;cases f;dsimp only at e;cases e;exact pH []
   .refine r9 (qM ?_);refine rF zV ?_;refine rW (qM ?_);obtain⟨hg6,d⟩:=qI d;refine rF zV ?_ (hp:=by exact hg6);cases d;exact sX ⟨⟨[1,2,8,17,18,19],[(0,0)]⟩,_,by rfl,f⟩
  .refine tV (tU (tX ?_));cases d;cases f;exact tW ⟨⟨[1,8],[(0,0)]⟩,_,rfl,by rfl⟩
 .rintro _ ⟨aE,rfl,rfl⟩;dsimp only at e|-;refine u7 (qM (qQ ?_));obtain⟨hg7,e⟩:=qI e;refine qC zV ?_ (hp:=by exact hg7);refine rS ?_;obtain⟨y1,hy1,e⟩:=vF e;refine uA 2 (fun s=> ∃v,y1= .inl v∧s=(fun _=>⟨[(8,(.val .mp (some 0),none))],[(0,.map .str .str aE)],1,55,0⟩) v) ?_ ?_
  .refine tZ hy1 (fun x=>⟨[(8,(.val .mp (some 0),none)),(39,(.own 1 ((Lib.fields Z).length),none)),(40,(.val (.int .i64) ((((Lib.fields Z).length):Nat):Int),none)),(41,(.val (.int .i64) x,none))],[(0,.map .str .str aE),(1,.row 9 .str (Lib.fields Z) ((Lib.fields Z).length))],2,55,0⟩) ⟨[8,39,40,41],[(0,0),(1,33)]⟩ pX ?_;intro aF w1 n1 d f;unfold MF at d;dsimp only at d|-;refine qC zV ?_;refine qQ ?_;refine qV d (fun d hc3=> ?_) (fun d hc3=> ?_)
   .refine r9 (qM (qQ (rS ?_)));obtain⟨hg8,d⟩:=qI d;refine qC zV ?_ (hp:=by exact⟨hg8,pV⟩)
    refine qC zV ?_;refine qC zV ?_;refine qV d (fun d hc4=> ?_) (fun d hc4=> ?_)
    .refine qC zV ?_;refine qS (rY (rG (vE (vM (rY (rG ?_))))));cases d;cases f;dsimp only at e;cases e;exact pH []
    .refine r9 (rW (qM ?_));obtain⟨hg9,d⟩:=qI d;refine rF zV ?_ (hp:=by exact hg9);cases d;exact sX ⟨⟨[8,39,40,41],[(0,0),(1,1)]⟩,_,by rfl,f⟩
   .refine tV (tU (tX ?_));cases d;cases f;exact tW ⟨⟨[8],[(0,0)]⟩,_,rfl,by rfl⟩
  .rintro _ ⟨v,rfl,rfl⟩;dsimp only at e|-;refine u7 (qM (qQ ?_));refine rF zV ?_;cases e
def I2 (O:pF):Option Bool:=if 0<([32]:pF).length∧List.length O<4294967281 then if 0<(tG O ([32]:pF)).length∧List.length (tG O ([32]:pF))≤9223372036854775807 then (ME (uO (tG O ([32]:pF)))).bind fun Z=>some ((!Z)) else none else none
section
variable (O:pF)
abbrev a6d:List qE:=[(.val .str O,none)]
abbrev a6e:List qD:=[]
@[go_sem] def a6f:qK:=⟨[((I2 O)).isSome=true],[(.own 0 ((uO (tG O ([32]:pF))).length),none),(.val .bool (val (I2 O)),none)],[.row 9 .str (uO (tG O ([32]:pF))) ((uO (tG O ([32]:pF))).length)]⟩
def aGC:List qE→List qD→Option qK:=rP (V:=pF) (a6d) (fun x=>a6e) fun x=>a6f x
@[go_sem] def aTQ:aGC (no_index (a6d O)) (no_index a6e)=some (a6f O):=rT (fun a0 b0 h1 h2=>by cases h1;cases h2;rfl) O
end
@[go_sem] abbrev YA:Nat×r5:=(87,⟨[.v],aGC,[],[],none⟩)
def YB:rH Tryz.prog [vY] (rI [OG,OH,aGr]):=⟨⟨wE,trivial⟩,qP a2B (qP a2C (qP aOS rN)),rK⟩
def a6g:r8 Tryz.prog YA:=by
 refine rU YB Tryz.func87 (c:=_) rfl (N:=12) pW (ts:=[(2,none),(3,none)]) rfl (fun _ _=>rfl) ?_;intro O hs hrow;dsimp only[a6d,a6e,a6f,rM,qT,r6,rC,rO,Nat.reduceAdd] at hs hrow|-;have hz:=hs;obtain⟨z0,e⟩:=aUV.1 hz
 try rw[s7 e]
 clear hz hs;unfold I2 at e;refine qC YB ?_;obtain⟨hg1,e⟩:=qI e;obtain⟨hg2,e⟩:=qI e;refine qC YB ?_ (hp:=by exact⟨hg1,pV,hg2⟩)
 obtain⟨Z,hv3,hw3,e⟩:=qY e
 try simp only[go_sem] at hw3
 refine qC YB ?_ (hp:=by exact⟨fun _=>by first|exact rfl|exact trivial,(qW hv3)⟩) (h:=by simp only[go_sem,hw3];rfl)
 refine qS ?_;cases e;exact pH [(0,129)]
attribute [irreducible] wT DY I2
end
noncomputable section
def YC:(Int×pF)→pO→Option (pO⊕pF):=fun O Z=>(DU (Z,()) O.2).bind fun aA=>some (.inl (Z++uY O.2))
def K1 (O:G3):Option pF:=if List.length O.2.1≤4611686018427387904 then uF (zR (YC) (CZ O) ([]:pO)) fun Z=>some ((uC Z)) else none
section
variable (O:G3)
abbrev a6h:List qE:=[(.val AR O,none)]
abbrev a6i:List qD:=[]
@[go_sem] def a6j:qK:=⟨[((K1 O)).isSome=true],[(.val .str (val (K1 O)),none)],[]⟩
def aGD:List qE→List qD→Option qK:=rP (V:=G3) (a6h) (fun x=>a6i) fun x=>a6j x
@[go_sem] def aTR:aGD (no_index (a6h O)) (no_index a6i)=some (a6j O):=rT (fun a0 b0 h1 h2=>by cases h1;cases h2;rfl) O
end
@[go_sem] abbrev a6k:Nat×r5:=(13,⟨[.v],aGD,[],[],none⟩)
def MG:rH Tryz.prog [JL,HQ] (rI [aE6,Y3,HM]):=⟨⟨OM,⟨M5,trivial⟩⟩,qP aOt (qP a3p (qP OF rN)),rK⟩
def aOV:r8 Tryz.prog a6k:=by
 refine rU MG Tryz.func13 (c:=_) rfl (N:=13) pW (ts:=[(2,none)]) rfl (fun _ _=>rfl) ?_;intro O hs hrow;dsimp only[a6h,a6i,a6j,rM,qT,r6,rC,rO,Nat.reduceAdd] at hs hrow|-;have hz:=hs;obtain⟨z0,d⟩:=aUV.1 hz
 try rw[s7 d]
 clear hz hs;unfold K1 at d;refine qC MG ?_;refine qC MG ?_;refine qQ ?_;refine qC MG ?_;refine rS ?_;obtain⟨hgF2,d⟩:=qI d;obtain⟨y1,hy1,d⟩:=vF d;refine aNZ aN6 aN1 pX pX hgF2 hy1 [(3,(.val .ref (some (0,0)),none))] (fun Z=>[(3,(.val .ref (some (0,0)),none)),(5,(.val .str Z.2,none))]) (fun x=>[.cells wR ((some (0,0)),(x,())) [(1,1)],.grow 5 1 (x.length)]) 1 ⟨[3],[(0,64),(1,65)]⟩ pX pX pX pX (aWh pX) (fun _=>aWh rfl) (fun _=>by rfl) (fun _=>rfl) pX ?_ ?_
 .intro Z aA w1 f g;refine⟨?_,?_⟩
  .dsimp only[JI,aEG,uM,qT,r6,Nat.reduceAdd,List.toList_toArray];refine rF MG ?_;exact aEE ⟨[3,5],[(0,0),(1,1)]⟩ pX
  .unfold YC at f;dsimp only[qT,r6,Nat.reduceAdd] at f|-;refine rS ?_;obtain⟨aB,hv1,hw1,f⟩:=qY f
   try simp only[go_sem] at hw1
   refine rF MG ?_ (hp:=by exact⟨pV,(qW hv1)⟩) (h:=by simp only[go_sem,hw1];rfl)
   refine rW ?_;cases f;exact aEF ⟨[],[(0,0),(1,1)]⟩ _ rfl pX
 .rintro aA rfl;dsimp only[qT,r6,Nat.reduceAdd] at d|-;refine rW (qM ?_);refine qC MG ?_ (hp:=by first|rfl|trivial)
  refine qS ?_;cases d;exact pH []
def P5 (O:s8):Option Unit:=if qG ((O.1.length:Int)+(O.2.1.length:Int)) then if qG (((O.1.length:Int)+(O.2.1.length:Int))+(O.2.2.1.length:Int)) then if (((decide ((((O.1.length:Int)+(O.2.1.length:Int))+(O.2.2.1.length:Int))≤(6000:Int)))==true)=true→((zS O.2.2.2.1 O.2.2.2.2.2.2.1)).isSome=true) then if (((decide ((((O.1.length:Int)+(O.2.1.length:Int))+(O.2.2.1.length:Int))≤(6000:Int)))==true)=true→((zS O.2.2.2.2.1 ([]:List r7))).isSome=true) then if (((decide ((((O.1.length:Int)+(O.2.1.length:Int))+(O.2.2.1.length:Int))≤(6000:Int)))==true)=true→qG ((val (zS O.2.2.2.1 O.2.2.2.2.2.2.1))+(val (zS O.2.2.2.2.1 ([]:List r7))))) then some (()) else none else none else none else none else none
section
variable (O:s8)
abbrev a6l:List qE:=[(.val sN O,none)]
abbrev a6m:List qD:=[]
@[go_sem] def a6n:qK:=⟨[((P5 O)).isSome=true],[(.val .bool ((decide ((((O.1.length:Int)+(O.2.1.length:Int))+(O.2.2.1.length:Int))≤(6000:Int)))&&(decide (((val (zS O.2.2.2.1 O.2.2.2.2.2.2.1))+(val (zS O.2.2.2.2.1 ([]:List r7))))≤(6000:Int)))),none)],[]⟩
def aGE:List qE→List qD→Option qK:=rP (V:=s8) (a6l) (fun x=>a6m) fun x=>a6n x
@[go_sem] def aTS:aGE (no_index (a6l O)) (no_index a6m)=some (a6n O):=rT (fun a0 b0 h1 h2=>by cases h1;cases h2;rfl) O
end
@[go_sem] abbrev a6o:Nat×r5:=(23,⟨[.v],aGE,[],[],none⟩)
def a6p:rH Tryz.prog [sL,vY,y8,xI] (rI [aE9]):=⟨⟨sP,⟨wE,⟨z8,⟨y7,trivial⟩⟩⟩⟩,qP aOu rN,rK⟩
def aOW:r8 Tryz.prog a6o:=by
 refine rU a6p Tryz.func23 (c:=_) rfl (N:=27) pW (ts:=[(2,none)]) rfl (fun _ _=>rfl) ?_;intro O hs hrow;dsimp only[a6l,a6m,a6n,rM,qT,r6,rC,rO,Nat.reduceAdd] at hs hrow|-;have hz:=hs;obtain⟨z0,d⟩:=aUV.1 hz
 try rw[s7 d]
 clear hz hs;unfold P5 at d;refine qC a6p ?_;obtain⟨hg1,d⟩:=qI d;obtain⟨hg2,d⟩:=qI d;obtain⟨hg3,d⟩:=qI d;obtain⟨hg4,d⟩:=qI d;obtain⟨hg5,d⟩:=qI d;refine vN a6p ?_ (hp:=by exact⟨hg1,hg2,id,id,id,id,hg3,id,id,hg4,id,id,hg5,id,sI⟩);refine qS ?_;cases d;exact pH []
def T5 (O:sR) (Z:sR):Option Unit:=if (((decide (O.1=Z.1))==true)=true→((xT O.2.1 Z.2.1)).isSome=true) then if ((((decide (O.1=Z.1))&&(val (xT O.2.1 Z.2.1)))==true)=true→((AU O.2.2.1 Z.2.2.1)).isSome=true) then some (()) else none else none
section
variable (O:sR) (Z:sR)
abbrev a6q:List qE:=[(.val D0 O,none),(.val D0 Z,none)]
abbrev a6r:List qD:=[]
@[go_sem] def a6s:qK:=⟨[((T5 O Z)).isSome=true],[(.val .bool (((decide (O.1=Z.1))&&(val (xT O.2.1 Z.2.1)))&&(val (AU O.2.2.1 Z.2.2.1))),none)],[]⟩
def aGF:List qE→List qD→Option qK:=rP (V:=(sR×sR)) (fun x=>a6q x.1 x.2) (fun x=>a6r) fun x=>a6s x.1 x.2
@[go_sem] def aTT:aGF (no_index (a6q O Z)) (no_index a6r)=some (a6s O Z):=rT (fun⟨a0,a1⟩ ⟨b0,b1⟩ h1 h2=>by cases h1;cases h2;rfl) (O,Z)
end
@[go_sem] abbrev aGG:Nat×r5:=(32,⟨[.v,.v],aGF,[],[],none⟩)
def a6t:rH Tryz.prog [sL,vY,y8,BJ] (rI [a3E,a3I]):=⟨⟨sP,⟨wE,⟨z8,⟨D3,trivial⟩⟩⟩⟩,qP aFf (qP aFh rN),rK⟩
def aOX:r8 Tryz.prog aGG:=by
 refine rU a6t Tryz.func32 (c:=_) rfl (N:=24) pW (ts:=[(4,none)]) rfl (fun _ _=>rfl) ?_;intro⟨O,Z⟩ hs hrow;dsimp only[a6q,a6r,a6s,rM,qT,r6,rC,rO,Nat.reduceAdd] at hs hrow|-;have hz:=hs;obtain⟨z0,d⟩:=aUV.1 hz
 try rw[s7 d]
 clear hz hs;unfold T5 at d;refine qC a6t ?_;obtain⟨hg1,d⟩:=qI d;obtain⟨hg2,d⟩:=qI d;refine qC a6t ?_ (hp:=by exact⟨id,id,id,id,hg1,sI,id,id,id,id,hg2,sI⟩);refine qS ?_;cases d;exact pH []
def YD (O:(List s8)) (Z:(List s8)):Int→Option (Int⊕(Unit⊕Bool)):=fun aA=>if (decide (aA<(O.length:Int)))=true then if 0≤aA∧aA<(O.length:Int) then if 0≤aA∧aA<(Z.length:Int) then (OP (qR sN O aA) (qR sN Z aA)).bind fun aB=>if (!(((((((decide (((qR sN O aA).1)=((qR sN Z aA).1)))&&(decide (((qR sN O aA).2.1)=((qR sN Z aA).2.1))))&&(decide (((qR sN O aA).2.2.1)=((qR sN Z aA).2.2.1))))&&(decide (((qR sN O aA).2.2.2.2.2.1)=((qR sN Z aA).2.2.2.2.2.1))))&&(val (xT ((qR sN O aA).2.2.2.1) ((qR sN Z aA).2.2.2.1))))&&(val (xT ((qR sN O aA).2.2.2.2.1) ((qR sN Z aA).2.2.2.2.1))))&&(val (AU ((qR sN O aA).2.2.2.2.2.2.1) ((qR sN Z aA).2.2.2.2.2.2.1)))))=true then some (.inr (.inr (false))) else if qG (aA+(1:Int)) then some (.inl (aA+(1:Int))) else none else none else none else some (.inr (.inl ()))
def F3 (O:(List s8)) (Z:(List s8)):Option Bool:=if (!decide ((O.length:Int)=(Z.length:Int)))=true then some (false) else uF (rQ (YD O Z) (0:Int)) fun _=>some (true)
section
variable (O:(List s8)) (Z:(List s8))
abbrev a6u:List qE:=[(.val (.list sN) O,none),(.val (.list sN) Z,none)]
abbrev a6v:List qD:=[]
@[go_sem] def a6w:qK:=⟨[((F3 O Z)).isSome=true],[(.val .bool (val (F3 O Z)),none)],[]⟩
def aGH:List qE→List qD→Option qK:=rP (V:=((List s8)×(List s8))) (fun x=>a6u x.1 x.2) (fun x=>a6v) fun x=>a6w x.1 x.2
@[go_sem] def aTU:aGH (no_index (a6u O Z)) (no_index a6v)=some (a6w O Z):=rT (fun⟨a0,a1⟩ ⟨b0,b1⟩ h1 h2=>by cases h1;cases h2;rfl) (O,Z)
end
@[go_sem] abbrev aGI:Nat×r5:=(33,⟨[.v,.v],aGH,[],[],none⟩)
def GD:rH Tryz.prog [G6,xI] (rI [aFj]):=⟨⟨JM,⟨y7,trivial⟩⟩,qP aOw rN,rK⟩
def aOY:r8 Tryz.prog aGI:=by
 refine rU GD Tryz.func33 (c:=_) rfl (N:=27) pW (ts:=[(4,none)]) rfl (fun _ _=>rfl) ?_;intro⟨O,Z⟩ hs hrow;dsimp only[a6u,a6v,a6w,rM,qT,r6,rC,rO,Nat.reduceAdd] at hs hrow|-;have hz:=hs;obtain⟨z0,d⟩:=aUV.1 hz
 try rw[s7 d]
 clear hz hs;unfold F3 at d;refine qC GD ?_;refine qQ ?_;refine qC GD ?_;refine qV d (fun d hc1=> ?_) (fun d hc1=> ?_)
 .refine qC GD ?_;refine qS (rG ?_);cases d;exact pH []
 .refine r9 (qM (qQ ?_));refine qC GD ?_;refine rS ?_;obtain⟨y1,hy1,d⟩:=vF d;refine uA 0 (fun s=> ∃v,y1= .inl v∧s=(fun _=>⟨[],[],0,27,0⟩) v) ?_ ?_
  .refine tZ hy1 (fun x=>⟨[(0,(.val (.list sN) O,none)),(1,(.val (.list sN) Z,none)),(5,(.val (.int .i64) x,none))],[],0,27,0⟩) ⟨[0,1,5],[]⟩ pX ?_;intro aA w1 n1 f g;unfold YD at f;dsimp only at f|-;refine qQ ?_;refine qC GD ?_;refine qV f (fun f hc2=> ?_) (fun f hc2=> ?_)
   .refine r9 (qM (qQ (rS ?_)));obtain⟨hg1,f⟩:=qI f;obtain⟨hg2,f⟩:=qI f;obtain⟨aB,hv3,hw3,f⟩:=qY f
    try simp only[go_sem] at hw3
    refine vN GD ?_ (hp:=by exact⟨hg1,hg2,(qW hv3)⟩) (h:=by simp only[go_sem,hw3];rfl);refine qV f (fun f hc3=> ?_) (fun f hc3=> ?_)
    .refine qC GD ?_;refine qS (rY (rG (vE (vM (rY (rG ?_))))));cases f;cases g;dsimp only at d;cases d;exact pH []
    .refine r9 (rW (qM ?_));obtain⟨hg4,f⟩:=qI f;refine rF GD ?_ (hp:=by exact hg4);cases f;exact sX ⟨⟨[0,1,5],[]⟩,_,by rfl,g⟩
   .refine tV (tU (tX ?_));cases f;cases g;exact tW ⟨⟨[],[]⟩,_,rfl,by rfl⟩
  .rintro _ ⟨v,rfl,rfl⟩;dsimp only at d|-;refine u7 (qM ?_);refine qC GD ?_;refine qS ?_;cases d;exact pH []
def F4 (O:pF):Option Unit:=if (((decide ((O.length:Int)≤(4000:Int)))==true)=true→((SS O)).isSome=true) then some (()) else none
section
variable (O:pF)
abbrev a6x:List qE:=[(.val .str O,none)]
abbrev a6y:List qD:=[]
@[go_sem] def a6z:qK:=⟨[((F4 O)).isSome=true],[(.val .bool ((decide ((O.length:Int)≤(4000:Int)))&&(Lib.validD O)),none)],[]⟩
def aGJ:List qE→List qD→Option qK:=rP (V:=pF) (a6x) (fun x=>a6y) fun x=>a6z x
@[go_sem] def aTV:aGJ (no_index (a6x O)) (no_index a6y)=some (a6z O):=rT (fun a0 b0 h1 h2=>by cases h1;cases h2;rfl) O
end
@[go_sem] abbrev T6:Nat×r5:=(97,⟨[.v],aGJ,[],[],none⟩)
def a6A:rH Tryz.prog [sL] (rI [aFG]):=⟨⟨sP,trivial⟩,qP aOC rN,rK⟩
def YE:r8 Tryz.prog T6:=by
 refine rU a6A Tryz.func97 (c:=_) rfl (N:=10) pW (ts:=[(2,none)]) rfl (fun _ _=>rfl) ?_;intro O hs hrow;dsimp only[a6x,a6y,a6z,rM,qT,r6,rC,rO,Nat.reduceAdd] at hs hrow|-;have hz:=hs;obtain⟨z0,d⟩:=aUV.1 hz
 try rw[s7 d]
 clear hz hs;unfold F4 at d;refine qC a6A ?_;obtain⟨hg1,d⟩:=qI d;refine qC a6A ?_ (hp:=by exact⟨id,hg1,sI⟩);refine qS ?_;cases d;exact pH []
attribute [irreducible] K1 P5 T5 F3 F4
end
noncomputable section
def T7 (O:Int) (Z:Int) (aA:sR) (aB:(pO×Unit)) (aC:pM):(List sE)→Option ((List sE)⊕(List sE)):=fun aD=>if (((decide (Z=(0:Int)))==true)=true→0≤(0:Int)∧(0:Int)<(aD.length:Int)) then if ((((decide (Z=(0:Int)))==true)&&((decide ((qR sZ aD (0:Int)).1=(1:Int)))==false))=true→0≤(0:Int)∧(0:Int)<(aD.length:Int)) then if (((((decide (Z=(0:Int)))==true)&&((decide ((qR sZ aD (0:Int)).1=(1:Int)))==false))&&((decide ((qR sZ aD (0:Int)).1=(3:Int)))==true))=true→0≤(0:Int)∧(0:Int)<(aD.length:Int)) then if (((((decide (Z=(0:Int)))==true)&&((decide ((qR sZ aD (0:Int)).1=(1:Int)))==false))&&((decide ((qR sZ aD (0:Int)).1=(3:Int)))==true))=true→(List.all ([32,9,10,13]:pF) fun b=>decide (b.toNat<128))=true∧List.length ([32,9,10,13]:pF)<4294967281) then if (((((decide (Z=(0:Int)))==true)&&((decide ((qR sZ aD (0:Int)).1=(1:Int)))==false))&&((decide ((qR sZ aD (0:Int)).1=(3:Int)))==true))=true→List.length (qR sZ aD (0:Int)).2.1≤9223372036854775807) then if ((decide (Z=(0:Int)))&&((decide ((qR sZ aD (0:Int)).1=(1:Int)))||((decide ((qR sZ aD (0:Int)).1=(3:Int)))&&(decide ((Lib.trimS ((qR sZ aD (0:Int)).2.1) ([32,9,10,13]:pF))=([]:pF))))))=true then (y9 aD O Z (aA.1,(aA.2.1,(aA.2.2.1,(aA.2.2.2.1,())))) (aB.1,()) aC).bind fun aE=>some (.inl aE) else some (.inr aD) else none else none else none else none else none
def AB (O:(List sE)) (Z:Int) (aA:Int) (aB:sR) (aC:(pO×Unit)) (aD:pM):Option (List sE):=sU (rQ (T7 Z aA aB aC aD) O) fun aE=>some (aE)
section
variable (O:(List sE)) (Z:Int) (aA:Int) (aB:sR) (aC:(pO×Unit)) (aD:Nat) (aE:Nat) (aF:pM)
abbrev a6B:List qE:=[(.val .ref (some (0,0)),none)]
abbrev a6C:List qD:=[.cells t6 (O,(Z,(aA,(aB,((some 3),aC))))) [(6,1),(8,2)],.grow 53 7 aD,.grow 3 1 aE,.map .str .bool aF]
@[go_sem] def a6D:qK:=⟨[aD=(aB.2.2.2.1.length),aE=(aC.1.length),((AB O Z aA aB aC aF)).isSome=true],[],[.cells t6 ((val (AB O Z aA aB aC aF)),(Z,(aA,((aB.1,(aB.2.1,(aB.2.2.1,(aB.2.2.2.1,())))),((some 3),(aC.1,())))))) [(6,1),(8,2)],.grow 53 7 (aB.2.2.2.1.length),.grow 3 1 (aC.1.length),.map .str .bool aF]⟩
def aGK:List qE→List qD→Option qK:=rP (V:=((List sE)×Int×Int×sR×(pO×Unit)×Nat×Nat×pM)) (fun x=>a6B) (fun x=>a6C x.1 x.2.1 x.2.2.1 x.2.2.2.1 x.2.2.2.2.1 x.2.2.2.2.2.1 x.2.2.2.2.2.2.1 x.2.2.2.2.2.2.2) fun x=>a6D x.1 x.2.1 x.2.2.1 x.2.2.2.1 x.2.2.2.2.1 x.2.2.2.2.2.1 x.2.2.2.2.2.2.1 x.2.2.2.2.2.2.2
@[go_sem] def aTW:aGK (no_index a6B) (no_index (a6C O Z aA aB aC aD aE aF))=some (a6D O Z aA aB aC aD aE aF):=rT (fun⟨a0,a1,a2,a3,a4,a5,a6,a7⟩ ⟨b0,b1,b2,b3,b4,b5,b6,b7⟩ h1 h2=>by cases h1;cases h2;rfl) (O,Z,aA,aB,aC,aD,aE,aF)
end
@[go_sem] abbrev P6:Nat×r5:=(52,⟨[.p t6 [6,8]],aGK,[(0,7,.m)],[1,2,3],none⟩)
def a6E:rH Tryz.prog [wD,sL,D5,D2,C1,AS] (rI [LV,JU]):=⟨⟨wS,⟨sP,⟨EU,⟨HN,⟨DS,⟨G4,trivial⟩⟩⟩⟩⟩⟩,qP XS (qP M9 rN),rK⟩
def T8:r8 Tryz.prog P6:=by
 refine rU a6E Tryz.func52 (c:=_) rfl (N:=40) pW (ts:=[]) rfl (fun _ _=>rfl) ?_;intro⟨O,Z,aA,aB,aC,aD,aE,aF⟩ hs hrow;dsimp only[a6B,a6C,a6D,rM,qT,r6,rC,rO,Nat.reduceAdd] at hs hrow|-;obtain⟨rfl,rfl,hz⟩:=hs;obtain⟨z0,f⟩:=aUV.1 hz
 try rw[s7 f]
 clear hz;unfold AB at f;refine rS ?_;obtain⟨aG,hy1,f⟩:=qO f;refine uA 0 (fun s=>s=(fun x=>⟨[],[(0,.cells t6 (x,(Z,(aA,((aB.1,(aB.2.1,(aB.2.2.1,(aB.2.2.2.1,())))),((some 3),(aC.1,())))))) [(6,1),(8,2)]),(1,.grow 53 7 (aB.2.2.2.1.length)),(2,.grow 3 1 (aC.1.length)),(3,.map .str .bool aF)],4,40,4⟩) aG) ?_ ?_
 .refine tZ hy1 (fun x=>⟨[(0,(.val .ref (some (0,0)),none))],[(0,.cells t6 (x,(Z,(aA,((aB.1,(aB.2.1,(aB.2.2.1,(aB.2.2.2.1,())))),((some 3),(aC.1,())))))) [(6,1),(8,2)]),(1,.grow 53 7 (aB.2.2.2.1.length)),(2,.grow 3 1 (aC.1.length)),(3,.map .str .bool aF)],4,40,4⟩) ⟨[0],[(0,0),(1,1),(2,2),(3,3)]⟩ pX ?_;intro aH w1 n1 e g;unfold T7 at e;dsimp only at e|-;refine qQ ?_;obtain⟨hg1,e⟩:=qI e;obtain⟨hg2,e⟩:=qI e;obtain⟨hg3,e⟩:=qI e;obtain⟨hg4,e⟩:=qI e;obtain⟨hg5,e⟩:=qI e;refine qC a6E ?_ (hp:=by exact⟨id,id,id,id,hg1,id,id,id,id,id,id,id,id,hg2,id,id,id,id,id,id,id,id,hg3,id,id,id,hg4,hg5,id,id,fun hG d=>O9 hG d,id,fun hG d=>HK hG d,sI⟩);refine qV e (fun e hc1=> ?_) (fun e hc1=> ?_)
  .refine r9 (qM (rS ?_));obtain⟨aI,hv6,hw6,e⟩:=qY e
   try simp only[go_sem] at hw6
   refine rF a6E ?_ (hp:=by exact⟨pV,pV,pV,pV,pV,(qW hv6)⟩) (h:=by simp only[go_sem,hw6];rfl)
   refine rW ?_;cases e;exact sX ⟨⟨[0],[(0,0),(1,1),(2,2),(3,3)]⟩,_,by rfl,g⟩
  .refine tV (tU (tX ?_));cases e;cases g;exact tW ⟨⟨[],[(0,0),(1,1),(2,2),(3,3)]⟩,by rfl⟩
 .rintro _ rfl;dsimp only at f|-;refine u7 ?_;cases f;exact pH [(0,0),(1,1),(2,2),(3,3)]
attribute [irreducible] AB
end
noncomputable section
def T9 (O:pF):Int→Option (Int⊕(Unit⊕Bool)):=fun Z=>if (decide (Z<(O.length:Int)))=true then if 0≤Z∧Z<(O.length:Int) then if (((((!((decide ((97:Int)≤(sJ O Z)))&&(decide ((sJ O Z)≤(122:Int)))))&&(!((decide ((48:Int)≤(sJ O Z)))&&(decide ((sJ O Z)≤(57:Int))))))&&(!decide ((sJ O Z)=(45:Int))))&&(!decide ((sJ O Z)=(95:Int))))&&(!decide ((sJ O Z)=(46:Int))))=true then some (.inr (.inr (false))) else if qG (Z+(1:Int)) then some (.inl (Z+(1:Int))) else none else none else some (.inr (.inl ()))
def K2 (O:pF):Option Bool:=if ((((decide ((O.length:Int)<(1:Int)))||(decide ((40:Int)<(O.length:Int))))==false)=true→0≤(0:Int)∧(0:Int)<(O.length:Int)) then if (((decide ((O.length:Int)<(1:Int)))||(decide ((40:Int)<(O.length:Int))))||(!((decide ((97:Int)≤(sJ O (0:Int))))&&(decide ((sJ O (0:Int))≤(122:Int))))))=true then some (false) else uF (rQ (T9 O) (1:Int)) fun _=>some (true) else none
section
variable (O:pF)
abbrev a6F:List qE:=[(.val .str O,none)]
abbrev a6G:List qD:=[]
@[go_sem] def a6H:qK:=⟨[((K2 O)).isSome=true],[(.val .bool (val (K2 O)),none)],[]⟩
def aGL:List qE→List qD→Option qK:=rP (V:=pF) (a6F) (fun x=>a6G) fun x=>a6H x
@[go_sem] def aTX:aGL (no_index (a6F O)) (no_index a6G)=some (a6H O):=rT (fun a0 b0 h1 h2=>by cases h1;cases h2;rfl) O
end
@[go_sem] abbrev a6I:Nat×r5:=(76,⟨[.v],aGL,[],[],none⟩)
def F5:rH Tryz.prog [sL] (rI [aFt,aFw]):=⟨⟨sP,trivial⟩,qP aOy (qP aOz rN),rK⟩
def aGM:r8 Tryz.prog a6I:=by
 refine rU F5 Tryz.func76 (c:=_) rfl (N:=48) pW (ts:=[(2,none)]) rfl (fun _ _=>rfl) ?_;intro O hs hrow;dsimp only[a6F,a6G,a6H,rM,qT,r6,rC,rO,Nat.reduceAdd] at hs hrow|-;have hz:=hs;obtain⟨z0,d⟩:=aUV.1 hz
 try rw[s7 d]
 clear hz hs;unfold K2 at d;refine qC F5 ?_;refine qQ ?_;obtain⟨hg1,d⟩:=qI d;refine qC F5 ?_ (hp:=by exact⟨id,id,sQ,id,hg1,id,id,sQ⟩);refine qV d (fun d hc1=> ?_) (fun d hc1=> ?_)
 .refine qC F5 ?_;refine qS (rG ?_);cases d;exact pH []
 .refine r9 (qM (qQ ?_));refine qC F5 ?_;refine rS ?_;obtain⟨y1,hy1,d⟩:=vF d;refine uA 0 (fun s=> ∃v,y1= .inl v∧s=(fun _=>⟨[],[],0,48,0⟩) v) ?_ ?_
  .refine tZ hy1 (fun x=>⟨[(0,(.val .str O,none)),(3,(.val (.int .i64) x,none))],[],0,48,0⟩) ⟨[0,3],[]⟩ pX ?_;intro Z w1 n1 e g;unfold T9 at e;dsimp only at e|-;refine qQ ?_;refine qC F5 ?_;refine qV e (fun e hc2=> ?_) (fun e hc2=> ?_)
   .refine r9 (qM (qQ (rS ?_)));obtain⟨hg2,e⟩:=qI e;refine qC F5 ?_ (hp:=by exact hg2);refine qC F5 ?_ (hp:=by exact⟨id,id,sI,id,sI,id,sI,id,sI⟩);refine qV e (fun e hc3=> ?_) (fun e hc3=> ?_)
    .refine qC F5 ?_;refine qS (rY (rG (vE (vM (rY (rG ?_))))));cases e;cases g;dsimp only at d;cases d;exact pH []
    .refine r9 (rW (qM ?_));obtain⟨hg3,e⟩:=qI e;refine rF F5 ?_ (hp:=by exact hg3);cases e;exact sX ⟨⟨[0,3],[]⟩,_,by rfl,g⟩
   .refine tV (tU (tX ?_));cases e;cases g;exact tW ⟨⟨[],[]⟩,_,rfl,by rfl⟩
  .rintro _ ⟨v,rfl,rfl⟩;dsimp only at d|-;refine u7 (qM ?_);refine qC F5 ?_;refine qS ?_;cases d;exact pH []
def MH (O:r7):Option Bool:=if (decide (O.1=([105,100]:pF)))=true then some (((decide (O.2.1=([]:pF)))||(decide ((200:Int)<(O.2.1.length:Int))))) else if (decide (O.1=([115,116,97,116,101]:pF)))=true then (EZ ([([110,101,119]:pF),([102,117,122,122,121]:pF),([116,114,97,110,115,108,97,116,101,100]:pF),([114,101,118,105,101,119,101,100]:pF),([111,98,115,111,108,101,116,101]:pF)]:pG) O.2.1).bind fun Z=>some ((!Z)) else (I2 O.2.1).bind fun aA=>some ((!aA))
section
variable (O:r7)
abbrev a6J:List qE:=[(.val (.pair .str (.pair .str .unit)) O,none)]
abbrev a6K:List qD:=[]
@[go_sem] def a6L:qK:=⟨[((MH O)).isSome=true],[(.val .bool (val (MH O)),none)],[]⟩
def aGN:List qE→List qD→Option qK:=rP (V:=r7) (a6J) (fun x=>a6K) fun x=>a6L x
@[go_sem] def aTY:aGN (no_index (a6J O)) (no_index a6K)=some (a6L O):=rT (fun a0 b0 h1 h2=>by cases h1;cases h2;rfl) O
end
@[go_sem] abbrev aGO:Nat×r5:=(90,⟨[.v],aGN,[],[],none⟩)
def I3:rH Tryz.prog [sL,C2] (rI [T2,Y8,YA]):=⟨⟨sP,⟨DT,trivial⟩⟩,qP Y9 (qP a4l (qP a6g rN)),rK⟩
def aOZ:r8 Tryz.prog aGO:=by
 refine rU I3 Tryz.func90 (c:=_) rfl (N:=33) pW (ts:=[(2,none)]) rfl (fun _ _=>rfl) ?_;intro O hs hrow;dsimp only[a6J,a6K,a6L,rM,qT,r6,rC,rO,Nat.reduceAdd] at hs hrow|-;have hz:=hs;obtain⟨z0,d⟩:=aUV.1 hz
 try rw[s7 d]
 clear hz hs;unfold MH at d;refine qC I3 ?_;refine qQ ?_;refine qC I3 ?_;refine rS ?_;refine qC I3 ?_;refine qV d (fun d hc1=> ?_) (fun d hc1=> ?_)
 .refine qC I3 ?_ (hp:=by exact⟨id,id,id,sQ⟩);refine qS (rY (rG ?_));cases d;exact pH []
 .refine qC I3 ?_;refine qV d (fun d hc2=> ?_) (fun d hc2=> ?_)
  .obtain⟨Z,hv1,hw1,d⟩:=qY d
   try simp only[go_sem] at hw1
   refine vN I3 ?_ (hp:=by exact(qW hv1)) (h:=by simp only[go_sem,hw1];rfl);refine qS (rY (rG ?_));cases d;exact pH []
  .refine r9 (rW (qM ?_));obtain⟨aA,hv2,hw2,d⟩:=qY d
   try simp only[go_sem] at hw2
   refine qC I3 ?_ (hp:=by exact(qW hv2)) (h:=by simp only[go_sem,hw2];rfl);refine qC I3 ?_;refine qS ?_;cases d;exact pH []
def a6M (O:Int) (Z:Int) (aA:Bool):Option pF:=if (decide (O=(4:Int)))=true then (aFK Z).bind fun aB=>some (aB) else if (decide (Z=(10:Int)))=true then some (([92,110]:pF)) else if (decide (Z=(13:Int)))=true then some (([92,114]:pF)) else if (decide (Z=(9:Int)))=true then some (([92,116]:pF)) else sU (σ:=Bool) (if (decide (Z=(92:Int)))=true then some ((decide (Z=(92:Int)))) else if (((decide (O=(1:Int)))==true)=true→((OU Z ([61,58,35,33]:pF))).isSome=true) then if ((decide (O=(1:Int)))&&(val (OU Z ([61,58,35,33]:pF))))=true then some (((decide (O=(1:Int)))&&(val (OU Z ([61,58,35,33]:pF))))) else if (((decide (O=(1:Int)))&&aA)&&(decide (Z=(32:Int))))=true then some ((((decide (O=(1:Int)))&&aA)&&(decide (Z=(32:Int))))) else if ((!decide (O=(1:Int)))&&(decide (Z=(34:Int))))=true then some (((!decide (O=(1:Int)))&&(decide (Z=(34:Int))))) else if (((decide (O=(3:Int)))==true)=true→((OU Z ([123,125]:pF))).isSome=true) then some (((decide (O=(3:Int)))&&(val (OU Z ([123,125]:pF))))) else none else none ) fun aC=>if aC=true then if ((([92]:pF)++(uC ([Z]:pO))).length:Int)≤9223372036854775807 then some ((([92]:pF)++(uC ([Z]:pO)))) else none else if (((decide (Z<(32:Int)))||(decide (Z=(127:Int))))&&(decide (O=(3:Int))))=true then if False then if ((([92,117,48,48]:pF)++(JJ (IntKind.wrap .i64 Z))).length:Int)≤9223372036854775807 then some ((([92,117,48,48]:pF)++(JJ (IntKind.wrap .i64 Z)))) else none else none else if ((decide (Z<(32:Int)))||(decide (Z=(127:Int))))=true then if False then if ((([92,120]:pF)++(JJ (IntKind.wrap .i64 Z))).length:Int)≤9223372036854775807 then some ((([92,120]:pF)++(JJ (IntKind.wrap .i64 Z)))) else none else none else some ((uC ([Z]:pO)))
def P7 (O:pO):(pF×Int)→Option ((pF×Int)⊕pF):=fun(Z,aA)=>if (decide (aA<(O.length:Int)))=true then if 0≤aA∧aA<(O.length:Int) then if (((decide ((0:Int)≤(qR (.int .i64) O aA)))&&(decide ((qR (.int .i64) O aA)≤(1114111:Int))))&&((decide ((qR (.int .i64) O aA)<(55296:Int)))||(decide ((57343:Int)<(qR (.int .i64) O aA)))))=true then if 0≤aA∧aA<(O.length:Int) then (DX (qR (.int .i64) O aA)).bind fun aB=>if ((Z++aB).length:Int)≤9223372036854775807 then if qG (aA+(1:Int)) then some (.inl ((Z++aB),(aA+(1:Int)))) else none else none else none else (DX (65533:Int)).bind fun aC=>if ((Z++aC).length:Int)≤9223372036854775807 then if qG (aA+(1:Int)) then some (.inl ((Z++aC),(aA+(1:Int)))) else none else none else none else some (.inr Z)
def MI (O:pO):Option pF:=sU (rQ (P7 O) (([]:pF),(0:Int))) fun Z=>some (Z)
section
variable (O:pO)
abbrev a6N:List qE:=[(.val (.list (.int .i64)) O,none)]
abbrev a6O:List qD:=[]
@[go_sem] def a6P:qK:=⟨[((MI O)).isSome=true],[(.val .str (val (MI O)),none)],[]⟩
def aGP:List qE→List qD→Option qK:=rP (V:=pO) (a6N) (fun x=>a6O) fun x=>a6P x
@[go_sem] def aTZ:aGP (no_index (a6N O)) (no_index a6O)=some (a6P O):=rT (fun a0 b0 h1 h2=>by cases h1;cases h2;rfl) O
end
@[go_sem] abbrev aGQ:Nat×r5:=(106,⟨[.v],aGP,[],[],none⟩)
def F6:rH Tryz.prog [wD,EW] (rI [a4K,a4P]):=⟨⟨wS,⟨HS,trivial⟩⟩,qP aFN (qP aFP rN),rK⟩
def aO0:r8 Tryz.prog aGQ:=by
 refine rU F6 Tryz.func106 (c:=_) rfl (N:=27) pW (ts:=[(2,none)]) rfl (fun _ _=>rfl) ?_;intro O hs hrow;dsimp only[a6N,a6O,a6P,rM,qT,r6,rC,rO,Nat.reduceAdd] at hs hrow|-;have hz:=hs;obtain⟨z0,d⟩:=aUV.1 hz
 try rw[s7 d]
 clear hz hs;unfold MI at d;refine qC F6 ?_;refine qC F6 ?_;refine qQ ?_;refine qC F6 ?_;refine rS ?_;obtain⟨Z,hy1,d⟩:=qO d;refine uA 0 (fun s=>s=(fun x=>⟨[(3,(.val .str x,none))],[],0,27,0⟩) Z) ?_ ?_
 .refine tZ hy1 (fun x=>⟨[(0,(.val (.list (.int .i64)) O,none)),(3,(.val .str x.1,none)),(4,(.val (.int .i64) x.2,none))],[],0,27,0⟩) ⟨[0,3,4],[]⟩ pX ?_;intro x1 w1 n1 e g;obtain⟨aA,aB⟩:=x1;unfold P7 at e;dsimp only at e|-;refine qQ ?_;refine qC F6 ?_;refine qV e (fun e hc1=> ?_) (fun e hc1=> ?_)
  .refine r9 (qM (qQ (rS ?_)));obtain⟨hg1,e⟩:=qI e;refine qC F6 ?_ (hp:=by exact hg1);refine qV e (fun e hc2=> ?_) (fun e hc2=> ?_)
   .obtain⟨hg2,e⟩:=qI e;obtain⟨aC,hv3,hw3,e⟩:=qY e
    try simp only[go_sem] at hw3
    obtain⟨hg4,e⟩:=qI e;refine rF F6 ?_ (hp:=by exact⟨hg2,qW hv3,hg4⟩) (h:=by simp only[go_sem,hw3];rfl);refine rW (qM ?_);obtain⟨hg5,e⟩:=qI e;refine rF F6 ?_ (hp:=by exact hg5);cases e;exact sX ⟨⟨[0,3,4],[]⟩,_,by rfl,g⟩
   .obtain⟨aD,hv6,hw6,e⟩:=qY e
    try simp only[go_sem] at hw6
    obtain⟨hg7,e⟩:=qI e;refine rF F6 ?_ (hp:=by exact⟨qW hv6,hg7⟩) (h:=by simp only[go_sem,hw6];rfl);refine rW (qM ?_);obtain⟨hg8,e⟩:=qI e;refine rF F6 ?_ (hp:=by exact hg8);cases e;exact sX ⟨⟨[0,3,4],[]⟩,_,by rfl,g⟩
  .refine tV (tU (tX ?_));cases e;cases g;exact tW ⟨⟨[3],[]⟩,by rfl⟩
 .rintro _ rfl;dsimp only at d|-;refine u7 (qM ?_);refine qC F6 ?_;refine qS ?_;cases d;exact pH []
def F7 (O:pF) (Z:pF):Option (pF×Bool):=(MA O Z).bind fun aA=>some ((aA.1,aA.2))
section
variable (O:pF) (Z:pF)
abbrev a6Q:List qE:=[(.val .str O,none),(.val .str Z,none)]
abbrev a6R:List qD:=[]
@[go_sem] def a6S:qK:=⟨[((F7 O Z)).isSome=true],[(.val .str ((val (F7 O Z)).1),none),(.val .bool ((val (F7 O Z)).2),none)],[]⟩
def aGR:List qE→List qD→Option qK:=rP (V:=(pF×pF)) (fun x=>a6Q x.1 x.2) (fun x=>a6R) fun x=>a6S x.1 x.2
@[go_sem] def aT0:aGR (no_index (a6Q O Z)) (no_index a6R)=some (a6S O Z):=rT (fun⟨a0,a1⟩ ⟨b0,b1⟩ h1 h2=>by cases h1;cases h2;rfl) (O,Z)
end
@[go_sem] abbrev YF:Nat×r5:=(124,⟨[.v,.v],aGR,[],[],none⟩)
def a6T:rH Tryz.prog [] (rI [aFW]):=⟨trivial,qP aOG rN,rK⟩
def a6U:r8 Tryz.prog YF:=by
 refine rU a6T Tryz.func124 (c:=_) rfl (N:=11) pW (ts:=[(4,none),(5,none)]) rfl (fun _ _=>rfl) ?_;intro⟨O,Z⟩ hs hrow;dsimp only[a6Q,a6R,a6S,rM,qT,r6,rC,rO,Nat.reduceAdd] at hs hrow|-;have hz:=hs;obtain⟨z0,d⟩:=aUV.1 hz
 try rw[s7 d]
 clear hz hs;unfold F7 at d;refine qC a6T ?_;obtain⟨aA,hv1,hw1,d⟩:=qY d
 try simp only[go_sem] at hw1
 refine qC a6T ?_ (hp:=by exact(qW hv1)) (h:=by simp only[go_sem,hw1];rfl);refine qS ?_;cases d;exact pH []
attribute [irreducible] K2 MH a6M MI F7
end
noncomputable section
def P8:(pF×pO)→Option ((pF×pO)⊕pO):=fun(O,Z)=>if (decide ((0:Int)<(O.length:Int)))=true then (JV O).bind fun aA=>if (Z.length+([aA.1]:pO).length)*8≤140737488355328 then if 0≤aA.2∧aA.2≤(O.length:Int)∧(O.length:Int)≤(O.length:Int) then some (.inl ((sF O aA.2 (O.length:Int)),(Z++([aA.1]:pO)))) else none else none else some (.inr Z)
def K3 (O:pF):Option pO:=sU (rQ P8 (O,([]:pO))) fun Z=>some (Z)
section
variable (O:pF)
abbrev a6V:List qE:=[(.val .str O,none)]
abbrev a6W:List qD:=[]
@[go_sem] def a6X:qK:=⟨[((K3 O)).isSome=true],[(.val (.list (.int .i64)) (val (K3 O)),some 0)],[.grow 3 1 ((val (K3 O)).length)]⟩
def aGS:List qE→List qD→Option qK:=rP (V:=pF) (a6V) (fun x=>a6W) fun x=>a6X x
@[go_sem] def aT1:aGS (no_index (a6V O)) (no_index a6W)=some (a6X O):=rT (fun a0 b0 h1 h2=>by cases h1;cases h2;rfl) O
end
@[go_sem] abbrev aGT:Nat×r5:=(107,⟨[.v],aGS,[],[],none⟩)
def K4:rH Tryz.prog [sL,EW] (rI [aFR]):=⟨⟨sP,⟨HS,trivial⟩⟩,qP aOE rN,rK⟩
def aO1:r8 Tryz.prog aGT:=by
 refine rU K4 Tryz.func107 (c:=_) rfl (N:=22) pW (ts:=[(2,none)]) rfl (fun _ _=>rfl) ?_;intro O hs hrow;dsimp only[a6V,a6W,a6X,rM,qT,r6,rC,rO,Nat.reduceAdd] at hs hrow|-;have hz:=hs;obtain⟨z0,d⟩:=aUV.1 hz
 try rw[s7 d]
 clear hz hs;unfold K3 at d;refine qC K4 ?_;refine qC K4 ?_;refine qQ (rS ?_);obtain⟨Z,hy1,d⟩:=qO d;refine uA 0 (fun s=>s=(fun x=>⟨[(3,(.val (.list (.int .i64)) x,some 0))],[(0,.grow 3 1 (x.length))],1,22,0⟩) Z) ?_ ?_
 .refine tZ hy1 (fun x=>⟨[(0,(.val .str x.1,none)),(3,(.val (.list (.int .i64)) x.2,some 0))],[(0,.grow 3 1 (x.2.length))],1,22,0⟩) ⟨[0,3],[(0,32)]⟩ pX ?_;intro x1 w1 n1 e g;obtain⟨aA,aB⟩:=x1;unfold P8 at e;dsimp only at e|-;refine qQ ?_;refine qC K4 ?_;refine qV e (fun e hc1=> ?_) (fun e hc1=> ?_)
  .refine r9 (qM (rS ?_));obtain⟨aC,hv1,hw1,e⟩:=qY e
   try simp only[go_sem] at hw1
   refine qC K4 ?_ (hp:=by exact(qW hv1)) (h:=by simp only[go_sem,hw1];rfl);obtain⟨hg2,e⟩:=qI e;refine qC K4 ?_ (hp:=by exact⟨pV,hg2⟩)
   obtain⟨hg3,e⟩:=qI e;refine rF K4 ?_ (hp:=by exact hg3);refine rW ?_;cases e;exact sX ⟨⟨[0,3],[(0,0)]⟩,_,by rfl,g⟩
  .refine tV (tU (tX ?_));cases e;cases g;exact tW ⟨⟨[3],[(0,0)]⟩,by rfl⟩
 .rintro _ rfl;dsimp only at d|-;refine u7 (qM ?_);refine qC K4 ?_;refine qS ?_;cases d;exact pH [(0,0)]
def K5 (O:Int):Option pF:=if (decide (O=(38:Int)))=true then some (([38,97,109,112,59]:pF)) else if (decide (O=(60:Int)))=true then some (([38,108,116,59]:pF)) else if (decide (O=(62:Int)))=true then some (([38,103,116,59]:pF)) else if (decide (O=(34:Int)))=true then some (([38,113,117,111,116,59]:pF)) else if ((decide (O<(32:Int)))||(decide (O=(127:Int))))=true then if-9223372036854775808≤(IntKind.wrap .i64 O)∧(IntKind.wrap .i64 O)≤9223372036854775807 then if ((([38,35]:pF)++(Lib.itoa (IntKind.wrap .i64 O))).length:Int)≤9223372036854775807 then if (((([38,35]:pF)++(Lib.itoa (IntKind.wrap .i64 O)))++([59]:pF)).length:Int)≤9223372036854775807 then some (((([38,35]:pF)++(Lib.itoa (IntKind.wrap .i64 O)))++([59]:pF))) else none else none else none else some ((uC ([O]:pO)))
section
variable (O:Int)
abbrev a6Y:List qE:=[(.val (.int .u8) O,none)]
abbrev a6Z:List qD:=[]
@[go_sem] def a60:qK:=⟨[((K5 O)).isSome=true],[(.val .str (val (K5 O)),none)],[]⟩
def aGU:List qE→List qD→Option qK:=rP (V:=Int) (a6Y) (fun x=>a6Z) fun x=>a60 x
@[go_sem] def aT2:aGU (no_index (a6Y O)) (no_index a6Z)=some (a60 O):=rT (fun a0 b0 h1 h2=>by cases h1;cases h2;rfl) O
end
@[go_sem] abbrev aGV:Nat×r5:=(140,⟨[.v],aGU,[],[],none⟩)
def C6:rH Tryz.prog [wD,ER,sL,ES] (rI [a44,OD]):=⟨⟨wS,⟨HO,⟨sP,⟨HP,trivial⟩⟩⟩⟩,qP aFZ (qP a2z rN),rK⟩
def aO2:r8 Tryz.prog aGV:=by
 refine rU C6 Tryz.func140 (c:=_) rfl (N:=22) pW (ts:=[(2,none)]) rfl (fun _ _=>rfl) ?_;intro O hs hrow;dsimp only[a6Y,a6Z,a60,rM,qT,r6,rC,rO,Nat.reduceAdd] at hs hrow|-;have hz:=hs;obtain⟨z0,d⟩:=aUV.1 hz
 try rw[s7 d]
 clear hz hs;unfold K5 at d;refine qC C6 ?_;refine qQ ?_;refine qC C6 ?_;refine rS ?_;refine qC C6 ?_;refine qV d (fun d hc1=> ?_) (fun d hc1=> ?_)
 .refine qC C6 ?_;refine qS (rY (rG ?_));cases d;exact pH []
 .refine qC C6 ?_;refine qV d (fun d hc2=> ?_) (fun d hc2=> ?_)
  .refine qC C6 ?_;refine qS (rY (rG ?_));cases d;exact pH []
  .refine qC C6 ?_;refine qV d (fun d hc3=> ?_) (fun d hc3=> ?_)
   .refine qC C6 ?_;refine qS (rY (rG ?_));cases d;exact pH []
   .refine qC C6 ?_;refine qV d (fun d hc4=> ?_) (fun d hc4=> ?_)
    .refine qC C6 ?_;refine qS (rY (rG ?_));cases d;exact pH []
    .refine r9 (rW (qM (qQ ?_)));refine qC C6 ?_;refine qV d (fun d hc5=> ?_) (fun d hc5=> ?_)
     .obtain⟨hg1,d⟩:=qI d;obtain⟨hg2,d⟩:=qI d;obtain⟨hg3,d⟩:=qI d;refine qC C6 ?_ (hp:=by exact⟨hg1,hg2,hg3⟩);refine qS (rG ?_);cases d;exact pH []
     .refine r9 (qM ?_);refine qC C6 ?_;refine qS ?_;cases d;exact pH []
def TA (O:Int) (Z:Int) (aA:Bool):Option pF:=sU (σ:=pF) (if (decide (O=(1:Int)))=true then some (([61,58,35,33]:pF)) else if (decide (O=(2:Int)))=true then some (([34]:pF)) else if (decide (O=(3:Int)))=true then some (([34,123,125]:pF)) else some (([]:pF)) ) fun aB=>if (decide (Z=(92:Int)))=true then some (([92,92]:pF)) else if (decide (Z=(10:Int)))=true then some (([92,110]:pF)) else if (decide (Z=(13:Int)))=true then some (([92,114]:pF)) else if (decide (Z=(9:Int)))=true then some (([92,116]:pF)) else sU (σ:=Bool) (if (decide ((0:Int)≤(vD aB Z)))=true then some ((decide ((0:Int)≤(vD aB Z)))) else some ((((decide (O=(1:Int)))&&aA)&&(decide (Z=(32:Int))))) ) fun aC=>if aC=true then if ((([92]:pF)++(uC ([Z]:pO))).length:Int)≤9223372036854775807 then some ((([92]:pF)++(uC ([Z]:pO)))) else none else if (((decide (Z<(32:Int)))||(decide (Z=(127:Int))))&&(decide (O=(3:Int))))=true then if False then if ((([92,117]:pF)++(SE Z (4:Int))).length:Int)≤9223372036854775807 then some ((([92,117]:pF)++(SE Z (4:Int)))) else none else none else if ((decide (Z<(32:Int)))||(decide (Z=(127:Int))))=true then if False then if ((([92,120]:pF)++(SE Z (2:Int))).length:Int)≤9223372036854775807 then some ((([92,120]:pF)++(SE Z (2:Int)))) else none else none else some ((uC ([Z]:pO)))
section
variable (O:Int) (Z:Int) (aA:Bool)
abbrev a61:List qE:=[(.val (.int .i64) O,none),(.val (.int .u8) Z,none),(.val .bool aA,none)]
abbrev a62:List qD:=[]
@[go_sem] def a63:qK:=⟨[((TA O Z aA)).isSome=true],[(.val .str (val (TA O Z aA)),none)],[]⟩
def aGW:List qE→List qD→Option qK:=rP (V:=(Int×Int×Bool)) (fun x=>a61 x.1 x.2.1 x.2.2) (fun x=>a62) fun x=>a63 x.1 x.2.1 x.2.2
@[go_sem] def aT3:aGW (no_index (a61 O Z aA)) (no_index a62)=some (a63 O Z aA):=rT (fun⟨a0,a1,a2⟩ ⟨b0,b1,b2⟩ h1 h2=>by cases h1;cases h2;rfl) (O,Z,aA)
end
@[go_sem] abbrev aGX:Nat×r5:=(141,⟨[.v,.v,.v],aGW,[],[],none⟩)
def x8:rH Tryz.prog [ER,sL,ES] (rI [G5,a44,OE]):=⟨⟨HO,⟨sP,⟨HP,trivial⟩⟩⟩,qP LU (qP aFZ (qP a2A rN)),rK⟩
def aO3:r8 Tryz.prog aGX:=by
 refine rU x8 Tryz.func141 (c:=_) rfl (N:=64) pW (ts:=[(6,none)]) rfl (fun _ _=>rfl) ?_;intro⟨O,Z,aA⟩ hs hrow;dsimp only[a61,a62,a63,rM,qT,r6,rC,rO,Nat.reduceAdd] at hs hrow|-;have hz:=hs;obtain⟨z0,d⟩:=aUV.1 hz
 try rw[s7 d]
 clear hz hs;unfold TA at d;refine qC x8 ?_;refine qC x8 ?_;refine qQ ?_;refine qC x8 ?_;obtain⟨aB,e,d⟩:=qO d;refine yZ (fun s=>s=(fun x=>⟨[(0,(.val (.int .i64) O,none)),(1,(.val (.int .u8) Z,none)),(2,(.val .bool aA,none)),(7,(.val .str x,none))],[],0,64,0⟩) aB) ?_ ?_
 .refine rS ?_;refine qC x8 ?_;refine qV e (fun e hc1=> ?_) (fun e hc1=> ?_)
  .refine rF x8 ?_;refine rW ?_;cases e;exact uE ⟨⟨[0,1,2,7],[]⟩,by rfl⟩
  .refine qC x8 ?_;refine qV e (fun e hc2=> ?_) (fun e hc2=> ?_)
   .refine rF x8 ?_;refine rW ?_;cases e;exact uE ⟨⟨[0,1,2,7],[]⟩,by rfl⟩
   .refine qC x8 ?_;refine qV e (fun e hc3=> ?_) (fun e hc3=> ?_)
    .refine rF x8 ?_;refine rW ?_;cases e;exact uE ⟨⟨[0,1,2,7],[]⟩,by rfl⟩
    .refine r9 (rW ?_);cases e;exact uE ⟨⟨[0,1,2,7],[]⟩,by rfl⟩
 .rintro _ rfl;dsimp only at d|-;refine qM (qQ (rS ?_));refine qC x8 ?_;refine qV d (fun d hc4=> ?_) (fun d hc4=> ?_)
  .refine qC x8 ?_;refine qS (rY (rG ?_));cases d;exact pH []
  .refine qC x8 ?_;refine qV d (fun d hc5=> ?_) (fun d hc5=> ?_)
   .refine qC x8 ?_;refine qS (rY (rG ?_));cases d;exact pH []
   .refine qC x8 ?_;refine qV d (fun d hc6=> ?_) (fun d hc6=> ?_)
    .refine qC x8 ?_;refine qS (rY (rG ?_));cases d;exact pH []
    .refine qC x8 ?_;refine qV d (fun d hc7=> ?_) (fun d hc7=> ?_)
     .refine qC x8 ?_;refine qS (rY (rG ?_));cases d;exact pH []
     .refine qQ ?_;refine qC x8 ?_;obtain⟨aC,e,d⟩:=qO d;refine yZ (fun s=>s=(fun x=>⟨[(0,(.val (.int .i64) O,none)),(1,(.val (.int .u8) Z,none)),(27,(.val .bool x,none))],[],0,64,0⟩) aC) ?_ ?_
      .refine qV e (fun e hc8=> ?_) (fun e hc8=> ?_)
       .refine r9 ?_;cases e;exact uE ⟨⟨[0,1,27],[]⟩,by rfl⟩
       .refine rF x8 ?_ (hp:=by exact⟨sI,id,sI⟩);cases e;exact uE ⟨⟨[0,1,27],[]⟩,by rfl⟩
      .rintro _ rfl;dsimp only at d|-;refine qM ?_;refine qV d (fun d hc9=> ?_) (fun d hc9=> ?_)
       .obtain⟨hg1,d⟩:=qI d;refine qC x8 ?_ (hp:=by exact hg1);refine qS (rY (rG ?_));cases d;exact pH []
       .refine qC x8 ?_ (hp:=by exact⟨id,sI⟩);refine qV d (fun d hc10=> ?_) (fun d hc10=> ?_)
        .obtain⟨hg2,d⟩:=qI d;obtain⟨hg3,d⟩:=qI d;refine qC x8 ?_ (hp:=by exact⟨hg2,hg3⟩);refine qS (rY (rG ?_));cases d;exact pH []
        .refine qC x8 ?_;refine qV d (fun d hc11=> ?_) (fun d hc11=> ?_)
         .obtain⟨hg4,d⟩:=qI d;obtain⟨hg5,d⟩:=qI d;refine qC x8 ?_ (hp:=by exact⟨hg4,hg5⟩);refine qS (rY (rG ?_));cases d;exact pH []
         .refine r9 (rW (qM ?_));refine qC x8 ?_;refine qS ?_;cases d;exact pH []
def I4 (O:(List r7)) (Z:pF):Option Int:=(OW O Z).bind fun aA=>some (aA)
section
variable (O:(List r7)) (Z:pF)
abbrev a64:List qE:=[(.val (.list (.pair .str (.pair .str .unit))) O,none),(.val .str Z,none)]
abbrev a65:List qD:=[]
@[go_sem] def a66:qK:=⟨[((I4 O Z)).isSome=true],[(.val (.int .i64) (val (I4 O Z)),none)],[]⟩
def aGY:List qE→List qD→Option qK:=rP (V:=((List r7)×pF)) (fun x=>a64 x.1 x.2) (fun x=>a65) fun x=>a66 x.1 x.2
@[go_sem] def aT4:aGY (no_index (a64 O Z)) (no_index a65)=some (a66 O Z):=rT (fun⟨a0,a1⟩ ⟨b0,b1⟩ h1 h2=>by cases h1;cases h2;rfl) (O,Z)
end
@[go_sem] abbrev a67:Nat×r5:=(155,⟨[.v,.v],aGY,[],[],none⟩)
def a68:rH Tryz.prog [sL] (rI [aGj]):=⟨⟨sP,trivial⟩,qP aOO rN,rK⟩
def aGZ:r8 Tryz.prog a67:=by
 refine rU a68 Tryz.func155 (c:=_) rfl (N:=8) pW (ts:=[(4,none)]) rfl (fun _ _=>rfl) ?_;intro⟨O,Z⟩ hs hrow;dsimp only[a64,a65,a66,rM,qT,r6,rC,rO,Nat.reduceAdd] at hs hrow|-;have hz:=hs;obtain⟨z0,d⟩:=aUV.1 hz
 try rw[s7 d]
 clear hz hs;unfold I4 at d;refine qC a68 ?_;obtain⟨aA,hv1,hw1,d⟩:=qY d
 try simp only[go_sem] at hw1
 refine qC a68 ?_ (hp:=by exact⟨pV,(qW hv1)⟩) (h:=by simp only[go_sem,hw1];rfl)
 refine qS ?_;cases d;exact pH []
def MJ (O:pF) (Z:pF):Option (pF×Bool):=(SU O Z).bind fun aA=>if (!((decide ((Z.length:Int)≤(O.length:Int)))&&(decide ((sF O ((O.length:Int)- (Z.length:Int)) (O.length:Int))=Z))))=true then some ((O,false)) else if qG ((O.length:Int)- (Z.length:Int)) then if 0≤(0:Int)∧(0:Int)≤((O.length:Int)- (Z.length:Int))∧((O.length:Int)- (Z.length:Int))≤(O.length:Int) then some (((sF O (0:Int) ((O.length:Int)- (Z.length:Int))),true)) else none else none
section
variable (O:pF) (Z:pF)
abbrev a69:List qE:=[(.val .str O,none),(.val .str Z,none)]
abbrev a7a:List qD:=[]
@[go_sem] def a7b:qK:=⟨[((MJ O Z)).isSome=true],[(.val .str ((val (MJ O Z)).1),none),(.val .bool ((val (MJ O Z)).2),none)],[]⟩
def aG0:List qE→List qD→Option qK:=rP (V:=(pF×pF)) (fun x=>a69 x.1 x.2) (fun x=>a7a) fun x=>a7b x.1 x.2
@[go_sem] def aT5:aG0 (no_index (a69 O Z)) (no_index a7a)=some (a7b O Z):=rT (fun⟨a0,a1⟩ ⟨b0,b1⟩ h1 h2=>by cases h1;cases h2;rfl) (O,Z)
end
@[go_sem] abbrev aG1:Nat×r5:=(165,⟨[.v,.v],aG0,[],[],none⟩)
def TB:rH Tryz.prog [sL] (rI [aF4]):=⟨⟨sP,trivial⟩,qP aOI rN,rK⟩
def aO4:r8 Tryz.prog aG1:=by
 refine rU TB Tryz.func165 (c:=_) rfl (N:=18) pW (ts:=[(4,none),(5,none)]) rfl (fun _ _=>rfl) ?_;intro⟨O,Z⟩ hs hrow;dsimp only[a69,a7a,a7b,rM,qT,r6,rC,rO,Nat.reduceAdd] at hs hrow|-;have hz:=hs;obtain⟨z0,d⟩:=aUV.1 hz
 try rw[s7 d]
 clear hz hs;unfold MJ at d;refine qC TB ?_;refine qQ ?_;obtain⟨aA,hv1,hw1,d⟩:=qY d
 try simp only[go_sem] at hw1
 refine qC TB ?_ (hp:=by exact(qW hv1)) (h:=by simp only[go_sem,hw1];rfl);refine qV d (fun d hc1=> ?_) (fun d hc1=> ?_)
 .refine qC TB ?_;refine qS (rG ?_);cases d;exact pH []
 .refine r9 (qM ?_);obtain⟨hg2,d⟩:=qI d;obtain⟨hg3,d⟩:=qI d;refine qC TB ?_ (hp:=by exact⟨hg2,hg3⟩);refine qS ?_;cases d;exact pH []
def I5 (O:pF) (Z:pF):Option (pF×pF×Bool):=(JW O Z).bind fun aA=>some ((aA.1,aA.2.1,aA.2.2))
section
variable (O:pF) (Z:pF)
abbrev a7c:List qE:=[(.val .str O,none),(.val .str Z,none)]
abbrev a7d:List qD:=[]
@[go_sem] def a7e:qK:=⟨[((I5 O Z)).isSome=true],[(.val .str ((val (I5 O Z)).1),none),(.val .str ((val (I5 O Z)).2.1),none),(.val .bool ((val (I5 O Z)).2.2),none)],[]⟩
def aG2:List qE→List qD→Option qK:=rP (V:=(pF×pF)) (fun x=>a7c x.1 x.2) (fun x=>a7d) fun x=>a7e x.1 x.2
@[go_sem] def aT6:aG2 (no_index (a7c O Z)) (no_index a7d)=some (a7e O Z):=rT (fun⟨a0,a1⟩ ⟨b0,b1⟩ h1 h2=>by cases h1;cases h2;rfl) (O,Z)
end
@[go_sem] abbrev aG3:Nat×r5:=(166,⟨[.v,.v],aG2,[],[],none⟩)
def a7f:rH Tryz.prog [] (rI [aF6]):=⟨trivial,qP aOJ rN,rK⟩
def aO5:r8 Tryz.prog aG3:=by
 refine rU a7f Tryz.func166 (c:=_) rfl (N:=13) pW (ts:=[(4,none),(5,none),(6,none)]) rfl (fun _ _=>rfl) ?_;intro⟨O,Z⟩ hs hrow;dsimp only[a7c,a7d,a7e,rM,qT,r6,rC,rO,Nat.reduceAdd] at hs hrow|-;have hz:=hs;obtain⟨z0,d⟩:=aUV.1 hz
 try rw[s7 d]
 clear hz hs;unfold I5 at d;refine qC a7f ?_;obtain⟨aA,hv1,hw1,d⟩:=qY d
 try simp only[go_sem] at hw1
 refine qC a7f ?_ (hp:=by exact(qW hv1)) (h:=by simp only[go_sem,hw1];rfl);refine qS ?_;cases d;exact pH []
attribute [irreducible] K3 K5 TA I4 MJ I5
end
noncomputable section
def K6 (O:pO) (Z:Int):Option pO:=if (decide ((IntKind.wrap .u32 Z)≤(127:Int)))=true then if (O.length+([(IntKind.wrap .u8 Z)]:pO).length)*1≤140737488355328 then some ((O++([(IntKind.wrap .u8 Z)]:pO))) else none else (MD O Z).bind fun aA=>some (aA)
section
variable (O:pO) (Z:Int) (aA:Nat)
abbrev a7g:List qE:=[(.val (.list (.int .u8)) O,some 0),(.val (.int .i32) Z,none)]
abbrev a7h:List qD:=[.grow 5 1 aA]
@[go_sem] def a7i:qK:=⟨[aA=(O.length),((K6 O Z)).isSome=true],[(.val (.list (.int .u8)) (val (K6 O Z)),some 0)],[.grow 5 1 ((val (K6 O Z)).length)]⟩
def aG4:List qE→List qD→Option qK:=rP (V:=(pO×Int×Nat)) (fun x=>a7g x.1 x.2.1) (fun x=>a7h x.2.2) fun x=>a7i x.1 x.2.1 x.2.2
@[go_sem] def aT7:aG4 (no_index (a7g O Z)) (no_index (a7h aA))=some (a7i O Z aA):=rT (fun⟨a0,a1,a2⟩ ⟨b0,b1,b2⟩ h1 h2=>by cases h1;cases h2;rfl) (O,Z,aA)
end
@[go_sem] abbrev aG5:Nat×r5:=(244,⟨[.own,.v],aG4,[],[],none⟩)
def TC:rH Tryz.prog [ER,SJ,ES,Y0] (rI [aGf]):=⟨⟨HO,⟨a3a,⟨HP,⟨aEZ,trivial⟩⟩⟩⟩,qP aON rN,rK⟩
def aO6:r8 Tryz.prog aG5:=by
 refine rU TC Tryz.func244 (c:=_) rfl (N:=16) pW (ts:=[(4,none)]) rfl (fun _ _=>rfl) ?_;intro⟨O,Z,aA⟩ hs hrow;dsimp only[a7g,a7h,a7i,rM,qT,r6,rC,rO,Nat.reduceAdd] at hs hrow|-;obtain⟨rfl,hz⟩:=hs;obtain⟨z0,d⟩:=aUV.1 hz
 try rw[s7 d]
 clear hz;unfold K6 at d;refine qC TC ?_;refine qQ ?_;refine qC TC ?_;refine qV d (fun d hc1=> ?_) (fun d hc1=> ?_)
 .obtain⟨hg1,d⟩:=qI d;refine qC TC ?_ (hp:=by exact⟨pV,hg1⟩)
  refine qS (rG ?_);cases d;exact pH [(0,0)]
 .refine r9 (qM ?_);obtain⟨aB,hv2,hw2,d⟩:=qY d
  try simp only[go_sem] at hw2
  refine qC TC ?_ (hp:=by exact⟨pV,(qW hv2)⟩) (h:=by simp only[go_sem,hw2];rfl)
  refine qS ?_;cases d;exact pH [(0,0)]
def I7 (O:(List r7)) (Z:pF) (aA:pF):Option (List r7):=(JY O).bind fun aB=>(I4 aB Z).bind fun aC=>if (decide ((0:Int)≤aC))=true then if 0≤aC∧aC<(((aB.length):Nat):Int) then some ((List.set aB (Int.toNat aC) ((qR (.pair .str (.pair .str .unit)) aB aC).1,(aA,(qR (.pair .str (.pair .str .unit)) aB aC).2.2)))) else none else (OX aB Z).bind fun aD=>if (decide (aD<(0:Int)))=true then if 0≤(((aB.length):Nat):Int)∧(((aB.length):Nat):Int)≤List.length aB then if (aB.length+([(Z,(aA,()))]:List r7).length)*32≤140737488355328 then some ((C0 aB (((aB.length):Nat):Int) ([(Z,(aA,()))]:List r7))) else none else none else if 0≤aD∧aD≤List.length aB then if (aB.length+([(Z,(aA,()))]:List r7).length)*32≤140737488355328 then some ((C0 aB aD ([(Z,(aA,()))]:List r7))) else none else none
section
variable (O:(List r7)) (Z:pF) (aA:pF)
abbrev a7j:List qE:=[(.val (.list (.pair .str (.pair .str .unit))) O,none),(.val .str Z,none),(.val .str aA,none)]
abbrev a7k:List qD:=[]
@[go_sem] def a7l:qK:=⟨[((I7 O Z aA)).isSome=true],[(.val (.list (.pair .str (.pair .str .unit))) (val (I7 O Z aA)),some 0)],[.grow 111 2 ((val (I7 O Z aA)).length)]⟩
def aG6:List qE→List qD→Option qK:=rP (V:=((List r7)×pF×pF)) (fun x=>a7j x.1 x.2.1 x.2.2) (fun x=>a7k) fun x=>a7l x.1 x.2.1 x.2.2
@[go_sem] def aT8:aG6 (no_index (a7j O Z aA)) (no_index a7k)=some (a7l O Z aA):=rT (fun⟨a0,a1,a2⟩ ⟨b0,b1,b2⟩ h1 h2=>by cases h1;cases h2;rfl) (O,Z,aA)
end
@[go_sem] abbrev a7m:Nat×r5:=(116,⟨[.v,.v,.v],aG6,[],[],none⟩)
def DZ:rH Tryz.prog [sL,Y1,D4] (rI [aGn,a67,aGl,OI]):=⟨⟨sP,⟨aE0,⟨ET,trivial⟩⟩⟩,qP aOQ (qP aGZ (qP aOP (qP a2D rN))),rK⟩
def aG7:r8 Tryz.prog a7m:=by
 refine rU DZ Tryz.func116 (c:=_) rfl (N:=37) pW (ts:=[(6,none)]) rfl (fun _ _=>rfl) ?_;intro⟨O,Z,aA⟩ hs hrow;dsimp only[a7j,a7k,a7l,rM,qT,r6,rC,rO,Nat.reduceAdd] at hs hrow|-;have hz:=hs;obtain⟨z0,d⟩:=aUV.1 hz
 try rw[s7 d]
 clear hz hs;unfold I7 at d;refine qC DZ ?_;obtain⟨aB,hv1,hw1,d⟩:=qY d
 try simp only[go_sem] at hw1
 refine qC DZ ?_ (hp:=by exact(qW hv1)) (h:=by simp only[go_sem,hw1];rfl);refine qQ ?_;obtain⟨aC,hv2,hw2,d⟩:=qY d
 try simp only[go_sem] at hw2
 refine qC DZ ?_ (hp:=by exact⟨fun _=>by first|exact rfl|exact trivial,(qW hv2)⟩) (h:=by simp only[go_sem,hw2];rfl)
 refine qC DZ ?_;refine qV d (fun d hc1=> ?_) (fun d hc1=> ?_)
 .obtain⟨hg3,d⟩:=qI d;refine qC DZ ?_ (hp:=by exact⟨hg3,pV⟩)
  refine qC DZ ?_;refine RV 96 rfl (by repeat' (first|exact trivial|apply And.intro|exact(fun _=>rfl) |exact(fun h=>absurd h pJ))) ?_
  refine qS (rG ?_);cases d;exact pH [(0,96)]
 .refine r9 (qM ?_);obtain⟨aD,hv4,hw4,d⟩:=qY d
  try simp only[go_sem] at hw4
  refine qC DZ ?_ (hp:=by exact⟨pV,fun _=>by first|exact rfl|exact trivial,(qW hv4)⟩) (h:=by simp only[go_sem,hw4];rfl)
  refine qQ ?_;refine qC DZ ?_;refine qV d (fun d hc2=> ?_) (fun d hc2=> ?_)
  .refine rF DZ ?_;refine qM ?_;obtain⟨hg5,d⟩:=qI d;obtain⟨hg6,d⟩:=qI d;refine qC DZ ?_ (hp:=by exact⟨pV,hg5,hg6⟩)
   refine aEd ⟨[0,1,2,4,6,10,13,14,8,15,16,24,25,9,26,27,29,31,32,33,34,35,36],[(0,0),(32,32),(96,96),(800,800)]⟩ ?_;simp only[go_sem,Nat.max_def];refine RV 96 rfl (by repeat' (first|exact trivial|apply And.intro|exact(fun _=>rfl) |exact(fun h=>absurd h pJ))) ?_
   refine qS ?_;cases d;exact pH [(0,96)]
  .refine r9 (qM ?_);obtain⟨hg7,d⟩:=qI d;obtain⟨hg8,d⟩:=qI d;refine qC DZ ?_ (hp:=by exact⟨pV,hg7,hg8⟩)
   refine aEd ⟨[0,1,2,4,6,10,13,14,8,15,16,24,25,9,26,27,31,32,33,34,35,36],[(0,0),(32,32),(96,96),(704,704)]⟩ ?_;simp only[go_sem,Nat.max_def];refine RV 96 rfl (by repeat' (first|exact trivial|apply And.intro|exact(fun _=>rfl) |exact(fun h=>absurd h pJ))) ?_
   refine qS ?_;cases d;exact pH [(0,96)]
def TD (O:(List r7)):Int→Option (Int⊕(Unit⊕Int)):=fun Z=>if (decide (Z<(O.length:Int)))=true then if 0≤Z∧Z<(O.length:Int) then (MH (qR (.pair .str (.pair .str .unit)) O Z)).bind fun aA=>if aA=true then some (.inr (.inr (Z))) else if qG (Z+(1:Int)) then some (.inl (Z+(1:Int))) else none else none else some (.inr (.inl ()))
def P9 (O:(List r7)):Option Int:=uF (rQ (TD O) (0:Int)) fun _=>some ((-1:Int))
section
variable (O:(List r7))
abbrev a7n:List qE:=[(.val (.list (.pair .str (.pair .str .unit))) O,none),(.val .clo (some (90,[])),none)]
abbrev a7o:List qD:=[]
@[go_sem] def a7p:qK:=⟨[((P9 O)).isSome=true],[(.val (.int .i64) (val (P9 O)),none)],[]⟩
def aG8:List qE→List qD→Option qK:=rP (V:=(List r7)) (a7n) (fun x=>a7o) fun x=>a7p x
@[go_sem] def aT9:aG8 (no_index (a7n O)) (no_index a7o)=some (a7p O):=rT (fun a0 b0 h1 h2=>by cases h1;cases h2;rfl) O
end
@[go_sem] abbrev aG9:Nat×r5:=(136,⟨[.v,.v],aG8,[],[],none⟩)
def I8:rH Tryz.prog [D6,C2] (rI [aGO]):=⟨⟨EV,⟨DT,trivial⟩⟩,qP aOZ rN,rK⟩
def aO7:r8 Tryz.prog aG9:=by
 refine rU I8 Tryz.func136 (c:=_) rfl (N:=19) pW (ts:=[(4,none)]) rfl (fun _ _=>rfl) ?_;intro O hs hrow;dsimp only[a7n,a7o,a7p,rM,qT,r6,rC,rO,Nat.reduceAdd] at hs hrow|-;have hz:=hs;obtain⟨z0,d⟩:=aUV.1 hz
 try rw[s7 d]
 clear hz hs;unfold P9 at d;refine qC I8 ?_;refine qQ ?_;refine qC I8 ?_;refine rS ?_;obtain⟨y1,hy1,d⟩:=vF d;refine uA 0 (fun s=> ∃v,y1= .inl v∧s=(fun _=>⟨[],[],0,19,0⟩) v) ?_ ?_
 .refine tZ hy1 (fun x=>⟨[(0,(.val (.list (.pair .str (.pair .str .unit))) O,none)),(1,(.val .clo (some (90,[])),none)),(7,(.val (.int .i64) (O.length:Int),none)),(8,(.val (.int .i64) x,none))],[],0,19,0⟩) ⟨[0,1,7,8],[]⟩ pX ?_;intro Z w1 n1 e g;unfold TD at e;dsimp only at e|-;refine qC I8 ?_;refine qQ ?_;refine qV e (fun e hc1=> ?_) (fun e hc1=> ?_)
  .refine r9 (qM (qQ (rS ?_)));refine qC I8 ?_;obtain⟨hg1,e⟩:=qI e;obtain⟨aA,hv2,hw2,e⟩:=qY e
   try simp only[go_sem] at hw2
   refine qC I8 ?_ (hp:=by exact⟨hg1,(qW hv2)⟩) (h:=by simp only[go_sem,hw2];rfl);refine qV e (fun e hc2=> ?_) (fun e hc2=> ?_)
   .refine qC I8 ?_;refine qS (rY (rG (vE (vM (rY (rG ?_))))));cases e;cases g;dsimp only at d;cases d;exact pH []
   .refine r9 (rW (qM ?_));obtain⟨hg3,e⟩:=qI e;refine rF I8 ?_ (hp:=by exact hg3);cases e;exact sX ⟨⟨[0,1,7,8],[]⟩,_,by rfl,g⟩
  .refine tV (tU (tX ?_));cases e;cases g;exact tW ⟨⟨[],[]⟩,_,rfl,by rfl⟩
 .rintro _ ⟨v,rfl,rfl⟩;dsimp only at d|-;refine u7 (qM ?_);refine qC I8 ?_;refine qS ?_;cases d;exact pH []
def E2 (O:(List r7)):Option Bool:=(P9 O).bind fun Z=>some ((decide ((0:Int)≤Z)))
section
variable (O:(List r7))
abbrev a7q:List qE:=[(.val (.list (.pair .str (.pair .str .unit))) O,none),(.val .clo (some (90,[])),none)]
abbrev a7r:List qD:=[]
@[go_sem] def a7s:qK:=⟨[((E2 O)).isSome=true],[(.val .bool (val (E2 O)),none)],[]⟩
def aHa:List qE→List qD→Option qK:=rP (V:=(List r7)) (a7q) (fun x=>a7r) fun x=>a7s x
@[go_sem] def aUa:aHa (no_index (a7q O)) (no_index a7r)=some (a7s O):=rT (fun a0 b0 h1 h2=>by cases h1;cases h2;rfl) O
end
@[go_sem] abbrev a7t:Nat×r5:=(89,⟨[.v,.v],aHa,[],[],none⟩)
def a7u:rH Tryz.prog [] (rI [aG9]):=⟨trivial,qP aO7 rN,rK⟩
def aHb:r8 Tryz.prog a7t:=by
 refine rU a7u Tryz.func89 (c:=_) rfl (N:=9) pW (ts:=[(4,none)]) rfl (fun _ _=>rfl) ?_;intro O hs hrow;dsimp only[a7q,a7r,a7s,rM,qT,r6,rC,rO,Nat.reduceAdd] at hs hrow|-;have hz:=hs;obtain⟨z0,d⟩:=aUV.1 hz
 try rw[s7 d]
 clear hz hs;unfold E2 at d;refine qC a7u ?_;obtain⟨Z,hv1,hw1,d⟩:=qY d
 try simp only[go_sem] at hw1
 refine qC a7u ?_ (hp:=by exact(qW hv1)) (h:=by simp only[go_sem,hw1];rfl);refine qS ?_;cases d;exact pH []
def MK (O:sR) (Z:sR):Option Unit:=(T5 O Z).bind fun aA=>if (((((decide (O.1=Z.1))&&(val (xT O.2.1 Z.2.1)))&&(val (AU O.2.2.1 Z.2.2.1)))==true)=true→((F3 O.2.2.2.1 Z.2.2.2.1)).isSome=true) then some (()) else none
section
variable (O:sR) (Z:sR)
abbrev a7v:List qE:=[(.val D0 O,none),(.val D0 Z,none)]
abbrev a7w:List qD:=[]
@[go_sem] def a7x:qK:=⟨[((MK O Z)).isSome=true],[(.val .bool ((((decide (O.1=Z.1))&&(val (xT O.2.1 Z.2.1)))&&(val (AU O.2.2.1 Z.2.2.1)))&&(val (F3 O.2.2.2.1 Z.2.2.2.1))),none)],[]⟩
def aHc:List qE→List qD→Option qK:=rP (V:=(sR×sR)) (fun x=>a7v x.1 x.2) (fun x=>a7w) fun x=>a7x x.1 x.2
@[go_sem] def aUb:aHc (no_index (a7v O Z)) (no_index a7w)=some (a7x O Z):=rT (fun⟨a0,a1⟩ ⟨b0,b1⟩ h1 h2=>by cases h1;cases h2;rfl) (O,Z)
end
@[go_sem] abbrev a7y:Nat×r5:=(14,⟨[.v,.v],aHc,[],[],none⟩)
def a7z:rH Tryz.prog [G6,BJ] (rI [aGG,aGI]):=⟨⟨JM,⟨D3,trivial⟩⟩,qP aOX (qP aOY rN),rK⟩
def aO8:r8 Tryz.prog a7y:=by
 refine rU a7z Tryz.func14 (c:=_) rfl (N:=15) pW (ts:=[(4,none)]) rfl (fun _ _=>rfl) ?_;intro⟨O,Z⟩ hs hrow;dsimp only[a7v,a7w,a7x,rM,qT,r6,rC,rO,Nat.reduceAdd] at hs hrow|-;have hz:=hs;obtain⟨z0,d⟩:=aUV.1 hz
 try rw[s7 d]
 clear hz hs;unfold MK at d;refine qC a7z ?_;obtain⟨aA,hv1,hw1,d⟩:=qY d
 try simp only[go_sem] at hw1
 obtain⟨hg2,d⟩:=qI d;refine qC a7z ?_ (hp:=by exact⟨qW hv1,id,id,id,id,hg2,sI⟩) (h:=by simp only[go_sem,hw1];rfl);refine qS ?_;cases d;exact pH []
attribute [irreducible] K6 I7 P9 E2 MK
end
noncomputable section
def TF (O:pG):Int→Option (Int⊕(Unit⊕Bool)):=fun Z=>if (decide (Z<(O.length:Int)))=true then if 0≤Z∧Z<(O.length:Int) then (K2 (qR .str O Z)).bind fun aA=>if ((((!aA)==false)&&((decide ((0:Int)<Z))==true))=true→0≤Z∧Z<(O.length:Int)) then if ((((!aA)==false)&&((decide ((0:Int)<Z))==true))=true→qG (Z- (1:Int))) then if ((((!aA)==false)&&((decide ((0:Int)<Z))==true))=true→0≤(Z- (1:Int))∧(Z- (1:Int))<(O.length:Int)) then if ((!aA)||((decide ((0:Int)<Z))&&(Op.bytesLess (qR .str O Z) (qR .str O (Z- (1:Int)))||decide ((qR .str O Z)=(qR .str O (Z- (1:Int)))))))=true then some (.inr (.inr (false))) else if qG (Z+(1:Int)) then some (.inl (Z+(1:Int))) else none else none else none else none else none else some (.inr (.inl ()))
def F8 (O:pG):Option Bool:=uF (rQ (TF O) (0:Int)) fun _=>some ((decide ((O.length:Int)≤(20:Int))))
section
variable (O:pG)
abbrev a7A:List qE:=[(.val (.list .str) O,none)]
abbrev a7B:List qD:=[]
@[go_sem] def a7C:qK:=⟨[((F8 O)).isSome=true],[(.val .bool (val (F8 O)),none)],[]⟩
def aHd:List qE→List qD→Option qK:=rP (V:=pG) (a7A) (fun x=>a7B) fun x=>a7C x
@[go_sem] def aUc:aHd (no_index (a7A O)) (no_index a7B)=some (a7C O):=rT (fun a0 b0 h1 h2=>by cases h1;cases h2;rfl) O
end
@[go_sem] abbrev aHe:Nat×r5:=(47,⟨[.v],aHd,[],[],none⟩)
def K7:rH Tryz.prog [sL,vY] (rI [a6I]):=⟨⟨sP,⟨wE,trivial⟩⟩,qP aGM rN,rK⟩
def aO9:r8 Tryz.prog aHe:=by
 refine rU K7 Tryz.func47 (c:=_) rfl (N:=35) pW (ts:=[(2,none)]) rfl (fun _ _=>rfl) ?_;intro O hs hrow;dsimp only[a7A,a7B,a7C,rM,qT,r6,rC,rO,Nat.reduceAdd] at hs hrow|-;have hz:=hs;obtain⟨z0,f⟩:=aUV.1 hz
 try rw[s7 f]
 clear hz hs;unfold F8 at f;refine qC K7 ?_;refine qQ ?_;refine qC K7 ?_;refine rS ?_;obtain⟨y1,hy1,f⟩:=vF f;refine uA 0 (fun s=> ∃v,y1= .inl v∧s=(fun _=>⟨[(0,(.val (.list .str) O,none))],[],0,35,0⟩) v) ?_ ?_
 .refine tZ hy1 (fun x=>⟨[(0,(.val (.list .str) O,none)),(3,(.val (.int .i64) x,none))],[],0,35,0⟩) ⟨[0,3],[]⟩ pX ?_;intro Z w1 n1 e g;unfold TF at e;dsimp only at e|-;refine qQ ?_;refine qC K7 ?_;refine qV e (fun e hc1=> ?_) (fun e hc1=> ?_)
  .refine r9 (qM (qQ (rS ?_)));obtain⟨hg1,e⟩:=qI e;obtain⟨aA,hv2,hw2,e⟩:=qY e
   try simp only[go_sem] at hw2
   obtain⟨hg3,e⟩:=qI e;obtain⟨hg4,e⟩:=qI e;obtain⟨hg5,e⟩:=qI e;refine vN K7 ?_ (hp:=by exact⟨hg1,qW hv2,id,id,id,id,hg3,id,id,hg4,id,id,hg5,id,id,id,id,fun hG d=>O9 hG d,sQ⟩) (h:=by simp only[go_sem,hw2];rfl);refine qV e (fun e hc2=> ?_) (fun e hc2=> ?_)
   .refine qC K7 ?_;refine qS (rY (rG (vE (vM (rY (rG ?_))))));cases e;cases g;dsimp only at f;cases f;exact pH []
   .refine r9 (rW (qM ?_));obtain⟨hg6,e⟩:=qI e;refine rF K7 ?_ (hp:=by exact hg6);cases e;exact sX ⟨⟨[0,3],[]⟩,_,by rfl,g⟩
  .refine tV (tU (tX ?_));cases e;cases g;exact tW ⟨⟨[0],[]⟩,_,rfl,by rfl⟩
 .rintro _ ⟨v,rfl,rfl⟩;dsimp only at f|-;refine u7 (qM ?_);refine qC K7 ?_;refine qS ?_;cases f;exact pH []
def TG (O:(List r7)):Int→Option (Int⊕(Unit⊕Bool)):=fun Z=>if (decide (Z<(O.length:Int)))=true then if 0≤Z∧Z<(O.length:Int) then (D8 ((qR (.pair .str (.pair .str .unit)) O Z).1)).bind fun aA=>if (((!aA)==false)=true→((F4 ((qR (.pair .str (.pair .str .unit)) O Z).2.1))).isSome=true) then if (((((!aA)||(!((decide ((((qR (.pair .str (.pair .str .unit)) O Z).2.1).length:Int)≤(4000:Int)))&&(Lib.validD ((qR (.pair .str (.pair .str .unit)) O Z).2.1)))))==false)&&((decide ((0:Int)<Z))==true))=true→qG (Z- (1:Int))) then if (((((!aA)||(!((decide ((((qR (.pair .str (.pair .str .unit)) O Z).2.1).length:Int)≤(4000:Int)))&&(Lib.validD ((qR (.pair .str (.pair .str .unit)) O Z).2.1)))))==false)&&((decide ((0:Int)<Z))==true))=true→0≤(Z- (1:Int))∧(Z- (1:Int))<(O.length:Int)) then if (((!aA)||(!((decide ((((qR (.pair .str (.pair .str .unit)) O Z).2.1).length:Int)≤(4000:Int)))&&(Lib.validD ((qR (.pair .str (.pair .str .unit)) O Z).2.1)))))||((decide ((0:Int)<Z))&&(!Op.bytesLess (qR (.pair .str (.pair .str .unit)) O (Z- (1:Int))).1 (qR (.pair .str (.pair .str .unit)) O Z).1)))=true then some (.inr (.inr (false))) else if qG (Z+(1:Int)) then some (.inl (Z+(1:Int))) else none else none else none else none else none else some (.inr (.inl ()))
def GE (O:(List r7)):Option Bool:=uF (rQ (TG O) (0:Int)) fun _=>some ((decide ((O.length:Int)≤(20:Int))))
section
variable (O:(List r7))
abbrev a7D:List qE:=[(.val (.list (.pair .str (.pair .str .unit))) O,none)]
abbrev a7E:List qD:=[]
@[go_sem] def a7F:qK:=⟨[((GE O)).isSome=true],[(.val .bool (val (GE O)),none)],[]⟩
def aHf:List qE→List qD→Option qK:=rP (V:=(List r7)) (a7D) (fun x=>a7E) fun x=>a7F x
@[go_sem] def aUd:aHf (no_index (a7D O)) (no_index a7E)=some (a7F O):=rT (fun a0 b0 h1 h2=>by cases h1;cases h2;rfl) O
end
@[go_sem] abbrev a7G:Nat×r5:=(65,⟨[.v],aHf,[],[],none⟩)
def I9:rH Tryz.prog [sL,y8,D4] (rI [OR,T6]):=⟨⟨sP,⟨z8,⟨ET,trivial⟩⟩⟩,qP SP (qP YE rN),rK⟩
def aHg:r8 Tryz.prog a7G:=by
 refine rU I9 Tryz.func65 (c:=_) rfl (N:=41) pW (ts:=[(2,none)]) rfl (fun _ _=>rfl) ?_;intro O hs hrow;dsimp only[a7D,a7E,a7F,rM,qT,r6,rC,rO,Nat.reduceAdd] at hs hrow|-;have hz:=hs;obtain⟨z0,f⟩:=aUV.1 hz
 try rw[s7 f]
 clear hz hs;unfold GE at f;refine qC I9 ?_;refine qQ ?_;refine qC I9 ?_;refine rS ?_;obtain⟨y1,hy1,f⟩:=vF f;refine uA 0 (fun s=> ∃v,y1= .inl v∧s=(fun _=>⟨[(0,(.val (.list (.pair .str (.pair .str .unit))) O,none))],[],0,41,0⟩) v) ?_ ?_
 .refine tZ hy1 (fun x=>⟨[(0,(.val (.list (.pair .str (.pair .str .unit))) O,none)),(5,(.val (.list (.pair .str (.pair .str .unit))) O,none)),(6,(.val (.int .i64) (O.length:Int),none)),(7,(.val (.int .i64) x,none))],[],0,41,0⟩) ⟨[0,5,6,7],[]⟩ pX ?_;intro Z w1 n1 e g;unfold TG at e;dsimp only at e|-;refine qC I9 ?_;refine qQ ?_;refine qV e (fun e hc1=> ?_) (fun e hc1=> ?_)
  .refine r9 (qM (qQ (rS ?_)));obtain⟨hg1,e⟩:=qI e;refine qC I9 ?_ (hp:=by exact hg1);obtain⟨aA,hv2,hw2,e⟩:=qY e
   try simp only[go_sem] at hw2
   obtain⟨hg3,e⟩:=qI e;obtain⟨hg4,e⟩:=qI e;obtain⟨hg5,e⟩:=qI e;refine vN I9 ?_ (hp:=by exact⟨qW hv2,id,id,hg3,id,sQ,id,id,id,hg4,id,id,hg5,id,id,id,id,id,id,fun hG d=>O9 hG d,sQ⟩) (h:=by simp only[go_sem,hw2];rfl);refine qV e (fun e hc2=> ?_) (fun e hc2=> ?_)
   .refine qC I9 ?_;refine qS (rY (rG (vE (vM (rY (rG ?_))))));cases e;cases g;dsimp only at f;cases f;exact pH []
   .refine r9 (rW (qM ?_));obtain⟨hg6,e⟩:=qI e;refine rF I9 ?_ (hp:=by exact hg6);cases e;exact sX ⟨⟨[0,5,6,7],[]⟩,_,by rfl,g⟩
  .refine tV (tU (tX ?_));cases e;cases g;exact tW ⟨⟨[0],[]⟩,_,rfl,by rfl⟩
 .rintro _ ⟨v,rfl,rfl⟩;dsimp only at f|-;refine u7 (qM ?_);refine qC I9 ?_;refine qS ?_;cases f;exact pH []
def vG (O:pF):Option Bool:=(K3 O).bind fun Z=>(MI Z).bind fun aA=>some ((decide (aA=O)))
section
variable (O:pF)
abbrev a7H:List qE:=[(.val .str O,none)]
abbrev a7I:List qD:=[]
@[go_sem] def a7J:qK:=⟨[((vG O)).isSome=true],[(.val .bool (val (vG O)),none)],[]⟩
def aHh:List qE→List qD→Option qK:=rP (V:=pF) (a7H) (fun x=>a7I) fun x=>a7J x
@[go_sem] def aUe:aHh (no_index (a7H O)) (no_index a7I)=some (a7J O):=rT (fun a0 b0 h1 h2=>by cases h1;cases h2;rfl) O
end
@[go_sem] abbrev aHi:Nat×r5:=(75,⟨[.v],aHh,[],[],none⟩)
def a7K:rH Tryz.prog [] (rI [aGT,aGQ]):=⟨trivial,qP aO1 (qP aO0 rN),rK⟩
def aPa:r8 Tryz.prog aHi:=by
 refine rU a7K Tryz.func75 (c:=_) rfl (N:=8) pW (ts:=[(2,none)]) rfl (fun _ _=>rfl) ?_;intro O hs hrow;dsimp only[a7H,a7I,a7J,rM,qT,r6,rC,rO,Nat.reduceAdd] at hs hrow|-;have hz:=hs;obtain⟨z0,f⟩:=aUV.1 hz
 try rw[s7 f]
 clear hz hs;unfold vG at f;refine qC a7K ?_;obtain⟨Z,hv1,hw1,f⟩:=qY f
 try simp only[go_sem] at hw1
 obtain⟨aA,hv2,hw2,f⟩:=qY f
 try simp only[go_sem] at hw2
 refine qC a7K ?_ (hp:=by exact⟨qW hv1,(qW hv2)⟩) (h:=by simp only[go_sem,hw1,hw2];rfl);refine qS ?_;cases f;exact pH []
def TH (O:pF):Option Unit:=(F4 O).bind fun Z=>some (())
section
variable (O:pF)
abbrev a7L:List qE:=[(.val .str O,none)]
abbrev a7M:List qD:=[]
@[go_sem] def a7N:qK:=⟨[((TH O)).isSome=true],[(.val .bool (!((decide ((O.length:Int)≤(4000:Int)))&&(Lib.validD O))),none)],[]⟩
def aHj:List qE→List qD→Option qK:=rP (V:=pF) (a7L) (fun x=>a7M) fun x=>a7N x
@[go_sem] def aUf:aHj (no_index (a7L O)) (no_index a7M)=some (a7N O):=rT (fun a0 b0 h1 h2=>by cases h1;cases h2;rfl) O
end
@[go_sem] abbrev aHk:Nat×r5:=(96,⟨[.v],aHj,[],[],none⟩)
def a7O:rH Tryz.prog [] (rI [T6]):=⟨trivial,qP YE rN,rK⟩
def aPb:r8 Tryz.prog aHk:=by
 refine rU a7O Tryz.func96 (c:=_) rfl (N:=6) pW (ts:=[(2,none)]) rfl (fun _ _=>rfl) ?_;intro O hs hrow;dsimp only[a7L,a7M,a7N,rM,qT,r6,rC,rO,Nat.reduceAdd] at hs hrow|-;have hz:=hs;obtain⟨z0,f⟩:=aUV.1 hz
 try rw[s7 f]
 clear hz hs;unfold TH at f;refine qC a7O ?_;obtain⟨Z,hv1,hw1,f⟩:=qY f
 try simp only[go_sem] at hw1
 refine qC a7O ?_ (hp:=by exact(qW hv1)) (h:=by simp only[go_sem,hw1];rfl);refine qS ?_;cases f;exact pH []
attribute [irreducible] F8 GE vG TH
end
noncomputable section
def TJ (O:Int) (Z:pF):(Int×pO)→Option ((Int×pO)⊕pO):=fun(aA,aB)=>if (decide (aA<(Z.length:Int)))=true then if (decide (O=(4:Int)))=true then if 0≤aA∧aA<(Z.length:Int) then (K5 (sJ Z aA)).bind fun aC=>(DU (aB,()) aC).bind fun aD=>if qG (aA+(1:Int)) then some (.inl ((aA+(1:Int)),(aB++uY aC))) else none else none else if 0≤aA∧aA<(Z.length:Int) then (TA O (sJ Z aA) (decide (aA=(0:Int)))).bind fun aE=>(DU (aB,()) aE).bind fun aF=>if qG (aA+(1:Int)) then some (.inl ((aA+(1:Int)),(aB++uY aE))) else none else none else some (.inr aB)
def ML (O:Int) (Z:pF):Option pF:=if (!((decide ((1:Int)≤O))&&(decide (O≤(4:Int)))))=true then some (([]:pF)) else sU (rQ (TJ O Z) ((0:Int),([]:pO))) fun aA=>some ((uC aA))
section
variable (O:Int) (Z:pF)
abbrev a7P:List qE:=[(.val (.int .i64) O,none),(.val .str Z,none)]
abbrev a7Q:List qD:=[]
@[go_sem] def a7R:qK:=⟨[((ML O Z)).isSome=true],[(.val .str (val (ML O Z)),none)],[]⟩
def aHl:List qE→List qD→Option qK:=rP (V:=(Int×pF)) (fun x=>a7P x.1 x.2) (fun x=>a7Q) fun x=>a7R x.1 x.2
@[go_sem] def aUg:aHl (no_index (a7P O Z)) (no_index a7Q)=some (a7R O Z):=rT (fun⟨a0,a1⟩ ⟨b0,b1⟩ h1 h2=>by cases h1;cases h2;rfl) (O,Z)
end
@[go_sem] abbrev aHm:Nat×r5:=(100,⟨[.v,.v],aHl,[],[],none⟩)
def C7:rH Tryz.prog [sL,HQ] (rI [a4F,aGV,Y3,aGX,HM]):=⟨⟨sP,⟨M5,trivial⟩⟩,qP aFJ (qP aO2 (qP a3p (qP aO3 (qP OF rN)))),rK⟩
def aPc:r8 Tryz.prog aHm:=by
 refine rU C7 Tryz.func100 (c:=_) rfl (N:=32) pW (ts:=[(4,none)]) rfl (fun _ _=>rfl) ?_;intro⟨O,Z⟩ hs hrow;dsimp only[a7P,a7Q,a7R,rM,qT,r6,rC,rO,Nat.reduceAdd] at hs hrow|-;have hz:=hs;obtain⟨z0,d⟩:=aUV.1 hz
 try rw[s7 d]
 clear hz hs;unfold ML at d;refine qC C7 ?_;refine qQ ?_;refine qC C7 ?_;refine qV d (fun d hc1=> ?_) (fun d hc1=> ?_)
 .refine qC C7 ?_;refine qS (rG ?_);cases d;exact pH []
 .refine r9 (qM ?_);refine qC C7 ?_;refine qQ ?_;refine qC C7 ?_;refine rS ?_;obtain⟨aA,hy1,d⟩:=qO d;refine uA 0 (fun s=>s=(fun x=>⟨[(5,(.val .ref (some (0,0)),none))],[(0,.cells wR ((some (0,0)),(x,())) [(1,1)]),(1,.grow 5 1 (x.length))],2,32,0⟩) aA) ?_ ?_
  .refine tZ hy1 (fun x=>⟨[(0,(.val (.int .i64) O,none)),(1,(.val .str Z,none)),(5,(.val .ref (some (0,0)),none)),(11,(.val (.int .i64) (Z.length:Int),none)),(12,(.val (.int .i64) x.1,none))],[(0,.cells wR ((some (0,0)),(x.2,())) [(1,1)]),(1,.grow 5 1 (x.2.length))],2,32,0⟩) ⟨[0,1,5,11,12],[(0,128),(1,129)]⟩ pX ?_;intro x1 w1 n1 e f;obtain⟨aB,aC⟩:=x1;unfold TJ at e;dsimp only at e|-;refine qC C7 ?_;refine qQ ?_;refine qV e (fun e hc2=> ?_) (fun e hc2=> ?_)
   .refine r9 (qM (qQ (rS ?_)));refine qC C7 ?_;refine qC C7 ?_;refine qV e (fun e hc3=> ?_) (fun e hc3=> ?_)
    .obtain⟨hg1,e⟩:=qI e;obtain⟨aD,hv2,hw2,e⟩:=qY e
     try simp only[go_sem] at hw2
     obtain⟨aE,hv3,hw3,e⟩:=qY e
     try simp only[go_sem] at hw3
     refine rF C7 ?_ (hp:=by exact⟨hg1,qW hv2,pV,(qW hv3)⟩) (h:=by simp only[go_sem,hw2,hw3];rfl)
     refine rW (qM ?_);obtain⟨hg4,e⟩:=qI e;refine rF C7 ?_ (hp:=by exact hg4);cases e;exact sX ⟨⟨[0,1,5,11,12],[(0,0),(1,1)]⟩,_,by rfl,f⟩
    .obtain⟨hg5,e⟩:=qI e;obtain⟨aF,hv6,hw6,e⟩:=qY e
     try simp only[go_sem] at hw6
     obtain⟨aG,hv7,hw7,e⟩:=qY e
     try simp only[go_sem] at hw7
     refine rF C7 ?_ (hp:=by exact⟨hg5,qW hv6,pV,(qW hv7)⟩) (h:=by simp only[go_sem,hw6,hw7];rfl)
     refine rW (qM ?_);obtain⟨hg8,e⟩:=qI e;refine rF C7 ?_ (hp:=by exact hg8);cases e;exact sX ⟨⟨[0,1,5,11,12],[(0,0),(1,1)]⟩,_,by rfl,f⟩
   .refine tV (tU (tX ?_));cases e;cases f;exact tW ⟨⟨[5],[(0,0),(1,1)]⟩,by rfl⟩
  .rintro _ rfl;dsimp only at d|-;refine u7 (qM ?_);refine qC C7 ?_ (hp:=by first|rfl|trivial)
   refine qS ?_;cases d;exact pH []
def IA (O:(List r7)) (Z:pF):Option (pF×Bool):=(I4 O Z).bind fun aA=>if (decide (aA<(0:Int)))=true then some ((([]:pF),false)) else if 0≤aA∧aA<(O.length:Int) then some (((qR (.pair .str (.pair .str .unit)) O aA).2.1,true)) else none
section
variable (O:(List r7)) (Z:pF)
abbrev a7S:List qE:=[(.val (.list (.pair .str (.pair .str .unit))) O,none),(.val .str Z,none)]
abbrev a7T:List qD:=[]
@[go_sem] def a7U:qK:=⟨[((IA O Z)).isSome=true],[(.val .str ((val (IA O Z)).1),none),(.val .bool ((val (IA O Z)).2),none)],[]⟩
def aHn:List qE→List qD→Option qK:=rP (V:=((List r7)×pF)) (fun x=>a7S x.1 x.2) (fun x=>a7T) fun x=>a7U x.1 x.2
@[go_sem] def aUh:aHn (no_index (a7S O Z)) (no_index a7T)=some (a7U O Z):=rT (fun⟨a0,a1⟩ ⟨b0,b1⟩ h1 h2=>by cases h1;cases h2;rfl) (O,Z)
end
@[go_sem] abbrev a7V:Nat×r5:=(115,⟨[.v,.v],aHn,[],[],none⟩)
def PA:rH Tryz.prog [sL,y8,D4] (rI [a67]):=⟨⟨sP,⟨z8,⟨ET,trivial⟩⟩⟩,qP aGZ rN,rK⟩
def aHo:r8 Tryz.prog a7V:=by
 refine rU PA Tryz.func115 (c:=_) rfl (N:=17) pW (ts:=[(4,none),(5,none)]) rfl (fun _ _=>rfl) ?_;intro⟨O,Z⟩ hs hrow;dsimp only[a7S,a7T,a7U,rM,qT,r6,rC,rO,Nat.reduceAdd] at hs hrow|-;have hz:=hs;obtain⟨z0,d⟩:=aUV.1 hz
 try rw[s7 d]
 clear hz hs;unfold IA at d;refine qC PA ?_;obtain⟨aA,hv1,hw1,d⟩:=qY d
 try simp only[go_sem] at hw1
 refine qC PA ?_ (hp:=by exact(qW hv1)) (h:=by simp only[go_sem,hw1];rfl);refine qQ ?_;refine qC PA ?_;refine qV d (fun d hc1=> ?_) (fun d hc1=> ?_)
 .refine qC PA ?_;refine qS (rG ?_);cases d;exact pH []
 .refine r9 (qM ?_);obtain⟨hg2,d⟩:=qI d;refine qC PA ?_ (hp:=by exact hg2);refine qS ?_;cases d;exact pH []
def K8 (O:pF) (Z:pF):Option (pF×Bool):=(MJ O Z).bind fun aA=>some ((aA.1,aA.2))
section
variable (O:pF) (Z:pF)
abbrev a7W:List qE:=[(.val .str O,none),(.val .str Z,none)]
abbrev a7X:List qD:=[]
@[go_sem] def a7Y:qK:=⟨[((K8 O Z)).isSome=true],[(.val .str ((val (K8 O Z)).1),none),(.val .bool ((val (K8 O Z)).2),none)],[]⟩
def aHp:List qE→List qD→Option qK:=rP (V:=(pF×pF)) (fun x=>a7W x.1 x.2) (fun x=>a7X) fun x=>a7Y x.1 x.2
@[go_sem] def aUi:aHp (no_index (a7W O Z)) (no_index a7X)=some (a7Y O Z):=rT (fun⟨a0,a1⟩ ⟨b0,b1⟩ h1 h2=>by cases h1;cases h2;rfl) (O,Z)
end
@[go_sem] abbrev aHq:Nat×r5:=(126,⟨[.v,.v],aHp,[],[],none⟩)
def a7Z:rH Tryz.prog [] (rI [aG1]):=⟨trivial,qP aO4 rN,rK⟩
def aPd:r8 Tryz.prog aHq:=by
 refine rU a7Z Tryz.func126 (c:=_) rfl (N:=11) pW (ts:=[(4,none),(5,none)]) rfl (fun _ _=>rfl) ?_;intro⟨O,Z⟩ hs hrow;dsimp only[a7W,a7X,a7Y,rM,qT,r6,rC,rO,Nat.reduceAdd] at hs hrow|-;have hz:=hs;obtain⟨z0,d⟩:=aUV.1 hz
 try rw[s7 d]
 clear hz hs;unfold K8 at d;refine qC a7Z ?_;obtain⟨aA,hv1,hw1,d⟩:=qY d
 try simp only[go_sem] at hw1
 refine qC a7Z ?_ (hp:=by exact(qW hv1)) (h:=by simp only[go_sem,hw1];rfl);refine qS ?_;cases d;exact pH []
def GF (O:(pO×Unit)) (Z:Int):Option (Int×pO):=(K6 O.1 Z).bind fun aA=>if qG ((aA.length:Int)- (O.1.length:Int)) then some ((((aA.length:Int)- (O.1.length:Int)),aA)) else none
section
variable (O:Int) (Z:(pO×Unit)) (aA:Nat)
abbrev a71:List qE:=[(.val .ref (some (0,0)),none),(.val (.int .i32) O,none)]
abbrev a73:List qD:=[.cells wR ((some (0,0)),Z) [(1,1)],.grow 5 1 aA]
@[go_sem] def a74:qK:=⟨[aA=(Z.1.length),((GF Z O)).isSome=true],[(.val (.int .i64) ((val (GF Z O)).1),none),(.any,none)],[.cells wR ((some (0,0)),((val (GF Z O)).2,())) [(1,1)],.grow 5 1 (((val (GF Z O)).2).length)]⟩
def aHr:List qE→List qD→Option qK:=rP (V:=(Int×(pO×Unit)×Nat)) (fun x=>a71 x.1) (fun x=>a73 x.2.1 x.2.2) fun x=>a74 x.1 x.2.1 x.2.2
@[go_sem] def aUj:aHr (no_index (a71 O)) (no_index (a73 Z aA))=some (a74 O Z aA):=rT (fun⟨a0,a1,a2⟩ ⟨b0,b1,b2⟩ h1 h2=>by cases h1;cases h2;rfl) (O,Z,aA)
end
@[go_sem] abbrev aHs:Nat×r5:=(241,⟨[.p wR [1],.v],aHr,[],[],none⟩)
def PB:rH Tryz.prog [ES,HQ] (rI [JK,aG5]):=⟨⟨HP,⟨M5,trivial⟩⟩,qP SG (qP aO6 rN),rK⟩
def aPe:r8 Tryz.prog aHs:=by
 refine rU PB Tryz.func241 (c:=_) rfl (N:=30) pW (ts:=[(4,none),(5,none)]) rfl (fun _ _=>rfl) ?_;intro⟨O,Z,aA⟩ hs hrow;dsimp only[a71,a73,a74,rM,qT,r6,rC,rO,Nat.reduceAdd] at hs hrow|-;obtain⟨rfl,hz⟩:=hs;obtain⟨z0,d⟩:=aUV.1 hz
 try rw[s7 d]
 clear hz;unfold GF at d;refine qC PB ?_;refine qC PB ?_ (hp:=by first|rfl|trivial)
 refine qC PB ?_;obtain⟨aB,hv1,hw1,d⟩:=qY d
 try simp only[go_sem] at hw1
 refine qC PB ?_ (hp:=by exact⟨pV,(qW hv1)⟩) (h:=by simp only[go_sem,hw1];rfl)
 obtain⟨hg2,d⟩:=qI d;refine qC PB ?_ (hp:=by exact hg2);refine qS ?_;cases d;exact pH [(0,0),(1,1)]
def TK (O:pG):Int→Option (Int⊕(Unit⊕Int)):=fun Z=>if (decide (Z<(O.length:Int)))=true then if 0≤Z∧Z<(O.length:Int) then (TH (qR .str O Z)).bind fun aA=>if (!((decide (((qR .str O Z).length:Int)≤(4000:Int)))&&(Lib.validD (qR .str O Z))))=true then some (.inr (.inr (Z))) else if qG (Z+(1:Int)) then some (.inl (Z+(1:Int))) else none else none else some (.inr (.inl ()))
def PC (O:pG):Option Int:=uF (rQ (TK O) (0:Int)) fun _=>some ((-1:Int))
section
variable (O:pG)
abbrev a77:List qE:=[(.val (.list .str) O,none),(.val .clo (some (96,[])),none)]
abbrev a78:List qD:=[]
@[go_sem] def a79:qK:=⟨[((PC O)).isSome=true],[(.val (.int .i64) (val (PC O)),none)],[]⟩
def aHt:List qE→List qD→Option qK:=rP (V:=pG) (a77) (fun x=>a78) fun x=>a79 x
@[go_sem] def aUk:aHt (no_index (a77 O)) (no_index a78)=some (a79 O):=rT (fun a0 b0 h1 h2=>by cases h1;cases h2;rfl) O
end
@[go_sem] abbrev aHu:Nat×r5:=(137,⟨[.v,.v],aHt,[],[],none⟩)
def IB:rH Tryz.prog [sL,vY] (rI [aHk]):=⟨⟨sP,⟨wE,trivial⟩⟩,qP aPb rN,rK⟩
def aPf:r8 Tryz.prog aHu:=by
 refine rU IB Tryz.func137 (c:=_) rfl (N:=19) pW (ts:=[(4,none)]) rfl (fun _ _=>rfl) ?_;intro O hs hrow;dsimp only[a77,a78,a79,rM,qT,r6,rC,rO,Nat.reduceAdd] at hs hrow|-;have hz:=hs;obtain⟨z0,d⟩:=aUV.1 hz
 try rw[s7 d]
 clear hz hs;unfold PC at d;refine qC IB ?_;refine qQ ?_;refine qC IB ?_;refine rS ?_;obtain⟨y1,hy1,d⟩:=vF d;refine uA 0 (fun s=> ∃v,y1= .inl v∧s=(fun _=>⟨[],[],0,19,0⟩) v) ?_ ?_
 .refine tZ hy1 (fun x=>⟨[(0,(.val (.list .str) O,none)),(1,(.val .clo (some (96,[])),none)),(7,(.val (.int .i64) (O.length:Int),none)),(8,(.val (.int .i64) x,none))],[],0,19,0⟩) ⟨[0,1,7,8],[]⟩ pX ?_;intro Z w1 n1 e f;unfold TK at e;dsimp only at e|-;refine qC IB ?_;refine qQ ?_;refine qV e (fun e hc1=> ?_) (fun e hc1=> ?_)
  .refine r9 (qM (qQ (rS ?_)));refine qC IB ?_;obtain⟨hg1,e⟩:=qI e;obtain⟨aA,hv2,hw2,e⟩:=qY e
   try simp only[go_sem] at hw2
   refine qC IB ?_ (hp:=by exact⟨hg1,(qW hv2)⟩) (h:=by simp only[go_sem,hw2];rfl);refine qV e (fun e hc2=> ?_) (fun e hc2=> ?_)
   .refine qC IB ?_;refine qS (rY (rG (vE (vM (rY (rG ?_))))));cases e;cases f;dsimp only at d;cases d;exact pH []
   .refine r9 (rW (qM ?_));obtain⟨hg3,e⟩:=qI e;refine rF IB ?_ (hp:=by exact hg3);cases e;exact sX ⟨⟨[0,1,7,8],[]⟩,_,by rfl,f⟩
  .refine tV (tU (tX ?_));cases e;cases f;exact tW ⟨⟨[],[]⟩,_,rfl,by rfl⟩
 .rintro _ ⟨v,rfl,rfl⟩;dsimp only at d|-;refine u7 (qM ?_);refine qC IB ?_;refine qS ?_;cases d;exact pH []
def C8 (O:pG):Option Bool:=(PC O).bind fun Z=>some ((decide ((0:Int)≤Z)))
section
variable (O:pG)
abbrev a8a:List qE:=[(.val (.list .str) O,none),(.val .clo (some (96,[])),none)]
abbrev a8b:List qD:=[]
@[go_sem] def a8c:qK:=⟨[((C8 O)).isSome=true],[(.val .bool (val (C8 O)),none)],[]⟩
def aHv:List qE→List qD→Option qK:=rP (V:=pG) (a8a) (fun x=>a8b) fun x=>a8c x
@[go_sem] def aUl:aHv (no_index (a8a O)) (no_index a8b)=some (a8c O):=rT (fun a0 b0 h1 h2=>by cases h1;cases h2;rfl) O
end
@[go_sem] abbrev aHw:Nat×r5:=(95,⟨[.v,.v],aHv,[],[],none⟩)
def a8d:rH Tryz.prog [] (rI [aHu]):=⟨trivial,qP aPf rN,rK⟩
def aPg:r8 Tryz.prog aHw:=by
 refine rU a8d Tryz.func95 (c:=_) rfl (N:=9) pW (ts:=[(4,none)]) rfl (fun _ _=>rfl) ?_;intro O hs hrow;dsimp only[a8a,a8b,a8c,rM,qT,r6,rC,rO,Nat.reduceAdd] at hs hrow|-;have hz:=hs;obtain⟨z0,d⟩:=aUV.1 hz
 try rw[s7 d]
 clear hz hs;unfold C8 at d;refine qC a8d ?_;obtain⟨Z,hv1,hw1,d⟩:=qY d
 try simp only[go_sem] at hw1
 refine qC a8d ?_ (hp:=by exact(qW hv1)) (h:=by simp only[go_sem,hw1];rfl);refine qS ?_;cases d;exact pH []
attribute [irreducible] ML IA K8 GF PC C8
end
noncomputable section
def GG (O:pF):Option Unit:=if (((decide ((O.length:Int)≤(4000:Int)))==true)=true→((vG O)).isSome=true) then some (()) else none
section
variable (O:pF)
abbrev a8e:List qE:=[(.val .str O,none)]
abbrev a8f:List qD:=[]
@[go_sem] def a8g:qK:=⟨[((GG O)).isSome=true],[(.val .bool ((decide ((O.length:Int)≤(4000:Int)))&&(val (vG O))),none)],[]⟩
def aHx:List qE→List qD→Option qK:=rP (V:=pF) (a8e) (fun x=>a8f) fun x=>a8g x
@[go_sem] def aUm:aHx (no_index (a8e O)) (no_index a8f)=some (a8g O):=rT (fun a0 b0 h1 h2=>by cases h1;cases h2;rfl) O
end
@[go_sem] abbrev YG:Nat×r5:=(45,⟨[.v],aHx,[],[],none⟩)
def a8h:rH Tryz.prog [sL] (rI [aHi]):=⟨⟨sP,trivial⟩,qP aPa rN,rK⟩
def a8i:r8 Tryz.prog YG:=by
 refine rU a8h Tryz.func45 (c:=_) rfl (N:=10) pW (ts:=[(2,none)]) rfl (fun _ _=>rfl) ?_;intro O hs hrow;dsimp only[a8e,a8f,a8g,rM,qT,r6,rC,rO,Nat.reduceAdd] at hs hrow|-;have hz:=hs;obtain⟨z0,e⟩:=aUV.1 hz
 try rw[s7 e]
 clear hz hs;unfold GG at e;refine qC a8h ?_;obtain⟨hg1,e⟩:=qI e;refine qC a8h ?_ (hp:=by exact⟨id,hg1,sI⟩);refine qS ?_;cases e;exact pH []
def TL (O:pG):Int→Option (Int⊕(Unit⊕Bool)):=fun Z=>if (decide (Z<(O.length:Int)))=true then if 0≤Z∧Z<(O.length:Int) then (GG (qR .str O Z)).bind fun aA=>if (!((decide (((qR .str O Z).length:Int)≤(4000:Int)))&&(val (vG (qR .str O Z)))))=true then some (.inr (.inr (false))) else if qG (Z+(1:Int)) then some (.inl (Z+(1:Int))) else none else none else some (.inr (.inl ()))
def E3 (O:pG):Option Bool:=uF (rQ (TL O) (0:Int)) fun _=>some ((decide ((O.length:Int)≤(20:Int))))
section
variable (O:pG)
abbrev a8j:List qE:=[(.val (.list .str) O,none)]
abbrev a8k:List qD:=[]
@[go_sem] def a8l:qK:=⟨[((E3 O)).isSome=true],[(.val .bool (val (E3 O)),none)],[]⟩
def aHy:List qE→List qD→Option qK:=rP (V:=pG) (a8j) (fun x=>a8k) fun x=>a8l x
@[go_sem] def aUn:aHy (no_index (a8j O)) (no_index a8k)=some (a8l O):=rT (fun a0 b0 h1 h2=>by cases h1;cases h2;rfl) O
end
@[go_sem] abbrev aHz:Nat×r5:=(46,⟨[.v],aHy,[],[],none⟩)
def K9:rH Tryz.prog [sL,vY] (rI [YG]):=⟨⟨sP,⟨wE,trivial⟩⟩,qP a8i rN,rK⟩
def aPh:r8 Tryz.prog aHz:=by
 refine rU K9 Tryz.func46 (c:=_) rfl (N:=19) pW (ts:=[(2,none)]) rfl (fun _ _=>rfl) ?_;intro O hs hrow;dsimp only[a8j,a8k,a8l,rM,qT,r6,rC,rO,Nat.reduceAdd] at hs hrow|-;have hz:=hs;obtain⟨z0,e⟩:=aUV.1 hz
 try rw[s7 e]
 clear hz hs;unfold E3 at e;refine qC K9 ?_;refine qQ ?_;refine qC K9 ?_;refine rS ?_;obtain⟨y1,hy1,e⟩:=vF e;refine uA 0 (fun s=> ∃v,y1= .inl v∧s=(fun _=>⟨[(0,(.val (.list .str) O,none))],[],0,19,0⟩) v) ?_ ?_
 .refine tZ hy1 (fun x=>⟨[(0,(.val (.list .str) O,none)),(3,(.val (.int .i64) x,none))],[],0,19,0⟩) ⟨[0,3],[]⟩ pX ?_;intro Z w1 n1 f g;unfold TL at f;dsimp only at f|-;refine qQ ?_;refine qC K9 ?_;refine qV f (fun f hc1=> ?_) (fun f hc1=> ?_)
  .refine r9 (qM (qQ (rS ?_)));obtain⟨hg1,f⟩:=qI f;obtain⟨aA,hv2,hw2,f⟩:=qY f
   try simp only[go_sem] at hw2
   refine qC K9 ?_ (hp:=by exact⟨hg1,(qW hv2)⟩) (h:=by simp only[go_sem,hw2];rfl);refine qV f (fun f hc2=> ?_) (fun f hc2=> ?_)
   .refine qC K9 ?_;refine qS (rY (rG (vE (vM (rY (rG ?_))))));cases f;cases g;dsimp only at e;cases e;exact pH []
   .refine r9 (rW (qM ?_));obtain⟨hg3,f⟩:=qI f;refine rF K9 ?_ (hp:=by exact hg3);cases f;exact sX ⟨⟨[0,3],[]⟩,_,by rfl,g⟩
  .refine tV (tU (tX ?_));cases f;cases g;exact tW ⟨⟨[0],[]⟩,_,rfl,by rfl⟩
 .rintro _ ⟨v,rfl,rfl⟩;dsimp only at e|-;refine u7 (qM ?_);refine qC K9 ?_;refine qS ?_;cases e;exact pH []
def TM (O:(List r7)):Int→Option (Int⊕(Unit⊕Bool)):=fun Z=>if (decide (Z<(O.length:Int)))=true then if 0≤Z∧Z<(O.length:Int) then (K2 ((qR (.pair .str (.pair .str .unit)) O Z).1)).bind fun aA=>if (((!aA)==false)=true→0≤Z∧Z<(O.length:Int)) then if (((!aA)==false)=true→((GG ((qR (.pair .str (.pair .str .unit)) O Z).2.1))).isSome=true) then if (((((!aA)||(!((decide ((((qR (.pair .str (.pair .str .unit)) O Z).2.1).length:Int)≤(4000:Int)))&&(val (vG ((qR (.pair .str (.pair .str .unit)) O Z).2.1))))))==false)&&((decide ((0:Int)<Z))==true))=true→0≤Z∧Z<(O.length:Int)) then if (((((!aA)||(!((decide ((((qR (.pair .str (.pair .str .unit)) O Z).2.1).length:Int)≤(4000:Int)))&&(val (vG ((qR (.pair .str (.pair .str .unit)) O Z).2.1))))))==false)&&((decide ((0:Int)<Z))==true))=true→qG (Z- (1:Int))) then if (((((!aA)||(!((decide ((((qR (.pair .str (.pair .str .unit)) O Z).2.1).length:Int)≤(4000:Int)))&&(val (vG ((qR (.pair .str (.pair .str .unit)) O Z).2.1))))))==false)&&((decide ((0:Int)<Z))==true))=true→0≤(Z- (1:Int))∧(Z- (1:Int))<(O.length:Int)) then if (((!aA)||(!((decide ((((qR (.pair .str (.pair .str .unit)) O Z).2.1).length:Int)≤(4000:Int)))&&(val (vG ((qR (.pair .str (.pair .str .unit)) O Z).2.1))))))||((decide ((0:Int)<Z))&&(Op.bytesLess (qR (.pair .str (.pair .str .unit)) O Z).1 (qR (.pair .str (.pair .str .unit)) O (Z- (1:Int))).1||decide ((qR (.pair .str (.pair .str .unit)) O Z).1=(qR (.pair .str (.pair .str .unit)) O (Z- (1:Int))).1))))=true then some (.inr (.inr (false))) else if qG (Z+(1:Int)) then some (.inl (Z+(1:Int))) else none else none else none else none else none else none else none else some (.inr (.inl ()))
def GH (O:(List r7)):Option Bool:=uF (rQ (TM O) (0:Int)) fun _=>some ((decide ((O.length:Int)≤(20:Int))))
section
variable (O:(List r7))
abbrev a8m:List qE:=[(.val (.list (.pair .str (.pair .str .unit))) O,none)]
abbrev a8n:List qD:=[]
@[go_sem] def a8o:qK:=⟨[((GH O)).isSome=true],[(.val .bool (val (GH O)),none)],[]⟩
def aHA:List qE→List qD→Option qK:=rP (V:=(List r7)) (a8m) (fun x=>a8n) fun x=>a8o x
@[go_sem] def aUo:aHA (no_index (a8m O)) (no_index a8n)=some (a8o O):=rT (fun a0 b0 h1 h2=>by cases h1;cases h2;rfl) O
end
@[go_sem] abbrev aHB:Nat×r5:=(48,⟨[.v],aHA,[],[],none⟩)
def KA:rH Tryz.prog [sL,y8,D4] (rI [a6I,YG]):=⟨⟨sP,⟨z8,⟨ET,trivial⟩⟩⟩,qP aGM (qP a8i rN),rK⟩
def aPi:r8 Tryz.prog aHB:=by
 refine rU KA Tryz.func48 (c:=_) rfl (N:=47) pW (ts:=[(2,none)]) rfl (fun _ _=>rfl) ?_;intro O hs hrow;dsimp only[a8m,a8n,a8o,rM,qT,r6,rC,rO,Nat.reduceAdd] at hs hrow|-;have hz:=hs;obtain⟨z0,e⟩:=aUV.1 hz
 try rw[s7 e]
 clear hz hs;unfold GH at e;refine qC KA ?_;refine qQ ?_;refine qC KA ?_;refine rS ?_;obtain⟨y1,hy1,e⟩:=vF e;refine uA 0 (fun s=> ∃v,y1= .inl v∧s=(fun _=>⟨[(0,(.val (.list (.pair .str (.pair .str .unit))) O,none))],[],0,47,0⟩) v) ?_ ?_
 .refine tZ hy1 (fun x=>⟨[(0,(.val (.list (.pair .str (.pair .str .unit))) O,none)),(3,(.val (.int .i64) x,none))],[],0,47,0⟩) ⟨[0,3],[]⟩ pX ?_;intro Z w1 n1 f g;unfold TM at f;dsimp only at f|-;refine qQ ?_;refine qC KA ?_;refine qV f (fun f hc1=> ?_) (fun f hc1=> ?_)
  .refine r9 (qM (qQ (rS ?_)));obtain⟨hg1,f⟩:=qI f;obtain⟨aA,hv2,hw2,f⟩:=qY f
   try simp only[go_sem] at hw2
   obtain⟨hg3,f⟩:=qI f;obtain⟨hg4,f⟩:=qI f;obtain⟨hg5,f⟩:=qI f;obtain⟨hg6,f⟩:=qI f;obtain⟨hg7,f⟩:=qI f;refine vN KA ?_ (hp:=by exact⟨hg1,qW hv2,id,id,hg3,id,id,id,hg4,id,sQ,id,id,id,id,hg5,id,id,id,hg6,id,id,hg7,id,id,id,id,id,fun hG d=>O9 hG d,sQ⟩) (h:=by simp only[go_sem,hw2];rfl);refine qV f (fun f hc2=> ?_) (fun f hc2=> ?_)
   .refine qC KA ?_;refine qS (rY (rG (vE (vM (rY (rG ?_))))));cases f;cases g;dsimp only at e;cases e;exact pH []
   .refine r9 (rW (qM ?_));obtain⟨hg8,f⟩:=qI f;refine rF KA ?_ (hp:=by exact hg8);cases f;exact sX ⟨⟨[0,3],[]⟩,_,by rfl,g⟩
  .refine tV (tU (tX ?_));cases f;cases g;exact tW ⟨⟨[0],[]⟩,_,rfl,by rfl⟩
 .rintro _ ⟨v,rfl,rfl⟩;dsimp only at e|-;refine u7 (qM ?_);refine qC KA ?_;refine qS ?_;cases e;exact pH []
def MM (O:pG):Option Unit:=if (((decide ((O.length:Int)≤(20:Int)))==true)=true→((C8 O)).isSome=true) then some (()) else none
section
variable (O:pG)
abbrev a8p:List qE:=[(.val (.list .str) O,none)]
abbrev a8q:List qD:=[]
@[go_sem] def a8r:qK:=⟨[((MM O)).isSome=true],[(.val .bool ((decide ((O.length:Int)≤(20:Int)))&&(!(val (C8 O)))),none)],[]⟩
def aHC:List qE→List qD→Option qK:=rP (V:=pG) (a8p) (fun x=>a8q) fun x=>a8r x
@[go_sem] def aUp:aHC (no_index (a8p O)) (no_index a8q)=some (a8r O):=rT (fun a0 b0 h1 h2=>by cases h1;cases h2;rfl) O
end
@[go_sem] abbrev a8s:Nat×r5:=(64,⟨[.v],aHC,[],[],none⟩)
def a8t:rH Tryz.prog [vY] (rI [aHw]):=⟨⟨wE,trivial⟩,qP aPg rN,rK⟩
def aHD:r8 Tryz.prog a8s:=by
 refine rU a8t Tryz.func64 (c:=_) rfl (N:=11) pW (ts:=[(2,none)]) rfl (fun _ _=>rfl) ?_;intro O hs hrow;dsimp only[a8p,a8q,a8r,rM,qT,r6,rC,rO,Nat.reduceAdd] at hs hrow|-;have hz:=hs;obtain⟨z0,e⟩:=aUV.1 hz
 try rw[s7 e]
 clear hz hs;unfold MM at e;refine qC a8t ?_;obtain⟨hg1,e⟩:=qI e;refine qC a8t ?_ (hp:=by exact⟨id,hg1,id,sI⟩);refine qS ?_;cases e;exact pH []
def KB (O:s8):Option Bool:=if ((((decide (O.1=([]:pF)))||(decide ((200:Int)<(O.1.length:Int))))==false)=true→((F4 O.1)).isSome=true) then if (((((decide (O.1=([]:pF)))||(decide ((200:Int)<(O.1.length:Int))))||(!((decide ((O.1.length:Int)≤(4000:Int)))&&(Lib.validD O.1))))||(decide (O.2.2.2.2.2.1<(0:Int))))||(decide ((4:Int)<O.2.2.2.2.2.1)))=true then some (false) else (F4 O.2.1).bind fun Z=>if ((((decide ((O.2.1.length:Int)≤(4000:Int)))&&(Lib.validD O.2.1))==true)=true→((F4 O.2.2.1)).isSome=true) then if (((((decide ((O.2.1.length:Int)≤(4000:Int)))&&(Lib.validD O.2.1))&&((decide ((O.2.2.1.length:Int)≤(4000:Int)))&&(Lib.validD O.2.2.1)))==true)=true→((MM O.2.2.2.1)).isSome=true) then if ((((((decide ((O.2.1.length:Int)≤(4000:Int)))&&(Lib.validD O.2.1))&&((decide ((O.2.2.1.length:Int)≤(4000:Int)))&&(Lib.validD O.2.2.1)))&&((decide ((O.2.2.2.1.length:Int)≤(20:Int)))&&(!(val (C8 O.2.2.2.1)))))==true)=true→((HU O.2.2.2.2.1)).isSome=true) then if (((((((decide ((O.2.1.length:Int)≤(4000:Int)))&&(Lib.validD O.2.1))&&((decide ((O.2.2.1.length:Int)≤(4000:Int)))&&(Lib.validD O.2.2.1)))&&((decide ((O.2.2.2.1.length:Int)≤(20:Int)))&&(!(val (C8 O.2.2.2.1)))))&&(val (HU O.2.2.2.2.1)))==true)=true→((GE O.2.2.2.2.2.2.1)).isSome=true) then some (((((((decide ((O.2.1.length:Int)≤(4000:Int)))&&(Lib.validD O.2.1))&&((decide ((O.2.2.1.length:Int)≤(4000:Int)))&&(Lib.validD O.2.2.1)))&&((decide ((O.2.2.2.1.length:Int)≤(20:Int)))&&(!(val (C8 O.2.2.2.1)))))&&(val (HU O.2.2.2.2.1)))&&(val (GE O.2.2.2.2.2.2.1)))) else none else none else none else none else none
section
variable (O:s8)
abbrev a8u:List qE:=[(.val sN O,none)]
abbrev a8v:List qD:=[]
@[go_sem] def a8w:qK:=⟨[((KB O)).isSome=true],[(.val .bool (val (KB O)),none)],[]⟩
def aHE:List qE→List qD→Option qK:=rP (V:=s8) (a8u) (fun x=>a8v) fun x=>a8w x
@[go_sem] def aUq:aHE (no_index (a8u O)) (no_index a8v)=some (a8w O):=rT (fun a0 b0 h1 h2=>by cases h1;cases h2;rfl) O
end
@[go_sem] abbrev aHF:Nat×r5:=(66,⟨[.v],aHE,[],[],none⟩)
def TN:rH Tryz.prog [wD,sL,vY,y8,xI] (rI [T6,a8s,aFq,a7G]):=⟨⟨wS,⟨sP,⟨wE,⟨z8,⟨y7,trivial⟩⟩⟩⟩⟩,qP YE (qP aHD (qP aOx (qP aHg rN))),rK⟩
def aPj:r8 Tryz.prog aHF:=by
 refine rU TN Tryz.func66 (c:=_) rfl (N:=51) pW (ts:=[(2,none)]) rfl (fun _ _=>rfl) ?_;intro O hs hrow;dsimp only[a8u,a8v,a8w,rM,qT,r6,rC,rO,Nat.reduceAdd] at hs hrow|-;have hz:=hs;obtain⟨z0,e⟩:=aUV.1 hz
 try rw[s7 e]
 clear hz hs;unfold KB at e;refine qC TN ?_;refine qQ ?_;obtain⟨hg1,e⟩:=qI e;refine qC TN ?_ (hp:=by exact⟨id,id,id,sQ,id,id,hg1,id,sQ,id,id,sQ,id,id,sQ⟩);refine qV e (fun e hc1=> ?_) (fun e hc1=> ?_)
 .refine qC TN ?_;refine qS (rG ?_);cases e;exact pH []
 .refine r9 (qM ?_);obtain⟨Z,hv2,hw2,e⟩:=qY e
  try simp only[go_sem] at hw2
  obtain⟨hg3,e⟩:=qI e;obtain⟨hg4,e⟩:=qI e;obtain⟨hg5,e⟩:=qI e;obtain⟨hg6,e⟩:=qI e;refine qC TN ?_ (hp:=by exact⟨qW hv2,id,id,hg3,sI,id,id,hg4,sI,id,id,hg5,sI,id,id,hg6,sI⟩) (h:=by simp only[go_sem,hw2];rfl);refine qS ?_;cases e;exact pH []
def KC (O:pF):Option pF:=(ML (4:Int) O).bind fun Z=>some (Z)
section
variable (O:pF)
abbrev a8x:List qE:=[(.val .str O,none)]
abbrev a8y:List qD:=[]
@[go_sem] def a8z:qK:=⟨[((KC O)).isSome=true],[(.val .str (val (KC O)),none)],[]⟩
def aHG:List qE→List qD→Option qK:=rP (V:=pF) (a8x) (fun x=>a8y) fun x=>a8z x
@[go_sem] def aUr:aHG (no_index (a8x O)) (no_index a8y)=some (a8z O):=rT (fun a0 b0 h1 h2=>by cases h1;cases h2;rfl) O
end
@[go_sem] abbrev a8A:Nat×r5:=(68,⟨[.v],aHG,[],[],none⟩)
def a8B:rH Tryz.prog [] (rI [aHm]):=⟨trivial,qP aPc rN,rK⟩
def aHH:r8 Tryz.prog a8A:=by
 refine rU a8B Tryz.func68 (c:=_) rfl (N:=5) pW (ts:=[(2,none)]) rfl (fun _ _=>rfl) ?_;intro O hs hrow;dsimp only[a8x,a8y,a8z,rM,qT,r6,rC,rO,Nat.reduceAdd] at hs hrow|-;have hz:=hs;obtain⟨z0,e⟩:=aUV.1 hz
 try rw[s7 e]
 clear hz hs;unfold KC at e;refine qC a8B ?_;obtain⟨Z,hv1,hw1,e⟩:=qY e
 try simp only[go_sem] at hw1
 refine qC a8B ?_ (hp:=by exact(qW hv1)) (h:=by simp only[go_sem,hw1];rfl);refine qS ?_;cases e;exact pH []
attribute [irreducible] GG E3 GH MM KB KC
end
noncomputable section
def TO (O:pO):(Int×pO)→Option ((Int×pO)⊕pO):=fun(Z,aA)=>if (decide (Z<(O.length:Int)))=true then if 0≤Z∧Z<(O.length:Int) then if (!(((decide ((0:Int)≤(qR (.int .i64) O Z)))&&(decide ((qR (.int .i64) O Z)≤(1114111:Int))))&&((decide ((qR (.int .i64) O Z)<(55296:Int)))||(decide ((57343:Int)<(qR (.int .i64) O Z))))))=true then (GF (aA,()) (IntKind.wrap .i32 (65533:Int))).bind fun aB=>if qG (Z+(1:Int)) then some (.inl ((Z+(1:Int)),aB.2)) else none else (GF (aA,()) (IntKind.wrap .i32 (qR (.int .i64) O Z))).bind fun aC=>if qG (Z+(1:Int)) then some (.inl ((Z+(1:Int)),aC.2)) else none else none else some (.inr aA)
def PD (O:pO):Option pF:=sU (rQ (TO O) ((0:Int),([]:pO))) fun Z=>some ((uC Z))
section
variable (O:pO)
abbrev a8C:List qE:=[(.val (.list (.int .i64)) O,none)]
abbrev a8D:List qD:=[]
@[go_sem] def a8E:qK:=⟨[((PD O)).isSome=true],[(.val .str (val (PD O)),none)],[]⟩
def aHI:List qE→List qD→Option qK:=rP (V:=pO) (a8C) (fun x=>a8D) fun x=>a8E x
@[go_sem] def aUs:aHI (no_index (a8C O)) (no_index a8D)=some (a8E O):=rT (fun a0 b0 h1 h2=>by cases h1;cases h2;rfl) O
end
@[go_sem] abbrev aHJ:Nat×r5:=(235,⟨[.v],aHI,[],[],none⟩)
def D9:rH Tryz.prog [wD,SJ,EW,HQ] (rI [aGd,aHs,HM]):=⟨⟨wS,⟨a3a,⟨HS,⟨M5,trivial⟩⟩⟩⟩,qP aOM (qP aPe (qP OF rN)),rK⟩
def aPk:r8 Tryz.prog aHJ:=by
 refine rU D9 Tryz.func235 (c:=_) rfl (N:=20) pW (ts:=[(2,none)]) rfl (fun _ _=>rfl) ?_;intro O hs hrow;dsimp only[a8C,a8D,a8E,rM,qT,r6,rC,rO,Nat.reduceAdd] at hs hrow|-;have hz:=hs;obtain⟨z0,e⟩:=aUV.1 hz
 try rw[s7 e]
 clear hz hs;unfold PD at e;refine qC D9 ?_;refine qC D9 ?_;refine qQ ?_;refine qC D9 ?_;refine rS ?_;obtain⟨Z,hy1,e⟩:=qO e;refine uA 0 (fun s=>s=(fun x=>⟨[(3,(.val .ref (some (0,0)),none))],[(0,.cells wR ((some (0,0)),(x,())) [(1,1)]),(1,.grow 5 1 (x.length))],2,20,0⟩) Z) ?_ ?_
 .refine tZ hy1 (fun x=>⟨[(3,(.val .ref (some (0,0)),none)),(6,(.val (.list (.int .i64)) O,none)),(7,(.val (.int .i64) (O.length:Int),none)),(8,(.val (.int .i64) x.1,none))],[(0,.cells wR ((some (0,0)),(x.2,())) [(1,1)]),(1,.grow 5 1 (x.2.length))],2,20,0⟩) ⟨[3,6,7,8],[(0,32),(1,33)]⟩ pX ?_;intro x1 w1 n1 f g;obtain⟨aA,aB⟩:=x1;unfold TO at f;dsimp only at f|-;refine qC D9 ?_;refine qQ ?_;refine qV f (fun f hc1=> ?_) (fun f hc1=> ?_)
  .refine r9 (qM (qQ (rS ?_)));obtain⟨hg1,f⟩:=qI f;refine qC D9 ?_ (hp:=by exact hg1);refine qQ ?_;refine qC D9 ?_;refine qV f (fun f hc2=> ?_) (fun f hc2=> ?_)
   .refine rF D9 ?_;refine qM ?_;obtain⟨aC,hv2,hw2,f⟩:=qY f
    try simp only[go_sem] at hw2
    refine rF D9 ?_ (hp:=by exact⟨pV,(qW hv2)⟩) (h:=by simp only[go_sem,hw2];rfl)
    refine rW (qM ?_);obtain⟨hg3,f⟩:=qI f;refine rF D9 ?_ (hp:=by exact hg3);cases f;exact sX ⟨⟨[3,6,7,8],[(0,0),(1,1)]⟩,_,by rfl,g⟩
   .refine r9 (qM ?_);obtain⟨aD,hv4,hw4,f⟩:=qY f
    try simp only[go_sem] at hw4
    refine rF D9 ?_ (hp:=by exact⟨pV,(qW hv4)⟩) (h:=by simp only[go_sem,hw4];rfl)
    refine rW (qM ?_);obtain⟨hg5,f⟩:=qI f;refine rF D9 ?_ (hp:=by exact hg5);cases f;exact sX ⟨⟨[3,6,7,8],[(0,0),(1,1)]⟩,_,by rfl,g⟩
  .refine tV (tU (tX ?_));cases f;cases g;exact tW ⟨⟨[3],[(0,0),(1,1)]⟩,by rfl⟩
 .rintro _ rfl;dsimp only at e|-;refine u7 (qM ?_);refine qC D9 ?_ (hp:=by first|rfl|trivial)
  refine qS ?_;cases e;exact pH []
def PE (O:s8):Option Unit:=if ((((!decide (O.1=([]:pF)))&&(decide ((O.1.length:Int)≤(200:Int))))==true)=true→((GG O.1)).isSome=true) then if (((((!decide (O.1=([]:pF)))&&(decide ((O.1.length:Int)≤(200:Int))))&&((decide ((O.1.length:Int)≤(4000:Int)))&&(val (vG O.1))))==true)=true→((GG O.2.1)).isSome=true) then if ((((((!decide (O.1=([]:pF)))&&(decide ((O.1.length:Int)≤(200:Int))))&&((decide ((O.1.length:Int)≤(4000:Int)))&&(val (vG O.1))))&&((decide ((O.2.1.length:Int)≤(4000:Int)))&&(val (vG O.2.1))))==true)=true→((GG O.2.2.1)).isSome=true) then if (((((((!decide (O.1=([]:pF)))&&(decide ((O.1.length:Int)≤(200:Int))))&&((decide ((O.1.length:Int)≤(4000:Int)))&&(val (vG O.1))))&&((decide ((O.2.1.length:Int)≤(4000:Int)))&&(val (vG O.2.1))))&&((decide ((O.2.2.1.length:Int)≤(4000:Int)))&&(val (vG O.2.2.1))))==true)=true→((E3 O.2.2.2.1)).isSome=true) then if ((((((((!decide (O.1=([]:pF)))&&(decide ((O.1.length:Int)≤(200:Int))))&&((decide ((O.1.length:Int)≤(4000:Int)))&&(val (vG O.1))))&&((decide ((O.2.1.length:Int)≤(4000:Int)))&&(val (vG O.2.1))))&&((decide ((O.2.2.1.length:Int)≤(4000:Int)))&&(val (vG O.2.2.1))))&&(val (E3 O.2.2.2.1)))==true)=true→((F8 O.2.2.2.2.1)).isSome=true) then if (((((((((((!decide (O.1=([]:pF)))&&(decide ((O.1.length:Int)≤(200:Int))))&&((decide ((O.1.length:Int)≤(4000:Int)))&&(val (vG O.1))))&&((decide ((O.2.1.length:Int)≤(4000:Int)))&&(val (vG O.2.1))))&&((decide ((O.2.2.1.length:Int)≤(4000:Int)))&&(val (vG O.2.2.1))))&&(val (E3 O.2.2.2.1)))&&(val (F8 O.2.2.2.2.1)))&&(decide ((0:Int)≤O.2.2.2.2.2.1)))&&(decide (O.2.2.2.2.2.1≤(4:Int))))==true)=true→((GH O.2.2.2.2.2.2.1)).isSome=true) then some (()) else none else none else none else none else none else none
section
variable (O:s8)
abbrev a8F:List qE:=[(.val sN O,none)]
abbrev a8G:List qD:=[]
@[go_sem] def a8H:qK:=⟨[((PE O)).isSome=true],[(.val .bool ((((((((((!decide (O.1=([]:pF)))&&(decide ((O.1.length:Int)≤(200:Int))))&&((decide ((O.1.length:Int)≤(4000:Int)))&&(val (vG O.1))))&&((decide ((O.2.1.length:Int)≤(4000:Int)))&&(val (vG O.2.1))))&&((decide ((O.2.2.1.length:Int)≤(4000:Int)))&&(val (vG O.2.2.1))))&&(val (E3 O.2.2.2.1)))&&(val (F8 O.2.2.2.2.1)))&&(decide ((0:Int)≤O.2.2.2.2.2.1)))&&(decide (O.2.2.2.2.2.1≤(4:Int))))&&(val (GH O.2.2.2.2.2.2.1))),none)],[]⟩
def aHK:List qE→List qD→Option qK:=rP (V:=s8) (a8F) (fun x=>a8G) fun x=>a8H x
@[go_sem] def aUt:aHK (no_index (a8F O)) (no_index a8G)=some (a8H O):=rT (fun a0 b0 h1 h2=>by cases h1;cases h2;rfl) O
end
@[go_sem] abbrev a8I:Nat×r5:=(24,⟨[.v],aHK,[],[],none⟩)
def a8J:rH Tryz.prog [wD,sL,vY,y8,xI] (rI [YG,aHz,aHe,aHB]):=⟨⟨wS,⟨sP,⟨wE,⟨z8,⟨y7,trivial⟩⟩⟩⟩⟩,qP a8i (qP aPh (qP aO9 (qP aPi rN))),rK⟩
def aPl:r8 Tryz.prog a8I:=by
 refine rU a8J Tryz.func24 (c:=_) rfl (N:=52) pW (ts:=[(2,none)]) rfl (fun _ _=>rfl) ?_;intro O hs hrow;dsimp only[a8F,a8G,a8H,rM,qT,r6,rC,rO,Nat.reduceAdd] at hs hrow|-;have hz:=hs;obtain⟨z0,e⟩:=aUV.1 hz
 try rw[s7 e]
 clear hz hs;unfold PE at e;refine qC a8J ?_;obtain⟨hg1,e⟩:=qI e;obtain⟨hg2,e⟩:=qI e;obtain⟨hg3,e⟩:=qI e;obtain⟨hg4,e⟩:=qI e;obtain⟨hg5,e⟩:=qI e;obtain⟨hg6,e⟩:=qI e;refine qC a8J ?_ (hp:=by exact⟨id,id,id,sI,id,id,hg1,sI,id,id,hg2,sI,id,id,hg3,sI,id,id,hg4,sI,id,id,hg5,sI,id,id,sI,id,id,sI,id,id,hg6,sI⟩);refine qS ?_;cases e;exact pH []
def MN (O:sR):(Int×pM)→Option ((Int×pM)⊕(Unit⊕Bool)):=fun(Z,aA)=>if (decide (Z<(O.2.2.2.1.length:Int)))=true then if 0≤Z∧Z<(O.2.2.2.1.length:Int) then if (((s9 .str .bool aA ((qR sN O.2.2.2.1 Z).1))==false)=true→((KB (qR sN O.2.2.2.1 Z))).isSome=true) then if ((s9 .str .bool aA ((qR sN O.2.2.2.1 Z).1))||(!(val (KB (qR sN O.2.2.2.1 Z)))))=true then some (.inr (.inr (false))) else if qG (Z+(1:Int)) then some (.inl ((Z+(1:Int)),(tY .str .bool ((qR sN O.2.2.2.1 Z).1) true aA))) else none else none else none else some (.inr (.inl ()))
def MO (O:sR):Option Bool:=(EX O.1).bind fun Z=>if (((!Z)==false)=true→((MM O.2.1)).isSome=true) then if ((((!Z)||(!((decide ((O.2.1.length:Int)≤(20:Int)))&&(!(val (C8 O.2.1))))))==false)=true→((GE O.2.2.1)).isSome=true) then if ((((!Z)||(!((decide ((O.2.1.length:Int)≤(20:Int)))&&(!(val (C8 O.2.1))))))||(!(val (GE O.2.2.1))))||(decide ((1000:Int)<(O.2.2.2.1.length:Int))))=true then some (false) else uF (rQ (MN O) ((0:Int),([]:pM))) fun _=>some (true) else none else none
section
variable (O:sR)
abbrev a8K:List qE:=[(.val D0 O,none)]
abbrev a8L:List qD:=[]
@[go_sem] def a8M:qK:=⟨[((MO O)).isSome=true],[(.val .bool (val (MO O)),none)],[]⟩
def aHL:List qE→List qD→Option qK:=rP (V:=sR) (a8K) (fun x=>a8L) fun x=>a8M x
@[go_sem] def aUu:aHL (no_index (a8K O)) (no_index a8L)=some (a8M O):=rT (fun a0 b0 h1 h2=>by cases h1;cases h2;rfl) O
end
@[go_sem] abbrev aHM:Nat×r5:=(36,⟨[.v],aHL,[],[],none⟩)
def DA:rH Tryz.prog [BK,sL,vY,y8,G6,BJ,xI,JO] (rI [Y6,a8s,a7G,aHF]):=⟨⟨D7,⟨sP,⟨wE,⟨z8,⟨JM,⟨D3,⟨y7,⟨ON,trivial⟩⟩⟩⟩⟩⟩⟩⟩,qP a3Q (qP aHD (qP aHg (qP aPj rN))),rK⟩
def aPm:r8 Tryz.prog aHM:=by
 refine rU DA Tryz.func36 (c:=_) rfl (N:=49) pW (ts:=[(2,none)]) rfl (fun _ _=>rfl) ?_;intro O hs hrow;dsimp only[a8K,a8L,a8M,rM,qT,r6,rC,rO,Nat.reduceAdd] at hs hrow|-;have hz:=hs;obtain⟨z0,e⟩:=aUV.1 hz
 try rw[s7 e]
 clear hz hs;unfold MO at e;refine qC DA ?_;refine qQ ?_;obtain⟨Z,hv1,hw1,e⟩:=qY e
 try simp only[go_sem] at hw1
 obtain⟨hg2,e⟩:=qI e;obtain⟨hg3,e⟩:=qI e;refine qC DA ?_ (hp:=by exact⟨qW hv1,id,id,hg2,id,sQ,id,id,hg3,id,sQ,id,id,id,sQ⟩) (h:=by simp only[go_sem,hw1];rfl);refine qV e (fun e hc1=> ?_) (fun e hc1=> ?_)
 .refine qC DA ?_;refine qS (rG ?_);cases e;exact pH []
 .refine r9 (qM ?_);refine qC DA ?_;refine qQ ?_;refine qC DA ?_;refine rS ?_;obtain⟨y1,hy1,e⟩:=vF e;refine uA 0 (fun s=> ∃v,y1= .inl v∧s=(fun _=>⟨[],[],0,49,0⟩) v) ?_ ?_
  .refine tZ hy1 (fun x=>⟨[(3,(.val .mp (some 0),none)),(30,(.val (.list sN) O.2.2.2.1,none)),(31,(.val (.int .i64) (O.2.2.2.1.length:Int),none)),(32,(.val (.int .i64) x.1,none))],[(0,.map .str .bool x.2)],1,49,0⟩) ⟨[3,30,31,32],[(0,768)]⟩ pX ?_;intro x1 w1 n1 f g;obtain⟨aA,aB⟩:=x1;unfold MN at f;dsimp only at f|-;refine qC DA ?_;refine qQ ?_;refine qV f (fun f hc2=> ?_) (fun f hc2=> ?_)
   .refine r9 (qM (qQ (rS ?_)));obtain⟨hg4,f⟩:=qI f;refine qC DA ?_ (hp:=by exact hg4);refine qQ ?_;obtain⟨hg5,f⟩:=qI f;refine qC DA ?_ (hp:=by exact⟨id,hg5,id,sQ⟩);refine qV f (fun f hc3=> ?_) (fun f hc3=> ?_)
    .refine qC DA ?_;refine qS (rG (rY (rG (vE (vM (rY (rG ?_)))))));cases f;cases g;dsimp only at e;cases e;exact pH []
    .refine r9 (qM ?_);refine rF DA ?_;refine rW (qM ?_);obtain⟨hg6,f⟩:=qI f;refine rF DA ?_ (hp:=by exact hg6);cases f;exact sX ⟨⟨[3,30,31,32],[(0,0)]⟩,_,by rfl,g⟩
   .refine tV (tU (tX ?_));cases f;cases g;exact tW ⟨⟨[],[]⟩,_,rfl,by rfl⟩
  .rintro _ ⟨v,rfl,rfl⟩;dsimp only at e|-;refine u7 (qM ?_);refine qC DA ?_;refine qS ?_;cases e;exact pH []
def KD (O:Int):Option pF:=(PD ([O]:pO)).bind fun Z=>some (Z)
section
variable (O:Int)
abbrev a8N:List qE:=[(.val (.int .i64) O,none)]
abbrev a8O:List qD:=[]
@[go_sem] def a8P:qK:=⟨[((KD O)).isSome=true],[(.val .str (val (KD O)),none),(.val .bool ((decide (O≤(1114111:Int)))&&((decide (O<(55296:Int)))||(decide ((57343:Int)<O)))),none)],[]⟩
def aHN:List qE→List qD→Option qK:=rP (V:=Int) (a8N) (fun x=>a8O) fun x=>a8P x
@[go_sem] def aUv:aHN (no_index (a8N O)) (no_index a8O)=some (a8P O):=rT (fun a0 b0 h1 h2=>by cases h1;cases h2;rfl) O
end
@[go_sem] abbrev a8Q:Nat×r5:=(227,⟨[.v],aHN,[],[],none⟩)
def YH:rH Tryz.prog [EW] (rI [aHJ]):=⟨⟨HS,trivial⟩,qP aPk rN,rK⟩
def aHO:r8 Tryz.prog a8Q:=by
 refine rU YH Tryz.func227 (c:=_) rfl (N:=19) pW (ts:=[(2,none),(3,none)]) rfl (fun _ _=>rfl) ?_;intro O hs hrow;dsimp only[a8N,a8O,a8P,rM,qT,r6,rC,rO,Nat.reduceAdd] at hs hrow|-;have hz:=hs;obtain⟨z0,e⟩:=aUV.1 hz
 try rw[s7 e]
 clear hz hs;unfold KD at e;refine qC YH ?_;refine qC YH ?_ (hp:=by exact⟨id,id,id,id,fun hG d=>HK hG d,sI⟩);obtain⟨Z,hv1,hw1,e⟩:=qY e
 try simp only[go_sem] at hw1
 refine qC YH ?_ (hp:=by exact(qW hv1)) (h:=by simp only[go_sem,hw1];rfl);refine qS ?_;cases e;exact pH []
attribute [irreducible] PD PE MO KD
end
noncomputable section
def F9 (O:pF) (Z:pF) (aA:pF) (aB:pF):Option pF:=if ((([10]:pF)++O).length:Int)≤9223372036854775807 then if (((([10]:pF)++O)++([60]:pF)).length:Int)≤9223372036854775807 then if ((((([10]:pF)++O)++([60]:pF))++Z).length:Int)≤9223372036854775807 then if (((((([10]:pF)++O)++([60]:pF))++Z)++aA).length:Int)≤9223372036854775807 then if ((((((([10]:pF)++O)++([60]:pF))++Z)++aA)++([62]:pF)).length:Int)≤9223372036854775807 then (KC aB).bind fun aC=>if (((((((([10]:pF)++O)++([60]:pF))++Z)++aA)++([62]:pF))++aC).length:Int)≤9223372036854775807 then if ((((((((([10]:pF)++O)++([60]:pF))++Z)++aA)++([62]:pF))++aC)++([60,47]:pF)).length:Int)≤9223372036854775807 then if (((((((((([10]:pF)++O)++([60]:pF))++Z)++aA)++([62]:pF))++aC)++([60,47]:pF))++Z).length:Int)≤9223372036854775807 then if ((((((((((([10]:pF)++O)++([60]:pF))++Z)++aA)++([62]:pF))++aC)++([60,47]:pF))++Z)++([62]:pF)).length:Int)≤9223372036854775807 then some ((((((((((([10]:pF)++O)++([60]:pF))++Z)++aA)++([62]:pF))++aC)++([60,47]:pF))++Z)++([62]:pF))) else none else none else none else none else none else none else none else none else none
section
variable (O:pF) (Z:pF) (aA:pF) (aB:pF)
abbrev a8R:List qE:=[(.val .str O,none),(.val .str Z,none),(.val .str aA,none),(.val .str aB,none)]
abbrev a8S:List qD:=[]
@[go_sem] def a8T:qK:=⟨[((F9 O Z aA aB)).isSome=true],[(.val .str (val (F9 O Z aA aB)),none)],[]⟩
def aHP:List qE→List qD→Option qK:=rP (V:=(pF×pF×pF×pF)) (fun x=>a8R x.1 x.2.1 x.2.2.1 x.2.2.2) (fun x=>a8S) fun x=>a8T x.1 x.2.1 x.2.2.1 x.2.2.2
@[go_sem] def aUw:aHP (no_index (a8R O Z aA aB)) (no_index a8S)=some (a8T O Z aA aB):=rT (fun⟨a0,a1,a2,a3⟩ ⟨b0,b1,b2,b3⟩ h1 h2=>by cases h1;cases h2;rfl) (O,Z,aA,aB)
end
@[go_sem] abbrev a8U:Nat×r5:=(67,⟨[.v,.v,.v,.v],aHP,[],[],none⟩)
def a8V:rH Tryz.prog [] (rI [a8A]):=⟨trivial,qP aHH rN,rK⟩
def aHQ:r8 Tryz.prog a8U:=by
 refine rU a8V Tryz.func67 (c:=_) rfl (N:=24) pW (ts:=[(8,none)]) rfl (fun _ _=>rfl) ?_;intro⟨O,Z,aA,aB⟩ hs hrow;dsimp only[a8R,a8S,a8T,rM,qT,r6,rC,rO,Nat.reduceAdd] at hs hrow|-;have hz:=hs;obtain⟨z0,d⟩:=aUV.1 hz
 try rw[s7 d]
 clear hz hs;unfold F9 at d;refine qC a8V ?_;obtain⟨hg1,d⟩:=qI d;obtain⟨hg2,d⟩:=qI d;obtain⟨hg3,d⟩:=qI d;obtain⟨hg4,d⟩:=qI d;obtain⟨hg5,d⟩:=qI d;obtain⟨aC,hv6,hw6,d⟩:=qY d
 try simp only[go_sem] at hw6
 obtain⟨hg7,d⟩:=qI d;obtain⟨hg8,d⟩:=qI d;obtain⟨hg9,d⟩:=qI d;obtain⟨hg10,d⟩:=qI d;refine qC a8V ?_ (hp:=by exact⟨hg1,hg2,hg3,hg4,hg5,qW hv6,hg7,hg8,hg9,hg10⟩) (h:=by simp only[go_sem,hw6];rfl);refine qS ?_;cases d;exact pH []
def TP (O:pF) (Z:pG):(pF×Int)→Option ((pF×Int)⊕pF):=fun(aA,aB)=>if (decide (aB<(Z.length:Int)))=true then if 0≤aB∧aB<(Z.length:Int) then (F9 O ([99,111,109,109,101,110,116]:pF) ([]:pF) (qR .str Z aB)).bind fun aC=>if ((aA++aC).length:Int)≤9223372036854775807 then if qG (aB+(1:Int)) then some (.inl ((aA++aC),(aB+(1:Int)))) else none else none else none else some (.inr aA)
def PF (O:pF) (Z:(List r7)):(pF×Int)→Option ((pF×Int)⊕pF):=fun(aA,aB)=>if (decide (aB<(Z.length:Int)))=true then if 0≤aB∧aB<(Z.length:Int) then if ((([32,110,97,109,101,61,34]:pF)++(qR (.pair .str (.pair .str .unit)) Z aB).1).length:Int)≤9223372036854775807 then if (((([32,110,97,109,101,61,34]:pF)++(qR (.pair .str (.pair .str .unit)) Z aB).1)++([34]:pF)).length:Int)≤9223372036854775807 then (F9 O ([102,105,101,108,100]:pF) ((([32,110,97,109,101,61,34]:pF)++(qR (.pair .str (.pair .str .unit)) Z aB).1)++([34]:pF)) ((qR (.pair .str (.pair .str .unit)) Z aB).2.1)).bind fun aC=>if ((aA++aC).length:Int)≤9223372036854775807 then if qG (aB+(1:Int)) then some (.inl ((aA++aC),(aB+(1:Int)))) else none else none else none else none else none else some (.inr aA)
def IC (O:pF) (Z:pG) (aA:pF) (aB:(List r7)):Option pF:=sU (rQ (TP O Z) (([]:pF),(0:Int))) fun aC=>if ((aC++aA).length:Int)≤9223372036854775807 then sU (rQ (PF O aB) ((aC++aA),(0:Int))) fun aD=>some (aD) else none
section
variable (O:pF) (Z:pG) (aA:pF) (aB:(List r7))
abbrev a8W:List qE:=[(.val .str O,none),(.val (.list .str) Z,none),(.val .str aA,none),(.val (.list (.pair .str (.pair .str .unit))) aB,none)]
abbrev a8X:List qD:=[]
@[go_sem] def a8Y:qK:=⟨[((IC O Z aA aB)).isSome=true],[(.val .str (val (IC O Z aA aB)),none)],[]⟩
def aHR:List qE→List qD→Option qK:=rP (V:=(pF×pG×pF×(List r7))) (fun x=>a8W x.1 x.2.1 x.2.2.1 x.2.2.2) (fun x=>a8X) fun x=>a8Y x.1 x.2.1 x.2.2.1 x.2.2.2
@[go_sem] def aUx:aHR (no_index (a8W O Z aA aB)) (no_index a8X)=some (a8Y O Z aA aB):=rT (fun⟨a0,a1,a2,a3⟩ ⟨b0,b1,b2,b3⟩ h1 h2=>by cases h1;cases h2;rfl) (O,Z,aA,aB)
end
@[go_sem] abbrev a8Z:Nat×r5:=(37,⟨[.v,.v,.v,.v],aHR,[],[],none⟩)
def BL:rH Tryz.prog [sL,vY,y8,D4] (rI [a8U]):=⟨⟨sP,⟨wE,⟨z8,⟨ET,trivial⟩⟩⟩⟩,qP aHQ rN,rK⟩
def aHS:r8 Tryz.prog a8Z:=by
 refine rU BL Tryz.func37 (c:=_) rfl (N:=47) pW (ts:=[(8,none)]) rfl (fun _ _=>rfl) ?_;intro⟨O,Z,aA,aB⟩ hs hrow;dsimp only[a8W,a8X,a8Y,rM,qT,r6,rC,rO,Nat.reduceAdd] at hs hrow|-;have hz:=hs;obtain⟨z0,d⟩:=aUV.1 hz
 try rw[s7 d]
 clear hz hs;unfold IC at d;refine qC BL ?_;refine qC BL ?_;refine qQ ?_;refine qC BL ?_;refine rS ?_;obtain⟨aC,hy1,d⟩:=qO d;refine uA 0 (fun s=>s=(fun x=>⟨[(0,(.val .str O,none)),(2,(.val .str aA,none)),(3,(.val (.list (.pair .str (.pair .str .unit))) aB,none)),(9,(.val .str x,none))],[],0,47,0⟩) aC) ?_ ?_
 .refine tZ hy1 (fun x=>⟨[(0,(.val .str O,none)),(2,(.val .str aA,none)),(3,(.val (.list (.pair .str (.pair .str .unit))) aB,none)),(9,(.val .str x.1,none)),(14,(.val (.list .str) Z,none)),(15,(.val (.int .i64) (Z.length:Int),none)),(16,(.val (.int .i64) x.2,none))],[],0,47,0⟩) ⟨[0,2,3,9,14,15,16],[]⟩ pX ?_;intro x1 w1 n1 e f;obtain⟨aD,aE⟩:=x1;unfold TP at e;dsimp only at e|-;refine qC BL ?_;refine qQ ?_;refine qV e (fun e hc1=> ?_) (fun e hc1=> ?_)
  .refine r9 (qM (qQ (rS ?_)));obtain⟨hg1,e⟩:=qI e;refine qC BL ?_ (hp:=by exact hg1);obtain⟨aF,hv2,hw2,e⟩:=qY e
   try simp only[go_sem] at hw2
   obtain⟨hg3,e⟩:=qI e;refine rF BL ?_ (hp:=by exact⟨qW hv2,hg3⟩) (h:=by simp only[go_sem,hw2];rfl);refine rW (qM ?_);obtain⟨hg4,e⟩:=qI e;refine rF BL ?_ (hp:=by exact hg4);cases e;exact sX ⟨⟨[0,2,3,9,14,15,16],[]⟩,_,by rfl,f⟩
  .refine tV (tU (tX ?_));cases e;cases f;exact tW ⟨⟨[0,2,3,9],[]⟩,by rfl⟩
 .rintro _ rfl;dsimp only at d|-;refine u7 (qM ?_);obtain⟨hg5,d⟩:=qI d;refine qC BL ?_ (hp:=by exact hg5);refine qQ ?_;refine qC BL ?_;refine rS ?_;obtain⟨aG,hy1,d⟩:=qO d;refine uA 2 (fun s=>s=(fun x=>⟨[(9,(.val .str x,none))],[],0,47,0⟩) aG) ?_ ?_
  .refine tZ hy1 (fun x=>⟨[(0,(.val .str O,none)),(9,(.val .str x.1,none)),(29,(.val (.list (.pair .str (.pair .str .unit))) aB,none)),(30,(.val (.int .i64) (aB.length:Int),none)),(31,(.val (.int .i64) x.2,none))],[],0,47,0⟩) ⟨[0,9,29,30,31],[]⟩ pX ?_;intro x1 w1 n1 e f;obtain⟨aH,aI⟩:=x1;unfold PF at e;dsimp only at e|-;refine qC BL ?_;refine qQ ?_;refine qV e (fun e hc2=> ?_) (fun e hc2=> ?_)
   .refine r9 (qM (qQ (rS ?_)));obtain⟨hg6,e⟩:=qI e;refine qC BL ?_ (hp:=by exact hg6);obtain⟨hg7,e⟩:=qI e;obtain⟨hg8,e⟩:=qI e;obtain⟨aJ,hv9,hw9,e⟩:=qY e
    try simp only[go_sem] at hw9
    obtain⟨hg10,e⟩:=qI e;refine rF BL ?_ (hp:=by exact⟨hg7,hg8,qW hv9,hg10⟩) (h:=by simp only[go_sem,hw9];rfl);refine rW (qM ?_);obtain⟨hg11,e⟩:=qI e;refine rF BL ?_ (hp:=by exact hg11);cases e;exact sX ⟨⟨[0,9,29,30,31],[]⟩,_,by rfl,f⟩
   .refine tV (tU (tX ?_));cases e;cases f;exact tW ⟨⟨[9],[]⟩,by rfl⟩
  .rintro _ rfl;dsimp only at d|-;refine u7 (qM ?_);refine qC BL ?_;refine qS ?_;cases d;exact pH []
attribute [irreducible] F9 IC
end
noncomputable section
def MP (O:s8):Option pF:=(KC O.1).bind fun Z=>if ((([10,32,32,60,101,110,116,114,121,32,105,100,61,34]:pF)++Z).length:Int)≤9223372036854775807 then if (((([10,32,32,60,101,110,116,114,121,32,105,100,61,34]:pF)++Z)++([34]:pF)).length:Int)≤9223372036854775807 then sU (σ:=pF) (if (!decide (O.2.2.2.2.2.1=(0:Int)))=true then if 0≤O.2.2.2.2.2.1∧O.2.2.2.2.2.1<(([([110,101,119]:pF),([102,117,122,122,121]:pF),([116,114,97,110,115,108,97,116,101,100]:pF),([114,101,118,105,101,119,101,100]:pF),([111,98,115,111,108,101,116,101]:pF)]:pG).length:Int) then if ((([32,115,116,97,116,101,61,34]:pF)++(qR .str ([([110,101,119]:pF),([102,117,122,122,121]:pF),([116,114,97,110,115,108,97,116,101,100]:pF),([114,101,118,105,101,119,101,100]:pF),([111,98,115,111,108,101,116,101]:pF)]:pG) O.2.2.2.2.2.1)).length:Int)≤9223372036854775807 then if (((([32,115,116,97,116,101,61,34]:pF)++(qR .str ([([110,101,119]:pF),([102,117,122,122,121]:pF),([116,114,97,110,115,108,97,116,101,100]:pF),([114,101,118,105,101,119,101,100]:pF),([111,98,115,111,108,101,116,101]:pF)]:pG) O.2.2.2.2.2.1))++([34]:pF)).length:Int)≤9223372036854775807 then if ((((([10,32,32,60,101,110,116,114,121,32,105,100,61,34]:pF)++Z)++([34]:pF))++((([32,115,116,97,116,101,61,34]:pF)++(qR .str ([([110,101,119]:pF),([102,117,122,122,121]:pF),([116,114,97,110,115,108,97,116,101,100]:pF),([114,101,118,105,101,119,101,100]:pF),([111,98,115,111,108,101,116,101]:pF)]:pG) O.2.2.2.2.2.1))++([34]:pF))).length:Int)≤9223372036854775807 then some ((((([10,32,32,60,101,110,116,114,121,32,105,100,61,34]:pF)++Z)++([34]:pF))++((([32,115,116,97,116,101,61,34]:pF)++(qR .str ([([110,101,119]:pF),([102,117,122,122,121]:pF),([116,114,97,110,115,108,97,116,101,100]:pF),([114,101,118,105,101,119,101,100]:pF),([111,98,115,111,108,101,116,101]:pF)]:pG) O.2.2.2.2.2.1))++([34]:pF)))) else none else none else none else none else some (((([10,32,32,60,101,110,116,114,121,32,105,100,61,34]:pF)++Z)++([34]:pF))) ) fun aA=>sU (σ:=pF) (if (decide ((0:Int)<(O.2.2.2.2.1.length:Int)))=true then if List.length O.2.2.2.2.1≤140737488355328∧List.length (vX O.2.2.2.2.1 ([32]:pF))≤140737488355328 then if ((([32,102,108,97,103,115,61,34]:pF)++(vX O.2.2.2.2.1 ([32]:pF))).length:Int)≤9223372036854775807 then if (((([32,102,108,97,103,115,61,34]:pF)++(vX O.2.2.2.2.1 ([32]:pF)))++([34]:pF)).length:Int)≤9223372036854775807 then if ((aA++((([32,102,108,97,103,115,61,34]:pF)++(vX O.2.2.2.2.1 ([32]:pF)))++([34]:pF))).length:Int)≤9223372036854775807 then some ((aA++((([32,102,108,97,103,115,61,34]:pF)++(vX O.2.2.2.2.1 ([32]:pF)))++([34]:pF)))) else none else none else none else none else some (aA) ) fun aB=>sU (σ:=pF) (if (!decide (O.2.1=([]:pF)))=true then (F9 ([32,32,32,32]:pF) ([115,111,117,114,99,101]:pF) ([]:pF) O.2.1).bind fun aC=>if ((([]:pF)++aC).length:Int)≤9223372036854775807 then some ((([]:pF)++aC)) else none else some (([]:pF)) ) fun aD=>if (!decide (O.2.2.1=([]:pF)))=true then (F9 ([32,32,32,32]:pF) ([116,97,114,103,101,116]:pF) ([]:pF) O.2.2.1).bind fun aE=>if ((aD++aE).length:Int)≤9223372036854775807 then if ((aB++([62]:pF)).length:Int)≤9223372036854775807 then (IC ([32,32,32,32]:pF) O.2.2.2.1 (aD++aE) O.2.2.2.2.2.2.1).bind fun aF=>if (((aB++([62]:pF))++aF).length:Int)≤9223372036854775807 then if ((((aB++([62]:pF))++aF)++([10,32,32,60,47,101,110,116,114,121,62]:pF)).length:Int)≤9223372036854775807 then some ((((aB++([62]:pF))++aF)++([10,32,32,60,47,101,110,116,114,121,62]:pF))) else none else none else none else none else if ((aB++([62]:pF)).length:Int)≤9223372036854775807 then (IC ([32,32,32,32]:pF) O.2.2.2.1 aD O.2.2.2.2.2.2.1).bind fun aG=>if (((aB++([62]:pF))++aG).length:Int)≤9223372036854775807 then if ((((aB++([62]:pF))++aG)++([10,32,32,60,47,101,110,116,114,121,62]:pF)).length:Int)≤9223372036854775807 then some ((((aB++([62]:pF))++aG)++([10,32,32,60,47,101,110,116,114,121,62]:pF))) else none else none else none else none else none
section
variable (O:s8)
abbrev a80:List qE:=[(.val sN O,none)]
abbrev a81:List qD:=[]
@[go_sem] def a82:qK:=⟨[((MP O)).isSome=true],[(.val .str (val (MP O)),none)],[]⟩
def aHT:List qE→List qD→Option qK:=rP (V:=s8) (a80) (fun x=>a81) fun x=>a82 x
@[go_sem] def aUy:aHT (no_index (a80 O)) (no_index a81)=some (a82 O):=rT (fun a0 b0 h1 h2=>by cases h1;cases h2;rfl) O
end
@[go_sem] abbrev aHU:Nat×r5:=(38,⟨[.v],aHT,[],[],none⟩)
def C9:rH Tryz.prog [wD,sL,vY,y8,xI] (rI [a8A,T2,OJ,a8U,a8Z]):=⟨⟨wS,⟨sP,⟨wE,⟨z8,⟨y7,trivial⟩⟩⟩⟩⟩,qP aHH (qP Y9 (qP a2E (qP aHQ (qP aHS rN)))),rK⟩
def aPn:r8 Tryz.prog aHU:=by
 refine rU C9 Tryz.func38 (c:=_) rfl (N:=59) pW (ts:=[(2,none)]) rfl (fun _ _=>rfl) ?_;intro O hs hrow;dsimp only[a80,a81,a82,rM,qT,r6,rC,rO,Nat.reduceAdd] at hs hrow|-;have hz:=hs;obtain⟨z0,d⟩:=aUV.1 hz
 try rw[s7 d]
 clear hz hs;unfold MP at d;refine qC C9 ?_;obtain⟨Z,hv1,hw1,d⟩:=qY d
 try simp only[go_sem] at hw1
 obtain⟨hg2,d⟩:=qI d;obtain⟨hg3,d⟩:=qI d;refine qC C9 ?_ (hp:=by exact⟨qW hv1,hg2,hg3⟩) (h:=by simp only[go_sem,hw1];rfl);refine qQ ?_;refine qC C9 ?_;obtain⟨aA,e,d⟩:=qO d;refine yZ (fun s=>s=(fun x=>⟨[(1,(.val .ref (some (0,0)),none)),(3,(.val .str x,none))],[(0,.cells sN O [])],1,59,0⟩) aA) ?_ ?_
 .refine qV e (fun e hc1=> ?_) (fun e hc1=> ?_)
  .obtain⟨hg4,e⟩:=qI e;obtain⟨hg5,e⟩:=qI e;obtain⟨hg6,e⟩:=qI e;obtain⟨hg7,e⟩:=qI e;refine AQ C9 ?_ (hp:=by exact⟨hg4,hg5,hg6,hg7⟩);cases e;exact uE ⟨⟨[1,3],[(0,0)]⟩,by rfl⟩
  .refine r9 ?_;cases e;exact uE ⟨⟨[1,3],[(0,0)]⟩,by rfl⟩
 .rintro _ rfl;dsimp only at d|-;refine qM (qQ ?_);refine qC C9 ?_;obtain⟨aB,e,d⟩:=qO d;refine yZ (fun s=>s=(fun x=>⟨[(1,(.val .ref (some (0,0)),none)),(3,(.val .str x,none))],[(0,.cells sN O [])],1,59,0⟩) aB) ?_ ?_
  .refine qV e (fun e hc2=> ?_) (fun e hc2=> ?_)
   .obtain⟨hg8,e⟩:=qI e;obtain⟨hg9,e⟩:=qI e;obtain⟨hg10,e⟩:=qI e;obtain⟨hg11,e⟩:=qI e;refine rF C9 ?_ (hp:=by exact⟨hg8,hg9,hg10,hg11⟩);cases e;exact uE ⟨⟨[1,3],[(0,0)]⟩,by rfl⟩
   .refine r9 ?_;cases e;exact uE ⟨⟨[1,3],[(0,0)]⟩,by rfl⟩
  .rintro _ rfl;dsimp only at d|-;refine qM ?_;refine qC C9 ?_;refine qQ ?_;refine qC C9 ?_;obtain⟨aC,e,d⟩:=qO d;refine yZ (fun s=>s=(fun x=>⟨[(1,(.val .ref (some (0,0)),none)),(3,(.val .str aB,none)),(4,(.val .str x,none))],[(0,.cells sN O [])],1,59,0⟩) aC) ?_ ?_
   .refine qV e (fun e hc3=> ?_) (fun e hc3=> ?_)
    .obtain⟨aD,hv12,hw12,e⟩:=qY e
     try simp only[go_sem] at hw12
     obtain⟨hg13,e⟩:=qI e;refine rF C9 ?_ (hp:=by exact⟨qW hv12,hg13⟩) (h:=by simp only[go_sem,hw12];rfl);cases e;exact uE ⟨⟨[1,3,4],[(0,0)]⟩,by rfl⟩
    .refine r9 ?_;cases e;exact uE ⟨⟨[1,3,4],[(0,0)]⟩,by rfl⟩
   .rintro _ rfl;dsimp only at d|-;refine qM (qQ ?_);refine qC C9 ?_;refine qV d (fun d hc4=> ?_) (fun d hc4=> ?_)
    .obtain⟨aE,hv14,hw14,d⟩:=qY d
     try simp only[go_sem] at hw14
     obtain⟨hg15,d⟩:=qI d;refine rF C9 ?_ (hp:=by exact⟨qW hv14,hg15⟩) (h:=by simp only[go_sem,hw14];rfl);refine qM ?_;obtain⟨hg16,d⟩:=qI d;obtain⟨aF,hv17,hw17,d⟩:=qY d
     try simp only[go_sem] at hw17
     obtain⟨hg18,d⟩:=qI d;obtain⟨hg19,d⟩:=qI d;refine qC C9 ?_ (hp:=by exact⟨hg16,qW hv17,hg18,hg19⟩) (h:=by simp only[go_sem,hw17];rfl);refine qS ?_;cases d;exact pH []
    .refine r9 (qM ?_);obtain⟨hg20,d⟩:=qI d;obtain⟨aG,hv21,hw21,d⟩:=qY d
     try simp only[go_sem] at hw21
     obtain⟨hg22,d⟩:=qI d;obtain⟨hg23,d⟩:=qI d;refine qC C9 ?_ (hp:=by exact⟨hg20,qW hv21,hg22,hg23⟩) (h:=by simp only[go_sem,hw21];rfl);refine qS ?_;cases d;exact pH []
def PG (O:pF):Option (pF×Int):=if (decide ((O.length:Int)<(2:Int)))=true then some ((([]:pF),(0:Int))) else if 0≤(1:Int)∧(1:Int)<(O.length:Int) then if (decide ((sJ O (1:Int))=(110:Int)))=true then some ((([10]:pF),(2:Int))) else if (decide ((sJ O (1:Int))=(114:Int)))=true then some ((([13]:pF),(2:Int))) else if (decide ((sJ O (1:Int))=(116:Int)))=true then some ((([9]:pF),(2:Int))) else if (decide ((sJ O (1:Int))=(120:Int)))=true then if (decide ((4:Int)≤(O.length:Int)))=true then if 0≤(2:Int)∧(2:Int)≤(4:Int)∧(4:Int)≤(O.length:Int) then (GC (sF O (2:Int) (4:Int)) (16:Int)).bind fun Z=>if (Z.2&&(decide (Z.1≤(127:Int))))=true then some (((uC ([(IntKind.wrap .u8 Z.1)]:pO)),(4:Int))) else some ((([]:pF),(0:Int))) else none else some ((([]:pF),(0:Int))) else if (decide ((sJ O (1:Int))=(117:Int)))=true then if (decide ((6:Int)≤(O.length:Int)))=true then if 0≤(2:Int)∧(2:Int)≤(6:Int)∧(6:Int)≤(O.length:Int) then (GC (sF O (2:Int) (6:Int)) (16:Int)).bind fun aA=>if aA.2=true then (KD aA.1).bind fun aB=>if ((decide (aA.1≤(1114111:Int)))&&((decide (aA.1<(55296:Int)))||(decide ((57343:Int)<aA.1))))=true then some ((aB,(6:Int))) else some ((([]:pF),(0:Int))) else some ((([]:pF),(0:Int))) else none else some ((([]:pF),(0:Int))) else if (decide ((0:Int)≤(vD ([92,34,61,58,35,33,123,125,32]:pF) (sJ O (1:Int)))))=true then if 0≤(1:Int)∧(1:Int)≤(2:Int)∧(2:Int)≤(O.length:Int) then some (((sF O (1:Int) (2:Int)),(2:Int))) else none else some ((([]:pF),(0:Int))) else none
section
variable (O:pF)
abbrev a83:List qE:=[(.val .str O,none)]
abbrev a84:List qD:=[]
@[go_sem] def a85:qK:=⟨[((PG O)).isSome=true],[(.val .str ((val (PG O)).1),none),(.val (.int .i64) ((val (PG O)).2),none)],[]⟩
def aHV:List qE→List qD→Option qK:=rP (V:=pF) (a83) (fun x=>a84) fun x=>a85 x
@[go_sem] def aUz:aHV (no_index (a83 O)) (no_index a84)=some (a85 O):=rT (fun a0 b0 h1 h2=>by cases h1;cases h2;rfl) O
end
@[go_sem] abbrev aHW:Nat×r5:=(214,⟨[.v],aHV,[],[],none⟩)
def vU:rH Tryz.prog [wD,ER,sL,ES] (rI [a5z,a8Q,G5]):=⟨⟨wS,⟨HO,⟨sP,⟨HP,trivial⟩⟩⟩⟩,qP aGh (qP aHO (qP LU rN)),rK⟩
def aPo:r8 Tryz.prog aHW:=by
 refine rU vU Tryz.func214 (c:=_) rfl (N:=67) pW (ts:=[(2,none),(3,none)]) rfl (fun _ _=>rfl) ?_;intro O hs hrow;dsimp only[a83,a84,a85,rM,qT,r6,rC,rO,Nat.reduceAdd] at hs hrow|-;have hz:=hs;obtain⟨z0,d⟩:=aUV.1 hz
 try rw[s7 d]
 clear hz hs;unfold PG at d;refine qC vU ?_;refine qQ ?_;refine qC vU ?_;refine qV d (fun d hc1=> ?_) (fun d hc1=> ?_)
 .refine qC vU ?_;refine qS (rG ?_);cases d;exact pH []
 .refine r9 (qM (qQ ?_));obtain⟨hg1,d⟩:=qI d;refine qC vU ?_ (hp:=by exact hg1);refine qC vU ?_;refine rS ?_;refine qC vU ?_;refine qV d (fun d hc2=> ?_) (fun d hc2=> ?_)
  .refine qC vU ?_;refine qS (rY (rG ?_));cases d;exact pH []
  .refine qC vU ?_;refine qV d (fun d hc3=> ?_) (fun d hc3=> ?_)
   .refine qC vU ?_;refine qS (rY (rG ?_));cases d;exact pH []
   .refine qC vU ?_;refine qV d (fun d hc4=> ?_) (fun d hc4=> ?_)
    .refine qC vU ?_;refine qS (rY (rG ?_));cases d;exact pH []
    .refine qC vU ?_;refine qV d (fun d hc5=> ?_) (fun d hc5=> ?_)
     .refine qC vU ?_;refine qV d (fun d hc6=> ?_) (fun d hc6=> ?_)
      .obtain⟨hg2,d⟩:=qI d;obtain⟨Z,hv3,hw3,d⟩:=qY d
       try simp only[go_sem] at hw3
       refine qC vU ?_ (hp:=by exact⟨hg2,(qW hv3)⟩) (h:=by simp only[go_sem,hw3];rfl);refine qC vU ?_ (hp:=by exact⟨id,sI⟩);refine qV d (fun d hc7=> ?_) (fun d hc7=> ?_)
       .refine qC vU ?_;refine qS (rY (rG ?_));cases d;exact pH []
       .refine r9 (rW (qM ?_));refine qC vU ?_;refine qS ?_;cases d;exact pH []
      .refine r9 (rW (qM ?_));refine qC vU ?_;refine qS ?_;cases d;exact pH []
     .refine qC vU ?_;refine qV d (fun d hc8=> ?_) (fun d hc8=> ?_)
      .refine qC vU ?_;refine qV d (fun d hc9=> ?_) (fun d hc9=> ?_)
       .obtain⟨hg4,d⟩:=qI d;obtain⟨aA,hv5,hw5,d⟩:=qY d
        try simp only[go_sem] at hw5
        refine qC vU ?_ (hp:=by exact⟨hg4,(qW hv5)⟩) (h:=by simp only[go_sem,hw5];rfl);refine qC vU ?_;refine qV d (fun d hc10=> ?_) (fun d hc10=> ?_)
        .obtain⟨aB,hv6,hw6,d⟩:=qY d
         try simp only[go_sem] at hw6
         refine qC vU ?_ (hp:=by exact(qW hv6)) (h:=by simp only[go_sem,hw6];rfl);refine qC vU ?_;refine qV d (fun d hc11=> ?_) (fun d hc11=> ?_)
         .refine qC vU ?_;refine qS (rY (rG ?_));cases d;exact pH []
         .refine r9 (rW (qM ?_));refine qC vU ?_;refine qS ?_;cases d;exact pH []
        .refine r9 (rW (qM ?_));refine qC vU ?_;refine qS ?_;cases d;exact pH []
       .refine r9 (rW (qM ?_));refine qC vU ?_;refine qS ?_;cases d;exact pH []
      .refine qC vU ?_;refine qV d (fun d hc12=> ?_) (fun d hc12=> ?_)
       .obtain⟨hg7,d⟩:=qI d;refine qC vU ?_ (hp:=by exact hg7);refine qS (rY (rG ?_));cases d;exact pH []
       .refine r9 (rW (qM ?_));refine qC vU ?_;refine qS ?_;cases d;exact pH []
attribute [irreducible] MP PG
end
noncomputable section
def FA (O:pF):Option (pF×Int):=if (decide ((vD O (59:Int))<(0:Int)))=true then some ((([]:pF),(0:Int))) else if 0≤(1:Int)∧(1:Int)≤(vD O (59:Int))∧(vD O (59:Int))≤(O.length:Int) then if (decide ((sF O (1:Int) (vD O (59:Int)))=([97,109,112]:pF)))=true then if qG ((vD O (59:Int))+(1:Int)) then some ((([38]:pF),((vD O (59:Int))+(1:Int)))) else none else if (decide ((sF O (1:Int) (vD O (59:Int)))=([108,116]:pF)))=true then if qG ((vD O (59:Int))+(1:Int)) then some ((([60]:pF),((vD O (59:Int))+(1:Int)))) else none else if (decide ((sF O (1:Int) (vD O (59:Int)))=([103,116]:pF)))=true then if qG ((vD O (59:Int))+(1:Int)) then some ((([62]:pF),((vD O (59:Int))+(1:Int)))) else none else if (decide ((sF O (1:Int) (vD O (59:Int)))=([113,117,111,116]:pF)))=true then if qG ((vD O (59:Int))+(1:Int)) then some ((([34]:pF),((vD O (59:Int))+(1:Int)))) else none else if (decide ((sF O (1:Int) (vD O (59:Int)))=([97,112,111,115]:pF)))=true then if qG ((vD O (59:Int))+(1:Int)) then some ((([39]:pF),((vD O (59:Int))+(1:Int)))) else none else (F7 (sF O (1:Int) (vD O (59:Int))) ([35]:pF)).bind fun Z=>if (!Z.2)=true then some ((([]:pF),(0:Int))) else (F7 Z.1 ([120]:pF)).bind fun aA=>sU (σ:=(pF×Int×Int)) (if aA.2=true then some ((aA.1,(16:Int),(6:Int))) else some ((Z.1,(10:Int),(7:Int))) ) fun(aB,aC,aD)=>(GC aB aC).bind fun aE=>if ((!aE.2)||(decide (aD<(aB.length:Int))))=true then some ((([]:pF),(0:Int))) else (KD aE.1).bind fun aF=>if (!((decide (aE.1≤(1114111:Int)))&&((decide (aE.1<(55296:Int)))||(decide ((57343:Int)<aE.1)))))=true then some ((([]:pF),(0:Int))) else if qG ((vD O (59:Int))+(1:Int)) then some ((aF,((vD O (59:Int))+(1:Int)))) else none else none
section
variable (O:pF)
abbrev a86:List qE:=[(.val .str O,none)]
abbrev a87:List qD:=[]
@[go_sem] def a88:qK:=⟨[((FA O)).isSome=true],[(.val .str ((val (FA O)).1),none),(.val (.int .i64) ((val (FA O)).2),none)],[]⟩
def aHX:List qE→List qD→Option qK:=rP (V:=pF) (a86) (fun x=>a87) fun x=>a88 x
@[go_sem] def aUA:aHX (no_index (a86 O)) (no_index a87)=some (a88 O):=rT (fun a0 b0 h1 h2=>by cases h1;cases h2;rfl) O
end
@[go_sem] abbrev aHY:Nat×r5:=(215,⟨[.v],aHX,[],[],none⟩)
def vZ:rH Tryz.prog [sL] (rI [G5,YF,a5z,a8Q]):=⟨⟨sP,trivial⟩,qP LU (qP a6U (qP aGh (qP aHO rN))),rK⟩
def aPp:r8 Tryz.prog aHY:=by
 refine rU vZ Tryz.func215 (c:=_) rfl (N:=80) pW (ts:=[(2,none),(3,none)]) rfl (fun _ _=>rfl) ?_;intro O hs hrow;dsimp only[a86,a87,a88,rM,qT,r6,rC,rO,Nat.reduceAdd] at hs hrow|-;have hz:=hs;obtain⟨z0,d⟩:=aUV.1 hz
 try rw[s7 d]
 clear hz hs;unfold FA at d;refine qC vZ ?_;refine qC vZ ?_;refine qQ ?_;refine qC vZ ?_;refine qV d (fun d hc1=> ?_) (fun d hc1=> ?_)
 .refine qC vZ ?_;refine qS (rG ?_);cases d;exact pH []
 .refine r9 (qM ?_);obtain⟨hg1,d⟩:=qI d;refine qC vZ ?_ (hp:=by exact hg1);refine qQ ?_;refine qC vZ ?_;refine rS ?_;refine qC vZ ?_;refine qV d (fun d hc2=> ?_) (fun d hc2=> ?_)
  .obtain⟨hg2,d⟩:=qI d;refine qC vZ ?_ (hp:=by exact hg2);refine qS (rY (rG ?_));cases d;exact pH []
  .refine qC vZ ?_;refine qV d (fun d hc3=> ?_) (fun d hc3=> ?_)
   .obtain⟨hg3,d⟩:=qI d;refine qC vZ ?_ (hp:=by exact hg3);refine qS (rY (rG ?_));cases d;exact pH []
   .refine qC vZ ?_;refine qV d (fun d hc4=> ?_) (fun d hc4=> ?_)
    .obtain⟨hg4,d⟩:=qI d;refine qC vZ ?_ (hp:=by exact hg4);refine qS (rY (rG ?_));cases d;exact pH []
    .refine qC vZ ?_;refine qV d (fun d hc5=> ?_) (fun d hc5=> ?_)
     .obtain⟨hg5,d⟩:=qI d;refine qC vZ ?_ (hp:=by exact hg5);refine qS (rY (rG ?_));cases d;exact pH []
     .refine qC vZ ?_;refine qV d (fun d hc6=> ?_) (fun d hc6=> ?_)
      .obtain⟨hg6,d⟩:=qI d;refine qC vZ ?_ (hp:=by exact hg6);refine qS (rY (rG ?_));cases d;exact pH []
      .refine r9 (rW (qM ?_));obtain⟨Z,hv7,hw7,d⟩:=qY d
       try simp only[go_sem] at hw7
       refine qC vZ ?_ (hp:=by exact(qW hv7)) (h:=by simp only[go_sem,hw7];rfl);refine qQ ?_;refine qC vZ ?_;refine qV d (fun d hc7=> ?_) (fun d hc7=> ?_)
       .refine qC vZ ?_;refine qS (rG ?_);cases d;exact pH []
       .refine r9 (qM ?_);refine qC vZ ?_;refine qQ ?_;obtain⟨aA,hv8,hw8,d⟩:=qY d
        try simp only[go_sem] at hw8
        refine qC vZ ?_ (hp:=by exact(qW hv8)) (h:=by simp only[go_sem,hw8];rfl);refine qC vZ ?_;obtain⟨y1,e,d⟩:=qO d;refine yZ (fun s=>s=(fun x=>⟨[(4,(.val (.int .i64) (vD O (59:Int)),none)),(6,(.val .str x.1,none)),(8,(.val (.int .i64) x.2.1,none)),(9,(.val (.int .i64) x.2.2,none))],[],0,80,0⟩) y1) ?_ ?_
        .refine qV e (fun e hc8=> ?_) (fun e hc8=> ?_)
         .refine rF vZ ?_;cases e;exact uE ⟨⟨[4,6,8,9],[]⟩,by rfl⟩
         .refine r9 ?_;cases e;exact uE ⟨⟨[4,6,8,9],[]⟩,by rfl⟩
        .rintro _ rfl;obtain⟨aB,aC,aD⟩:=y1;dsimp only at d|-;refine qM ?_;obtain⟨aE,hv9,hw9,d⟩:=qY d
         try simp only[go_sem] at hw9
         refine qC vZ ?_ (hp:=by exact(qW hv9)) (h:=by simp only[go_sem,hw9];rfl);refine qQ ?_;refine qC vZ ?_ (hp:=by exact⟨id,id,id,sQ⟩);refine qV d (fun d hc9=> ?_) (fun d hc9=> ?_)
         .refine qC vZ ?_;refine qS (rG ?_);cases d;exact pH []
         .refine r9 (qM ?_);obtain⟨aF,hv10,hw10,d⟩:=qY d
          try simp only[go_sem] at hw10
          refine qC vZ ?_ (hp:=by exact(qW hv10)) (h:=by simp only[go_sem,hw10];rfl);refine qQ ?_;refine qC vZ ?_;refine qV d (fun d hc10=> ?_) (fun d hc10=> ?_)
          .refine qC vZ ?_;refine qS (rG ?_);cases d;exact pH []
          .refine r9 (qM ?_);obtain⟨hg11,d⟩:=qI d;refine qC vZ ?_ (hp:=by exact hg11);refine qS ?_;cases d;exact pH []
def FB (O:Int) (Z:pF):(Int×pO)→Option ((Int×pO)⊕(pO⊕(pF×Int×Int))):=fun(aA,aB)=>if (decide (aA<(Z.length:Int)))=true then if 0≤aA∧aA<(Z.length:Int) then if (decide ((sJ Z aA)=(38:Int)))=true then if 0≤aA∧aA≤(Z.length:Int)∧(Z.length:Int)≤(Z.length:Int) then (FA (sF Z aA (Z.length:Int))).bind fun aC=>if (decide (aC.2=(0:Int)))=true then some (.inr (.inr ((([]:pF),aA,(3:Int))))) else (DU (aB,()) aC.1).bind fun aD=>if qG (aA+aC.2) then some (.inl ((aA+aC.2),(aB++uY aC.1))) else none else none else if 0≤aA∧aA<(Z.length:Int) then if (MB O (sJ Z aA))=true then some (.inr (.inr ((([]:pF),aA,(3:Int))))) else if 0≤aA∧aA<(Z.length:Int) then (MC (aB,()) (sJ Z aA)).bind fun aE=>if qG (aA+(1:Int)) then some (.inl ((aA+(1:Int)),(aB++([(sJ Z aA)]:pO)))) else none else none else none else none else some (.inr (.inl aB))
def aHZ (O:Int) (Z:pF):(Int×pO)→Option ((Int×pO)⊕(pO⊕(pF×Int×Int))):=fun(aA,aB)=>if (decide (aA<(Z.length:Int)))=true then if 0≤aA∧aA<(Z.length:Int) then if (decide ((sJ Z aA)=(92:Int)))=true then if 0≤aA∧aA≤(Z.length:Int)∧(Z.length:Int)≤(Z.length:Int) then (PG (sF Z aA (Z.length:Int))).bind fun aC=>if (decide (aC.2=(0:Int)))=true then some (.inr (.inr ((([]:pF),aA,(3:Int))))) else (DU (aB,()) aC.1).bind fun aD=>if qG (aA+aC.2) then some (.inl ((aA+aC.2),(aB++uY aC.1))) else none else none else if 0≤aA∧aA<(Z.length:Int) then if (MB O (sJ Z aA))=true then some (.inr (.inr ((([]:pF),aA,(3:Int))))) else if 0≤aA∧aA<(Z.length:Int) then (MC (aB,()) (sJ Z aA)).bind fun aE=>if qG (aA+(1:Int)) then some (.inl ((aA+(1:Int)),(aB++([(sJ Z aA)]:pO)))) else none else none else none else none else some (.inr (.inl aB))
def ID (O:Int) (Z:pF):Option (pF×Int×Int):=if (!((decide ((1:Int)≤O))&&(decide (O≤(4:Int)))))=true then some ((([]:pF),(0:Int),(1:Int))) else if (decide (O=(4:Int)))=true then uF (rQ (FB O Z) ((0:Int),([]:pO))) fun aA=>some (((uC aA),(0:Int),(0:Int))) else uF (rQ (aHZ O Z) ((0:Int),([]:pO))) fun aB=>some (((uC aB),(0:Int),(0:Int)))
section
variable (O:Int) (Z:pF)
abbrev a89:List qE:=[(.val (.int .i64) O,none),(.val .str Z,none)]
abbrev a9a:List qD:=[]
@[go_sem] def a9b:qK:=⟨[((ID O Z)).isSome=true],[(.val .str ((val (ID O Z)).1),none),(.val (.int .i64) ((val (ID O Z)).2.1),none),(.val (.int .i64) ((val (ID O Z)).2.2),none)],[]⟩
def aH0:List qE→List qD→Option qK:=rP (V:=(Int×pF)) (fun x=>a89 x.1 x.2) (fun x=>a9a) fun x=>a9b x.1 x.2
@[go_sem] def aUB:aH0 (no_index (a89 O Z)) (no_index a9a)=some (a9b O Z):=rT (fun⟨a0,a1⟩ ⟨b0,b1⟩ h1 h2=>by cases h1;cases h2;rfl) (O,Z)
end
@[go_sem] abbrev aH1:Nat×r5:=(190,⟨[.v,.v],aH0,[],[],none⟩)
def vH:rH Tryz.prog [sL,HQ] (rI [a4F,aHY,Y3,aF8,aGa,HM,aHW]):=⟨⟨sP,⟨M5,trivial⟩⟩,qP aFJ (qP aPp (qP a3p (qP aOK (qP aOL (qP OF (qP aPo rN)))))),rK⟩
def aPq:r8 Tryz.prog aH1:=by
 refine rU vH Tryz.func190 (c:=_) rfl (N:=58) pW (ts:=[(4,none),(5,none),(6,none)]) rfl (fun _ _=>rfl) ?_;intro⟨O,Z⟩ hs hrow;dsimp only[a89,a9a,a9b,rM,qT,r6,rC,rO,Nat.reduceAdd] at hs hrow|-;have hz:=hs;obtain⟨z0,d⟩:=aUV.1 hz
 try rw[s7 d]
 clear hz hs;unfold ID at d;refine qC vH ?_;refine qQ ?_;refine qC vH ?_;refine qV d (fun d hc1=> ?_) (fun d hc1=> ?_)
 .refine qC vH ?_;refine qS (rG ?_);cases d;exact pH []
 .refine r9 (qM ?_);refine qC vH ?_;refine qQ ?_;refine qC vH ?_;refine qV d (fun d hc2=> ?_) (fun d hc2=> ?_)
  .refine rF vH ?_;refine qM ?_;refine qC vH ?_;refine qQ ?_;refine qC vH ?_;refine rS ?_;obtain⟨y1,hy1,d⟩:=vF d;refine uA 0 (fun s=> ∃v,y1= .inl v∧s=(fun x=>⟨[(9,(.val .ref (some (0,0)),none))],[(0,.cells wR ((some (0,0)),(x,())) [(1,1)]),(1,.grow 5 1 (x.length))],2,58,0⟩) v) ?_ ?_
   .refine tZ hy1 (fun x=>⟨[(0,(.val (.int .i64) O,none)),(1,(.val .str Z,none)),(7,(.val (.int .u8) (38:Int),none)),(8,(.val .clo (some (215,[])),none)),(9,(.val .ref (some (0,0)),none)),(10,(.val (.int .i64) x.1,none))],[(0,.cells wR ((some (0,0)),(x.2,())) [(1,1)]),(1,.grow 5 1 (x.2.length))],2,58,0⟩) ⟨[0,1,7,8,9,10],[(0,384),(1,385)]⟩ pX ?_;intro x1 w1 n1 e f;obtain⟨aA,aB⟩:=x1;unfold FB at e;dsimp only at e|-;refine qQ ?_;refine qC vH ?_;refine qV e (fun e hc3=> ?_) (fun e hc3=> ?_)
    .refine r9 (qM (rS (rS ?_)));obtain⟨hg1,e⟩:=qI e;refine qC vH ?_ (hp:=by exact hg1);refine qV e (fun e hc4=> ?_) (fun e hc4=> ?_)
     .obtain⟨hg2,e⟩:=qI e;obtain⟨aC,hv3,hw3,e⟩:=qY e
      try simp only[go_sem] at hw3
      refine qC vH ?_ (hp:=by exact⟨hg2,(qW hv3)⟩) (h:=by simp only[go_sem,hw3];rfl);refine qQ ?_;refine qC vH ?_;refine qV e (fun e hc5=> ?_) (fun e hc5=> ?_)
      .refine qC vH ?_;refine qS (rG (rY (rY (vE (vM (rY (rG ?_)))))));cases e;cases f;dsimp only at d;cases d;exact pH []
      .refine r9 (qM ?_);obtain⟨aD,hv4,hw4,e⟩:=qY e
       try simp only[go_sem] at hw4
       refine qC vH ?_ (hp:=by exact⟨pV,(qW hv4)⟩) (h:=by simp only[go_sem,hw4];rfl)
       obtain⟨hg5,e⟩:=qI e;refine rF vH ?_ (hp:=by exact hg5);refine rW (rW ?_);cases e;exact sX ⟨⟨[0,1,7,8,9,10],[(0,0),(1,1)]⟩,_,by rfl,f⟩
     .obtain⟨hg6,e⟩:=qI e;refine qC vH ?_ (hp:=by exact hg6);refine qV e (fun e hc6=> ?_) (fun e hc6=> ?_)
      .refine qC vH ?_;refine qS (rY (rY (vE (vM (rY (rG ?_))))));cases e;cases f;dsimp only at d;cases d;exact pH []
      .obtain⟨hg7,e⟩:=qI e;obtain⟨aE,hv8,hw8,e⟩:=qY e
       try simp only[go_sem] at hw8
       refine qC vH ?_ (hp:=by exact⟨hg7,pV,(qW hv8)⟩) (h:=by simp only[go_sem,hw8];rfl)
       obtain⟨hg9,e⟩:=qI e;refine rF vH ?_ (hp:=by exact hg9);refine rW (rW ?_);cases e;exact sX ⟨⟨[0,1,7,8,9,10],[(0,0),(1,1)]⟩,_,by rfl,f⟩
    .refine tV (tU (tX ?_));cases e;cases f;exact tW ⟨⟨[9],[(0,0),(1,1)]⟩,_,rfl,by rfl⟩
   .rintro _ ⟨aF,rfl,rfl⟩;dsimp only at d|-;refine u7 (qM ?_);refine qC vH ?_ (hp:=by first|rfl|trivial)
    refine qS ?_;cases d;exact pH []
  .refine r9 (qM ?_);refine qC vH ?_;refine qQ ?_;refine qC vH ?_;refine rS ?_;obtain⟨y1,hy1,d⟩:=vF d;refine uA 0 (fun s=> ∃v,y1= .inl v∧s=(fun x=>⟨[(9,(.val .ref (some (0,0)),none))],[(0,.cells wR ((some (0,0)),(x,())) [(1,1)]),(1,.grow 5 1 (x.length))],2,58,0⟩) v) ?_ ?_
   .refine tZ hy1 (fun x=>⟨[(0,(.val (.int .i64) O,none)),(1,(.val .str Z,none)),(7,(.val (.int .u8) (92:Int),none)),(8,(.val .clo (some (214,[])),none)),(9,(.val .ref (some (0,0)),none)),(10,(.val (.int .i64) x.1,none))],[(0,.cells wR ((some (0,0)),(x.2,())) [(1,1)]),(1,.grow 5 1 (x.2.length))],2,58,0⟩) ⟨[0,1,7,8,9,10],[(0,320),(1,321)]⟩ pX ?_;intro x1 w1 n1 e f;obtain⟨aG,aH⟩:=x1;unfold aHZ at e;dsimp only at e|-;refine qQ ?_;refine qC vH ?_;refine qV e (fun e hc7=> ?_) (fun e hc7=> ?_)
    .refine r9 (qM (rS (rS ?_)));obtain⟨hg10,e⟩:=qI e;refine qC vH ?_ (hp:=by exact hg10);refine qV e (fun e hc8=> ?_) (fun e hc8=> ?_)
     .obtain⟨hg11,e⟩:=qI e;obtain⟨aI,hv12,hw12,e⟩:=qY e
      try simp only[go_sem] at hw12
      refine qC vH ?_ (hp:=by exact⟨hg11,(qW hv12)⟩) (h:=by simp only[go_sem,hw12];rfl);refine qQ ?_;refine qC vH ?_;refine qV e (fun e hc9=> ?_) (fun e hc9=> ?_)
      .refine qC vH ?_;refine qS (rG (rY (rY (vE (vM (rY (rG ?_)))))));cases e;cases f;dsimp only at d;cases d;exact pH []
      .refine r9 (qM ?_);obtain⟨aJ,hv13,hw13,e⟩:=qY e
       try simp only[go_sem] at hw13
       refine qC vH ?_ (hp:=by exact⟨pV,(qW hv13)⟩) (h:=by simp only[go_sem,hw13];rfl)
       obtain⟨hg14,e⟩:=qI e;refine rF vH ?_ (hp:=by exact hg14);refine rW (rW ?_);cases e;exact sX ⟨⟨[0,1,7,8,9,10],[(0,0),(1,1)]⟩,_,by rfl,f⟩
     .obtain⟨hg15,e⟩:=qI e;refine qC vH ?_ (hp:=by exact hg15);refine qV e (fun e hc10=> ?_) (fun e hc10=> ?_)
      .refine qC vH ?_;refine qS (rY (rY (vE (vM (rY (rG ?_))))));cases e;cases f;dsimp only at d;cases d;exact pH []
      .obtain⟨hg16,e⟩:=qI e;obtain⟨aK,hv17,hw17,e⟩:=qY e
       try simp only[go_sem] at hw17
       refine qC vH ?_ (hp:=by exact⟨hg16,pV,(qW hv17)⟩) (h:=by simp only[go_sem,hw17];rfl)
       obtain⟨hg18,e⟩:=qI e;refine rF vH ?_ (hp:=by exact hg18);refine rW (rW ?_);cases e;exact sX ⟨⟨[0,1,7,8,9,10],[(0,0),(1,1)]⟩,_,by rfl,f⟩
    .refine tV (tU (tX ?_));cases e;cases f;exact tW ⟨⟨[9],[(0,0),(1,1)]⟩,_,rfl,by rfl⟩
   .rintro _ ⟨aL,rfl,rfl⟩;dsimp only at d|-;refine u7 (qM ?_);refine qC vH ?_ (hp:=by first|rfl|trivial)
    refine qS ?_;cases d;exact pH []
attribute [irreducible] FA ID
end
noncomputable section
def TQ (O:sR):(Int×pG)→Option ((Int×pG)⊕pG):=fun(Z,aA)=>if (decide (Z<(O.2.2.2.1.length:Int)))=true then if 0≤Z∧Z<(O.2.2.2.1.length:Int) then (MP (qR sN O.2.2.2.1 Z)).bind fun aB=>if (aA.length+([aB]:pG).length)*16≤140737488355328 then if qG (Z+(1:Int)) then some (.inl ((Z+(1:Int)),(aA++([aB]:pG)))) else none else none else none else some (.inr aA)
def FC (O:sR):Option (pF×pG×pF×Int):=(MO O).bind fun Z=>if (!Z)=true then some ((([]:pF),([]:pG),([]:pF),(1:Int))) else if ((([60,99,97,116,97,108,111,103,32,116,97,103,61,34]:pF)++O.1).length:Int)≤9223372036854775807 then if (((([60,99,97,116,97,108,111,103,32,116,97,103,61,34]:pF)++O.1)++([34,62]:pF)).length:Int)≤9223372036854775807 then (IC ([32,32]:pF) O.2.1 ([]:pF) O.2.2.1).bind fun aA=>if ((((([60,99,97,116,97,108,111,103,32,116,97,103,61,34]:pF)++O.1)++([34,62]:pF))++aA).length:Int)≤9223372036854775807 then if (((((([60,99,97,116,97,108,111,103,32,116,97,103,61,34]:pF)++O.1)++([34,62]:pF))++aA)++([10,60,101,110,116,114,105,101,115,62]:pF)).length:Int)≤9223372036854775807 then sU (rQ (TQ O) ((0:Int),([]:pG))) fun aB=>some ((((((([60,99,97,116,97,108,111,103,32,116,97,103,61,34]:pF)++O.1)++([34,62]:pF))++aA)++([10,60,101,110,116,114,105,101,115,62]:pF)),aB,([10,60,47,101,110,116,114,105,101,115,62,10,60,47,99,97,116,97,108,111,103,62,10]:pF),(0:Int))) else none else none else none else none
section
variable (O:sR)
abbrev a9c:List qE:=[(.val D0 O,none)]
abbrev a9d:List qD:=[]
@[go_sem] def a9e:qK:=⟨[((FC O)).isSome=true],[(.val AR ((val (FC O)).1,((val (FC O)).2.1,((val (FC O)).2.2.1,()))),none),(.val (.int .i64) ((val (FC O)).2.2.2),none)],[]⟩
def aH2:List qE→List qD→Option qK:=rP (V:=sR) (a9c) (fun x=>a9d) fun x=>a9e x
@[go_sem] def aUC:aH2 (no_index (a9c O)) (no_index a9d)=some (a9e O):=rT (fun a0 b0 h1 h2=>by cases h1;cases h2;rfl) O
end
@[go_sem] abbrev a9f:Nat×r5:=(18,⟨[.v],aH2,[],[],none⟩)
def FD:rH Tryz.prog [sL,vY,JL,y8,G6,BJ,xI] (rI [aHM,a8Z,aHU]):=⟨⟨sP,⟨wE,⟨OM,⟨z8,⟨JM,⟨D3,⟨y7,trivial⟩⟩⟩⟩⟩⟩⟩,qP aPm (qP aHS (qP aPn rN)),rK⟩
def aPr:r8 Tryz.prog a9f:=by
 refine rU FD Tryz.func18 (c:=_) rfl (N:=39) pW (ts:=[(2,some 26),(3,none)]) rfl (fun _ _=>rfl) ?_;intro O hs hrow;dsimp only[a9c,a9d,a9e,rM,qT,r6,rC,rO,Nat.reduceAdd] at hs hrow|-;have hz:=hs;obtain⟨z0,d⟩:=aUV.1 hz
 try rw[s7 d]
 clear hz hs;unfold FC at d;refine qC FD ?_;refine qQ ?_;obtain⟨Z,hv1,hw1,d⟩:=qY d
 try simp only[go_sem] at hw1
 refine qC FD ?_ (hp:=by exact(qW hv1)) (h:=by simp only[go_sem,hw1];rfl);refine qV d (fun d hc1=> ?_) (fun d hc1=> ?_)
 .refine qC FD ?_;refine qS (rG ?_);cases d;exact pH []
 .refine r9 (qM ?_);obtain⟨hg2,d⟩:=qI d;obtain⟨hg3,d⟩:=qI d;obtain⟨aA,hv4,hw4,d⟩:=qY d
  try simp only[go_sem] at hw4
  obtain⟨hg5,d⟩:=qI d;obtain⟨hg6,d⟩:=qI d;refine vN FD ?_ (hp:=by exact⟨hg2,hg3,qW hv4,hg5,hg6⟩) (h:=by simp only[go_sem,hw4];rfl);refine qQ ?_;refine qC FD ?_;refine rS ?_;obtain⟨aB,hy1,d⟩:=qO d;refine uA 0 (fun s=>s=(fun x=>⟨[(2,(.val .ref (some (0,0)),none)),(4,(.val .ref (some (1,0)),none))],[(0,.cells AR (([]:pF),(([]:pG),(([]:pF),()))) [(1,2)]),(1,.cells AR (((((([60,99,97,116,97,108,111,103,32,116,97,103,61,34]:pF)++O.1)++([34,62]:pF))++aA)++([10,60,101,110,116,114,105,101,115,62]:pF)),(x,(([10,60,47,101,110,116,114,105,101,115,62,10,60,47,99,97,116,97,108,111,103,62,10]:pF),()))) [(1,3)]),(2,.grow 9 1 (([]:pG).length)),(3,.grow 9 1 (x.length))],4,39,0⟩) aB) ?_ ?_
  .refine tZ hy1 (fun x=>⟨[(2,(.val .ref (some (0,0)),none)),(4,(.val .ref (some (1,0)),none)),(24,(.val (.list sN) O.2.2.2.1,none)),(25,(.val (.int .i64) (O.2.2.2.1.length:Int),none)),(26,(.val (.int .i64) x.1,none))],[(0,.cells AR (([]:pF),(([]:pG),(([]:pF),()))) [(1,2)]),(1,.cells AR (((((([60,99,97,116,97,108,111,103,32,116,97,103,61,34]:pF)++O.1)++([34,62]:pF))++aA)++([10,60,101,110,116,114,105,101,115,62]:pF)),(x.2,(([10,60,47,101,110,116,114,105,101,115,62,10,60,47,99,97,116,97,108,111,103,62,10]:pF),()))) [(1,3)]),(2,.grow 9 1 (([]:pG).length)),(3,.grow 9 1 (x.2.length))],4,39,0⟩) ⟨[2,4,24,25,26],[(0,32),(1,576),(2,33),(3,608)]⟩ pX ?_;intro x1 w1 n1 e g;obtain⟨aC,aD⟩:=x1;unfold TQ at e;dsimp only at e|-;refine qC FD ?_;refine qQ ?_;refine qV e (fun e hc2=> ?_) (fun e hc2=> ?_)
   .refine r9 (qM (qQ (rS ?_)));obtain⟨hg7,e⟩:=qI e;refine qC FD ?_ (hp:=by exact hg7);obtain⟨aE,hv8,hw8,e⟩:=qY e
    try simp only[go_sem] at hw8
    obtain⟨hg9,e⟩:=qI e;refine AQ FD ?_ (hp:=by exact⟨qW hv8,pV,hg9⟩) (h:=by simp only[go_sem,hw8];rfl)
    refine rW (qM ?_);obtain⟨hg10,e⟩:=qI e;refine rF FD ?_ (hp:=by exact hg10);cases e;exact sX ⟨⟨[2,4,24,25,26],[(0,0),(1,1),(2,2),(3,3)]⟩,_,by rfl,g⟩
   .refine tV (tU (tX ?_));cases e;cases g;exact tW ⟨⟨[2,4],[(0,0),(1,1),(2,2),(3,3)]⟩,by rfl⟩
  .rintro _ rfl;dsimp only at d|-;refine u7 (qM ?_);refine qC FD ?_;refine qS ?_;cases d;exact pH []
def GI (O:pF):Option (pF×Bool):=(ID (4:Int) O).bind fun Z=>if (((decide (Z.2.2=(0:Int)))==true)=true→((F4 Z.1)).isSome=true) then some ((Z.1,((decide (Z.2.2=(0:Int)))&&((decide ((Z.1.length:Int)≤(4000:Int)))&&(Lib.validD Z.1))))) else none
section
variable (O:pF)
abbrev a9g:List qE:=[(.val .str O,none)]
abbrev a9h:List qD:=[]
@[go_sem] def a9i:qK:=⟨[((GI O)).isSome=true],[(.val .str ((val (GI O)).1),none),(.val .bool ((val (GI O)).2),none)],[]⟩
def aH3:List qE→List qD→Option qK:=rP (V:=pF) (a9g) (fun x=>a9h) fun x=>a9i x
@[go_sem] def aUD:aH3 (no_index (a9g O)) (no_index a9h)=some (a9i O):=rT (fun a0 b0 h1 h2=>by cases h1;cases h2;rfl) O
end
@[go_sem] abbrev a9j:Nat×r5:=(154,⟨[.v],aH3,[],[],none⟩)
def YI:rH Tryz.prog [] (rI [aH1,T6]):=⟨trivial,qP aPq (qP YE rN),rK⟩
def aH4:r8 Tryz.prog a9j:=by
 refine rU YI Tryz.func154 (c:=_) rfl (N:=20) pW (ts:=[(2,none),(3,none)]) rfl (fun _ _=>rfl) ?_;intro O hs hrow;dsimp only[a9g,a9h,a9i,rM,qT,r6,rC,rO,Nat.reduceAdd] at hs hrow|-;have hz:=hs;obtain⟨z0,d⟩:=aUV.1 hz
 try rw[s7 d]
 clear hz hs;unfold GI at d;refine qC YI ?_;obtain⟨Z,hv1,hw1,d⟩:=qY d
 try simp only[go_sem] at hw1
 refine qC YI ?_ (hp:=by exact(qW hv1)) (h:=by simp only[go_sem,hw1];rfl);obtain⟨hg2,d⟩:=qI d;refine qC YI ?_ (hp:=by exact⟨id,hg2,sI⟩);refine qS ?_;cases d;exact pH []
attribute [irreducible] FC GI
end
noncomputable section
def GJ (O:pF):Option (pF×pF×pF×Bool):=(F0 O).bind fun Z=>(F7 Z.2 ([61,34]:pF)).bind fun aA=>(I5 aA.1 ([34]:pF)).bind fun aB=>(GI aB.1).bind fun aC=>some ((Z.1,aC.1,aB.2.1,((((!decide (Z.1=([]:pF)))&&aA.2)&&aB.2.2)&&aC.2)))
section
variable (O:pF)
abbrev a9k:List qE:=[(.val .str O,none)]
abbrev a9l:List qD:=[]
@[go_sem] def a9m:qK:=⟨[((GJ O)).isSome=true],[(.val (.pair .str (.pair .str .unit)) ((val (GJ O)).1,((val (GJ O)).2.1,())),none),(.val .str ((val (GJ O)).2.2.1),none),(.val .bool ((val (GJ O)).2.2.2),none)],[]⟩
def aH5:List qE→List qD→Option qK:=rP (V:=pF) (a9k) (fun x=>a9l) fun x=>a9m x
@[go_sem] def aUE:aH5 (no_index (a9k O)) (no_index a9l)=some (a9m O):=rT (fun a0 b0 h1 h2=>by cases h1;cases h2;rfl) O
end
@[go_sem] abbrev aH6:Nat×r5:=(128,⟨[.v],aH5,[],[],none⟩)
def MQ:rH Tryz.prog [C2] (rI [a4p,YF,aG3,a9j]):=⟨⟨DT,trivial⟩,qP aFz (qP a6U (qP aO5 (qP aH4 rN))),rK⟩
def aPs:r8 Tryz.prog aH6:=by
 refine rU MQ Tryz.func128 (c:=_) rfl (N:=48) pW (ts:=[(2,some 127),(3,none),(4,none)]) rfl (fun _ _=>rfl) ?_;intro O hs hrow;dsimp only[a9k,a9l,a9m,rM,qT,r6,rC,rO,Nat.reduceAdd] at hs hrow|-;have hz:=hs;obtain⟨z0,d⟩:=aUV.1 hz
 try rw[s7 d]
 clear hz hs;unfold GJ at d;refine qC MQ ?_;obtain⟨Z,hv1,hw1,d⟩:=qY d
 try simp only[go_sem] at hw1
 refine qC MQ ?_ (hp:=by exact(qW hv1)) (h:=by simp only[go_sem,hw1];rfl);obtain⟨aA,hv2,hw2,d⟩:=qY d
 try simp only[go_sem] at hw2
 refine qC MQ ?_ (hp:=by exact(qW hv2)) (h:=by simp only[go_sem,hw2];rfl);obtain⟨aB,hv3,hw3,d⟩:=qY d
 try simp only[go_sem] at hw3
 refine qC MQ ?_ (hp:=by exact(qW hv3)) (h:=by simp only[go_sem,hw3];rfl);obtain⟨aC,hv4,hw4,d⟩:=qY d
 try simp only[go_sem] at hw4
 refine qC MQ ?_ (hp:=by exact(qW hv4)) (h:=by simp only[go_sem,hw4];rfl);refine qC MQ ?_ (hp:=by exact⟨sI,sI,sI⟩);refine qS ?_;cases d;exact pH []
def GK (O:Int) (Z:(pF×pF)):(pF×(List r7)×Bool)→Option ((pF×(List r7)×Bool)⊕(Unit⊕(Int×pF×(List r7)×Bool×Bool))):=fun(aA,aB,aC)=>if (!decide (Z.1=([]:pF)))=true then if (decide ((Lib.trimLeftS aA ([32,9,10,13]:pF))=([]:pF)))=true then some (.inr (.inr ((O,Z.1,aB,aC,true)))) else (GJ (Lib.trimLeftS aA ([32,9,10,13]:pF))).bind fun aD=>if ((!aD.2.2.2)||(decide (((Lib.trimLeftS aA ([32,9,10,13]:pF)).length:Int)=(aA.length:Int))))=true then some (.inr (.inl ())) else if (aC==false)=true then if ((aC==false)=true→((JZ aB (aD.1,(aD.2.1,())))).isSome=true) then if (aB.length+([(aD.1,(aD.2.1,()))]:List r7).length)*32≤140737488355328 then some (.inl (aD.2.2.1,(aB++([(aD.1,(aD.2.1,()))]:List r7)),(aC||(val (JZ aB (aD.1,(aD.2.1,()))))))) else none else none else if (aB.length+([(aD.1,(aD.2.1,()))]:List r7).length)*32≤140737488355328 then some (.inl (aD.2.2.1,(aB++([(aD.1,(aD.2.1,()))]:List r7)),true)) else none else some (.inr (.inl ()))
def FE (O:pF):Option (Int×pF×(List r7)×Bool×Bool):=if qG ((O.length:Int)- (1:Int)) then if 0≤(1:Int)∧(1:Int)≤((O.length:Int)- (1:Int))∧((O.length:Int)- (1:Int))≤(O.length:Int) then (F7 (sF O (1:Int) ((O.length:Int)- (1:Int))) ([47]:pF)).bind fun Z=>if Z.2=true then (F0 Z.1).bind fun aA=>if (((decide (aA.1=([]:pF)))==false)=true→(List.all ([32,9,10,13]:pF) fun b=>decide (b.toNat<128))=true∧List.length ([32,9,10,13]:pF)<4294967281) then if (((decide (aA.1=([]:pF)))==false)=true→List.length aA.2≤9223372036854775807) then if ((decide (aA.1=([]:pF)))||(!decide ((Lib.trimS aA.2 ([32,9,10,13]:pF))=([]:pF))))=true then some (((0:Int),([]:pF),([]:List r7),false,false)) else some (((3:Int),aA.1,([]:List r7),false,true)) else none else none else (K8 (sF O (1:Int) ((O.length:Int)- (1:Int))) ([47]:pF)).bind fun aB=>sU (σ:=(pF×Int)) (if aB.2=true then some ((aB.1,(2:Int))) else some (((sF O (1:Int) ((O.length:Int)- (1:Int))),(1:Int))) ) fun(aC,aD)=>(F0 aC).bind fun aE=>uF (rQ (GK aD aE) (aE.2,([]:List r7),false)) fun _=>some (((0:Int),([]:pF),([]:List r7),false,false)) else none else none
section
variable (O:pF)
abbrev a9n:List qE:=[(.val .str O,none)]
abbrev a9o:List qD:=[]
@[go_sem] def a9p:qK:=⟨[((FE O)).isSome=true],[(.val xF ((val (FE O)).1,((val (FE O)).2.1,((val (FE O)).2.2.1,((val (FE O)).2.2.2.1,())))),none),(.val .bool ((val (FE O)).2.2.2.2),none)],[]⟩
def aH7:List qE→List qD→Option qK:=rP (V:=pF) (a9n) (fun x=>a9o) fun x=>a9p x
@[go_sem] def aUF:aH7 (no_index (a9n O)) (no_index a9o)=some (a9p O):=rT (fun a0 b0 h1 h2=>by cases h1;cases h2;rfl) O
end
@[go_sem] abbrev aH8:Nat×r5:=(86,⟨[.v],aH7,[],[],none⟩)
def wK:rH Tryz.prog [wD,BK,sL,D6,zJ,C2] (rI [YF,a4p,LV,aHq,OB,aH6,aGv]):=⟨⟨wS,⟨D7,⟨sP,⟨EV,⟨AA,⟨DT,trivial⟩⟩⟩⟩⟩⟩,qP a6U (qP aFz (qP XS (qP aPd (qP a2x (qP aPs (qP aOU rN)))))),rK⟩
def aPt:r8 Tryz.prog aH8:=by
 refine rU wK Tryz.func86 (c:=_) rfl (N:=96) pW (ts:=[(2,some 100),(3,none)]) rfl (fun _ _=>rfl) ?_;intro O hs hrow;dsimp only[a9n,a9o,a9p,rM,qT,r6,rC,rO,Nat.reduceAdd] at hs hrow|-;have hz:=hs;obtain⟨z0,d⟩:=aUV.1 hz
 try rw[s7 d]
 clear hz hs;unfold FE at d;refine qC wK ?_;obtain⟨hg1,d⟩:=qI d;obtain⟨hg2,d⟩:=qI d;refine qC wK ?_ (hp:=by exact⟨hg1,hg2⟩);refine qC wK ?_;refine qQ ?_;obtain⟨Z,hv3,hw3,d⟩:=qY d
 try simp only[go_sem] at hw3
 refine qC wK ?_ (hp:=by exact(qW hv3)) (h:=by simp only[go_sem,hw3];rfl);refine qC wK ?_;refine qV d (fun d hc1=> ?_) (fun d hc1=> ?_)
 .refine qC wK ?_;obtain⟨aA,hv4,hw4,d⟩:=qY d
  try simp only[go_sem] at hw4
  refine qC wK ?_ (hp:=by exact(qW hv4)) (h:=by simp only[go_sem,hw4];rfl);refine qQ ?_;obtain⟨hg5,d⟩:=qI d;obtain⟨hg6,d⟩:=qI d;refine qC wK ?_ (hp:=by exact⟨id,hg5,hg6,id,sQ⟩);refine qV d (fun d hc2=> ?_) (fun d hc2=> ?_)
  .refine qC wK ?_;refine qS (rG (rG ?_));cases d;exact pH []
  .refine r9 (qM ?_);refine qC wK ?_;refine qS (rG ?_);cases d;exact pH []
 .refine r9 (qM (qQ ?_));obtain⟨aB,hv7,hw7,d⟩:=qY d
  try simp only[go_sem] at hw7
  refine qC wK ?_ (hp:=by exact(qW hv7)) (h:=by simp only[go_sem,hw7];rfl);refine qC wK ?_;obtain⟨y1,f,d⟩:=qO d;refine yZ (fun s=>s=(fun x=>⟨[(0,(.val .str x.1,none)),(2,(.val .ref (some (0,0)),none)),(4,(.val .ref (some (1,0)),none))],[(0,.cells xF ((0:Int),(([]:pF),(([]:List r7),(false,())))) [(2,2)]),(1,.cells xF (x.2,(([]:pF),(([]:List r7),(false,())))) [(2,3)]),(2,.grow 127 2 (([]:List r7).length)),(3,.grow 127 2 (([]:List r7).length))],4,96,0⟩) y1) ?_ ?_
  .refine qV f (fun f hc3=> ?_) (fun f hc3=> ?_)
   .refine rF wK ?_;cases f;exact uE ⟨⟨[0,2,4],[(0,0),(1,288),(2,1),(3,320)]⟩,by rfl⟩
   .refine r9 ?_;cases f;exact uE ⟨⟨[0,2,4],[(0,0),(1,288),(2,1),(3,320)]⟩,by rfl⟩
  .rintro _ rfl;obtain⟨aC,aD⟩:=y1;dsimp only at d|-;refine qM ?_;obtain⟨aE,hv8,hw8,d⟩:=qY d
   try simp only[go_sem] at hw8
   refine qC wK ?_ (hp:=by exact(qW hv8)) (h:=by simp only[go_sem,hw8];rfl);refine qQ (rS ?_);obtain⟨y1,hy1,d⟩:=vF d;refine uA 0 (fun s=> ∃v,y1= .inl v∧s=(fun _=>⟨[(2,(.val .ref (some (0,0)),none))],[(0,.cells xF ((0:Int),(([]:pF),(([]:List r7),(false,())))) [(2,1)]),(1,.grow 127 2 (([]:List r7).length))],2,96,0⟩) v) ?_ ?_
   .refine tZ hy1 (fun x=>⟨[(0,(.val .str x.1,none)),(2,(.val .ref (some (0,0)),none)),(4,(.val .ref (some (1,0)),none))],[(0,.cells xF ((0:Int),(([]:pF),(([]:List r7),(false,())))) [(2,2)]),(1,.cells xF (aD,(aE.1,(x.2.1,(x.2.2,())))) [(2,3)]),(2,.grow 127 2 (([]:List r7).length)),(3,.grow 127 2 (x.2.1.length))],4,96,0⟩) ⟨[0,2,4],[(0,0),(1,1),(2,2),(3,3)]⟩ pX ?_;intro x1 w1 n1 f g;obtain⟨aF,aG,aH⟩:=x1;unfold GK at f;dsimp only at f|-;refine qQ ?_;refine qC wK ?_;refine qV f (fun f hc4=> ?_) (fun f hc4=> ?_)
    .refine r9 (qM (rS ?_));refine qC wK ?_ (hp:=by exact⟨pJ,pJ⟩);refine qQ ?_;refine qC wK ?_;refine qV f (fun f hc5=> ?_) (fun f hc5=> ?_)
     .refine qC wK ?_;refine qS (rG (rY (vE (vM (rY (rG ?_))))));cases f;cases g;dsimp only at d;cases d;exact pH []
     .refine r9 (qM ?_);obtain⟨aI,hv9,hw9,f⟩:=qY f
      try simp only[go_sem] at hw9
      refine qC wK ?_ (hp:=by exact(qW hv9)) (h:=by simp only[go_sem,hw9];rfl);refine qQ ?_;refine qC wK ?_ (hp:=by exact⟨id,id,id,id,sQ⟩);refine qV f (fun f hc6=> ?_) (fun f hc6=> ?_)
      .refine tV (tU (aD4 pJ (tX ?_)));cases f;cases g;exact tW ⟨⟨[2],[(0,0),(1,2)]⟩,_,rfl,by rfl⟩
      .refine r9 (qM (qQ ?_));by_cases hgs7:(aH==false)=true
       .rw[aUU hgs7] at f;obtain⟨hg10,f⟩:=qI f;refine rF wK ?_ (hp:=by exact⟨id,pV,hgs7,id,id,hg10⟩)
        refine qM ?_;obtain⟨hg11,f⟩:=qI f;refine qC wK ?_ (hp:=by exact⟨pV,hg11⟩)
        refine rF wK ?_;refine rW ?_;cases f;exact sX ⟨⟨[0,2,4],[(0,0),(1,1),(2,2),(3,3)]⟩,_,by rfl,g⟩
       rw[aUX hgs7] at f;refine rF (a15 (l:=[1000000004]) wK pX) ?_ (hp:=by exact⟨by first|exact Bool.eq_false_iff.2 hgs7|simpa using hgs7|simpa[rC] using hgs7,by first|exact Bool.eq_false_iff.2 hgs7|simpa using hgs7|simpa[rC] using hgs7,by first|exact Bool.eq_false_iff.2 hgs7|simpa using hgs7|simpa[rC] using hgs7,by first|exact Bool.eq_false_iff.2 hgs7|simpa using hgs7|simpa[rC] using hgs7,(by first|exact Bool.of_not_eq_false (fun e=>hgs7 (by rw[e];rfl)) |exact Bool.of_not_eq_true (fun e=>hgs7 (by rw[e];rfl)) |simpa using hgs7|simpa[rC] using hgs7)⟩)
       refine qM ?_;obtain⟨hg12,f⟩:=qI f;refine qC wK ?_ (hp:=by exact⟨pV,hg12⟩)
       refine rF wK ?_;refine rW ?_;cases f;exact sX ⟨⟨[0,2,4],[(0,0),(1,1),(2,2),(3,3)]⟩,_,by rfl,g⟩
    .refine tV (tU (tX ?_));cases f;cases g;exact tW ⟨⟨[2],[(0,0),(1,2)]⟩,_,rfl,by rfl⟩
   .rintro _ ⟨v,rfl,rfl⟩;dsimp only at d|-;refine u7 (qM ?_);refine qC wK ?_;refine qS ?_;cases d;exact pH []
def AV (O:(List sE)) (Z:Int) (aA:Int) (aB:sR) (aC:(pO×Unit)) (aD:pM):Option (Int×pF×(List r7)×Bool):=if (((!decide (aA=(0:Int)))==false)=true→0≤(0:Int)∧(0:Int)<(O.length:Int)) then if ((!decide (aA=(0:Int)))||(!decide ((qR sZ O (0:Int)).1=(2:Int))))=true then some (((0:Int),([]:pF),([]:List r7),false)) else if 0≤(0:Int)∧(0:Int)<(O.length:Int) then (FE ((qR sZ O (0:Int)).2.1)).bind fun aE=>some ((aE.1,aE.2.1,aE.2.2.1,aE.2.2.2.1)) else none else none
section
variable (O:(List sE)) (Z:Int) (aA:Int) (aB:sR) (aC:(pO×Unit)) (aD:Nat) (aE:Nat) (aF:pM)
abbrev a9q:List qE:=[(.val .ref (some (0,0)),none)]
abbrev a9r:List qD:=[.cells t6 (O,(Z,(aA,(aB,((some 3),aC))))) [(6,1),(8,2)],.grow 53 7 aD,.grow 3 1 aE,.map .str .bool aF]
@[go_sem] def a9s:qK:=⟨[aD=(aB.2.2.2.1.length),aE=(aC.1.length),((AV O Z aA aB aC aF)).isSome=true],[(.val xF ((val (AV O Z aA aB aC aF)).1,((val (AV O Z aA aB aC aF)).2.1,((val (AV O Z aA aB aC aF)).2.2.1,((val (AV O Z aA aB aC aF)).2.2.2,())))),none)],[.cells t6 (O,(Z,(aA,((aB.1,(aB.2.1,(aB.2.2.1,(aB.2.2.2.1,())))),((some 3),(aC.1,())))))) [(6,1),(8,2)],.grow 53 7 (aB.2.2.2.1.length),.grow 3 1 (aC.1.length),.map .str .bool aF]⟩
def aH9:List qE→List qD→Option qK:=rP (V:=((List sE)×Int×Int×sR×(pO×Unit)×Nat×Nat×pM)) (fun x=>a9q) (fun x=>a9r x.1 x.2.1 x.2.2.1 x.2.2.2.1 x.2.2.2.2.1 x.2.2.2.2.2.1 x.2.2.2.2.2.2.1 x.2.2.2.2.2.2.2) fun x=>a9s x.1 x.2.1 x.2.2.1 x.2.2.2.1 x.2.2.2.2.1 x.2.2.2.2.2.1 x.2.2.2.2.2.2.1 x.2.2.2.2.2.2.2
@[go_sem] def aUG:aH9 (no_index a9q) (no_index (a9r O Z aA aB aC aD aE aF))=some (a9s O Z aA aB aC aD aE aF):=rT (fun⟨a0,a1,a2,a3,a4,a5,a6,a7⟩ ⟨b0,b1,b2,b3,b4,b5,b6,b7⟩ h1 h2=>by cases h1;cases h2;rfl) (O,Z,aA,aB,aC,aD,aE,aF)
end
@[go_sem] abbrev IE:Nat×r5:=(53,⟨[.p t6 [6,8]],aH9,[(0,7,.m)],[0,1,2,3],none⟩)
def PH:rH Tryz.prog [wD,sL,D5,D2,C1,AS,zJ] (rI [aH8]):=⟨⟨wS,⟨sP,⟨EU,⟨HN,⟨DS,⟨G4,⟨AA,trivial⟩⟩⟩⟩⟩⟩⟩,qP aPt rN,rK⟩
def KE:r8 Tryz.prog IE:=by
 refine rU PH Tryz.func53 (c:=_) rfl (N:=33) pW (ts:=[(2,some 100)]) rfl (fun _ _=>rfl) ?_;intro⟨O,Z,aA,aB,aC,aD,aE,aF⟩ hs hrow;dsimp only[a9q,a9r,a9s,rM,qT,r6,rC,rO,Nat.reduceAdd] at hs hrow|-;obtain⟨rfl,rfl,hz⟩:=hs;obtain⟨z0,d⟩:=aUV.1 hz
 try rw[s7 d]
 clear hz;unfold AV at d;refine qC PH ?_;refine qQ ?_;obtain⟨hg1,d⟩:=qI d;refine qC PH ?_ (hp:=by exact⟨id,id,id,id,hg1,id,id,id,sQ⟩);refine qV d (fun d hc1=> ?_) (fun d hc1=> ?_)
 .refine qC PH ?_;refine qS (rG ?_);cases d;exact pH [(0,0),(1,1),(2,2),(3,3)]
 .refine r9 (qM ?_);obtain⟨hg2,d⟩:=qI d;obtain⟨aG,hv3,hw3,d⟩:=qY d
  try simp only[go_sem] at hw3
  refine qC PH ?_ (hp:=by exact⟨hg2,(qW hv3)⟩) (h:=by simp only[go_sem,hw3];rfl);refine qC PH ?_;refine qS ?_;cases d;exact pH [(0,0),(1,1),(2,2),(3,3)]
attribute [irreducible] GJ FE AV
end
noncomputable section
def BM (O:(List sE)) (Z:Int) (aA:Int) (aB:sR) (aC:(pO×Unit)) (aD:pF) (aE:pM):Option ((List sE)×Int×Int):=(AV O Z aA aB aC aE).bind fun aF=>if ((!decide (aF.1=(3:Int)))||(!decide (aF.2.1=aD)))=true then (zT O Z aA aB aC (3:Int) aE).bind fun aG=>(y9 O aG.1 aG.2 (aB.1,(aB.2.1,(aB.2.2.1,(aB.2.2.2.1,())))) (aC.1,()) aE).bind fun aH=>some ((aH,aG.1,aG.2)) else (y9 O Z aA aB aC aE).bind fun aI=>some ((aI,Z,aA))
section
variable (O:pF) (Z:(List sE)) (aA:Int) (aB:Int) (aC:sR) (aD:(pO×Unit)) (aE:Nat) (aF:Nat) (aG:pM)
abbrev a9t:List qE:=[(.val .ref (some (0,0)),none),(.val .str O,none)]
abbrev a9u:List qD:=[.cells t6 (Z,(aA,(aB,(aC,((some 3),aD))))) [(6,1),(8,2)],.grow 53 7 aE,.grow 3 1 aF,.map .str .bool aG]
@[go_sem] def a9v:qK:=⟨[aE=(aC.2.2.2.1.length),aF=(aD.1.length),((BM Z aA aB aC aD O aG)).isSome=true],[(.val (.int .i64) ((qR sZ Z (0:Int)).2.2.1+(((qR sZ Z (0:Int)).2.1).length:Int)),none)],[.cells t6 ((val (BM Z aA aB aC aD O aG)).1,((val (BM Z aA aB aC aD O aG)).2.1,((val (BM Z aA aB aC aD O aG)).2.2,((aC.1,(aC.2.1,(aC.2.2.1,(aC.2.2.2.1,())))),((some 3),(aD.1,())))))) [(6,1),(8,2)],.grow 53 7 (aC.2.2.2.1.length),.grow 3 1 (aD.1.length),.map .str .bool aG]⟩
def aIa:List qE→List qD→Option qK:=rP (V:=(pF×(List sE)×Int×Int×sR×(pO×Unit)×Nat×Nat×pM)) (fun x=>a9t x.1) (fun x=>a9u x.2.1 x.2.2.1 x.2.2.2.1 x.2.2.2.2.1 x.2.2.2.2.2.1 x.2.2.2.2.2.2.1 x.2.2.2.2.2.2.2.1 x.2.2.2.2.2.2.2.2) fun x=>a9v x.1 x.2.1 x.2.2.1 x.2.2.2.1 x.2.2.2.2.1 x.2.2.2.2.2.1 x.2.2.2.2.2.2.1 x.2.2.2.2.2.2.2.1 x.2.2.2.2.2.2.2.2
@[go_sem] def aUH:aIa (no_index (a9t O)) (no_index (a9u Z aA aB aC aD aE aF aG))=some (a9v O Z aA aB aC aD aE aF aG):=rT (fun⟨a0,a1,a2,a3,a4,a5,a6,a7,a8⟩ ⟨b0,b1,b2,b3,b4,b5,b6,b7,b8⟩ h1 h2=>by cases h1;cases h2;rfl) (O,Z,aA,aB,aC,aD,aE,aF,aG)
end
@[go_sem] abbrev TR:Nat×r5:=(55,⟨[.p t6 [6,8],.v],aIa,[(0,7,.m)],[1,2,3],none⟩)
def MR:rH Tryz.prog [wD,sL,zJ] (rI [IE,M6,JU]):=⟨⟨wS,⟨sP,⟨AA,trivial⟩⟩⟩,qP KE (qP OO (qP M9 rN)),rK⟩
def YJ:r8 Tryz.prog TR:=by
 refine rU MR Tryz.func55 (c:=_) rfl (N:=21) pW (ts:=[(4,none)]) rfl (fun _ _=>rfl) ?_;intro⟨O,Z,aA,aB,aC,aD,aE,aF,aG⟩ hs hrow;dsimp only[a9t,a9u,a9v,rM,qT,r6,rC,rO,Nat.reduceAdd] at hs hrow|-;obtain⟨rfl,rfl,hz⟩:=hs;obtain⟨z0,d⟩:=aUV.1 hz
 try rw[s7 d]
 clear hz;unfold BM at d;refine qC MR ?_;refine qQ ?_;obtain⟨aH,hv1,hw1,d⟩:=qY d
 try simp only[go_sem] at hw1
 refine qC MR ?_ (hp:=by exact⟨pV,pV,pV,pV,pV,pV,(qW hv1)⟩) (h:=by simp only[go_sem,hw1];rfl)
 refine qC MR ?_ (hp:=by exact⟨id,id,id,sQ⟩);refine qV d (fun d hc1=> ?_) (fun d hc1=> ?_)
 .obtain⟨aI,hv2,hw2,d⟩:=qY d
  try simp only[go_sem] at hw2
  refine rF MR ?_ (hp:=by exact⟨pV,pV,pV,pV,pV,(qW hv2)⟩) (h:=by simp only[go_sem,hw2];rfl)
  refine qM ?_;obtain⟨aJ,hv3,hw3,d⟩:=qY d
  try simp only[go_sem] at hw3
  refine qC MR ?_ (hp:=by exact⟨pV,pV,pV,pV,pV,(qW hv3)⟩) (h:=by simp only[go_sem,hw3];rfl)
  refine qS ?_;cases d;exact pH [(0,0),(1,1),(2,2),(3,3)]
 .refine r9 (qM ?_);obtain⟨aK,hv4,hw4,d⟩:=qY d
  try simp only[go_sem] at hw4
  refine qC MR ?_ (hp:=by exact⟨pV,pV,pV,pV,pV,(qW hv4)⟩) (h:=by simp only[go_sem,hw4];rfl)
  refine qS ?_;cases d;exact pH [(0,0),(1,1),(2,2),(3,3)]
def BN (O:(List sE)) (Z:Int) (aA:Int) (aB:sR) (aC:(pO×Unit)) (aD:z7) (aE:pM):Option (pF×(List sE)×Int×Int):=(y9 O Z aA aB aC aE).bind fun aF=>if (decide (aD.1=(2:Int)))=true then some ((([]:pF),aF,Z,aA)) else if 0≤(0:Int)∧(0:Int)<(aF.length:Int) then if (decide ((qR sZ aF (0:Int)).1=(3:Int)))=true then if 0≤(0:Int)∧(0:Int)<(aF.length:Int) then (GI ((qR sZ aF (0:Int)).2.1)).bind fun aG=>sU (σ:=(Int×Int)) (if (!aG.2)=true then (zT aF Z aA (aB.1,(aB.2.1,(aB.2.2.1,(aB.2.2.2.1,())))) (aC.1,()) (3:Int) aE).bind fun aH=>some ((aH.1,aH.2)) else some ((Z,aA)) ) fun(aI,aJ)=>(y9 aF aI aJ (aB.1,(aB.2.1,(aB.2.2.1,(aB.2.2.2.1,())))) (aC.1,()) aE).bind fun aK=>(BM aK aI aJ (aB.1,(aB.2.1,(aB.2.2.1,(aB.2.2.2.1,())))) (aC.1,()) aD.2.1 aE).bind fun aL=>some ((aG.1,aL.1,aL.2.1,aL.2.2)) else none else (BM aF Z aA (aB.1,(aB.2.1,(aB.2.2.1,(aB.2.2.2.1,())))) (aC.1,()) aD.2.1 aE).bind fun aM=>some ((([]:pF),aM.1,aM.2.1,aM.2.2)) else none
section
variable (O:z7) (Z:(List sE)) (aA:Int) (aB:Int) (aC:sR) (aD:(pO×Unit)) (aE:Nat) (aF:Nat) (aG:pM)
abbrev a9w:List qE:=[(.val .ref (some (0,0)),none),(.val xF O,none)]
abbrev a9x:List qD:=[.cells t6 (Z,(aA,(aB,(aC,((some 3),aD))))) [(6,1),(8,2)],.grow 53 7 aE,.grow 3 1 aF,.map .str .bool aG]
@[go_sem] def a9y:qK:=⟨[aE=(aC.2.2.2.1.length),aF=(aD.1.length),((BN Z aA aB aC aD O aG)).isSome=true],[(.val .str ((val (BN Z aA aB aC aD O aG)).1),none)],[.cells t6 ((val (BN Z aA aB aC aD O aG)).2.1,((val (BN Z aA aB aC aD O aG)).2.2.1,((val (BN Z aA aB aC aD O aG)).2.2.2,((aC.1,(aC.2.1,(aC.2.2.1,(aC.2.2.2.1,())))),((some 3),(aD.1,())))))) [(6,1),(8,2)],.grow 53 7 (aC.2.2.2.1.length),.grow 3 1 (aD.1.length),.map .str .bool aG]⟩
def aIb:List qE→List qD→Option qK:=rP (V:=(z7×(List sE)×Int×Int×sR×(pO×Unit)×Nat×Nat×pM)) (fun x=>a9w x.1) (fun x=>a9x x.2.1 x.2.2.1 x.2.2.2.1 x.2.2.2.2.1 x.2.2.2.2.2.1 x.2.2.2.2.2.2.1 x.2.2.2.2.2.2.2.1 x.2.2.2.2.2.2.2.2) fun x=>a9y x.1 x.2.1 x.2.2.1 x.2.2.2.1 x.2.2.2.2.1 x.2.2.2.2.2.1 x.2.2.2.2.2.2.1 x.2.2.2.2.2.2.2.1 x.2.2.2.2.2.2.2.2
@[go_sem] def aUI:aIb (no_index (a9w O)) (no_index (a9x Z aA aB aC aD aE aF aG))=some (a9y O Z aA aB aC aD aE aF aG):=rT (fun⟨a0,a1,a2,a3,a4,a5,a6,a7,a8⟩ ⟨b0,b1,b2,b3,b4,b5,b6,b7,b8⟩ h1 h2=>by cases h1;cases h2;rfl) (O,Z,aA,aB,aC,aD,aE,aF,aG)
end
@[go_sem] abbrev MS:Nat×r5:=(114,⟨[.p t6 [6,8],.v],aIb,[(0,7,.m)],[1,2,3],none⟩)
def AW:rH Tryz.prog [wD,sL,D2,C1,AS,zJ] (rI [JU,a9j,M6,TR]):=⟨⟨wS,⟨sP,⟨HN,⟨DS,⟨G4,⟨AA,trivial⟩⟩⟩⟩⟩⟩,qP M9 (qP aH4 (qP OO (qP YJ rN))),rK⟩
def PI:r8 Tryz.prog MS:=by
 refine rU AW Tryz.func114 (c:=_) rfl (N:=44) pW (ts:=[(4,none)]) rfl (fun _ _=>rfl) ?_;intro⟨O,Z,aA,aB,aC,aD,aE,aF,aG⟩ hs hrow;dsimp only[a9w,a9x,a9y,rM,qT,r6,rC,rO,Nat.reduceAdd] at hs hrow|-;obtain⟨rfl,rfl,hz⟩:=hs;obtain⟨z0,d⟩:=aUV.1 hz
 try rw[s7 d]
 clear hz;unfold BN at d;refine qC AW ?_;obtain⟨aH,hv1,hw1,d⟩:=qY d
 try simp only[go_sem] at hw1
 refine qC AW ?_ (hp:=by exact⟨pV,pV,pV,pV,pV,(qW hv1)⟩) (h:=by simp only[go_sem,hw1];rfl)
 refine qQ ?_;refine qC AW ?_;refine qV d (fun d hc1=> ?_) (fun d hc1=> ?_)
 .refine qC AW ?_;refine qS (rG ?_);cases d;exact pH [(0,0),(1,1),(2,2),(3,3)]
 .refine r9 (qM ?_);refine qC AW ?_;refine qQ ?_;obtain⟨hg2,d⟩:=qI d;refine qC AW ?_ (hp:=by exact hg2);refine qV d (fun d hc2=> ?_) (fun d hc2=> ?_)
  .obtain⟨hg3,d⟩:=qI d;obtain⟨aI,hv4,hw4,d⟩:=qY d
   try simp only[go_sem] at hw4
   refine qC AW ?_ (hp:=by exact⟨hg3,(qW hv4)⟩) (h:=by simp only[go_sem,hw4];rfl);refine qQ ?_;refine qC AW ?_;obtain⟨y1,f,d⟩:=qO d;refine yZ (fun s=>s=(fun x=>⟨[(0,(.val .ref (some (0,0)),none)),(3,(.val .ref (some (4,0)),none)),(6,(.val .str aI.1,none))],[(0,.cells t6 (aH,(x.1,(x.2,((aC.1,(aC.2.1,(aC.2.2.1,(aC.2.2.2.1,())))),((some 3),(aD.1,())))))) [(6,1),(8,2)]),(1,.grow 53 7 (aC.2.2.2.1.length)),(2,.grow 3 1 (aD.1.length)),(3,.map .str .bool aG),(4,.cells xF O [])],5,44,4⟩) y1) ?_ ?_
   .refine qV f (fun f hc3=> ?_) (fun f hc3=> ?_)
    .obtain⟨aJ,hv5,hw5,f⟩:=qY f
     try simp only[go_sem] at hw5
     refine rF AW ?_ (hp:=by exact⟨pV,pV,pV,pV,pV,(qW hv5)⟩) (h:=by simp only[go_sem,hw5];rfl)
     cases f;exact uE ⟨⟨[0,3,6],[(0,0),(1,1),(2,2),(3,3),(4,4)]⟩,by rfl⟩
    .refine r9 ?_;cases f;exact uE ⟨⟨[0,3,6],[(0,0),(1,1),(2,2),(3,3),(4,4)]⟩,by rfl⟩
   .rintro _ rfl;obtain⟨aK,aL⟩:=y1;dsimp only at d|-;refine qM ?_;refine qC AW ?_;obtain⟨aM,hv6,hw6,d⟩:=qY d
    try simp only[go_sem] at hw6
    refine rF AW ?_ (hp:=by exact⟨pV,pV,pV,pV,pV,(qW hv6)⟩) (h:=by simp only[go_sem,hw6];rfl)
    refine qM ?_;obtain⟨aN,hv7,hw7,d⟩:=qY d
    try simp only[go_sem] at hw7
    refine qC AW ?_ (hp:=by exact⟨pV,pV,pV,pV,pV,(qW hv7)⟩) (h:=by simp only[go_sem,hw7];rfl)
    refine qC AW ?_;refine qS ?_;cases d;exact pH [(0,0),(1,1),(2,2),(3,3)]
  .refine r9 (qM ?_);obtain⟨aO,hv8,hw8,d⟩:=qY d
   try simp only[go_sem] at hw8
   refine qC AW ?_ (hp:=by exact⟨pV,pV,pV,pV,pV,(qW hv8)⟩) (h:=by simp only[go_sem,hw8];rfl)
   refine qC AW ?_;refine qS ?_;cases d;exact pH [(0,0),(1,1),(2,2),(3,3)]
def DB (O:(List sE)) (Z:Int) (aA:Int) (aB:sR) (aC:(pO×Unit)) (aD:z7) (aE:s8) (aF:pM):Option ((List sE)×Int×Int×pG):=if ((wT aD ([]:pF) ([]:pF))).isSome=true then (wT aD ([]:pF) ([]:pF)).bind fun aG=>(xU O Z aA aB aC (!true) aD.2.2.2.1 (decide ((aE.2.2.2.1.length:Int)=(20:Int))) aF).bind fun aH=>(BN O aH.1 aH.2 (aB.1,(aB.2.1,(aB.2.2.1,(aB.2.2.2.1,())))) (aC.1,()) aD aF).bind fun aI=>if (aE.2.2.2.1.length+([aI.1]:pG).length)*16≤140737488355328 then some ((aI.2.1,aI.2.2.1,aI.2.2.2,(aE.2.2.2.1++([aI.1]:pG)))) else none else (DY aD ([]:pF) ([]:pF)).bind fun aJ=>(xU O Z aA aB aC (!false) aD.2.2.2.1 (decide ((aE.2.2.2.1.length:Int)=(20:Int))) aF).bind fun aK=>(BN O aK.1 aK.2 (aB.1,(aB.2.1,(aB.2.2.1,(aB.2.2.2.1,())))) (aC.1,()) aD aF).bind fun aL=>if (aE.2.2.2.1.length+([aL.1]:pG).length)*16≤140737488355328 then some ((aL.2.1,aL.2.2.1,aL.2.2.2,(aE.2.2.2.1++([aL.1]:pG)))) else none
section
variable (O:z7) (Z:(List sE)) (aA:Int) (aB:Int) (aC:sR) (aD:(pO×Unit)) (aE:Nat) (aF:Nat) (aG:s8) (aH:Nat) (aI:pM)
abbrev a9z:List qE:=[(.val .ref (some (0,0)),none),(.val xF O,none),(.val .ref (some (3,0)),none)]
abbrev a9A:List qD:=[.cells t6 (Z,(aA,(aB,(aC,((some 5),aD))))) [(6,1),(8,2)],.grow 53 7 aE,.grow 3 1 aF,.cells sN aG [(3,4)],.grow 9 1 aH,.map .str .bool aI]
@[go_sem] def a9B:qK:=⟨[aE=(aC.2.2.2.1.length),aF=(aD.1.length),aH=(aG.2.2.2.1.length),((DB Z aA aB aC aD O aG aI)).isSome=true],[],[.cells t6 ((val (DB Z aA aB aC aD O aG aI)).1,((val (DB Z aA aB aC aD O aG aI)).2.1,((val (DB Z aA aB aC aD O aG aI)).2.2.1,((aC.1,(aC.2.1,(aC.2.2.1,(aC.2.2.2.1,())))),((some 5),(aD.1,())))))) [(6,1),(8,2)],.grow 53 7 (aC.2.2.2.1.length),.grow 3 1 (aD.1.length),.cells sN (aG.1,(aG.2.1,(aG.2.2.1,((val (DB Z aA aB aC aD O aG aI)).2.2.2,(aG.2.2.2.2.1,(aG.2.2.2.2.2.1,(aG.2.2.2.2.2.2.1,()))))))) [(3,4)],.grow 9 1 (((val (DB Z aA aB aC aD O aG aI)).2.2.2).length),.map .str .bool aI]⟩
def aIc:List qE→List qD→Option qK:=rP (V:=(z7×(List sE)×Int×Int×sR×(pO×Unit)×Nat×Nat×s8×Nat×pM)) (fun x=>a9z x.1) (fun x=>a9A x.2.1 x.2.2.1 x.2.2.2.1 x.2.2.2.2.1 x.2.2.2.2.2.1 x.2.2.2.2.2.2.1 x.2.2.2.2.2.2.2.1 x.2.2.2.2.2.2.2.2.1 x.2.2.2.2.2.2.2.2.2.1 x.2.2.2.2.2.2.2.2.2.2) fun x=>a9B x.1 x.2.1 x.2.2.1 x.2.2.2.1 x.2.2.2.2.1 x.2.2.2.2.2.1 x.2.2.2.2.2.2.1 x.2.2.2.2.2.2.2.1 x.2.2.2.2.2.2.2.2.1 x.2.2.2.2.2.2.2.2.2.1 x.2.2.2.2.2.2.2.2.2.2
@[go_sem] def aUJ:aIc (no_index (a9z O)) (no_index (a9A Z aA aB aC aD aE aF aG aH aI))=some (a9B O Z aA aB aC aD aE aF aG aH aI):=rT (fun⟨a0,a1,a2,a3,a4,a5,a6,a7,a8,a9,a10⟩ ⟨b0,b1,b2,b3,b4,b5,b6,b7,b8,b9,b10⟩ h1 h2=>by cases h1;cases h2;rfl) (O,Z,aA,aB,aC,aD,aE,aF,aG,aH,aI)
end
@[go_sem] abbrev TS:Nat×r5:=(83,⟨[.p t6 [6,8],.v,.p sN [3]],aIc,[(0,7,.m)],[1,2,5],none⟩)
def MT:rH Tryz.prog [BK,vY,xI,zJ] (rI [P2,EY,MS]):=⟨⟨D7,⟨wE,⟨y7,⟨AA,trivial⟩⟩⟩⟩,qP T3 (qP GA (qP PI rN)),rK⟩
def aPu:rH Tryz.prog [BK,vY,xI,zJ] (rI [EY,MS,P4]):=⟨⟨D7,⟨wE,⟨y7,⟨AA,trivial⟩⟩⟩⟩,qP GA (qP PI (qP T4 rN)),rK⟩
def YK:r8 Tryz.prog TS:=by
 refine rU MT Tryz.func83 (c:=_) rfl (N:=37) pW (ts:=[]) rfl (fun _ _=>rfl) ?_;intro⟨O,Z,aA,aB,aC,aD,aE,aF,aG,aH,aI⟩ hs hrow;dsimp only[a9z,a9A,a9B,rM,qT,r6,rC,rO,Nat.reduceAdd] at hs hrow|-;obtain⟨rfl,rfl,rfl,hz⟩:=hs;obtain⟨z0,d⟩:=aUV.1 hz
 try rw[s7 d]
 clear hz;unfold DB at d;refine qC MT ?_;refine qQ ?_;by_cases hva1:((wT O ([]:pF) ([]:pF))).isSome=true
 .rw[aUU hva1] at d;obtain⟨aJ,hv1,hw1,d⟩:=qY d
  try simp only[go_sem] at hw1
  refine rF MT ?_ (hp:=by exact(qW hv1)) (h:=by simp only[go_sem,hw1];rfl);refine qM ?_;obtain⟨aK,hv2,hw2,d⟩:=qY d
  try simp only[go_sem] at hw2
  refine vN MT ?_ (hp:=by exact⟨pV,pV,pV,pV,pV,(qW hv2)⟩) (h:=by simp only[go_sem,hw2];rfl)
  obtain⟨aL,hv3,hw3,d⟩:=qY d
  try simp only[go_sem] at hw3
  obtain⟨hg4,d⟩:=qI d;refine AQ MT ?_ (hp:=by exact⟨pV,pV,pV,pV,pV,qW hv3,pV,hg4⟩) (h:=by simp only[go_sem,hw3];rfl)
  cases d;exact pH [(0,0),(1,1),(2,2),(3,3),(4,4),(5,5)]
 rw[aUX hva1] at d;obtain⟨aM,hv5,hw5,d⟩:=qY d
 try simp only[go_sem] at hw5
 refine rF aPu ?_ (hp:=by exact(qW hv5)) (h:=by simp only[go_sem,hw5];rfl);refine qM ?_;obtain⟨aN,hv6,hw6,d⟩:=qY d
 try simp only[go_sem] at hw6
 refine vN MT ?_ (hp:=by exact⟨pV,pV,pV,pV,pV,(qW hv6)⟩) (h:=by simp only[go_sem,hw6];rfl)
 obtain⟨aO,hv7,hw7,d⟩:=qY d
 try simp only[go_sem] at hw7
 obtain⟨hg8,d⟩:=qI d;refine AQ MT ?_ (hp:=by exact⟨pV,pV,pV,pV,pV,qW hv7,pV,hg8⟩) (h:=by simp only[go_sem,hw7];rfl)
 cases d;exact pH [(0,0),(1,1),(2,2),(3,3),(4,4),(5,5)]
attribute [irreducible] BM BN DB
end
noncomputable section
def TT (O:z7):(Bool×Int)→Option ((Bool×Int)⊕Bool):=fun(Z,aA)=>if (decide (aA<(O.2.2.1.length:Int)))=true then if 0≤aA∧aA<(O.2.2.1.length:Int) then if ((Z==true)=true→((D8 ((qR (.pair .str (.pair .str .unit)) O.2.2.1 aA).2.1))).isSome=true) then if qG (aA+(1:Int)) then some (.inl ((Z&&(val (D8 ((qR (.pair .str (.pair .str .unit)) O.2.2.1 aA).2.1)))),(aA+(1:Int)))) else none else none else none else some (.inr Z)
def TU (O:z7):(Bool×Int)→Option ((Bool×Int)⊕Bool):=fun(Z,aA)=>if (decide (aA<(O.2.2.1.length:Int)))=true then if 0≤aA∧aA<(O.2.2.1.length:Int) then if ((Z==true)=true→((D8 ((qR (.pair .str (.pair .str .unit)) O.2.2.1 aA).2.1))).isSome=true) then if qG (aA+(1:Int)) then some (.inl ((Z&&(val (D8 ((qR (.pair .str (.pair .str .unit)) O.2.2.1 aA).2.1)))),(aA+(1:Int)))) else none else none else none else some (.inr Z)
def DC (O:(List sE)) (Z:Int) (aA:Int) (aB:sR) (aC:(pO×Unit)) (aD:z7) (aE:s8) (aF:pM):Option ((List sE)×Int×Int×(List r7)):=if ((wT aD ([110,97,109,101]:pF) ([]:pF))).isSome=true then (wT aD ([110,97,109,101]:pF) ([]:pF)).bind fun aG=>(IA aE.2.2.2.2.2.2.1 (s9 .str .str aG ([110,97,109,101]:pF))).bind fun aH=>sU (rQ (TT aD) (true,(0:Int))) fun aI=>(xU O Z aA (aB.1,(aB.2.1,(aB.2.2.1,(aB.2.2.2.1,())))) (aC.1,()) ((!true)||(!aI)) (aD.2.2.2.1||aH.2) (decide ((aE.2.2.2.2.2.2.1.length:Int)=(20:Int))) aF).bind fun aJ=>(BN O aJ.1 aJ.2 (aB.1,(aB.2.1,(aB.2.2.1,(aB.2.2.2.1,())))) (aC.1,()) aD aF).bind fun aK=>(I7 aE.2.2.2.2.2.2.1 (s9 .str .str aG ([110,97,109,101]:pF)) aK.1).bind fun aL=>some ((aK.2.1,aK.2.2.1,aK.2.2.2,aL)) else (DY aD ([110,97,109,101]:pF) ([]:pF)).bind fun aM=>(IA aE.2.2.2.2.2.2.1 ([]:pF)).bind fun aN=>sU (rQ (TU aD) (true,(0:Int))) fun aO=>(xU O Z aA (aB.1,(aB.2.1,(aB.2.2.1,(aB.2.2.2.1,())))) (aC.1,()) ((!false)||(!aO)) (aD.2.2.2.1||aN.2) (decide ((aE.2.2.2.2.2.2.1.length:Int)=(20:Int))) aF).bind fun aP=>(BN O aP.1 aP.2 (aB.1,(aB.2.1,(aB.2.2.1,(aB.2.2.2.1,())))) (aC.1,()) aD aF).bind fun aQ=>(I7 aE.2.2.2.2.2.2.1 ([]:pF) aQ.1).bind fun aR=>some ((aQ.2.1,aQ.2.2.1,aQ.2.2.2,aR))
section
variable (O:z7) (Z:(List sE)) (aA:Int) (aB:Int) (aC:sR) (aD:(pO×Unit)) (aE:Nat) (aF:Nat) (aG:s8) (aH:Nat) (aI:pM)
abbrev a9C:List qE:=[(.val .ref (some (0,0)),none),(.val xF O,none),(.val .ref (some (3,0)),none)]
abbrev a9D:List qD:=[.cells t6 (Z,(aA,(aB,(aC,((some 5),aD))))) [(6,1),(8,2)],.grow 53 7 aE,.grow 3 1 aF,.cells sN aG [(3,4)],.grow 9 1 aH,.map .str .bool aI]
@[go_sem] def a9E:qK:=⟨[aE=(aC.2.2.2.1.length),aF=(aD.1.length),aH=(aG.2.2.2.1.length),((DC Z aA aB aC aD O aG aI)).isSome=true],[],[.cells t6 ((val (DC Z aA aB aC aD O aG aI)).1,((val (DC Z aA aB aC aD O aG aI)).2.1,((val (DC Z aA aB aC aD O aG aI)).2.2.1,((aC.1,(aC.2.1,(aC.2.2.1,(aC.2.2.2.1,())))),((some 5),(aD.1,())))))) [(6,1),(8,2)],.grow 53 7 (aC.2.2.2.1.length),.grow 3 1 (aD.1.length),.cells sN (aG.1,(aG.2.1,(aG.2.2.1,(aG.2.2.2.1,(aG.2.2.2.2.1,(aG.2.2.2.2.2.1,((val (DC Z aA aB aC aD O aG aI)).2.2.2,()))))))) [(3,4),(6,6)],.grow 9 1 (aG.2.2.2.1.length),.map .str .bool aI,.grow 111 2 (((val (DC Z aA aB aC aD O aG aI)).2.2.2).length)]⟩
def aId:List qE→List qD→Option qK:=rP (V:=(z7×(List sE)×Int×Int×sR×(pO×Unit)×Nat×Nat×s8×Nat×pM)) (fun x=>a9C x.1) (fun x=>a9D x.2.1 x.2.2.1 x.2.2.2.1 x.2.2.2.2.1 x.2.2.2.2.2.1 x.2.2.2.2.2.2.1 x.2.2.2.2.2.2.2.1 x.2.2.2.2.2.2.2.2.1 x.2.2.2.2.2.2.2.2.2.1 x.2.2.2.2.2.2.2.2.2.2) fun x=>a9E x.1 x.2.1 x.2.2.1 x.2.2.2.1 x.2.2.2.2.1 x.2.2.2.2.2.1 x.2.2.2.2.2.2.1 x.2.2.2.2.2.2.2.1 x.2.2.2.2.2.2.2.2.1 x.2.2.2.2.2.2.2.2.2.1 x.2.2.2.2.2.2.2.2.2.2
@[go_sem] def aUK:aId (no_index (a9C O)) (no_index (a9D Z aA aB aC aD aE aF aG aH aI))=some (a9E O Z aA aB aC aD aE aF aG aH aI):=rT (fun⟨a0,a1,a2,a3,a4,a5,a6,a7,a8,a9,a10⟩ ⟨b0,b1,b2,b3,b4,b5,b6,b7,b8,b9,b10⟩ h1 h2=>by cases h1;cases h2;rfl) (O,Z,aA,aB,aC,aD,aE,aF,aG,aH,aI)
end
@[go_sem] abbrev TV:Nat×r5:=(84,⟨[.p t6 [6,8],.v,.p sN [3]],aId,[(0,7,.m)],[1,2,4,5],none⟩)
def yN:rH Tryz.prog [BK,sL,y8,xI,D6,zJ,G7,C2] (rI [P2,a7V,OR,EY,MS,a7m]):=⟨⟨D7,⟨sP,⟨z8,⟨y7,⟨EV,⟨AA,⟨JN,⟨DT,trivial⟩⟩⟩⟩⟩⟩⟩⟩,qP T3 (qP aHo (qP SP (qP GA (qP PI (qP aG7 rN))))),rK⟩
def aPv:rH Tryz.prog [BK,sL,y8,xI,D6,zJ,G7,C2] (rI [a7V,OR,EY,MS,a7m,P4]):=⟨⟨D7,⟨sP,⟨z8,⟨y7,⟨EV,⟨AA,⟨JN,⟨DT,trivial⟩⟩⟩⟩⟩⟩⟩⟩,qP aHo (qP SP (qP GA (qP PI (qP aG7 (qP T4 rN))))),rK⟩
def YL:r8 Tryz.prog TV:=by
 refine rU yN Tryz.func84 (c:=_) rfl (N:=74) pW (ts:=[]) rfl (fun _ _=>rfl) ?_;intro⟨O,Z,aA,aB,aC,aD,aE,aF,aG,aH,aI⟩ hs hrow;dsimp only[a9C,a9D,a9E,rM,qT,r6,rC,rO,Nat.reduceAdd] at hs hrow|-;obtain⟨rfl,rfl,rfl,hz⟩:=hs;obtain⟨z0,d⟩:=aUV.1 hz
 try rw[s7 d]
 clear hz;unfold DC at d;refine qC yN ?_;refine qQ ?_;by_cases hva1:((wT O ([110,97,109,101]:pF) ([]:pF))).isSome=true
 .rw[aUU hva1] at d;obtain⟨aJ,hv1,hw1,d⟩:=qY d
  try simp only[go_sem] at hw1
  refine rF yN ?_ (hp:=by exact(qW hv1)) (h:=by simp only[go_sem,hw1];rfl);refine qM ?_;obtain⟨aK,hv2,hw2,d⟩:=qY d
  try simp only[go_sem] at hw2
  refine vN yN ?_ (hp:=by exact(qW hv2)) (h:=by simp only[go_sem,hw2];rfl);refine qC yN ?_;refine qQ ?_;refine qC yN ?_;refine rS ?_;obtain⟨aL,hy1,d⟩:=qO d;refine uA 0 (fun s=>s=(fun x=>⟨[(0,(.val .ref (some (0,0)),none)),(2,(.val .ref (some (3,0)),none)),(4,(.val .ref (some (6,0)),none)),(6,(.val .mp (some 7),none)),(7,(.val .bool true,none)),(9,(.val .bool aK.2,none)),(10,(.val .bool x,none))],[(0,.cells t6 (Z,(aA,(aB,((aC.1,(aC.2.1,(aC.2.2.1,(aC.2.2.2.1,())))),((some 5),(aD.1,())))))) [(6,1),(8,2)]),(1,.grow 53 7 (aC.2.2.2.1.length)),(2,.grow 3 1 (aD.1.length)),(3,.cells sN aG [(3,4)]),(4,.grow 9 1 (aG.2.2.2.1.length)),(5,.map .str .bool aI),(6,.cells xF O []),(7,.map .str .str aJ)],8,74,6⟩) aL) ?_ ?_
  .refine tZ hy1 (fun x=>⟨[(0,(.val .ref (some (0,0)),none)),(2,(.val .ref (some (3,0)),none)),(4,(.val .ref (some (6,0)),none)),(6,(.val .mp (some 7),none)),(7,(.val .bool true,none)),(9,(.val .bool aK.2,none)),(10,(.val .bool x.1,none)),(29,(.val (.list (.pair .str (.pair .str .unit))) O.2.2.1,none)),(30,(.val (.int .i64) (O.2.2.1.length:Int),none)),(31,(.val (.int .i64) x.2,none))],[(0,.cells t6 (Z,(aA,(aB,((aC.1,(aC.2.1,(aC.2.2.1,(aC.2.2.2.1,())))),((some 5),(aD.1,())))))) [(6,1),(8,2)]),(1,.grow 53 7 (aC.2.2.2.1.length)),(2,.grow 3 1 (aD.1.length)),(3,.cells sN aG [(3,4)]),(4,.grow 9 1 (aG.2.2.2.1.length)),(5,.map .str .bool aI),(6,.cells xF O []),(7,.map .str .str aJ)],8,74,6⟩) ⟨[0,2,4,6,7,9,10,29,30,31],[(0,0),(1,1),(2,2),(3,3),(4,4),(5,5),(6,6),(7,70)]⟩ pX ?_;intro x1 w1 n1 e g;obtain⟨aM,aN⟩:=x1;unfold TT at e;dsimp only at e|-;refine qC yN ?_;refine qQ ?_;refine qV e (fun e hc2=> ?_) (fun e hc2=> ?_)
   .refine r9 (qM (qQ (rS ?_)));obtain⟨hg3,e⟩:=qI e;refine qC yN ?_ (hp:=by exact hg3);obtain⟨hg4,e⟩:=qI e;refine rF yN ?_ (hp:=by exact⟨id,id,hg4,sI⟩);refine rW (qM ?_);obtain⟨hg5,e⟩:=qI e;refine rF yN ?_ (hp:=by exact hg5);cases e;exact sX ⟨⟨[0,2,4,6,7,9,10,29,30,31],[(0,0),(1,1),(2,2),(3,3),(4,4),(5,5),(6,6),(7,7)]⟩,_,by rfl,g⟩
   .refine tV (tU (tX ?_));cases e;cases g;exact tW ⟨⟨[0,2,4,6,7,9,10],[(0,0),(1,1),(2,2),(3,3),(4,4),(5,5),(6,6),(7,7)]⟩,by rfl⟩
  .rintro _ rfl;dsimp only at d|-;refine u7 (qM ?_);obtain⟨aO,hv6,hw6,d⟩:=qY d
   try simp only[go_sem] at hw6
   refine vN yN ?_ (hp:=by exact⟨id,fun f=>by first|exact sQ f|exact rfl|exact f.elim|simp_all,sQ,pV,pV,pV,pV,pV,(qW hv6)⟩) (h:=by simp only[go_sem,hw6];rfl)
   obtain⟨aP,hv7,hw7,d⟩:=qY d
   try simp only[go_sem] at hw7
   obtain⟨aQ,hv8,hw8,d⟩:=qY d
   try simp only[go_sem] at hw8
   refine AQ yN ?_ (hp:=by exact⟨pV,pV,pV,pV,pV,qW hv7,(qW hv8)⟩) (h:=by simp only[go_sem,hw7,hw8];rfl)
   cases d;exact pH [(0,0),(1,1),(2,2),(3,3),(4,4),(5,5),(6,936)]
 rw[aUX hva1] at d;obtain⟨aR,hv9,hw9,d⟩:=qY d
 try simp only[go_sem] at hw9
 refine rF aPv ?_ (hp:=by exact(qW hv9)) (h:=by simp only[go_sem,hw9];rfl);refine qM ?_;obtain⟨aS,hv10,hw10,d⟩:=qY d
 try simp only[go_sem] at hw10
 refine vN yN ?_ (hp:=by exact(qW hv10)) (h:=by simp only[go_sem,hw10];rfl);refine qC yN ?_;refine qQ ?_;refine qC yN ?_;refine rS ?_;obtain⟨aT,hy1,d⟩:=qO d;refine uA 0 (fun s=>s=(fun x=>⟨[(0,(.val .ref (some (0,0)),none)),(2,(.val .ref (some (3,0)),none)),(4,(.val .ref (some (6,0)),none)),(6,(.val .mp none,none)),(7,(.val .bool false,none)),(9,(.val .bool aS.2,none)),(10,(.val .bool x,none))],[(0,.cells t6 (Z,(aA,(aB,((aC.1,(aC.2.1,(aC.2.2.1,(aC.2.2.2.1,())))),((some 5),(aD.1,())))))) [(6,1),(8,2)]),(1,.grow 53 7 (aC.2.2.2.1.length)),(2,.grow 3 1 (aD.1.length)),(3,.cells sN aG [(3,4)]),(4,.grow 9 1 (aG.2.2.2.1.length)),(5,.map .str .bool aI),(6,.cells xF O [])],7,74,6⟩) aT) ?_ ?_
 .refine tZ hy1 (fun x=>⟨[(0,(.val .ref (some (0,0)),none)),(2,(.val .ref (some (3,0)),none)),(4,(.val .ref (some (6,0)),none)),(6,(.val .mp none,none)),(7,(.val .bool false,none)),(9,(.val .bool aS.2,none)),(10,(.val .bool x.1,none)),(29,(.val (.list (.pair .str (.pair .str .unit))) O.2.2.1,none)),(30,(.val (.int .i64) (O.2.2.1.length:Int),none)),(31,(.val (.int .i64) x.2,none))],[(0,.cells t6 (Z,(aA,(aB,((aC.1,(aC.2.1,(aC.2.2.1,(aC.2.2.2.1,())))),((some 5),(aD.1,())))))) [(6,1),(8,2)]),(1,.grow 53 7 (aC.2.2.2.1.length)),(2,.grow 3 1 (aD.1.length)),(3,.cells sN aG [(3,4)]),(4,.grow 9 1 (aG.2.2.2.1.length)),(5,.map .str .bool aI),(6,.cells xF O [])],7,74,6⟩) ⟨[0,2,4,6,7,9,10,29,30,31],[(0,0),(1,1),(2,2),(3,3),(4,4),(5,5),(6,6)]⟩ pX ?_;intro x1 w1 n1 e g;obtain⟨aU,aV⟩:=x1;unfold TU at e;dsimp only at e|-;refine qC yN ?_;refine qQ ?_;refine qV e (fun e hc3=> ?_) (fun e hc3=> ?_)
  .refine r9 (qM (qQ (rS ?_)));obtain⟨hg11,e⟩:=qI e;refine qC yN ?_ (hp:=by exact hg11);obtain⟨hg12,e⟩:=qI e;refine rF yN ?_ (hp:=by exact⟨id,id,hg12,sI⟩);refine rW (qM ?_);obtain⟨hg13,e⟩:=qI e;refine rF yN ?_ (hp:=by exact hg13);cases e;exact sX ⟨⟨[0,2,4,6,7,9,10,29,30,31],[(0,0),(1,1),(2,2),(3,3),(4,4),(5,5),(6,6)]⟩,_,by rfl,g⟩
  .refine tV (tU (tX ?_));cases e;cases g;exact tW ⟨⟨[0,2,4,6,7,9,10],[(0,0),(1,1),(2,2),(3,3),(4,4),(5,5),(6,6)]⟩,by rfl⟩
 .rintro _ rfl;dsimp only at d|-;refine u7 (qM ?_);obtain⟨aW,hv14,hw14,d⟩:=qY d
  try simp only[go_sem] at hw14
  refine vN yN ?_ (hp:=by exact⟨id,fun f=>by first|exact sQ f|exact rfl|exact f.elim|simp_all,sQ,pV,pV,pV,pV,pV,(qW hv14)⟩) (h:=by simp only[go_sem,hw14];rfl)
  obtain⟨aX,hv15,hw15,d⟩:=qY d
  try simp only[go_sem] at hw15
  obtain⟨aY,hv16,hw16,d⟩:=qY d
  try simp only[go_sem] at hw16
  refine AQ yN ?_ (hp:=by exact⟨pV,pV,pV,pV,pV,qW hv15,(qW hv16)⟩) (h:=by simp only[go_sem,hw15,hw16];rfl)
  cases d;exact pH [(0,0),(1,1),(2,2),(3,3),(4,4),(5,5),(6,935)]
attribute [irreducible] DC
end
noncomputable section
def AC (O:sR) (Z:(pO×Unit)) (aA:s8) (aB:pM):((List sE)×Int×Int×pF×pF×pG×(List r7)×pM)→Option (((List sE)×Int×Int×pF×pF×pG×(List r7)×pM)⊕(Int×(List sE)×Int×Int×pF×pF×pG×(List r7))):=fun(aC,aD,aE,aF,aG,aH,aI,aJ)=>(AB aC aD aE (O.1,(O.2.1,(O.2.2.1,(O.2.2.2.1,())))) (Z.1,()) aB).bind fun aK=>(AV aK aD aE (O.1,(O.2.1,(O.2.2.1,(O.2.2.2.1,())))) (Z.1,()) aB).bind fun aL=>if ((decide (aL.1=(3:Int)))||(decide (aL.1=(0:Int))))=true then (BM aK aD aE (O.1,(O.2.1,(O.2.2.1,(O.2.2.2.1,())))) (Z.1,()) ([101,110,116,114,121]:pF) aB).bind fun aM=>some (.inr ((((qR sZ aK (0:Int)).2.2.1+(((qR sZ aK (0:Int)).2.1).length:Int)),aM.1,aM.2.1,aM.2.2,aF,aG,aH,aI))) else if (decide (aL.2.1=([99,111,109,109,101,110,116]:pF)))=true then (DB aK aD aE (O.1,(O.2.1,(O.2.2.1,(O.2.2.2.1,())))) (Z.1,()) (aL.1,(aL.2.1,(aL.2.2.1,(aL.2.2.2,())))) (aA.1,(aF,(aG,(aH,(aA.2.2.2.2.1,(aA.2.2.2.2.2.1,(aI,()))))))) aB).bind fun aN=>some (.inl (aN.1,aN.2.1,aN.2.2.1,aF,aG,aN.2.2.2,aI,aJ)) else if (decide (aL.2.1=([102,105,101,108,100]:pF)))=true then (DC aK aD aE (O.1,(O.2.1,(O.2.2.1,(O.2.2.2.1,())))) (Z.1,()) (aL.1,(aL.2.1,(aL.2.2.1,(aL.2.2.2,())))) (aA.1,(aF,(aG,(aH,(aA.2.2.2.2.1,(aA.2.2.2.2.2.1,(aI,()))))))) aB).bind fun aO=>some (.inl (aO.1,aO.2.1,aO.2.2.1,aF,aG,aH,aO.2.2.2,aJ)) else sU (σ:=Bool) (if (decide (aL.2.1=([115,111,117,114,99,101]:pF)))=true then some ((decide (aL.2.1=([115,111,117,114,99,101]:pF)))) else some ((decide (aL.2.1=([116,97,114,103,101,116]:pF)))) ) fun aP=>if aP=true then if ((wT (aL.1,(aL.2.1,(aL.2.2.1,(aL.2.2.2,())))) ([]:pF) ([]:pF))).isSome=true then (wT (aL.1,(aL.2.1,(aL.2.2.1,(aL.2.2.2,())))) ([]:pF) ([]:pF)).bind fun aQ=>(xU aK aD aE (O.1,(O.2.1,(O.2.2.1,(O.2.2.2.1,())))) (Z.1,()) (!true) (aL.2.2.2||(s9 .str .bool aJ aL.2.1)) false aB).bind fun aR=>(BN aK aR.1 aR.2 (O.1,(O.2.1,(O.2.2.1,(O.2.2.2.1,())))) (Z.1,()) (aL.1,(aL.2.1,(aL.2.2.1,(aL.2.2.2,())))) aB).bind fun aS=>if (decide (aL.2.1=([115,111,117,114,99,101]:pF)))=true then some (.inl (aS.2.1,aS.2.2.1,aS.2.2.2,aS.1,aG,aH,aI,(tY .str .bool aL.2.1 true aJ))) else some (.inl (aS.2.1,aS.2.2.1,aS.2.2.2,aF,aS.1,aH,aI,(tY .str .bool aL.2.1 true aJ))) else (DY (aL.1,(aL.2.1,(aL.2.2.1,(aL.2.2.2,())))) ([]:pF) ([]:pF)).bind fun aT=>(xU aK aD aE (O.1,(O.2.1,(O.2.2.1,(O.2.2.2.1,())))) (Z.1,()) (!false) (aL.2.2.2||(s9 .str .bool aJ aL.2.1)) false aB).bind fun aU=>(BN aK aU.1 aU.2 (O.1,(O.2.1,(O.2.2.1,(O.2.2.2.1,())))) (Z.1,()) (aL.1,(aL.2.1,(aL.2.2.1,(aL.2.2.2,())))) aB).bind fun aV=>if (decide (aL.2.1=([115,111,117,114,99,101]:pF)))=true then some (.inl (aV.2.1,aV.2.2.1,aV.2.2.2,aV.1,aG,aH,aI,(tY .str .bool aL.2.1 true aJ))) else some (.inl (aV.2.1,aV.2.2.1,aV.2.2.2,aF,aV.1,aH,aI,(tY .str .bool aL.2.1 true aJ))) else (zT aK aD aE (O.1,(O.2.1,(O.2.2.1,(O.2.2.2.1,())))) (Z.1,()) (3:Int) aB).bind fun aW=>some (.inl (aK,aW.1,aW.2,aF,aG,aH,aI,aJ))
def zK (O:(List sE)) (Z:Int) (aA:Int) (aB:sR) (aC:(pO×Unit)) (aD:s8) (aE:pM):Option (Int×(List sE)×Int×Int×pF×pF×pG×(List r7)):=rQ (AC aB aC aD aE) (O,Z,aA,aD.2.1,aD.2.2.1,aD.2.2.2.1,aD.2.2.2.2.2.2.1,([]:pM))
section
variable (O:(List sE)) (Z:Int) (aA:Int) (aB:sR) (aC:(pO×Unit)) (aD:Nat) (aE:Nat) (aF:s8) (aG:Nat) (aH:pM)
abbrev a9F:List qE:=[(.val .ref (some (0,0)),none),(.val .ref (some (3,0)),none)]
abbrev a9G:List qD:=[.cells t6 (O,(Z,(aA,(aB,((some 5),aC))))) [(6,1),(8,2)],.grow 53 7 aD,.grow 3 1 aE,.cells sN aF [(3,4)],.grow 9 1 aG,.map .str .bool aH]
@[go_sem] def a9H:qK:=⟨[aD=(aB.2.2.2.1.length),aE=(aC.1.length),aG=(aF.2.2.2.1.length),((zK O Z aA aB aC aF aH)).isSome=true],[(.val (.int .i64) ((val (zK O Z aA aB aC aF aH)).1),none)],[.cells t6 ((val (zK O Z aA aB aC aF aH)).2.1,((val (zK O Z aA aB aC aF aH)).2.2.1,((val (zK O Z aA aB aC aF aH)).2.2.2.1,((aB.1,(aB.2.1,(aB.2.2.1,(aB.2.2.2.1,())))),((some 5),(aC.1,())))))) [(6,1),(8,2)],.grow 53 7 (aB.2.2.2.1.length),.grow 3 1 (aC.1.length),.cells sN (aF.1,((val (zK O Z aA aB aC aF aH)).2.2.2.2.1,((val (zK O Z aA aB aC aF aH)).2.2.2.2.2.1,((val (zK O Z aA aB aC aF aH)).2.2.2.2.2.2.1,(aF.2.2.2.2.1,(aF.2.2.2.2.2.1,((val (zK O Z aA aB aC aF aH)).2.2.2.2.2.2.2,()))))))) [(3,4)],.grow 9 1 (((val (zK O Z aA aB aC aF aH)).2.2.2.2.2.2.1).length),.map .str .bool aH]⟩
def aIe:List qE→List qD→Option qK:=rP (V:=((List sE)×Int×Int×sR×(pO×Unit)×Nat×Nat×s8×Nat×pM)) (fun x=>a9F) (fun x=>a9G x.1 x.2.1 x.2.2.1 x.2.2.2.1 x.2.2.2.2.1 x.2.2.2.2.2.1 x.2.2.2.2.2.2.1 x.2.2.2.2.2.2.2.1 x.2.2.2.2.2.2.2.2.1 x.2.2.2.2.2.2.2.2.2) fun x=>a9H x.1 x.2.1 x.2.2.1 x.2.2.2.1 x.2.2.2.2.1 x.2.2.2.2.2.1 x.2.2.2.2.2.2.1 x.2.2.2.2.2.2.2.1 x.2.2.2.2.2.2.2.2.1 x.2.2.2.2.2.2.2.2.2
@[go_sem] def aUL:aIe (no_index a9F) (no_index (a9G O Z aA aB aC aD aE aF aG aH))=some (a9H O Z aA aB aC aD aE aF aG aH):=rT (fun⟨a0,a1,a2,a3,a4,a5,a6,a7,a8,a9⟩ ⟨b0,b1,b2,b3,b4,b5,b6,b7,b8,b9⟩ h1 h2=>by cases h1;cases h2;rfl) (O,Z,aA,aB,aC,aD,aE,aF,aG,aH)
end
@[go_sem] abbrev a9I:Nat×r5:=(93,⟨[.p t6 [6,8],.p sN [3]],aIe,[(0,7,.m)],[1,2,5],none⟩)
def wL:rH Tryz.prog [wD,BK,sL,xI,JO,zJ] (rI [P6,IE,TR,TS,TV,P2,EY,MS,M6]):=⟨⟨wS,⟨D7,⟨sP,⟨y7,⟨ON,⟨AA,trivial⟩⟩⟩⟩⟩⟩,qP T8 (qP KE (qP YJ (qP YK (qP YL (qP T3 (qP GA (qP PI (qP OO rN)))))))),rK⟩
def aPw:rH Tryz.prog [wD,BK,sL,xI,JO,zJ] (rI [P6,IE,TR,TS,TV,EY,MS,P4,M6]):=⟨⟨wS,⟨D7,⟨sP,⟨y7,⟨ON,⟨AA,trivial⟩⟩⟩⟩⟩⟩,qP T8 (qP KE (qP YJ (qP YK (qP YL (qP GA (qP PI (qP T4 (qP OO rN)))))))),rK⟩
def aIf:r8 Tryz.prog a9I:=by
 refine rU wL Tryz.func93 (c:=_) rfl (N:=78) pW (ts:=[(4,none)]) rfl (fun _ _=>rfl) ?_;intro⟨O,Z,aA,aB,aC,aD,aE,aF,aG,aH⟩ hs hrow;dsimp only[a9F,a9G,a9H,rM,qT,r6,rC,rO,Nat.reduceAdd] at hs hrow|-;obtain⟨rfl,rfl,rfl,hz⟩:=hs;obtain⟨z0,g⟩:=aUV.1 hz
 try rw[s7 g]
 clear hz;unfold zK at g;refine qC wL ?_;refine qC wL ?_;refine rS ?_;have hy1:=g;refine tZ hy1 (fun x=>⟨[(0,(.val .ref (some (0,0)),none)),(1,(.val .ref (some (3,0)),none)),(5,(.val .mp (some 6),none))],[(0,.cells t6 (x.1,(x.2.1,(x.2.2.1,((aB.1,(aB.2.1,(aB.2.2.1,(aB.2.2.2.1,())))),((some 5),(aC.1,())))))) [(6,1),(8,2)]),(1,.grow 53 7 (aB.2.2.2.1.length)),(2,.grow 3 1 (aC.1.length)),(3,.cells sN (aF.1,(x.2.2.2.1,(x.2.2.2.2.1,(x.2.2.2.2.2.1,(aF.2.2.2.2.1,(aF.2.2.2.2.2.1,(x.2.2.2.2.2.2.1,()))))))) [(3,4)]),(4,.grow 9 1 (x.2.2.2.2.2.1.length)),(5,.map .str .bool aH),(6,.map .str .bool x.2.2.2.2.2.2.2)],7,78,6⟩) ⟨[0,1,5],[(0,0),(1,1),(2,2),(3,3),(4,4),(5,5),(6,38)]⟩ pX ?_;intro x1 w1 n1 d f;obtain⟨aI,aJ,aK,aL,aM,aN,aO,aP⟩:=x1;unfold AC at d;dsimp only at d|-;refine rS ?_;obtain⟨aQ,hv1,hw1,d⟩:=qY d
 try simp only[go_sem] at hw1
 refine qC wL ?_ (hp:=by exact⟨pV,pV,pV,pV,pV,(qW hv1)⟩) (h:=by simp only[go_sem,hw1];rfl)
 obtain⟨aR,hv2,hw2,d⟩:=qY d
 try simp only[go_sem] at hw2
 refine qC wL ?_ (hp:=by exact⟨pV,pV,pV,pV,pV,pV,(qW hv2)⟩) (h:=by simp only[go_sem,hw2];rfl)
 refine qQ ?_;refine qC wL ?_ (hp:=by exact⟨id,id,sQ⟩);refine qV d (fun d hc1=> ?_) (fun d hc1=> ?_)
 .obtain⟨aS,hv3,hw3,d⟩:=qY d
  try simp only[go_sem] at hw3
  refine qC wL ?_ (hp:=by exact⟨pV,pV,pV,pV,pV,(qW hv3)⟩) (h:=by simp only[go_sem,hw3];rfl)
  refine qS (rG (rY (vE (rY ?_))));cases d;have g:=aVc some (show _=_ from f);cases g;exact pH [(0,0),(1,1),(2,2),(3,3),(4,4),(5,5)]
 .refine r9 (qM ?_);refine qC wL ?_;refine rS ?_;refine qC wL ?_;refine qV d (fun d hc2=> ?_) (fun d hc2=> ?_)
  .obtain⟨aT,hv4,hw4,d⟩:=qY d
   try simp only[go_sem] at hw4
   refine rF wL ?_ (hp:=by exact⟨pV,pV,pV,pV,pV,pV,(qW hv4)⟩) (h:=by simp only[go_sem,hw4];rfl)
   refine rW (rW ?_);cases d;exact sX ⟨⟨[0,1,5],[(0,0),(1,1),(2,2),(3,3),(4,4),(5,5),(6,6)]⟩,_,by rfl,f⟩
  .refine qC wL ?_;refine qV d (fun d hc3=> ?_) (fun d hc3=> ?_)
   .obtain⟨aU,hv5,hw5,d⟩:=qY d
    try simp only[go_sem] at hw5
    refine rF wL ?_ (hp:=by exact⟨pV,pV,pV,pV,pV,pV,pV,(qW hv5)⟩) (h:=by simp only[go_sem,hw5];rfl)
    refine rW (rW ?_);cases d;exact sX ⟨⟨[0,1,5],[(0,0),(1,1),(2,2),(3,3),(4,4),(5,5),(6,6)]⟩,_,by rfl,f⟩
   .refine qQ ?_;refine qC wL ?_;obtain⟨aV,i,d⟩:=qO d;refine yZ (fun s=>s=(fun x=>⟨[(0,(.val .ref (some (0,0)),none)),(1,(.val .ref (some (3,0)),none)),(5,(.val .mp (some 6),none)),(6,(.val .ref (some (7,0)),none)),(41,(.val .bool x,none))],[(0,.cells t6 (aQ,(aJ,(aK,((aB.1,(aB.2.1,(aB.2.2.1,(aB.2.2.2.1,())))),((some 5),(aC.1,())))))) [(6,1),(8,2)]),(1,.grow 53 7 (aB.2.2.2.1.length)),(2,.grow 3 1 (aC.1.length)),(3,.cells sN (aF.1,(aL,(aM,(aN,(aF.2.2.2.2.1,(aF.2.2.2.2.2.1,(aO,()))))))) [(3,4)]),(4,.grow 9 1 (aN.length)),(5,.map .str .bool aH),(6,.map .str .bool aP),(7,.cells xF (aR.1,(aR.2.1,(aR.2.2.1,(aR.2.2.2,())))) [])],8,78,6⟩) aV) ?_ ?_
    .refine qV i (fun i hc4=> ?_) (fun i hc4=> ?_)
     .refine r9 ?_;cases i;exact uE ⟨⟨[0,1,5,6,41],[(0,0),(1,1),(2,2),(3,3),(4,4),(5,5),(6,6),(7,135)]⟩,by rfl⟩
     .refine rF wL ?_;cases i;exact uE ⟨⟨[0,1,5,6,41],[(0,0),(1,1),(2,2),(3,3),(4,4),(5,5),(6,6),(7,135)]⟩,by rfl⟩
    .rintro _ rfl;dsimp only at d|-;refine qM ?_;refine qV d (fun d hc5=> ?_) (fun d hc5=> ?_)
     .refine qQ ?_;by_cases hva6:((wT (aR.1,(aR.2.1,(aR.2.2.1,(aR.2.2.2,())))) ([]:pF) ([]:pF))).isSome=true
      .rw[aUU hva6] at d;obtain⟨aW,hv6,hw6,d⟩:=qY d
       try simp only[go_sem] at hw6
       refine rF wL ?_ (hp:=by exact(qW hv6)) (h:=by simp only[go_sem,hw6];rfl);refine qM ?_;obtain⟨aX,hv7,hw7,d⟩:=qY d
       try simp only[go_sem] at hw7
       refine qC wL ?_ (hp:=by exact⟨id,id,id,sQ,pV,pV,pV,pV,pV,(qW hv7)⟩) (h:=by simp only[go_sem,hw7];rfl)
       refine qC wL ?_;obtain⟨aY,hv8,hw8,d⟩:=qY d
       try simp only[go_sem] at hw8
       refine qC wL ?_ (hp:=by exact⟨pV,pV,pV,pV,pV,(qW hv8)⟩) (h:=by simp only[go_sem,hw8];rfl)
       refine qC wL ?_;refine qV d (fun d hc7=> ?_) (fun d hc7=> ?_)
       .refine rF wL ?_;refine rW (rW ?_);cases d;exact sX ⟨⟨[0,1,5],[(0,0),(1,1),(2,2),(3,3),(4,4),(5,5),(6,6)]⟩,_,by rfl,f⟩
       .refine rF wL ?_;refine rW (rW ?_);cases d;exact sX ⟨⟨[0,1,5],[(0,0),(1,1),(2,2),(3,3),(4,4),(5,5),(6,6)]⟩,_,by rfl,f⟩
      rw[aUX hva6] at d;obtain⟨aZ,hv9,hw9,d⟩:=qY d
      try simp only[go_sem] at hw9
      refine rF aPw ?_ (hp:=by exact(qW hv9)) (h:=by simp only[go_sem,hw9];rfl);refine qM ?_;obtain⟨bA,hv10,hw10,d⟩:=qY d
      try simp only[go_sem] at hw10
      refine qC wL ?_ (hp:=by exact⟨id,id,id,sQ,pV,pV,pV,pV,pV,(qW hv10)⟩) (h:=by simp only[go_sem,hw10];rfl)
      refine qC wL ?_;obtain⟨bB,hv11,hw11,d⟩:=qY d
      try simp only[go_sem] at hw11
      refine qC wL ?_ (hp:=by exact⟨pV,pV,pV,pV,pV,(qW hv11)⟩) (h:=by simp only[go_sem,hw11];rfl)
      refine qC wL ?_;refine qV d (fun d hc8=> ?_) (fun d hc8=> ?_)
      .refine rF wL ?_;refine rW (rW ?_);cases d;exact sX ⟨⟨[0,1,5],[(0,0),(1,1),(2,2),(3,3),(4,4),(5,5),(6,6)]⟩,_,by rfl,f⟩
      .refine rF wL ?_;refine rW (rW ?_);cases d;exact sX ⟨⟨[0,1,5],[(0,0),(1,1),(2,2),(3,3),(4,4),(5,5),(6,6)]⟩,_,by rfl,f⟩
     .obtain⟨bC,hv12,hw12,d⟩:=qY d
      try simp only[go_sem] at hw12
      refine rF wL ?_ (hp:=by exact⟨pV,pV,pV,pV,pV,(qW hv12)⟩) (h:=by simp only[go_sem,hw12];rfl)
      refine rW (rW ?_);cases d;exact sX ⟨⟨[0,1,5],[(0,0),(1,1),(2,2),(3,3),(4,4),(5,5),(6,6)]⟩,_,by rfl,f⟩
attribute [irreducible] zK
end
end Go.Proofs.YtkpflnijijccpaaGreatDoor
namespace Go.Proofs.YtkpflnijijccpaaGreatDoor.Vc
open Go.RowKit
section
variable {R:Bool}{P:Program}{T:sY}{Γ:uL}(E:rH P T Γ) {s:St}{Q:Ex->St->Prop}
include E
theorem aPx (i0 j0:Nat) {id:Nat}{ops:Array Oper}{a a1:wA}{o1:Oper}{ex fx:qU}(h:vB T Γ ops.toList ops.toList (some ⟨s,[],[]⟩)=some a) (hf:NO i0 j0 ops s.nb a.es.reverse=true) (hp:rC a.side) (hij0:i0<j0) (hex:a.es.reverse[i0]? =some ex) (hup:ex.upd=[]) (hfx:a.es.reverse[j0]? =some fx) (ho1:ops.toList[i0]? =some o1) (ha1:vB T Γ ops.toList (ops.toList.take i0) (some ⟨s,[],[]⟩)=some a1) (hx1:zG T Γ ops.toList o1 ⟨a1.s.env,qZ (xO fx) a1.s.H,a1.s.nb,a1.s.N,a1.s.np⟩=some ex) (hq:Q .normal a.s):Ev R P (.region id ops true) s Q:=
 fun ro hro A L g0 w0 g w' w B hB hr hg hn=>aD2 E.T E.Γ E.m h hf (fun _=>⟨hij0,_,_,_,_,hex,hup,hfx,ho1,ha1,hx1⟩) (XE hp) hr hg hn.symm (fun g' a' w' hr' hg'=>⟨.normal,g',a.s,rfl,hq,hr',hg',(G0 h).2.2.trans hn⟩)
theorem YM (i0 j0:Nat) {id:Nat}{ops:Array Oper}{a a1:wA}{o1:Oper}{ex fx:qU}{y:Code}(hq:Ev R P y a.s Q) (h:vB T Γ ops.toList ops.toList (some ⟨s,[],[]⟩)=some a:=by simp only[go_sem];rfl) (hp:rC a.side:=by exact trivial) (hf:NO i0 j0 ops s.nb a.es.reverse=true:=by kernel_rfl) (hij0:i0<j0:=by decide) (hex:a.es.reverse[i0]? =some ex:=by rfl) (hup:ex.upd=[]:=by rfl) (hfx:a.es.reverse[j0]? =some fx:=by rfl) (ho1:ops.toList[i0]? =some o1:=by rfl) (ha1:vB T Γ ops.toList (ops.toList.take i0) (some ⟨s,[],[]⟩)=some a1:=by simp only[go_sem,List.take_succ_cons,List.take_zero];rfl) (hx1:zG T Γ ops.toList o1 ⟨a1.s.env,qZ (xO fx) a1.s.H,a1.s.nb,a1.s.N,a1.s.np⟩=some ex:=by simp only[go_sem];rfl):Ev R P (.seq (.region id ops true) y) s Q:=
 qQ (aPx E i0 j0 h hf hp hij0 hex hup hfx ho1 ha1 hx1 hq)
end
end Go.Proofs.YtkpflnijijccpaaGreatDoor.Vc
namespace Go.Proofs.YtkpflnijijccpaaGreatDoor
open Vc
noncomputable section
def TW (O:(Int×pF×(List r7)×Bool)):(Bool×Int)→Option ((Bool×Int)⊕Bool):=fun(Z,aA)=>if (decide (aA<(O.2.2.1.length:Int)))=true then if 0≤aA∧aA<(O.2.2.1.length:Int) then if ((Z==true)=true→((EX ((qR (.pair .str (.pair .str .unit)) O.2.2.1 aA).2.1))).isSome=true) then if qG (aA+(1:Int)) then some (.inl ((Z&&(val (EX ((qR (.pair .str (.pair .str .unit)) O.2.2.1 aA).2.1)))),(aA+(1:Int)))) else none else none else none else some (.inr Z)
def DD (O:sR) (Z:(pO×Unit)) (aA:pM) (aB:(List (pF×pF))):((List sE)×Int×Int×Int×pF×(List r7)×Bool×pG×(List r7))→Option (((List sE)×Int×Int×Int×pF×(List r7)×Bool×pG×(List r7))⊕(((List sE)×Int×Int)⊕((List sE)×Int×Int×pF×pG×(List r7)×pO))):=fun(aC,aD,aE,aF,aG,aH,aI,aJ,aK)=>if (decide (aE=(0:Int)))=true then (AB aC aD aE ((s9 .str .str aB ([116,97,103]:pF)),(O.2.1,(O.2.2.1,(O.2.2.2.1,())))) (Z.1,()) aA).bind fun aL=>(AV aL aD aE ((s9 .str .str aB ([116,97,103]:pF)),(O.2.1,(O.2.2.1,(O.2.2.2.1,())))) (Z.1,()) aA).bind fun aM=>if ((decide (aM.2.1=([99,111,109,109,101,110,116]:pF)))&&(!decide (aM.1=(3:Int))))=true then (DB aL aD aE ((s9 .str .str aB ([116,97,103]:pF)),(O.2.1,(O.2.2.1,(O.2.2.2.1,())))) (Z.1,()) (aM.1,(aM.2.1,(aM.2.2.1,(aM.2.2.2,())))) (([]:pF),(([]:pF),(([]:pF),(aJ,(([]:pG),((0:Int),(aK,()))))))) aA).bind fun aN=>some (.inl (aN.1,aN.2.1,aN.2.2.1,aM.1,aM.2.1,aM.2.2.1,aM.2.2.2,aN.2.2.2,aK)) else if ((decide (aM.2.1=([102,105,101,108,100]:pF)))&&(!decide (aM.1=(3:Int))))=true then (DC aL aD aE ((s9 .str .str aB ([116,97,103]:pF)),(O.2.1,(O.2.2.1,(O.2.2.2.1,())))) (Z.1,()) (aM.1,(aM.2.1,(aM.2.2.1,(aM.2.2.2,())))) (([]:pF),(([]:pF),(([]:pF),(aJ,(([]:pG),((0:Int),(aK,()))))))) aA).bind fun aO=>some (.inl (aO.1,aO.2.1,aO.2.2.1,aM.1,aM.2.1,aM.2.2.1,aM.2.2.2,aJ,aO.2.2.2)) else if ((wT (aM.1,(aM.2.1,(aM.2.2.1,(aM.2.2.2,())))) ([]:pF) ([]:pF))).isSome=true then (wT (aM.1,(aM.2.1,(aM.2.2.1,(aM.2.2.2,())))) ([]:pF) ([]:pF)).bind fun aP=>(xU aL aD aE ((s9 .str .str aB ([116,97,103]:pF)),(O.2.1,(O.2.2.1,(O.2.2.2.1,())))) (Z.1,()) ((!decide (aM.1=(1:Int)))||(!decide (aM.2.1=([101,110,116,114,105,101,115]:pF)))) aM.2.2.2 false aA).bind fun aQ=>(y9 aL aQ.1 aQ.2 ((s9 .str .str aB ([116,97,103]:pF)),(O.2.1,(O.2.2.1,(O.2.2.2.1,())))) (Z.1,()) aA).bind fun aR=>if (Z.1.length+([((qR sZ aL (0:Int)).2.2.1+(((qR sZ aL (0:Int)).2.1).length:Int))]:pO).length)*8≤140737488355328 then some (.inr (.inr ((aR,aQ.1,aQ.2,(s9 .str .str aB ([116,97,103]:pF)),aJ,aK,(Z.1++([((qR sZ aL (0:Int)).2.2.1+(((qR sZ aL (0:Int)).2.1).length:Int))]:pO)))))) else none else (DY (aM.1,(aM.2.1,(aM.2.2.1,(aM.2.2.2,())))) ([]:pF) ([]:pF)).bind fun aS=>(xU aL aD aE ((s9 .str .str aB ([116,97,103]:pF)),(O.2.1,(O.2.2.1,(O.2.2.2.1,())))) (Z.1,()) (((!decide (aM.1=(1:Int)))||(!decide (aM.2.1=([101,110,116,114,105,101,115]:pF))))||true) aM.2.2.2 false aA).bind fun aT=>(y9 aL aT.1 aT.2 ((s9 .str .str aB ([116,97,103]:pF)),(O.2.1,(O.2.2.1,(O.2.2.2.1,())))) (Z.1,()) aA).bind fun aU=>if (Z.1.length+([((qR sZ aL (0:Int)).2.2.1+(((qR sZ aL (0:Int)).2.1).length:Int))]:pO).length)*8≤140737488355328 then some (.inr (.inr ((aU,aT.1,aT.2,(s9 .str .str aB ([116,97,103]:pF)),aJ,aK,(Z.1++([((qR sZ aL (0:Int)).2.2.1+(((qR sZ aL (0:Int)).2.1).length:Int))]:pO)))))) else none else some (.inr (.inl (aC,aD,aE)))
def TX (O:(Int×pF×(List r7)×Bool)):(Bool×Int)→Option ((Bool×Int)⊕Bool):=fun(Z,aA)=>if (decide (aA<(O.2.2.1.length:Int)))=true then if 0≤aA∧aA<(O.2.2.1.length:Int) then if ((Z==true)=true→((EX ((qR (.pair .str (.pair .str .unit)) O.2.2.1 aA).2.1))).isSome=true) then if qG (aA+(1:Int)) then some (.inl ((Z&&(val (EX ((qR (.pair .str (.pair .str .unit)) O.2.2.1 aA).2.1)))),(aA+(1:Int)))) else none else none else none else some (.inr Z)
def YN (O:sR) (Z:(pO×Unit)) (aA:pM):((List sE)×Int×Int×Int×pF×(List r7)×Bool×pG×(List r7))→Option (((List sE)×Int×Int×Int×pF×(List r7)×Bool×pG×(List r7))⊕(((List sE)×Int×Int)⊕((List sE)×Int×Int×pF×pG×(List r7)×pO))):=fun(aB,aC,aD,aE,aF,aG,aH,aI,aJ)=>if (decide (aD=(0:Int)))=true then (AB aB aC aD (([]:pF),(O.2.1,(O.2.2.1,(O.2.2.2.1,())))) (Z.1,()) aA).bind fun aK=>(AV aK aC aD (([]:pF),(O.2.1,(O.2.2.1,(O.2.2.2.1,())))) (Z.1,()) aA).bind fun aL=>if ((decide (aL.2.1=([99,111,109,109,101,110,116]:pF)))&&(!decide (aL.1=(3:Int))))=true then (DB aK aC aD (([]:pF),(O.2.1,(O.2.2.1,(O.2.2.2.1,())))) (Z.1,()) (aL.1,(aL.2.1,(aL.2.2.1,(aL.2.2.2,())))) (([]:pF),(([]:pF),(([]:pF),(aI,(([]:pG),((0:Int),(aJ,()))))))) aA).bind fun aM=>some (.inl (aM.1,aM.2.1,aM.2.2.1,aL.1,aL.2.1,aL.2.2.1,aL.2.2.2,aM.2.2.2,aJ)) else if ((decide (aL.2.1=([102,105,101,108,100]:pF)))&&(!decide (aL.1=(3:Int))))=true then (DC aK aC aD (([]:pF),(O.2.1,(O.2.2.1,(O.2.2.2.1,())))) (Z.1,()) (aL.1,(aL.2.1,(aL.2.2.1,(aL.2.2.2,())))) (([]:pF),(([]:pF),(([]:pF),(aI,(([]:pG),((0:Int),(aJ,()))))))) aA).bind fun aN=>some (.inl (aN.1,aN.2.1,aN.2.2.1,aL.1,aL.2.1,aL.2.2.1,aL.2.2.2,aI,aN.2.2.2)) else if ((wT (aL.1,(aL.2.1,(aL.2.2.1,(aL.2.2.2,())))) ([]:pF) ([]:pF))).isSome=true then (wT (aL.1,(aL.2.1,(aL.2.2.1,(aL.2.2.2,())))) ([]:pF) ([]:pF)).bind fun aO=>(xU aK aC aD (([]:pF),(O.2.1,(O.2.2.1,(O.2.2.2.1,())))) (Z.1,()) ((!decide (aL.1=(1:Int)))||(!decide (aL.2.1=([101,110,116,114,105,101,115]:pF)))) aL.2.2.2 false aA).bind fun aP=>(y9 aK aP.1 aP.2 (([]:pF),(O.2.1,(O.2.2.1,(O.2.2.2.1,())))) (Z.1,()) aA).bind fun aQ=>if (Z.1.length+([((qR sZ aK (0:Int)).2.2.1+(((qR sZ aK (0:Int)).2.1).length:Int))]:pO).length)*8≤140737488355328 then some (.inr (.inr ((aQ,aP.1,aP.2,([]:pF),aI,aJ,(Z.1++([((qR sZ aK (0:Int)).2.2.1+(((qR sZ aK (0:Int)).2.1).length:Int))]:pO)))))) else none else (DY (aL.1,(aL.2.1,(aL.2.2.1,(aL.2.2.2,())))) ([]:pF) ([]:pF)).bind fun aR=>(xU aK aC aD (([]:pF),(O.2.1,(O.2.2.1,(O.2.2.2.1,())))) (Z.1,()) (((!decide (aL.1=(1:Int)))||(!decide (aL.2.1=([101,110,116,114,105,101,115]:pF))))||true) aL.2.2.2 false aA).bind fun aS=>(y9 aK aS.1 aS.2 (([]:pF),(O.2.1,(O.2.2.1,(O.2.2.2.1,())))) (Z.1,()) aA).bind fun aT=>if (Z.1.length+([((qR sZ aK (0:Int)).2.2.1+(((qR sZ aK (0:Int)).2.1).length:Int))]:pO).length)*8≤140737488355328 then some (.inr (.inr ((aT,aS.1,aS.2,([]:pF),aI,aJ,(Z.1++([((qR sZ aK (0:Int)).2.2.1+(((qR sZ aK (0:Int)).2.1).length:Int))]:pO)))))) else none else some (.inr (.inl (aB,aC,aD)))
def CA (O:(List sE)) (Z:Int) (aA:Int) (aB:sR) (aC:(pO×Unit)) (aD:pM):Option ((List sE)×Int×Int×pF×pG×(List r7)×pO):=(AB O Z aA aB aC aD).bind fun aE=>(AV aE Z aA (aB.1,(aB.2.1,(aB.2.2.1,(aB.2.2.2.1,())))) (aC.1,()) aD).bind fun aF=>if ((wT (aF.1,(aF.2.1,(aF.2.2.1,(aF.2.2.2,())))) ([116,97,103]:pF) ([]:pF))).isSome=true then (wT (aF.1,(aF.2.1,(aF.2.2.1,(aF.2.2.2,())))) ([116,97,103]:pF) ([]:pF)).bind fun aG=>sU (rQ (TW aF) (true,(0:Int))) fun aH=>(xU aE Z aA (aB.1,(aB.2.1,(aB.2.2.1,(aB.2.2.2.1,())))) (aC.1,()) (((!decide (aF.1=(1:Int)))||(!decide (aF.2.1=([99,97,116,97,108,111,103]:pF))))||(!aH)) aF.2.2.2 false aD).bind fun aI=>(y9 aE aI.1 aI.2 ((s9 .str .str aG ([116,97,103]:pF)),(aB.2.1,(aB.2.2.1,(aB.2.2.2.1,())))) (aC.1,()) aD).bind fun aJ=>uF (rQ (DD aB aC aD aG) (aJ,aI.1,aI.2,aF.1,aF.2.1,aF.2.2.1,aF.2.2.2,([]:pG),([]:List r7))) fun(aK,aL,aM)=>some ((aK,aL,aM,(s9 .str .str aG ([116,97,103]:pF)),aB.2.1,aB.2.2.1,aC.1)) else (DY (aF.1,(aF.2.1,(aF.2.2.1,(aF.2.2.2,())))) ([116,97,103]:pF) ([]:pF)).bind fun aN=>sU (rQ (TX aF) (true,(0:Int))) fun aO=>(xU aE Z aA (aB.1,(aB.2.1,(aB.2.2.1,(aB.2.2.2.1,())))) (aC.1,()) ((((!decide (aF.1=(1:Int)))||(!decide (aF.2.1=([99,97,116,97,108,111,103]:pF))))||true)||(!aO)) aF.2.2.2 false aD).bind fun aP=>(y9 aE aP.1 aP.2 (([]:pF),(aB.2.1,(aB.2.2.1,(aB.2.2.2.1,())))) (aC.1,()) aD).bind fun aQ=>uF (rQ (YN aB aC aD) (aQ,aP.1,aP.2,aF.1,aF.2.1,aF.2.2.1,aF.2.2.2,([]:pG),([]:List r7))) fun(aR,aS,aT)=>some ((aR,aS,aT,([]:pF),aB.2.1,aB.2.2.1,aC.1))
section
variable (O:(List sE)) (Z:Int) (aA:Int) (aB:sR) (aC:(pO×Unit)) (aD:Nat) (aE:Nat) (aF:pM)
abbrev a9J:List qE:=[(.val .ref (some (0,0)),none)]
abbrev a9K:List qD:=[.cells t6 (O,(Z,(aA,(aB,((some 3),aC))))) [(6,1),(8,2)],.grow 53 7 aD,.grow 3 1 aE,.map .str .bool aF]
@[go_sem] def a9L:qK:=⟨[aD=(aB.2.2.2.1.length),aE=(aC.1.length),((CA O Z aA aB aC aF)).isSome=true],[],[.cells t6 ((val (CA O Z aA aB aC aF)).1,((val (CA O Z aA aB aC aF)).2.1,((val (CA O Z aA aB aC aF)).2.2.1,(((val (CA O Z aA aB aC aF)).2.2.2.1,((val (CA O Z aA aB aC aF)).2.2.2.2.1,((val (CA O Z aA aB aC aF)).2.2.2.2.2.1,(aB.2.2.2.1,())))),((some 3),((val (CA O Z aA aB aC aF)).2.2.2.2.2.2,())))))) [(6,1),(8,2)],.grow 53 7 (aB.2.2.2.1.length),.grow 3 1 (((val (CA O Z aA aB aC aF)).2.2.2.2.2.2).length),.map .str .bool aF]⟩
def aIg:List qE→List qD→Option qK:=rP (V:=((List sE)×Int×Int×sR×(pO×Unit)×Nat×Nat×pM)) (fun x=>a9J) (fun x=>a9K x.1 x.2.1 x.2.2.1 x.2.2.2.1 x.2.2.2.2.1 x.2.2.2.2.2.1 x.2.2.2.2.2.2.1 x.2.2.2.2.2.2.2) fun x=>a9L x.1 x.2.1 x.2.2.1 x.2.2.2.1 x.2.2.2.2.1 x.2.2.2.2.2.1 x.2.2.2.2.2.2.1 x.2.2.2.2.2.2.2
@[go_sem] def aUM:aIg (no_index a9J) (no_index (a9K O Z aA aB aC aD aE aF))=some (a9L O Z aA aB aC aD aE aF):=rT (fun⟨a0,a1,a2,a3,a4,a5,a6,a7⟩ ⟨b0,b1,b2,b3,b4,b5,b6,b7⟩ h1 h2=>by cases h1;cases h2;rfl) (O,Z,aA,aB,aC,aD,aE,aF)
end
@[go_sem] abbrev aIh:Nat×r5:=(51,⟨[.p t6 [6,8]],aIg,[(0,7,.m)],[1,3],none⟩)
def tO:rH Tryz.prog [wD,BK,sL,vY,D5,y8,BJ,xI,EW,C1,D6,zJ,G7,C2] (rI [P6,IE,P2,Y6,EY,JU,TS,TV]):=⟨⟨wS,⟨D7,⟨sP,⟨wE,⟨EU,⟨z8,⟨D3,⟨y7,⟨HS,⟨DS,⟨EV,⟨AA,⟨JN,⟨DT,trivial⟩⟩⟩⟩⟩⟩⟩⟩⟩⟩⟩⟩⟩⟩,qP T8 (qP KE (qP T3 (qP a3Q (qP GA (qP M9 (qP YK (qP YL rN))))))),rK⟩
def a9M:rH Tryz.prog [wD,BK,sL,vY,D5,y8,BJ,xI,EW,C1,D6,zJ,G7,C2] (rI [P6,IE,Y6,EY,JU,TS,TV,P4]):=⟨⟨wS,⟨D7,⟨sP,⟨wE,⟨EU,⟨z8,⟨D3,⟨y7,⟨HS,⟨DS,⟨EV,⟨AA,⟨JN,⟨DT,trivial⟩⟩⟩⟩⟩⟩⟩⟩⟩⟩⟩⟩⟩⟩,qP T8 (qP KE (qP a3Q (qP GA (qP M9 (qP YK (qP YL (qP T4 rN))))))),rK⟩
def aPy:r8 Tryz.prog aIh:=by
 refine rU tO Tryz.func51 (c:=_) rfl (N:=139) pW (ts:=[]) rfl (fun _ _=>rfl) ?_;intro⟨O,Z,aA,aB,aC,aD,aE,aF⟩ hs hrow;dsimp only[a9J,a9K,a9L,rM,qT,r6,rC,rO,Nat.reduceAdd] at hs hrow|-;obtain⟨rfl,rfl,hz⟩:=hs;obtain⟨z0,f⟩:=aUV.1 hz
 try rw[s7 f]
 clear hz;unfold CA at f;obtain⟨aG,hv1,hw1,f⟩:=qY f
 try simp only[go_sem] at hw1
 refine qC tO ?_ (hp:=by exact⟨pV,pV,pV,pV,pV,(qW hv1)⟩) (h:=by simp only[go_sem,hw1];rfl)
 obtain⟨aH,hv2,hw2,f⟩:=qY f
 try simp only[go_sem] at hw2
 refine qC tO ?_ (hp:=by exact⟨pV,pV,pV,pV,pV,pV,(qW hv2)⟩) (h:=by simp only[go_sem,hw2];rfl)
 refine qQ ?_;by_cases hva1:((wT (aH.1,(aH.2.1,(aH.2.2.1,(aH.2.2.2,())))) ([116,97,103]:pF) ([]:pF))).isSome=true
 .rw[aUU hva1] at f;obtain⟨aI,hv3,hw3,f⟩:=qY f
  try simp only[go_sem] at hw3
  refine rF tO ?_ (hp:=by exact(qW hv3)) (h:=by simp only[go_sem,hw3];rfl);refine qM ?_;refine qC tO ?_;refine qQ ?_;refine qC tO ?_;refine rS ?_;obtain⟨aJ,hy1,f⟩:=qO f;refine uA 0 (fun s=>s=(fun x=>⟨[(0,(.val .ref (some (0,0)),none)),(2,(.val .ref (some (4,0)),none)),(3,(.val .mp (some 5),none)),(4,(.val .bool true,none)),(5,(.val .bool x,none))],[(0,.cells t6 (aG,(Z,(aA,((aB.1,(aB.2.1,(aB.2.2.1,(aB.2.2.2.1,())))),((some 3),(aC.1,())))))) [(6,1),(8,2)]),(1,.grow 53 7 (aB.2.2.2.1.length)),(2,.grow 3 1 (aC.1.length)),(3,.map .str .bool aF),(4,.cells xF (aH.1,(aH.2.1,(aH.2.2.1,(aH.2.2.2,())))) []),(5,.map .str .str aI)],6,139,4⟩) aJ) ?_ ?_
  .refine tZ hy1 (fun x=>⟨[(0,(.val .ref (some (0,0)),none)),(2,(.val .ref (some (4,0)),none)),(3,(.val .mp (some 5),none)),(4,(.val .bool true,none)),(5,(.val .bool x.1,none)),(21,(.val (.list (.pair .str (.pair .str .unit))) aH.2.2.1,none)),(22,(.val (.int .i64) (aH.2.2.1.length:Int),none)),(23,(.val (.int .i64) x.2,none))],[(0,.cells t6 (aG,(Z,(aA,((aB.1,(aB.2.1,(aB.2.2.1,(aB.2.2.2.1,())))),((some 3),(aC.1,())))))) [(6,1),(8,2)]),(1,.grow 53 7 (aB.2.2.2.1.length)),(2,.grow 3 1 (aC.1.length)),(3,.map .str .bool aF),(4,.cells xF (aH.1,(aH.2.1,(aH.2.2.1,(aH.2.2.2,())))) []),(5,.map .str .str aI)],6,139,4⟩) ⟨[0,2,3,4,5,21,22,23],[(0,0),(1,1),(2,2),(3,3),(4,132),(5,228)]⟩ pX ?_;intro x1 w1 n1 d g;obtain⟨aK,aL⟩:=x1;unfold TW at d;dsimp only at d|-;refine qC tO ?_;refine qQ ?_;refine qV d (fun d hc2=> ?_) (fun d hc2=> ?_)
   .refine r9 (qM (qQ (rS ?_)));obtain⟨hg4,d⟩:=qI d;refine qC tO ?_ (hp:=by exact hg4);obtain⟨hg5,d⟩:=qI d;refine rF tO ?_ (hp:=by exact⟨id,id,hg5,sI⟩);refine rW (qM ?_);obtain⟨hg6,d⟩:=qI d;refine rF tO ?_ (hp:=by exact hg6);cases d;exact sX ⟨⟨[0,2,3,4,5,21,22,23],[(0,0),(1,1),(2,2),(3,3),(4,4),(5,5)]⟩,_,by rfl,g⟩
   .refine tV (tU (tX ?_));cases d;cases g;exact tW ⟨⟨[0,2,3,4,5],[(0,0),(1,1),(2,2),(3,3),(4,4),(5,5)]⟩,by rfl⟩
  .rintro _ rfl;dsimp only at f|-;refine u7 (qM ?_);obtain⟨aM,hv7,hw7,f⟩:=qY f
   try simp only[go_sem] at hw7
   refine qC tO ?_ (hp:=by exact⟨id,id,sQ,id,sQ,id,sQ,pV,pV,pV,pV,pV,(qW hv7)⟩) (h:=by simp only[go_sem,hw7];rfl)
   refine qC tO ?_;obtain⟨aN,hv8,hw8,f⟩:=qY f
   try simp only[go_sem] at hw8
   refine qC tO ?_ (hp:=by exact⟨pV,pV,pV,pV,pV,(qW hv8)⟩) (h:=by simp only[go_sem,hw8];rfl)
   refine qC tO ?_;refine rS ?_;obtain⟨y1,hy1,f⟩:=vF f;refine uA 2 (fun s=> ∃v,y1= .inl v∧s=(fun x=>⟨[],[(0,.cells t6 (x.1,(x.2.1,(x.2.2,(((s9 .str .str aI ([116,97,103]:pF)),(aB.2.1,(aB.2.2.1,(aB.2.2.2.1,())))),((some 3),(aC.1,())))))) [(6,1),(8,2)]),(1,.grow 53 7 (aB.2.2.2.1.length)),(2,.grow 3 1 (aC.1.length)),(3,.map .str .bool aF)],4,139,4⟩) v) ?_ ?_
   .refine tZ hy1 (fun x=>⟨[(0,(.val .ref (some (0,0)),none)),(2,(.val .ref (some (4,0)),none)),(8,(.val .ref (some (5,0)),none))],[(0,.cells t6 (x.1,(x.2.1,(x.2.2.1,(((s9 .str .str aI ([116,97,103]:pF)),(aB.2.1,(aB.2.2.1,(aB.2.2.2.1,())))),((some 3),(aC.1,())))))) [(6,1),(8,2)]),(1,.grow 53 7 (aB.2.2.2.1.length)),(2,.grow 3 1 (aC.1.length)),(3,.map .str .bool aF),(4,.cells xF (x.2.2.2.1,(x.2.2.2.2.1,(x.2.2.2.2.2.1,(x.2.2.2.2.2.2.1,())))) []),(5,.cells sN (([]:pF),(([]:pF),(([]:pF),(x.2.2.2.2.2.2.2.1,(([]:pG),((0:Int),(x.2.2.2.2.2.2.2.2,()))))))) [(3,6)]),(6,.grow 9 1 (x.2.2.2.2.2.2.2.1.length))],7,139,4⟩) ⟨[0,2,8],[(0,0),(1,1),(2,2),(3,3),(4,4),(5,934),(6,935)]⟩ pX ?_;intro x1 w1 n1 d g;obtain⟨aO,aP,aQ,aR,aS,aT,aU,aV,aW⟩:=x1;unfold DD at d;dsimp only at d|-;refine qQ ?_;refine qC tO ?_;refine qV d (fun d hc3=> ?_) (fun d hc3=> ?_)
    .refine r9 (qM (rS ?_));obtain⟨aX,hv9,hw9,d⟩:=qY d
     try simp only[go_sem] at hw9
     refine qC tO ?_ (hp:=by exact⟨pV,pV,pV,pV,pV,(qW hv9)⟩) (h:=by simp only[go_sem,hw9];rfl)
     obtain⟨aY,hv10,hw10,d⟩:=qY d
     try simp only[go_sem] at hw10
     refine qC tO ?_ (hp:=by exact⟨pV,pV,pV,pV,pV,pV,(qW hv10)⟩) (h:=by simp only[go_sem,hw10];rfl)
     refine rS ?_;refine qC tO ?_ (hp:=by exact⟨id,id,sI⟩);refine qV d (fun d hc4=> ?_) (fun d hc4=> ?_)
     .obtain⟨aZ,hv11,hw11,d⟩:=qY d
      try simp only[go_sem] at hw11
      refine rF tO ?_ (hp:=by exact⟨pV,pV,pV,pV,pV,pV,(qW hv11)⟩) (h:=by simp only[go_sem,hw11];rfl)
      refine rW (rW ?_);cases d;exact sX ⟨⟨[0,2,8],[(0,0),(1,1),(2,2),(3,3),(4,4),(5,5),(6,6)]⟩,_,by rfl,g⟩
     .refine qC tO ?_ (hp:=by exact⟨id,id,sI⟩);refine qV d (fun d hc5=> ?_) (fun d hc5=> ?_)
      .obtain⟨bA,hv12,hw12,d⟩:=qY d
       try simp only[go_sem] at hw12
       refine rF tO ?_ (hp:=by exact⟨pV,pV,pV,pV,pV,pV,pV,(qW hv12)⟩) (h:=by simp only[go_sem,hw12];rfl)
       refine rW (rW ?_);cases d;exact sX ⟨⟨[0,2,8],[(0,0),(1,1),(2,2),(3,3),(4,4),(5,5),(6,6)]⟩,_,by rfl,g⟩
      .refine qQ ?_;by_cases hva6:((wT (aY.1,(aY.2.1,(aY.2.2.1,(aY.2.2.2,())))) ([]:pF) ([]:pF))).isSome=true
       .rw[aUU hva6] at d;obtain⟨bB,hv13,hw13,d⟩:=qY d
        try simp only[go_sem] at hw13
        refine rF tO ?_ (hp:=by exact(qW hv13)) (h:=by simp only[go_sem,hw13];rfl);refine qM ?_;obtain⟨bC,hv14,hw14,d⟩:=qY d
        try simp only[go_sem] at hw14
        refine qC tO ?_ (hp:=by exact⟨id,id,sQ,id,sQ,pV,pV,pV,pV,pV,(qW hv14)⟩) (h:=by simp only[go_sem,hw14];rfl)
        obtain⟨bD,hv15,hw15,d⟩:=qY d
        try simp only[go_sem] at hw15
        obtain⟨hg16,d⟩:=qI d;refine YM tO 4 6 ?_ (hp:=by exact⟨pV,pV,pV,pV,pV,qW hv15,pV,hg16⟩) (ha1:=by simp only[List.take_succ_cons,List.take_zero,go_sem,hw15]<;>rfl) (hx1:=by simp only[go_sem,hw15]<;>rfl) (h:=by simp only[go_sem,hw15];rfl)
        refine qC tO ?_;refine qS (rY (rY (vE (vM (rY ?_)))));cases d;cases g;dsimp only at f;cases f;exact pH [(0,0),(1,1),(2,2),(3,3)]
       rw[aUX hva6] at d;obtain⟨bE,hv17,hw17,d⟩:=qY d
       try simp only[go_sem] at hw17
       refine rF a9M ?_ (hp:=by exact(qW hv17)) (h:=by simp only[go_sem,hw17];rfl);refine qM ?_;obtain⟨bF,hv18,hw18,d⟩:=qY d
       try simp only[go_sem] at hw18
       refine qC tO ?_ (hp:=by exact⟨id,id,sQ,id,sQ,pV,pV,pV,pV,pV,(qW hv18)⟩) (h:=by simp only[go_sem,hw18];rfl)
       obtain⟨bG,hv19,hw19,d⟩:=qY d
       try simp only[go_sem] at hw19
       obtain⟨hg20,d⟩:=qI d;refine YM tO 4 6 ?_ (hp:=by exact⟨pV,pV,pV,pV,pV,qW hv19,pV,hg20⟩) (ha1:=by simp only[List.take_succ_cons,List.take_zero,go_sem,hw19]<;>rfl) (hx1:=by simp only[go_sem,hw19]<;>rfl) (h:=by simp only[go_sem,hw19];rfl)
       refine qC tO ?_;refine qS (rY (rY (vE (vM (rY ?_)))));cases d;cases g;dsimp only at f;cases f;exact pH [(0,0),(1,1),(2,2),(3,3)]
    .refine tV (tU (tX ?_));cases d;cases g;exact tW ⟨⟨[],[(0,0),(1,1),(2,2),(3,3)]⟩,_,rfl,by rfl⟩
   .rintro _ ⟨v,rfl,rfl⟩;obtain⟨bH,bI,bJ⟩:=v;dsimp only at f|-;refine u7 ?_;cases f;exact pH [(0,0),(1,1),(2,2),(3,3)]
 rw[aUX hva1] at f;obtain⟨bK,hv21,hw21,f⟩:=qY f
 try simp only[go_sem] at hw21
 refine rF a9M ?_ (hp:=by exact(qW hv21)) (h:=by simp only[go_sem,hw21];rfl);refine qM ?_;refine qC tO ?_;refine qQ ?_;refine qC tO ?_;refine rS ?_;obtain⟨bM,hy1,f⟩:=qO f;refine uA 0 (fun s=>s=(fun x=>⟨[(0,(.val .ref (some (0,0)),none)),(2,(.val .ref (some (4,0)),none)),(3,(.val .mp none,none)),(4,(.val .bool false,none)),(5,(.val .bool x,none))],[(0,.cells t6 (aG,(Z,(aA,((aB.1,(aB.2.1,(aB.2.2.1,(aB.2.2.2.1,())))),((some 3),(aC.1,())))))) [(6,1),(8,2)]),(1,.grow 53 7 (aB.2.2.2.1.length)),(2,.grow 3 1 (aC.1.length)),(3,.map .str .bool aF),(4,.cells xF (aH.1,(aH.2.1,(aH.2.2.1,(aH.2.2.2,())))) [])],5,139,4⟩) bM) ?_ ?_
 .refine tZ hy1 (fun x=>⟨[(0,(.val .ref (some (0,0)),none)),(2,(.val .ref (some (4,0)),none)),(3,(.val .mp none,none)),(4,(.val .bool false,none)),(5,(.val .bool x.1,none)),(21,(.val (.list (.pair .str (.pair .str .unit))) aH.2.2.1,none)),(22,(.val (.int .i64) (aH.2.2.1.length:Int),none)),(23,(.val (.int .i64) x.2,none))],[(0,.cells t6 (aG,(Z,(aA,((aB.1,(aB.2.1,(aB.2.2.1,(aB.2.2.2.1,())))),((some 3),(aC.1,())))))) [(6,1),(8,2)]),(1,.grow 53 7 (aB.2.2.2.1.length)),(2,.grow 3 1 (aC.1.length)),(3,.map .str .bool aF),(4,.cells xF (aH.1,(aH.2.1,(aH.2.2.1,(aH.2.2.2,())))) [])],5,139,4⟩) ⟨[0,2,3,4,5,21,22,23],[(0,0),(1,1),(2,2),(3,3),(4,132)]⟩ pX ?_;intro x1 w1 n1 d g;obtain⟨bN,bO⟩:=x1;unfold TX at d;dsimp only at d|-;refine qC tO ?_;refine qQ ?_;refine qV d (fun d hc7=> ?_) (fun d hc7=> ?_)
  .refine r9 (qM (qQ (rS ?_)));obtain⟨hg22,d⟩:=qI d;refine qC tO ?_ (hp:=by exact hg22);obtain⟨hg23,d⟩:=qI d;refine rF tO ?_ (hp:=by exact⟨id,id,hg23,sI⟩);refine rW (qM ?_);obtain⟨hg24,d⟩:=qI d;refine rF tO ?_ (hp:=by exact hg24);cases d;exact sX ⟨⟨[0,2,3,4,5,21,22,23],[(0,0),(1,1),(2,2),(3,3),(4,4)]⟩,_,by rfl,g⟩
  .refine tV (tU (tX ?_));cases d;cases g;exact tW ⟨⟨[0,2,3,4,5],[(0,0),(1,1),(2,2),(3,3),(4,4)]⟩,by rfl⟩
 .rintro _ rfl;dsimp only at f|-;refine u7 (qM ?_);obtain⟨bP,hv25,hw25,f⟩:=qY f
  try simp only[go_sem] at hw25
  refine qC tO ?_ (hp:=by exact⟨id,id,sQ,id,sQ,id,fun e=>by first|exact sQ e|exact rfl|exact e.elim|simp_all,pV,pV,pV,pV,pV,(qW hv25)⟩) (h:=by simp only[go_sem,hw25];rfl)
  refine qC tO ?_;obtain⟨bQ,hv26,hw26,f⟩:=qY f
  try simp only[go_sem] at hw26
  refine qC tO ?_ (hp:=by exact⟨pV,pV,pV,pV,pV,(qW hv26)⟩) (h:=by simp only[go_sem,hw26];rfl)
  refine qC tO ?_;refine rS ?_;obtain⟨y1,hy1,f⟩:=vF f;refine uA 2 (fun s=> ∃v,y1= .inl v∧s=(fun x=>⟨[],[(0,.cells t6 (x.1,(x.2.1,(x.2.2,((([]:pF),(aB.2.1,(aB.2.2.1,(aB.2.2.2.1,())))),((some 3),(aC.1,())))))) [(6,1),(8,2)]),(1,.grow 53 7 (aB.2.2.2.1.length)),(2,.grow 3 1 (aC.1.length)),(3,.map .str .bool aF)],4,139,4⟩) v) ?_ ?_
  .refine tZ hy1 (fun x=>⟨[(0,(.val .ref (some (0,0)),none)),(2,(.val .ref (some (4,0)),none)),(8,(.val .ref (some (5,0)),none))],[(0,.cells t6 (x.1,(x.2.1,(x.2.2.1,((([]:pF),(aB.2.1,(aB.2.2.1,(aB.2.2.2.1,())))),((some 3),(aC.1,())))))) [(6,1),(8,2)]),(1,.grow 53 7 (aB.2.2.2.1.length)),(2,.grow 3 1 (aC.1.length)),(3,.map .str .bool aF),(4,.cells xF (x.2.2.2.1,(x.2.2.2.2.1,(x.2.2.2.2.2.1,(x.2.2.2.2.2.2.1,())))) []),(5,.cells sN (([]:pF),(([]:pF),(([]:pF),(x.2.2.2.2.2.2.2.1,(([]:pG),((0:Int),(x.2.2.2.2.2.2.2.2,()))))))) [(3,6)]),(6,.grow 9 1 (x.2.2.2.2.2.2.2.1.length))],7,139,4⟩) ⟨[0,2,8],[(0,0),(1,1),(2,2),(3,3),(4,4),(5,933),(6,934)]⟩ pX ?_;intro x1 w1 n1 d g;obtain⟨bR,bS,bT,bU,bV,bW,bX,bZ,cA⟩:=x1;unfold YN at d;dsimp only at d|-;refine qQ ?_;refine qC tO ?_;refine qV d (fun d hc8=> ?_) (fun d hc8=> ?_)
   .refine r9 (qM (rS ?_));obtain⟨cB,hv27,hw27,d⟩:=qY d
    try simp only[go_sem] at hw27
    refine qC tO ?_ (hp:=by exact⟨pV,pV,pV,pV,pV,(qW hv27)⟩) (h:=by simp only[go_sem,hw27];rfl)
    obtain⟨cC,hv28,hw28,d⟩:=qY d
    try simp only[go_sem] at hw28
    refine qC tO ?_ (hp:=by exact⟨pV,pV,pV,pV,pV,pV,(qW hv28)⟩) (h:=by simp only[go_sem,hw28];rfl)
    refine rS ?_;refine qC tO ?_ (hp:=by exact⟨id,id,sI⟩);refine qV d (fun d hc9=> ?_) (fun d hc9=> ?_)
    .obtain⟨cD,hv29,hw29,d⟩:=qY d
     try simp only[go_sem] at hw29
     refine rF tO ?_ (hp:=by exact⟨pV,pV,pV,pV,pV,pV,(qW hv29)⟩) (h:=by simp only[go_sem,hw29];rfl)
     refine rW (rW ?_);cases d;exact sX ⟨⟨[0,2,8],[(0,0),(1,1),(2,2),(3,3),(4,4),(5,5),(6,6)]⟩,_,by rfl,g⟩
    .refine qC tO ?_ (hp:=by exact⟨id,id,sI⟩);refine qV d (fun d hc10=> ?_) (fun d hc10=> ?_)
     .obtain⟨cE,hv30,hw30,d⟩:=qY d
      try simp only[go_sem] at hw30
      refine rF tO ?_ (hp:=by exact⟨pV,pV,pV,pV,pV,pV,pV,(qW hv30)⟩) (h:=by simp only[go_sem,hw30];rfl)
      refine rW (rW ?_);cases d;exact sX ⟨⟨[0,2,8],[(0,0),(1,1),(2,2),(3,3),(4,4),(5,5),(6,6)]⟩,_,by rfl,g⟩
     .refine qQ ?_;by_cases hva11:((wT (cC.1,(cC.2.1,(cC.2.2.1,(cC.2.2.2,())))) ([]:pF) ([]:pF))).isSome=true
      .rw[aUU hva11] at d;obtain⟨cF,hv31,hw31,d⟩:=qY d
       try simp only[go_sem] at hw31
       refine rF tO ?_ (hp:=by exact(qW hv31)) (h:=by simp only[go_sem,hw31];rfl);refine qM ?_;obtain⟨cG,hv32,hw32,d⟩:=qY d
       try simp only[go_sem] at hw32
       refine qC tO ?_ (hp:=by exact⟨id,id,sQ,id,sQ,pV,pV,pV,pV,pV,(qW hv32)⟩) (h:=by simp only[go_sem,hw32];rfl)
       obtain⟨cH,hv33,hw33,d⟩:=qY d
       try simp only[go_sem] at hw33
       obtain⟨hg34,d⟩:=qI d;refine YM tO 4 6 ?_ (hp:=by exact⟨pV,pV,pV,pV,pV,qW hv33,pV,hg34⟩) (ha1:=by simp only[List.take_succ_cons,List.take_zero,go_sem,hw33]<;>rfl) (hx1:=by simp only[go_sem,hw33]<;>rfl) (h:=by simp only[go_sem,hw33];rfl)
       refine qC tO ?_;refine qS (rY (rY (vE (vM (rY ?_)))));cases d;cases g;dsimp only at f;cases f;exact pH [(0,0),(1,1),(2,2),(3,3)]
      rw[aUX hva11] at d;obtain⟨cJ,hv35,hw35,d⟩:=qY d
      try simp only[go_sem] at hw35
      refine rF a9M ?_ (hp:=by exact(qW hv35)) (h:=by simp only[go_sem,hw35];rfl);refine qM ?_;obtain⟨cK,hv36,hw36,d⟩:=qY d
      try simp only[go_sem] at hw36
      refine qC tO ?_ (hp:=by exact⟨id,id,sQ,id,sQ,pV,pV,pV,pV,pV,(qW hv36)⟩) (h:=by simp only[go_sem,hw36];rfl)
      obtain⟨cL,hv37,hw37,d⟩:=qY d
      try simp only[go_sem] at hw37
      obtain⟨hg38,d⟩:=qI d;refine YM tO 4 6 ?_ (hp:=by exact⟨pV,pV,pV,pV,pV,qW hv37,pV,hg38⟩) (ha1:=by simp only[List.take_succ_cons,List.take_zero,go_sem,hw37]<;>rfl) (hx1:=by simp only[go_sem,hw37]<;>rfl) (h:=by simp only[go_sem,hw37];rfl)
      refine qC tO ?_;refine qS (rY (rY (vE (vM (rY ?_)))));cases d;cases g;dsimp only at f;cases f;exact pH [(0,0),(1,1),(2,2),(3,3)]
   .refine tV (tU (tX ?_));cases d;cases g;exact tW ⟨⟨[],[(0,0),(1,1),(2,2),(3,3)]⟩,_,rfl,by rfl⟩
  .rintro _ ⟨v,rfl,rfl⟩;obtain⟨cN,cO,cP⟩:=v;dsimp only at f|-;refine u7 ?_;cases f;exact pH [(0,0),(1,1),(2,2),(3,3)]
attribute [irreducible] CA
end
end Go.Proofs.YtkpflnijijccpaaGreatDoor
