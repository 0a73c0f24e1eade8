/- Packed by a program of mine (wip/tools/pack.py): the same texts with short names and few blanks. -/
import Derived.KernelRfl
import Derived.Laws.BitsLemmas
import Derived.Lib.Index
import Derived.Lib.IndexAny
import Derived.Lib.MapLaws
import Derived.Lib.TrimAscii
import Derived.Lib.TrimUEq
import Derived.Lib.ValidLaws
import Derived.OrdersIn
import Derived.Sort.Walk0
import Derived.Test.YtkpflnijijccpaaGreatDoorF002
set_option linter.defProp false
set_option linter.unusedVariables false
set_option linter.unusedSimpArgs false
set_option linter.unusedSectionVars false
set_option maxRecDepth 100000
set_option maxHeartbeats 4000000
namespace Go.Proofs.YtkpflnijijccpaaGreatDoor
open Vc
noncomputable section
def H8 (O:pD) (Z:Int):(Int×Int)→Option ((Int×Int)⊕(Int⊕(Int×Bool))):=fun(aA,aB)=>if (decide (aB<(O.length:Int)))=true then if 0≤aB∧aB<(O.length:Int) then if 0≤aB∧aB<(O.length:Int) then if (((decide ((65:Int)≤(tU O aB)))==true)=true→0≤aB∧aB<(O.length:Int)) then t8 (σ:=Int) (if ((decide ((65:Int)≤(tU O aB)))&&(decide ((tU O aB)≤(70:Int))))=true then if 0≤aB∧aB<(O.length:Int) then some ((IntKind.wrap .i64 ((IntKind.wrap .i64 (IntKind.wrap .u8 ((tU O aB)- (65:Int))))+(10:Int)))) else none else some ((uU ([48,49,50,51,52,53,54,55,56,57,97,98,99,100,101,102]:pD) (tU O aB))) ) fun aC=>if ((decide (aC<(0:Int)))||(decide (Z≤aC)))=true then some (.inr (.inr (((0:Int),false)))) else some (.inl ((IntKind.wrap .i64 ((IntKind.wrap .i64 (aA*Z))+aC)),(IntKind.wrap .i64 (aB+(1:Int))))) else none else none else none else some (.inr (.inl aA))
def EE (O:pD) (Z:Int):Option (Int×Bool):=uT (rX (H8 O Z) ((0:Int),(0:Int))) fun aA=>some ((aA,(!decide (O=([]:pD)))))
section
variable (O:pD) (Z:Int)
abbrev a1K:List qC:=[(.val .str O,none),(.val (.int .i64) Z,none)]
abbrev a1L:List q9:=[]
@[go_sem] def a1M:qI:=⟨[((EE O Z)).isSome=true],[(.val (.int .i64) ((val (EE O Z)).1),none),(.val .bool ((val (EE O Z)).2),none)],[]⟩
def aAs:List qC→List q9→Option qI:=rU (V:=(pD×Int)) (fun x=>a1K x.1 x.2) (fun x=>a1L) fun x=>a1M x.1 x.2
@[go_sem] def aKX:aAs (no_index (a1K O Z)) (no_index a1L)=some (a1M O Z):=rY (fun⟨a0,a1⟩ ⟨b0,b1⟩ h1 h2=>by cases h1;cases h2;rfl) (O,Z)
end
@[go_sem] abbrev a1N:Nat×r6:=(226,⟨[.v,.v],aAs,[],[],none⟩)
def AT:rN Tryz.prog [YU,J5,sY] (rO [FC]):=⟨⟨aGV,⟨OP,⟨tE,trivial⟩⟩⟩,qO L4 rR,rP⟩
def aAt:r9 Tryz.prog a1N:=by
 refine rZ AT Tryz.func226 (c:=_) rfl (N:=50) pU (ts:=[(4,none),(5,none)]) rfl (fun _ _=>rfl) ?_;intro⟨O,Z⟩ hs hrow;dsimp only[a1K,a1L,a1M,rQ,qM,r5,rF,rT,Nat.reduceAdd] at hs hrow|-;have hz:=hs;obtain⟨z0,e⟩:=aLR.1 hz
 try rw[sC e]
 clear hz hs;unfold EE at e;refine qB AT ?_;refine qB AT ?_;refine qT ?_;refine qB AT ?_;refine s9 ?_;obtain⟨y1,hy1,e⟩:=wB e;refine v6 0 (fun s=> ∃v,y1= .inl v∧s=(fun x=>⟨[(0,(.val .str O,none)),(6,(.val (.int .i64) x,none))],[],0,50,0⟩) v) ?_ ?_
 .refine uS hy1 (fun x=>⟨[(0,(.val .str O,none)),(1,(.val (.int .i64) Z,none)),(6,(.val (.int .i64) x.1,none)),(10,(.val (.int .i64) (O.length:Int),none)),(11,(.val (.int .i64) x.2,none))],[],0,50,0⟩) ⟨[0,1,6,10,11],[]⟩ pV ?_;intro x1 w1 n1 d i;obtain⟨aA,aB⟩:=x1;unfold H8 at d;dsimp only at d|-;refine qB AT ?_;refine qT ?_;refine qY d (fun d hc1=> ?_) (fun d hc1=> ?_)
  .refine rG (qQ (qT (s9 ?_)));refine qB AT ?_;obtain⟨hg1,d⟩:=qJ d;refine qB AT ?_ (hp:=by exact hg1);refine qT ?_;obtain⟨hg2,d⟩:=qJ d;obtain⟨hg3,d⟩:=qJ d;refine qB AT ?_ (hp:=by exact⟨hg2,id,id,hg3,id,sZ⟩);obtain⟨aC,j,d⟩:=qK d;refine AO (fun s=>s=(fun x=>⟨[(0,(.val .str O,none)),(1,(.val (.int .i64) Z,none)),(6,(.val (.int .i64) aA,none)),(8,(.val (.int .i64) x,none)),(10,(.val (.int .i64) (O.length:Int),none)),(11,(.val (.int .i64) aB,none))],[],0,50,0⟩) aC) ?_ ?_
   .refine qY j (fun j hc2=> ?_) (fun j hc2=> ?_)
    .obtain⟨hg4,j⟩:=qJ j;refine rL AT ?_ (hp:=by exact hg4);cases j;exact v7 ⟨⟨[0,1,6,8,10,11],[]⟩,by rfl⟩
    .refine rG ?_;cases j;exact v7 ⟨⟨[0,1,6,8,10,11],[]⟩,by rfl⟩
   .rintro _ rfl;dsimp only at d|-;refine qQ (qT ?_);refine qB AT ?_ (hp:=by exact⟨id,id,tK⟩);refine qY d (fun d hc3=> ?_) (fun d hc3=> ?_)
    .refine qB AT ?_;refine qV (s8 (sE (s8 (wA (wH (sE (s8 ?_)))))));cases d;cases i;dsimp only at e;cases e;exact pF []
    .refine rG (qQ ?_);refine rL AT ?_;refine rV (qQ ?_);refine rL AT ?_;cases d;exact tQ ⟨⟨[0,1,6,10,11],[]⟩,_,by rfl,i⟩
  .refine uO (uN (uQ ?_));cases d;cases i;exact uP ⟨⟨[0,6],[]⟩,_,rfl,by rfl⟩
 .rintro _ ⟨aD,rfl,rfl⟩;dsimp only at e|-;refine uY (qQ ?_);refine qB AT ?_;refine qV ?_;cases e;exact pF []
def P4 (O:(List qZ)) (Z:pD):Int→Option (Int⊕(Unit⊕Int)):=fun aA=>if (decide (aA<(O.length:Int)))=true then if 0≤aA∧aA<(O.length:Int) then if (!(Op.bytesLess ((qW (.pair .str (.pair .str .unit)) O aA).1) Z||decide (((qW (.pair .str (.pair .str .unit)) O aA).1)=Z)))=true then some (.inr (.inr (aA))) else if qE (aA+(1:Int)) then some (.inl (aA+(1:Int))) else none else none else some (.inr (.inl ()))
def LK (O:(List qZ)) (Z:pD):Option Int:=uT (rX (P4 O Z) (0:Int)) fun _=>some ((-1:Int))
section
variable (O:(List qZ)) (Z:pD)
abbrev a1O:List qC:=[(.val (.list (.pair .str (.pair .str .unit))) O,none),(.val .clo (some (158,[(0,0)])),none)]
abbrev a1P:List q9:=[.cells .str Z []]
@[go_sem] def a1Q:qI:=⟨[((LK O Z)).isSome=true],[(.val (.int .i64) (val (LK O Z)),none)],[.cells .str Z []]⟩
def aAu:List qC→List q9→Option qI:=rU (V:=((List qZ)×pD)) (fun x=>a1O x.1) (fun x=>a1P x.2) fun x=>a1Q x.1 x.2
@[go_sem] def aKY:aAu (no_index (a1O O)) (no_index (a1P Z))=some (a1Q O Z):=rY (fun⟨a0,a1⟩ ⟨b0,b1⟩ h1 h2=>by cases h1;cases h2;rfl) (O,Z)
end
@[go_sem] abbrev aAv:Nat×r6:=(157,⟨[.v,.f [(.str,[])]],aAu,[],[0],none⟩)
def FM:rN Tryz.prog [CD,FF] (rO [a97]):=⟨⟨E7,⟨J4,trivial⟩⟩,qO aHh rR,rP⟩
def aHr:r9 Tryz.prog aAv:=by
 refine rZ FM Tryz.func157 (c:=_) rfl (N:=19) pU (ts:=[(4,none)]) rfl (fun _ _=>rfl) ?_;intro⟨O,Z⟩ hs hrow;dsimp only[a1O,a1P,a1Q,rQ,qM,r5,rF,rT,Nat.reduceAdd] at hs hrow|-;have hz:=hs;obtain⟨z0,e⟩:=aLR.1 hz
 try rw[sC e]
 clear hz hs;unfold LK at e;refine qB FM ?_;refine qT ?_;refine qB FM ?_;refine s9 ?_;obtain⟨y1,hy1,e⟩:=wB e;refine v6 0 (fun s=> ∃v,y1= .inl v∧s=(fun _=>⟨[],[(0,.cells .str Z [])],1,19,1⟩) v) ?_ ?_
 .refine uS hy1 (fun x=>⟨[(0,(.val (.list (.pair .str (.pair .str .unit))) O,none)),(1,(.val .clo (some (158,[(0,0)])),none)),(7,(.val (.int .i64) (O.length:Int),none)),(8,(.val (.int .i64) x,none))],[(0,.cells .str Z [])],1,19,1⟩) ⟨[0,1,7,8],[(0,0)]⟩ pV ?_;intro aA w1 n1 d i;unfold P4 at d;dsimp only at d|-;refine qB FM ?_;refine qT ?_;refine qY d (fun d hc1=> ?_) (fun d hc1=> ?_)
  .refine rG (qQ (qT (s9 ?_)));refine qB FM ?_;obtain⟨hg1,d⟩:=qJ d;refine qB FM ?_ (hp:=by exact⟨hg1,pT⟩)
   refine qY d (fun d hc2=> ?_) (fun d hc2=> ?_)
   .refine qB FM ?_;refine qV (sE (s8 (wA (wH (sE (s8 ?_))))));cases d;cases i;dsimp only at e;cases e;exact pF [(0,0)]
   .refine rG (rV (qQ ?_));obtain⟨hg2,d⟩:=qJ d;refine rL FM ?_ (hp:=by exact hg2);cases d;exact tQ ⟨⟨[0,1,7,8],[(0,0)]⟩,_,by rfl,i⟩
  .refine uO (uN (uQ ?_));cases d;cases i;exact uP ⟨⟨[],[(0,0)]⟩,_,rfl,by rfl⟩
 .rintro _ ⟨v,rfl,rfl⟩;dsimp only at e|-;refine uY (qQ ?_);refine qB FM ?_;refine qV ?_;cases e;exact pF [(0,0)]
def H9 (O:(List qZ)):Option (List qZ):=if (0+O.length)*32≤140737488355328 then some ((([]:List qZ)++O)) else none
section
variable (O:(List qZ))
abbrev a1R:List qC:=[(.val (.list (.pair .str (.pair .str .unit))) O,none)]
abbrev a1S:List q9:=[]
@[go_sem] def a1T:qI:=⟨[((H9 O)).isSome=true],[(.own 0 ((val (H9 O)).length),none)],[.row 111 (.pair .str (.pair .str .unit)) (val (H9 O)) ((val (H9 O)).length)]⟩
def aAw:List qC→List q9→Option qI:=rU (V:=(List qZ)) (a1R) (fun x=>a1S) fun x=>a1T x
@[go_sem] def aKZ:aAw (no_index (a1R O)) (no_index a1S)=some (a1T O):=rY (fun a0 b0 h1 h2=>by cases h1;cases h2;rfl) O
end
@[go_sem] abbrev aAx:Nat×r6:=(156,⟨[.v],aAw,[],[],none⟩)
def P5:rN Tryz.prog [TG] (rO []):=⟨⟨a9v,trivial⟩,rR,rP⟩
def aHs:r9 Tryz.prog aAx:=by
 refine rZ P5 Tryz.func156 (c:=_) rfl (N:=8) pU (ts:=[(2,none)]) rfl (fun _ _=>rfl) ?_;intro O hs hrow;dsimp only[a1R,a1S,a1T,rQ,qM,r5,rF,rT,Nat.reduceAdd] at hs hrow|-;have hz:=hs;obtain⟨z0,e⟩:=aLR.1 hz
 try rw[sC e]
 clear hz hs;unfold H9 at e;refine qB P5 ?_;refine qT ?_;refine qB P5 ?_;refine a8H (by simp only[go_sem];rfl) (fun hnil=> ?_) (fun hnil=> ?_)
 .subst hnil;obtain⟨_,e⟩:=qJ e;refine qB P5 ?_;refine qV (s8 ?_);cases e;exact pF [(0,96)]
 .refine rG (qQ ?_);obtain⟨hg1,e⟩:=qJ e;refine qB P5 ?_ (hp:=by exact⟨pT,hg1⟩)
  refine qV ?_;cases e;exact pF [(0,96)]
def P6 (O:pE):Int→Option (Int⊕(Unit⊕Int)):=fun Z=>if (decide (Z<(O.length:Int)))=true then if 0≤Z∧Z<(O.length:Int) then (LH (qW .str O Z)).bind fun aA=>if aA=true then some (.inr (.inr (Z))) else if qE (Z+(1:Int)) then some (.inl (Z+(1:Int))) else none else none else some (.inr (.inl ()))
def LL (O:pE):Option Int:=uT (rX (P6 O) (0:Int)) fun _=>some ((-1:Int))
section
variable (O:pE)
abbrev a1U:List qC:=[(.val (.list .str) O,none),(.val .clo (some (133,[])),none)]
abbrev a1V:List q9:=[]
@[go_sem] def a1W:qI:=⟨[((LL O)).isSome=true],[(.val (.int .i64) (val (LL O)),none)],[]⟩
def aAy:List qC→List q9→Option qI:=rU (V:=pE) (a1U) (fun x=>a1V) fun x=>a1W x
@[go_sem] def aK0:aAy (no_index (a1U O)) (no_index a1V)=some (a1W O):=rY (fun a0 b0 h1 h2=>by cases h1;cases h2;rfl) O
end
@[go_sem] abbrev aAz:Nat×r6:=(137,⟨[.v,.v],aAy,[],[],none⟩)
def FN:rN Tryz.prog [sY,xU] (rO [a9Z]):=⟨⟨tE,⟨yI,trivial⟩⟩,qO aHe rR,rP⟩
def aHt:r9 Tryz.prog aAz:=by
 refine rZ FN Tryz.func137 (c:=_) rfl (N:=19) pU (ts:=[(4,none)]) rfl (fun _ _=>rfl) ?_;intro O hs hrow;dsimp only[a1U,a1V,a1W,rQ,qM,r5,rF,rT,Nat.reduceAdd] at hs hrow|-;have hz:=hs;obtain⟨z0,e⟩:=aLR.1 hz
 try rw[sC e]
 clear hz hs;unfold LL at e;refine qB FN ?_;refine qT ?_;refine qB FN ?_;refine s9 ?_;obtain⟨y1,hy1,e⟩:=wB e;refine v6 0 (fun s=> ∃v,y1= .inl v∧s=(fun _=>⟨[],[],0,19,0⟩) v) ?_ ?_
 .refine uS hy1 (fun x=>⟨[(0,(.val (.list .str) O,none)),(1,(.val .clo (some (133,[])),none)),(7,(.val (.int .i64) (O.length:Int),none)),(8,(.val (.int .i64) x,none))],[],0,19,0⟩) ⟨[0,1,7,8],[]⟩ pV ?_;intro Z w1 n1 d i;unfold P6 at d;dsimp only at d|-;refine qB FN ?_;refine qT ?_;refine qY d (fun d hc1=> ?_) (fun d hc1=> ?_)
  .refine rG (qQ (qT (s9 ?_)));refine qB FN ?_;obtain⟨hg1,d⟩:=qJ d;obtain⟨aA,hv2,hw2,d⟩:=qS d
   try simp only[go_sem] at hw2
   refine qB FN ?_ (hp:=by exact⟨hg1,(qR hv2)⟩) (h:=by simp only[go_sem,hw2];rfl);refine qY d (fun d hc2=> ?_) (fun d hc2=> ?_)
   .refine qB FN ?_;refine qV (sE (s8 (wA (wH (sE (s8 ?_))))));cases d;cases i;dsimp only at e;cases e;exact pF []
   .refine rG (rV (qQ ?_));obtain⟨hg3,d⟩:=qJ d;refine rL FN ?_ (hp:=by exact hg3);cases d;exact tQ ⟨⟨[0,1,7,8],[]⟩,_,by rfl,i⟩
  .refine uO (uN (uQ ?_));cases d;cases i;exact uP ⟨⟨[],[]⟩,_,rfl,by rfl⟩
 .rintro _ ⟨v,rfl,rfl⟩;dsimp only at e|-;refine uY (qQ ?_);refine qB FN ?_;refine qV ?_;cases e;exact pF []
def JH (O:pE):Option Bool:=(LL O).bind fun Z=>some ((decide ((0:Int)≤Z)))
section
variable (O:pE)
abbrev a1X:List qC:=[(.val (.list .str) O,none),(.val .clo (some (133,[])),none)]
abbrev a1Y:List q9:=[]
@[go_sem] def a1Z:qI:=⟨[((JH O)).isSome=true],[(.val .bool (val (JH O)),none)],[]⟩
def aAA:List qC→List q9→Option qI:=rU (V:=pE) (a1X) (fun x=>a1Y) fun x=>a1Z x
@[go_sem] def aK1:aAA (no_index (a1X O)) (no_index a1Y)=some (a1Z O):=rY (fun a0 b0 h1 h2=>by cases h1;cases h2;rfl) O
end
@[go_sem] abbrev aAB:Nat×r6:=(95,⟨[.v,.v],aAA,[],[],none⟩)
def a11:rN Tryz.prog [] (rO [aAz]):=⟨trivial,qO aHt rR,rP⟩
def aHu:r9 Tryz.prog aAB:=by
 refine rZ a11 Tryz.func95 (c:=_) rfl (N:=9) pU (ts:=[(4,none)]) rfl (fun _ _=>rfl) ?_;intro O hs hrow;dsimp only[a1X,a1Y,a1Z,rQ,qM,r5,rF,rT,Nat.reduceAdd] at hs hrow|-;have hz:=hs;obtain⟨z0,e⟩:=aLR.1 hz
 try rw[sC e]
 clear hz hs;unfold JH at e;refine qB a11 ?_;obtain⟨Z,hv1,hw1,e⟩:=qS e
 try simp only[go_sem] at hw1
 refine qB a11 ?_ (hp:=by exact(qR hv1)) (h:=by simp only[go_sem,hw1];rfl);refine qV ?_;cases e;exact pF []
def wY (O:pE):Option pE:=if (0+O.length)*16≤140737488355328 then some ((([]:pE)++O)) else none
section
variable (O:pE)
abbrev a13:List qC:=[(.val (.list .str) O,none)]
abbrev a14:List q9:=[]
@[go_sem] def a15:qI:=⟨[((wY O)).isSome=true],[(.own 0 ((val (wY O)).length),none)],[.row 9 .str (val (wY O)) ((val (wY O)).length)]⟩
def aAC:List qC→List q9→Option qI:=rU (V:=pE) (a13) (fun x=>a14) fun x=>a15 x
@[go_sem] def aK2:aAC (no_index (a13 O)) (no_index a14)=some (a15 O):=rY (fun a0 b0 h1 h2=>by cases h1;cases h2;rfl) O
end
@[go_sem] abbrev P7:Nat×r6:=(28,⟨[.v],aAC,[],[],none⟩)
def P8:rN Tryz.prog [TH] (rO []):=⟨⟨a9w,trivial⟩,rR,rP⟩
def a16:r9 Tryz.prog P7:=by
 refine rZ P8 Tryz.func28 (c:=_) rfl (N:=8) pU (ts:=[(2,none)]) rfl (fun _ _=>rfl) ?_;intro O hs hrow;dsimp only[a13,a14,a15,rQ,qM,r5,rF,rT,Nat.reduceAdd] at hs hrow|-;have hz:=hs;obtain⟨z0,e⟩:=aLR.1 hz
 try rw[sC e]
 clear hz hs;unfold wY at e;refine qB P8 ?_;refine qT ?_;refine qB P8 ?_;refine a8H (by simp only[go_sem];rfl) (fun hnil=> ?_) (fun hnil=> ?_)
 .subst hnil;obtain⟨_,e⟩:=qJ e;refine qB P8 ?_;refine qV (s8 ?_);cases e;exact pF [(0,96)]
 .refine rG (qQ ?_);obtain⟨hg1,e⟩:=qJ e;refine qB P8 ?_ (hp:=by exact⟨pT,hg1⟩)
  refine qV ?_;cases e;exact pF [(0,96)]
attribute [irreducible] EE LK H9 LL JH wY
end
noncomputable section
def P9 (O:(List qZ)) (Z:qZ):Int→Option (Int⊕(Unit⊕Int)):=fun aA=>if (decide (aA<(O.length:Int)))=true then if 0≤aA∧aA<(O.length:Int) then if (decide (((qW (.pair .str (.pair .str .unit)) O aA).1)=Z.1))=true then some (.inr (.inr (aA))) else if qE (aA+(1:Int)) then some (.inl (aA+(1:Int))) else none else none else some (.inr (.inl ()))
def LM (O:(List qZ)) (Z:qZ):Option Int:=uT (rX (P9 O Z) (0:Int)) fun _=>some ((-1:Int))
section
variable (O:(List qZ)) (Z:qZ)
abbrev a17:List qC:=[(.val (.list (.pair .str (.pair .str .unit))) O,none),(.val .clo (some (129,[(0,0)])),none)]
abbrev a18:List q9:=[.cells (.pair .str (.pair .str .unit)) Z []]
@[go_sem] def a19:qI:=⟨[((LM O Z)).isSome=true],[(.val (.int .i64) (val (LM O Z)),none)],[.cells (.pair .str (.pair .str .unit)) Z []]⟩
def aAD:List qC→List q9→Option qI:=rU (V:=((List qZ)×qZ)) (fun x=>a17 x.1) (fun x=>a18 x.2) fun x=>a19 x.1 x.2
@[go_sem] def aK3:aAD (no_index (a17 O)) (no_index (a18 Z))=some (a19 O Z):=rY (fun⟨a0,a1⟩ ⟨b0,b1⟩ h1 h2=>by cases h1;cases h2;rfl) (O,Z)
end
@[go_sem] abbrev aAE:Nat×r6:=(136,⟨[.v,.f [((.pair .str (.pair .str .unit)),[])]],aAD,[],[0],none⟩)
def FO:rN Tryz.prog [BT,AR] (rO [a9O]):=⟨⟨D6,⟨CE,trivial⟩⟩,qO aHd rR,rP⟩
def aHv:r9 Tryz.prog aAE:=by
 refine rZ FO Tryz.func136 (c:=_) rfl (N:=19) pU (ts:=[(4,none)]) rfl (fun _ _=>rfl) ?_;intro⟨O,Z⟩ hs hrow;dsimp only[a17,a18,a19,rQ,qM,r5,rF,rT,Nat.reduceAdd] at hs hrow|-;have hz:=hs;obtain⟨z0,e⟩:=aLR.1 hz
 try rw[sC e]
 clear hz hs;unfold LM at e;refine qB FO ?_;refine qT ?_;refine qB FO ?_;refine s9 ?_;obtain⟨y1,hy1,e⟩:=wB e;refine v6 0 (fun s=> ∃v,y1= .inl v∧s=(fun _=>⟨[],[(0,.cells (.pair .str (.pair .str .unit)) Z [])],1,19,1⟩) v) ?_ ?_
 .refine uS hy1 (fun x=>⟨[(0,(.val (.list (.pair .str (.pair .str .unit))) O,none)),(1,(.val .clo (some (129,[(0,0)])),none)),(7,(.val (.int .i64) (O.length:Int),none)),(8,(.val (.int .i64) x,none))],[(0,.cells (.pair .str (.pair .str .unit)) Z [])],1,19,1⟩) ⟨[0,1,7,8],[(0,0)]⟩ pV ?_;intro aA w1 n1 d g;unfold P9 at d;dsimp only at d|-;refine qB FO ?_;refine qT ?_;refine qY d (fun d hc1=> ?_) (fun d hc1=> ?_)
  .refine rG (qQ (qT (s9 ?_)));refine qB FO ?_;obtain⟨hg1,d⟩:=qJ d;refine qB FO ?_ (hp:=by exact⟨hg1,pT⟩)
   refine qY d (fun d hc2=> ?_) (fun d hc2=> ?_)
   .refine qB FO ?_;refine qV (sE (s8 (wA (wH (sE (s8 ?_))))));cases d;cases g;dsimp only at e;cases e;exact pF [(0,0)]
   .refine rG (rV (qQ ?_));obtain⟨hg2,d⟩:=qJ d;refine rL FO ?_ (hp:=by exact hg2);cases d;exact tQ ⟨⟨[0,1,7,8],[(0,0)]⟩,_,by rfl,g⟩
  .refine uO (uN (uQ ?_));cases d;cases g;exact uP ⟨⟨[],[(0,0)]⟩,_,rfl,by rfl⟩
 .rintro _ ⟨v,rfl,rfl⟩;dsimp only at e|-;refine uY (qQ ?_);refine qB FO ?_;refine qV ?_;cases e;exact pF [(0,0)]
def HA (O:(List qZ)) (Z:qZ):Option Bool:=(LM O Z).bind fun aA=>some ((decide ((0:Int)≤aA)))
section
variable (O:(List qZ)) (Z:qZ)
abbrev a2a:List qC:=[(.val (.list (.pair .str (.pair .str .unit))) O,none),(.val .clo (some (129,[(0,0)])),none)]
abbrev a2b:List q9:=[.cells (.pair .str (.pair .str .unit)) Z []]
@[go_sem] def a2c:qI:=⟨[((HA O Z)).isSome=true],[(.val .bool (val (HA O Z)),none)],[.cells (.pair .str (.pair .str .unit)) Z []]⟩
def aAF:List qC→List q9→Option qI:=rU (V:=((List qZ)×qZ)) (fun x=>a2a x.1) (fun x=>a2b x.2) fun x=>a2c x.1 x.2
@[go_sem] def aK4:aAF (no_index (a2a O)) (no_index (a2b Z))=some (a2c O Z):=rY (fun⟨a0,a1⟩ ⟨b0,b1⟩ h1 h2=>by cases h1;cases h2;rfl) (O,Z)
end
@[go_sem] abbrev aAG:Nat×r6:=(89,⟨[.v,.f [((.pair .str (.pair .str .unit)),[])]],aAF,[],[0],none⟩)
def a2d:rN Tryz.prog [] (rO [aAE]):=⟨trivial,qO aHv rR,rP⟩
def aHw:r9 Tryz.prog aAG:=by
 refine rZ a2d Tryz.func89 (c:=_) rfl (N:=9) pU (ts:=[(4,none)]) rfl (fun _ _=>rfl) ?_;intro⟨O,Z⟩ hs hrow;dsimp only[a2a,a2b,a2c,rQ,qM,r5,rF,rT,Nat.reduceAdd] at hs hrow|-;have hz:=hs;obtain⟨z0,e⟩:=aLR.1 hz
 try rw[sC e]
 clear hz hs;unfold HA at e;refine qB a2d ?_;obtain⟨aA,hv1,hw1,e⟩:=qS e
 try simp only[go_sem] at hw1
 refine qB a2d ?_ (hp:=by exact⟨pT,(qR hv1)⟩) (h:=by simp only[go_sem,hw1];rfl)
 refine qV ?_;cases e;exact pF [(0,0)]
def DD (O:pD) (Z:(pD×Unit)) (aA:Int) (aB:pD) (aC:pE):Option (pD×pD×pE):=if (decide (aA=(0:Int)))=true then some ((aB,Z.1,aC)) else if qE ((((aC.length):Nat):Int)+(1:Int)) then if (decide (aA=((((aC.length):Nat):Int)+(1:Int))))=true then some ((O,aB,aC)) else if qE (aA- (1:Int)) then if 0≤(aA- (1:Int))∧(aA- (1:Int))<(((aC.length):Nat):Int) then some ((O,Z.1,(List.set aC (Int.toNat (aA- (1:Int))) aB))) else none else none else none
section
variable (O:Int) (Z:pD) (aA:pD) (aB:Nat) (aC:(pD×Unit)) (aD:pE) (aE:Nat)
abbrev a2e:List qC:=[(.val .ref (some (0,0)),none),(.val (.int .i64) O,none),(.val .str Z,none)]
abbrev a2f:List q9:=[.cells ZQ (aA,((some (1,aB)),aC)) [],.row 9 .str aD aE]
@[go_sem] def a2g:qI:=⟨[aB=aE,((DD aA aC O Z aD)).isSome=true],[],[.cells ZQ ((val (DD aA aC O Z aD)).1,((some (1,(aD.length))),((val (DD aA aC O Z aD)).2.1,()))) [],.row 9 .str ((val (DD aA aC O Z aD)).2.2) (aD.length)]⟩
def aAH:List qC→List q9→Option qI:=rU (V:=(Int×pD×pD×Nat×(pD×Unit)×pE×Nat)) (fun x=>a2e x.1 x.2.1) (fun x=>a2f x.2.2.1 x.2.2.2.1 x.2.2.2.2.1 x.2.2.2.2.2.1 x.2.2.2.2.2.2) fun x=>a2g x.1 x.2.1 x.2.2.1 x.2.2.2.1 x.2.2.2.2.1 x.2.2.2.2.2.1 x.2.2.2.2.2.2
@[go_sem] def aK5:aAH (no_index (a2e O Z)) (no_index (a2f aA aB aC aD aE))=some (a2g O Z aA aB aC aD aE):=rY (fun⟨a0,a1,a2,a3,a4,a5,a6⟩ ⟨b0,b1,b2,b3,b4,b5,b6⟩ h1 h2=>by cases h1;cases h2;rfl) (O,Z,aA,aB,aC,aD,aE)
end
@[go_sem] abbrev a2h:Nat×r6:=(29,⟨[.p ZQ [],.v,.v],aAH,[(0,1,.r)],[],none⟩)
def aAI:rN Tryz.prog [] (rO []):=⟨trivial,rR,rP⟩
def LN:rN Tryz.prog [sY,TH,E6] (rO []):=⟨⟨tE,⟨a9w,⟨GZ,trivial⟩⟩⟩,aAI.Γ,rP⟩
def aHx:r9 Tryz.prog a2h:=by
 refine rZ aAI Tryz.func29 (c:=_) rfl (N:=33) pU (ts:=[]) rfl (fun _ _=>rfl) ?_;intro⟨O,Z,aA,aB,aC,aD,aE⟩ hs hrow;dsimp only[a2e,a2f,a2g,rQ,qM,r5,rF,rT,Nat.reduceAdd] at hs hrow|-;obtain⟨rfl,hz⟩:=hs;obtain⟨rfl,_⟩:=hrow;obtain⟨z0,e⟩:=aLR.1 hz
 try rw[sC e]
 clear hz;unfold DD at e;refine qB LN ?_;refine s9 ?_;refine qB LN ?_;refine qY e (fun e hc1=> ?_) (fun e hc1=> ?_)
 .refine rL LN ?_;refine rV ?_;cases e;exact pF [(0,0),(1,1)]
 .obtain⟨hg1,e⟩:=qJ e;refine qB LN ?_ (hp:=by exact hg1);refine qY e (fun e hc2=> ?_) (fun e hc2=> ?_)
  .refine rL LN ?_;refine rV ?_;cases e;exact pF [(0,0),(1,1)]
  .obtain⟨hg2,e⟩:=qJ e;obtain⟨hg3,e⟩:=qJ e;refine rL LN ?_ (hp:=by exact⟨hg2,hg3,pT⟩)
   refine rV ?_;cases e;exact pF [(0,0),(1,1)]
def aAJ:Unit:=()
section
abbrev a2i:List qC:=[]
abbrev a2j:List q9:=[]
@[go_sem] def a2k:qI:=⟨[],[(.val (.list .str) ([([110,101,119]:pD),([102,117,122,122,121]:pD),([116,114,97,110,115,108,97,116,101,100]:pD),([114,101,118,105,101,119,101,100]:pD),([111,98,115,111,108,101,116,101]:pD)]:pE),none)],[]⟩
def aAK:List qC→List q9→Option qI:=rU (V:=Unit) (fun x=>a2i) (fun x=>a2j) fun x=>a2k
@[go_sem] def aK6:aAK (no_index a2i) (no_index a2j)=some a2k:=rY (fun _ _ h1 h2=>by cases h1;cases h2;rfl) ()
end
@[go_sem] abbrev TO:Nat×r6:=(69,⟨[],aAK,[],[],none⟩)
def a2l:rN Tryz.prog [xU] (rO []):=⟨⟨yI,trivial⟩,rR,rP⟩
def a2m:r9 Tryz.prog TO:=by
 refine rZ a2l Tryz.func69 (c:=_) rfl (N:=2) pU (ts:=[(0,none)]) rfl (fun _ _=>rfl) ?_;intro⟨⟩ hs hrow;dsimp only[a2i,a2j,a2k,rQ,qM,r5,rF,rT,Nat.reduceAdd] at hs hrow|-;obtain⟨z0,e⟩: ∃z,aAJ=z:=⟨_,rfl⟩
 try rw[e]
 unfold aAJ at e;refine qB a2l ?_;refine qB a2l ?_;refine qV ?_;cases e;exact pF []
def LO (O:xT) (Z:pD) (aA:pD):(Int×(List (pD×pD)))→Option ((Int×(List (pD×pD)))⊕((List (pD×pD))⊕(List (pD×pD)))):=fun(aB,aC)=>if (decide (aB<(O.2.2.1.length:Int)))=true then if 0≤aB∧aB<(O.2.2.1.length:Int) then if ((Z++([32]:pD)).length:Int)≤9223372036854775807 then if (((Z++([32]:pD))++aA).length:Int)≤9223372036854775807 then if (List.all ((Z++([32]:pD))++aA) fun b=>decide (b.toNat<128))=true∧List.length ((Z++([32]:pD))++aA)<4294967281 then (DA (Lib.fields ((Z++([32]:pD))++aA)) ((qW (.pair .str (.pair .str .unit)) O.2.2.1 aB).1)).bind fun aD=>if (!aD)=true then none else if qE (aB+(1:Int)) then some (.inl ((aB+(1:Int)),(tO .str .str ((qW (.pair .str (.pair .str .unit)) O.2.2.1 aB).1) ((qW (.pair .str (.pair .str .unit)) O.2.2.1 aB).2.1) aC))) else none else none else none else none else none else some (.inr (.inl aC))
def HB (O:pD) (Z:(List (pD×pD))):Int→Option (Int⊕(Unit⊕(List (pD×pD)))):=fun aA=>if (decide (aA<((((Lib.fields O).length):Nat):Int)))=true then if 0≤aA∧aA<((((Lib.fields O).length):Nat):Int) then if (!(vB .str .str Z (qW .str (Lib.fields O) aA)))=true then none else if qE (aA+(1:Int)) then some (.inl (aA+(1:Int))) else none else none else some (.inr (.inl ()))
def vU (O:xT) (Z:pD) (aA:pD):Option (List (pD×pD)):=uT (rX (LO O Z aA) ((0:Int),([]:List (pD×pD)))) fun aB=>if (List.all Z fun b=>decide (b.toNat<128))=true∧List.length Z<4294967281 then uT (rX (HB Z aB) (0:Int)) fun _=>some (aB) else none
section
variable (O:xT) (Z:pD) (aA:pD)
abbrev a2n:List qC:=[(.val wE O,none),(.val .str Z,none),(.val .str aA,none)]
abbrev a2o:List q9:=[]
@[go_sem] def a2p:qI:=⟨[((vU O Z aA)).isSome=true],[(.val .mp (some 0),none),(.val .bool true,none)],[.map .str .str (val (vU O Z aA))]⟩
def aAL:List qC→List q9→Option qI:=rU (V:=(xT×pD×pD)) (fun x=>a2n x.1 x.2.1 x.2.2) (fun x=>a2o) fun x=>a2p x.1 x.2.1 x.2.2
@[go_sem] def aK7:aAL (no_index (a2n O Z aA)) (no_index a2o)=some (a2p O Z aA):=rY (fun⟨a0,a1,a2⟩ ⟨b0,b1,b2⟩ h1 h2=>by cases h1;cases h2;rfl) (O,Z,aA)
end
@[go_sem] abbrev LP:Nat×r6:=(80,⟨[.v,.v,.v],aAL,[],[],none⟩)
def yK:rN Tryz.prog [sY,xU,BT,y6,E8,AR] (rO [IV,TN]):=⟨⟨tE,⟨yI,⟨D6,⟨z7,⟨H4,⟨CE,trivial⟩⟩⟩⟩⟩⟩,qO T7 (qO a0V rR),rP⟩
def PA:r9 Tryz.prog LP:=by
 refine rZ yK Tryz.func80 (c:=_) rfl (N:=55) pU (ts:=[(6,none),(7,none)]) rfl (fun _ _=>rfl) ?_;intro⟨O,Z,aA⟩ hs hrow;dsimp only[a2n,a2o,a2p,rQ,qM,r5,rF,rT,Nat.reduceAdd] at hs hrow|-;have hz:=hs;obtain⟨z0,e⟩:=aLR.1 hz
 try rw[sC e]
 clear hz hs;unfold vU at e;refine qB yK ?_;refine qB yK ?_;refine qT ?_;refine qB yK ?_;refine s9 ?_;obtain⟨y1,hy1,e⟩:=wB e;refine v6 0 (fun s=> ∃v,y1= .inl v∧s=(fun x=>⟨[(1,(.val .str Z,none)),(8,(.val .mp (some 0),none))],[(0,.map .str .str x)],1,55,0⟩) v) ?_ ?_
 .refine uS hy1 (fun x=>⟨[(1,(.val .str Z,none)),(2,(.val .str aA,none)),(8,(.val .mp (some 0),none)),(17,(.val (.list (.pair .str (.pair .str .unit))) O.2.2.1,none)),(18,(.val (.int .i64) (O.2.2.1.length:Int),none)),(19,(.val (.int .i64) x.1,none))],[(0,.map .str .str x.2)],1,55,0⟩) ⟨[1,2,8,17,18,19],[(0,96)]⟩ pV ?_;intro x1 w1 n1 d g;obtain⟨aB,aC⟩:=x1;unfold LO at d;dsimp only at d|-;refine qB yK ?_;refine qT ?_;refine qY d (fun d hc1=> ?_) (fun d hc1=> ?_)
  .refine rG (qQ (qT (s9 ?_)));obtain⟨hg1,d⟩:=qJ d;refine qB yK ?_ (hp:=by exact hg1);refine qT ?_;obtain⟨hg2,d⟩:=qJ d;obtain⟨hg3,d⟩:=qJ d;obtain⟨hg4,d⟩:=qJ d;obtain⟨aD,hv5,hw5,d⟩:=qS d
   try simp only[go_sem] at hw5
   refine vZ yK ?_ (hp:=by exact⟨hg2,hg3,hg4,fun _=>by first|exact rfl|exact trivial,(qR hv5)⟩) (h:=by simp only[go_sem,hw5];rfl)
   refine qY d (fun d hc2=> ?_) (fun d hc2=> ?_)
   .refine qT ?_;refine rL yK ?_;cases d
   .refine rG (qQ ?_);refine rL yK ?_;refine rV (qQ ?_);obtain⟨hg6,d⟩:=qJ d;refine rL yK ?_ (hp:=by exact hg6);cases d;exact tQ ⟨⟨[1,2,8,17,18,19],[(0,0)]⟩,_,by rfl,g⟩
  .refine uO (uN (uQ ?_));cases d;cases g;exact uP ⟨⟨[1,8],[(0,0)]⟩,_,rfl,by rfl⟩
 .rintro _ ⟨aE,rfl,rfl⟩;dsimp only at e|-;refine uY (qQ (qT ?_));obtain⟨hg7,e⟩:=qJ e;refine qB yK ?_ (hp:=by exact hg7);refine s9 ?_;obtain⟨y1,hy1,e⟩:=wB e;refine v6 2 (fun s=> ∃v,y1= .inl v∧s=(fun _=>⟨[(8,(.val .mp (some 0),none))],[(0,.map .str .str aE)],1,55,0⟩) v) ?_ ?_
  .refine uS hy1 (fun x=>⟨[(8,(.val .mp (some 0),none)),(39,(.own 1 ((Lib.fields Z).length),none)),(40,(.val (.int .i64) ((((Lib.fields Z).length):Nat):Int),none)),(41,(.val (.int .i64) x,none))],[(0,.map .str .str aE),(1,.row 9 .str (Lib.fields Z) ((Lib.fields Z).length))],2,55,0⟩) ⟨[8,39,40,41],[(0,0),(1,33)]⟩ pV ?_;intro aF w1 n1 d g;unfold HB at d;dsimp only at d|-;refine qB yK ?_;refine qT ?_;refine qY d (fun d hc3=> ?_) (fun d hc3=> ?_)
   .refine rG (qQ (qT (s9 ?_)));obtain⟨hg8,d⟩:=qJ d;refine qB yK ?_ (hp:=by exact⟨hg8,pT⟩)
    refine qB yK ?_;refine qB yK ?_;refine qY d (fun d hc4=> ?_) (fun d hc4=> ?_)
    .refine qT ?_;refine rL yK ?_;cases d
    .refine rG (rV (qQ ?_));obtain⟨hg9,d⟩:=qJ d;refine rL yK ?_ (hp:=by exact hg9);cases d;exact tQ ⟨⟨[8,39,40,41],[(0,0),(1,1)]⟩,_,by rfl,g⟩
   .refine uO (uN (uQ ?_));cases d;cases g;exact uP ⟨⟨[8],[(0,0)]⟩,_,rfl,by rfl⟩
  .rintro _ ⟨v,rfl,rfl⟩;dsimp only at e|-;refine uY (qQ ?_);refine qB yK ?_;refine qV ?_;cases e;exact pF [(0,0)]
attribute [irreducible] LM HA DD vU
end
noncomputable section
def LQ (O:xT) (Z:pD) (aA:pD):(Int×(List (pD×pD)))→Option ((Int×(List (pD×pD)))⊕((List (pD×pD))⊕Unit)):=fun(aB,aC)=>if (decide (aB<(O.2.2.1.length:Int)))=true then if 0≤aB∧aB<(O.2.2.1.length:Int) then if ((Z++([32]:pD)).length:Int)≤9223372036854775807 then if (((Z++([32]:pD))++aA).length:Int)≤9223372036854775807 then if (List.all ((Z++([32]:pD))++aA) fun b=>decide (b.toNat<128))=true∧List.length ((Z++([32]:pD))++aA)<4294967281 then (DA (Lib.fields ((Z++([32]:pD))++aA)) ((qW (.pair .str (.pair .str .unit)) O.2.2.1 aB).1)).bind fun aD=>if (!aD)=true then some (.inr (.inr (()))) else if qE (aB+(1:Int)) then some (.inl ((aB+(1:Int)),(tO .str .str ((qW (.pair .str (.pair .str .unit)) O.2.2.1 aB).1) ((qW (.pair .str (.pair .str .unit)) O.2.2.1 aB).2.1) aC))) else none else none else none else none else none else some (.inr (.inl aC))
def JI (O:pD) (Z:(List (pD×pD))):Int→Option (Int⊕(Unit⊕Unit)):=fun aA=>if (decide (aA<((((Lib.fields O).length):Nat):Int)))=true then if 0≤aA∧aA<((((Lib.fields O).length):Nat):Int) then if (!(vB .str .str Z (qW .str (Lib.fields O) aA)))=true then some (.inr (.inr (()))) else if qE (aA+(1:Int)) then some (.inl (aA+(1:Int))) else none else none else some (.inr (.inl ()))
def CF (O:xT) (Z:pD) (aA:pD):Option Unit:=uT (rX (LQ O Z aA) ((0:Int),([]:List (pD×pD)))) fun aB=>if (List.all Z fun b=>decide (b.toNat<128))=true∧List.length Z<4294967281 then uT (rX (JI Z aB) (0:Int)) fun _=>none else none
section
variable (O:xT) (Z:pD) (aA:pD)
abbrev a2q:List qC:=[(.val wE O,none),(.val .str Z,none),(.val .str aA,none)]
abbrev a2r:List q9:=[]
@[go_sem] def a2s:qI:=⟨[((CF O Z aA)).isSome=true],[(.val .mp none,none),(.val .bool false,none)],[]⟩
def aAM:List qC→List q9→Option qI:=rU (V:=(xT×pD×pD)) (fun x=>a2q x.1 x.2.1 x.2.2) (fun x=>a2r) fun x=>a2s x.1 x.2.1 x.2.2
@[go_sem] def aK8:aAM (no_index (a2q O Z aA)) (no_index a2r)=some (a2s O Z aA):=rY (fun⟨a0,a1,a2⟩ ⟨b0,b1,b2⟩ h1 h2=>by cases h1;cases h2;rfl) (O,Z,aA)
end
@[go_sem] abbrev LR:Nat×r6:=(80,⟨[.v,.v,.v],aAM,[],[],none⟩)
def yM:rN Tryz.prog [sY,xU,BT,y6,E8,AR] (rO [IV,TN]):=⟨⟨tE,⟨yI,⟨D6,⟨z7,⟨H4,⟨CE,trivial⟩⟩⟩⟩⟩⟩,qO T7 (qO a0V rR),rP⟩
def PB:r9 Tryz.prog LR:=by
 refine rZ yM Tryz.func80 (c:=_) rfl (N:=55) pU (ts:=[(6,none),(7,none)]) rfl (fun _ _=>rfl) ?_;intro⟨O,Z,aA⟩ hs hrow;dsimp only[a2q,a2r,a2s,rQ,qM,r5,rF,rT,Nat.reduceAdd] at hs hrow|-;have hz:=hs;obtain⟨z0,d⟩:=aLR.1 hz
 try rw[sC d]
 clear hz hs;unfold CF at d;refine qB yM ?_;refine qB yM ?_;refine qT ?_;refine qB yM ?_;refine s9 ?_;obtain⟨y1,hy1,d⟩:=wB d;refine v6 0 (fun s=> ∃v,y1= .inl v∧s=(fun x=>⟨[(1,(.val .str Z,none)),(8,(.val .mp (some 0),none))],[(0,.map .str .str x)],1,55,0⟩) v) ?_ ?_
 .refine uS hy1 (fun x=>⟨[(1,(.val .str Z,none)),(2,(.val .str aA,none)),(8,(.val .mp (some 0),none)),(17,(.val (.list (.pair .str (.pair .str .unit))) O.2.2.1,none)),(18,(.val (.int .i64) (O.2.2.1.length:Int),none)),(19,(.val (.int .i64) x.1,none))],[(0,.map .str .str x.2)],1,55,0⟩) ⟨[1,2,8,17,18,19],[(0,96)]⟩ pV ?_;intro x1 w1 n1 e g;obtain⟨aB,aC⟩:=x1;unfold LQ at e;dsimp only at e|-;refine qB yM ?_;refine qT ?_;refine qY e (fun e hc1=> ?_) (fun e hc1=> ?_)
  .refine rG (qQ (qT (s9 ?_)));obtain⟨hg1,e⟩:=qJ e;refine qB yM ?_ (hp:=by exact hg1);refine qT ?_;obtain⟨hg2,e⟩:=qJ e;obtain⟨hg3,e⟩:=qJ e;obtain⟨hg4,e⟩:=qJ e;obtain⟨aD,hv5,hw5,e⟩:=qS e
   try simp only[go_sem] at hw5
   refine vZ yM ?_ (hp:=by exact⟨hg2,hg3,hg4,fun _=>by first|exact rfl|exact trivial,(qR hv5)⟩) (h:=by simp only[go_sem,hw5];rfl)
   refine qY e (fun e hc2=> ?_) (fun e hc2=> ?_)
   .refine qB yM ?_;refine qV (s8 (sE (s8 (wA (wH (sE (s8 ?_)))))));cases e;cases g;dsimp only at d;cases d;exact pF []
   .refine rG (qQ ?_);refine rL yM ?_;refine rV (qQ ?_);obtain⟨hg6,e⟩:=qJ e;refine rL yM ?_ (hp:=by exact hg6);cases e;exact tQ ⟨⟨[1,2,8,17,18,19],[(0,0)]⟩,_,by rfl,g⟩
  .refine uO (uN (uQ ?_));cases e;cases g;exact uP ⟨⟨[1,8],[(0,0)]⟩,_,rfl,by rfl⟩
 .rintro _ ⟨aE,rfl,rfl⟩;dsimp only at d|-;refine uY (qQ (qT ?_));obtain⟨hg7,d⟩:=qJ d;refine qB yM ?_ (hp:=by exact hg7);refine s9 ?_;obtain⟨y1,hy1,d⟩:=wB d;refine v6 2 (fun s=> ∃v,y1= .inl v∧s=(fun _=>⟨[(8,(.val .mp (some 0),none))],[(0,.map .str .str aE)],1,55,0⟩) v) ?_ ?_
  .refine uS hy1 (fun x=>⟨[(8,(.val .mp (some 0),none)),(39,(.own 1 ((Lib.fields Z).length),none)),(40,(.val (.int .i64) ((((Lib.fields Z).length):Nat):Int),none)),(41,(.val (.int .i64) x,none))],[(0,.map .str .str aE),(1,.row 9 .str (Lib.fields Z) ((Lib.fields Z).length))],2,55,0⟩) ⟨[8,39,40,41],[(0,0),(1,33)]⟩ pV ?_;intro aF w1 n1 e g;unfold JI at e;dsimp only at e|-;refine qB yM ?_;refine qT ?_;refine qY e (fun e hc3=> ?_) (fun e hc3=> ?_)
   .refine rG (qQ (qT (s9 ?_)));obtain⟨hg8,e⟩:=qJ e;refine qB yM ?_ (hp:=by exact⟨hg8,pT⟩)
    refine qB yM ?_;refine qB yM ?_;refine qY e (fun e hc4=> ?_) (fun e hc4=> ?_)
    .refine qB yM ?_;refine qV (sE (s8 (wA (wH (sE (s8 ?_))))));cases e;cases g;dsimp only at d;cases d;exact pF []
    .refine rG (rV (qQ ?_));obtain⟨hg9,e⟩:=qJ e;refine rL yM ?_ (hp:=by exact hg9);cases e;exact tQ ⟨⟨[8,39,40,41],[(0,0),(1,1)]⟩,_,by rfl,g⟩
   .refine uO (uN (uQ ?_));cases e;cases g;exact uP ⟨⟨[8],[(0,0)]⟩,_,rfl,by rfl⟩
  .rintro _ ⟨v,rfl,rfl⟩;dsimp only at d|-;refine uY (qQ (qT ?_));refine rL yM ?_;cases d
def FP (O:pD):Option Bool:=if 0<([32]:pD).length∧List.length O<4294967281 then if 0<(tM O ([32]:pD)).length∧List.length (tM O ([32]:pD))≤9223372036854775807 then (JH (tZ (tM O ([32]:pD)))).bind fun Z=>some ((!Z)) else none else none
section
variable (O:pD)
abbrev a2t:List qC:=[(.val .str O,none)]
abbrev a2u:List q9:=[]
@[go_sem] def a2v:qI:=⟨[((FP O)).isSome=true],[(.own 0 ((tZ (tM O ([32]:pD))).length),none),(.val .bool (val (FP O)),none)],[.row 9 .str (tZ (tM O ([32]:pD))) ((tZ (tM O ([32]:pD))).length)]⟩
def aAN:List qC→List q9→Option qI:=rU (V:=pD) (a2t) (fun x=>a2u) fun x=>a2v x
@[go_sem] def aK9:aAN (no_index (a2t O)) (no_index a2u)=some (a2v O):=rY (fun a0 b0 h1 h2=>by cases h1;cases h2;rfl) O
end
@[go_sem] abbrev TP:Nat×r6:=(87,⟨[.v],aAN,[],[],none⟩)
def TQ:rN Tryz.prog [xU] (rO [L7,L8,aAB]):=⟨⟨yI,trivial⟩,qO YX (qO YY (qO aHu rR)),rP⟩
def a2w:r9 Tryz.prog TP:=by
 refine rZ TQ Tryz.func87 (c:=_) rfl (N:=12) pU (ts:=[(2,none),(3,none)]) rfl (fun _ _=>rfl) ?_;intro O hs hrow;dsimp only[a2t,a2u,a2v,rQ,qM,r5,rF,rT,Nat.reduceAdd] at hs hrow|-;have hz:=hs;obtain⟨z0,d⟩:=aLR.1 hz
 try rw[sC d]
 clear hz hs;unfold FP at d;refine qB TQ ?_;obtain⟨hg1,d⟩:=qJ d;obtain⟨hg2,d⟩:=qJ d;refine qB TQ ?_ (hp:=by exact⟨hg1,pT,hg2⟩)
 obtain⟨Z,hv3,hw3,d⟩:=qS d
 try simp only[go_sem] at hw3
 refine qB TQ ?_ (hp:=by exact⟨fun _=>by first|exact rfl|exact trivial,(qR hv3)⟩) (h:=by simp only[go_sem,hw3];rfl)
 refine qV ?_;cases d;exact pF [(0,129)]
def TR (O:Int):(Int×pD)→Unit→Option (Unit⊕(pD×Bool)):=fun Z _=>if (decide (Z.1=O))=true then some (.inr ((Z.2,true))) else some (.inl ())
def FQ (O:yH) (Z:Int):Option (pD×Bool):=if List.length O.2.1≤4611686018427387904 then uT (xF (TR Z) (z6 O) ()) fun _=>some ((([]:pD),false)) else none
section
variable (O:yH) (Z:Int)
abbrev a2x:List qC:=[(.val zM O,none),(.val (.int .i64) Z,none)]
abbrev a2y:List q9:=[]
@[go_sem] def a2z:qI:=⟨[((FQ O Z)).isSome=true],[(.val .str ((val (FQ O Z)).1),none),(.val .bool ((val (FQ O Z)).2),none)],[]⟩
def aAO:List qC→List q9→Option qI:=rU (V:=(yH×Int)) (fun x=>a2x x.1 x.2) (fun x=>a2y) fun x=>a2z x.1 x.2
@[go_sem] def aLa:aAO (no_index (a2x O Z)) (no_index a2y)=some (a2z O Z):=rY (fun⟨a0,a1⟩ ⟨b0,b1⟩ h1 h2=>by cases h1;cases h2;rfl) (O,Z)
end
@[go_sem] abbrev aAP:Nat×r6:=(10,⟨[.v,.v],aAO,[],[],none⟩)
def HC:rN Tryz.prog [wO,AA,sY,E6] (rO [ZV]):=⟨⟨xH,⟨BU,⟨tE,⟨GZ,trivial⟩⟩⟩⟩,qO a9z rR,rP⟩
def aHy:r9 Tryz.prog aAP:=by
 refine rZ HC Tryz.func10 (c:=_) rfl (N:=16) pU (ts:=[(4,some 9),(5,some 4)]) rfl (fun _ _=>rfl) ?_;intro⟨O,Z⟩ hs hrow;dsimp only[a2x,a2y,a2z,rQ,qM,r5,rF,rT,Nat.reduceAdd] at hs hrow|-;have hz:=hs;obtain⟨z0,d⟩:=aLR.1 hz
 try rw[sC d]
 clear hz hs;unfold FQ at d;refine qB HC ?_;refine qT ?_;refine qB HC ?_;refine s9 ?_;obtain⟨hgF1,d⟩:=qJ d;obtain⟨y1,hy1,d⟩:=wB d;refine a88 a9b a89 pV pV hgF1 hy1 [(3,(.val .ref (some (0,0)),none)),(4,(.val .ref (some (1,0)),none)),(5,(.val .ref (some (2,0)),none))] (fun aA=>[(3,(.val .ref (some (0,0)),none)),(4,(.val .ref (some (1,0)),none)),(5,(.val .ref (some (2,0)),none)),(6,(.val (.int .i64) aA.1,none)),(7,(.val .str aA.2,none))]) (fun _=>[.cells (.int .i64) Z [],.cells .str ([]:pD) [],.cells .bool false []]) 3 ⟨[3,4,5],[(0,32),(1,64),(2,96)]⟩ pV pV pV pV (aMS pV) (fun _=>aMS rfl) (fun _=>by rfl) (fun _=>rfl) pV ?_ ?_
 .intro aA x1 w1 e g;refine⟨?_,?_⟩
  .dsimp only[F9,YJ,u7,qM,r5,Nat.reduceAdd,List.toList_toArray];refine qB HC ?_;refine rL HC ?_;exact YH ⟨[3,4,5,6,7],[(0,0),(1,1),(2,2)]⟩ pV
  .unfold TR at e;dsimp only[qM,r5,Nat.reduceAdd] at e|-;refine s9 ?_;refine qB HC ?_;refine qY e (fun e hc1=> ?_) (fun e hc1=> ?_)
   .refine qB HC ?_;refine qV (sE ?_);refine aGQ ⟨[],[(0,0),(1,1),(2,2)]⟩ [.cells (.int .i64) Z [],.cells .str aA.2 [],.cells .bool true []] _ (aLS e).symm pV ?_;refine sE (s8 ?_);cases e;obtain rfl:=g _ rfl;dsimp only at d;cases d;exact pF []
   .refine rG (rV ?_);cases e;exact YI ⟨[],[(0,0),(1,1),(2,2)]⟩ _ rfl pV
 .rintro xv rfl;dsimp only[qM,r5,Nat.reduceAdd] at d|-;refine rV (qQ ?_);refine qB HC ?_;refine qV ?_;cases d;exact pF []
def DE (O:yH) (Z:Int) (aA:pD):Option (pD×pE×pD×Int):=if (((decide (Z<(0:Int)))==false)=true→qE ((O.2.1.length:Int)+(1:Int))) then if ((decide (Z<(0:Int)))||(decide (((O.2.1.length:Int)+(1:Int))<Z)))=true then some ((([]:pD),([]:pE),([]:pD),(2:Int))) else (wY O.2.1).bind fun aB=>(DD O.1 O.2.2 Z aA aB).bind fun aC=>some ((aC.1,aC.2.2,aC.2.1,(0:Int))) else none
section
variable (O:yH) (Z:Int) (aA:pD)
abbrev a2A:List qC:=[(.val zM O,none),(.val (.int .i64) Z,none),(.val .str aA,none)]
abbrev a2B:List q9:=[]
@[go_sem] def a2C:qI:=⟨[((DE O Z aA)).isSome=true],[(.val zM ((val (DE O Z aA)).1,((val (DE O Z aA)).2.1,((val (DE O Z aA)).2.2.1,()))),none),(.val (.int .i64) ((val (DE O Z aA)).2.2.2),none)],[]⟩
def aAQ:List qC→List q9→Option qI:=rU (V:=(yH×Int×pD)) (fun x=>a2A x.1 x.2.1 x.2.2) (fun x=>a2B) fun x=>a2C x.1 x.2.1 x.2.2
@[go_sem] def aLb:aAQ (no_index (a2A O Z aA)) (no_index a2B)=some (a2C O Z aA):=rY (fun⟨a0,a1,a2⟩ ⟨b0,b1,b2⟩ h1 h2=>by cases h1;cases h2;rfl) (O,Z,aA)
end
@[go_sem] abbrev aAR:Nat×r6:=(11,⟨[.v,.v,.v],aAQ,[],[],none⟩)
def LS:rN Tryz.prog [xU,E6] (rO [P7,a2h]):=⟨⟨yI,⟨GZ,trivial⟩⟩,qO a16 (qO aHx rR),rP⟩
def aAS:rN Tryz.prog [E6] (rO [P7,a2h]):=⟨⟨GZ,trivial⟩,LS.Γ,rP⟩
def aHz:r9 Tryz.prog aAR:=by
 refine rZ LS Tryz.func11 (c:=_) rfl (N:=27) pU (ts:=[(6,some 26),(7,none)]) rfl (fun _ _=>rfl) ?_;intro⟨O,Z,aA⟩ hs hrow;dsimp only[a2A,a2B,a2C,rQ,qM,r5,rF,rT,Nat.reduceAdd] at hs hrow|-;have hz:=hs;obtain⟨z0,d⟩:=aLR.1 hz
 try rw[sC d]
 clear hz hs;unfold DE at d;refine qB LS ?_;refine qT ?_;obtain⟨hg1,d⟩:=qJ d;refine qB LS ?_ (hp:=by exact⟨id,id,id,hg1,id,id,tK⟩);refine qY d (fun d hc1=> ?_) (fun d hc1=> ?_)
 .refine qB LS ?_;refine qV (s8 ?_);cases d;exact pF []
 .refine rG (qQ ?_);obtain⟨aB,hv2,hw2,d⟩:=qS d
  try simp only[go_sem] at hw2
  refine qB LS ?_ (hp:=by exact(qR hv2)) (h:=by simp only[go_sem,hw2];rfl);obtain⟨aC,hv3,hw3,d⟩:=qS d
  try simp only[go_sem] at hw3
  refine qB aAS ?_ (hp:=by exact⟨pT,(qR hv3)⟩) (h:=by simp only[go_sem,hw3];rfl)
  refine qB aAS ?_ (hp:=by first|rfl|trivial)
  refine qV ?_;cases d;exact pF []
def TS:(Int×pD)→pM→Option (pM⊕pD):=fun O Z=>(FI (Z,()) O.2).bind fun aA=>some (.inl (Z++uW O.2))
def JJ (O:yH):Option pD:=if List.length O.2.1≤4611686018427387904 then uT (xF (TS) (z6 O) ([]:pM)) fun Z=>some ((x7 Z)) else none
section
variable (O:yH)
abbrev a2D:List qC:=[(.val zM O,none)]
abbrev a2E:List q9:=[]
@[go_sem] def a2F:qI:=⟨[((JJ O)).isSome=true],[(.val .str (val (JJ O)),none)],[]⟩
def aAT:List qC→List q9→Option qI:=rU (V:=yH) (a2D) (fun x=>a2E) fun x=>a2F x
@[go_sem] def aLc:aAT (no_index (a2D O)) (no_index a2E)=some (a2F O):=rY (fun a0 b0 h1 h2=>by cases h1;cases h2;rfl) O
end
@[go_sem] abbrev aAU:Nat×r6:=(13,⟨[.v],aAT,[],[],none⟩)
def JK:rN Tryz.prog [E6,H0] (rO [ZV,a0a,GY]):=⟨⟨GZ,⟨LC,trivial⟩⟩,qO a9z (qO a9B (qO OL rR)),rP⟩
def aHA:r9 Tryz.prog aAU:=by
 refine rZ JK Tryz.func13 (c:=_) rfl (N:=13) pU (ts:=[(2,none)]) rfl (fun _ _=>rfl) ?_;intro O hs hrow;dsimp only[a2D,a2E,a2F,rQ,qM,r5,rF,rT,Nat.reduceAdd] at hs hrow|-;have hz:=hs;obtain⟨z0,d⟩:=aLR.1 hz
 try rw[sC d]
 clear hz hs;unfold JJ at d;refine qB JK ?_;refine qB JK ?_;refine qT ?_;refine qB JK ?_;refine s9 ?_;obtain⟨hgF2,d⟩:=qJ d;obtain⟨y1,hy1,d⟩:=wB d;refine a88 a9b a89 pV pV hgF2 hy1 [(3,(.val .ref (some (0,0)),none))] (fun Z=>[(3,(.val .ref (some (0,0)),none)),(5,(.val .str Z.2,none))]) (fun x=>[.cells wC ((some (0,0)),(x,())) [(1,1)],.grow 5 1 (x.length)]) 1 ⟨[3],[(0,64),(1,65)]⟩ pV pV pV pV (aMS pV) (fun _=>aMS rfl) (fun _=>by rfl) (fun _=>rfl) pV ?_ ?_
 .intro Z aA w1 e g;refine⟨?_,?_⟩
  .dsimp only[F9,YJ,u7,qM,r5,Nat.reduceAdd,List.toList_toArray];refine rL JK ?_;exact YH ⟨[3,5],[(0,0),(1,1)]⟩ pV
  .unfold TS at e;dsimp only[qM,r5,Nat.reduceAdd] at e|-;refine s9 ?_;obtain⟨aB,hv1,hw1,e⟩:=qS e
   try simp only[go_sem] at hw1
   refine rL JK ?_ (hp:=by exact⟨pT,(qR hv1)⟩) (h:=by simp only[go_sem,hw1];rfl)
   refine rV ?_;cases e;exact YI ⟨[],[(0,0),(1,1)]⟩ _ rfl pV
 .rintro aA rfl;dsimp only[qM,r5,Nat.reduceAdd] at d|-;refine rV (qQ ?_);refine qB JK ?_ (hp:=by first|rfl|trivial)
  refine qV ?_;cases d;exact pF []
attribute [irreducible] CF FP FQ DE JJ
end
noncomputable section
def PC (O:sQ) (Z:sQ):Option Unit:=if (((decide (O.1=Z.1))==true)=true→((wI O.2.1 Z.2.1)).isSome=true) then if ((((decide (O.1=Z.1))&&(val (wI O.2.1 Z.2.1)))==true)=true→((z8 O.2.2.1 Z.2.2.1)).isSome=true) then some (()) else none else none
section
variable (O:sQ) (Z:sQ)
abbrev a2G:List qC:=[(.val FB O,none),(.val FB Z,none)]
abbrev a2H:List q9:=[]
@[go_sem] def a2I:qI:=⟨[((PC O Z)).isSome=true],[(.val .bool (((decide (O.1=Z.1))&&(val (wI O.2.1 Z.2.1)))&&(val (z8 O.2.2.1 Z.2.2.1))),none)],[]⟩
def aAV:List qC→List q9→Option qI:=rU (V:=(sQ×sQ)) (fun x=>a2G x.1 x.2) (fun x=>a2H) fun x=>a2I x.1 x.2
@[go_sem] def aLd:aAV (no_index (a2G O Z)) (no_index a2H)=some (a2I O Z):=rY (fun⟨a0,a1⟩ ⟨b0,b1⟩ h1 h2=>by cases h1;cases h2;rfl) (O,Z)
end
@[go_sem] abbrev aAW:Nat×r6:=(32,⟨[.v,.v],aAV,[],[],none⟩)
def a2J:rN Tryz.prog [sY,xU,CD,D7] (rO [a0m,a0q]):=⟨⟨tE,⟨yI,⟨E7,⟨FG,trivial⟩⟩⟩⟩,qO a9H (qO a9J rR),rP⟩
def aHB:r9 Tryz.prog aAW:=by
 refine rZ a2J Tryz.func32 (c:=_) rfl (N:=24) pU (ts:=[(4,none)]) rfl (fun _ _=>rfl) ?_;intro⟨O,Z⟩ hs hrow;dsimp only[a2G,a2H,a2I,rQ,qM,r5,rF,rT,Nat.reduceAdd] at hs hrow|-;have hz:=hs;obtain⟨z0,e⟩:=aLR.1 hz
 try rw[sC e]
 clear hz hs;unfold PC at e;refine qB a2J ?_;obtain⟨hg1,e⟩:=qJ e;obtain⟨hg2,e⟩:=qJ e;refine qB a2J ?_ (hp:=by exact⟨id,id,id,id,hg1,sZ,id,id,id,id,hg2,sZ⟩);refine qV ?_;cases e;exact pF []
def TT (O:(List rW)) (Z:(List rW)):Int→Option (Int⊕(Unit⊕Bool)):=fun aA=>if (decide (aA<(O.length:Int)))=true then if 0≤aA∧aA<(O.length:Int) then if 0≤aA∧aA<(Z.length:Int) then (LE (qW tC O aA) (qW tC Z aA)).bind fun aB=>if (!(((((((decide (((qW tC O aA).1)=((qW tC Z aA).1)))&&(decide (((qW tC O aA).2.1)=((qW tC Z aA).2.1))))&&(decide (((qW tC O aA).2.2.1)=((qW tC Z aA).2.2.1))))&&(decide (((qW tC O aA).2.2.2.2.2.1)=((qW tC Z aA).2.2.2.2.2.1))))&&(val (wI ((qW tC O aA).2.2.2.1) ((qW tC Z aA).2.2.2.1))))&&(val (wI ((qW tC O aA).2.2.2.2.1) ((qW tC Z aA).2.2.2.2.1))))&&(val (z8 ((qW tC O aA).2.2.2.2.2.2.1) ((qW tC Z aA).2.2.2.2.2.2.1)))))=true then some (.inr (.inr (false))) else if qE (aA+(1:Int)) then some (.inl (aA+(1:Int))) else none else none else none else some (.inr (.inl ()))
def CG (O:(List rW)) (Z:(List rW)):Option Bool:=if (!decide ((O.length:Int)=(Z.length:Int)))=true then some (false) else uT (rX (TT O Z) (0:Int)) fun _=>some (true)
section
variable (O:(List rW)) (Z:(List rW))
abbrev a2K:List qC:=[(.val (.list tC) O,none),(.val (.list tC) Z,none)]
abbrev a2L:List q9:=[]
@[go_sem] def a2M:qI:=⟨[((CG O Z)).isSome=true],[(.val .bool (val (CG O Z)),none)],[]⟩
def aAX:List qC→List q9→Option qI:=rU (V:=((List rW)×(List rW))) (fun x=>a2K x.1 x.2) (fun x=>a2L) fun x=>a2M x.1 x.2
@[go_sem] def aLe:aAX (no_index (a2K O Z)) (no_index a2L)=some (a2M O Z):=rY (fun⟨a0,a1⟩ ⟨b0,b1⟩ h1 h2=>by cases h1;cases h2;rfl) (O,Z)
end
@[go_sem] abbrev aAY:Nat×r6:=(33,⟨[.v,.v],aAX,[],[],none⟩)
def EF:rN Tryz.prog [J6,A9] (rO [a9L]):=⟨⟨OR,⟨BS,trivial⟩⟩,qO aHc rR,rP⟩
def aHC:r9 Tryz.prog aAY:=by
 refine rZ EF Tryz.func33 (c:=_) rfl (N:=27) pU (ts:=[(4,none)]) rfl (fun _ _=>rfl) ?_;intro⟨O,Z⟩ hs hrow;dsimp only[a2K,a2L,a2M,rQ,qM,r5,rF,rT,Nat.reduceAdd] at hs hrow|-;have hz:=hs;obtain⟨z0,e⟩:=aLR.1 hz
 try rw[sC e]
 clear hz hs;unfold CG at e;refine qB EF ?_;refine qT ?_;refine qB EF ?_;refine qY e (fun e hc1=> ?_) (fun e hc1=> ?_)
 .refine qB EF ?_;refine qV (s8 ?_);cases e;exact pF []
 .refine rG (qQ (qT ?_));refine qB EF ?_;refine s9 ?_;obtain⟨y1,hy1,e⟩:=wB e;refine v6 0 (fun s=> ∃v,y1= .inl v∧s=(fun _=>⟨[],[],0,27,0⟩) v) ?_ ?_
  .refine uS hy1 (fun x=>⟨[(0,(.val (.list tC) O,none)),(1,(.val (.list tC) Z,none)),(5,(.val (.int .i64) x,none))],[],0,27,0⟩) ⟨[0,1,5],[]⟩ pV ?_;intro aA w1 n1 f g;unfold TT at f;dsimp only at f|-;refine qT ?_;refine qB EF ?_;refine qY f (fun f hc2=> ?_) (fun f hc2=> ?_)
   .refine rG (qQ (qT (s9 ?_)));obtain⟨hg1,f⟩:=qJ f;obtain⟨hg2,f⟩:=qJ f;obtain⟨aB,hv3,hw3,f⟩:=qS f
    try simp only[go_sem] at hw3
    refine vZ EF ?_ (hp:=by exact⟨hg1,hg2,(qR hv3)⟩) (h:=by simp only[go_sem,hw3];rfl);refine qY f (fun f hc3=> ?_) (fun f hc3=> ?_)
    .refine qB EF ?_;refine qV (sE (s8 (wA (wH (sE (s8 ?_))))));cases f;cases g;dsimp only at e;cases e;exact pF []
    .refine rG (rV (qQ ?_));obtain⟨hg4,f⟩:=qJ f;refine rL EF ?_ (hp:=by exact hg4);cases f;exact tQ ⟨⟨[0,1,5],[]⟩,_,by rfl,g⟩
   .refine uO (uN (uQ ?_));cases f;cases g;exact uP ⟨⟨[],[]⟩,_,rfl,by rfl⟩
  .rintro _ ⟨v,rfl,rfl⟩;dsimp only at e|-;refine uY (qQ ?_);refine qB EF ?_;refine qV ?_;cases e;exact pF []
def PD (O:Int) (Z:Int) (aA:sQ) (aB:(pM×Unit)) (aC:pK):(List s7)→Option ((List s7)⊕(List s7)):=fun aD=>if (((decide (Z=(0:Int)))==true)=true→0≤(0:Int)∧(0:Int)<(aD.length:Int)) then if ((((decide (Z=(0:Int)))==true)&&((decide ((qW sN aD (0:Int)).1=(1:Int)))==false))=true→0≤(0:Int)∧(0:Int)<(aD.length:Int)) then if (((((decide (Z=(0:Int)))==true)&&((decide ((qW sN aD (0:Int)).1=(1:Int)))==false))&&((decide ((qW sN aD (0:Int)).1=(3:Int)))==true))=true→0≤(0:Int)∧(0:Int)<(aD.length:Int)) then if (((((decide (Z=(0:Int)))==true)&&((decide ((qW sN aD (0:Int)).1=(1:Int)))==false))&&((decide ((qW sN aD (0:Int)).1=(3:Int)))==true))=true→(List.all ([32,9,10,13]:pD) fun b=>decide (b.toNat<128))=true∧List.length ([32,9,10,13]:pD)<4294967281) then if (((((decide (Z=(0:Int)))==true)&&((decide ((qW sN aD (0:Int)).1=(1:Int)))==false))&&((decide ((qW sN aD (0:Int)).1=(3:Int)))==true))=true→List.length (qW sN aD (0:Int)).2.1≤9223372036854775807) then if ((decide (Z=(0:Int)))&&((decide ((qW sN aD (0:Int)).1=(1:Int)))||((decide ((qW sN aD (0:Int)).1=(3:Int)))&&(decide ((Lib.trimS ((qW sN aD (0:Int)).2.1) ([32,9,10,13]:pD))=([]:pD))))))=true then (wX aD O Z (aA.1,(aA.2.1,(aA.2.2.1,(aA.2.2.2.1,())))) (aB.1,()) aC).bind fun aE=>some (.inl aE) else some (.inr aD) else none else none else none else none else none
def zA (O:(List s7)) (Z:Int) (aA:Int) (aB:sQ) (aC:(pM×Unit)) (aD:pK):Option (List s7):=t8 (rX (PD Z aA aB aC aD) O) fun aE=>some (aE)
section
variable (O:(List s7)) (Z:Int) (aA:Int) (aB:sQ) (aC:(pM×Unit)) (aD:Nat) (aE:Nat) (aF:pK)
abbrev a2N:List qC:=[(.val .ref (some (0,0)),none)]
abbrev a2O:List q9:=[.cells sO (O,(Z,(aA,(aB,((some 3),aC))))) [(6,1),(8,2)],.grow 53 7 aD,.grow 3 1 aE,.map .str .bool aF]
@[go_sem] def a2P:qI:=⟨[aD=(aB.2.2.2.1.length),aE=(aC.1.length),((zA O Z aA aB aC aF)).isSome=true],[],[.cells sO ((val (zA O Z aA aB aC aF)),(Z,(aA,((aB.1,(aB.2.1,(aB.2.2.1,(aB.2.2.2.1,())))),((some 3),(aC.1,())))))) [(6,1),(8,2)],.grow 53 7 (aB.2.2.2.1.length),.grow 3 1 (aC.1.length),.map .str .bool aF]⟩
def aAZ:List qC→List q9→Option qI:=rU (V:=((List s7)×Int×Int×sQ×(pM×Unit)×Nat×Nat×pK)) (fun x=>a2N) (fun x=>a2O x.1 x.2.1 x.2.2.1 x.2.2.2.1 x.2.2.2.2.1 x.2.2.2.2.2.1 x.2.2.2.2.2.2.1 x.2.2.2.2.2.2.2) fun x=>a2P x.1 x.2.1 x.2.2.1 x.2.2.2.1 x.2.2.2.2.1 x.2.2.2.2.2.1 x.2.2.2.2.2.2.1 x.2.2.2.2.2.2.2
@[go_sem] def aLf:aAZ (no_index a2N) (no_index (a2O O Z aA aB aC aD aE aF))=some (a2P O Z aA aB aC aD aE aF):=rY (fun⟨a0,a1,a2,a3,a4,a5,a6,a7⟩ ⟨b0,b1,b2,b3,b4,b5,b6,b7⟩ h1 h2=>by cases h1;cases h2;rfl) (O,Z,aA,aB,aC,aD,aE,aF)
end
@[go_sem] abbrev LT:Nat×r6:=(52,⟨[.p sO [6,8]],aAZ,[(0,7,.m)],[1,2,3],none⟩)
def a2Q:rN Tryz.prog [wO,sY,BR,BQ,AQ,zN] (rO [IU,H6]):=⟨⟨xH,⟨tE,⟨D5,⟨FD,⟨CC,⟨E5,trivial⟩⟩⟩⟩⟩⟩,qO T6 (qO JC rR),rP⟩
def PE:r9 Tryz.prog LT:=by
 refine rZ a2Q Tryz.func52 (c:=_) rfl (N:=40) pU (ts:=[]) rfl (fun _ _=>rfl) ?_;intro⟨O,Z,aA,aB,aC,aD,aE,aF⟩ hs hrow;dsimp only[a2N,a2O,a2P,rQ,qM,r5,rF,rT,Nat.reduceAdd] at hs hrow|-;obtain⟨rfl,rfl,hz⟩:=hs;obtain⟨z0,e⟩:=aLR.1 hz
 try rw[sC e]
 clear hz;unfold zA at e;refine s9 ?_;obtain⟨aG,hy1,e⟩:=qK e;refine v6 0 (fun s=>s=(fun x=>⟨[],[(0,.cells sO (x,(Z,(aA,((aB.1,(aB.2.1,(aB.2.2.1,(aB.2.2.2.1,())))),((some 3),(aC.1,())))))) [(6,1),(8,2)]),(1,.grow 53 7 (aB.2.2.2.1.length)),(2,.grow 3 1 (aC.1.length)),(3,.map .str .bool aF)],4,40,4⟩) aG) ?_ ?_
 .refine uS hy1 (fun x=>⟨[(0,(.val .ref (some (0,0)),none))],[(0,.cells sO (x,(Z,(aA,((aB.1,(aB.2.1,(aB.2.2.1,(aB.2.2.2.1,())))),((some 3),(aC.1,())))))) [(6,1),(8,2)]),(1,.grow 53 7 (aB.2.2.2.1.length)),(2,.grow 3 1 (aC.1.length)),(3,.map .str .bool aF)],4,40,4⟩) ⟨[0],[(0,0),(1,1),(2,2),(3,3)]⟩ pV ?_;intro aH w1 n1 f g;unfold PD at f;dsimp only at f|-;refine qT ?_;obtain⟨hg1,f⟩:=qJ f;obtain⟨hg2,f⟩:=qJ f;obtain⟨hg3,f⟩:=qJ f;obtain⟨hg4,f⟩:=qJ f;obtain⟨hg5,f⟩:=qJ f;refine qB a2Q ?_ (hp:=by exact⟨id,id,id,id,hg1,id,id,id,id,id,id,id,id,hg2,id,id,id,id,id,id,id,id,hg3,id,id,id,hg4,hg5,id,id,fun hG d=>a8N hG d,id,fun hG d=>GU hG d,sZ⟩);refine qY f (fun f hc1=> ?_) (fun f hc1=> ?_)
  .refine rG (qQ (s9 ?_));obtain⟨aI,hv6,hw6,f⟩:=qS f
   try simp only[go_sem] at hw6
   refine rL a2Q ?_ (hp:=by exact⟨pT,pT,pT,pT,pT,(qR hv6)⟩) (h:=by simp only[go_sem,hw6];rfl)
   refine rV ?_;cases f;exact tQ ⟨⟨[0],[(0,0),(1,1),(2,2),(3,3)]⟩,_,by rfl,g⟩
  .refine uO (uN (uQ ?_));cases f;cases g;exact uP ⟨⟨[],[(0,0),(1,1),(2,2),(3,3)]⟩,by rfl⟩
 .rintro _ rfl;dsimp only at e|-;refine uY ?_;cases e;exact pF [(0,0),(1,1),(2,2),(3,3)]
def JL (O:qZ):Option Bool:=if (decide (O.1=([105,100]:pD)))=true then some (((decide (O.2.1=([]:pD)))||(decide ((200:Int)<(O.2.1.length:Int))))) else if (decide (O.1=([115,116,97,116,101]:pD)))=true then (DA ([([110,101,119]:pD),([102,117,122,122,121]:pD),([116,114,97,110,115,108,97,116,101,100]:pD),([114,101,118,105,101,119,101,100]:pD),([111,98,115,111,108,101,116,101]:pD)]:pE) O.2.1).bind fun Z=>some ((!Z)) else (FP O.2.1).bind fun aA=>some ((!aA))
section
variable (O:qZ)
abbrev a2R:List qC:=[(.val (.pair .str (.pair .str .unit)) O,none)]
abbrev a2S:List q9:=[]
@[go_sem] def a2T:qI:=⟨[((JL O)).isSome=true],[(.val .bool (val (JL O)),none)],[]⟩
def aA0:List qC→List q9→Option qI:=rU (V:=qZ) (a2R) (fun x=>a2S) fun x=>a2T x
@[go_sem] def aLg:aA0 (no_index (a2R O)) (no_index a2S)=some (a2T O):=rY (fun a0 b0 h1 h2=>by cases h1;cases h2;rfl) O
end
@[go_sem] abbrev aA1:Nat×r6:=(90,⟨[.v],aA0,[],[],none⟩)
def FR:rN Tryz.prog [sY,AR] (rO [TO,TN,TP]):=⟨⟨tE,⟨CE,trivial⟩⟩,qO a2m (qO a0V (qO a2w rR)),rP⟩
def aHD:r9 Tryz.prog aA1:=by
 refine rZ FR Tryz.func90 (c:=_) rfl (N:=33) pU (ts:=[(2,none)]) rfl (fun _ _=>rfl) ?_;intro O hs hrow;dsimp only[a2R,a2S,a2T,rQ,qM,r5,rF,rT,Nat.reduceAdd] at hs hrow|-;have hz:=hs;obtain⟨z0,e⟩:=aLR.1 hz
 try rw[sC e]
 clear hz hs;unfold JL at e;refine qB FR ?_;refine qT ?_;refine qB FR ?_;refine s9 ?_;refine qB FR ?_;refine qY e (fun e hc1=> ?_) (fun e hc1=> ?_)
 .refine qB FR ?_ (hp:=by exact⟨id,id,id,tK⟩);refine qV (sE (s8 ?_));cases e;exact pF []
 .refine qB FR ?_;refine qY e (fun e hc2=> ?_) (fun e hc2=> ?_)
  .obtain⟨Z,hv1,hw1,e⟩:=qS e
   try simp only[go_sem] at hw1
   refine vZ FR ?_ (hp:=by exact(qR hv1)) (h:=by simp only[go_sem,hw1];rfl);refine qV (sE (s8 ?_));cases e;exact pF []
  .refine rG (rV (qQ ?_));obtain⟨aA,hv2,hw2,e⟩:=qS e
   try simp only[go_sem] at hw2
   refine qB FR ?_ (hp:=by exact(qR hv2)) (h:=by simp only[go_sem,hw2];rfl);refine qB FR ?_;refine qV ?_;cases e;exact pF []
def LU (O:pD):Option Unit:=if (((decide ((O.length:Int)≤(4000:Int)))==true)=true→((OX O)).isSome=true) then some (()) else none
section
variable (O:pD)
abbrev a2U:List qC:=[(.val .str O,none)]
abbrev a2V:List q9:=[]
@[go_sem] def a2W:qI:=⟨[((LU O)).isSome=true],[(.val .bool ((decide ((O.length:Int)≤(4000:Int)))&&(Lib.validD O)),none)],[]⟩
def aA2:List qC→List q9→Option qI:=rU (V:=pD) (a2U) (fun x=>a2V) fun x=>a2W x
@[go_sem] def aLh:aA2 (no_index (a2U O)) (no_index a2V)=some (a2W O):=rY (fun a0 b0 h1 h2=>by cases h1;cases h2;rfl) O
end
@[go_sem] abbrev aA3:Nat×r6:=(97,⟨[.v],aA2,[],[],none⟩)
def a2X:rN Tryz.prog [sY] (rO [a91]):=⟨⟨tE,trivial⟩,qO aHf rR,rP⟩
def aHE:r9 Tryz.prog aA3:=by
 refine rZ a2X Tryz.func97 (c:=_) rfl (N:=10) pU (ts:=[(2,none)]) rfl (fun _ _=>rfl) ?_;intro O hs hrow;dsimp only[a2U,a2V,a2W,rQ,qM,r5,rF,rT,Nat.reduceAdd] at hs hrow|-;have hz:=hs;obtain⟨z0,e⟩:=aLR.1 hz
 try rw[sC e]
 clear hz hs;unfold LU at e;refine qB a2X ?_;obtain⟨hg1,e⟩:=qJ e;refine qB a2X ?_ (hp:=by exact⟨id,hg1,sZ⟩);refine qV ?_;cases e;exact pF []
def DF (O:pD) (Z:pD):Option (pD×Bool):=(JD O Z).bind fun aA=>some ((aA.1,aA.2))
section
variable (O:pD) (Z:pD)
abbrev a2Y:List qC:=[(.val .str O,none),(.val .str Z,none)]
abbrev a2Z:List q9:=[]
@[go_sem] def a24:qI:=⟨[((DF O Z)).isSome=true],[(.val .str ((val (DF O Z)).1),none),(.val .bool ((val (DF O Z)).2),none)],[]⟩
def aA4:List qC→List q9→Option qI:=rU (V:=(pD×pD)) (fun x=>a2Y x.1 x.2) (fun x=>a2Z) fun x=>a24 x.1 x.2
@[go_sem] def aLi:aA4 (no_index (a2Y O Z)) (no_index a2Z)=some (a24 O Z):=rY (fun⟨a0,a1⟩ ⟨b0,b1⟩ h1 h2=>by cases h1;cases h2;rfl) (O,Z)
end
@[go_sem] abbrev TU:Nat×r6:=(124,⟨[.v,.v],aA4,[],[],none⟩)
def a26:rN Tryz.prog [] (rO [a99]):=⟨trivial,qO aHi rR,rP⟩
def a27:r9 Tryz.prog TU:=by
 refine rZ a26 Tryz.func124 (c:=_) rfl (N:=11) pU (ts:=[(4,none),(5,none)]) rfl (fun _ _=>rfl) ?_;intro⟨O,Z⟩ hs hrow;dsimp only[a2Y,a2Z,a24,rQ,qM,r5,rF,rT,Nat.reduceAdd] at hs hrow|-;have hz:=hs;obtain⟨z0,e⟩:=aLR.1 hz
 try rw[sC e]
 clear hz hs;unfold DF at e;refine qB a26 ?_;obtain⟨aA,hv1,hw1,e⟩:=qS e
 try simp only[go_sem] at hw1
 refine qB a26 ?_ (hp:=by exact(qR hv1)) (h:=by simp only[go_sem,hw1];rfl);refine qV ?_;cases e;exact pF []
attribute [irreducible] PC CG zA JL LU DF
end
noncomputable section
def FS (O:(List qZ)) (Z:pD):Option Int:=(LJ O Z).bind fun aA=>some (aA)
section
variable (O:(List qZ)) (Z:pD)
abbrev a28:List qC:=[(.val (.list (.pair .str (.pair .str .unit))) O,none),(.val .str Z,none)]
abbrev a29:List q9:=[]
@[go_sem] def a3a:qI:=⟨[((FS O Z)).isSome=true],[(.val (.int .i64) (val (FS O Z)),none)],[]⟩
def aA5:List qC→List q9→Option qI:=rU (V:=((List qZ)×pD)) (fun x=>a28 x.1 x.2) (fun x=>a29) fun x=>a3a x.1 x.2
@[go_sem] def aLj:aA5 (no_index (a28 O Z)) (no_index a29)=some (a3a O Z):=rY (fun⟨a0,a1⟩ ⟨b0,b1⟩ h1 h2=>by cases h1;cases h2;rfl) (O,Z)
end
@[go_sem] abbrev a3b:Nat×r6:=(155,⟨[.v,.v],aA5,[],[],none⟩)
def a3c:rN Tryz.prog [sY] (rO [aAr]):=⟨⟨tE,trivial⟩,qO aHq rR,rP⟩
def aA6:r9 Tryz.prog a3b:=by
 refine rZ a3c Tryz.func155 (c:=_) rfl (N:=8) pU (ts:=[(4,none)]) rfl (fun _ _=>rfl) ?_;intro⟨O,Z⟩ hs hrow;dsimp only[a28,a29,a3a,rQ,qM,r5,rF,rT,Nat.reduceAdd] at hs hrow|-;have hz:=hs;obtain⟨z0,d⟩:=aLR.1 hz
 try rw[sC d]
 clear hz hs;unfold FS at d;refine qB a3c ?_;obtain⟨aA,hv1,hw1,d⟩:=qS d
 try simp only[go_sem] at hw1
 refine qB a3c ?_ (hp:=by exact⟨pT,(qR hv1)⟩) (h:=by simp only[go_sem,hw1];rfl)
 refine qV ?_;cases d;exact pF []
def JM (O:pD) (Z:pD):Option (pD×Bool):=(OZ O Z).bind fun aA=>if (!((decide ((Z.length:Int)≤(O.length:Int)))&&(decide ((sD O ((O.length:Int)- (Z.length:Int)) (O.length:Int))=Z))))=true then some ((O,false)) else if qE ((O.length:Int)- (Z.length:Int)) then if 0≤(0:Int)∧(0:Int)≤((O.length:Int)- (Z.length:Int))∧((O.length:Int)- (Z.length:Int))≤(O.length:Int) then some (((sD O (0:Int) ((O.length:Int)- (Z.length:Int))),true)) else none else none
section
variable (O:pD) (Z:pD)
abbrev a3d:List qC:=[(.val .str O,none),(.val .str Z,none)]
abbrev a3e:List q9:=[]
@[go_sem] def a3f:qI:=⟨[((JM O Z)).isSome=true],[(.val .str ((val (JM O Z)).1),none),(.val .bool ((val (JM O Z)).2),none)],[]⟩
def aA7:List qC→List q9→Option qI:=rU (V:=(pD×pD)) (fun x=>a3d x.1 x.2) (fun x=>a3e) fun x=>a3f x.1 x.2
@[go_sem] def aLk:aA7 (no_index (a3d O Z)) (no_index a3e)=some (a3f O Z):=rY (fun⟨a0,a1⟩ ⟨b0,b1⟩ h1 h2=>by cases h1;cases h2;rfl) (O,Z)
end
@[go_sem] abbrev aA8:Nat×r6:=(165,⟨[.v,.v],aA7,[],[],none⟩)
def PF:rN Tryz.prog [sY] (rO [aAe]):=⟨⟨tE,trivial⟩,qO aHk rR,rP⟩
def aHF:r9 Tryz.prog aA8:=by
 refine rZ PF Tryz.func165 (c:=_) rfl (N:=18) pU (ts:=[(4,none),(5,none)]) rfl (fun _ _=>rfl) ?_;intro⟨O,Z⟩ hs hrow;dsimp only[a3d,a3e,a3f,rQ,qM,r5,rF,rT,Nat.reduceAdd] at hs hrow|-;have hz:=hs;obtain⟨z0,d⟩:=aLR.1 hz
 try rw[sC d]
 clear hz hs;unfold JM at d;refine qB PF ?_;refine qT ?_;obtain⟨aA,hv1,hw1,d⟩:=qS d
 try simp only[go_sem] at hw1
 refine qB PF ?_ (hp:=by exact(qR hv1)) (h:=by simp only[go_sem,hw1];rfl);refine qY d (fun d hc1=> ?_) (fun d hc1=> ?_)
 .refine qB PF ?_;refine qV (s8 ?_);cases d;exact pF []
 .refine rG (qQ ?_);obtain⟨hg2,d⟩:=qJ d;obtain⟨hg3,d⟩:=qJ d;refine qB PF ?_ (hp:=by exact⟨hg2,hg3⟩);refine qV ?_;cases d;exact pF []
def FT (O:pD) (Z:pD):Option (pD×pD×Bool):=(H7 O Z).bind fun aA=>some ((aA.1,aA.2.1,aA.2.2))
section
variable (O:pD) (Z:pD)
abbrev a3g:List qC:=[(.val .str O,none),(.val .str Z,none)]
abbrev a3h:List q9:=[]
@[go_sem] def a3i:qI:=⟨[((FT O Z)).isSome=true],[(.val .str ((val (FT O Z)).1),none),(.val .str ((val (FT O Z)).2.1),none),(.val .bool ((val (FT O Z)).2.2),none)],[]⟩
def aA9:List qC→List q9→Option qI:=rU (V:=(pD×pD)) (fun x=>a3g x.1 x.2) (fun x=>a3h) fun x=>a3i x.1 x.2
@[go_sem] def aLl:aA9 (no_index (a3g O Z)) (no_index a3h)=some (a3i O Z):=rY (fun⟨a0,a1⟩ ⟨b0,b1⟩ h1 h2=>by cases h1;cases h2;rfl) (O,Z)
end
@[go_sem] abbrev aBa:Nat×r6:=(166,⟨[.v,.v],aA9,[],[],none⟩)
def a3j:rN Tryz.prog [] (rO [aAg]):=⟨trivial,qO aHl rR,rP⟩
def aHG:r9 Tryz.prog aBa:=by
 refine rZ a3j Tryz.func166 (c:=_) rfl (N:=13) pU (ts:=[(4,none),(5,none),(6,none)]) rfl (fun _ _=>rfl) ?_;intro⟨O,Z⟩ hs hrow;dsimp only[a3g,a3h,a3i,rQ,qM,r5,rF,rT,Nat.reduceAdd] at hs hrow|-;have hz:=hs;obtain⟨z0,d⟩:=aLR.1 hz
 try rw[sC d]
 clear hz hs;unfold FT at d;refine qB a3j ?_;obtain⟨aA,hv1,hw1,d⟩:=qS d
 try simp only[go_sem] at hw1
 refine qB a3j ?_ (hp:=by exact(qR hv1)) (h:=by simp only[go_sem,hw1];rfl);refine qV ?_;cases d;exact pF []
def HD (O:pM) (Z:Int):Option pM:=if (decide ((IntKind.wrap .u32 Z)≤(127:Int)))=true then if (O.length+([(IntKind.wrap .u8 Z)]:pM).length)*1≤140737488355328 then some ((O++([(IntKind.wrap .u8 Z)]:pM))) else none else (JG O Z).bind fun aA=>some (aA)
section
variable (O:pM) (Z:Int) (aA:Nat)
abbrev a3k:List qC:=[(.val (.list (.int .u8)) O,some 0),(.val (.int .i32) Z,none)]
abbrev a3l:List q9:=[.grow 5 1 aA]
@[go_sem] def a3m:qI:=⟨[aA=(O.length),((HD O Z)).isSome=true],[(.val (.list (.int .u8)) (val (HD O Z)),some 0)],[.grow 5 1 ((val (HD O Z)).length)]⟩
def aBb:List qC→List q9→Option qI:=rU (V:=(pM×Int×Nat)) (fun x=>a3k x.1 x.2.1) (fun x=>a3l x.2.2) fun x=>a3m x.1 x.2.1 x.2.2
@[go_sem] def aLm:aBb (no_index (a3k O Z)) (no_index (a3l aA))=some (a3m O Z aA):=rY (fun⟨a0,a1,a2⟩ ⟨b0,b1,b2⟩ h1 h2=>by cases h1;cases h2;rfl) (O,Z,aA)
end
@[go_sem] abbrev aBc:Nat×r6:=(244,⟨[.own,.v],aBb,[],[],none⟩)
def PG:rN Tryz.prog [J5,OQ,FE,TF] (rO [aAp]):=⟨⟨OP,⟨ZR,⟨J3,⟨a9u,trivial⟩⟩⟩⟩,qO aHp rR,rP⟩
def aHH:r9 Tryz.prog aBc:=by
 refine rZ PG Tryz.func244 (c:=_) rfl (N:=16) pU (ts:=[(4,none)]) rfl (fun _ _=>rfl) ?_;intro⟨O,Z,aA⟩ hs hrow;dsimp only[a3k,a3l,a3m,rQ,qM,r5,rF,rT,Nat.reduceAdd] at hs hrow|-;obtain⟨rfl,hz⟩:=hs;obtain⟨z0,d⟩:=aLR.1 hz
 try rw[sC d]
 clear hz;unfold HD at d;refine qB PG ?_;refine qT ?_;refine qB PG ?_;refine qY d (fun d hc1=> ?_) (fun d hc1=> ?_)
 .obtain⟨hg1,d⟩:=qJ d;refine qB PG ?_ (hp:=by exact⟨pT,hg1⟩)
  refine qV (s8 ?_);cases d;exact pF [(0,0)]
 .refine rG (qQ ?_);obtain⟨aB,hv2,hw2,d⟩:=qS d
  try simp only[go_sem] at hw2
  refine qB PG ?_ (hp:=by exact⟨pT,(qR hv2)⟩) (h:=by simp only[go_sem,hw2];rfl)
  refine qV ?_;cases d;exact pF [(0,0)]
def FU (O:(List qZ)) (Z:pD) (aA:pD):Option (List qZ):=(H9 O).bind fun aB=>(FS aB Z).bind fun aC=>if (decide ((0:Int)≤aC))=true then if 0≤aC∧aC<(((aB.length):Nat):Int) then some ((List.set aB (Int.toNat aC) ((qW (.pair .str (.pair .str .unit)) aB aC).1,(aA,(qW (.pair .str (.pair .str .unit)) aB aC).2.2)))) else none else (LK aB Z).bind fun aD=>if (decide (aD<(0:Int)))=true then if 0≤(((aB.length):Nat):Int)∧(((aB.length):Nat):Int)≤List.length aB then if (aB.length+([(Z,(aA,()))]:List qZ).length)*32≤140737488355328 then some ((AP aB (((aB.length):Nat):Int) ([(Z,(aA,()))]:List qZ))) else none else none else if 0≤aD∧aD≤List.length aB then if (aB.length+([(Z,(aA,()))]:List qZ).length)*32≤140737488355328 then some ((AP aB aD ([(Z,(aA,()))]:List qZ))) else none else none
section
variable (O:(List qZ)) (Z:pD) (aA:pD)
abbrev a3n:List qC:=[(.val (.list (.pair .str (.pair .str .unit))) O,none),(.val .str Z,none),(.val .str aA,none)]
abbrev a3o:List q9:=[]
@[go_sem] def a3p:qI:=⟨[((FU O Z aA)).isSome=true],[(.val (.list (.pair .str (.pair .str .unit))) (val (FU O Z aA)),some 0)],[.grow 111 2 ((val (FU O Z aA)).length)]⟩
def aBd:List qC→List q9→Option qI:=rU (V:=((List qZ)×pD×pD)) (fun x=>a3n x.1 x.2.1 x.2.2) (fun x=>a3o) fun x=>a3p x.1 x.2.1 x.2.2
@[go_sem] def aLn:aBd (no_index (a3n O Z aA)) (no_index a3o)=some (a3p O Z aA):=rY (fun⟨a0,a1,a2⟩ ⟨b0,b1,b2⟩ h1 h2=>by cases h1;cases h2;rfl) (O,Z,aA)
end
@[go_sem] abbrev a3q:Nat×r6:=(116,⟨[.v,.v,.v],aBd,[],[],none⟩)
def CH:rN Tryz.prog [sY,TG,FF] (rO [aAx,a3b,aAv,L9]):=⟨⟨tE,⟨a9v,⟨J4,trivial⟩⟩⟩,qO aHs (qO aA6 (qO aHr (qO YZ rR))),rP⟩
def aBe:r9 Tryz.prog a3q:=by
 refine rZ CH Tryz.func116 (c:=_) rfl (N:=37) pU (ts:=[(6,none)]) rfl (fun _ _=>rfl) ?_;intro⟨O,Z,aA⟩ hs hrow;dsimp only[a3n,a3o,a3p,rQ,qM,r5,rF,rT,Nat.reduceAdd] at hs hrow|-;have hz:=hs;obtain⟨z0,d⟩:=aLR.1 hz
 try rw[sC d]
 clear hz hs;unfold FU at d;refine qB CH ?_;obtain⟨aB,hv1,hw1,d⟩:=qS d
 try simp only[go_sem] at hw1
 refine qB CH ?_ (hp:=by exact(qR hv1)) (h:=by simp only[go_sem,hw1];rfl);refine qT ?_;obtain⟨aC,hv2,hw2,d⟩:=qS d
 try simp only[go_sem] at hw2
 refine qB CH ?_ (hp:=by exact⟨fun _=>by first|exact rfl|exact trivial,(qR hv2)⟩) (h:=by simp only[go_sem,hw2];rfl)
 refine qB CH ?_;refine qY d (fun d hc1=> ?_) (fun d hc1=> ?_)
 .obtain⟨hg3,d⟩:=qJ d;refine qB CH ?_ (hp:=by exact⟨hg3,pT⟩)
  refine qB CH ?_;refine O2 96 rfl (by repeat' (first|exact trivial|apply And.intro|exact(fun _=>rfl) |exact(fun h=>absurd h pH))) ?_
  refine qV (s8 ?_);cases d;exact pF [(0,96)]
 .refine rG (qQ ?_);obtain⟨aD,hv4,hw4,d⟩:=qS d
  try simp only[go_sem] at hw4
  refine qB CH ?_ (hp:=by exact⟨pT,fun _=>by first|exact rfl|exact trivial,(qR hv4)⟩) (h:=by simp only[go_sem,hw4];rfl)
  refine qT ?_;refine qB CH ?_;refine qY d (fun d hc2=> ?_) (fun d hc2=> ?_)
  .refine rL CH ?_;refine qQ ?_;obtain⟨hg5,d⟩:=qJ d;obtain⟨hg6,d⟩:=qJ d;refine qB CH ?_ (hp:=by exact⟨pT,hg5,hg6⟩)
   refine a8G ⟨[0,1,2,4,6,10,13,14,8,15,16,24,25,9,26,27,29,31,32,33,34,35,36],[(0,0),(32,32),(96,96),(800,800)]⟩ ?_;simp only[go_sem,Nat.max_def];refine O2 96 rfl (by repeat' (first|exact trivial|apply And.intro|exact(fun _=>rfl) |exact(fun h=>absurd h pH))) ?_
   refine qV ?_;cases d;exact pF [(0,96)]
  .refine rG (qQ ?_);obtain⟨hg7,d⟩:=qJ d;obtain⟨hg8,d⟩:=qJ d;refine qB CH ?_ (hp:=by exact⟨pT,hg7,hg8⟩)
   refine a8G ⟨[0,1,2,4,6,10,13,14,8,15,16,24,25,9,26,27,31,32,33,34,35,36],[(0,0),(32,32),(96,96),(704,704)]⟩ ?_;simp only[go_sem,Nat.max_def];refine O2 96 rfl (by repeat' (first|exact trivial|apply And.intro|exact(fun _=>rfl) |exact(fun h=>absurd h pH))) ?_
   refine qV ?_;cases d;exact pF [(0,96)]
def PH (O:(List qZ)):Int→Option (Int⊕(Unit⊕Int)):=fun Z=>if (decide (Z<(O.length:Int)))=true then if 0≤Z∧Z<(O.length:Int) then (JL (qW (.pair .str (.pair .str .unit)) O Z)).bind fun aA=>if aA=true then some (.inr (.inr (Z))) else if qE (Z+(1:Int)) then some (.inl (Z+(1:Int))) else none else none else some (.inr (.inl ()))
def LV (O:(List qZ)):Option Int:=uT (rX (PH O) (0:Int)) fun _=>some ((-1:Int))
section
variable (O:(List qZ))
abbrev a3r:List qC:=[(.val (.list (.pair .str (.pair .str .unit))) O,none),(.val .clo (some (90,[])),none)]
abbrev a3s:List q9:=[]
@[go_sem] def a3t:qI:=⟨[((LV O)).isSome=true],[(.val (.int .i64) (val (LV O)),none)],[]⟩
def aBf:List qC→List q9→Option qI:=rU (V:=(List qZ)) (a3r) (fun x=>a3s) fun x=>a3t x
@[go_sem] def aLo:aBf (no_index (a3r O)) (no_index a3s)=some (a3t O):=rY (fun a0 b0 h1 h2=>by cases h1;cases h2;rfl) O
end
@[go_sem] abbrev aBg:Nat×r6:=(136,⟨[.v,.v],aBf,[],[],none⟩)
def FV:rN Tryz.prog [BT,AR] (rO [aA1]):=⟨⟨D6,⟨CE,trivial⟩⟩,qO aHD rR,rP⟩
def aHI:r9 Tryz.prog aBg:=by
 refine rZ FV Tryz.func136 (c:=_) rfl (N:=19) pU (ts:=[(4,none)]) rfl (fun _ _=>rfl) ?_;intro O hs hrow;dsimp only[a3r,a3s,a3t,rQ,qM,r5,rF,rT,Nat.reduceAdd] at hs hrow|-;have hz:=hs;obtain⟨z0,d⟩:=aLR.1 hz
 try rw[sC d]
 clear hz hs;unfold LV at d;refine qB FV ?_;refine qT ?_;refine qB FV ?_;refine s9 ?_;obtain⟨y1,hy1,d⟩:=wB d;refine v6 0 (fun s=> ∃v,y1= .inl v∧s=(fun _=>⟨[],[],0,19,0⟩) v) ?_ ?_
 .refine uS hy1 (fun x=>⟨[(0,(.val (.list (.pair .str (.pair .str .unit))) O,none)),(1,(.val .clo (some (90,[])),none)),(7,(.val (.int .i64) (O.length:Int),none)),(8,(.val (.int .i64) x,none))],[],0,19,0⟩) ⟨[0,1,7,8],[]⟩ pV ?_;intro Z w1 n1 e f;unfold PH at e;dsimp only at e|-;refine qB FV ?_;refine qT ?_;refine qY e (fun e hc1=> ?_) (fun e hc1=> ?_)
  .refine rG (qQ (qT (s9 ?_)));refine qB FV ?_;obtain⟨hg1,e⟩:=qJ e;obtain⟨aA,hv2,hw2,e⟩:=qS e
   try simp only[go_sem] at hw2
   refine qB FV ?_ (hp:=by exact⟨hg1,(qR hv2)⟩) (h:=by simp only[go_sem,hw2];rfl);refine qY e (fun e hc2=> ?_) (fun e hc2=> ?_)
   .refine qB FV ?_;refine qV (sE (s8 (wA (wH (sE (s8 ?_))))));cases e;cases f;dsimp only at d;cases d;exact pF []
   .refine rG (rV (qQ ?_));obtain⟨hg3,e⟩:=qJ e;refine rL FV ?_ (hp:=by exact hg3);cases e;exact tQ ⟨⟨[0,1,7,8],[]⟩,_,by rfl,f⟩
  .refine uO (uN (uQ ?_));cases e;cases f;exact uP ⟨⟨[],[]⟩,_,rfl,by rfl⟩
 .rintro _ ⟨v,rfl,rfl⟩;dsimp only at d|-;refine uY (qQ ?_);refine qB FV ?_;refine qV ?_;cases d;exact pF []
attribute [irreducible] FS JM FT HD FU LV
end
noncomputable section
def CI (O:(List qZ)):Option Bool:=(LV O).bind fun Z=>some ((decide ((0:Int)≤Z)))
section
variable (O:(List qZ))
abbrev a3u:List qC:=[(.val (.list (.pair .str (.pair .str .unit))) O,none),(.val .clo (some (90,[])),none)]
abbrev a3v:List q9:=[]
@[go_sem] def a3w:qI:=⟨[((CI O)).isSome=true],[(.val .bool (val (CI O)),none)],[]⟩
def aBh:List qC→List q9→Option qI:=rU (V:=(List qZ)) (a3u) (fun x=>a3v) fun x=>a3w x
@[go_sem] def aLp:aBh (no_index (a3u O)) (no_index a3v)=some (a3w O):=rY (fun a0 b0 h1 h2=>by cases h1;cases h2;rfl) O
end
@[go_sem] abbrev a3x:Nat×r6:=(89,⟨[.v,.v],aBh,[],[],none⟩)
def a3y:rN Tryz.prog [] (rO [aBg]):=⟨trivial,qO aHI rR,rP⟩
def aBi:r9 Tryz.prog a3x:=by
 refine rZ a3y Tryz.func89 (c:=_) rfl (N:=9) pU (ts:=[(4,none)]) rfl (fun _ _=>rfl) ?_;intro O hs hrow;dsimp only[a3u,a3v,a3w,rQ,qM,r5,rF,rT,Nat.reduceAdd] at hs hrow|-;have hz:=hs;obtain⟨z0,d⟩:=aLR.1 hz
 try rw[sC d]
 clear hz hs;unfold CI at d;refine qB a3y ?_;obtain⟨Z,hv1,hw1,d⟩:=qS d
 try simp only[go_sem] at hw1
 refine qB a3y ?_ (hp:=by exact(qR hv1)) (h:=by simp only[go_sem,hw1];rfl);refine qV ?_;cases d;exact pF []
def JN (O:sQ) (Z:sQ):Option Unit:=(PC O Z).bind fun aA=>if (((((decide (O.1=Z.1))&&(val (wI O.2.1 Z.2.1)))&&(val (z8 O.2.2.1 Z.2.2.1)))==true)=true→((CG O.2.2.2.1 Z.2.2.2.1)).isSome=true) then some (()) else none
section
variable (O:sQ) (Z:sQ)
abbrev a3z:List qC:=[(.val FB O,none),(.val FB Z,none)]
abbrev a3A:List q9:=[]
@[go_sem] def a3B:qI:=⟨[((JN O Z)).isSome=true],[(.val .bool ((((decide (O.1=Z.1))&&(val (wI O.2.1 Z.2.1)))&&(val (z8 O.2.2.1 Z.2.2.1)))&&(val (CG O.2.2.2.1 Z.2.2.2.1))),none)],[]⟩
def aBj:List qC→List q9→Option qI:=rU (V:=(sQ×sQ)) (fun x=>a3z x.1 x.2) (fun x=>a3A) fun x=>a3B x.1 x.2
@[go_sem] def aLq:aBj (no_index (a3z O Z)) (no_index a3A)=some (a3B O Z):=rY (fun⟨a0,a1⟩ ⟨b0,b1⟩ h1 h2=>by cases h1;cases h2;rfl) (O,Z)
end
@[go_sem] abbrev aBk:Nat×r6:=(14,⟨[.v,.v],aBj,[],[],none⟩)
def a3C:rN Tryz.prog [J6,D7] (rO [aAW,aAY]):=⟨⟨OR,⟨FG,trivial⟩⟩,qO aHB (qO aHC rR),rP⟩
def aHJ:r9 Tryz.prog aBk:=by
 refine rZ a3C Tryz.func14 (c:=_) rfl (N:=15) pU (ts:=[(4,none)]) rfl (fun _ _=>rfl) ?_;intro⟨O,Z⟩ hs hrow;dsimp only[a3z,a3A,a3B,rQ,qM,r5,rF,rT,Nat.reduceAdd] at hs hrow|-;have hz:=hs;obtain⟨z0,d⟩:=aLR.1 hz
 try rw[sC d]
 clear hz hs;unfold JN at d;refine qB a3C ?_;obtain⟨aA,hv1,hw1,d⟩:=qS d
 try simp only[go_sem] at hw1
 obtain⟨hg2,d⟩:=qJ d;refine qB a3C ?_ (hp:=by exact⟨qR hv1,id,id,id,id,hg2,sZ⟩) (h:=by simp only[go_sem,hw1];rfl);refine qV ?_;cases d;exact pF []
def FW (O:(List qZ)) (Z:pD):Option (pD×Bool):=(FS O Z).bind fun aA=>if (decide (aA<(0:Int)))=true then some ((([]:pD),false)) else if 0≤aA∧aA<(O.length:Int) then some (((qW (.pair .str (.pair .str .unit)) O aA).2.1,true)) else none
section
variable (O:(List qZ)) (Z:pD)
abbrev a3D:List qC:=[(.val (.list (.pair .str (.pair .str .unit))) O,none),(.val .str Z,none)]
abbrev a3E:List q9:=[]
@[go_sem] def a3F:qI:=⟨[((FW O Z)).isSome=true],[(.val .str ((val (FW O Z)).1),none),(.val .bool ((val (FW O Z)).2),none)],[]⟩
def aBl:List qC→List q9→Option qI:=rU (V:=((List qZ)×pD)) (fun x=>a3D x.1 x.2) (fun x=>a3E) fun x=>a3F x.1 x.2
@[go_sem] def aLr:aBl (no_index (a3D O Z)) (no_index a3E)=some (a3F O Z):=rY (fun⟨a0,a1⟩ ⟨b0,b1⟩ h1 h2=>by cases h1;cases h2;rfl) (O,Z)
end
@[go_sem] abbrev a3G:Nat×r6:=(115,⟨[.v,.v],aBl,[],[],none⟩)
def LW:rN Tryz.prog [sY,CD,FF] (rO [a3b]):=⟨⟨tE,⟨E7,⟨J4,trivial⟩⟩⟩,qO aA6 rR,rP⟩
def aBm:r9 Tryz.prog a3G:=by
 refine rZ LW Tryz.func115 (c:=_) rfl (N:=17) pU (ts:=[(4,none),(5,none)]) rfl (fun _ _=>rfl) ?_;intro⟨O,Z⟩ hs hrow;dsimp only[a3D,a3E,a3F,rQ,qM,r5,rF,rT,Nat.reduceAdd] at hs hrow|-;have hz:=hs;obtain⟨z0,d⟩:=aLR.1 hz
 try rw[sC d]
 clear hz hs;unfold FW at d;refine qB LW ?_;obtain⟨aA,hv1,hw1,d⟩:=qS d
 try simp only[go_sem] at hw1
 refine qB LW ?_ (hp:=by exact(qR hv1)) (h:=by simp only[go_sem,hw1];rfl);refine qT ?_;refine qB LW ?_;refine qY d (fun d hc1=> ?_) (fun d hc1=> ?_)
 .refine qB LW ?_;refine qV (s8 ?_);cases d;exact pF []
 .refine rG (qQ ?_);obtain⟨hg2,d⟩:=qJ d;refine qB LW ?_ (hp:=by exact hg2);refine qV ?_;cases d;exact pF []
def HE (O:pD) (Z:pD):Option (pD×Bool):=(JM O Z).bind fun aA=>some ((aA.1,aA.2))
section
variable (O:pD) (Z:pD)
abbrev a3H:List qC:=[(.val .str O,none),(.val .str Z,none)]
abbrev a3I:List q9:=[]
@[go_sem] def a3J:qI:=⟨[((HE O Z)).isSome=true],[(.val .str ((val (HE O Z)).1),none),(.val .bool ((val (HE O Z)).2),none)],[]⟩
def aBn:List qC→List q9→Option qI:=rU (V:=(pD×pD)) (fun x=>a3H x.1 x.2) (fun x=>a3I) fun x=>a3J x.1 x.2
@[go_sem] def aLs:aBn (no_index (a3H O Z)) (no_index a3I)=some (a3J O Z):=rY (fun⟨a0,a1⟩ ⟨b0,b1⟩ h1 h2=>by cases h1;cases h2;rfl) (O,Z)
end
@[go_sem] abbrev aBo:Nat×r6:=(126,⟨[.v,.v],aBn,[],[],none⟩)
def a3K:rN Tryz.prog [] (rO [aA8]):=⟨trivial,qO aHF rR,rP⟩
def aHK:r9 Tryz.prog aBo:=by
 refine rZ a3K Tryz.func126 (c:=_) rfl (N:=11) pU (ts:=[(4,none),(5,none)]) rfl (fun _ _=>rfl) ?_;intro⟨O,Z⟩ hs hrow;dsimp only[a3H,a3I,a3J,rQ,qM,r5,rF,rT,Nat.reduceAdd] at hs hrow|-;have hz:=hs;obtain⟨z0,d⟩:=aLR.1 hz
 try rw[sC d]
 clear hz hs;unfold HE at d;refine qB a3K ?_;obtain⟨aA,hv1,hw1,d⟩:=qS d
 try simp only[go_sem] at hw1
 refine qB a3K ?_ (hp:=by exact(qR hv1)) (h:=by simp only[go_sem,hw1];rfl);refine qV ?_;cases d;exact pF []
def EG (O:(pM×Unit)) (Z:Int):Option (Int×pM):=(HD O.1 Z).bind fun aA=>if qE ((aA.length:Int)- (O.1.length:Int)) then some ((((aA.length:Int)- (O.1.length:Int)),aA)) else none
section
variable (O:Int) (Z:(pM×Unit)) (aA:Nat)
abbrev a3L:List qC:=[(.val .ref (some (0,0)),none),(.val (.int .i32) O,none)]
abbrev a3M:List q9:=[.cells wC ((some (0,0)),Z) [(1,1)],.grow 5 1 aA]
@[go_sem] def a3N:qI:=⟨[aA=(Z.1.length),((EG Z O)).isSome=true],[(.val (.int .i64) ((val (EG Z O)).1),none),(.any,none)],[.cells wC ((some (0,0)),((val (EG Z O)).2,())) [(1,1)],.grow 5 1 (((val (EG Z O)).2).length)]⟩
def aBp:List qC→List q9→Option qI:=rU (V:=(Int×(pM×Unit)×Nat)) (fun x=>a3L x.1) (fun x=>a3M x.2.1 x.2.2) fun x=>a3N x.1 x.2.1 x.2.2
@[go_sem] def aLt:aBp (no_index (a3L O)) (no_index (a3M Z aA))=some (a3N O Z aA):=rY (fun⟨a0,a1,a2⟩ ⟨b0,b1,b2⟩ h1 h2=>by cases h1;cases h2;rfl) (O,Z,aA)
end
@[go_sem] abbrev aBq:Nat×r6:=(241,⟨[.p wC [1],.v],aBp,[],[],none⟩)
def LX:rN Tryz.prog [FE,H0] (rO [GX,aBc]):=⟨⟨J3,⟨LC,trivial⟩⟩,qO OK (qO aHH rR),rP⟩
def aHL:r9 Tryz.prog aBq:=by
 refine rZ LX Tryz.func241 (c:=_) rfl (N:=30) pU (ts:=[(4,none),(5,none)]) rfl (fun _ _=>rfl) ?_;intro⟨O,Z,aA⟩ hs hrow;dsimp only[a3L,a3M,a3N,rQ,qM,r5,rF,rT,Nat.reduceAdd] at hs hrow|-;obtain⟨rfl,hz⟩:=hs;obtain⟨z0,d⟩:=aLR.1 hz
 try rw[sC d]
 clear hz;unfold EG at d;refine qB LX ?_;refine qB LX ?_ (hp:=by first|rfl|trivial)
 refine qB LX ?_;obtain⟨aB,hv1,hw1,d⟩:=qS d
 try simp only[go_sem] at hw1
 refine qB LX ?_ (hp:=by exact⟨pT,(qR hv1)⟩) (h:=by simp only[go_sem,hw1];rfl)
 obtain⟨hg2,d⟩:=qJ d;refine qB LX ?_ (hp:=by exact hg2);refine qV ?_;cases d;exact pF [(0,0),(1,1)]
def PI (O:pM):(Int×pM)→Option ((Int×pM)⊕pM):=fun(Z,aA)=>if (decide (Z<(O.length:Int)))=true then if 0≤Z∧Z<(O.length:Int) then if (!(((decide ((0:Int)≤(qW (.int .i64) O Z)))&&(decide ((qW (.int .i64) O Z)≤(1114111:Int))))&&((decide ((qW (.int .i64) O Z)<(55296:Int)))||(decide ((57343:Int)<(qW (.int .i64) O Z))))))=true then (EG (aA,()) (IntKind.wrap .i32 (65533:Int))).bind fun aB=>if qE (Z+(1:Int)) then some (.inl ((Z+(1:Int)),aB.2)) else none else (EG (aA,()) (IntKind.wrap .i32 (qW (.int .i64) O Z))).bind fun aC=>if qE (Z+(1:Int)) then some (.inl ((Z+(1:Int)),aC.2)) else none else none else some (.inr aA)
def LY (O:pM):Option pD:=t8 (rX (PI O) ((0:Int),([]:pM))) fun Z=>some ((x7 Z))
section
variable (O:pM)
abbrev a3O:List qC:=[(.val (.list (.int .i64)) O,none)]
abbrev a3P:List q9:=[]
@[go_sem] def a3Q:qI:=⟨[((LY O)).isSome=true],[(.val .str (val (LY O)),none)],[]⟩
def aBr:List qC→List q9→Option qI:=rU (V:=pM) (a3O) (fun x=>a3P) fun x=>a3Q x
@[go_sem] def aLu:aBr (no_index (a3O O)) (no_index a3P)=some (a3Q O):=rY (fun a0 b0 h1 h2=>by cases h1;cases h2;rfl) O
end
@[go_sem] abbrev aBs:Nat×r6:=(235,⟨[.v],aBr,[],[],none⟩)
def BV:rN Tryz.prog [wO,OQ,FH,H0] (rO [aAn,aBq,GY]):=⟨⟨xH,⟨ZR,⟨J7,⟨LC,trivial⟩⟩⟩⟩,qO aHo (qO aHL (qO OL rR)),rP⟩
def aHM:r9 Tryz.prog aBs:=by
 refine rZ BV Tryz.func235 (c:=_) rfl (N:=20) pU (ts:=[(2,none)]) rfl (fun _ _=>rfl) ?_;intro O hs hrow;dsimp only[a3O,a3P,a3Q,rQ,qM,r5,rF,rT,Nat.reduceAdd] at hs hrow|-;have hz:=hs;obtain⟨z0,d⟩:=aLR.1 hz
 try rw[sC d]
 clear hz hs;unfold LY at d;refine qB BV ?_;refine qB BV ?_;refine qT ?_;refine qB BV ?_;refine s9 ?_;obtain⟨Z,hy1,d⟩:=qK d;refine v6 0 (fun s=>s=(fun x=>⟨[(3,(.val .ref (some (0,0)),none))],[(0,.cells wC ((some (0,0)),(x,())) [(1,1)]),(1,.grow 5 1 (x.length))],2,20,0⟩) Z) ?_ ?_
 .refine uS hy1 (fun x=>⟨[(3,(.val .ref (some (0,0)),none)),(6,(.val (.list (.int .i64)) O,none)),(7,(.val (.int .i64) (O.length:Int),none)),(8,(.val (.int .i64) x.1,none))],[(0,.cells wC ((some (0,0)),(x.2,())) [(1,1)]),(1,.grow 5 1 (x.2.length))],2,20,0⟩) ⟨[3,6,7,8],[(0,32),(1,33)]⟩ pV ?_;intro x1 w1 n1 f g;obtain⟨aA,aB⟩:=x1;unfold PI at f;dsimp only at f|-;refine qB BV ?_;refine qT ?_;refine qY f (fun f hc1=> ?_) (fun f hc1=> ?_)
  .refine rG (qQ (qT (s9 ?_)));obtain⟨hg1,f⟩:=qJ f;refine qB BV ?_ (hp:=by exact hg1);refine qT ?_;refine qB BV ?_;refine qY f (fun f hc2=> ?_) (fun f hc2=> ?_)
   .refine rL BV ?_;refine qQ ?_;obtain⟨aC,hv2,hw2,f⟩:=qS f
    try simp only[go_sem] at hw2
    refine rL BV ?_ (hp:=by exact⟨pT,(qR hv2)⟩) (h:=by simp only[go_sem,hw2];rfl)
    refine rV (qQ ?_);obtain⟨hg3,f⟩:=qJ f;refine rL BV ?_ (hp:=by exact hg3);cases f;exact tQ ⟨⟨[3,6,7,8],[(0,0),(1,1)]⟩,_,by rfl,g⟩
   .refine rG (qQ ?_);obtain⟨aD,hv4,hw4,f⟩:=qS f
    try simp only[go_sem] at hw4
    refine rL BV ?_ (hp:=by exact⟨pT,(qR hv4)⟩) (h:=by simp only[go_sem,hw4];rfl)
    refine rV (qQ ?_);obtain⟨hg5,f⟩:=qJ f;refine rL BV ?_ (hp:=by exact hg5);cases f;exact tQ ⟨⟨[3,6,7,8],[(0,0),(1,1)]⟩,_,by rfl,g⟩
  .refine uO (uN (uQ ?_));cases f;cases g;exact uP ⟨⟨[3],[(0,0),(1,1)]⟩,by rfl⟩
 .rintro _ rfl;dsimp only at d|-;refine uY (qQ ?_);refine qB BV ?_ (hp:=by first|rfl|trivial)
  refine qV ?_;cases d;exact pF []
def HF (O:Int):Option pD:=(LY ([O]:pM)).bind fun Z=>some (Z)
section
variable (O:Int)
abbrev a3R:List qC:=[(.val (.int .i64) O,none)]
abbrev a3S:List q9:=[]
@[go_sem] def a3T:qI:=⟨[((HF O)).isSome=true],[(.val .str (val (HF O)),none),(.val .bool ((decide (O≤(1114111:Int)))&&((decide (O<(55296:Int)))||(decide ((57343:Int)<O)))),none)],[]⟩
def aBt:List qC→List q9→Option qI:=rU (V:=Int) (a3R) (fun x=>a3S) fun x=>a3T x
@[go_sem] def aLv:aBt (no_index (a3R O)) (no_index a3S)=some (a3T O):=rY (fun a0 b0 h1 h2=>by cases h1;cases h2;rfl) O
end
@[go_sem] abbrev a3U:Nat×r6:=(227,⟨[.v],aBt,[],[],none⟩)
def TV:rN Tryz.prog [FH] (rO [aBs]):=⟨⟨J7,trivial⟩,qO aHM rR,rP⟩
def aBu:r9 Tryz.prog a3U:=by
 refine rZ TV Tryz.func227 (c:=_) rfl (N:=19) pU (ts:=[(2,none),(3,none)]) rfl (fun _ _=>rfl) ?_;intro O hs hrow;dsimp only[a3R,a3S,a3T,rQ,qM,r5,rF,rT,Nat.reduceAdd] at hs hrow|-;have hz:=hs;obtain⟨z0,d⟩:=aLR.1 hz
 try rw[sC d]
 clear hz hs;unfold HF at d;refine qB TV ?_;refine qB TV ?_ (hp:=by exact⟨id,id,id,id,fun hG e=>GU hG e,sZ⟩);obtain⟨Z,hv1,hw1,d⟩:=qS d
 try simp only[go_sem] at hw1
 refine qB TV ?_ (hp:=by exact(qR hv1)) (h:=by simp only[go_sem,hw1];rfl);refine qV ?_;cases d;exact pF []
attribute [irreducible] CI JN FW HE EG LY HF
end
noncomputable section
def LZ (O:pD):Option (pD×Int):=if (decide ((O.length:Int)<(2:Int)))=true then some ((([]:pD),(0:Int))) else if 0≤(1:Int)∧(1:Int)<(O.length:Int) then if (decide ((tU O (1:Int))=(110:Int)))=true then some ((([10]:pD),(2:Int))) else if (decide ((tU O (1:Int))=(114:Int)))=true then some ((([13]:pD),(2:Int))) else if (decide ((tU O (1:Int))=(116:Int)))=true then some ((([9]:pD),(2:Int))) else if (decide ((tU O (1:Int))=(120:Int)))=true then if (decide ((4:Int)≤(O.length:Int)))=true then if 0≤(2:Int)∧(2:Int)≤(4:Int)∧(4:Int)≤(O.length:Int) then (EE (sD O (2:Int) (4:Int)) (16:Int)).bind fun Z=>if (Z.2&&(decide (Z.1≤(127:Int))))=true then some (((x7 ([(IntKind.wrap .u8 Z.1)]:pM)),(4:Int))) else some ((([]:pD),(0:Int))) else none else some ((([]:pD),(0:Int))) else if (decide ((tU O (1:Int))=(117:Int)))=true then if (decide ((6:Int)≤(O.length:Int)))=true then if 0≤(2:Int)∧(2:Int)≤(6:Int)∧(6:Int)≤(O.length:Int) then (EE (sD O (2:Int) (6:Int)) (16:Int)).bind fun aA=>if aA.2=true then (HF aA.1).bind fun aB=>if ((decide (aA.1≤(1114111:Int)))&&((decide (aA.1<(55296:Int)))||(decide ((57343:Int)<aA.1))))=true then some ((aB,(6:Int))) else some ((([]:pD),(0:Int))) else some ((([]:pD),(0:Int))) else none else some ((([]:pD),(0:Int))) else if (decide ((0:Int)≤(uU ([92,34,61,58,35,33,123,125,32]:pD) (tU O (1:Int)))))=true then if 0≤(1:Int)∧(1:Int)≤(2:Int)∧(2:Int)≤(O.length:Int) then some (((sD O (1:Int) (2:Int)),(2:Int))) else none else some ((([]:pD),(0:Int))) else none
section
variable (O:pD)
abbrev a3V:List qC:=[(.val .str O,none)]
abbrev a3W:List q9:=[]
@[go_sem] def a3X:qI:=⟨[((LZ O)).isSome=true],[(.val .str ((val (LZ O)).1),none),(.val (.int .i64) ((val (LZ O)).2),none)],[]⟩
def aBv:List qC→List q9→Option qI:=rU (V:=pD) (a3V) (fun x=>a3W) fun x=>a3X x
@[go_sem] def aLw:aBv (no_index (a3V O)) (no_index a3W)=some (a3X O):=rY (fun a0 b0 h1 h2=>by cases h1;cases h2;rfl) O
end
@[go_sem] abbrev aBw:Nat×r6:=(214,⟨[.v],aBv,[],[],none⟩)
def v8:rN Tryz.prog [wO,J5,sY,FE] (rO [a1N,a3U,FC]):=⟨⟨xH,⟨OP,⟨tE,⟨J3,trivial⟩⟩⟩⟩,qO aAt (qO aBu (qO L4 rR)),rP⟩
def aHN:r9 Tryz.prog aBw:=by
 refine rZ v8 Tryz.func214 (c:=_) rfl (N:=67) pU (ts:=[(2,none),(3,none)]) rfl (fun _ _=>rfl) ?_;intro O hs hrow;dsimp only[a3V,a3W,a3X,rQ,qM,r5,rF,rT,Nat.reduceAdd] at hs hrow|-;have hz:=hs;obtain⟨z0,d⟩:=aLR.1 hz
 try rw[sC d]
 clear hz hs;unfold LZ at d;refine qB v8 ?_;refine qT ?_;refine qB v8 ?_;refine qY d (fun d hc1=> ?_) (fun d hc1=> ?_)
 .refine qB v8 ?_;refine qV (s8 ?_);cases d;exact pF []
 .refine rG (qQ (qT ?_));obtain⟨hg1,d⟩:=qJ d;refine qB v8 ?_ (hp:=by exact hg1);refine qB v8 ?_;refine s9 ?_;refine qB v8 ?_;refine qY d (fun d hc2=> ?_) (fun d hc2=> ?_)
  .refine qB v8 ?_;refine qV (sE (s8 ?_));cases d;exact pF []
  .refine qB v8 ?_;refine qY d (fun d hc3=> ?_) (fun d hc3=> ?_)
   .refine qB v8 ?_;refine qV (sE (s8 ?_));cases d;exact pF []
   .refine qB v8 ?_;refine qY d (fun d hc4=> ?_) (fun d hc4=> ?_)
    .refine qB v8 ?_;refine qV (sE (s8 ?_));cases d;exact pF []
    .refine qB v8 ?_;refine qY d (fun d hc5=> ?_) (fun d hc5=> ?_)
     .refine qB v8 ?_;refine qY d (fun d hc6=> ?_) (fun d hc6=> ?_)
      .obtain⟨hg2,d⟩:=qJ d;obtain⟨Z,hv3,hw3,d⟩:=qS d
       try simp only[go_sem] at hw3
       refine qB v8 ?_ (hp:=by exact⟨hg2,(qR hv3)⟩) (h:=by simp only[go_sem,hw3];rfl);refine qB v8 ?_ (hp:=by exact⟨id,sZ⟩);refine qY d (fun d hc7=> ?_) (fun d hc7=> ?_)
       .refine qB v8 ?_;refine qV (sE (s8 ?_));cases d;exact pF []
       .refine rG (rV (qQ ?_));refine qB v8 ?_;refine qV ?_;cases d;exact pF []
      .refine rG (rV (qQ ?_));refine qB v8 ?_;refine qV ?_;cases d;exact pF []
     .refine qB v8 ?_;refine qY d (fun d hc8=> ?_) (fun d hc8=> ?_)
      .refine qB v8 ?_;refine qY d (fun d hc9=> ?_) (fun d hc9=> ?_)
       .obtain⟨hg4,d⟩:=qJ d;obtain⟨aA,hv5,hw5,d⟩:=qS d
        try simp only[go_sem] at hw5
        refine qB v8 ?_ (hp:=by exact⟨hg4,(qR hv5)⟩) (h:=by simp only[go_sem,hw5];rfl);refine qB v8 ?_;refine qY d (fun d hc10=> ?_) (fun d hc10=> ?_)
        .obtain⟨aB,hv6,hw6,d⟩:=qS d
         try simp only[go_sem] at hw6
         refine qB v8 ?_ (hp:=by exact(qR hv6)) (h:=by simp only[go_sem,hw6];rfl);refine qB v8 ?_;refine qY d (fun d hc11=> ?_) (fun d hc11=> ?_)
         .refine qB v8 ?_;refine qV (sE (s8 ?_));cases d;exact pF []
         .refine rG (rV (qQ ?_));refine qB v8 ?_;refine qV ?_;cases d;exact pF []
        .refine rG (rV (qQ ?_));refine qB v8 ?_;refine qV ?_;cases d;exact pF []
       .refine rG (rV (qQ ?_));refine qB v8 ?_;refine qV ?_;cases d;exact pF []
      .refine qB v8 ?_;refine qY d (fun d hc12=> ?_) (fun d hc12=> ?_)
       .obtain⟨hg7,d⟩:=qJ d;refine qB v8 ?_ (hp:=by exact hg7);refine qV (sE (s8 ?_));cases d;exact pF []
       .refine rG (rV (qQ ?_));refine qB v8 ?_;refine qV ?_;cases d;exact pF []
def EH (O:pD):Option (pD×Int):=if (decide ((uU O (59:Int))<(0:Int)))=true then some ((([]:pD),(0:Int))) else if 0≤(1:Int)∧(1:Int)≤(uU O (59:Int))∧(uU O (59:Int))≤(O.length:Int) then if (decide ((sD O (1:Int) (uU O (59:Int)))=([97,109,112]:pD)))=true then if qE ((uU O (59:Int))+(1:Int)) then some ((([38]:pD),((uU O (59:Int))+(1:Int)))) else none else if (decide ((sD O (1:Int) (uU O (59:Int)))=([108,116]:pD)))=true then if qE ((uU O (59:Int))+(1:Int)) then some ((([60]:pD),((uU O (59:Int))+(1:Int)))) else none else if (decide ((sD O (1:Int) (uU O (59:Int)))=([103,116]:pD)))=true then if qE ((uU O (59:Int))+(1:Int)) then some ((([62]:pD),((uU O (59:Int))+(1:Int)))) else none else if (decide ((sD O (1:Int) (uU O (59:Int)))=([113,117,111,116]:pD)))=true then if qE ((uU O (59:Int))+(1:Int)) then some ((([34]:pD),((uU O (59:Int))+(1:Int)))) else none else if (decide ((sD O (1:Int) (uU O (59:Int)))=([97,112,111,115]:pD)))=true then if qE ((uU O (59:Int))+(1:Int)) then some ((([39]:pD),((uU O (59:Int))+(1:Int)))) else none else (DF (sD O (1:Int) (uU O (59:Int))) ([35]:pD)).bind fun Z=>if (!Z.2)=true then some ((([]:pD),(0:Int))) else (DF Z.1 ([120]:pD)).bind fun aA=>t8 (σ:=(pD×Int×Int)) (if aA.2=true then some ((aA.1,(16:Int),(6:Int))) else some ((Z.1,(10:Int),(7:Int))) ) fun(aB,aC,aD)=>(EE aB aC).bind fun aE=>if ((!aE.2)||(decide (aD<(aB.length:Int))))=true then some ((([]:pD),(0:Int))) else (HF aE.1).bind fun aF=>if (!((decide (aE.1≤(1114111:Int)))&&((decide (aE.1<(55296:Int)))||(decide ((57343:Int)<aE.1)))))=true then some ((([]:pD),(0:Int))) else if qE ((uU O (59:Int))+(1:Int)) then some ((aF,((uU O (59:Int))+(1:Int)))) else none else none
section
variable (O:pD)
abbrev a3Y:List qC:=[(.val .str O,none)]
abbrev a3Z:List q9:=[]
@[go_sem] def a30:qI:=⟨[((EH O)).isSome=true],[(.val .str ((val (EH O)).1),none),(.val (.int .i64) ((val (EH O)).2),none)],[]⟩
def aBx:List qC→List q9→Option qI:=rU (V:=pD) (a3Y) (fun x=>a3Z) fun x=>a30 x
@[go_sem] def aLx:aBx (no_index (a3Y O)) (no_index a3Z)=some (a30 O):=rY (fun a0 b0 h1 h2=>by cases h1;cases h2;rfl) O
end
@[go_sem] abbrev aBy:Nat×r6:=(215,⟨[.v],aBx,[],[],none⟩)
def vC:rN Tryz.prog [sY] (rO [FC,TU,a1N,a3U]):=⟨⟨tE,trivial⟩,qO L4 (qO a27 (qO aAt (qO aBu rR))),rP⟩
def aHO:r9 Tryz.prog aBy:=by
 refine rZ vC Tryz.func215 (c:=_) rfl (N:=80) pU (ts:=[(2,none),(3,none)]) rfl (fun _ _=>rfl) ?_;intro O hs hrow;dsimp only[a3Y,a3Z,a30,rQ,qM,r5,rF,rT,Nat.reduceAdd] at hs hrow|-;have hz:=hs;obtain⟨z0,d⟩:=aLR.1 hz
 try rw[sC d]
 clear hz hs;unfold EH at d;refine qB vC ?_;refine qB vC ?_;refine qT ?_;refine qB vC ?_;refine qY d (fun d hc1=> ?_) (fun d hc1=> ?_)
 .refine qB vC ?_;refine qV (s8 ?_);cases d;exact pF []
 .refine rG (qQ ?_);obtain⟨hg1,d⟩:=qJ d;refine qB vC ?_ (hp:=by exact hg1);refine qT ?_;refine qB vC ?_;refine s9 ?_;refine qB vC ?_;refine qY d (fun d hc2=> ?_) (fun d hc2=> ?_)
  .obtain⟨hg2,d⟩:=qJ d;refine qB vC ?_ (hp:=by exact hg2);refine qV (sE (s8 ?_));cases d;exact pF []
  .refine qB vC ?_;refine qY d (fun d hc3=> ?_) (fun d hc3=> ?_)
   .obtain⟨hg3,d⟩:=qJ d;refine qB vC ?_ (hp:=by exact hg3);refine qV (sE (s8 ?_));cases d;exact pF []
   .refine qB vC ?_;refine qY d (fun d hc4=> ?_) (fun d hc4=> ?_)
    .obtain⟨hg4,d⟩:=qJ d;refine qB vC ?_ (hp:=by exact hg4);refine qV (sE (s8 ?_));cases d;exact pF []
    .refine qB vC ?_;refine qY d (fun d hc5=> ?_) (fun d hc5=> ?_)
     .obtain⟨hg5,d⟩:=qJ d;refine qB vC ?_ (hp:=by exact hg5);refine qV (sE (s8 ?_));cases d;exact pF []
     .refine qB vC ?_;refine qY d (fun d hc6=> ?_) (fun d hc6=> ?_)
      .obtain⟨hg6,d⟩:=qJ d;refine qB vC ?_ (hp:=by exact hg6);refine qV (sE (s8 ?_));cases d;exact pF []
      .refine rG (rV (qQ ?_));obtain⟨Z,hv7,hw7,d⟩:=qS d
       try simp only[go_sem] at hw7
       refine qB vC ?_ (hp:=by exact(qR hv7)) (h:=by simp only[go_sem,hw7];rfl);refine qT ?_;refine qB vC ?_;refine qY d (fun d hc7=> ?_) (fun d hc7=> ?_)
       .refine qB vC ?_;refine qV (s8 ?_);cases d;exact pF []
       .refine rG (qQ ?_);refine qB vC ?_;refine qT ?_;obtain⟨aA,hv8,hw8,d⟩:=qS d
        try simp only[go_sem] at hw8
        refine qB vC ?_ (hp:=by exact(qR hv8)) (h:=by simp only[go_sem,hw8];rfl);refine qB vC ?_;obtain⟨y1,f,d⟩:=qK d;refine AO (fun s=>s=(fun x=>⟨[(4,(.val (.int .i64) (uU O (59:Int)),none)),(6,(.val .str x.1,none)),(8,(.val (.int .i64) x.2.1,none)),(9,(.val (.int .i64) x.2.2,none))],[],0,80,0⟩) y1) ?_ ?_
        .refine qY f (fun f hc8=> ?_) (fun f hc8=> ?_)
         .refine rL vC ?_;cases f;exact v7 ⟨⟨[4,6,8,9],[]⟩,by rfl⟩
         .refine rG ?_;cases f;exact v7 ⟨⟨[4,6,8,9],[]⟩,by rfl⟩
        .rintro _ rfl;obtain⟨aB,aC,aD⟩:=y1;dsimp only at d|-;refine qQ ?_;obtain⟨aE,hv9,hw9,d⟩:=qS d
         try simp only[go_sem] at hw9
         refine qB vC ?_ (hp:=by exact(qR hv9)) (h:=by simp only[go_sem,hw9];rfl);refine qT ?_;refine qB vC ?_ (hp:=by exact⟨id,id,id,tK⟩);refine qY d (fun d hc9=> ?_) (fun d hc9=> ?_)
         .refine qB vC ?_;refine qV (s8 ?_);cases d;exact pF []
         .refine rG (qQ ?_);obtain⟨aF,hv10,hw10,d⟩:=qS d
          try simp only[go_sem] at hw10
          refine qB vC ?_ (hp:=by exact(qR hv10)) (h:=by simp only[go_sem,hw10];rfl);refine qT ?_;refine qB vC ?_;refine qY d (fun d hc10=> ?_) (fun d hc10=> ?_)
          .refine qB vC ?_;refine qV (s8 ?_);cases d;exact pF []
          .refine rG (qQ ?_);obtain⟨hg11,d⟩:=qJ d;refine qB vC ?_ (hp:=by exact hg11);refine qV ?_;cases d;exact pF []
attribute [irreducible] LZ EH
end
noncomputable section
def DG (O:Int) (Z:pD):(Int×pM)→Option ((Int×pM)⊕(pM⊕(pD×Int×Int))):=fun(aA,aB)=>if (decide (aA<(Z.length:Int)))=true then if 0≤aA∧aA<(Z.length:Int) then if (decide ((tU Z aA)=(38:Int)))=true then if 0≤aA∧aA≤(Z.length:Int)∧(Z.length:Int)≤(Z.length:Int) then (EH (sD Z aA (Z.length:Int))).bind fun aC=>if (decide (aC.2=(0:Int)))=true then some (.inr (.inr ((([]:pD),aA,(3:Int))))) else (FI (aB,()) aC.1).bind fun aD=>if qE (aA+aC.2) then some (.inl ((aA+aC.2),(aB++uW aC.1))) else none else none else if 0≤aA∧aA<(Z.length:Int) then if (JE O (tU Z aA))=true then some (.inr (.inr ((([]:pD),aA,(3:Int))))) else if 0≤aA∧aA<(Z.length:Int) then (JF (aB,()) (tU Z aA)).bind fun aE=>if qE (aA+(1:Int)) then some (.inl ((aA+(1:Int)),(aB++([(tU Z aA)]:pM)))) else none else none else none else none else some (.inr (.inl aB))
def aBz (O:Int) (Z:pD):(Int×pM)→Option ((Int×pM)⊕(pM⊕(pD×Int×Int))):=fun(aA,aB)=>if (decide (aA<(Z.length:Int)))=true then if 0≤aA∧aA<(Z.length:Int) then if (decide ((tU Z aA)=(92:Int)))=true then if 0≤aA∧aA≤(Z.length:Int)∧(Z.length:Int)≤(Z.length:Int) then (LZ (sD Z aA (Z.length:Int))).bind fun aC=>if (decide (aC.2=(0:Int)))=true then some (.inr (.inr ((([]:pD),aA,(3:Int))))) else (FI (aB,()) aC.1).bind fun aD=>if qE (aA+aC.2) then some (.inl ((aA+aC.2),(aB++uW aC.1))) else none else none else if 0≤aA∧aA<(Z.length:Int) then if (JE O (tU Z aA))=true then some (.inr (.inr ((([]:pD),aA,(3:Int))))) else if 0≤aA∧aA<(Z.length:Int) then (JF (aB,()) (tU Z aA)).bind fun aE=>if qE (aA+(1:Int)) then some (.inl ((aA+(1:Int)),(aB++([(tU Z aA)]:pM)))) else none else none else none else none else some (.inr (.inl aB))
def FX (O:Int) (Z:pD):Option (pD×Int×Int):=if (!((decide ((1:Int)≤O))&&(decide (O≤(4:Int)))))=true then some ((([]:pD),(0:Int),(1:Int))) else if (decide (O=(4:Int)))=true then uT (rX (DG O Z) ((0:Int),([]:pM))) fun aA=>some (((x7 aA),(0:Int),(0:Int))) else uT (rX (aBz O Z) ((0:Int),([]:pM))) fun aB=>some (((x7 aB),(0:Int),(0:Int)))
section
variable (O:Int) (Z:pD)
abbrev a32:List qC:=[(.val (.int .i64) O,none),(.val .str Z,none)]
abbrev a33:List q9:=[]
@[go_sem] def a34:qI:=⟨[((FX O Z)).isSome=true],[(.val .str ((val (FX O Z)).1),none),(.val (.int .i64) ((val (FX O Z)).2.1),none),(.val (.int .i64) ((val (FX O Z)).2.2),none)],[]⟩
def aBA:List qC→List q9→Option qI:=rU (V:=(Int×pD)) (fun x=>a32 x.1 x.2) (fun x=>a33) fun x=>a34 x.1 x.2
@[go_sem] def aLy:aBA (no_index (a32 O Z)) (no_index a33)=some (a34 O Z):=rY (fun⟨a0,a1⟩ ⟨b0,b1⟩ h1 h2=>by cases h1;cases h2;rfl) (O,Z)
end
@[go_sem] abbrev aBB:Nat×r6:=(190,⟨[.v,.v],aBA,[],[],none⟩)
def uL:rN Tryz.prog [sY,H0] (rO [a94,aBy,a0a,aAi,aAk,GY,aBw]):=⟨⟨tE,⟨LC,trivial⟩⟩,qO aHg (qO aHO (qO a9B (qO aHm (qO aHn (qO OL (qO aHN rR)))))),rP⟩
def aHP:r9 Tryz.prog aBB:=by
 refine rZ uL Tryz.func190 (c:=_) rfl (N:=58) pU (ts:=[(4,none),(5,none),(6,none)]) rfl (fun _ _=>rfl) ?_;intro⟨O,Z⟩ hs hrow;dsimp only[a32,a33,a34,rQ,qM,r5,rF,rT,Nat.reduceAdd] at hs hrow|-;have hz:=hs;obtain⟨z0,e⟩:=aLR.1 hz
 try rw[sC e]
 clear hz hs;unfold FX at e;refine qB uL ?_;refine qT ?_;refine qB uL ?_;refine qY e (fun e hc1=> ?_) (fun e hc1=> ?_)
 .refine qB uL ?_;refine qV (s8 ?_);cases e;exact pF []
 .refine rG (qQ ?_);refine qB uL ?_;refine qT ?_;refine qB uL ?_;refine qY e (fun e hc2=> ?_) (fun e hc2=> ?_)
  .refine rL uL ?_;refine qQ ?_;refine qB uL ?_;refine qT ?_;refine qB uL ?_;refine s9 ?_;obtain⟨y1,hy1,e⟩:=wB e;refine v6 0 (fun s=> ∃v,y1= .inl v∧s=(fun x=>⟨[(9,(.val .ref (some (0,0)),none))],[(0,.cells wC ((some (0,0)),(x,())) [(1,1)]),(1,.grow 5 1 (x.length))],2,58,0⟩) v) ?_ ?_
   .refine uS hy1 (fun x=>⟨[(0,(.val (.int .i64) O,none)),(1,(.val .str Z,none)),(7,(.val (.int .u8) (38:Int),none)),(8,(.val .clo (some (215,[])),none)),(9,(.val .ref (some (0,0)),none)),(10,(.val (.int .i64) x.1,none))],[(0,.cells wC ((some (0,0)),(x.2,())) [(1,1)]),(1,.grow 5 1 (x.2.length))],2,58,0⟩) ⟨[0,1,7,8,9,10],[(0,384),(1,385)]⟩ pV ?_;intro x1 w1 n1 d f;obtain⟨aA,aB⟩:=x1;unfold DG at d;dsimp only at d|-;refine qT ?_;refine qB uL ?_;refine qY d (fun d hc3=> ?_) (fun d hc3=> ?_)
    .refine rG (qQ (s9 (s9 ?_)));obtain⟨hg1,d⟩:=qJ d;refine qB uL ?_ (hp:=by exact hg1);refine qY d (fun d hc4=> ?_) (fun d hc4=> ?_)
     .obtain⟨hg2,d⟩:=qJ d;obtain⟨aC,hv3,hw3,d⟩:=qS d
      try simp only[go_sem] at hw3
      refine qB uL ?_ (hp:=by exact⟨hg2,(qR hv3)⟩) (h:=by simp only[go_sem,hw3];rfl);refine qT ?_;refine qB uL ?_;refine qY d (fun d hc5=> ?_) (fun d hc5=> ?_)
      .refine qB uL ?_;refine qV (s8 (sE (sE (wA (wH (sE (s8 ?_)))))));cases d;cases f;dsimp only at e;cases e;exact pF []
      .refine rG (qQ ?_);obtain⟨aD,hv4,hw4,d⟩:=qS d
       try simp only[go_sem] at hw4
       refine qB uL ?_ (hp:=by exact⟨pT,(qR hv4)⟩) (h:=by simp only[go_sem,hw4];rfl)
       obtain⟨hg5,d⟩:=qJ d;refine rL uL ?_ (hp:=by exact hg5);refine rV (rV ?_);cases d;exact tQ ⟨⟨[0,1,7,8,9,10],[(0,0),(1,1)]⟩,_,by rfl,f⟩
     .obtain⟨hg6,d⟩:=qJ d;refine qB uL ?_ (hp:=by exact hg6);refine qY d (fun d hc6=> ?_) (fun d hc6=> ?_)
      .refine qB uL ?_;refine qV (sE (sE (wA (wH (sE (s8 ?_))))));cases d;cases f;dsimp only at e;cases e;exact pF []
      .obtain⟨hg7,d⟩:=qJ d;obtain⟨aE,hv8,hw8,d⟩:=qS d
       try simp only[go_sem] at hw8
       refine qB uL ?_ (hp:=by exact⟨hg7,pT,(qR hv8)⟩) (h:=by simp only[go_sem,hw8];rfl)
       obtain⟨hg9,d⟩:=qJ d;refine rL uL ?_ (hp:=by exact hg9);refine rV (rV ?_);cases d;exact tQ ⟨⟨[0,1,7,8,9,10],[(0,0),(1,1)]⟩,_,by rfl,f⟩
    .refine uO (uN (uQ ?_));cases d;cases f;exact uP ⟨⟨[9],[(0,0),(1,1)]⟩,_,rfl,by rfl⟩
   .rintro _ ⟨aF,rfl,rfl⟩;dsimp only at e|-;refine uY (qQ ?_);refine qB uL ?_ (hp:=by first|rfl|trivial)
    refine qV ?_;cases e;exact pF []
  .refine rG (qQ ?_);refine qB uL ?_;refine qT ?_;refine qB uL ?_;refine s9 ?_;obtain⟨y1,hy1,e⟩:=wB e;refine v6 0 (fun s=> ∃v,y1= .inl v∧s=(fun x=>⟨[(9,(.val .ref (some (0,0)),none))],[(0,.cells wC ((some (0,0)),(x,())) [(1,1)]),(1,.grow 5 1 (x.length))],2,58,0⟩) v) ?_ ?_
   .refine uS hy1 (fun x=>⟨[(0,(.val (.int .i64) O,none)),(1,(.val .str Z,none)),(7,(.val (.int .u8) (92:Int),none)),(8,(.val .clo (some (214,[])),none)),(9,(.val .ref (some (0,0)),none)),(10,(.val (.int .i64) x.1,none))],[(0,.cells wC ((some (0,0)),(x.2,())) [(1,1)]),(1,.grow 5 1 (x.2.length))],2,58,0⟩) ⟨[0,1,7,8,9,10],[(0,320),(1,321)]⟩ pV ?_;intro x1 w1 n1 d f;obtain⟨aG,aH⟩:=x1;unfold aBz at d;dsimp only at d|-;refine qT ?_;refine qB uL ?_;refine qY d (fun d hc7=> ?_) (fun d hc7=> ?_)
    .refine rG (qQ (s9 (s9 ?_)));obtain⟨hg10,d⟩:=qJ d;refine qB uL ?_ (hp:=by exact hg10);refine qY d (fun d hc8=> ?_) (fun d hc8=> ?_)
     .obtain⟨hg11,d⟩:=qJ d;obtain⟨aI,hv12,hw12,d⟩:=qS d
      try simp only[go_sem] at hw12
      refine qB uL ?_ (hp:=by exact⟨hg11,(qR hv12)⟩) (h:=by simp only[go_sem,hw12];rfl);refine qT ?_;refine qB uL ?_;refine qY d (fun d hc9=> ?_) (fun d hc9=> ?_)
      .refine qB uL ?_;refine qV (s8 (sE (sE (wA (wH (sE (s8 ?_)))))));cases d;cases f;dsimp only at e;cases e;exact pF []
      .refine rG (qQ ?_);obtain⟨aJ,hv13,hw13,d⟩:=qS d
       try simp only[go_sem] at hw13
       refine qB uL ?_ (hp:=by exact⟨pT,(qR hv13)⟩) (h:=by simp only[go_sem,hw13];rfl)
       obtain⟨hg14,d⟩:=qJ d;refine rL uL ?_ (hp:=by exact hg14);refine rV (rV ?_);cases d;exact tQ ⟨⟨[0,1,7,8,9,10],[(0,0),(1,1)]⟩,_,by rfl,f⟩
     .obtain⟨hg15,d⟩:=qJ d;refine qB uL ?_ (hp:=by exact hg15);refine qY d (fun d hc10=> ?_) (fun d hc10=> ?_)
      .refine qB uL ?_;refine qV (sE (sE (wA (wH (sE (s8 ?_))))));cases d;cases f;dsimp only at e;cases e;exact pF []
      .obtain⟨hg16,d⟩:=qJ d;obtain⟨aK,hv17,hw17,d⟩:=qS d
       try simp only[go_sem] at hw17
       refine qB uL ?_ (hp:=by exact⟨hg16,pT,(qR hv17)⟩) (h:=by simp only[go_sem,hw17];rfl)
       obtain⟨hg18,d⟩:=qJ d;refine rL uL ?_ (hp:=by exact hg18);refine rV (rV ?_);cases d;exact tQ ⟨⟨[0,1,7,8,9,10],[(0,0),(1,1)]⟩,_,by rfl,f⟩
    .refine uO (uN (uQ ?_));cases d;cases f;exact uP ⟨⟨[9],[(0,0),(1,1)]⟩,_,rfl,by rfl⟩
   .rintro _ ⟨aL,rfl,rfl⟩;dsimp only at e|-;refine uY (qQ ?_);refine qB uL ?_ (hp:=by first|rfl|trivial)
    refine qV ?_;cases e;exact pF []
def EI (O:pD):Option (pD×Bool):=(FX (4:Int) O).bind fun Z=>if (((decide (Z.2.2=(0:Int)))==true)=true→((LU Z.1)).isSome=true) then some ((Z.1,((decide (Z.2.2=(0:Int)))&&((decide ((Z.1.length:Int)≤(4000:Int)))&&(Lib.validD Z.1))))) else none
section
variable (O:pD)
abbrev a35:List qC:=[(.val .str O,none)]
abbrev a36:List q9:=[]
@[go_sem] def a38:qI:=⟨[((EI O)).isSome=true],[(.val .str ((val (EI O)).1),none),(.val .bool ((val (EI O)).2),none)],[]⟩
def aBC:List qC→List q9→Option qI:=rU (V:=pD) (a35) (fun x=>a36) fun x=>a38 x
@[go_sem] def aLz:aBC (no_index (a35 O)) (no_index a36)=some (a38 O):=rY (fun a0 b0 h1 h2=>by cases h1;cases h2;rfl) O
end
@[go_sem] abbrev a39:Nat×r6:=(154,⟨[.v],aBC,[],[],none⟩)
def TW:rN Tryz.prog [] (rO [aBB,aA3]):=⟨trivial,qO aHP (qO aHE rR),rP⟩
def aBD:r9 Tryz.prog a39:=by
 refine rZ TW Tryz.func154 (c:=_) rfl (N:=20) pU (ts:=[(2,none),(3,none)]) rfl (fun _ _=>rfl) ?_;intro O hs hrow;dsimp only[a35,a36,a38,rQ,qM,r5,rF,rT,Nat.reduceAdd] at hs hrow|-;have hz:=hs;obtain⟨z0,e⟩:=aLR.1 hz
 try rw[sC e]
 clear hz hs;unfold EI at e;refine qB TW ?_;obtain⟨Z,hv1,hw1,e⟩:=qS e
 try simp only[go_sem] at hw1
 refine qB TW ?_ (hp:=by exact(qR hv1)) (h:=by simp only[go_sem,hw1];rfl);obtain⟨hg2,e⟩:=qJ e;refine qB TW ?_ (hp:=by exact⟨id,hg2,sZ⟩);refine qV ?_;cases e;exact pF []
def EJ (O:pD):Option (pD×pD×pD×Bool):=(DB O).bind fun Z=>(DF Z.2 ([61,34]:pD)).bind fun aA=>(FT aA.1 ([34]:pD)).bind fun aB=>(EI aB.1).bind fun aC=>some ((Z.1,aC.1,aB.2.1,((((!decide (Z.1=([]:pD)))&&aA.2)&&aB.2.2)&&aC.2)))
section
variable (O:pD)
abbrev a4a:List qC:=[(.val .str O,none)]
abbrev a4b:List q9:=[]
@[go_sem] def a4c:qI:=⟨[((EJ O)).isSome=true],[(.val (.pair .str (.pair .str .unit)) ((val (EJ O)).1,((val (EJ O)).2.1,())),none),(.val .str ((val (EJ O)).2.2.1),none),(.val .bool ((val (EJ O)).2.2.2),none)],[]⟩
def aBE:List qC→List q9→Option qI:=rU (V:=pD) (a4a) (fun x=>a4b) fun x=>a4c x
@[go_sem] def aLA:aBE (no_index (a4a O)) (no_index a4b)=some (a4c O):=rY (fun a0 b0 h1 h2=>by cases h1;cases h2;rfl) O
end
@[go_sem] abbrev aBF:Nat×r6:=(128,⟨[.v],aBE,[],[],none⟩)
def JO:rN Tryz.prog [AR] (rO [a0Z,TU,aBa,a39]):=⟨⟨CE,trivial⟩,qO a9X (qO a27 (qO aHG (qO aBD rR))),rP⟩
def aHQ:r9 Tryz.prog aBF:=by
 refine rZ JO Tryz.func128 (c:=_) rfl (N:=48) pU (ts:=[(2,some 127),(3,none),(4,none)]) rfl (fun _ _=>rfl) ?_;intro O hs hrow;dsimp only[a4a,a4b,a4c,rQ,qM,r5,rF,rT,Nat.reduceAdd] at hs hrow|-;have hz:=hs;obtain⟨z0,e⟩:=aLR.1 hz
 try rw[sC e]
 clear hz hs;unfold EJ at e;refine qB JO ?_;obtain⟨Z,hv1,hw1,e⟩:=qS e
 try simp only[go_sem] at hw1
 refine qB JO ?_ (hp:=by exact(qR hv1)) (h:=by simp only[go_sem,hw1];rfl);obtain⟨aA,hv2,hw2,e⟩:=qS e
 try simp only[go_sem] at hw2
 refine qB JO ?_ (hp:=by exact(qR hv2)) (h:=by simp only[go_sem,hw2];rfl);obtain⟨aB,hv3,hw3,e⟩:=qS e
 try simp only[go_sem] at hw3
 refine qB JO ?_ (hp:=by exact(qR hv3)) (h:=by simp only[go_sem,hw3];rfl);obtain⟨aC,hv4,hw4,e⟩:=qS e
 try simp only[go_sem] at hw4
 refine qB JO ?_ (hp:=by exact(qR hv4)) (h:=by simp only[go_sem,hw4];rfl);refine qB JO ?_ (hp:=by exact⟨sZ,sZ,sZ⟩);refine qV ?_;cases e;exact pF []
attribute [irreducible] FX EI EJ
end
noncomputable section
def EK (O:Int) (Z:(pD×pD)):(pD×(List qZ)×Bool)→Option ((pD×(List qZ)×Bool)⊕(Unit⊕(Int×pD×(List qZ)×Bool×Bool))):=fun(aA,aB,aC)=>if (!decide (Z.1=([]:pD)))=true then if (decide ((Lib.trimLeftS aA ([32,9,10,13]:pD))=([]:pD)))=true then some (.inr (.inr ((O,Z.1,aB,aC,true)))) else (EJ (Lib.trimLeftS aA ([32,9,10,13]:pD))).bind fun aD=>if ((!aD.2.2.2)||(decide (((Lib.trimLeftS aA ([32,9,10,13]:pD)).length:Int)=(aA.length:Int))))=true then some (.inr (.inl ())) else if (aC==false)=true then if ((aC==false)=true→((HA aB (aD.1,(aD.2.1,())))).isSome=true) then if (aB.length+([(aD.1,(aD.2.1,()))]:List qZ).length)*32≤140737488355328 then some (.inl (aD.2.2.1,(aB++([(aD.1,(aD.2.1,()))]:List qZ)),(aC||(val (HA aB (aD.1,(aD.2.1,()))))))) else none else none else if (aB.length+([(aD.1,(aD.2.1,()))]:List qZ).length)*32≤140737488355328 then some (.inl (aD.2.2.1,(aB++([(aD.1,(aD.2.1,()))]:List qZ)),true)) else none else some (.inr (.inl ()))
def DH (O:pD):Option (Int×pD×(List qZ)×Bool×Bool):=if qE ((O.length:Int)- (1:Int)) then if 0≤(1:Int)∧(1:Int)≤((O.length:Int)- (1:Int))∧((O.length:Int)- (1:Int))≤(O.length:Int) then (DF (sD O (1:Int) ((O.length:Int)- (1:Int))) ([47]:pD)).bind fun Z=>if Z.2=true then (DB Z.1).bind fun aA=>if (((decide (aA.1=([]:pD)))==false)=true→(List.all ([32,9,10,13]:pD) fun b=>decide (b.toNat<128))=true∧List.length ([32,9,10,13]:pD)<4294967281) then if (((decide (aA.1=([]:pD)))==false)=true→List.length aA.2≤9223372036854775807) then if ((decide (aA.1=([]:pD)))||(!decide ((Lib.trimS aA.2 ([32,9,10,13]:pD))=([]:pD))))=true then some (((0:Int),([]:pD),([]:List qZ),false,false)) else some (((3:Int),aA.1,([]:List qZ),false,true)) else none else none else (HE (sD O (1:Int) ((O.length:Int)- (1:Int))) ([47]:pD)).bind fun aB=>t8 (σ:=(pD×Int)) (if aB.2=true then some ((aB.1,(2:Int))) else some (((sD O (1:Int) ((O.length:Int)- (1:Int))),(1:Int))) ) fun(aC,aD)=>(DB aC).bind fun aE=>uT (rX (EK aD aE) (aE.2,([]:List qZ),false)) fun _=>some (((0:Int),([]:pD),([]:List qZ),false,false)) else none else none
section
variable (O:pD)
abbrev a4d:List qC:=[(.val .str O,none)]
abbrev a4e:List q9:=[]
@[go_sem] def a4f:qI:=⟨[((DH O)).isSome=true],[(.val wE ((val (DH O)).1,((val (DH O)).2.1,((val (DH O)).2.2.1,((val (DH O)).2.2.2.1,())))),none),(.val .bool ((val (DH O)).2.2.2.2),none)],[]⟩
def aBG:List qC→List q9→Option qI:=rU (V:=pD) (a4d) (fun x=>a4e) fun x=>a4f x
@[go_sem] def aLB:aBG (no_index (a4d O)) (no_index a4e)=some (a4f O):=rY (fun a0 b0 h1 h2=>by cases h1;cases h2;rfl) O
end
@[go_sem] abbrev aBH:Nat×r6:=(86,⟨[.v],aBG,[],[],none⟩)
def vO:rN Tryz.prog [wO,AA,sY,BT,y6,AR] (rO [TU,a0Z,IU,aBo,L5,aBF,aAG]):=⟨⟨xH,⟨BU,⟨tE,⟨D6,⟨z7,⟨CE,trivial⟩⟩⟩⟩⟩⟩,qO a27 (qO a9X (qO T6 (qO aHK (qO YV (qO aHQ (qO aHw rR)))))),rP⟩
def aHR:r9 Tryz.prog aBH:=by
 refine rZ vO Tryz.func86 (c:=_) rfl (N:=96) pU (ts:=[(2,some 100),(3,none)]) rfl (fun _ _=>rfl) ?_;intro O hs hrow;dsimp only[a4d,a4e,a4f,rQ,qM,r5,rF,rT,Nat.reduceAdd] at hs hrow|-;have hz:=hs;obtain⟨z0,d⟩:=aLR.1 hz
 try rw[sC d]
 clear hz hs;unfold DH at d;refine qB vO ?_;obtain⟨hg1,d⟩:=qJ d;obtain⟨hg2,d⟩:=qJ d;refine qB vO ?_ (hp:=by exact⟨hg1,hg2⟩);refine qB vO ?_;refine qT ?_;obtain⟨Z,hv3,hw3,d⟩:=qS d
 try simp only[go_sem] at hw3
 refine qB vO ?_ (hp:=by exact(qR hv3)) (h:=by simp only[go_sem,hw3];rfl);refine qB vO ?_;refine qY d (fun d hc1=> ?_) (fun d hc1=> ?_)
 .refine qB vO ?_;obtain⟨aA,hv4,hw4,d⟩:=qS d
  try simp only[go_sem] at hw4
  refine qB vO ?_ (hp:=by exact(qR hv4)) (h:=by simp only[go_sem,hw4];rfl);refine qT ?_;obtain⟨hg5,d⟩:=qJ d;obtain⟨hg6,d⟩:=qJ d;refine qB vO ?_ (hp:=by exact⟨id,hg5,hg6,id,tK⟩);refine qY d (fun d hc2=> ?_) (fun d hc2=> ?_)
  .refine qB vO ?_;refine qV (s8 (s8 ?_));cases d;exact pF []
  .refine rG (qQ ?_);refine qB vO ?_;refine qV (s8 ?_);cases d;exact pF []
 .refine rG (qQ (qT ?_));obtain⟨aB,hv7,hw7,d⟩:=qS d
  try simp only[go_sem] at hw7
  refine qB vO ?_ (hp:=by exact(qR hv7)) (h:=by simp only[go_sem,hw7];rfl);refine qB vO ?_;obtain⟨y1,f,d⟩:=qK d;refine AO (fun s=>s=(fun x=>⟨[(0,(.val .str x.1,none)),(2,(.val .ref (some (0,0)),none)),(4,(.val .ref (some (1,0)),none))],[(0,.cells wE ((0:Int),(([]:pD),(([]:List qZ),(false,())))) [(2,2)]),(1,.cells wE (x.2,(([]:pD),(([]:List qZ),(false,())))) [(2,3)]),(2,.grow 127 2 (([]:List qZ).length)),(3,.grow 127 2 (([]:List qZ).length))],4,96,0⟩) y1) ?_ ?_
  .refine qY f (fun f hc3=> ?_) (fun f hc3=> ?_)
   .refine rL vO ?_;cases f;exact v7 ⟨⟨[0,2,4],[(0,0),(1,288),(2,1),(3,320)]⟩,by rfl⟩
   .refine rG ?_;cases f;exact v7 ⟨⟨[0,2,4],[(0,0),(1,288),(2,1),(3,320)]⟩,by rfl⟩
  .rintro _ rfl;obtain⟨aC,aD⟩:=y1;dsimp only at d|-;refine qQ ?_;obtain⟨aE,hv8,hw8,d⟩:=qS d
   try simp only[go_sem] at hw8
   refine qB vO ?_ (hp:=by exact(qR hv8)) (h:=by simp only[go_sem,hw8];rfl);refine qT (s9 ?_);obtain⟨y1,hy1,d⟩:=wB d;refine v6 0 (fun s=> ∃v,y1= .inl v∧s=(fun _=>⟨[(2,(.val .ref (some (0,0)),none))],[(0,.cells wE ((0:Int),(([]:pD),(([]:List qZ),(false,())))) [(2,1)]),(1,.grow 127 2 (([]:List qZ).length))],2,96,0⟩) v) ?_ ?_
   .refine uS hy1 (fun x=>⟨[(0,(.val .str x.1,none)),(2,(.val .ref (some (0,0)),none)),(4,(.val .ref (some (1,0)),none))],[(0,.cells wE ((0:Int),(([]:pD),(([]:List qZ),(false,())))) [(2,2)]),(1,.cells wE (aD,(aE.1,(x.2.1,(x.2.2,())))) [(2,3)]),(2,.grow 127 2 (([]:List qZ).length)),(3,.grow 127 2 (x.2.1.length))],4,96,0⟩) ⟨[0,2,4],[(0,0),(1,1),(2,2),(3,3)]⟩ pV ?_;intro x1 w1 n1 f g;obtain⟨aF,aG,aH⟩:=x1;unfold EK at f;dsimp only at f|-;refine qT ?_;refine qB vO ?_;refine qY f (fun f hc4=> ?_) (fun f hc4=> ?_)
    .refine rG (qQ (s9 ?_));refine qB vO ?_ (hp:=by exact⟨pH,pH⟩);refine qT ?_;refine qB vO ?_;refine qY f (fun f hc5=> ?_) (fun f hc5=> ?_)
     .refine qB vO ?_;refine qV (s8 (sE (wA (wH (sE (s8 ?_))))));cases f;cases g;dsimp only at d;cases d;exact pF []
     .refine rG (qQ ?_);obtain⟨aI,hv9,hw9,f⟩:=qS f
      try simp only[go_sem] at hw9
      refine qB vO ?_ (hp:=by exact(qR hv9)) (h:=by simp only[go_sem,hw9];rfl);refine qT ?_;refine qB vO ?_ (hp:=by exact⟨id,id,id,id,tK⟩);refine qY f (fun f hc6=> ?_) (fun f hc6=> ?_)
      .refine uO (uN (a8x pH (uQ ?_)));cases f;cases g;exact uP ⟨⟨[2],[(0,0),(1,2)]⟩,_,rfl,by rfl⟩
      .refine rG (qQ (qT ?_));by_cases hgs7:(aH==false)=true
       .rw[aLQ hgs7] at f;obtain⟨hg10,f⟩:=qJ f;refine rL vO ?_ (hp:=by exact⟨id,pT,hgs7,id,id,hg10⟩)
        refine qQ ?_;obtain⟨hg11,f⟩:=qJ f;refine qB vO ?_ (hp:=by exact⟨pT,hg11⟩)
        refine rL vO ?_;refine rV ?_;cases f;exact tQ ⟨⟨[0,2,4],[(0,0),(1,1),(2,2),(3,3)]⟩,_,by rfl,g⟩
       rw[aLU hgs7] at f;refine rL (Y0 (l:=[1000000004]) vO pV) ?_ (hp:=by exact⟨by first|exact Bool.eq_false_iff.2 hgs7|simpa using hgs7|simpa[rF] using hgs7,by first|exact Bool.eq_false_iff.2 hgs7|simpa using hgs7|simpa[rF] using hgs7,by first|exact Bool.eq_false_iff.2 hgs7|simpa using hgs7|simpa[rF] using hgs7,by first|exact Bool.eq_false_iff.2 hgs7|simpa using hgs7|simpa[rF] using hgs7,(by first|exact Bool.of_not_eq_false (fun e=>hgs7 (by rw[e];rfl)) |exact Bool.of_not_eq_true (fun e=>hgs7 (by rw[e];rfl)) |simpa using hgs7|simpa[rF] using hgs7)⟩)
       refine qQ ?_;obtain⟨hg12,f⟩:=qJ f;refine qB vO ?_ (hp:=by exact⟨pT,hg12⟩)
       refine rL vO ?_;refine rV ?_;cases f;exact tQ ⟨⟨[0,2,4],[(0,0),(1,1),(2,2),(3,3)]⟩,_,by rfl,g⟩
    .refine uO (uN (uQ ?_));cases f;cases g;exact uP ⟨⟨[2],[(0,0),(1,2)]⟩,_,rfl,by rfl⟩
   .rintro _ ⟨v,rfl,rfl⟩;dsimp only at d|-;refine uY (qQ ?_);refine qB vO ?_;refine qV ?_;cases d;exact pF []
def zP (O:(List s7)) (Z:Int) (aA:Int) (aB:sQ) (aC:(pM×Unit)) (aD:pK):Option (Int×pD×(List qZ)×Bool):=if (((!decide (aA=(0:Int)))==false)=true→0≤(0:Int)∧(0:Int)<(O.length:Int)) then if ((!decide (aA=(0:Int)))||(!decide ((qW sN O (0:Int)).1=(2:Int))))=true then some (((0:Int),([]:pD),([]:List qZ),false)) else if 0≤(0:Int)∧(0:Int)<(O.length:Int) then (DH ((qW sN O (0:Int)).2.1)).bind fun aE=>some ((aE.1,aE.2.1,aE.2.2.1,aE.2.2.2.1)) else none else none
section
variable (O:(List s7)) (Z:Int) (aA:Int) (aB:sQ) (aC:(pM×Unit)) (aD:Nat) (aE:Nat) (aF:pK)
abbrev a4g:List qC:=[(.val .ref (some (0,0)),none)]
abbrev a4h:List q9:=[.cells sO (O,(Z,(aA,(aB,((some 3),aC))))) [(6,1),(8,2)],.grow 53 7 aD,.grow 3 1 aE,.map .str .bool aF]
@[go_sem] def a4i:qI:=⟨[aD=(aB.2.2.2.1.length),aE=(aC.1.length),((zP O Z aA aB aC aF)).isSome=true],[(.val wE ((val (zP O Z aA aB aC aF)).1,((val (zP O Z aA aB aC aF)).2.1,((val (zP O Z aA aB aC aF)).2.2.1,((val (zP O Z aA aB aC aF)).2.2.2,())))),none)],[.cells sO (O,(Z,(aA,((aB.1,(aB.2.1,(aB.2.2.1,(aB.2.2.2.1,())))),((some 3),(aC.1,())))))) [(6,1),(8,2)],.grow 53 7 (aB.2.2.2.1.length),.grow 3 1 (aC.1.length),.map .str .bool aF]⟩
def aBI:List qC→List q9→Option qI:=rU (V:=((List s7)×Int×Int×sQ×(pM×Unit)×Nat×Nat×pK)) (fun x=>a4g) (fun x=>a4h x.1 x.2.1 x.2.2.1 x.2.2.2.1 x.2.2.2.2.1 x.2.2.2.2.2.1 x.2.2.2.2.2.2.1 x.2.2.2.2.2.2.2) fun x=>a4i x.1 x.2.1 x.2.2.1 x.2.2.2.1 x.2.2.2.2.1 x.2.2.2.2.2.1 x.2.2.2.2.2.2.1 x.2.2.2.2.2.2.2
@[go_sem] def aLC:aBI (no_index a4g) (no_index (a4h O Z aA aB aC aD aE aF))=some (a4i O Z aA aB aC aD aE aF):=rY (fun⟨a0,a1,a2,a3,a4,a5,a6,a7⟩ ⟨b0,b1,b2,b3,b4,b5,b6,b7⟩ h1 h2=>by cases h1;cases h2;rfl) (O,Z,aA,aB,aC,aD,aE,aF)
end
@[go_sem] abbrev FY:Nat×r6:=(53,⟨[.p sO [6,8]],aBI,[(0,7,.m)],[0,1,2,3],none⟩)
def M0:rN Tryz.prog [wO,sY,BR,BQ,AQ,zN,y6] (rO [aBH]):=⟨⟨xH,⟨tE,⟨D5,⟨FD,⟨CC,⟨E5,⟨z7,trivial⟩⟩⟩⟩⟩⟩⟩,qO aHR rR,rP⟩
def HG:r9 Tryz.prog FY:=by
 refine rZ M0 Tryz.func53 (c:=_) rfl (N:=33) pU (ts:=[(2,some 100)]) rfl (fun _ _=>rfl) ?_;intro⟨O,Z,aA,aB,aC,aD,aE,aF⟩ hs hrow;dsimp only[a4g,a4h,a4i,rQ,qM,r5,rF,rT,Nat.reduceAdd] at hs hrow|-;obtain⟨rfl,rfl,hz⟩:=hs;obtain⟨z0,d⟩:=aLR.1 hz
 try rw[sC d]
 clear hz;unfold zP at d;refine qB M0 ?_;refine qT ?_;obtain⟨hg1,d⟩:=qJ d;refine qB M0 ?_ (hp:=by exact⟨id,id,id,id,hg1,id,id,id,tK⟩);refine qY d (fun d hc1=> ?_) (fun d hc1=> ?_)
 .refine qB M0 ?_;refine qV (s8 ?_);cases d;exact pF [(0,0),(1,1),(2,2),(3,3)]
 .refine rG (qQ ?_);obtain⟨hg2,d⟩:=qJ d;obtain⟨aG,hv3,hw3,d⟩:=qS d
  try simp only[go_sem] at hw3
  refine qB M0 ?_ (hp:=by exact⟨hg2,(qR hv3)⟩) (h:=by simp only[go_sem,hw3];rfl);refine qB M0 ?_;refine qV ?_;cases d;exact pF [(0,0),(1,1),(2,2),(3,3)]
def AB (O:(List s7)) (Z:Int) (aA:Int) (aB:sQ) (aC:(pM×Unit)) (aD:pD) (aE:pK):Option ((List s7)×Int×Int):=(zP O Z aA aB aC aE).bind fun aF=>if ((!decide (aF.1=(3:Int)))||(!decide (aF.2.1=aD)))=true then (yJ O Z aA aB aC (3:Int) aE).bind fun aG=>(wX O aG.1 aG.2 (aB.1,(aB.2.1,(aB.2.2.1,(aB.2.2.2.1,())))) (aC.1,()) aE).bind fun aH=>some ((aH,aG.1,aG.2)) else (wX O Z aA aB aC aE).bind fun aI=>some ((aI,Z,aA))
section
variable (O:pD) (Z:(List s7)) (aA:Int) (aB:Int) (aC:sQ) (aD:(pM×Unit)) (aE:Nat) (aF:Nat) (aG:pK)
abbrev a4j:List qC:=[(.val .ref (some (0,0)),none),(.val .str O,none)]
abbrev a4k:List q9:=[.cells sO (Z,(aA,(aB,(aC,((some 3),aD))))) [(6,1),(8,2)],.grow 53 7 aE,.grow 3 1 aF,.map .str .bool aG]
@[go_sem] def a4l:qI:=⟨[aE=(aC.2.2.2.1.length),aF=(aD.1.length),((AB Z aA aB aC aD O aG)).isSome=true],[(.val (.int .i64) ((qW sN Z (0:Int)).2.2.1+(((qW sN Z (0:Int)).2.1).length:Int)),none)],[.cells sO ((val (AB Z aA aB aC aD O aG)).1,((val (AB Z aA aB aC aD O aG)).2.1,((val (AB Z aA aB aC aD O aG)).2.2,((aC.1,(aC.2.1,(aC.2.2.1,(aC.2.2.2.1,())))),((some 3),(aD.1,())))))) [(6,1),(8,2)],.grow 53 7 (aC.2.2.2.1.length),.grow 3 1 (aD.1.length),.map .str .bool aG]⟩
def aBJ:List qC→List q9→Option qI:=rU (V:=(pD×(List s7)×Int×Int×sQ×(pM×Unit)×Nat×Nat×pK)) (fun x=>a4j x.1) (fun x=>a4k x.2.1 x.2.2.1 x.2.2.2.1 x.2.2.2.2.1 x.2.2.2.2.2.1 x.2.2.2.2.2.2.1 x.2.2.2.2.2.2.2.1 x.2.2.2.2.2.2.2.2) fun x=>a4l x.1 x.2.1 x.2.2.1 x.2.2.2.1 x.2.2.2.2.1 x.2.2.2.2.2.1 x.2.2.2.2.2.2.1 x.2.2.2.2.2.2.2.1 x.2.2.2.2.2.2.2.2
@[go_sem] def aLD:aBJ (no_index (a4j O)) (no_index (a4k Z aA aB aC aD aE aF aG))=some (a4l O Z aA aB aC aD aE aF aG):=rY (fun⟨a0,a1,a2,a3,a4,a5,a6,a7,a8⟩ ⟨b0,b1,b2,b3,b4,b5,b6,b7,b8⟩ h1 h2=>by cases h1;cases h2;rfl) (O,Z,aA,aB,aC,aD,aE,aF,aG)
end
@[go_sem] abbrev PJ:Nat×r6:=(55,⟨[.p sO [6,8],.v],aBJ,[(0,7,.m)],[1,2,3],none⟩)
def JP:rN Tryz.prog [wO,sY,y6] (rO [FY,J9,H6]):=⟨⟨xH,⟨tE,⟨z7,trivial⟩⟩⟩,qO HG (qO LD (qO JC rR)),rP⟩
def TX:r9 Tryz.prog PJ:=by
 refine rZ JP Tryz.func55 (c:=_) rfl (N:=21) pU (ts:=[(4,none)]) rfl (fun _ _=>rfl) ?_;intro⟨O,Z,aA,aB,aC,aD,aE,aF,aG⟩ hs hrow;dsimp only[a4j,a4k,a4l,rQ,qM,r5,rF,rT,Nat.reduceAdd] at hs hrow|-;obtain⟨rfl,rfl,hz⟩:=hs;obtain⟨z0,d⟩:=aLR.1 hz
 try rw[sC d]
 clear hz;unfold AB at d;refine qB JP ?_;refine qT ?_;obtain⟨aH,hv1,hw1,d⟩:=qS d
 try simp only[go_sem] at hw1
 refine qB JP ?_ (hp:=by exact⟨pT,pT,pT,pT,pT,pT,(qR hv1)⟩) (h:=by simp only[go_sem,hw1];rfl)
 refine qB JP ?_ (hp:=by exact⟨id,id,id,tK⟩);refine qY d (fun d hc1=> ?_) (fun d hc1=> ?_)
 .obtain⟨aI,hv2,hw2,d⟩:=qS d
  try simp only[go_sem] at hw2
  refine rL JP ?_ (hp:=by exact⟨pT,pT,pT,pT,pT,(qR hv2)⟩) (h:=by simp only[go_sem,hw2];rfl)
  refine qQ ?_;obtain⟨aJ,hv3,hw3,d⟩:=qS d
  try simp only[go_sem] at hw3
  refine qB JP ?_ (hp:=by exact⟨pT,pT,pT,pT,pT,(qR hv3)⟩) (h:=by simp only[go_sem,hw3];rfl)
  refine qV ?_;cases d;exact pF [(0,0),(1,1),(2,2),(3,3)]
 .refine rG (qQ ?_);obtain⟨aK,hv4,hw4,d⟩:=qS d
  try simp only[go_sem] at hw4
  refine qB JP ?_ (hp:=by exact⟨pT,pT,pT,pT,pT,(qR hv4)⟩) (h:=by simp only[go_sem,hw4];rfl)
  refine qV ?_;cases d;exact pF [(0,0),(1,1),(2,2),(3,3)]
attribute [irreducible] DH zP AB
end
noncomputable section
def AC (O:(List s7)) (Z:Int) (aA:Int) (aB:sQ) (aC:(pM×Unit)) (aD:xT) (aE:pK):Option (pD×(List s7)×Int×Int):=(wX O Z aA aB aC aE).bind fun aF=>if (decide (aD.1=(2:Int)))=true then some ((([]:pD),aF,Z,aA)) else if 0≤(0:Int)∧(0:Int)<(aF.length:Int) then if (decide ((qW sN aF (0:Int)).1=(3:Int)))=true then if 0≤(0:Int)∧(0:Int)<(aF.length:Int) then (EI ((qW sN aF (0:Int)).2.1)).bind fun aG=>t8 (σ:=(Int×Int)) (if (!aG.2)=true then (yJ aF Z aA (aB.1,(aB.2.1,(aB.2.2.1,(aB.2.2.2.1,())))) (aC.1,()) (3:Int) aE).bind fun aH=>some ((aH.1,aH.2)) else some ((Z,aA)) ) fun(aI,aJ)=>(wX aF aI aJ (aB.1,(aB.2.1,(aB.2.2.1,(aB.2.2.2.1,())))) (aC.1,()) aE).bind fun aK=>(AB aK aI aJ (aB.1,(aB.2.1,(aB.2.2.1,(aB.2.2.2.1,())))) (aC.1,()) aD.2.1 aE).bind fun aL=>some ((aG.1,aL.1,aL.2.1,aL.2.2)) else none else (AB aF Z aA (aB.1,(aB.2.1,(aB.2.2.1,(aB.2.2.2.1,())))) (aC.1,()) aD.2.1 aE).bind fun aM=>some ((([]:pD),aM.1,aM.2.1,aM.2.2)) else none
section
variable (O:xT) (Z:(List s7)) (aA:Int) (aB:Int) (aC:sQ) (aD:(pM×Unit)) (aE:Nat) (aF:Nat) (aG:pK)
abbrev a4m:List qC:=[(.val .ref (some (0,0)),none),(.val wE O,none)]
abbrev a4n:List q9:=[.cells sO (Z,(aA,(aB,(aC,((some 3),aD))))) [(6,1),(8,2)],.grow 53 7 aE,.grow 3 1 aF,.map .str .bool aG]
@[go_sem] def a4o:qI:=⟨[aE=(aC.2.2.2.1.length),aF=(aD.1.length),((AC Z aA aB aC aD O aG)).isSome=true],[(.val .str ((val (AC Z aA aB aC aD O aG)).1),none)],[.cells sO ((val (AC Z aA aB aC aD O aG)).2.1,((val (AC Z aA aB aC aD O aG)).2.2.1,((val (AC Z aA aB aC aD O aG)).2.2.2,((aC.1,(aC.2.1,(aC.2.2.1,(aC.2.2.2.1,())))),((some 3),(aD.1,())))))) [(6,1),(8,2)],.grow 53 7 (aC.2.2.2.1.length),.grow 3 1 (aD.1.length),.map .str .bool aG]⟩
def aBK:List qC→List q9→Option qI:=rU (V:=(xT×(List s7)×Int×Int×sQ×(pM×Unit)×Nat×Nat×pK)) (fun x=>a4m x.1) (fun x=>a4n x.2.1 x.2.2.1 x.2.2.2.1 x.2.2.2.2.1 x.2.2.2.2.2.1 x.2.2.2.2.2.2.1 x.2.2.2.2.2.2.2.1 x.2.2.2.2.2.2.2.2) fun x=>a4o x.1 x.2.1 x.2.2.1 x.2.2.2.1 x.2.2.2.2.1 x.2.2.2.2.2.1 x.2.2.2.2.2.2.1 x.2.2.2.2.2.2.2.1 x.2.2.2.2.2.2.2.2
@[go_sem] def aLE:aBK (no_index (a4m O)) (no_index (a4n Z aA aB aC aD aE aF aG))=some (a4o O Z aA aB aC aD aE aF aG):=rY (fun⟨a0,a1,a2,a3,a4,a5,a6,a7,a8⟩ ⟨b0,b1,b2,b3,b4,b5,b6,b7,b8⟩ h1 h2=>by cases h1;cases h2;rfl) (O,Z,aA,aB,aC,aD,aE,aF,aG)
end
@[go_sem] abbrev JQ:Nat×r6:=(114,⟨[.p sO [6,8],.v],aBK,[(0,7,.m)],[1,2,3],none⟩)
def zQ:rN Tryz.prog [wO,sY,BQ,AQ,zN,y6] (rO [H6,a39,J9,PJ]):=⟨⟨xH,⟨tE,⟨FD,⟨CC,⟨E5,⟨z7,trivial⟩⟩⟩⟩⟩⟩,qO JC (qO aBD (qO LD (qO TX rR))),rP⟩
def M1:r9 Tryz.prog JQ:=by
 refine rZ zQ Tryz.func114 (c:=_) rfl (N:=44) pU (ts:=[(4,none)]) rfl (fun _ _=>rfl) ?_;intro⟨O,Z,aA,aB,aC,aD,aE,aF,aG⟩ hs hrow;dsimp only[a4m,a4n,a4o,rQ,qM,r5,rF,rT,Nat.reduceAdd] at hs hrow|-;obtain⟨rfl,rfl,hz⟩:=hs;obtain⟨z0,d⟩:=aLR.1 hz
 try rw[sC d]
 clear hz;unfold AC at d;refine qB zQ ?_;obtain⟨aH,hv1,hw1,d⟩:=qS d
 try simp only[go_sem] at hw1
 refine qB zQ ?_ (hp:=by exact⟨pT,pT,pT,pT,pT,(qR hv1)⟩) (h:=by simp only[go_sem,hw1];rfl)
 refine qT ?_;refine qB zQ ?_;refine qY d (fun d hc1=> ?_) (fun d hc1=> ?_)
 .refine qB zQ ?_;refine qV (s8 ?_);cases d;exact pF [(0,0),(1,1),(2,2),(3,3)]
 .refine rG (qQ ?_);refine qB zQ ?_;refine qT ?_;obtain⟨hg2,d⟩:=qJ d;refine qB zQ ?_ (hp:=by exact hg2);refine qY d (fun d hc2=> ?_) (fun d hc2=> ?_)
  .obtain⟨hg3,d⟩:=qJ d;obtain⟨aI,hv4,hw4,d⟩:=qS d
   try simp only[go_sem] at hw4
   refine qB zQ ?_ (hp:=by exact⟨hg3,(qR hv4)⟩) (h:=by simp only[go_sem,hw4];rfl);refine qT ?_;refine qB zQ ?_;obtain⟨y1,e,d⟩:=qK d;refine AO (fun s=>s=(fun x=>⟨[(0,(.val .ref (some (0,0)),none)),(3,(.val .ref (some (4,0)),none)),(6,(.val .str aI.1,none))],[(0,.cells sO (aH,(x.1,(x.2,((aC.1,(aC.2.1,(aC.2.2.1,(aC.2.2.2.1,())))),((some 3),(aD.1,())))))) [(6,1),(8,2)]),(1,.grow 53 7 (aC.2.2.2.1.length)),(2,.grow 3 1 (aD.1.length)),(3,.map .str .bool aG),(4,.cells wE O [])],5,44,4⟩) y1) ?_ ?_
   .refine qY e (fun e hc3=> ?_) (fun e hc3=> ?_)
    .obtain⟨aJ,hv5,hw5,e⟩:=qS e
     try simp only[go_sem] at hw5
     refine rL zQ ?_ (hp:=by exact⟨pT,pT,pT,pT,pT,(qR hv5)⟩) (h:=by simp only[go_sem,hw5];rfl)
     cases e;exact v7 ⟨⟨[0,3,6],[(0,0),(1,1),(2,2),(3,3),(4,4)]⟩,by rfl⟩
    .refine rG ?_;cases e;exact v7 ⟨⟨[0,3,6],[(0,0),(1,1),(2,2),(3,3),(4,4)]⟩,by rfl⟩
   .rintro _ rfl;obtain⟨aK,aL⟩:=y1;dsimp only at d|-;refine qQ ?_;refine qB zQ ?_;obtain⟨aM,hv6,hw6,d⟩:=qS d
    try simp only[go_sem] at hw6
    refine rL zQ ?_ (hp:=by exact⟨pT,pT,pT,pT,pT,(qR hv6)⟩) (h:=by simp only[go_sem,hw6];rfl)
    refine qQ ?_;obtain⟨aN,hv7,hw7,d⟩:=qS d
    try simp only[go_sem] at hw7
    refine qB zQ ?_ (hp:=by exact⟨pT,pT,pT,pT,pT,(qR hv7)⟩) (h:=by simp only[go_sem,hw7];rfl)
    refine qB zQ ?_;refine qV ?_;cases d;exact pF [(0,0),(1,1),(2,2),(3,3)]
  .refine rG (qQ ?_);obtain⟨aO,hv8,hw8,d⟩:=qS d
   try simp only[go_sem] at hw8
   refine qB zQ ?_ (hp:=by exact⟨pT,pT,pT,pT,pT,(qR hv8)⟩) (h:=by simp only[go_sem,hw8];rfl)
   refine qB zQ ?_;refine qV ?_;cases d;exact pF [(0,0),(1,1),(2,2),(3,3)]
def BW (O:(List s7)) (Z:Int) (aA:Int) (aB:sQ) (aC:(pM×Unit)) (aD:xT) (aE:rW) (aF:pK):Option ((List s7)×Int×Int×pE):=if ((vU aD ([]:pD) ([]:pD))).isSome=true then (vU aD ([]:pD) ([]:pD)).bind fun aG=>(wP O Z aA aB aC (!true) aD.2.2.2.1 (decide ((aE.2.2.2.1.length:Int)=(20:Int))) aF).bind fun aH=>(AC O aH.1 aH.2 (aB.1,(aB.2.1,(aB.2.2.1,(aB.2.2.2.1,())))) (aC.1,()) aD aF).bind fun aI=>if (aE.2.2.2.1.length+([aI.1]:pE).length)*16≤140737488355328 then some ((aI.2.1,aI.2.2.1,aI.2.2.2,(aE.2.2.2.1++([aI.1]:pE)))) else none else (CF aD ([]:pD) ([]:pD)).bind fun aJ=>(wP O Z aA aB aC (!false) aD.2.2.2.1 (decide ((aE.2.2.2.1.length:Int)=(20:Int))) aF).bind fun aK=>(AC O aK.1 aK.2 (aB.1,(aB.2.1,(aB.2.2.1,(aB.2.2.2.1,())))) (aC.1,()) aD aF).bind fun aL=>if (aE.2.2.2.1.length+([aL.1]:pE).length)*16≤140737488355328 then some ((aL.2.1,aL.2.2.1,aL.2.2.2,(aE.2.2.2.1++([aL.1]:pE)))) else none
section
variable (O:xT) (Z:(List s7)) (aA:Int) (aB:Int) (aC:sQ) (aD:(pM×Unit)) (aE:Nat) (aF:Nat) (aG:rW) (aH:Nat) (aI:pK)
abbrev a4p:List qC:=[(.val .ref (some (0,0)),none),(.val wE O,none),(.val .ref (some (3,0)),none)]
abbrev a4q:List q9:=[.cells sO (Z,(aA,(aB,(aC,((some 5),aD))))) [(6,1),(8,2)],.grow 53 7 aE,.grow 3 1 aF,.cells tC aG [(3,4)],.grow 9 1 aH,.map .str .bool aI]
@[go_sem] def a4r:qI:=⟨[aE=(aC.2.2.2.1.length),aF=(aD.1.length),aH=(aG.2.2.2.1.length),((BW Z aA aB aC aD O aG aI)).isSome=true],[],[.cells sO ((val (BW Z aA aB aC aD O aG aI)).1,((val (BW Z aA aB aC aD O aG aI)).2.1,((val (BW Z aA aB aC aD O aG aI)).2.2.1,((aC.1,(aC.2.1,(aC.2.2.1,(aC.2.2.2.1,())))),((some 5),(aD.1,())))))) [(6,1),(8,2)],.grow 53 7 (aC.2.2.2.1.length),.grow 3 1 (aD.1.length),.cells tC (aG.1,(aG.2.1,(aG.2.2.1,((val (BW Z aA aB aC aD O aG aI)).2.2.2,(aG.2.2.2.2.1,(aG.2.2.2.2.2.1,(aG.2.2.2.2.2.2.1,()))))))) [(3,4)],.grow 9 1 (((val (BW Z aA aB aC aD O aG aI)).2.2.2).length),.map .str .bool aI]⟩
def aBL:List qC→List q9→Option qI:=rU (V:=(xT×(List s7)×Int×Int×sQ×(pM×Unit)×Nat×Nat×rW×Nat×pK)) (fun x=>a4p x.1) (fun x=>a4q x.2.1 x.2.2.1 x.2.2.2.1 x.2.2.2.2.1 x.2.2.2.2.2.1 x.2.2.2.2.2.2.1 x.2.2.2.2.2.2.2.1 x.2.2.2.2.2.2.2.2.1 x.2.2.2.2.2.2.2.2.2.1 x.2.2.2.2.2.2.2.2.2.2) fun x=>a4r x.1 x.2.1 x.2.2.1 x.2.2.2.1 x.2.2.2.2.1 x.2.2.2.2.2.1 x.2.2.2.2.2.2.1 x.2.2.2.2.2.2.2.1 x.2.2.2.2.2.2.2.2.1 x.2.2.2.2.2.2.2.2.2.1 x.2.2.2.2.2.2.2.2.2.2
@[go_sem] def aLF:aBL (no_index (a4p O)) (no_index (a4q Z aA aB aC aD aE aF aG aH aI))=some (a4r O Z aA aB aC aD aE aF aG aH aI):=rY (fun⟨a0,a1,a2,a3,a4,a5,a6,a7,a8,a9,a10⟩ ⟨b0,b1,b2,b3,b4,b5,b6,b7,b8,b9,b10⟩ h1 h2=>by cases h1;cases h2;rfl) (O,Z,aA,aB,aC,aD,aE,aF,aG,aH,aI)
end
@[go_sem] abbrev PL:Nat×r6:=(83,⟨[.p sO [6,8],.v,.p tC [3]],aBL,[(0,7,.m)],[1,2,5],none⟩)
def JR:rN Tryz.prog [AA,xU,A9,y6] (rO [LP,D8,JQ]):=⟨⟨BU,⟨yI,⟨BS,⟨z7,trivial⟩⟩⟩⟩,qO PA (qO EC (qO M1 rR)),rP⟩
def aHS:rN Tryz.prog [AA,xU,A9,y6] (rO [D8,JQ,LR]):=⟨⟨BU,⟨yI,⟨BS,⟨z7,trivial⟩⟩⟩⟩,qO EC (qO M1 (qO PB rR)),rP⟩
def TY:r9 Tryz.prog PL:=by
 refine rZ JR Tryz.func83 (c:=_) rfl (N:=37) pU (ts:=[]) rfl (fun _ _=>rfl) ?_;intro⟨O,Z,aA,aB,aC,aD,aE,aF,aG,aH,aI⟩ hs hrow;dsimp only[a4p,a4q,a4r,rQ,qM,r5,rF,rT,Nat.reduceAdd] at hs hrow|-;obtain⟨rfl,rfl,rfl,hz⟩:=hs;obtain⟨z0,d⟩:=aLR.1 hz
 try rw[sC d]
 clear hz;unfold BW at d;refine qB JR ?_;refine qT ?_;by_cases hva1:((vU O ([]:pD) ([]:pD))).isSome=true
 .rw[aLQ hva1] at d;obtain⟨aJ,hv1,hw1,d⟩:=qS d
  try simp only[go_sem] at hw1
  refine rL JR ?_ (hp:=by exact(qR hv1)) (h:=by simp only[go_sem,hw1];rfl);refine qQ ?_;obtain⟨aK,hv2,hw2,d⟩:=qS d
  try simp only[go_sem] at hw2
  refine vZ JR ?_ (hp:=by exact⟨pT,pT,pT,pT,pT,(qR hv2)⟩) (h:=by simp only[go_sem,hw2];rfl)
  obtain⟨aL,hv3,hw3,d⟩:=qS d
  try simp only[go_sem] at hw3
  obtain⟨hg4,d⟩:=qJ d;refine BO JR ?_ (hp:=by exact⟨pT,pT,pT,pT,pT,qR hv3,pT,hg4⟩) (h:=by simp only[go_sem,hw3];rfl)
  cases d;exact pF [(0,0),(1,1),(2,2),(3,3),(4,4),(5,5)]
 rw[aLU hva1] at d;obtain⟨aM,hv5,hw5,d⟩:=qS d
 try simp only[go_sem] at hw5
 refine rL aHS ?_ (hp:=by exact(qR hv5)) (h:=by simp only[go_sem,hw5];rfl);refine qQ ?_;obtain⟨aN,hv6,hw6,d⟩:=qS d
 try simp only[go_sem] at hw6
 refine vZ JR ?_ (hp:=by exact⟨pT,pT,pT,pT,pT,(qR hv6)⟩) (h:=by simp only[go_sem,hw6];rfl)
 obtain⟨aO,hv7,hw7,d⟩:=qS d
 try simp only[go_sem] at hw7
 obtain⟨hg8,d⟩:=qJ d;refine BO JR ?_ (hp:=by exact⟨pT,pT,pT,pT,pT,qR hv7,pT,hg8⟩) (h:=by simp only[go_sem,hw7];rfl)
 cases d;exact pF [(0,0),(1,1),(2,2),(3,3),(4,4),(5,5)]
attribute [irreducible] AC BW
end
noncomputable section
def PM (O:xT):(Bool×Int)→Option ((Bool×Int)⊕Bool):=fun(Z,aA)=>if (decide (aA<(O.2.2.1.length:Int)))=true then if 0≤aA∧aA<(O.2.2.1.length:Int) then if ((Z==true)=true→((D9 ((qW (.pair .str (.pair .str .unit)) O.2.2.1 aA).2.1))).isSome=true) then if qE (aA+(1:Int)) then some (.inl ((Z&&(val (D9 ((qW (.pair .str (.pair .str .unit)) O.2.2.1 aA).2.1)))),(aA+(1:Int)))) else none else none else none else some (.inr Z)
def PN (O:xT):(Bool×Int)→Option ((Bool×Int)⊕Bool):=fun(Z,aA)=>if (decide (aA<(O.2.2.1.length:Int)))=true then if 0≤aA∧aA<(O.2.2.1.length:Int) then if ((Z==true)=true→((D9 ((qW (.pair .str (.pair .str .unit)) O.2.2.1 aA).2.1))).isSome=true) then if qE (aA+(1:Int)) then some (.inl ((Z&&(val (D9 ((qW (.pair .str (.pair .str .unit)) O.2.2.1 aA).2.1)))),(aA+(1:Int)))) else none else none else none else some (.inr Z)
def BX (O:(List s7)) (Z:Int) (aA:Int) (aB:sQ) (aC:(pM×Unit)) (aD:xT) (aE:rW) (aF:pK):Option ((List s7)×Int×Int×(List qZ)):=if ((vU aD ([110,97,109,101]:pD) ([]:pD))).isSome=true then (vU aD ([110,97,109,101]:pD) ([]:pD)).bind fun aG=>(FW aE.2.2.2.2.2.2.1 (rS .str .str aG ([110,97,109,101]:pD))).bind fun aH=>t8 (rX (PM aD) (true,(0:Int))) fun aI=>(wP O Z aA (aB.1,(aB.2.1,(aB.2.2.1,(aB.2.2.2.1,())))) (aC.1,()) ((!true)||(!aI)) (aD.2.2.2.1||aH.2) (decide ((aE.2.2.2.2.2.2.1.length:Int)=(20:Int))) aF).bind fun aJ=>(AC O aJ.1 aJ.2 (aB.1,(aB.2.1,(aB.2.2.1,(aB.2.2.2.1,())))) (aC.1,()) aD aF).bind fun aK=>(FU aE.2.2.2.2.2.2.1 (rS .str .str aG ([110,97,109,101]:pD)) aK.1).bind fun aL=>some ((aK.2.1,aK.2.2.1,aK.2.2.2,aL)) else (CF aD ([110,97,109,101]:pD) ([]:pD)).bind fun aM=>(FW aE.2.2.2.2.2.2.1 ([]:pD)).bind fun aN=>t8 (rX (PN aD) (true,(0:Int))) fun aO=>(wP O Z aA (aB.1,(aB.2.1,(aB.2.2.1,(aB.2.2.2.1,())))) (aC.1,()) ((!false)||(!aO)) (aD.2.2.2.1||aN.2) (decide ((aE.2.2.2.2.2.2.1.length:Int)=(20:Int))) aF).bind fun aP=>(AC O aP.1 aP.2 (aB.1,(aB.2.1,(aB.2.2.1,(aB.2.2.2.1,())))) (aC.1,()) aD aF).bind fun aQ=>(FU aE.2.2.2.2.2.2.1 ([]:pD) aQ.1).bind fun aR=>some ((aQ.2.1,aQ.2.2.1,aQ.2.2.2,aR))
section
variable (O:xT) (Z:(List s7)) (aA:Int) (aB:Int) (aC:sQ) (aD:(pM×Unit)) (aE:Nat) (aF:Nat) (aG:rW) (aH:Nat) (aI:pK)
abbrev a4s:List qC:=[(.val .ref (some (0,0)),none),(.val wE O,none),(.val .ref (some (3,0)),none)]
abbrev a4t:List q9:=[.cells sO (Z,(aA,(aB,(aC,((some 5),aD))))) [(6,1),(8,2)],.grow 53 7 aE,.grow 3 1 aF,.cells tC aG [(3,4)],.grow 9 1 aH,.map .str .bool aI]
@[go_sem] def a4u:qI:=⟨[aE=(aC.2.2.2.1.length),aF=(aD.1.length),aH=(aG.2.2.2.1.length),((BX Z aA aB aC aD O aG aI)).isSome=true],[],[.cells sO ((val (BX Z aA aB aC aD O aG aI)).1,((val (BX Z aA aB aC aD O aG aI)).2.1,((val (BX Z aA aB aC aD O aG aI)).2.2.1,((aC.1,(aC.2.1,(aC.2.2.1,(aC.2.2.2.1,())))),((some 5),(aD.1,())))))) [(6,1),(8,2)],.grow 53 7 (aC.2.2.2.1.length),.grow 3 1 (aD.1.length),.cells tC (aG.1,(aG.2.1,(aG.2.2.1,(aG.2.2.2.1,(aG.2.2.2.2.1,(aG.2.2.2.2.2.1,((val (BX Z aA aB aC aD O aG aI)).2.2.2,()))))))) [(3,4),(6,6)],.grow 9 1 (aG.2.2.2.1.length),.map .str .bool aI,.grow 111 2 (((val (BX Z aA aB aC aD O aG aI)).2.2.2).length)]⟩
def aBM:List qC→List q9→Option qI:=rU (V:=(xT×(List s7)×Int×Int×sQ×(pM×Unit)×Nat×Nat×rW×Nat×pK)) (fun x=>a4s x.1) (fun x=>a4t x.2.1 x.2.2.1 x.2.2.2.1 x.2.2.2.2.1 x.2.2.2.2.2.1 x.2.2.2.2.2.2.1 x.2.2.2.2.2.2.2.1 x.2.2.2.2.2.2.2.2.1 x.2.2.2.2.2.2.2.2.2.1 x.2.2.2.2.2.2.2.2.2.2) fun x=>a4u x.1 x.2.1 x.2.2.1 x.2.2.2.1 x.2.2.2.2.1 x.2.2.2.2.2.1 x.2.2.2.2.2.2.1 x.2.2.2.2.2.2.2.1 x.2.2.2.2.2.2.2.2.1 x.2.2.2.2.2.2.2.2.2.1 x.2.2.2.2.2.2.2.2.2.2
@[go_sem] def aLG:aBM (no_index (a4s O)) (no_index (a4t Z aA aB aC aD aE aF aG aH aI))=some (a4u O Z aA aB aC aD aE aF aG aH aI):=rY (fun⟨a0,a1,a2,a3,a4,a5,a6,a7,a8,a9,a10⟩ ⟨b0,b1,b2,b3,b4,b5,b6,b7,b8,b9,b10⟩ h1 h2=>by cases h1;cases h2;rfl) (O,Z,aA,aB,aC,aD,aE,aF,aG,aH,aI)
end
@[go_sem] abbrev PO:Nat×r6:=(84,⟨[.p sO [6,8],.v,.p tC [3]],aBM,[(0,7,.m)],[1,2,4,5],none⟩)
def xI:rN Tryz.prog [AA,sY,CD,A9,BT,y6,E8,AR] (rO [LP,a3G,TM,D8,JQ,a3q]):=⟨⟨BU,⟨tE,⟨E7,⟨BS,⟨D6,⟨z7,⟨H4,⟨CE,trivial⟩⟩⟩⟩⟩⟩⟩⟩,qO PA (qO aBm (qO a0Q (qO EC (qO M1 (qO aBe rR))))),rP⟩
def aHT:rN Tryz.prog [AA,sY,CD,A9,BT,y6,E8,AR] (rO [a3G,TM,D8,JQ,a3q,LR]):=⟨⟨BU,⟨tE,⟨E7,⟨BS,⟨D6,⟨z7,⟨H4,⟨CE,trivial⟩⟩⟩⟩⟩⟩⟩⟩,qO aBm (qO a0Q (qO EC (qO M1 (qO aBe (qO PB rR))))),rP⟩
def TZ:r9 Tryz.prog PO:=by
 refine rZ xI Tryz.func84 (c:=_) rfl (N:=74) pU (ts:=[]) rfl (fun _ _=>rfl) ?_;intro⟨O,Z,aA,aB,aC,aD,aE,aF,aG,aH,aI⟩ hs hrow;dsimp only[a4s,a4t,a4u,rQ,qM,r5,rF,rT,Nat.reduceAdd] at hs hrow|-;obtain⟨rfl,rfl,rfl,hz⟩:=hs;obtain⟨z0,d⟩:=aLR.1 hz
 try rw[sC d]
 clear hz;unfold BX at d;refine qB xI ?_;refine qT ?_;by_cases hva1:((vU O ([110,97,109,101]:pD) ([]:pD))).isSome=true
 .rw[aLQ hva1] at d;obtain⟨aJ,hv1,hw1,d⟩:=qS d
  try simp only[go_sem] at hw1
  refine rL xI ?_ (hp:=by exact(qR hv1)) (h:=by simp only[go_sem,hw1];rfl);refine qQ ?_;obtain⟨aK,hv2,hw2,d⟩:=qS d
  try simp only[go_sem] at hw2
  refine vZ xI ?_ (hp:=by exact(qR hv2)) (h:=by simp only[go_sem,hw2];rfl);refine qB xI ?_;refine qT ?_;refine qB xI ?_;refine s9 ?_;obtain⟨aL,hy1,d⟩:=qK d;refine v6 0 (fun s=>s=(fun x=>⟨[(0,(.val .ref (some (0,0)),none)),(2,(.val .ref (some (3,0)),none)),(4,(.val .ref (some (6,0)),none)),(6,(.val .mp (some 7),none)),(7,(.val .bool true,none)),(9,(.val .bool aK.2,none)),(10,(.val .bool x,none))],[(0,.cells sO (Z,(aA,(aB,((aC.1,(aC.2.1,(aC.2.2.1,(aC.2.2.2.1,())))),((some 5),(aD.1,())))))) [(6,1),(8,2)]),(1,.grow 53 7 (aC.2.2.2.1.length)),(2,.grow 3 1 (aD.1.length)),(3,.cells tC aG [(3,4)]),(4,.grow 9 1 (aG.2.2.2.1.length)),(5,.map .str .bool aI),(6,.cells wE O []),(7,.map .str .str aJ)],8,74,6⟩) aL) ?_ ?_
  .refine uS hy1 (fun x=>⟨[(0,(.val .ref (some (0,0)),none)),(2,(.val .ref (some (3,0)),none)),(4,(.val .ref (some (6,0)),none)),(6,(.val .mp (some 7),none)),(7,(.val .bool true,none)),(9,(.val .bool aK.2,none)),(10,(.val .bool x.1,none)),(29,(.val (.list (.pair .str (.pair .str .unit))) O.2.2.1,none)),(30,(.val (.int .i64) (O.2.2.1.length:Int),none)),(31,(.val (.int .i64) x.2,none))],[(0,.cells sO (Z,(aA,(aB,((aC.1,(aC.2.1,(aC.2.2.1,(aC.2.2.2.1,())))),((some 5),(aD.1,())))))) [(6,1),(8,2)]),(1,.grow 53 7 (aC.2.2.2.1.length)),(2,.grow 3 1 (aD.1.length)),(3,.cells tC aG [(3,4)]),(4,.grow 9 1 (aG.2.2.2.1.length)),(5,.map .str .bool aI),(6,.cells wE O []),(7,.map .str .str aJ)],8,74,6⟩) ⟨[0,2,4,6,7,9,10,29,30,31],[(0,0),(1,1),(2,2),(3,3),(4,4),(5,5),(6,6),(7,70)]⟩ pV ?_;intro x1 w1 n1 e g;obtain⟨aM,aN⟩:=x1;unfold PM at e;dsimp only at e|-;refine qB xI ?_;refine qT ?_;refine qY e (fun e hc2=> ?_) (fun e hc2=> ?_)
   .refine rG (qQ (qT (s9 ?_)));obtain⟨hg3,e⟩:=qJ e;refine qB xI ?_ (hp:=by exact hg3);obtain⟨hg4,e⟩:=qJ e;refine rL xI ?_ (hp:=by exact⟨id,id,hg4,sZ⟩);refine rV (qQ ?_);obtain⟨hg5,e⟩:=qJ e;refine rL xI ?_ (hp:=by exact hg5);cases e;exact tQ ⟨⟨[0,2,4,6,7,9,10,29,30,31],[(0,0),(1,1),(2,2),(3,3),(4,4),(5,5),(6,6),(7,7)]⟩,_,by rfl,g⟩
   .refine uO (uN (uQ ?_));cases e;cases g;exact uP ⟨⟨[0,2,4,6,7,9,10],[(0,0),(1,1),(2,2),(3,3),(4,4),(5,5),(6,6),(7,7)]⟩,by rfl⟩
  .rintro _ rfl;dsimp only at d|-;refine uY (qQ ?_);obtain⟨aO,hv6,hw6,d⟩:=qS d
   try simp only[go_sem] at hw6
   refine vZ xI ?_ (hp:=by exact⟨id,fun f=>by first|exact tK f|exact rfl|exact f.elim|simp_all,tK,pT,pT,pT,pT,pT,(qR hv6)⟩) (h:=by simp only[go_sem,hw6];rfl)
   obtain⟨aP,hv7,hw7,d⟩:=qS d
   try simp only[go_sem] at hw7
   obtain⟨aQ,hv8,hw8,d⟩:=qS d
   try simp only[go_sem] at hw8
   refine BO xI ?_ (hp:=by exact⟨pT,pT,pT,pT,pT,qR hv7,(qR hv8)⟩) (h:=by simp only[go_sem,hw7,hw8];rfl)
   cases d;exact pF [(0,0),(1,1),(2,2),(3,3),(4,4),(5,5),(6,936)]
 rw[aLU hva1] at d;obtain⟨aR,hv9,hw9,d⟩:=qS d
 try simp only[go_sem] at hw9
 refine rL aHT ?_ (hp:=by exact(qR hv9)) (h:=by simp only[go_sem,hw9];rfl);refine qQ ?_;obtain⟨aS,hv10,hw10,d⟩:=qS d
 try simp only[go_sem] at hw10
 refine vZ xI ?_ (hp:=by exact(qR hv10)) (h:=by simp only[go_sem,hw10];rfl);refine qB xI ?_;refine qT ?_;refine qB xI ?_;refine s9 ?_;obtain⟨aT,hy1,d⟩:=qK d;refine v6 0 (fun s=>s=(fun x=>⟨[(0,(.val .ref (some (0,0)),none)),(2,(.val .ref (some (3,0)),none)),(4,(.val .ref (some (6,0)),none)),(6,(.val .mp none,none)),(7,(.val .bool false,none)),(9,(.val .bool aS.2,none)),(10,(.val .bool x,none))],[(0,.cells sO (Z,(aA,(aB,((aC.1,(aC.2.1,(aC.2.2.1,(aC.2.2.2.1,())))),((some 5),(aD.1,())))))) [(6,1),(8,2)]),(1,.grow 53 7 (aC.2.2.2.1.length)),(2,.grow 3 1 (aD.1.length)),(3,.cells tC aG [(3,4)]),(4,.grow 9 1 (aG.2.2.2.1.length)),(5,.map .str .bool aI),(6,.cells wE O [])],7,74,6⟩) aT) ?_ ?_
 .refine uS hy1 (fun x=>⟨[(0,(.val .ref (some (0,0)),none)),(2,(.val .ref (some (3,0)),none)),(4,(.val .ref (some (6,0)),none)),(6,(.val .mp none,none)),(7,(.val .bool false,none)),(9,(.val .bool aS.2,none)),(10,(.val .bool x.1,none)),(29,(.val (.list (.pair .str (.pair .str .unit))) O.2.2.1,none)),(30,(.val (.int .i64) (O.2.2.1.length:Int),none)),(31,(.val (.int .i64) x.2,none))],[(0,.cells sO (Z,(aA,(aB,((aC.1,(aC.2.1,(aC.2.2.1,(aC.2.2.2.1,())))),((some 5),(aD.1,())))))) [(6,1),(8,2)]),(1,.grow 53 7 (aC.2.2.2.1.length)),(2,.grow 3 1 (aD.1.length)),(3,.cells tC aG [(3,4)]),(4,.grow 9 1 (aG.2.2.2.1.length)),(5,.map .str .bool aI),(6,.cells wE O [])],7,74,6⟩) ⟨[0,2,4,6,7,9,10,29,30,31],[(0,0),(1,1),(2,2),(3,3),(4,4),(5,5),(6,6)]⟩ pV ?_;intro x1 w1 n1 e g;obtain⟨aU,aV⟩:=x1;unfold PN at e;dsimp only at e|-;refine qB xI ?_;refine qT ?_;refine qY e (fun e hc3=> ?_) (fun e hc3=> ?_)
  .refine rG (qQ (qT (s9 ?_)));obtain⟨hg11,e⟩:=qJ e;refine qB xI ?_ (hp:=by exact hg11);obtain⟨hg12,e⟩:=qJ e;refine rL xI ?_ (hp:=by exact⟨id,id,hg12,sZ⟩);refine rV (qQ ?_);obtain⟨hg13,e⟩:=qJ e;refine rL xI ?_ (hp:=by exact hg13);cases e;exact tQ ⟨⟨[0,2,4,6,7,9,10,29,30,31],[(0,0),(1,1),(2,2),(3,3),(4,4),(5,5),(6,6)]⟩,_,by rfl,g⟩
  .refine uO (uN (uQ ?_));cases e;cases g;exact uP ⟨⟨[0,2,4,6,7,9,10],[(0,0),(1,1),(2,2),(3,3),(4,4),(5,5),(6,6)]⟩,by rfl⟩
 .rintro _ rfl;dsimp only at d|-;refine uY (qQ ?_);obtain⟨aW,hv14,hw14,d⟩:=qS d
  try simp only[go_sem] at hw14
  refine vZ xI ?_ (hp:=by exact⟨id,fun f=>by first|exact tK f|exact rfl|exact f.elim|simp_all,tK,pT,pT,pT,pT,pT,(qR hv14)⟩) (h:=by simp only[go_sem,hw14];rfl)
  obtain⟨aX,hv15,hw15,d⟩:=qS d
  try simp only[go_sem] at hw15
  obtain⟨aY,hv16,hw16,d⟩:=qS d
  try simp only[go_sem] at hw16
  refine BO xI ?_ (hp:=by exact⟨pT,pT,pT,pT,pT,qR hv15,(qR hv16)⟩) (h:=by simp only[go_sem,hw15,hw16];rfl)
  cases d;exact pF [(0,0),(1,1),(2,2),(3,3),(4,4),(5,5),(6,935)]
attribute [irreducible] BX
end
noncomputable section
def zB (O:sQ) (Z:(pM×Unit)) (aA:rW) (aB:pK):((List s7)×Int×Int×pD×pD×pE×(List qZ)×pK)→Option (((List s7)×Int×Int×pD×pD×pE×(List qZ)×pK)⊕(Int×(List s7)×Int×Int×pD×pD×pE×(List qZ))):=fun(aC,aD,aE,aF,aG,aH,aI,aJ)=>(zA aC aD aE (O.1,(O.2.1,(O.2.2.1,(O.2.2.2.1,())))) (Z.1,()) aB).bind fun aK=>(zP aK aD aE (O.1,(O.2.1,(O.2.2.1,(O.2.2.2.1,())))) (Z.1,()) aB).bind fun aL=>if ((decide (aL.1=(3:Int)))||(decide (aL.1=(0:Int))))=true then (AB aK aD aE (O.1,(O.2.1,(O.2.2.1,(O.2.2.2.1,())))) (Z.1,()) ([101,110,116,114,121]:pD) aB).bind fun aM=>some (.inr ((((qW sN aK (0:Int)).2.2.1+(((qW sN aK (0:Int)).2.1).length:Int)),aM.1,aM.2.1,aM.2.2,aF,aG,aH,aI))) else if (decide (aL.2.1=([99,111,109,109,101,110,116]:pD)))=true then (BW aK aD aE (O.1,(O.2.1,(O.2.2.1,(O.2.2.2.1,())))) (Z.1,()) (aL.1,(aL.2.1,(aL.2.2.1,(aL.2.2.2,())))) (aA.1,(aF,(aG,(aH,(aA.2.2.2.2.1,(aA.2.2.2.2.2.1,(aI,()))))))) aB).bind fun aN=>some (.inl (aN.1,aN.2.1,aN.2.2.1,aF,aG,aN.2.2.2,aI,aJ)) else if (decide (aL.2.1=([102,105,101,108,100]:pD)))=true then (BX aK aD aE (O.1,(O.2.1,(O.2.2.1,(O.2.2.2.1,())))) (Z.1,()) (aL.1,(aL.2.1,(aL.2.2.1,(aL.2.2.2,())))) (aA.1,(aF,(aG,(aH,(aA.2.2.2.2.1,(aA.2.2.2.2.2.1,(aI,()))))))) aB).bind fun aO=>some (.inl (aO.1,aO.2.1,aO.2.2.1,aF,aG,aH,aO.2.2.2,aJ)) else t8 (σ:=Bool) (if (decide (aL.2.1=([115,111,117,114,99,101]:pD)))=true then some ((decide (aL.2.1=([115,111,117,114,99,101]:pD)))) else some ((decide (aL.2.1=([116,97,114,103,101,116]:pD)))) ) fun aP=>if aP=true then if ((vU (aL.1,(aL.2.1,(aL.2.2.1,(aL.2.2.2,())))) ([]:pD) ([]:pD))).isSome=true then (vU (aL.1,(aL.2.1,(aL.2.2.1,(aL.2.2.2,())))) ([]:pD) ([]:pD)).bind fun aQ=>(wP aK aD aE (O.1,(O.2.1,(O.2.2.1,(O.2.2.2.1,())))) (Z.1,()) (!true) (aL.2.2.2||(rS .str .bool aJ aL.2.1)) false aB).bind fun aR=>(AC aK aR.1 aR.2 (O.1,(O.2.1,(O.2.2.1,(O.2.2.2.1,())))) (Z.1,()) (aL.1,(aL.2.1,(aL.2.2.1,(aL.2.2.2,())))) aB).bind fun aS=>if (decide (aL.2.1=([115,111,117,114,99,101]:pD)))=true then some (.inl (aS.2.1,aS.2.2.1,aS.2.2.2,aS.1,aG,aH,aI,(tO .str .bool aL.2.1 true aJ))) else some (.inl (aS.2.1,aS.2.2.1,aS.2.2.2,aF,aS.1,aH,aI,(tO .str .bool aL.2.1 true aJ))) else (CF (aL.1,(aL.2.1,(aL.2.2.1,(aL.2.2.2,())))) ([]:pD) ([]:pD)).bind fun aT=>(wP aK aD aE (O.1,(O.2.1,(O.2.2.1,(O.2.2.2.1,())))) (Z.1,()) (!false) (aL.2.2.2||(rS .str .bool aJ aL.2.1)) false aB).bind fun aU=>(AC aK aU.1 aU.2 (O.1,(O.2.1,(O.2.2.1,(O.2.2.2.1,())))) (Z.1,()) (aL.1,(aL.2.1,(aL.2.2.1,(aL.2.2.2,())))) aB).bind fun aV=>if (decide (aL.2.1=([115,111,117,114,99,101]:pD)))=true then some (.inl (aV.2.1,aV.2.2.1,aV.2.2.2,aV.1,aG,aH,aI,(tO .str .bool aL.2.1 true aJ))) else some (.inl (aV.2.1,aV.2.2.1,aV.2.2.2,aF,aV.1,aH,aI,(tO .str .bool aL.2.1 true aJ))) else (yJ aK aD aE (O.1,(O.2.1,(O.2.2.1,(O.2.2.2.1,())))) (Z.1,()) (3:Int) aB).bind fun aW=>some (.inl (aK,aW.1,aW.2,aF,aG,aH,aI,aJ))
def y7 (O:(List s7)) (Z:Int) (aA:Int) (aB:sQ) (aC:(pM×Unit)) (aD:rW) (aE:pK):Option (Int×(List s7)×Int×Int×pD×pD×pE×(List qZ)):=rX (zB aB aC aD aE) (O,Z,aA,aD.2.1,aD.2.2.1,aD.2.2.2.1,aD.2.2.2.2.2.2.1,([]:pK))
section
variable (O:(List s7)) (Z:Int) (aA:Int) (aB:sQ) (aC:(pM×Unit)) (aD:Nat) (aE:Nat) (aF:rW) (aG:Nat) (aH:pK)
abbrev a4v:List qC:=[(.val .ref (some (0,0)),none),(.val .ref (some (3,0)),none)]
abbrev a4w:List q9:=[.cells sO (O,(Z,(aA,(aB,((some 5),aC))))) [(6,1),(8,2)],.grow 53 7 aD,.grow 3 1 aE,.cells tC aF [(3,4)],.grow 9 1 aG,.map .str .bool aH]
@[go_sem] def a4x:qI:=⟨[aD=(aB.2.2.2.1.length),aE=(aC.1.length),aG=(aF.2.2.2.1.length),((y7 O Z aA aB aC aF aH)).isSome=true],[(.val (.int .i64) ((val (y7 O Z aA aB aC aF aH)).1),none)],[.cells sO ((val (y7 O Z aA aB aC aF aH)).2.1,((val (y7 O Z aA aB aC aF aH)).2.2.1,((val (y7 O Z aA aB aC aF aH)).2.2.2.1,((aB.1,(aB.2.1,(aB.2.2.1,(aB.2.2.2.1,())))),((some 5),(aC.1,())))))) [(6,1),(8,2)],.grow 53 7 (aB.2.2.2.1.length),.grow 3 1 (aC.1.length),.cells tC (aF.1,((val (y7 O Z aA aB aC aF aH)).2.2.2.2.1,((val (y7 O Z aA aB aC aF aH)).2.2.2.2.2.1,((val (y7 O Z aA aB aC aF aH)).2.2.2.2.2.2.1,(aF.2.2.2.2.1,(aF.2.2.2.2.2.1,((val (y7 O Z aA aB aC aF aH)).2.2.2.2.2.2.2,()))))))) [(3,4)],.grow 9 1 (((val (y7 O Z aA aB aC aF aH)).2.2.2.2.2.2.1).length),.map .str .bool aH]⟩
def aBN:List qC→List q9→Option qI:=rU (V:=((List s7)×Int×Int×sQ×(pM×Unit)×Nat×Nat×rW×Nat×pK)) (fun x=>a4v) (fun x=>a4w x.1 x.2.1 x.2.2.1 x.2.2.2.1 x.2.2.2.2.1 x.2.2.2.2.2.1 x.2.2.2.2.2.2.1 x.2.2.2.2.2.2.2.1 x.2.2.2.2.2.2.2.2.1 x.2.2.2.2.2.2.2.2.2) fun x=>a4x x.1 x.2.1 x.2.2.1 x.2.2.2.1 x.2.2.2.2.1 x.2.2.2.2.2.1 x.2.2.2.2.2.2.1 x.2.2.2.2.2.2.2.1 x.2.2.2.2.2.2.2.2.1 x.2.2.2.2.2.2.2.2.2
@[go_sem] def aLH:aBN (no_index a4v) (no_index (a4w O Z aA aB aC aD aE aF aG aH))=some (a4x O Z aA aB aC aD aE aF aG aH):=rY (fun⟨a0,a1,a2,a3,a4,a5,a6,a7,a8,a9⟩ ⟨b0,b1,b2,b3,b4,b5,b6,b7,b8,b9⟩ h1 h2=>by cases h1;cases h2;rfl) (O,Z,aA,aB,aC,aD,aE,aF,aG,aH)
end
@[go_sem] abbrev a4y:Nat×r6:=(93,⟨[.p sO [6,8],.p tC [3]],aBN,[(0,7,.m)],[1,2,5],none⟩)
def vP:rN Tryz.prog [wO,AA,sY,A9,J8,y6] (rO [LT,FY,PJ,PL,PO,LP,D8,JQ,J9]):=⟨⟨xH,⟨BU,⟨tE,⟨BS,⟨OS,⟨z7,trivial⟩⟩⟩⟩⟩⟩,qO PE (qO HG (qO TX (qO TY (qO TZ (qO PA (qO EC (qO M1 (qO LD rR)))))))),rP⟩
def aHU:rN Tryz.prog [wO,AA,sY,A9,J8,y6] (rO [LT,FY,PJ,PL,PO,D8,JQ,LR,J9]):=⟨⟨xH,⟨BU,⟨tE,⟨BS,⟨OS,⟨z7,trivial⟩⟩⟩⟩⟩⟩,qO PE (qO HG (qO TX (qO TY (qO TZ (qO EC (qO M1 (qO PB (qO LD rR)))))))),rP⟩
def aBO:r9 Tryz.prog a4y:=by
 refine rZ vP Tryz.func93 (c:=_) rfl (N:=78) pU (ts:=[(4,none)]) rfl (fun _ _=>rfl) ?_;intro⟨O,Z,aA,aB,aC,aD,aE,aF,aG,aH⟩ hs hrow;dsimp only[a4v,a4w,a4x,rQ,qM,r5,rF,rT,Nat.reduceAdd] at hs hrow|-;obtain⟨rfl,rfl,rfl,hz⟩:=hs;obtain⟨z0,g⟩:=aLR.1 hz
 try rw[sC g]
 clear hz;unfold y7 at g;refine qB vP ?_;refine qB vP ?_;refine s9 ?_;have hy1:=g;refine uS hy1 (fun x=>⟨[(0,(.val .ref (some (0,0)),none)),(1,(.val .ref (some (3,0)),none)),(5,(.val .mp (some 6),none))],[(0,.cells sO (x.1,(x.2.1,(x.2.2.1,((aB.1,(aB.2.1,(aB.2.2.1,(aB.2.2.2.1,())))),((some 5),(aC.1,())))))) [(6,1),(8,2)]),(1,.grow 53 7 (aB.2.2.2.1.length)),(2,.grow 3 1 (aC.1.length)),(3,.cells tC (aF.1,(x.2.2.2.1,(x.2.2.2.2.1,(x.2.2.2.2.2.1,(aF.2.2.2.2.1,(aF.2.2.2.2.2.1,(x.2.2.2.2.2.2.1,()))))))) [(3,4)]),(4,.grow 9 1 (x.2.2.2.2.2.1.length)),(5,.map .str .bool aH),(6,.map .str .bool x.2.2.2.2.2.2.2)],7,78,6⟩) ⟨[0,1,5],[(0,0),(1,1),(2,2),(3,3),(4,4),(5,5),(6,38)]⟩ pV ?_;intro x1 w1 n1 d f;obtain⟨aI,aJ,aK,aL,aM,aN,aO,aP⟩:=x1;unfold zB at d;dsimp only at d|-;refine s9 ?_;obtain⟨aQ,hv1,hw1,d⟩:=qS d
 try simp only[go_sem] at hw1
 refine qB vP ?_ (hp:=by exact⟨pT,pT,pT,pT,pT,(qR hv1)⟩) (h:=by simp only[go_sem,hw1];rfl)
 obtain⟨aR,hv2,hw2,d⟩:=qS d
 try simp only[go_sem] at hw2
 refine qB vP ?_ (hp:=by exact⟨pT,pT,pT,pT,pT,pT,(qR hv2)⟩) (h:=by simp only[go_sem,hw2];rfl)
 refine qT ?_;refine qB vP ?_ (hp:=by exact⟨id,id,tK⟩);refine qY d (fun d hc1=> ?_) (fun d hc1=> ?_)
 .obtain⟨aS,hv3,hw3,d⟩:=qS d
  try simp only[go_sem] at hw3
  refine qB vP ?_ (hp:=by exact⟨pT,pT,pT,pT,pT,(qR hv3)⟩) (h:=by simp only[go_sem,hw3];rfl)
  refine qV (s8 (sE (wA (sE ?_))));cases d;have g:=aL9 some (show _=_ from f);cases g;exact pF [(0,0),(1,1),(2,2),(3,3),(4,4),(5,5)]
 .refine rG (qQ ?_);refine qB vP ?_;refine s9 ?_;refine qB vP ?_;refine qY d (fun d hc2=> ?_) (fun d hc2=> ?_)
  .obtain⟨aT,hv4,hw4,d⟩:=qS d
   try simp only[go_sem] at hw4
   refine rL vP ?_ (hp:=by exact⟨pT,pT,pT,pT,pT,pT,(qR hv4)⟩) (h:=by simp only[go_sem,hw4];rfl)
   refine rV (rV ?_);cases d;exact tQ ⟨⟨[0,1,5],[(0,0),(1,1),(2,2),(3,3),(4,4),(5,5),(6,6)]⟩,_,by rfl,f⟩
  .refine qB vP ?_;refine qY d (fun d hc3=> ?_) (fun d hc3=> ?_)
   .obtain⟨aU,hv5,hw5,d⟩:=qS d
    try simp only[go_sem] at hw5
    refine rL vP ?_ (hp:=by exact⟨pT,pT,pT,pT,pT,pT,pT,(qR hv5)⟩) (h:=by simp only[go_sem,hw5];rfl)
    refine rV (rV ?_);cases d;exact tQ ⟨⟨[0,1,5],[(0,0),(1,1),(2,2),(3,3),(4,4),(5,5),(6,6)]⟩,_,by rfl,f⟩
   .refine qT ?_;refine qB vP ?_;obtain⟨aV,i,d⟩:=qK d;refine AO (fun s=>s=(fun x=>⟨[(0,(.val .ref (some (0,0)),none)),(1,(.val .ref (some (3,0)),none)),(5,(.val .mp (some 6),none)),(6,(.val .ref (some (7,0)),none)),(41,(.val .bool x,none))],[(0,.cells sO (aQ,(aJ,(aK,((aB.1,(aB.2.1,(aB.2.2.1,(aB.2.2.2.1,())))),((some 5),(aC.1,())))))) [(6,1),(8,2)]),(1,.grow 53 7 (aB.2.2.2.1.length)),(2,.grow 3 1 (aC.1.length)),(3,.cells tC (aF.1,(aL,(aM,(aN,(aF.2.2.2.2.1,(aF.2.2.2.2.2.1,(aO,()))))))) [(3,4)]),(4,.grow 9 1 (aN.length)),(5,.map .str .bool aH),(6,.map .str .bool aP),(7,.cells wE (aR.1,(aR.2.1,(aR.2.2.1,(aR.2.2.2,())))) [])],8,78,6⟩) aV) ?_ ?_
    .refine qY i (fun i hc4=> ?_) (fun i hc4=> ?_)
     .refine rG ?_;cases i;exact v7 ⟨⟨[0,1,5,6,41],[(0,0),(1,1),(2,2),(3,3),(4,4),(5,5),(6,6),(7,135)]⟩,by rfl⟩
     .refine rL vP ?_;cases i;exact v7 ⟨⟨[0,1,5,6,41],[(0,0),(1,1),(2,2),(3,3),(4,4),(5,5),(6,6),(7,135)]⟩,by rfl⟩
    .rintro _ rfl;dsimp only at d|-;refine qQ ?_;refine qY d (fun d hc5=> ?_) (fun d hc5=> ?_)
     .refine qT ?_;by_cases hva6:((vU (aR.1,(aR.2.1,(aR.2.2.1,(aR.2.2.2,())))) ([]:pD) ([]:pD))).isSome=true
      .rw[aLQ hva6] at d;obtain⟨aW,hv6,hw6,d⟩:=qS d
       try simp only[go_sem] at hw6
       refine rL vP ?_ (hp:=by exact(qR hv6)) (h:=by simp only[go_sem,hw6];rfl);refine qQ ?_;obtain⟨aX,hv7,hw7,d⟩:=qS d
       try simp only[go_sem] at hw7
       refine qB vP ?_ (hp:=by exact⟨id,id,id,tK,pT,pT,pT,pT,pT,(qR hv7)⟩) (h:=by simp only[go_sem,hw7];rfl)
       refine qB vP ?_;obtain⟨aY,hv8,hw8,d⟩:=qS d
       try simp only[go_sem] at hw8
       refine qB vP ?_ (hp:=by exact⟨pT,pT,pT,pT,pT,(qR hv8)⟩) (h:=by simp only[go_sem,hw8];rfl)
       refine qB vP ?_;refine qY d (fun d hc7=> ?_) (fun d hc7=> ?_)
       .refine rL vP ?_;refine rV (rV ?_);cases d;exact tQ ⟨⟨[0,1,5],[(0,0),(1,1),(2,2),(3,3),(4,4),(5,5),(6,6)]⟩,_,by rfl,f⟩
       .refine rL vP ?_;refine rV (rV ?_);cases d;exact tQ ⟨⟨[0,1,5],[(0,0),(1,1),(2,2),(3,3),(4,4),(5,5),(6,6)]⟩,_,by rfl,f⟩
      rw[aLU hva6] at d;obtain⟨aZ,hv9,hw9,d⟩:=qS d
      try simp only[go_sem] at hw9
      refine rL aHU ?_ (hp:=by exact(qR hv9)) (h:=by simp only[go_sem,hw9];rfl);refine qQ ?_;obtain⟨bA,hv10,hw10,d⟩:=qS d
      try simp only[go_sem] at hw10
      refine qB vP ?_ (hp:=by exact⟨id,id,id,tK,pT,pT,pT,pT,pT,(qR hv10)⟩) (h:=by simp only[go_sem,hw10];rfl)
      refine qB vP ?_;obtain⟨bB,hv11,hw11,d⟩:=qS d
      try simp only[go_sem] at hw11
      refine qB vP ?_ (hp:=by exact⟨pT,pT,pT,pT,pT,(qR hv11)⟩) (h:=by simp only[go_sem,hw11];rfl)
      refine qB vP ?_;refine qY d (fun d hc8=> ?_) (fun d hc8=> ?_)
      .refine rL vP ?_;refine rV (rV ?_);cases d;exact tQ ⟨⟨[0,1,5],[(0,0),(1,1),(2,2),(3,3),(4,4),(5,5),(6,6)]⟩,_,by rfl,f⟩
      .refine rL vP ?_;refine rV (rV ?_);cases d;exact tQ ⟨⟨[0,1,5],[(0,0),(1,1),(2,2),(3,3),(4,4),(5,5),(6,6)]⟩,_,by rfl,f⟩
     .obtain⟨bC,hv12,hw12,d⟩:=qS d
      try simp only[go_sem] at hw12
      refine rL vP ?_ (hp:=by exact⟨pT,pT,pT,pT,pT,(qR hv12)⟩) (h:=by simp only[go_sem,hw12];rfl)
      refine rV (rV ?_);cases d;exact tQ ⟨⟨[0,1,5],[(0,0),(1,1),(2,2),(3,3),(4,4),(5,5),(6,6)]⟩,_,by rfl,f⟩
attribute [irreducible] y7
end
end Go.Proofs.YtkpflnijijccpaaGreatDoor
namespace Go.Proofs.YtkpflnijijccpaaGreatDoor.Vc
open Go.RowKit
section
variable {R:Bool}{P:Program}{T:sM}{Γ:tX}(E:rN P T Γ) {s:St}{Q:Ex->St->Prop}
include E
theorem aHV (i0 j0:Nat) {id:Nat}{ops:Array Oper}{a a1:vG}{o1:Oper}{ex fx:qH}(h:uI T Γ ops.toList ops.toList (some ⟨s,[],[]⟩)=some a) (hf:KI i0 j0 ops s.nb a.es.reverse=true) (hp:rF a.side) (hij0:i0<j0) (hex:a.es.reverse[i0]? =some ex) (hup:ex.upd=[]) (hfx:a.es.reverse[j0]? =some fx) (ho1:ops.toList[i0]? =some o1) (ha1:uI T Γ ops.toList (ops.toList.take i0) (some ⟨s,[],[]⟩)=some a1) (hx1:y3 T Γ ops.toList o1 ⟨a1.s.env,qP (wK fx) a1.s.H,a1.s.nb,a1.s.N,a1.s.np⟩=some ex) (hq:Q .normal a.s):Ev R P (.region id ops true) s Q:=
 fun ro hro A L g0 w0 g w' w B hB hr hg hn=>a8v E.T E.Γ E.m h hf (fun _=>⟨hij0,_,_,_,_,hex,hup,hfx,ho1,ha1,hx1⟩) (ST hp) hr hg hn.symm (fun g' a' w' hr' hg'=>⟨.normal,g',a.s,rfl,hq,hr',hg',(E2 h).2.2.trans hn⟩)
theorem U0 (i0 j0:Nat) {id:Nat}{ops:Array Oper}{a a1:vG}{o1:Oper}{ex fx:qH}{y:Code}(hq:Ev R P y a.s Q) (h:uI T Γ ops.toList ops.toList (some ⟨s,[],[]⟩)=some a:=by simp only[go_sem];rfl) (hp:rF a.side:=by exact trivial) (hf:KI i0 j0 ops s.nb a.es.reverse=true:=by kernel_rfl) (hij0:i0<j0:=by decide) (hex:a.es.reverse[i0]? =some ex:=by rfl) (hup:ex.upd=[]:=by rfl) (hfx:a.es.reverse[j0]? =some fx:=by rfl) (ho1:ops.toList[i0]? =some o1:=by rfl) (ha1:uI T Γ ops.toList (ops.toList.take i0) (some ⟨s,[],[]⟩)=some a1:=by simp only[go_sem,List.take_succ_cons,List.take_zero];rfl) (hx1:y3 T Γ ops.toList o1 ⟨a1.s.env,qP (wK fx) a1.s.H,a1.s.nb,a1.s.N,a1.s.np⟩=some ex:=by simp only[go_sem];rfl):Ev R P (.seq (.region id ops true) y) s Q:=
 qT (aHV E i0 j0 h hf hp hij0 hex hup hfx ho1 ha1 hx1 hq)
end
end Go.Proofs.YtkpflnijijccpaaGreatDoor.Vc
namespace Go.Proofs.YtkpflnijijccpaaGreatDoor
open Vc
noncomputable section
def PP (O:(Int×pD×(List qZ)×Bool)):(Bool×Int)→Option ((Bool×Int)⊕Bool):=fun(Z,aA)=>if (decide (aA<(O.2.2.1.length:Int)))=true then if 0≤aA∧aA<(O.2.2.1.length:Int) then if ((Z==true)=true→((EB ((qW (.pair .str (.pair .str .unit)) O.2.2.1 aA).2.1))).isSome=true) then if qE (aA+(1:Int)) then some (.inl ((Z&&(val (EB ((qW (.pair .str (.pair .str .unit)) O.2.2.1 aA).2.1)))),(aA+(1:Int)))) else none else none else none else some (.inr Z)
def BY (O:sQ) (Z:(pM×Unit)) (aA:pK) (aB:(List (pD×pD))):((List s7)×Int×Int×Int×pD×(List qZ)×Bool×pE×(List qZ))→Option (((List s7)×Int×Int×Int×pD×(List qZ)×Bool×pE×(List qZ))⊕(((List s7)×Int×Int)⊕((List s7)×Int×Int×pD×pE×(List qZ)×pM))):=fun(aC,aD,aE,aF,aG,aH,aI,aJ,aK)=>if (decide (aE=(0:Int)))=true then (zA aC aD aE ((rS .str .str aB ([116,97,103]:pD)),(O.2.1,(O.2.2.1,(O.2.2.2.1,())))) (Z.1,()) aA).bind fun aL=>(zP aL aD aE ((rS .str .str aB ([116,97,103]:pD)),(O.2.1,(O.2.2.1,(O.2.2.2.1,())))) (Z.1,()) aA).bind fun aM=>if ((decide (aM.2.1=([99,111,109,109,101,110,116]:pD)))&&(!decide (aM.1=(3:Int))))=true then (BW aL aD aE ((rS .str .str aB ([116,97,103]:pD)),(O.2.1,(O.2.2.1,(O.2.2.2.1,())))) (Z.1,()) (aM.1,(aM.2.1,(aM.2.2.1,(aM.2.2.2,())))) (([]:pD),(([]:pD),(([]:pD),(aJ,(([]:pE),((0:Int),(aK,()))))))) aA).bind fun aN=>some (.inl (aN.1,aN.2.1,aN.2.2.1,aM.1,aM.2.1,aM.2.2.1,aM.2.2.2,aN.2.2.2,aK)) else if ((decide (aM.2.1=([102,105,101,108,100]:pD)))&&(!decide (aM.1=(3:Int))))=true then (BX aL aD aE ((rS .str .str aB ([116,97,103]:pD)),(O.2.1,(O.2.2.1,(O.2.2.2.1,())))) (Z.1,()) (aM.1,(aM.2.1,(aM.2.2.1,(aM.2.2.2,())))) (([]:pD),(([]:pD),(([]:pD),(aJ,(([]:pE),((0:Int),(aK,()))))))) aA).bind fun aO=>some (.inl (aO.1,aO.2.1,aO.2.2.1,aM.1,aM.2.1,aM.2.2.1,aM.2.2.2,aJ,aO.2.2.2)) else if ((vU (aM.1,(aM.2.1,(aM.2.2.1,(aM.2.2.2,())))) ([]:pD) ([]:pD))).isSome=true then (vU (aM.1,(aM.2.1,(aM.2.2.1,(aM.2.2.2,())))) ([]:pD) ([]:pD)).bind fun aP=>(wP aL aD aE ((rS .str .str aB ([116,97,103]:pD)),(O.2.1,(O.2.2.1,(O.2.2.2.1,())))) (Z.1,()) ((!decide (aM.1=(1:Int)))||(!decide (aM.2.1=([101,110,116,114,105,101,115]:pD)))) aM.2.2.2 false aA).bind fun aQ=>(wX aL aQ.1 aQ.2 ((rS .str .str aB ([116,97,103]:pD)),(O.2.1,(O.2.2.1,(O.2.2.2.1,())))) (Z.1,()) aA).bind fun aR=>if (Z.1.length+([((qW sN aL (0:Int)).2.2.1+(((qW sN aL (0:Int)).2.1).length:Int))]:pM).length)*8≤140737488355328 then some (.inr (.inr ((aR,aQ.1,aQ.2,(rS .str .str aB ([116,97,103]:pD)),aJ,aK,(Z.1++([((qW sN aL (0:Int)).2.2.1+(((qW sN aL (0:Int)).2.1).length:Int))]:pM)))))) else none else (CF (aM.1,(aM.2.1,(aM.2.2.1,(aM.2.2.2,())))) ([]:pD) ([]:pD)).bind fun aS=>(wP aL aD aE ((rS .str .str aB ([116,97,103]:pD)),(O.2.1,(O.2.2.1,(O.2.2.2.1,())))) (Z.1,()) (((!decide (aM.1=(1:Int)))||(!decide (aM.2.1=([101,110,116,114,105,101,115]:pD))))||true) aM.2.2.2 false aA).bind fun aT=>(wX aL aT.1 aT.2 ((rS .str .str aB ([116,97,103]:pD)),(O.2.1,(O.2.2.1,(O.2.2.2.1,())))) (Z.1,()) aA).bind fun aU=>if (Z.1.length+([((qW sN aL (0:Int)).2.2.1+(((qW sN aL (0:Int)).2.1).length:Int))]:pM).length)*8≤140737488355328 then some (.inr (.inr ((aU,aT.1,aT.2,(rS .str .str aB ([116,97,103]:pD)),aJ,aK,(Z.1++([((qW sN aL (0:Int)).2.2.1+(((qW sN aL (0:Int)).2.1).length:Int))]:pM)))))) else none else some (.inr (.inl (aC,aD,aE)))
def PQ (O:(Int×pD×(List qZ)×Bool)):(Bool×Int)→Option ((Bool×Int)⊕Bool):=fun(Z,aA)=>if (decide (aA<(O.2.2.1.length:Int)))=true then if 0≤aA∧aA<(O.2.2.1.length:Int) then if ((Z==true)=true→((EB ((qW (.pair .str (.pair .str .unit)) O.2.2.1 aA).2.1))).isSome=true) then if qE (aA+(1:Int)) then some (.inl ((Z&&(val (EB ((qW (.pair .str (.pair .str .unit)) O.2.2.1 aA).2.1)))),(aA+(1:Int)))) else none else none else none else some (.inr Z)
def U1 (O:sQ) (Z:(pM×Unit)) (aA:pK):((List s7)×Int×Int×Int×pD×(List qZ)×Bool×pE×(List qZ))→Option (((List s7)×Int×Int×Int×pD×(List qZ)×Bool×pE×(List qZ))⊕(((List s7)×Int×Int)⊕((List s7)×Int×Int×pD×pE×(List qZ)×pM))):=fun(aB,aC,aD,aE,aF,aG,aH,aI,aJ)=>if (decide (aD=(0:Int)))=true then (zA aB aC aD (([]:pD),(O.2.1,(O.2.2.1,(O.2.2.2.1,())))) (Z.1,()) aA).bind fun aK=>(zP aK aC aD (([]:pD),(O.2.1,(O.2.2.1,(O.2.2.2.1,())))) (Z.1,()) aA).bind fun aL=>if ((decide (aL.2.1=([99,111,109,109,101,110,116]:pD)))&&(!decide (aL.1=(3:Int))))=true then (BW aK aC aD (([]:pD),(O.2.1,(O.2.2.1,(O.2.2.2.1,())))) (Z.1,()) (aL.1,(aL.2.1,(aL.2.2.1,(aL.2.2.2,())))) (([]:pD),(([]:pD),(([]:pD),(aI,(([]:pE),((0:Int),(aJ,()))))))) aA).bind fun aM=>some (.inl (aM.1,aM.2.1,aM.2.2.1,aL.1,aL.2.1,aL.2.2.1,aL.2.2.2,aM.2.2.2,aJ)) else if ((decide (aL.2.1=([102,105,101,108,100]:pD)))&&(!decide (aL.1=(3:Int))))=true then (BX aK aC aD (([]:pD),(O.2.1,(O.2.2.1,(O.2.2.2.1,())))) (Z.1,()) (aL.1,(aL.2.1,(aL.2.2.1,(aL.2.2.2,())))) (([]:pD),(([]:pD),(([]:pD),(aI,(([]:pE),((0:Int),(aJ,()))))))) aA).bind fun aN=>some (.inl (aN.1,aN.2.1,aN.2.2.1,aL.1,aL.2.1,aL.2.2.1,aL.2.2.2,aI,aN.2.2.2)) else if ((vU (aL.1,(aL.2.1,(aL.2.2.1,(aL.2.2.2,())))) ([]:pD) ([]:pD))).isSome=true then (vU (aL.1,(aL.2.1,(aL.2.2.1,(aL.2.2.2,())))) ([]:pD) ([]:pD)).bind fun aO=>(wP aK aC aD (([]:pD),(O.2.1,(O.2.2.1,(O.2.2.2.1,())))) (Z.1,()) ((!decide (aL.1=(1:Int)))||(!decide (aL.2.1=([101,110,116,114,105,101,115]:pD)))) aL.2.2.2 false aA).bind fun aP=>(wX aK aP.1 aP.2 (([]:pD),(O.2.1,(O.2.2.1,(O.2.2.2.1,())))) (Z.1,()) aA).bind fun aQ=>if (Z.1.length+([((qW sN aK (0:Int)).2.2.1+(((qW sN aK (0:Int)).2.1).length:Int))]:pM).length)*8≤140737488355328 then some (.inr (.inr ((aQ,aP.1,aP.2,([]:pD),aI,aJ,(Z.1++([((qW sN aK (0:Int)).2.2.1+(((qW sN aK (0:Int)).2.1).length:Int))]:pM)))))) else none else (CF (aL.1,(aL.2.1,(aL.2.2.1,(aL.2.2.2,())))) ([]:pD) ([]:pD)).bind fun aR=>(wP aK aC aD (([]:pD),(O.2.1,(O.2.2.1,(O.2.2.2.1,())))) (Z.1,()) (((!decide (aL.1=(1:Int)))||(!decide (aL.2.1=([101,110,116,114,105,101,115]:pD))))||true) aL.2.2.2 false aA).bind fun aS=>(wX aK aS.1 aS.2 (([]:pD),(O.2.1,(O.2.2.1,(O.2.2.2.1,())))) (Z.1,()) aA).bind fun aT=>if (Z.1.length+([((qW sN aK (0:Int)).2.2.1+(((qW sN aK (0:Int)).2.1).length:Int))]:pM).length)*8≤140737488355328 then some (.inr (.inr ((aT,aS.1,aS.2,([]:pD),aI,aJ,(Z.1++([((qW sN aK (0:Int)).2.2.1+(((qW sN aK (0:Int)).2.1).length:Int))]:pM)))))) else none else some (.inr (.inl (aB,aC,aD)))
def AU (O:(List s7)) (Z:Int) (aA:Int) (aB:sQ) (aC:(pM×Unit)) (aD:pK):Option ((List s7)×Int×Int×pD×pE×(List qZ)×pM):=(zA O Z aA aB aC aD).bind fun aE=>(zP aE Z aA (aB.1,(aB.2.1,(aB.2.2.1,(aB.2.2.2.1,())))) (aC.1,()) aD).bind fun aF=>if ((vU (aF.1,(aF.2.1,(aF.2.2.1,(aF.2.2.2,())))) ([116,97,103]:pD) ([]:pD))).isSome=true then (vU (aF.1,(aF.2.1,(aF.2.2.1,(aF.2.2.2,())))) ([116,97,103]:pD) ([]:pD)).bind fun aG=>t8 (rX (PP aF) (true,(0:Int))) fun aH=>(wP aE Z aA (aB.1,(aB.2.1,(aB.2.2.1,(aB.2.2.2.1,())))) (aC.1,()) (((!decide (aF.1=(1:Int)))||(!decide (aF.2.1=([99,97,116,97,108,111,103]:pD))))||(!aH)) aF.2.2.2 false aD).bind fun aI=>(wX aE aI.1 aI.2 ((rS .str .str aG ([116,97,103]:pD)),(aB.2.1,(aB.2.2.1,(aB.2.2.2.1,())))) (aC.1,()) aD).bind fun aJ=>uT (rX (BY aB aC aD aG) (aJ,aI.1,aI.2,aF.1,aF.2.1,aF.2.2.1,aF.2.2.2,([]:pE),([]:List qZ))) fun(aK,aL,aM)=>some ((aK,aL,aM,(rS .str .str aG ([116,97,103]:pD)),aB.2.1,aB.2.2.1,aC.1)) else (CF (aF.1,(aF.2.1,(aF.2.2.1,(aF.2.2.2,())))) ([116,97,103]:pD) ([]:pD)).bind fun aN=>t8 (rX (PQ aF) (true,(0:Int))) fun aO=>(wP aE Z aA (aB.1,(aB.2.1,(aB.2.2.1,(aB.2.2.2.1,())))) (aC.1,()) ((((!decide (aF.1=(1:Int)))||(!decide (aF.2.1=([99,97,116,97,108,111,103]:pD))))||true)||(!aO)) aF.2.2.2 false aD).bind fun aP=>(wX aE aP.1 aP.2 (([]:pD),(aB.2.1,(aB.2.2.1,(aB.2.2.2.1,())))) (aC.1,()) aD).bind fun aQ=>uT (rX (U1 aB aC aD) (aQ,aP.1,aP.2,aF.1,aF.2.1,aF.2.2.1,aF.2.2.2,([]:pE),([]:List qZ))) fun(aR,aS,aT)=>some ((aR,aS,aT,([]:pD),aB.2.1,aB.2.2.1,aC.1))
section
variable (O:(List s7)) (Z:Int) (aA:Int) (aB:sQ) (aC:(pM×Unit)) (aD:Nat) (aE:Nat) (aF:pK)
abbrev a4z:List qC:=[(.val .ref (some (0,0)),none)]
abbrev a4A:List q9:=[.cells sO (O,(Z,(aA,(aB,((some 3),aC))))) [(6,1),(8,2)],.grow 53 7 aD,.grow 3 1 aE,.map .str .bool aF]
@[go_sem] def a4B:qI:=⟨[aD=(aB.2.2.2.1.length),aE=(aC.1.length),((AU O Z aA aB aC aF)).isSome=true],[],[.cells sO ((val (AU O Z aA aB aC aF)).1,((val (AU O Z aA aB aC aF)).2.1,((val (AU O Z aA aB aC aF)).2.2.1,(((val (AU O Z aA aB aC aF)).2.2.2.1,((val (AU O Z aA aB aC aF)).2.2.2.2.1,((val (AU O Z aA aB aC aF)).2.2.2.2.2.1,(aB.2.2.2.1,())))),((some 3),((val (AU O Z aA aB aC aF)).2.2.2.2.2.2,())))))) [(6,1),(8,2)],.grow 53 7 (aB.2.2.2.1.length),.grow 3 1 (((val (AU O Z aA aB aC aF)).2.2.2.2.2.2).length),.map .str .bool aF]⟩
def aBP:List qC→List q9→Option qI:=rU (V:=((List s7)×Int×Int×sQ×(pM×Unit)×Nat×Nat×pK)) (fun x=>a4z) (fun x=>a4A x.1 x.2.1 x.2.2.1 x.2.2.2.1 x.2.2.2.2.1 x.2.2.2.2.2.1 x.2.2.2.2.2.2.1 x.2.2.2.2.2.2.2) fun x=>a4B x.1 x.2.1 x.2.2.1 x.2.2.2.1 x.2.2.2.2.1 x.2.2.2.2.2.1 x.2.2.2.2.2.2.1 x.2.2.2.2.2.2.2
@[go_sem] def aLI:aBP (no_index a4z) (no_index (a4A O Z aA aB aC aD aE aF))=some (a4B O Z aA aB aC aD aE aF):=rY (fun⟨a0,a1,a2,a3,a4,a5,a6,a7⟩ ⟨b0,b1,b2,b3,b4,b5,b6,b7⟩ h1 h2=>by cases h1;cases h2;rfl) (O,Z,aA,aB,aC,aD,aE,aF)
end
@[go_sem] abbrev aBQ:Nat×r6:=(51,⟨[.p sO [6,8]],aBP,[(0,7,.m)],[1,3],none⟩)
def tI:rN Tryz.prog [wO,AA,sY,xU,BR,CD,D7,A9,FH,AQ,BT,y6,E8,AR] (rO [LT,FY,LP,a0C,D8,H6,PL,PO]):=⟨⟨xH,⟨BU,⟨tE,⟨yI,⟨D5,⟨E7,⟨FG,⟨BS,⟨J7,⟨CC,⟨D6,⟨z7,⟨H4,⟨CE,trivial⟩⟩⟩⟩⟩⟩⟩⟩⟩⟩⟩⟩⟩⟩,qO PE (qO HG (qO PA (qO a9Q (qO EC (qO JC (qO TY (qO TZ rR))))))),rP⟩
def a4C:rN Tryz.prog [wO,AA,sY,xU,BR,CD,D7,A9,FH,AQ,BT,y6,E8,AR] (rO [LT,FY,a0C,D8,H6,PL,PO,LR]):=⟨⟨xH,⟨BU,⟨tE,⟨yI,⟨D5,⟨E7,⟨FG,⟨BS,⟨J7,⟨CC,⟨D6,⟨z7,⟨H4,⟨CE,trivial⟩⟩⟩⟩⟩⟩⟩⟩⟩⟩⟩⟩⟩⟩,qO PE (qO HG (qO a9Q (qO EC (qO JC (qO TY (qO TZ (qO PB rR))))))),rP⟩
def aHW:r9 Tryz.prog aBQ:=by
 refine rZ tI Tryz.func51 (c:=_) rfl (N:=139) pU (ts:=[]) rfl (fun _ _=>rfl) ?_;intro⟨O,Z,aA,aB,aC,aD,aE,aF⟩ hs hrow;dsimp only[a4z,a4A,a4B,rQ,qM,r5,rF,rT,Nat.reduceAdd] at hs hrow|-;obtain⟨rfl,rfl,hz⟩:=hs;obtain⟨z0,f⟩:=aLR.1 hz
 try rw[sC f]
 clear hz;unfold AU at f;obtain⟨aG,hv1,hw1,f⟩:=qS f
 try simp only[go_sem] at hw1
 refine qB tI ?_ (hp:=by exact⟨pT,pT,pT,pT,pT,(qR hv1)⟩) (h:=by simp only[go_sem,hw1];rfl)
 obtain⟨aH,hv2,hw2,f⟩:=qS f
 try simp only[go_sem] at hw2
 refine qB tI ?_ (hp:=by exact⟨pT,pT,pT,pT,pT,pT,(qR hv2)⟩) (h:=by simp only[go_sem,hw2];rfl)
 refine qT ?_;by_cases hva1:((vU (aH.1,(aH.2.1,(aH.2.2.1,(aH.2.2.2,())))) ([116,97,103]:pD) ([]:pD))).isSome=true
 .rw[aLQ hva1] at f;obtain⟨aI,hv3,hw3,f⟩:=qS f
  try simp only[go_sem] at hw3
  refine rL tI ?_ (hp:=by exact(qR hv3)) (h:=by simp only[go_sem,hw3];rfl);refine qQ ?_;refine qB tI ?_;refine qT ?_;refine qB tI ?_;refine s9 ?_;obtain⟨aJ,hy1,f⟩:=qK f;refine v6 0 (fun s=>s=(fun x=>⟨[(0,(.val .ref (some (0,0)),none)),(2,(.val .ref (some (4,0)),none)),(3,(.val .mp (some 5),none)),(4,(.val .bool true,none)),(5,(.val .bool x,none))],[(0,.cells sO (aG,(Z,(aA,((aB.1,(aB.2.1,(aB.2.2.1,(aB.2.2.2.1,())))),((some 3),(aC.1,())))))) [(6,1),(8,2)]),(1,.grow 53 7 (aB.2.2.2.1.length)),(2,.grow 3 1 (aC.1.length)),(3,.map .str .bool aF),(4,.cells wE (aH.1,(aH.2.1,(aH.2.2.1,(aH.2.2.2,())))) []),(5,.map .str .str aI)],6,139,4⟩) aJ) ?_ ?_
  .refine uS hy1 (fun x=>⟨[(0,(.val .ref (some (0,0)),none)),(2,(.val .ref (some (4,0)),none)),(3,(.val .mp (some 5),none)),(4,(.val .bool true,none)),(5,(.val .bool x.1,none)),(21,(.val (.list (.pair .str (.pair .str .unit))) aH.2.2.1,none)),(22,(.val (.int .i64) (aH.2.2.1.length:Int),none)),(23,(.val (.int .i64) x.2,none))],[(0,.cells sO (aG,(Z,(aA,((aB.1,(aB.2.1,(aB.2.2.1,(aB.2.2.2.1,())))),((some 3),(aC.1,())))))) [(6,1),(8,2)]),(1,.grow 53 7 (aB.2.2.2.1.length)),(2,.grow 3 1 (aC.1.length)),(3,.map .str .bool aF),(4,.cells wE (aH.1,(aH.2.1,(aH.2.2.1,(aH.2.2.2,())))) []),(5,.map .str .str aI)],6,139,4⟩) ⟨[0,2,3,4,5,21,22,23],[(0,0),(1,1),(2,2),(3,3),(4,132),(5,228)]⟩ pV ?_;intro x1 w1 n1 d g;obtain⟨aK,aL⟩:=x1;unfold PP at d;dsimp only at d|-;refine qB tI ?_;refine qT ?_;refine qY d (fun d hc2=> ?_) (fun d hc2=> ?_)
   .refine rG (qQ (qT (s9 ?_)));obtain⟨hg4,d⟩:=qJ d;refine qB tI ?_ (hp:=by exact hg4);obtain⟨hg5,d⟩:=qJ d;refine rL tI ?_ (hp:=by exact⟨id,id,hg5,sZ⟩);refine rV (qQ ?_);obtain⟨hg6,d⟩:=qJ d;refine rL tI ?_ (hp:=by exact hg6);cases d;exact tQ ⟨⟨[0,2,3,4,5,21,22,23],[(0,0),(1,1),(2,2),(3,3),(4,4),(5,5)]⟩,_,by rfl,g⟩
   .refine uO (uN (uQ ?_));cases d;cases g;exact uP ⟨⟨[0,2,3,4,5],[(0,0),(1,1),(2,2),(3,3),(4,4),(5,5)]⟩,by rfl⟩
  .rintro _ rfl;dsimp only at f|-;refine uY (qQ ?_);obtain⟨aM,hv7,hw7,f⟩:=qS f
   try simp only[go_sem] at hw7
   refine qB tI ?_ (hp:=by exact⟨id,id,tK,id,tK,id,tK,pT,pT,pT,pT,pT,(qR hv7)⟩) (h:=by simp only[go_sem,hw7];rfl)
   refine qB tI ?_;obtain⟨aN,hv8,hw8,f⟩:=qS f
   try simp only[go_sem] at hw8
   refine qB tI ?_ (hp:=by exact⟨pT,pT,pT,pT,pT,(qR hv8)⟩) (h:=by simp only[go_sem,hw8];rfl)
   refine qB tI ?_;refine s9 ?_;obtain⟨y1,hy1,f⟩:=wB f;refine v6 2 (fun s=> ∃v,y1= .inl v∧s=(fun x=>⟨[],[(0,.cells sO (x.1,(x.2.1,(x.2.2,(((rS .str .str aI ([116,97,103]:pD)),(aB.2.1,(aB.2.2.1,(aB.2.2.2.1,())))),((some 3),(aC.1,())))))) [(6,1),(8,2)]),(1,.grow 53 7 (aB.2.2.2.1.length)),(2,.grow 3 1 (aC.1.length)),(3,.map .str .bool aF)],4,139,4⟩) v) ?_ ?_
   .refine uS hy1 (fun x=>⟨[(0,(.val .ref (some (0,0)),none)),(2,(.val .ref (some (4,0)),none)),(8,(.val .ref (some (5,0)),none))],[(0,.cells sO (x.1,(x.2.1,(x.2.2.1,(((rS .str .str aI ([116,97,103]:pD)),(aB.2.1,(aB.2.2.1,(aB.2.2.2.1,())))),((some 3),(aC.1,())))))) [(6,1),(8,2)]),(1,.grow 53 7 (aB.2.2.2.1.length)),(2,.grow 3 1 (aC.1.length)),(3,.map .str .bool aF),(4,.cells wE (x.2.2.2.1,(x.2.2.2.2.1,(x.2.2.2.2.2.1,(x.2.2.2.2.2.2.1,())))) []),(5,.cells tC (([]:pD),(([]:pD),(([]:pD),(x.2.2.2.2.2.2.2.1,(([]:pE),((0:Int),(x.2.2.2.2.2.2.2.2,()))))))) [(3,6)]),(6,.grow 9 1 (x.2.2.2.2.2.2.2.1.length))],7,139,4⟩) ⟨[0,2,8],[(0,0),(1,1),(2,2),(3,3),(4,4),(5,934),(6,935)]⟩ pV ?_;intro x1 w1 n1 d g;obtain⟨aO,aP,aQ,aR,aS,aT,aU,aV,aW⟩:=x1;unfold BY at d;dsimp only at d|-;refine qT ?_;refine qB tI ?_;refine qY d (fun d hc3=> ?_) (fun d hc3=> ?_)
    .refine rG (qQ (s9 ?_));obtain⟨aX,hv9,hw9,d⟩:=qS d
     try simp only[go_sem] at hw9
     refine qB tI ?_ (hp:=by exact⟨pT,pT,pT,pT,pT,(qR hv9)⟩) (h:=by simp only[go_sem,hw9];rfl)
     obtain⟨aY,hv10,hw10,d⟩:=qS d
     try simp only[go_sem] at hw10
     refine qB tI ?_ (hp:=by exact⟨pT,pT,pT,pT,pT,pT,(qR hv10)⟩) (h:=by simp only[go_sem,hw10];rfl)
     refine s9 ?_;refine qB tI ?_ (hp:=by exact⟨id,id,sZ⟩);refine qY d (fun d hc4=> ?_) (fun d hc4=> ?_)
     .obtain⟨aZ,hv11,hw11,d⟩:=qS d
      try simp only[go_sem] at hw11
      refine rL tI ?_ (hp:=by exact⟨pT,pT,pT,pT,pT,pT,(qR hv11)⟩) (h:=by simp only[go_sem,hw11];rfl)
      refine rV (rV ?_);cases d;exact tQ ⟨⟨[0,2,8],[(0,0),(1,1),(2,2),(3,3),(4,4),(5,5),(6,6)]⟩,_,by rfl,g⟩
     .refine qB tI ?_ (hp:=by exact⟨id,id,sZ⟩);refine qY d (fun d hc5=> ?_) (fun d hc5=> ?_)
      .obtain⟨bA,hv12,hw12,d⟩:=qS d
       try simp only[go_sem] at hw12
       refine rL tI ?_ (hp:=by exact⟨pT,pT,pT,pT,pT,pT,pT,(qR hv12)⟩) (h:=by simp only[go_sem,hw12];rfl)
       refine rV (rV ?_);cases d;exact tQ ⟨⟨[0,2,8],[(0,0),(1,1),(2,2),(3,3),(4,4),(5,5),(6,6)]⟩,_,by rfl,g⟩
      .refine qT ?_;by_cases hva6:((vU (aY.1,(aY.2.1,(aY.2.2.1,(aY.2.2.2,())))) ([]:pD) ([]:pD))).isSome=true
       .rw[aLQ hva6] at d;obtain⟨bB,hv13,hw13,d⟩:=qS d
        try simp only[go_sem] at hw13
        refine rL tI ?_ (hp:=by exact(qR hv13)) (h:=by simp only[go_sem,hw13];rfl);refine qQ ?_;obtain⟨bC,hv14,hw14,d⟩:=qS d
        try simp only[go_sem] at hw14
        refine qB tI ?_ (hp:=by exact⟨id,id,tK,id,tK,pT,pT,pT,pT,pT,(qR hv14)⟩) (h:=by simp only[go_sem,hw14];rfl)
        obtain⟨bD,hv15,hw15,d⟩:=qS d
        try simp only[go_sem] at hw15
        obtain⟨hg16,d⟩:=qJ d;refine U0 tI 4 6 ?_ (hp:=by exact⟨pT,pT,pT,pT,pT,qR hv15,pT,hg16⟩) (ha1:=by simp only[List.take_succ_cons,List.take_zero,go_sem,hw15]<;>rfl) (hx1:=by simp only[go_sem,hw15]<;>rfl) (h:=by simp only[go_sem,hw15];rfl)
        refine qB tI ?_;refine qV (sE (sE (wA (wH (sE ?_)))));cases d;cases g;dsimp only at f;cases f;exact pF [(0,0),(1,1),(2,2),(3,3)]
       rw[aLU hva6] at d;obtain⟨bE,hv17,hw17,d⟩:=qS d
       try simp only[go_sem] at hw17
       refine rL a4C ?_ (hp:=by exact(qR hv17)) (h:=by simp only[go_sem,hw17];rfl);refine qQ ?_;obtain⟨bF,hv18,hw18,d⟩:=qS d
       try simp only[go_sem] at hw18
       refine qB tI ?_ (hp:=by exact⟨id,id,tK,id,tK,pT,pT,pT,pT,pT,(qR hv18)⟩) (h:=by simp only[go_sem,hw18];rfl)
       obtain⟨bG,hv19,hw19,d⟩:=qS d
       try simp only[go_sem] at hw19
       obtain⟨hg20,d⟩:=qJ d;refine U0 tI 4 6 ?_ (hp:=by exact⟨pT,pT,pT,pT,pT,qR hv19,pT,hg20⟩) (ha1:=by simp only[List.take_succ_cons,List.take_zero,go_sem,hw19]<;>rfl) (hx1:=by simp only[go_sem,hw19]<;>rfl) (h:=by simp only[go_sem,hw19];rfl)
       refine qB tI ?_;refine qV (sE (sE (wA (wH (sE ?_)))));cases d;cases g;dsimp only at f;cases f;exact pF [(0,0),(1,1),(2,2),(3,3)]
    .refine uO (uN (uQ ?_));cases d;cases g;exact uP ⟨⟨[],[(0,0),(1,1),(2,2),(3,3)]⟩,_,rfl,by rfl⟩
   .rintro _ ⟨v,rfl,rfl⟩;obtain⟨bH,bI,bJ⟩:=v;dsimp only at f|-;refine uY ?_;cases f;exact pF [(0,0),(1,1),(2,2),(3,3)]
 rw[aLU hva1] at f;obtain⟨bK,hv21,hw21,f⟩:=qS f
 try simp only[go_sem] at hw21
 refine rL a4C ?_ (hp:=by exact(qR hv21)) (h:=by simp only[go_sem,hw21];rfl);refine qQ ?_;refine qB tI ?_;refine qT ?_;refine qB tI ?_;refine s9 ?_;obtain⟨bM,hy1,f⟩:=qK f;refine v6 0 (fun s=>s=(fun x=>⟨[(0,(.val .ref (some (0,0)),none)),(2,(.val .ref (some (4,0)),none)),(3,(.val .mp none,none)),(4,(.val .bool false,none)),(5,(.val .bool x,none))],[(0,.cells sO (aG,(Z,(aA,((aB.1,(aB.2.1,(aB.2.2.1,(aB.2.2.2.1,())))),((some 3),(aC.1,())))))) [(6,1),(8,2)]),(1,.grow 53 7 (aB.2.2.2.1.length)),(2,.grow 3 1 (aC.1.length)),(3,.map .str .bool aF),(4,.cells wE (aH.1,(aH.2.1,(aH.2.2.1,(aH.2.2.2,())))) [])],5,139,4⟩) bM) ?_ ?_
 .refine uS hy1 (fun x=>⟨[(0,(.val .ref (some (0,0)),none)),(2,(.val .ref (some (4,0)),none)),(3,(.val .mp none,none)),(4,(.val .bool false,none)),(5,(.val .bool x.1,none)),(21,(.val (.list (.pair .str (.pair .str .unit))) aH.2.2.1,none)),(22,(.val (.int .i64) (aH.2.2.1.length:Int),none)),(23,(.val (.int .i64) x.2,none))],[(0,.cells sO (aG,(Z,(aA,((aB.1,(aB.2.1,(aB.2.2.1,(aB.2.2.2.1,())))),((some 3),(aC.1,())))))) [(6,1),(8,2)]),(1,.grow 53 7 (aB.2.2.2.1.length)),(2,.grow 3 1 (aC.1.length)),(3,.map .str .bool aF),(4,.cells wE (aH.1,(aH.2.1,(aH.2.2.1,(aH.2.2.2,())))) [])],5,139,4⟩) ⟨[0,2,3,4,5,21,22,23],[(0,0),(1,1),(2,2),(3,3),(4,132)]⟩ pV ?_;intro x1 w1 n1 d g;obtain⟨bN,bO⟩:=x1;unfold PQ at d;dsimp only at d|-;refine qB tI ?_;refine qT ?_;refine qY d (fun d hc7=> ?_) (fun d hc7=> ?_)
  .refine rG (qQ (qT (s9 ?_)));obtain⟨hg22,d⟩:=qJ d;refine qB tI ?_ (hp:=by exact hg22);obtain⟨hg23,d⟩:=qJ d;refine rL tI ?_ (hp:=by exact⟨id,id,hg23,sZ⟩);refine rV (qQ ?_);obtain⟨hg24,d⟩:=qJ d;refine rL tI ?_ (hp:=by exact hg24);cases d;exact tQ ⟨⟨[0,2,3,4,5,21,22,23],[(0,0),(1,1),(2,2),(3,3),(4,4)]⟩,_,by rfl,g⟩
  .refine uO (uN (uQ ?_));cases d;cases g;exact uP ⟨⟨[0,2,3,4,5],[(0,0),(1,1),(2,2),(3,3),(4,4)]⟩,by rfl⟩
 .rintro _ rfl;dsimp only at f|-;refine uY (qQ ?_);obtain⟨bP,hv25,hw25,f⟩:=qS f
  try simp only[go_sem] at hw25
  refine qB tI ?_ (hp:=by exact⟨id,id,tK,id,tK,id,fun e=>by first|exact tK e|exact rfl|exact e.elim|simp_all,pT,pT,pT,pT,pT,(qR hv25)⟩) (h:=by simp only[go_sem,hw25];rfl)
  refine qB tI ?_;obtain⟨bQ,hv26,hw26,f⟩:=qS f
  try simp only[go_sem] at hw26
  refine qB tI ?_ (hp:=by exact⟨pT,pT,pT,pT,pT,(qR hv26)⟩) (h:=by simp only[go_sem,hw26];rfl)
  refine qB tI ?_;refine s9 ?_;obtain⟨y1,hy1,f⟩:=wB f;refine v6 2 (fun s=> ∃v,y1= .inl v∧s=(fun x=>⟨[],[(0,.cells sO (x.1,(x.2.1,(x.2.2,((([]:pD),(aB.2.1,(aB.2.2.1,(aB.2.2.2.1,())))),((some 3),(aC.1,())))))) [(6,1),(8,2)]),(1,.grow 53 7 (aB.2.2.2.1.length)),(2,.grow 3 1 (aC.1.length)),(3,.map .str .bool aF)],4,139,4⟩) v) ?_ ?_
  .refine uS hy1 (fun x=>⟨[(0,(.val .ref (some (0,0)),none)),(2,(.val .ref (some (4,0)),none)),(8,(.val .ref (some (5,0)),none))],[(0,.cells sO (x.1,(x.2.1,(x.2.2.1,((([]:pD),(aB.2.1,(aB.2.2.1,(aB.2.2.2.1,())))),((some 3),(aC.1,())))))) [(6,1),(8,2)]),(1,.grow 53 7 (aB.2.2.2.1.length)),(2,.grow 3 1 (aC.1.length)),(3,.map .str .bool aF),(4,.cells wE (x.2.2.2.1,(x.2.2.2.2.1,(x.2.2.2.2.2.1,(x.2.2.2.2.2.2.1,())))) []),(5,.cells tC (([]:pD),(([]:pD),(([]:pD),(x.2.2.2.2.2.2.2.1,(([]:pE),((0:Int),(x.2.2.2.2.2.2.2.2,()))))))) [(3,6)]),(6,.grow 9 1 (x.2.2.2.2.2.2.2.1.length))],7,139,4⟩) ⟨[0,2,8],[(0,0),(1,1),(2,2),(3,3),(4,4),(5,933),(6,934)]⟩ pV ?_;intro x1 w1 n1 d g;obtain⟨bR,bS,bT,bU,bV,bW,bX,bZ,cA⟩:=x1;unfold U1 at d;dsimp only at d|-;refine qT ?_;refine qB tI ?_;refine qY d (fun d hc8=> ?_) (fun d hc8=> ?_)
   .refine rG (qQ (s9 ?_));obtain⟨cB,hv27,hw27,d⟩:=qS d
    try simp only[go_sem] at hw27
    refine qB tI ?_ (hp:=by exact⟨pT,pT,pT,pT,pT,(qR hv27)⟩) (h:=by simp only[go_sem,hw27];rfl)
    obtain⟨cC,hv28,hw28,d⟩:=qS d
    try simp only[go_sem] at hw28
    refine qB tI ?_ (hp:=by exact⟨pT,pT,pT,pT,pT,pT,(qR hv28)⟩) (h:=by simp only[go_sem,hw28];rfl)
    refine s9 ?_;refine qB tI ?_ (hp:=by exact⟨id,id,sZ⟩);refine qY d (fun d hc9=> ?_) (fun d hc9=> ?_)
    .obtain⟨cD,hv29,hw29,d⟩:=qS d
     try simp only[go_sem] at hw29
     refine rL tI ?_ (hp:=by exact⟨pT,pT,pT,pT,pT,pT,(qR hv29)⟩) (h:=by simp only[go_sem,hw29];rfl)
     refine rV (rV ?_);cases d;exact tQ ⟨⟨[0,2,8],[(0,0),(1,1),(2,2),(3,3),(4,4),(5,5),(6,6)]⟩,_,by rfl,g⟩
    .refine qB tI ?_ (hp:=by exact⟨id,id,sZ⟩);refine qY d (fun d hc10=> ?_) (fun d hc10=> ?_)
     .obtain⟨cE,hv30,hw30,d⟩:=qS d
      try simp only[go_sem] at hw30
      refine rL tI ?_ (hp:=by exact⟨pT,pT,pT,pT,pT,pT,pT,(qR hv30)⟩) (h:=by simp only[go_sem,hw30];rfl)
      refine rV (rV ?_);cases d;exact tQ ⟨⟨[0,2,8],[(0,0),(1,1),(2,2),(3,3),(4,4),(5,5),(6,6)]⟩,_,by rfl,g⟩
     .refine qT ?_;by_cases hva11:((vU (cC.1,(cC.2.1,(cC.2.2.1,(cC.2.2.2,())))) ([]:pD) ([]:pD))).isSome=true
      .rw[aLQ hva11] at d;obtain⟨cF,hv31,hw31,d⟩:=qS d
       try simp only[go_sem] at hw31
       refine rL tI ?_ (hp:=by exact(qR hv31)) (h:=by simp only[go_sem,hw31];rfl);refine qQ ?_;obtain⟨cG,hv32,hw32,d⟩:=qS d
       try simp only[go_sem] at hw32
       refine qB tI ?_ (hp:=by exact⟨id,id,tK,id,tK,pT,pT,pT,pT,pT,(qR hv32)⟩) (h:=by simp only[go_sem,hw32];rfl)
       obtain⟨cH,hv33,hw33,d⟩:=qS d
       try simp only[go_sem] at hw33
       obtain⟨hg34,d⟩:=qJ d;refine U0 tI 4 6 ?_ (hp:=by exact⟨pT,pT,pT,pT,pT,qR hv33,pT,hg34⟩) (ha1:=by simp only[List.take_succ_cons,List.take_zero,go_sem,hw33]<;>rfl) (hx1:=by simp only[go_sem,hw33]<;>rfl) (h:=by simp only[go_sem,hw33];rfl)
       refine qB tI ?_;refine qV (sE (sE (wA (wH (sE ?_)))));cases d;cases g;dsimp only at f;cases f;exact pF [(0,0),(1,1),(2,2),(3,3)]
      rw[aLU hva11] at d;obtain⟨cJ,hv35,hw35,d⟩:=qS d
      try simp only[go_sem] at hw35
      refine rL a4C ?_ (hp:=by exact(qR hv35)) (h:=by simp only[go_sem,hw35];rfl);refine qQ ?_;obtain⟨cK,hv36,hw36,d⟩:=qS d
      try simp only[go_sem] at hw36
      refine qB tI ?_ (hp:=by exact⟨id,id,tK,id,tK,pT,pT,pT,pT,pT,(qR hv36)⟩) (h:=by simp only[go_sem,hw36];rfl)
      obtain⟨cL,hv37,hw37,d⟩:=qS d
      try simp only[go_sem] at hw37
      obtain⟨hg38,d⟩:=qJ d;refine U0 tI 4 6 ?_ (hp:=by exact⟨pT,pT,pT,pT,pT,qR hv37,pT,hg38⟩) (ha1:=by simp only[List.take_succ_cons,List.take_zero,go_sem,hw37]<;>rfl) (hx1:=by simp only[go_sem,hw37]<;>rfl) (h:=by simp only[go_sem,hw37];rfl)
      refine qB tI ?_;refine qV (sE (sE (wA (wH (sE ?_)))));cases d;cases g;dsimp only at f;cases f;exact pF [(0,0),(1,1),(2,2),(3,3)]
   .refine uO (uN (uQ ?_));cases d;cases g;exact uP ⟨⟨[],[(0,0),(1,1),(2,2),(3,3)]⟩,_,rfl,by rfl⟩
  .rintro _ ⟨v,rfl,rfl⟩;obtain⟨cN,cO,cP⟩:=v;dsimp only at f|-;refine uY ?_;cases f;exact pF [(0,0),(1,1),(2,2),(3,3)]
attribute [irreducible] AU
end
noncomputable section
def AV (O:(List s7)) (Z:Int) (aA:Int) (aB:sQ) (aC:(pM×Unit)) (aD:pK):Option ((List s7)×Int×Int×(List rW)×pM×pK):=(zP O Z aA aB aC aD).bind fun aE=>if ((vU (aE.1,(aE.2.1,(aE.2.2.1,(aE.2.2.2,())))) ([105,100]:pD) ([115,116,97,116,101,32,102,108,97,103,115]:pD))).isSome=true then (vU (aE.1,(aE.2.1,(aE.2.2.1,(aE.2.2.2,())))) ([105,100]:pD) ([115,116,97,116,101,32,102,108,97,103,115]:pD)).bind fun aF=>(FP (rS .str .str aF ([102,108,97,103,115]:pD))).bind fun aG=>if ((tZ (tM (rS .str .str aF ([102,108,97,103,115]:pD)) ([32]:pD))).length)<4611686018427387904 then if (((((!decide (aE.1=(1:Int)))&&(!decide (aE.1=(2:Int))))||(!decide (aE.2.1=([101,110,116,114,121]:pD))))==false)=true→((CI aE.2.2.1)).isSome=true) then if ((aE.2.2.2||(rS .str .bool aD (rS .str .str aF ([105,100]:pD))))==false)=true then if (((aE.2.2.2||(rS .str .bool aD (rS .str .str aF ([105,100]:pD))))==false)=true→((wY (sI (tZ (tM (rS .str .str aF ([102,108,97,103,115]:pD)) ([32]:pD)))))).isSome=true) then if (((aE.2.2.2||(rS .str .bool aD (rS .str .str aF ([105,100]:pD))))==false)=true→List.length (val (wY (sI (tZ (tM (rS .str .str aF ([102,108,97,103,115]:pD)) ([32]:pD))))))≤9223372036854775807) then (wP O Z aA aB aC ((((!decide (aE.1=(1:Int)))&&(!decide (aE.1=(2:Int))))||(!decide (aE.2.1=([101,110,116,114,121]:pD))))||(val (CI aE.2.2.1))) ((aE.2.2.2||(rS .str .bool aD (rS .str .str aF ([105,100]:pD))))||(decide (((((Lib.compact (val (wY (sI (tZ (tM (rS .str .str aF ([102,108,97,103,115]:pD)) ([32]:pD))))))).length):Nat):Int)<((sI (tZ (tM (rS .str .str aF ([102,108,97,103,115]:pD)) ([32]:pD)))).length:Int)))) ((decide ((20:Int)<((sI (tZ (tM (rS .str .str aF ([102,108,97,103,115]:pD)) ([32]:pD)))).length:Int)))||(decide ((aB.2.2.2.1.length:Int)=(1000:Int)))) aD).bind fun aH=>if (!decide (aH.2=(0:Int)))=true then some ((O,aH.1,aH.2,aB.2.2.2.1,aC.1,aD)) else (AS ([([110,101,119]:pD),([102,117,122,122,121]:pD),([116,114,97,110,115,108,97,116,101,100]:pD),([114,101,118,105,101,119,101,100]:pD),([111,98,115,111,108,101,116,101]:pD)]:pE) (rS .str .str aF ([115,116,97,116,101]:pD))).bind fun aI=>(wX O aH.1 aH.2 (aB.1,(aB.2.1,(aB.2.2.1,(aB.2.2.2.1,())))) (aC.1,()) (tO .str .bool (rS .str .str aF ([105,100]:pD)) true aD)).bind fun aJ=>t8 (σ:=(Int×(List s7)×Int×Int×pD×pD×pE×(List qZ))) (if (decide (aE.1=(1:Int)))=true then (y7 aJ aH.1 aH.2 (aB.1,(aB.2.1,(aB.2.2.1,(aB.2.2.2.1,())))) (aC.1,()) ((rS .str .str aF ([105,100]:pD)),(([]:pD),(([]:pD),(([]:pE),((sI (tZ (tM (rS .str .str aF ([102,108,97,103,115]:pD)) ([32]:pD)))),((max (0:Int) aI),(([]:List qZ),()))))))) (tO .str .bool (rS .str .str aF ([105,100]:pD)) true aD)).bind fun aK=>some ((aK.1,aK.2.1,aK.2.2.1,aK.2.2.2.1,aK.2.2.2.2.1,aK.2.2.2.2.2.1,aK.2.2.2.2.2.2.1,aK.2.2.2.2.2.2.2)) else some ((((qW sN O (0:Int)).2.2.1+(((qW sN O (0:Int)).2.1).length:Int)),aJ,aH.1,aH.2,([]:pD),([]:pD),([]:pE),([]:List qZ))) ) fun(aL,aM,aN,aO,aP,aQ,aR,aS)=>if (aB.2.2.2.1.length+([((rS .str .str aF ([105,100]:pD)),(aP,(aQ,(aR,((sI (tZ (tM (rS .str .str aF ([102,108,97,103,115]:pD)) ([32]:pD)))),((max (0:Int) aI),(aS,())))))))]:List rW).length)*128≤140737488355328 then if (aC.1.length+([aL]:pM).length)*8≤140737488355328 then some ((aM,aN,aO,(aB.2.2.2.1++([((rS .str .str aF ([105,100]:pD)),(aP,(aQ,(aR,((sI (tZ (tM (rS .str .str aF ([102,108,97,103,115]:pD)) ([32]:pD)))),((max (0:Int) aI),(aS,())))))))]:List rW)),(aC.1++([aL]:pM)),(tO .str .bool (rS .str .str aF ([105,100]:pD)) true aD))) else none else none else none else none else (wP O Z aA aB aC ((((!decide (aE.1=(1:Int)))&&(!decide (aE.1=(2:Int))))||(!decide (aE.2.1=([101,110,116,114,121]:pD))))||(val (CI aE.2.2.1))) true ((decide ((20:Int)<((sI (tZ (tM (rS .str .str aF ([102,108,97,103,115]:pD)) ([32]:pD)))).length:Int)))||(decide ((aB.2.2.2.1.length:Int)=(1000:Int)))) aD).bind fun aT=>if (!decide (aT.2=(0:Int)))=true then some ((O,aT.1,aT.2,aB.2.2.2.1,aC.1,aD)) else (AS ([([110,101,119]:pD),([102,117,122,122,121]:pD),([116,114,97,110,115,108,97,116,101,100]:pD),([114,101,118,105,101,119,101,100]:pD),([111,98,115,111,108,101,116,101]:pD)]:pE) (rS .str .str aF ([115,116,97,116,101]:pD))).bind fun aU=>(wX O aT.1 aT.2 (aB.1,(aB.2.1,(aB.2.2.1,(aB.2.2.2.1,())))) (aC.1,()) (tO .str .bool (rS .str .str aF ([105,100]:pD)) true aD)).bind fun aV=>t8 (σ:=(Int×(List s7)×Int×Int×pD×pD×pE×(List qZ))) (if (decide (aE.1=(1:Int)))=true then (y7 aV aT.1 aT.2 (aB.1,(aB.2.1,(aB.2.2.1,(aB.2.2.2.1,())))) (aC.1,()) ((rS .str .str aF ([105,100]:pD)),(([]:pD),(([]:pD),(([]:pE),((sI (tZ (tM (rS .str .str aF ([102,108,97,103,115]:pD)) ([32]:pD)))),((max (0:Int) aU),(([]:List qZ),()))))))) (tO .str .bool (rS .str .str aF ([105,100]:pD)) true aD)).bind fun aW=>some ((aW.1,aW.2.1,aW.2.2.1,aW.2.2.2.1,aW.2.2.2.2.1,aW.2.2.2.2.2.1,aW.2.2.2.2.2.2.1,aW.2.2.2.2.2.2.2)) else some ((((qW sN O (0:Int)).2.2.1+(((qW sN O (0:Int)).2.1).length:Int)),aV,aT.1,aT.2,([]:pD),([]:pD),([]:pE),([]:List qZ))) ) fun(aX,aY,aZ,bA,bB,bC,bD,bE)=>if (aB.2.2.2.1.length+([((rS .str .str aF ([105,100]:pD)),(bB,(bC,(bD,((sI (tZ (tM (rS .str .str aF ([102,108,97,103,115]:pD)) ([32]:pD)))),((max (0:Int) aU),(bE,())))))))]:List rW).length)*128≤140737488355328 then if (aC.1.length+([aX]:pM).length)*8≤140737488355328 then some ((aY,aZ,bA,(aB.2.2.2.1++([((rS .str .str aF ([105,100]:pD)),(bB,(bC,(bD,((sI (tZ (tM (rS .str .str aF ([102,108,97,103,115]:pD)) ([32]:pD)))),((max (0:Int) aU),(bE,())))))))]:List rW)),(aC.1++([aX]:pM)),(tO .str .bool (rS .str .str aF ([105,100]:pD)) true aD))) else none else none else none else none else (CF (aE.1,(aE.2.1,(aE.2.2.1,(aE.2.2.2,())))) ([105,100]:pD) ([115,116,97,116,101,32,102,108,97,103,115]:pD)).bind fun bF=>(FP ([]:pD)).bind fun bG=>if ((tZ (tM ([]:pD) ([32]:pD))).length)<4611686018427387904 then if ((((((!decide (aE.1=(1:Int)))&&(!decide (aE.1=(2:Int))))||(!decide (aE.2.1=([101,110,116,114,121]:pD))))||true)==false)=true→((CI aE.2.2.1)).isSome=true) then if ((aE.2.2.2||(rS .str .bool aD ([]:pD)))==false)=true then if (((aE.2.2.2||(rS .str .bool aD ([]:pD)))==false)=true→((wY (sI (tZ (tM ([]:pD) ([32]:pD)))))).isSome=true) then if (((aE.2.2.2||(rS .str .bool aD ([]:pD)))==false)=true→List.length (val (wY (sI (tZ (tM ([]:pD) ([32]:pD))))))≤9223372036854775807) then (wP O Z aA aB aC (((((!decide (aE.1=(1:Int)))&&(!decide (aE.1=(2:Int))))||(!decide (aE.2.1=([101,110,116,114,121]:pD))))||true)||(val (CI aE.2.2.1))) ((aE.2.2.2||(rS .str .bool aD ([]:pD)))||(decide (((((Lib.compact (val (wY (sI (tZ (tM ([]:pD) ([32]:pD))))))).length):Nat):Int)<((sI (tZ (tM ([]:pD) ([32]:pD)))).length:Int)))) ((decide ((20:Int)<((sI (tZ (tM ([]:pD) ([32]:pD)))).length:Int)))||(decide ((aB.2.2.2.1.length:Int)=(1000:Int)))) aD).bind fun bH=>if (!decide (bH.2=(0:Int)))=true then some ((O,bH.1,bH.2,aB.2.2.2.1,aC.1,aD)) else (AS ([([110,101,119]:pD),([102,117,122,122,121]:pD),([116,114,97,110,115,108,97,116,101,100]:pD),([114,101,118,105,101,119,101,100]:pD),([111,98,115,111,108,101,116,101]:pD)]:pE) ([]:pD)).bind fun bI=>(wX O bH.1 bH.2 (aB.1,(aB.2.1,(aB.2.2.1,(aB.2.2.2.1,())))) (aC.1,()) (tO .str .bool ([]:pD) true aD)).bind fun bJ=>t8 (σ:=(Int×(List s7)×Int×Int×pD×pD×pE×(List qZ))) (if (decide (aE.1=(1:Int)))=true then (y7 bJ bH.1 bH.2 (aB.1,(aB.2.1,(aB.2.2.1,(aB.2.2.2.1,())))) (aC.1,()) (([]:pD),(([]:pD),(([]:pD),(([]:pE),((sI (tZ (tM ([]:pD) ([32]:pD)))),((max (0:Int) bI),(([]:List qZ),()))))))) (tO .str .bool ([]:pD) true aD)).bind fun bK=>some ((bK.1,bK.2.1,bK.2.2.1,bK.2.2.2.1,bK.2.2.2.2.1,bK.2.2.2.2.2.1,bK.2.2.2.2.2.2.1,bK.2.2.2.2.2.2.2)) else some ((((qW sN O (0:Int)).2.2.1+(((qW sN O (0:Int)).2.1).length:Int)),bJ,bH.1,bH.2,([]:pD),([]:pD),([]:pE),([]:List qZ))) ) fun(bM,bN,bO,bP,bQ,bR,bS,bT)=>if (aB.2.2.2.1.length+([(([]:pD),(bQ,(bR,(bS,((sI (tZ (tM ([]:pD) ([32]:pD)))),((max (0:Int) bI),(bT,())))))))]:List rW).length)*128≤140737488355328 then if (aC.1.length+([bM]:pM).length)*8≤140737488355328 then some ((bN,bO,bP,(aB.2.2.2.1++([(([]:pD),(bQ,(bR,(bS,((sI (tZ (tM ([]:pD) ([32]:pD)))),((max (0:Int) bI),(bT,())))))))]:List rW)),(aC.1++([bM]:pM)),(tO .str .bool ([]:pD) true aD))) else none else none else none else none else (wP O Z aA aB aC (((((!decide (aE.1=(1:Int)))&&(!decide (aE.1=(2:Int))))||(!decide (aE.2.1=([101,110,116,114,121]:pD))))||true)||(val (CI aE.2.2.1))) true ((decide ((20:Int)<((sI (tZ (tM ([]:pD) ([32]:pD)))).length:Int)))||(decide ((aB.2.2.2.1.length:Int)=(1000:Int)))) aD).bind fun bU=>if (!decide (bU.2=(0:Int)))=true then some ((O,bU.1,bU.2,aB.2.2.2.1,aC.1,aD)) else (AS ([([110,101,119]:pD),([102,117,122,122,121]:pD),([116,114,97,110,115,108,97,116,101,100]:pD),([114,101,118,105,101,119,101,100]:pD),([111,98,115,111,108,101,116,101]:pD)]:pE) ([]:pD)).bind fun bV=>(wX O bU.1 bU.2 (aB.1,(aB.2.1,(aB.2.2.1,(aB.2.2.2.1,())))) (aC.1,()) (tO .str .bool ([]:pD) true aD)).bind fun bW=>t8 (σ:=(Int×(List s7)×Int×Int×pD×pD×pE×(List qZ))) (if (decide (aE.1=(1:Int)))=true then (y7 bW bU.1 bU.2 (aB.1,(aB.2.1,(aB.2.2.1,(aB.2.2.2.1,())))) (aC.1,()) (([]:pD),(([]:pD),(([]:pD),(([]:pE),((sI (tZ (tM ([]:pD) ([32]:pD)))),((max (0:Int) bV),(([]:List qZ),()))))))) (tO .str .bool ([]:pD) true aD)).bind fun bX=>some ((bX.1,bX.2.1,bX.2.2.1,bX.2.2.2.1,bX.2.2.2.2.1,bX.2.2.2.2.2.1,bX.2.2.2.2.2.2.1,bX.2.2.2.2.2.2.2)) else some ((((qW sN O (0:Int)).2.2.1+(((qW sN O (0:Int)).2.1).length:Int)),bW,bU.1,bU.2,([]:pD),([]:pD),([]:pE),([]:List qZ))) ) fun(bZ,cA,cB,cC,cD,cE,cF,cG)=>if (aB.2.2.2.1.length+([(([]:pD),(cD,(cE,(cF,((sI (tZ (tM ([]:pD) ([32]:pD)))),((max (0:Int) bV),(cG,())))))))]:List rW).length)*128≤140737488355328 then if (aC.1.length+([bZ]:pM).length)*8≤140737488355328 then some ((cA,cB,cC,(aB.2.2.2.1++([(([]:pD),(cD,(cE,(cF,((sI (tZ (tM ([]:pD) ([32]:pD)))),((max (0:Int) bV),(cG,())))))))]:List rW)),(aC.1++([bZ]:pM)),(tO .str .bool ([]:pD) true aD))) else none else none else none else none
section
variable (O:(List s7)) (Z:Int) (aA:Int) (aB:sQ) (aC:(pM×Unit)) (aD:Nat) (aE:Nat) (aF:pK)
abbrev a4D:List qC:=[(.val .ref (some (0,0)),none)]
abbrev a4E:List q9:=[.cells sO (O,(Z,(aA,(aB,((some 3),aC))))) [(6,1),(8,2)],.grow 53 7 aD,.grow 3 1 aE,.map .str .bool aF]
@[go_sem] def a4F:qI:=⟨[aD=(aB.2.2.2.1.length),aE=(aC.1.length),((AV O Z aA aB aC aF)).isSome=true],[],[.cells sO ((val (AV O Z aA aB aC aF)).1,((val (AV O Z aA aB aC aF)).2.1,((val (AV O Z aA aB aC aF)).2.2.1,((aB.1,(aB.2.1,(aB.2.2.1,((val (AV O Z aA aB aC aF)).2.2.2.1,())))),((some 3),((val (AV O Z aA aB aC aF)).2.2.2.2.1,())))))) [(6,1),(8,2)],.grow 53 7 (((val (AV O Z aA aB aC aF)).2.2.2.1).length),.grow 3 1 (((val (AV O Z aA aB aC aF)).2.2.2.2.1).length),.map .str .bool ((val (AV O Z aA aB aC aF)).2.2.2.2.2)]⟩
def aBR:List qC→List q9→Option qI:=rU (V:=((List s7)×Int×Int×sQ×(pM×Unit)×Nat×Nat×pK)) (fun x=>a4D) (fun x=>a4E x.1 x.2.1 x.2.2.1 x.2.2.2.1 x.2.2.2.2.1 x.2.2.2.2.2.1 x.2.2.2.2.2.2.1 x.2.2.2.2.2.2.2) fun x=>a4F x.1 x.2.1 x.2.2.1 x.2.2.2.1 x.2.2.2.2.1 x.2.2.2.2.2.1 x.2.2.2.2.2.2.1 x.2.2.2.2.2.2.2
@[go_sem] def aLJ:aBR (no_index a4D) (no_index (a4E O Z aA aB aC aD aE aF))=some (a4F O Z aA aB aC aD aE aF):=rY (fun⟨a0,a1,a2,a3,a4,a5,a6,a7⟩ ⟨b0,b1,b2,b3,b4,b5,b6,b7⟩ h1 h2=>by cases h1;cases h2;rfl) (O,Z,aA,aB,aC,aD,aE,aF)
end
@[go_sem] abbrev aBS:Nat×r6:=(54,⟨[.p sO [6,8]],aBR,[(0,7,.m)],[],none⟩)
def uB:rN Tryz.prog [wO,AA,sY,xU,BR,J6,D7,A9,J8,FH,AQ,BT,y6,E8] (rO [FY,LP,TP,IY,a3x,P7,IW,D8,TO,TL,H6,a4y]):=⟨⟨xH,⟨BU,⟨tE,⟨yI,⟨D5,⟨OR,⟨FG,⟨BS,⟨OS,⟨J7,⟨CC,⟨D6,⟨z7,⟨H4,trivial⟩⟩⟩⟩⟩⟩⟩⟩⟩⟩⟩⟩⟩⟩,qO HG (qO PA (qO a2w (qO TA (qO aBi (qO a16 (qO T8 (qO EC (qO a2m (qO a0M (qO JC (qO aBO rR))))))))))),rP⟩
def aHX:rN Tryz.prog [wO,AA,sY,xU,BR,J6,D7,A9,J8,FH,AQ,BT,y6,E8] (rO [FY,TP,IY,a3x,P7,IW,D8,TO,TL,H6,a4y,LR]):=⟨⟨xH,⟨BU,⟨tE,⟨yI,⟨D5,⟨OR,⟨FG,⟨BS,⟨OS,⟨J7,⟨CC,⟨D6,⟨z7,⟨H4,trivial⟩⟩⟩⟩⟩⟩⟩⟩⟩⟩⟩⟩⟩⟩,qO HG (qO a2w (qO TA (qO aBi (qO a16 (qO T8 (qO EC (qO a2m (qO a0M (qO JC (qO aBO (qO PB rR))))))))))),rP⟩
def aHY:r9 Tryz.prog aBS:=by
 refine rZ uB Tryz.func54 (c:=_) rfl (N:=131) pU (ts:=[]) rfl (fun _ _=>rfl) ?_;intro⟨O,Z,aA,aB,aC,aD,aE,aF⟩ hs hrow;dsimp only[a4D,a4E,a4F,rQ,qM,r5,rF,rT,Nat.reduceAdd] at hs hrow|-;obtain⟨rfl,rfl,hz⟩:=hs;obtain⟨z0,e⟩:=aLR.1 hz
 try rw[sC e]
 clear hz;unfold AV at e;obtain⟨aG,hv1,hw1,e⟩:=qS e
 try simp only[go_sem] at hw1
 refine qB uB ?_ (hp:=by exact⟨pT,pT,pT,pT,pT,pT,(qR hv1)⟩) (h:=by simp only[go_sem,hw1];rfl)
 refine qT ?_;by_cases hva1:((vU (aG.1,(aG.2.1,(aG.2.2.1,(aG.2.2.2,())))) ([105,100]:pD) ([115,116,97,116,101,32,102,108,97,103,115]:pD))).isSome=true
 .rw[aLQ hva1] at e;obtain⟨aH,hv2,hw2,e⟩:=qS e
  try simp only[go_sem] at hw2
  refine rL uB ?_ (hp:=by exact(qR hv2)) (h:=by simp only[go_sem,hw2];rfl);refine qQ ?_;obtain⟨aI,hv3,hw3,e⟩:=qS e
  try simp only[go_sem] at hw3
  refine qB uB ?_ (hp:=by exact(qR hv3)) (h:=by simp only[go_sem,hw3];rfl);obtain⟨hg4,e⟩:=qJ e;refine qB uB ?_ (hp:=by exact⟨pT,hg4⟩)
  obtain⟨hg5,e⟩:=qJ e;refine qB uB ?_ (hp:=by exact⟨id,id,sZ,id,id,tK,id,tK,id,id,hg5,tK⟩);refine qT ?_;refine O2 420 rfl (by repeat' (first|exact trivial|apply And.intro|exact(fun _=>rfl) |exact(fun h=>absurd h pH))) ?_
  by_cases hgs2:((aG.2.2.2||(rS .str .bool aF (rS .str .str aH ([105,100]:pD))))==false)=true
  .rw[aLQ hgs2] at e;obtain⟨hg6,e⟩:=qJ e;obtain⟨hg7,e⟩:=qJ e;obtain⟨aJ,hv8,hw8,e⟩:=qS e
   try simp only[go_sem] at hw8
   refine BO uB ?_ (hp:=by exact⟨id,id,id,id,id,id,tK,hgs2,id,hg6,hgs2,fun _=>(by first|rfl|trivial),hg7,id,id,id,tK,id,id,id,id,id,id,tK,pT,pT,pT,pT,pT,(qR hv8)⟩) (h:=by simp only[go_sem,hw8];rfl)
   refine qQ (qT ?_);refine qB uB ?_;refine qY e (fun e hc3=> ?_) (fun e hc3=> ?_)
   .refine qV (s8 ?_);cases e;exact pF [(0,0),(1,1),(2,2),(3,3)]
   .refine rG (qQ ?_);refine vZ uB ?_;obtain⟨aK,hv9,hw9,e⟩:=qS e
    try simp only[go_sem] at hw9
    refine vZ uB ?_ (hp:=by exact(qR hv9)) (h:=by simp only[go_sem,hw9];rfl);obtain⟨aL,hv10,hw10,e⟩:=qS e
    try simp only[go_sem] at hw10
    refine qB uB ?_ (hp:=by exact⟨pT,pT,pT,pT,pT,(qR hv10)⟩) (h:=by simp only[go_sem,hw10];rfl)
    refine qT ?_;refine qB uB ?_;obtain⟨y1,f,e⟩:=qK e;refine AO (fun s=>s=(fun x=>⟨[(0,(.val .ref (some (0,0)),none)),(8,(.val .ref (some (4,0)),none)),(9,(.val (.int .i64) x.1,none))],[(0,.cells sO (x.2.1,(x.2.2.1,(x.2.2.2.1,((aB.1,(aB.2.1,(aB.2.2.1,(aB.2.2.2.1,())))),((some 3),(aC.1,())))))) [(6,1),(8,2)]),(1,.grow 53 7 (aB.2.2.2.1.length)),(2,.grow 3 1 (aC.1.length)),(3,.map .str .bool (tO .str .bool (rS .str .str aH ([105,100]:pD)) true aF)),(4,.cells tC ((rS .str .str aH ([105,100]:pD)),(x.2.2.2.2.1,(x.2.2.2.2.2.1,(x.2.2.2.2.2.2.1,((sI (tZ (tM (rS .str .str aH ([102,108,97,103,115]:pD)) ([32]:pD)))),((max (0:Int) aK),(x.2.2.2.2.2.2.2,()))))))) [(3,5)]),(5,.grow 9 1 (x.2.2.2.2.2.2.1.length))],6,131,4⟩) y1) ?_ ?_
    .refine qY f (fun f hc4=> ?_) (fun f hc4=> ?_)
     .obtain⟨aM,hv11,hw11,f⟩:=qS f
      try simp only[go_sem] at hw11
      refine rL uB ?_ (hp:=by exact⟨pT,pT,pT,pT,pT,pT,(qR hv11)⟩) (h:=by simp only[go_sem,hw11];rfl)
      cases f;exact v7 ⟨⟨[0,8,9],[(0,0),(1,1),(2,2),(3,3),(4,3204),(5,3236)]⟩,by rfl⟩
     .refine rG ?_;cases f;exact v7 ⟨⟨[0,8,9],[(0,0),(1,1),(2,2),(3,3),(4,3204),(5,3236)]⟩,by rfl⟩
    .rintro _ rfl;obtain⟨aN,aO,aP,aQ,aR,aS,aT,aU⟩:=y1;dsimp only at e|-;refine qQ ?_;obtain⟨hg12,e⟩:=qJ e;obtain⟨hg13,e⟩:=qJ e;refine BO uB ?_ (hp:=by exact⟨pT,hg12,pT,hg13⟩)
     cases e;exact pF [(0,0),(1,1),(2,2),(3,3)]
  rw[aLU hgs2] at e;obtain⟨aV,hv14,hw14,e⟩:=qS e
  try simp only[go_sem] at hw14
  refine BO (Y0 (l:=[1000000026]) uB pV) ?_ (hp:=by exact⟨id,id,id,id,id,id,tK,by first|exact Bool.eq_false_iff.2 hgs2|simpa using hgs2|simpa[rF] using hgs2,by first|exact Bool.eq_false_iff.2 hgs2|simpa using hgs2|simpa[rF] using hgs2,by first|exact Bool.eq_false_iff.2 hgs2|simpa using hgs2|simpa[rF] using hgs2,by first|exact Bool.eq_false_iff.2 hgs2|simpa using hgs2|simpa[rF] using hgs2,by first|exact Bool.eq_false_iff.2 hgs2|simpa using hgs2|simpa[rF] using hgs2,by first|exact Bool.eq_false_iff.2 hgs2|simpa using hgs2|simpa[rF] using hgs2,by first|exact Bool.eq_false_iff.2 hgs2|simpa using hgs2|simpa[rF] using hgs2,by first|exact Bool.of_not_eq_false (fun d=>hgs2 (by rw[d];rfl)) |exact Bool.of_not_eq_true (fun d=>hgs2 (by rw[d];rfl)) |simpa using hgs2|simpa[rF] using hgs2,id,id,id,id,id,id,tK,pT,pT,pT,pT,pT,(qR hv14)⟩) (h:=by simp only[go_sem,hw14];rfl)
  refine qQ (qT ?_);refine qB uB ?_;refine qY e (fun e hc5=> ?_) (fun e hc5=> ?_)
  .refine qV (s8 ?_);cases e;exact pF [(0,0),(1,1),(2,2),(3,3)]
  .refine rG (qQ ?_);refine vZ uB ?_;obtain⟨aW,hv15,hw15,e⟩:=qS e
   try simp only[go_sem] at hw15
   refine vZ uB ?_ (hp:=by exact(qR hv15)) (h:=by simp only[go_sem,hw15];rfl);obtain⟨aX,hv16,hw16,e⟩:=qS e
   try simp only[go_sem] at hw16
   refine qB uB ?_ (hp:=by exact⟨pT,pT,pT,pT,pT,(qR hv16)⟩) (h:=by simp only[go_sem,hw16];rfl)
   refine qT ?_;refine qB uB ?_;obtain⟨y1,f,e⟩:=qK e;refine AO (fun s=>s=(fun x=>⟨[(0,(.val .ref (some (0,0)),none)),(8,(.val .ref (some (4,0)),none)),(9,(.val (.int .i64) x.1,none))],[(0,.cells sO (x.2.1,(x.2.2.1,(x.2.2.2.1,((aB.1,(aB.2.1,(aB.2.2.1,(aB.2.2.2.1,())))),((some 3),(aC.1,())))))) [(6,1),(8,2)]),(1,.grow 53 7 (aB.2.2.2.1.length)),(2,.grow 3 1 (aC.1.length)),(3,.map .str .bool (tO .str .bool (rS .str .str aH ([105,100]:pD)) true aF)),(4,.cells tC ((rS .str .str aH ([105,100]:pD)),(x.2.2.2.2.1,(x.2.2.2.2.2.1,(x.2.2.2.2.2.2.1,((sI (tZ (tM (rS .str .str aH ([102,108,97,103,115]:pD)) ([32]:pD)))),((max (0:Int) aW),(x.2.2.2.2.2.2.2,()))))))) [(3,5)]),(5,.grow 9 1 (x.2.2.2.2.2.2.1.length))],6,131,4⟩) y1) ?_ ?_
   .refine qY f (fun f hc6=> ?_) (fun f hc6=> ?_)
    .obtain⟨aY,hv17,hw17,f⟩:=qS f
     try simp only[go_sem] at hw17
     refine rL uB ?_ (hp:=by exact⟨pT,pT,pT,pT,pT,pT,(qR hv17)⟩) (h:=by simp only[go_sem,hw17];rfl)
     cases f;exact v7 ⟨⟨[0,8,9],[(0,0),(1,1),(2,2),(3,3),(4,3204),(5,3236)]⟩,by rfl⟩
    .refine rG ?_;cases f;exact v7 ⟨⟨[0,8,9],[(0,0),(1,1),(2,2),(3,3),(4,3204),(5,3236)]⟩,by rfl⟩
   .rintro _ rfl;obtain⟨aZ,bA,bB,bC,bD,bE,bF,bG⟩:=y1;dsimp only at e|-;refine qQ ?_;obtain⟨hg18,e⟩:=qJ e;obtain⟨hg19,e⟩:=qJ e;refine BO uB ?_ (hp:=by exact⟨pT,hg18,pT,hg19⟩)
    cases e;exact pF [(0,0),(1,1),(2,2),(3,3)]
 rw[aLU hva1] at e;obtain⟨bH,hv20,hw20,e⟩:=qS e
 try simp only[go_sem] at hw20
 refine rL aHX ?_ (hp:=by exact(qR hv20)) (h:=by simp only[go_sem,hw20];rfl);refine qQ ?_;obtain⟨bI,hv21,hw21,e⟩:=qS e
 try simp only[go_sem] at hw21
 refine qB uB ?_ (hp:=by exact(qR hv21)) (h:=by simp only[go_sem,hw21];rfl);obtain⟨hg22,e⟩:=qJ e;refine qB uB ?_ (hp:=by exact⟨pT,hg22⟩)
 obtain⟨hg23,e⟩:=qJ e;refine qB uB ?_ (hp:=by exact⟨id,id,sZ,id,id,tK,id,tK,id,id,hg23,(fun d=>by first|exact tK d|exact rfl|exact d.elim|simp_all)⟩)
 refine qT ?_;refine O2 420 rfl (by repeat' (first|exact trivial|apply And.intro|exact(fun _=>rfl) |exact(fun h=>absurd h pH))) ?_
 by_cases hgs7:((aG.2.2.2||(rS .str .bool aF ([]:pD)))==false)=true
 .rw[aLQ hgs7] at e;obtain⟨hg24,e⟩:=qJ e;obtain⟨hg25,e⟩:=qJ e;obtain⟨bJ,hv26,hw26,e⟩:=qS e
  try simp only[go_sem] at hw26
  refine BO uB ?_ (hp:=by exact⟨id,id,id,id,id,id,tK,hgs7,id,hg24,hgs7,fun _=>(by first|rfl|trivial),hg25,id,id,id,tK,id,id,id,id,id,id,tK,pT,pT,pT,pT,pT,(qR hv26)⟩) (h:=by simp only[go_sem,hw26];rfl)
  refine qQ (qT ?_);refine qB uB ?_;refine qY e (fun e hc8=> ?_) (fun e hc8=> ?_)
  .refine qV (s8 ?_);cases e;exact pF [(0,0),(1,1),(2,2),(3,3)]
  .refine rG (qQ ?_);refine vZ uB ?_;obtain⟨bK,hv27,hw27,e⟩:=qS e
   try simp only[go_sem] at hw27
   refine vZ uB ?_ (hp:=by exact(qR hv27)) (h:=by simp only[go_sem,hw27];rfl);obtain⟨bM,hv28,hw28,e⟩:=qS e
   try simp only[go_sem] at hw28
   refine qB uB ?_ (hp:=by exact⟨pT,pT,pT,pT,pT,(qR hv28)⟩) (h:=by simp only[go_sem,hw28];rfl)
   refine qT ?_;refine qB uB ?_;obtain⟨y1,f,e⟩:=qK e;refine AO (fun s=>s=(fun x=>⟨[(0,(.val .ref (some (0,0)),none)),(8,(.val .ref (some (4,0)),none)),(9,(.val (.int .i64) x.1,none))],[(0,.cells sO (x.2.1,(x.2.2.1,(x.2.2.2.1,((aB.1,(aB.2.1,(aB.2.2.1,(aB.2.2.2.1,())))),((some 3),(aC.1,())))))) [(6,1),(8,2)]),(1,.grow 53 7 (aB.2.2.2.1.length)),(2,.grow 3 1 (aC.1.length)),(3,.map .str .bool (tO .str .bool ([]:pD) true aF)),(4,.cells tC (([]:pD),(x.2.2.2.2.1,(x.2.2.2.2.2.1,(x.2.2.2.2.2.2.1,((sI (tZ (tM ([]:pD) ([32]:pD)))),((max (0:Int) bK),(x.2.2.2.2.2.2.2,()))))))) [(3,5)]),(5,.grow 9 1 (x.2.2.2.2.2.2.1.length))],6,131,4⟩) y1) ?_ ?_
   .refine qY f (fun f hc9=> ?_) (fun f hc9=> ?_)
    .obtain⟨bN,hv29,hw29,f⟩:=qS f
     try simp only[go_sem] at hw29
     refine rL uB ?_ (hp:=by exact⟨pT,pT,pT,pT,pT,pT,(qR hv29)⟩) (h:=by simp only[go_sem,hw29];rfl)
     cases f;exact v7 ⟨⟨[0,8,9],[(0,0),(1,1),(2,2),(3,3),(4,3204),(5,3236)]⟩,by rfl⟩
    .refine rG ?_;cases f;exact v7 ⟨⟨[0,8,9],[(0,0),(1,1),(2,2),(3,3),(4,3204),(5,3236)]⟩,by rfl⟩
   .rintro _ rfl;obtain⟨bO,bP,bQ,bR,bS,bT,bU,bV⟩:=y1;dsimp only at e|-;refine qQ ?_;obtain⟨hg30,e⟩:=qJ e;obtain⟨hg31,e⟩:=qJ e;refine BO uB ?_ (hp:=by exact⟨pT,hg30,pT,hg31⟩)
    cases e;exact pF [(0,0),(1,1),(2,2),(3,3)]
 rw[aLU hgs7] at e;obtain⟨bW,hv32,hw32,e⟩:=qS e
 try simp only[go_sem] at hw32
 refine BO (Y0 (l:=[1000000026]) uB pV) ?_ (hp:=by exact⟨id,id,id,id,id,id,tK,by first|exact Bool.eq_false_iff.2 hgs7|simpa using hgs7|simpa[rF] using hgs7,by first|exact Bool.eq_false_iff.2 hgs7|simpa using hgs7|simpa[rF] using hgs7,by first|exact Bool.eq_false_iff.2 hgs7|simpa using hgs7|simpa[rF] using hgs7,by first|exact Bool.eq_false_iff.2 hgs7|simpa using hgs7|simpa[rF] using hgs7,by first|exact Bool.eq_false_iff.2 hgs7|simpa using hgs7|simpa[rF] using hgs7,by first|exact Bool.eq_false_iff.2 hgs7|simpa using hgs7|simpa[rF] using hgs7,by first|exact Bool.eq_false_iff.2 hgs7|simpa using hgs7|simpa[rF] using hgs7,by first|exact Bool.of_not_eq_false (fun d=>hgs7 (by rw[d];rfl)) |exact Bool.of_not_eq_true (fun d=>hgs7 (by rw[d];rfl)) |simpa using hgs7|simpa[rF] using hgs7,id,id,id,id,id,id,tK,pT,pT,pT,pT,pT,(qR hv32)⟩) (h:=by simp only[go_sem,hw32];rfl)
 refine qQ (qT ?_);refine qB uB ?_;refine qY e (fun e hc10=> ?_) (fun e hc10=> ?_)
 .refine qV (s8 ?_);cases e;exact pF [(0,0),(1,1),(2,2),(3,3)]
 .refine rG (qQ ?_);refine vZ uB ?_;obtain⟨bX,hv33,hw33,e⟩:=qS e
  try simp only[go_sem] at hw33
  refine vZ uB ?_ (hp:=by exact(qR hv33)) (h:=by simp only[go_sem,hw33];rfl);obtain⟨bZ,hv34,hw34,e⟩:=qS e
  try simp only[go_sem] at hw34
  refine qB uB ?_ (hp:=by exact⟨pT,pT,pT,pT,pT,(qR hv34)⟩) (h:=by simp only[go_sem,hw34];rfl)
  refine qT ?_;refine qB uB ?_;obtain⟨y1,f,e⟩:=qK e;refine AO (fun s=>s=(fun x=>⟨[(0,(.val .ref (some (0,0)),none)),(8,(.val .ref (some (4,0)),none)),(9,(.val (.int .i64) x.1,none))],[(0,.cells sO (x.2.1,(x.2.2.1,(x.2.2.2.1,((aB.1,(aB.2.1,(aB.2.2.1,(aB.2.2.2.1,())))),((some 3),(aC.1,())))))) [(6,1),(8,2)]),(1,.grow 53 7 (aB.2.2.2.1.length)),(2,.grow 3 1 (aC.1.length)),(3,.map .str .bool (tO .str .bool ([]:pD) true aF)),(4,.cells tC (([]:pD),(x.2.2.2.2.1,(x.2.2.2.2.2.1,(x.2.2.2.2.2.2.1,((sI (tZ (tM ([]:pD) ([32]:pD)))),((max (0:Int) bX),(x.2.2.2.2.2.2.2,()))))))) [(3,5)]),(5,.grow 9 1 (x.2.2.2.2.2.2.1.length))],6,131,4⟩) y1) ?_ ?_
  .refine qY f (fun f hc11=> ?_) (fun f hc11=> ?_)
   .obtain⟨cA,hv35,hw35,f⟩:=qS f
    try simp only[go_sem] at hw35
    refine rL uB ?_ (hp:=by exact⟨pT,pT,pT,pT,pT,pT,(qR hv35)⟩) (h:=by simp only[go_sem,hw35];rfl)
    cases f;exact v7 ⟨⟨[0,8,9],[(0,0),(1,1),(2,2),(3,3),(4,3204),(5,3236)]⟩,by rfl⟩
   .refine rG ?_;cases f;exact v7 ⟨⟨[0,8,9],[(0,0),(1,1),(2,2),(3,3),(4,3204),(5,3236)]⟩,by rfl⟩
  .rintro _ rfl;obtain⟨cB,cC,cD,cE,cF,cG,cH,cJ⟩:=y1;dsimp only at e|-;refine qQ ?_;obtain⟨hg36,e⟩:=qJ e;obtain⟨hg37,e⟩:=qJ e;refine BO uB ?_ (hp:=by exact⟨pT,hg36,pT,hg37⟩)
   cases e;exact pF [(0,0),(1,1),(2,2),(3,3)]
attribute [irreducible] AV
end
noncomputable section
def DI (O:((List s7)×Int×Int×pD×pE×(List qZ)×pM)):((List s7)×Int×Int×(List rW)×pM×pK)→Option (((List s7)×Int×Int×(List rW)×pM×pK)⊕((List s7)×Int×Int×(List rW)×pM×pK)):=fun(Z,aA,aB,aC,aD,aE)=>if (decide (aB=(0:Int)))=true then (zA Z aA aB (O.2.2.2.1,(O.2.2.2.2.1,(O.2.2.2.2.2.1,(aC,())))) (aD,()) aE).bind fun aF=>(zP aF aA aB (O.2.2.2.1,(O.2.2.2.2.1,(O.2.2.2.2.2.1,(aC,())))) (aD,()) aE).bind fun aG=>if (decide (aG.1=(3:Int)))=true then some (.inr (aF,aA,aB,aC,aD,aE)) else (AV aF aA aB (O.2.2.2.1,(O.2.2.2.2.1,(O.2.2.2.2.2.1,(aC,())))) (aD,()) aE).bind fun aH=>some (.inl (aH.1,aH.2.1,aH.2.2.1,aH.2.2.2.1,aH.2.2.2.2.1,aH.2.2.2.2.2)) else some (.inr (Z,aA,aB,aC,aD,aE))
def xV (O:pD):Option ((List s7)×Int×Int×pD×pE×(List qZ)×(List rW)×pM×pK):=(Gs.slices_Collect_elements_token_elements_tokensF1 O).bind fun Z=>(AU Z (0:Int) (0:Int) (([]:pD),(([]:pE),(([]:List qZ),(([]:List rW),())))) (([]:pM),()) ([]:pK)).bind fun aA=>t8 (rX (DI aA) (aA.1,aA.2.1,aA.2.2.1,([]:List rW),aA.2.2.2.2.2.2,([]:pK))) fun(aB,aC,aD,aE,aF,aG)=>(AB aB aC aD (aA.2.2.2.1,(aA.2.2.2.2.1,(aA.2.2.2.2.2.1,(aE,())))) (aF,()) ([101,110,116,114,105,101,115]:pD) aG).bind fun aH=>t8 (σ:=(List s7)) (if (decide (aH.2.2=(0:Int)))=true then (zA aH.1 aH.2.1 aH.2.2 (aA.2.2.2.1,(aA.2.2.2.2.1,(aA.2.2.2.2.2.1,(aE,())))) (aF,()) aG).bind fun aI=>some (aI) else some (aH.1) ) fun aJ=>(AB aJ aH.2.1 aH.2.2 (aA.2.2.2.1,(aA.2.2.2.2.1,(aA.2.2.2.2.2.1,(aE,())))) (aF,()) ([99,97,116,97,108,111,103]:pD) aG).bind fun aK=>t8 (σ:=(List s7)) (if (decide (aK.2.2=(0:Int)))=true then (zA aK.1 aK.2.1 aK.2.2 (aA.2.2.2.1,(aA.2.2.2.2.1,(aA.2.2.2.2.2.1,(aE,())))) (aF,()) aG).bind fun aL=>some (aL) else some (aK.1) ) fun aM=>if 0≤(0:Int)∧(0:Int)<(aM.length:Int) then if (!decide ((qW sN aM (0:Int)).1=(4:Int)))=true then (yJ aM aK.2.1 aK.2.2 (aA.2.2.2.1,(aA.2.2.2.2.1,(aA.2.2.2.2.2.1,(aE,())))) (aF,()) (3:Int) aG).bind fun aN=>some ((aM,aN.1,aN.2,aA.2.2.2.1,aA.2.2.2.2.1,aA.2.2.2.2.2.1,aE,aF,aG)) else some ((aM,aK.2.1,aK.2.2,aA.2.2.2.1,aA.2.2.2.2.1,aA.2.2.2.2.2.1,aE,aF,aG)) else none
section
variable (O:pD)
abbrev a4G:List qC:=[(.val .str O,none)]
abbrev a4H:List q9:=[]
@[go_sem] def a4I:qI:=⟨[((xV O)).isSome=true],[(.val .ref (some (0,0)),none)],[.cells sO ((val (xV O)).1,((val (xV O)).2.1,((val (xV O)).2.2.1,(((val (xV O)).2.2.2.1,((val (xV O)).2.2.2.2.1,((val (xV O)).2.2.2.2.2.1,((val (xV O)).2.2.2.2.2.2.1,())))),((some 1),((val (xV O)).2.2.2.2.2.2.2.1,())))))) [(6,2),(8,3)],.map .str .bool ((val (xV O)).2.2.2.2.2.2.2.2),.grow 53 7 (((val (xV O)).2.2.2.2.2.2.1).length),.grow 3 1 (((val (xV O)).2.2.2.2.2.2.2.1).length)]⟩
def aBT:List qC→List q9→Option qI:=rU (V:=pD) (a4G) (fun x=>a4H) fun x=>a4I x
@[go_sem] def aLK:aBT (no_index (a4G O)) (no_index a4H)=some (a4I O):=rY (fun a0 b0 h1 h2=>by cases h1;cases h2;rfl) O
end
@[go_sem] abbrev a4J:Nat×r6:=(26,⟨[.v],aBT,[],[],none⟩)
def yN:rN Tryz.prog [wO,AA,sY,BR,BQ,J8,AQ,zN,y6] (rO [a9E,ZP,aBQ,LT,FY,aBS,PJ,J9]):=⟨⟨xH,⟨BU,⟨tE,⟨D5,⟨FD,⟨OS,⟨CC,⟨E5,⟨z7,trivial⟩⟩⟩⟩⟩⟩⟩⟩⟩,qO aHb (qO aHa (qO aHW (qO PE (qO HG (qO aHY (qO TX (qO LD rR))))))),rP⟩
def aBU:r9 Tryz.prog a4J:=by
 refine rZ yN Tryz.func26 (c:=_) rfl (N:=54) pU (ts:=[(2,none)]) rfl (fun _ _=>rfl) ?_;intro O hs hrow;dsimp only[a4G,a4H,a4I,rQ,qM,r5,rF,rT,Nat.reduceAdd] at hs hrow|-;have hz:=hs;obtain⟨z0,e⟩:=aLR.1 hz
 try rw[sC e]
 clear hz hs;unfold xV at e;refine qB yN ?_;obtain⟨Z,hv1,hw1,e⟩:=qS e
 try simp only[go_sem] at hw1
 refine qB yN ?_ (hp:=by exact⟨pT,(qR hv1)⟩) (h:=by simp only[go_sem,hw1];rfl)
 obtain⟨aA,hv2,hw2,e⟩:=qS e
 try simp only[go_sem] at hw2
 refine qB yN ?_ (hp:=by exact⟨pT,pT,pT,pT,(qR hv2)⟩) (h:=by simp only[go_sem,hw2];rfl)
 refine qT (s9 ?_);obtain⟨y1,hy1,e⟩:=qK e;refine v6 0 (fun s=>s=(fun x=>⟨[(3,(.val .ref (some (0,0)),none))],[(0,.cells sO (x.1,(x.2.1,(x.2.2.1,((aA.2.2.2.1,(aA.2.2.2.2.1,(aA.2.2.2.2.2.1,(x.2.2.2.1,())))),((some 1),(x.2.2.2.2.1,())))))) [(6,2),(8,3)]),(1,.map .str .bool x.2.2.2.2.2),(2,.grow 53 7 (x.2.2.2.1.length)),(3,.grow 3 1 (x.2.2.2.2.1.length))],4,54,0⟩) y1) ?_ ?_
 .refine uS hy1 (fun x=>⟨[(3,(.val .ref (some (0,0)),none))],[(0,.cells sO (x.1,(x.2.1,(x.2.2.1,((aA.2.2.2.1,(aA.2.2.2.2.1,(aA.2.2.2.2.2.1,(x.2.2.2.1,())))),((some 1),(x.2.2.2.2.1,())))))) [(6,2),(8,3)]),(1,.map .str .bool x.2.2.2.2.2),(2,.grow 53 7 (x.2.2.2.1.length)),(3,.grow 3 1 (x.2.2.2.2.1.length))],4,54,0⟩) ⟨[3],[(0,192),(1,128),(2,195),(3,196)]⟩ pV ?_;intro x1 w1 n1 d f;obtain⟨aB,aC,aD,aE,aF,aG⟩:=x1;unfold DI at d;dsimp only at d|-;refine qT ?_;refine qB yN ?_;refine qY d (fun d hc1=> ?_) (fun d hc1=> ?_)
  .refine rG (qQ (s9 ?_));obtain⟨aH,hv3,hw3,d⟩:=qS d
   try simp only[go_sem] at hw3
   refine qB yN ?_ (hp:=by exact⟨pT,pT,pT,pT,pT,(qR hv3)⟩) (h:=by simp only[go_sem,hw3];rfl)
   refine qT ?_;obtain⟨aI,hv4,hw4,d⟩:=qS d
   try simp only[go_sem] at hw4
   refine qB yN ?_ (hp:=by exact⟨pT,pT,pT,pT,pT,pT,(qR hv4)⟩) (h:=by simp only[go_sem,hw4];rfl)
   refine qY d (fun d hc2=> ?_) (fun d hc2=> ?_)
   .refine uO (uN (a8x pH (uQ ?_)));cases d;cases f;exact uP ⟨⟨[3],[(0,0),(1,1),(2,2),(3,3)]⟩,by rfl⟩
   .refine rG (qQ ?_);obtain⟨aJ,hv5,hw5,d⟩:=qS d
    try simp only[go_sem] at hw5
    refine rL yN ?_ (hp:=by exact⟨pT,pT,(qR hv5)⟩) (h:=by simp only[go_sem,hw5];rfl)
    refine rV ?_;cases d;exact tQ ⟨⟨[3],[(0,0),(1,1),(2,2),(3,3)]⟩,_,by rfl,f⟩
  .refine uO (uN (uQ ?_));cases d;cases f;exact uP ⟨⟨[3],[(0,0),(1,1),(2,2),(3,3)]⟩,by rfl⟩
 .rintro _ rfl;obtain⟨aK,aL,aM,aN,aO,aP⟩:=y1;dsimp only at e|-;refine uY (qQ ?_);obtain⟨aQ,hv6,hw6,e⟩:=qS e
  try simp only[go_sem] at hw6
  refine qB yN ?_ (hp:=by exact⟨pT,pT,pT,pT,pT,(qR hv6)⟩) (h:=by simp only[go_sem,hw6];rfl)
  refine qT ?_;refine qB yN ?_;obtain⟨aR,d,e⟩:=qK e;refine AO (fun s=>s=(fun x=>⟨[(3,(.val .ref (some (0,0)),none))],[(0,.cells sO (x,(aQ.2.1,(aQ.2.2,((aA.2.2.2.1,(aA.2.2.2.2.1,(aA.2.2.2.2.2.1,(aN,())))),((some 1),(aO,())))))) [(6,2),(8,3)]),(1,.map .str .bool aP),(2,.grow 53 7 (aN.length)),(3,.grow 3 1 (aO.length))],4,54,0⟩) aR) ?_ ?_
  .refine qY d (fun d hc3=> ?_) (fun d hc3=> ?_)
   .obtain⟨aS,hv7,hw7,d⟩:=qS d
    try simp only[go_sem] at hw7
    refine rL yN ?_ (hp:=by exact⟨pT,pT,pT,pT,pT,(qR hv7)⟩) (h:=by simp only[go_sem,hw7];rfl)
    cases d;exact v7 ⟨⟨[3],[(0,0),(1,1),(2,2),(3,3)]⟩,by rfl⟩
   .refine rG ?_;cases d;exact v7 ⟨⟨[3],[(0,0),(1,1),(2,2),(3,3)]⟩,by rfl⟩
  .rintro _ rfl;dsimp only at e|-;refine qQ ?_;obtain⟨aT,hv8,hw8,e⟩:=qS e
   try simp only[go_sem] at hw8
   refine qB yN ?_ (hp:=by exact⟨pT,pT,pT,pT,pT,(qR hv8)⟩) (h:=by simp only[go_sem,hw8];rfl)
   refine qT ?_;refine qB yN ?_;obtain⟨aU,d,e⟩:=qK e;refine AO (fun s=>s=(fun x=>⟨[(3,(.val .ref (some (0,0)),none))],[(0,.cells sO (x,(aT.2.1,(aT.2.2,((aA.2.2.2.1,(aA.2.2.2.2.1,(aA.2.2.2.2.2.1,(aN,())))),((some 1),(aO,())))))) [(6,2),(8,3)]),(1,.map .str .bool aP),(2,.grow 53 7 (aN.length)),(3,.grow 3 1 (aO.length))],4,54,0⟩) aU) ?_ ?_
   .refine qY d (fun d hc4=> ?_) (fun d hc4=> ?_)
    .obtain⟨aV,hv9,hw9,d⟩:=qS d
     try simp only[go_sem] at hw9
     refine rL yN ?_ (hp:=by exact⟨pT,pT,pT,pT,pT,(qR hv9)⟩) (h:=by simp only[go_sem,hw9];rfl)
     cases d;exact v7 ⟨⟨[3],[(0,0),(1,1),(2,2),(3,3)]⟩,by rfl⟩
    .refine rG ?_;cases d;exact v7 ⟨⟨[3],[(0,0),(1,1),(2,2),(3,3)]⟩,by rfl⟩
   .rintro _ rfl;dsimp only at e|-;refine qQ (qT ?_);obtain⟨hg10,e⟩:=qJ e;refine qB yN ?_ (hp:=by exact hg10);refine qY e (fun e hc5=> ?_) (fun e hc5=> ?_)
    .obtain⟨aW,hv11,hw11,e⟩:=qS e
     try simp only[go_sem] at hw11
     refine rL yN ?_ (hp:=by exact⟨pT,pT,pT,pT,pT,(qR hv11)⟩) (h:=by simp only[go_sem,hw11];rfl)
     refine qQ ?_;refine qB yN ?_;refine qV ?_;cases e;exact pF [(0,0),(1,1),(2,2),(3,3)]
    .refine rG (qQ ?_);refine qB yN ?_;refine qV ?_;cases e;exact pF [(0,0),(1,1),(2,2),(3,3)]
def M2 (O:pD) (Z:((List s7)×Int×Int×pD×pE×(List qZ)×(List rW)×pM×pK)):(Int×pE)→Option ((Int×pE)⊕pE):=fun(aA,aB)=>if (decide (aA<(Z.2.2.2.2.2.2.2.1.length:Int)))=true then if qE (aA- (1:Int)) then if 0≤(aA- (1:Int))∧(aA- (1:Int))<(Z.2.2.2.2.2.2.2.1.length:Int) then if 0≤aA∧aA<(Z.2.2.2.2.2.2.2.1.length:Int) then if 0≤(qW (.int .i64) Z.2.2.2.2.2.2.2.1 (aA- (1:Int)))∧(qW (.int .i64) Z.2.2.2.2.2.2.2.1 (aA- (1:Int)))≤(qW (.int .i64) Z.2.2.2.2.2.2.2.1 aA)∧(qW (.int .i64) Z.2.2.2.2.2.2.2.1 aA)≤(O.length:Int) then if (aB.length+([(sD O (qW (.int .i64) Z.2.2.2.2.2.2.2.1 (aA- (1:Int))) (qW (.int .i64) Z.2.2.2.2.2.2.2.1 aA))]:pE).length)*16≤140737488355328 then if qE (aA+(1:Int)) then some (.inl ((aA+(1:Int)),(aB++([(sD O (qW (.int .i64) Z.2.2.2.2.2.2.2.1 (aA- (1:Int))) (qW (.int .i64) Z.2.2.2.2.2.2.2.1 aA))]:pE)))) else none else none else none else none else none else none else some (.inr aB)
def AW (O:pD):Option (pD×pE×pD×Int):=(xV O).bind fun Z=>if (!decide (Z.2.2.1=(0:Int)))=true then some ((([]:pD),([]:pE),([]:pD),Z.2.2.1)) else if 0≤(0:Int)∧(0:Int)<(Z.2.2.2.2.2.2.2.1.length:Int) then if 0≤(0:Int)∧(0:Int)≤(qW (.int .i64) Z.2.2.2.2.2.2.2.1 (0:Int))∧(qW (.int .i64) Z.2.2.2.2.2.2.2.1 (0:Int))≤(O.length:Int) then if qE ((Z.2.2.2.2.2.2.2.1.length:Int)- (1:Int)) then if 0≤((Z.2.2.2.2.2.2.2.1.length:Int)- (1:Int))∧((Z.2.2.2.2.2.2.2.1.length:Int)- (1:Int))<(Z.2.2.2.2.2.2.2.1.length:Int) then if 0≤(qW (.int .i64) Z.2.2.2.2.2.2.2.1 ((Z.2.2.2.2.2.2.2.1.length:Int)- (1:Int)))∧(qW (.int .i64) Z.2.2.2.2.2.2.2.1 ((Z.2.2.2.2.2.2.2.1.length:Int)- (1:Int)))≤(O.length:Int)∧(O.length:Int)≤(O.length:Int) then t8 (rX (M2 O Z) ((1:Int),([]:pE))) fun aA=>some (((sD O (0:Int) (qW (.int .i64) Z.2.2.2.2.2.2.2.1 (0:Int))),aA,(sD O (qW (.int .i64) Z.2.2.2.2.2.2.2.1 ((Z.2.2.2.2.2.2.2.1.length:Int)- (1:Int))) (O.length:Int)),(0:Int))) else none else none else none else none else none
section
variable (O:pD)
abbrev a4K:List qC:=[(.val .str O,none)]
abbrev a4L:List q9:=[]
@[go_sem] def a4M:qI:=⟨[((AW O)).isSome=true],[(.val zM ((val (AW O)).1,((val (AW O)).2.1,((val (AW O)).2.2.1,()))),none),(.val (.int .i64) ((val (AW O)).2.2.2),none)],[]⟩
def aBV:List qC→List q9→Option qI:=rU (V:=pD) (a4K) (fun x=>a4L) fun x=>a4M x
@[go_sem] def aLL:aBV (no_index (a4K O)) (no_index a4L)=some (a4M O):=rY (fun a0 b0 h1 h2=>by cases h1;cases h2;rfl) O
end
@[go_sem] abbrev aBW:Nat×r6:=(9,⟨[.v],aBV,[],[],none⟩)
def DJ:rN Tryz.prog [wO,sY,xU,E6,BR,FH,AQ] (rO [a4J]):=⟨⟨xH,⟨tE,⟨yI,⟨GZ,⟨D5,⟨J7,⟨CC,trivial⟩⟩⟩⟩⟩⟩⟩,qO aBU rR,rP⟩
def aHZ:r9 Tryz.prog aBW:=by
 refine rZ DJ Tryz.func9 (c:=_) rfl (N:=74) pU (ts:=[(2,some 26),(3,none)]) rfl (fun _ _=>rfl) ?_;intro O hs hrow;dsimp only[a4K,a4L,a4M,rQ,qM,r5,rF,rT,Nat.reduceAdd] at hs hrow|-;have hz:=hs;obtain⟨z0,e⟩:=aLR.1 hz
 try rw[sC e]
 clear hz hs;unfold AW at e;refine qB DJ ?_;obtain⟨Z,hv1,hw1,e⟩:=qS e
 try simp only[go_sem] at hw1
 refine qB DJ ?_ (hp:=by exact(qR hv1)) (h:=by simp only[go_sem,hw1];rfl);refine qT ?_;refine qB DJ ?_;refine qY e (fun e hc1=> ?_) (fun e hc1=> ?_)
 .refine vZ DJ ?_;refine qV (s8 ?_);cases e;exact pF []
 .refine rG (qQ ?_);obtain⟨hg2,e⟩:=qJ e;obtain⟨hg3,e⟩:=qJ e;obtain⟨hg4,e⟩:=qJ e;obtain⟨hg5,e⟩:=qJ e;obtain⟨hg6,e⟩:=qJ e;refine vZ DJ ?_ (hp:=by exact⟨hg2,hg3,hg4,hg5,hg6⟩);refine qT ?_;refine qB DJ ?_;refine s9 ?_;obtain⟨aA,hy1,e⟩:=qK e;refine v6 0 (fun s=>s=(fun x=>⟨[(2,(.val .ref (some (0,0)),none)),(5,(.val .ref (some (1,0)),none))],[(0,.cells zM (([]:pD),(([]:pE),(([]:pD),()))) [(1,2)]),(1,.cells zM ((sD O (0:Int) (qW (.int .i64) Z.2.2.2.2.2.2.2.1 (0:Int))),(x,((sD O (qW (.int .i64) Z.2.2.2.2.2.2.2.1 ((Z.2.2.2.2.2.2.2.1.length:Int)- (1:Int))) (O.length:Int)),()))) [(1,3)]),(2,.grow 9 1 (([]:pE).length)),(3,.grow 9 1 (x.length))],4,74,0⟩) aA) ?_ ?_
  .refine uS hy1 (fun x=>⟨[(0,(.val .str O,none)),(2,(.val .ref (some (0,0)),none)),(4,(.val .ref (some (1,0)),none)),(5,(.val .ref (some (2,0)),none)),(6,(.val (.int .i64) x.1,none))],[(0,.cells zM (([]:pD),(([]:pE),(([]:pD),()))) [(1,3)]),(1,.cells sO (Z.1,(Z.2.1,(Z.2.2.1,((Z.2.2.2.1,(Z.2.2.2.2.1,(Z.2.2.2.2.2.1,(Z.2.2.2.2.2.2.1,())))),((some 4),(Z.2.2.2.2.2.2.2.1,())))))) [(6,5),(8,6)]),(2,.cells zM ((sD O (0:Int) (qW (.int .i64) Z.2.2.2.2.2.2.2.1 (0:Int))),(x.2,((sD O (qW (.int .i64) Z.2.2.2.2.2.2.2.1 ((Z.2.2.2.2.2.2.2.1.length:Int)- (1:Int))) (O.length:Int)),()))) [(1,7)]),(3,.grow 9 1 (([]:pE).length)),(4,.map .str .bool Z.2.2.2.2.2.2.2.2),(5,.grow 53 7 (Z.2.2.2.2.2.2.1.length)),(6,.grow 3 1 (Z.2.2.2.2.2.2.2.1.length)),(7,.grow 9 1 (x.2.length))],8,74,0⟩) ⟨[0,2,4,5,6],[(0,0),(1,96),(2,1056),(3,1),(4,97),(5,98),(6,99),(7,1088)]⟩ pV ?_;intro x1 w1 n1 d f;obtain⟨aB,aC⟩:=x1;unfold M2 at d;dsimp only at d|-;refine qT ?_;refine qB DJ ?_;refine qY d (fun d hc2=> ?_) (fun d hc2=> ?_)
   .refine rG (qQ (qT (s9 ?_)));obtain⟨hg7,d⟩:=qJ d;obtain⟨hg8,d⟩:=qJ d;obtain⟨hg9,d⟩:=qJ d;obtain⟨hg10,d⟩:=qJ d;obtain⟨hg11,d⟩:=qJ d;refine BO DJ ?_ (hp:=by exact⟨hg7,hg8,hg9,hg10,pT,hg11⟩)
    refine rV (qQ ?_);obtain⟨hg12,d⟩:=qJ d;refine rL DJ ?_ (hp:=by exact hg12);cases d;exact tQ ⟨⟨[0,2,4,5,6],[(0,0),(1,1),(2,2),(3,3),(4,4),(5,5),(6,6),(7,7)]⟩,_,by rfl,f⟩
   .refine uO (uN (uQ ?_));cases d;cases f;exact uP ⟨⟨[2,5],[(0,0),(1,2),(2,3),(3,7)]⟩,by rfl⟩
  .rintro _ rfl;dsimp only at e|-;refine uY (qQ ?_);refine qB DJ ?_;refine qV ?_;cases e;exact pF []
attribute [irreducible] xV AW
end
noncomputable section
def wQ (O:pD):Option (pD×pE×(List qZ)×(List rW)×Int×Int):=(xV O).bind fun Z=>if (!decide (Z.2.2.1=(0:Int)))=true then some ((([]:pD),([]:pE),([]:List qZ),([]:List rW),Z.2.1,Z.2.2.1)) else some ((Z.2.2.2.1,Z.2.2.2.2.1,Z.2.2.2.2.2.1,Z.2.2.2.2.2.2.1,(0:Int),(0:Int)))
section
variable (O:pD)
abbrev a4N:List qC:=[(.val .str O,none)]
abbrev a4O:List q9:=[]
@[go_sem] def a4P:qI:=⟨[((wQ O)).isSome=true],[(.val FB ((val (wQ O)).1,((val (wQ O)).2.1,((val (wQ O)).2.2.1,((val (wQ O)).2.2.2.1,())))),none),(.val (.int .i64) ((val (wQ O)).2.2.2.2.1),none),(.val (.int .i64) ((val (wQ O)).2.2.2.2.2),none)],[]⟩
def aBX:List qC→List q9→Option qI:=rU (V:=pD) (a4N) (fun x=>a4O) fun x=>a4P x
@[go_sem] def aLM:aBX (no_index (a4N O)) (no_index a4O)=some (a4P O):=rY (fun a0 b0 h1 h2=>by cases h1;cases h2;rfl) O
end
@[go_sem] abbrev a4Q:Nat×r6:=(12,⟨[.v],aBX,[],[],none⟩)
def M3:rN Tryz.prog [wO,BR,D7,AQ] (rO [a4J]):=⟨⟨xH,⟨D5,⟨FG,⟨CC,trivial⟩⟩⟩⟩,qO aBU rR,rP⟩
def aBY:r9 Tryz.prog a4Q:=by
 refine rZ M3 Tryz.func12 (c:=_) rfl (N:=26) pU (ts:=[(2,some 36),(3,none),(4,none)]) rfl (fun _ _=>rfl) ?_;intro O hs hrow;dsimp only[a4N,a4O,a4P,rQ,qM,r5,rF,rT,Nat.reduceAdd] at hs hrow|-;have hz:=hs;obtain⟨z0,e⟩:=aLR.1 hz
 try rw[sC e]
 clear hz hs;unfold wQ at e;refine qB M3 ?_;obtain⟨Z,hv1,hw1,e⟩:=qS e
 try simp only[go_sem] at hw1
 refine qB M3 ?_ (hp:=by exact(qR hv1)) (h:=by simp only[go_sem,hw1];rfl);refine qT ?_;refine qB M3 ?_;refine qY e (fun e hc1=> ?_) (fun e hc1=> ?_)
 .refine vZ M3 ?_;refine qV (s8 ?_);cases e;exact pF []
 .refine rG (qQ ?_);refine qB M3 ?_;refine qV ?_;cases e;exact pF []
def M4:Option Bool:=(wQ ([60,99,97,116,97,108,111,103,32,116,97,103,61,34,100,101,34,62,60,101,110,116,114,105,101,115,62,60,101,110,116,114,121,32,105,100,61,34,97,34,62,60,116,97,114,103,101,116,62,120,60,47,116,97,114,103,101,116,62,60,47,101,110,116,114,121,62,60,47,101,110,116,114,105,101,115,62,60,47,99,97,116,97,108,111,103,62]:pD)).bind fun O=>if (((((decide (O.2.2.2.2.2=(0:Int)))&&(decide (O.1=([100,101]:pD))))&&(decide ((O.2.2.2.1.length:Int)=(1:Int))))==true)=true→0≤(0:Int)∧(0:Int)<(O.2.2.2.1.length:Int)) then if ((((((decide (O.2.2.2.2.2=(0:Int)))&&(decide (O.1=([100,101]:pD))))&&(decide ((O.2.2.2.1.length:Int)=(1:Int))))&&(decide ((qW tC O.2.2.2.1 (0:Int)).1=([97]:pD))))==true)=true→0≤(0:Int)∧(0:Int)<(O.2.2.2.1.length:Int)) then some ((((((decide (O.2.2.2.2.2=(0:Int)))&&(decide (O.1=([100,101]:pD))))&&(decide ((O.2.2.2.1.length:Int)=(1:Int))))&&(decide ((qW tC O.2.2.2.1 (0:Int)).1=([97]:pD))))&&(decide ((qW tC O.2.2.2.1 (0:Int)).2.2.1=([120]:pD))))) else none else none
section
abbrev a4R:List qC:=[]
abbrev a4S:List q9:=[]
@[go_sem] def a4T:qI:=⟨[(M4).isSome=true],[(.val .bool (val M4),none)],[]⟩
def aBZ:List qC→List q9→Option qI:=rU (V:=Unit) (fun x=>a4R) (fun x=>a4S) fun x=>a4T
@[go_sem] def aLN:aBZ (no_index a4R) (no_index a4S)=some a4T:=rY (fun _ _ h1 h2=>by cases h1;cases h2;rfl) ()
end
@[go_sem] abbrev aB0:Nat×r6:=(8,⟨[],aBZ,[],[],none⟩)
def U2:rN Tryz.prog [sY,J6,D7,A9] (rO [a4Q]):=⟨⟨tE,⟨OR,⟨FG,⟨BS,trivial⟩⟩⟩⟩,qO aBY rR,rP⟩
def aH0:r9 Tryz.prog aB0:=by
 refine rZ U2 Tryz.func8 (c:=_) rfl (N:=38) pU (ts:=[(0,none)]) rfl (fun _ _=>rfl) ?_;intro⟨⟩ hs hrow;dsimp only[a4R,a4S,a4T,rQ,qM,r5,rF,rT,Nat.reduceAdd] at hs hrow|-;have hz:=hs;obtain⟨z0,e⟩:=aLR.1 hz
 try rw[sC e]
 clear hz hs;unfold M4 at e;refine qB U2 ?_ (h:=by simp only[List.append_eq,go_sem];rfl);obtain⟨O,hv1,hw1,e⟩:=qS e
 try simp only[go_sem] at hw1
 refine qB U2 ?_ (hp:=by exact(qR hv1)) (h:=by simp only[List.append_eq,go_sem,hw1];rfl);obtain⟨hg2,e⟩:=qJ e;obtain⟨hg3,e⟩:=qJ e;refine qB U2 ?_ (hp:=by exact⟨id,id,sZ,id,id,id,sZ,id,id,hg2,id,id,id,sZ,id,id,hg3,id,id,id,sZ⟩) (h:=by simp only[List.append_eq,go_sem];rfl);refine qV ?_;cases e;exact pF []
def JS (O:pM):(pD×Int)→Option ((pD×Int)⊕pD):=fun(Z,aA)=>if (decide (aA<(O.length:Int)))=true then if 0≤aA∧aA<(O.length:Int) then if (([([32]:pD),([10]:pD),([9]:pD),([13]:pD),([60,33,45,45,32,97,32,60,32,34,32,62,32,45,45,62]:pD),([60,33,45,45,45,45,62]:pD),([60,33,45,45,126,45,45,62]:pD)]:pE).length:Int)≠0 then if 0≤(Int.tmod (IntKind.wrap .i64 (qW (.int .u8) O aA)) (([([32]:pD),([10]:pD),([9]:pD),([13]:pD),([60,33,45,45,32,97,32,60,32,34,32,62,32,45,45,62]:pD),([60,33,45,45,45,45,62]:pD),([60,33,45,45,126,45,45,62]:pD)]:pE).length:Int))∧(Int.tmod (IntKind.wrap .i64 (qW (.int .u8) O aA)) (([([32]:pD),([10]:pD),([9]:pD),([13]:pD),([60,33,45,45,32,97,32,60,32,34,32,62,32,45,45,62]:pD),([60,33,45,45,45,45,62]:pD),([60,33,45,45,126,45,45,62]:pD)]:pE).length:Int))<(([([32]:pD),([10]:pD),([9]:pD),([13]:pD),([60,33,45,45,32,97,32,60,32,34,32,62,32,45,45,62]:pD),([60,33,45,45,45,45,62]:pD),([60,33,45,45,126,45,45,62]:pD)]:pE).length:Int) then if ((Z++(qW .str ([([32]:pD),([10]:pD),([9]:pD),([13]:pD),([60,33,45,45,32,97,32,60,32,34,32,62,32,45,45,62]:pD),([60,33,45,45,45,45,62]:pD),([60,33,45,45,126,45,45,62]:pD)]:pE) (Int.tmod (IntKind.wrap .i64 (qW (.int .u8) O aA)) (([([32]:pD),([10]:pD),([9]:pD),([13]:pD),([60,33,45,45,32,97,32,60,32,34,32,62,32,45,45,62]:pD),([60,33,45,45,45,45,62]:pD),([60,33,45,45,126,45,45,62]:pD)]:pE).length:Int)))).length:Int)≤9223372036854775807 then if qE (aA+(1:Int)) then some (.inl ((Z++(qW .str ([([32]:pD),([10]:pD),([9]:pD),([13]:pD),([60,33,45,45,32,97,32,60,32,34,32,62,32,45,45,62]:pD),([60,33,45,45,45,45,62]:pD),([60,33,45,45,126,45,45,62]:pD)]:pE) (Int.tmod (IntKind.wrap .i64 (qW (.int .u8) O aA)) (([([32]:pD),([10]:pD),([9]:pD),([13]:pD),([60,33,45,45,32,97,32,60,32,34,32,62,32,45,45,62]:pD),([60,33,45,45,45,45,62]:pD),([60,33,45,45,126,45,45,62]:pD)]:pE).length:Int)))),(aA+(1:Int)))) else none else none else none else none else none else some (.inr Z)
def JT (O:pD) (Z:Int) (aA:pM):Option Bool:=M4.bind fun aB=>if (!aB)=true then some (false) else if ((decide ((4000:Int)<(O.length:Int)))||(decide ((10:Int)<(aA.length:Int))))=true then some (true) else (AW O).bind fun aC=>if (!decide (aC.2.2.2=(0:Int)))=true then some (true) else t8 (rX (JS aA) (([]:pD),(0:Int))) fun aD=>if qE ((aC.2.1.length:Int)+(2:Int)) then if ((aC.2.1.length:Int)+(2:Int))≠0 then (FQ (aC.1,(aC.2.1,(aC.2.2.1,()))) (Int.tmod (IntKind.wrap .i64 Z) ((aC.2.1.length:Int)+(2:Int)))).bind fun aE=>if ((aD++aE.1).length:Int)≤9223372036854775807 then (DE (aC.1,(aC.2.1,(aC.2.2.1,()))) (Int.tmod (IntKind.wrap .i64 Z) ((aC.2.1.length:Int)+(2:Int))) (aD++aE.1)).bind fun aF=>(wQ O).bind fun aG=>(JJ (aF.1,(aF.2.1,(aF.2.2.1,())))).bind fun aH=>(wQ aH).bind fun aI=>if ((O++aD).length:Int)≤9223372036854775807 then (wQ (O++aD)).bind fun aJ=>if ((((((decide (aF.2.2.2=(0:Int)))&&(decide (aG.2.2.2.2.2=(0:Int))))&&(decide (aI.2.2.2.2.2=(0:Int))))&&(decide (aJ.2.2.2.2.2=(0:Int))))==true)=true→((JN (aG.1,(aG.2.1,(aG.2.2.1,(aG.2.2.2.1,())))) (aI.1,(aI.2.1,(aI.2.2.1,(aI.2.2.2.1,())))))).isSome=true) then if (((((((decide (aF.2.2.2=(0:Int)))&&(decide (aG.2.2.2.2.2=(0:Int))))&&(decide (aI.2.2.2.2.2=(0:Int))))&&(decide (aJ.2.2.2.2.2=(0:Int))))&&((((decide (aG.1=aI.1))&&(val (wI aG.2.1 aI.2.1)))&&(val (z8 aG.2.2.1 aI.2.2.1)))&&(val (CG aG.2.2.2.1 aI.2.2.2.1))))==true)=true→((JN (aG.1,(aG.2.1,(aG.2.2.1,(aG.2.2.2.1,())))) (aJ.1,(aJ.2.1,(aJ.2.2.1,(aJ.2.2.2.1,())))))).isSome=true) then some (((((((decide (aF.2.2.2=(0:Int)))&&(decide (aG.2.2.2.2.2=(0:Int))))&&(decide (aI.2.2.2.2.2=(0:Int))))&&(decide (aJ.2.2.2.2.2=(0:Int))))&&((((decide (aG.1=aI.1))&&(val (wI aG.2.1 aI.2.1)))&&(val (z8 aG.2.2.1 aI.2.2.1)))&&(val (CG aG.2.2.2.1 aI.2.2.2.1))))&&((((decide (aG.1=aJ.1))&&(val (wI aG.2.1 aJ.2.1)))&&(val (z8 aG.2.2.1 aJ.2.2.1)))&&(val (CG aG.2.2.2.1 aJ.2.2.2.1))))) else none else none else none else none else none else none
section
variable (O:pD) (Z:Int) (aA:pM)
abbrev PR:List qC:=[(.val .str O,none),(.val (.int .u8) Z,none),(.val (.list (.int .u8)) aA,none)]
abbrev U3:List q9:=[]
@[go_sem] def M5:qI:=⟨[((JT O Z aA)).isSome=true],[(.val .bool (val (JT O Z aA)),none)],[]⟩
def a4U:List qC→List q9→Option qI:=rU (V:=(pD×Int×pM)) (fun x=>PR x.1 x.2.1 x.2.2) (fun x=>U3) fun x=>M5 x.1 x.2.1 x.2.2
@[go_sem] def aH1:a4U (no_index (PR O Z aA)) (no_index U3)=some (M5 O Z aA):=rY (fun⟨a0,a1,a2⟩ ⟨b0,b1,b2⟩ h1 h2=>by cases h1;cases h2;rfl) (O,Z,aA)
end
@[go_sem] abbrev aH2:Nat×r6:=(3,⟨[.v,.v,.v],a4U,[],[],none⟩)
def wZ:rN Tryz.prog [wO,J5,sY,FE,xU,E6,D7] (rO [aB0,aBW,aAP,aAR,a4Q,aAU,aBk]):=⟨⟨xH,⟨OP,⟨tE,⟨J3,⟨yI,⟨GZ,⟨FG,trivial⟩⟩⟩⟩⟩⟩⟩,qO aH0 (qO aHZ (qO aHy (qO aHz (qO aBY (qO aHA (qO aHJ rR)))))),rP⟩
def aH3:r9 Tryz.prog aH2:=by
 refine rZ wZ Tryz.func3 (c:=_) rfl (N:=130) pU (ts:=[(6,none)]) rfl (fun _ _=>rfl) ?_;intro⟨O,Z,aA⟩ hs hrow;dsimp only[PR,U3,M5,rQ,qM,r5,rF,rT,Nat.reduceAdd] at hs hrow|-;have hz:=hs;obtain⟨z0,e⟩:=aLR.1 hz
 try rw[sC e]
 clear hz hs;unfold JT at e;refine qB wZ ?_;refine qT ?_;obtain⟨aB,hv1,hw1,e⟩:=qS e
 try simp only[go_sem] at hw1
 refine qB wZ ?_ (hp:=by exact(qR hv1)) (h:=by simp (maxSteps:=2000000) only[go_sem,hw1];rfl);refine qY e (fun e hc1=> ?_) (fun e hc1=> ?_)
 .refine qB wZ ?_;refine qV (s8 ?_);cases e;exact pF []
 .refine rG (qQ (qT ?_));refine qB wZ ?_ (hp:=by exact⟨id,id,tK⟩);refine qY e (fun e hc2=> ?_) (fun e hc2=> ?_)
  .refine qB wZ ?_;refine qV (s8 ?_);cases e;exact pF []
  .refine rG (qQ ?_);obtain⟨aC,hv2,hw2,e⟩:=qS e
   try simp only[go_sem] at hw2
   refine qB wZ ?_ (hp:=by exact(qR hv2)) (h:=by simp (maxSteps:=2000000) only[go_sem,hw2];rfl);refine qT ?_;refine qB wZ ?_;refine qY e (fun e hc3=> ?_) (fun e hc3=> ?_)
   .refine qB wZ ?_;refine qV (s8 ?_);cases e;exact pF []
   .refine rG (qQ ?_);refine qB wZ ?_;refine qB wZ ?_;refine qT ?_;refine qB wZ ?_;refine s9 ?_;obtain⟨aD,hy1,e⟩:=qK e;refine v6 0 (fun s=>s=(fun x=>⟨[(0,(.val .str O,none)),(1,(.val (.int .u8) Z,none)),(7,(.val .ref (some (0,0)),none)),(10,(.val .str x,none))],[(0,.cells zM (aC.1,(aC.2.1,(aC.2.2.1,()))) [])],1,130,0⟩) aD) ?_ ?_
    .refine uS hy1 (fun x=>⟨[(0,(.val .str O,none)),(1,(.val (.int .u8) Z,none)),(2,(.val (.list (.int .u8)) aA,none)),(7,(.val .ref (some (0,0)),none)),(9,(.val (.list .str) ([([32]:pD),([10]:pD),([9]:pD),([13]:pD),([60,33,45,45,32,97,32,60,32,34,32,62,32,45,45,62]:pD),([60,33,45,45,45,45,62]:pD),([60,33,45,45,126,45,45,62]:pD)]:pE),some 1)),(10,(.val .str x.1,none)),(11,(.val (.int .i64) x.2,none))],[(0,.cells zM (aC.1,(aC.2.1,(aC.2.2.1,()))) []),(1,.grow 9 1 (([([32]:pD),([10]:pD),([9]:pD),([13]:pD),([60,33,45,45,32,97,32,60,32,34,32,62,32,45,45,62]:pD),([60,33,45,45,45,45,62]:pD),([60,33,45,45,126,45,45,62]:pD)]:pE).length))],2,130,0⟩) ⟨[0,1,2,7,9,10,11],[(0,512),(1,672)]⟩ pV ?_;intro x1 w1 n1 f g;obtain⟨aE,aF⟩:=x1;unfold JS at f;dsimp only at f|-;refine qT ?_;refine qB wZ ?_;refine qY f (fun f hc4=> ?_) (fun f hc4=> ?_)
     .refine rG (qQ (qT (s9 ?_)));obtain⟨hg3,f⟩:=qJ f;obtain⟨hg4,f⟩:=qJ f;obtain⟨hg5,f⟩:=qJ f;obtain⟨hg6,f⟩:=qJ f;refine rL wZ ?_ (hp:=by exact⟨hg3,hg4,hg5,hg6⟩);refine rV (qQ ?_);obtain⟨hg7,f⟩:=qJ f;refine rL wZ ?_ (hp:=by exact hg7);cases f;exact tQ ⟨⟨[0,1,2,7,9,10,11],[(0,0),(1,1)]⟩,_,by rfl,g⟩
     .refine uO (uN (uQ ?_));cases f;cases g;exact uP ⟨⟨[0,1,7,10],[(0,0)]⟩,by rfl⟩
    .rintro _ rfl;dsimp only at e|-;refine uY (qQ ?_);obtain⟨hg8,e⟩:=qJ e;obtain⟨hg9,e⟩:=qJ e;refine qB wZ ?_ (hp:=by exact⟨hg8,hg9⟩);obtain⟨aG,hv10,hw10,e⟩:=qS e
     try simp only[go_sem] at hw10
     refine qB wZ ?_ (hp:=by exact(qR hv10)) (h:=by simp (maxSteps:=2000000) only[go_sem,hw10];rfl);obtain⟨hg11,e⟩:=qJ e;obtain⟨aH,hv12,hw12,e⟩:=qS e
     try simp only[go_sem] at hw12
     refine qB wZ ?_ (hp:=by exact⟨hg11,(qR hv12)⟩) (h:=by simp (maxSteps:=2000000) only[go_sem,hw12];rfl);obtain⟨aI,hv13,hw13,e⟩:=qS e
     try simp only[go_sem] at hw13
     refine qB wZ ?_ (hp:=by exact(qR hv13)) (h:=by simp (maxSteps:=2000000) only[go_sem,hw13];rfl);obtain⟨aJ,hv14,hw14,e⟩:=qS e
     try simp only[go_sem] at hw14
     obtain⟨aK,hv15,hw15,e⟩:=qS e
     try simp only[go_sem] at hw15
     refine qB wZ ?_ (hp:=by exact⟨qR hv14,(qR hv15)⟩) (h:=by simp (maxSteps:=2000000) only[go_sem,hw14,hw15];rfl);obtain⟨hg16,e⟩:=qJ e;obtain⟨aL,hv17,hw17,e⟩:=qS e
     try simp only[go_sem] at hw17
     refine qB wZ ?_ (hp:=by exact⟨hg16,(qR hv17)⟩) (h:=by simp (maxSteps:=2000000) only[go_sem,hw17];rfl);obtain⟨hg18,e⟩:=qJ e;obtain⟨hg19,e⟩:=qJ e;refine qB wZ ?_ (hp:=by exact⟨id,sZ,id,sZ,id,sZ,id,id,hg18,sZ,id,id,hg19,sZ⟩);refine qV ?_;cases e;exact pF []
attribute [irreducible] wQ M4 JT
end
end Go.Proofs.YtkpflnijijccpaaGreatDoor
section
end
namespace Go.Proofs.YtkpflnijijccpaaGreatDoor
open Vc
theorem FZ {σ ρ:Type}(f:σ->Option (σ⊕ρ)) (x:σ):rX f x=(f x).bind fun w=>match w with
  | .inl y=>rX f y
  | .inr r=>some r:=by
 cases h:f x with
 |none=>
  cases h2:rX f x with
  |none=>rfl
  |some r=>
   obtain⟨n,hn⟩:=SY h2;cases n with
   |zero=>cases hn
   |succ n=>unfold iter at hn;rw[h] at hn;cases hn
 |some w=>
  cases w with
  |inl y=>exact vN h
  |inr r=>exact vF h
theorem BZ {t:Ty}{l:List t.den}{i:Nat}(h:i<l.length):qW t l (i:Int)=l[i]:=by
 unfold qW;rw[aMK,aMr,aLZ h];rfl
theorem aB1 {l:pD}{i:Nat}(h:i<l.length):tU l (i:Int)=(l[i].toNat:Int):=by
 unfold tU;rw[aMK,aMr,aLZ h];rfl
def wR {β:Type}(f:Nat->β) (b:β):pP->β
 |some k=>f k
 |none=>b
theorem aB2 {α ρ:Type}{f:Int->Option (Int⊕(Unit⊕ρ))}{l:List α}(p:α->Bool) (g:Nat->ρ)
  (hf: ∀(i:Nat) (h:i<l.length),f i=if p l[i]=true then some (.inr (.inr (g i))) else some (.inl (i+1)))
  (he:f l.length=some (.inr (.inl ()))): ∀(n j:Nat),j+n=l.length->rX f j=some (wR (fun k=> .inr (g (j+k))) (.inl ()) ((l.drop j).findIdx? p))
 |0,j,hj=>by
  have:j=l.length:=by omega
  subst this;rw[aMU,FZ,he];rfl
 |n+1,j,hj=>by
  have hlt:j<l.length:=by omega
  rw[FZ,hf j hlt,aMw hlt,aNs];by_cases hp:p l[j]=true
  .rw[aLQ hp,aLQ hp];rfl
  .rw[aLU hp,aLU hp];show rX f ((j:Int)+1)=_;have:=aB2 p g hf he n (j+1) pG;rw[show ((j:Int)+1)=((j+1:Nat):Int) by omega,this];cases(l.drop (j+1)).findIdx? p with
   |none=>rfl
   |some k=>
    show some (Sum.inr (g (j+1+k)))=some (Sum.inr (g (j+(k+1))));rw[show j+1+k=j+(k+1) by omega]
theorem HH {α ρ:Type}{f:Int->Option (Int⊕(Unit⊕ρ))}{l:List α}(p:α->Bool) (g:Nat->ρ)
  (hf: ∀(i:Nat) (h:i<l.length),f i=if p l[i]=true then some (.inr (.inr (g i))) else some (.inl (i+1)))
  (he:f l.length=some (.inr (.inl ()))):rX f 0=some (wR (fun k=> .inr (g k)) (.inl ()) (l.findIdx? p)):=by
 have:=aB2 p g hf he l.length 0 pG;simpa using this
theorem aB3 {s:pD}{i:Nat}(h:i<s.length) (ha:s[i].toNat<128):wT s i=(s[i].toNat:Int)/\A2 s i=i+1:=by
 have h1:=Lib.decodeL_drop ⟨s.toArray⟩ i;have h2:(⟨s.toArray⟩:ByteArray).data.toList.drop i=s[i]::s.drop (i+1):=by
  show s.drop i=_;rw[aMw h]
 rw[h2,Lib.decodeL_ascii _ _ ha] at h1;unfold wT A2 VZ;rw[<-h1,aLQ h];exact⟨rfl,rfl⟩
theorem aH4 {n b0 b1 b2 b3:Nat}(h:128<=b0):128<=(Lib.decodeN n b0 b1 b2 b3).1:=by
 unfold Lib.decodeN
 repeat' split
 all_goals first|omega|(dsimp only;omega)
theorem aB4 {s:pD}{i:Nat}(h:i<s.length) (ha:128<=s[i].toNat):128<=wT s i:=by
 unfold wT;rw[Lib.decode_at];have:(⟨s.toArray⟩:ByteArray).get! i=s[i]:=by
  show s.toArray[i]! =_;simp [h]
 rw[this];exact Int.ofNat_le.2 (aH4 ha)
theorem aB5 {ρ:Type}{f:Nat->Option (Nat⊕(Unit⊕ρ))}{s:pD}(p:Int->Bool) (g:Nat->ρ) (hb: ∀c,128<=c->p c=true)
  (hf: ∀(i:Nat) (h:i<s.length),f i=if p (wT s i)=true then some (.inr (.inr (g i))) else some (.inl (A2 s i)))
  (he:f s.length=some (.inr (.inl ()))): ∀(n j:Nat),j+n=s.length->rX f j=some (wR (fun k=> .inr (g (j+k))) (.inl ()) ((s.drop j).findIdx? (fun b=>p b.toNat)))
 |0,j,hj=>by
  have:j=s.length:=by omega
  subst this;rw[aMU,FZ,he];rfl
 |n+1,j,hj=>by
  have hlt:j<s.length:=by omega
  rw[FZ,hf j hlt,aMw hlt,aNs];by_cases ha:s[j].toNat<128
  .obtain⟨e1,e2⟩:=aB3 hlt ha;rw[e1,e2];by_cases hp:p (s[j].toNat:Int)=true
   .rw[aLQ hp,aLQ hp];rfl
   .rw[aLU hp,aLU hp];show rX f (j+1)=_;rw[aB5 p g hb hf he n (j+1) pG];cases(s.drop (j+1)).findIdx? (fun b=>p b.toNat) with
    |none=>rfl
    |some k=>
     show some (Sum.inr (g (j+1+k)))=some (Sum.inr (g (j+(k+1))));rw[show j+1+k=j+(k+1) by omega]
  .rw[aLQ (hb _ (aB4 hlt pG)),aLQ (hb _ pG)];rfl
theorem aH5 {ρ:Type}{f:Nat->Option (Nat⊕(Unit⊕ρ))}{s:pD}(p:Int->Bool) (g:Nat->ρ) (hb: ∀c,128<=c->p c=true)
  (hf: ∀(i:Nat) (h:i<s.length),f i=if p (wT s i)=true then some (.inr (.inr (g i))) else some (.inl (A2 s i)))
  (he:f s.length=some (.inr (.inl ()))):rX f 0=some (wR (fun k=> .inr (g k)) (.inl ()) (s.findIdx? (fun b=>p b.toNat))):=by
 have:=aB5 p g hb hf he s.length 0 pG;simpa using this
def sR {α:Type}(l:List α):Prop:=l.length<=4000000000
theorem xW {i:Nat}(h:i<=4000000000):qE ((i:Int)+1):=by unfold qE;omega
theorem uK {i n:Nat}(h:i<n):0<=(i:Int)/\(i:Int)<(n:Int):=⟨pG,pG⟩
theorem wJ {i n:Nat}(h:i<n):decide ((i:Int)<(n:Int))=true:=by simpa using h
theorem y8 (n:Nat): ¬decide ((n:Int)<(n:Int))=true:=by simp
theorem aB6 {α:Type}{p:α->Bool}: ∀{l:List α},(l.findIdx? p).isSome=l.any p
 |[]=>rfl
 |x::l=>by
  rw[aNs,List.any_cons];cases p x with
  |true=>rfl
  |false=>simp [aB6 (l:=l)]
theorem U4 {α β:Type}{p:α->Bool}{l:List α}{f:Nat->β}{b:β}:wR f b (l.findIdx? p)=if l.any p=true then f ((l.findIdx? p).getD 0) else b:=by
 rw[<-aB6];cases l.findIdx? p with
 |none=>rfl
 |some k=>rfl
def U5 (c:Int):Bool:=(((!((decide ((97:Int)<=c))&&(decide (c<=(122:Int)))))&&(!((decide ((48:Int)<=c))&&(decide (c<=(57:Int))))))&&(!decide (c=(45:Int))))&&((decide (c<(65:Int)))||(decide ((90:Int)<c)))
def AX (s:pD):Bool:= !(s.any fun b=>U5 b.toNat)&&((decide ((1:Int)<=(s.length:Int)))&&(decide ((s.length:Int)<=(40:Int))))
def U6 (c:Int):Bool:=((((decide (c<(97:Int)))||(decide ((122:Int)<c)))&&((decide (c<(65:Int)))||(decide ((90:Int)<c))))&&((decide (c<(48:Int)))||(decide ((57:Int)<c))))&&(!decide (c=(45:Int)))
theorem aH6 (c:Int):U6 c=U5 c:=by
 unfold U6 U5;rw[aNI];simp;omega
theorem aB7 (s:pD):EB s=some (AX s):=by
 have h:=aH5 (f:=OU s) (s:=s) (fun c=>U6 c) (fun _=>false) (fun c h=>by unfold U6;simp;omega) (fun i h=>by
  unfold OU;rw[aLQ (by simpa using h),aLQ (by simpa using h)];rfl) (by
  unfold OU;rw[aLU pI])
 unfold EB;rw[h,U4];simp only[aH6];unfold AX;cases s.any fun b=>U5 b.toNat<;>rfl
def zR (c:Int):Bool:=((((!((decide ((97:Int)<=c))&&(decide (c<=(122:Int)))))&&(!((decide ((48:Int)<=c))&&(decide (c<=(57:Int))))))&&(!decide (c=(45:Int))))&&(!decide (c=(95:Int))))&&(!decide (c=(46:Int)))
def AY (c:Int):Bool:=(decide ((97:Int)<=c))&&(decide (c<=(122:Int)))
def wF:pD->Bool
 |[]=>false
 |b::t=>(!decide (40<t.length+1)&&AY b.toNat)&& !(t.any fun b=>zR b.toNat)
theorem aB8 (s:pD): ∀(n j:Nat),j+n=s.length->rX (LF s) j=some (if (s.drop j).any (fun b=>zR b.toNat)=true\/(j=0/\s≠[]/\AY (s.getD 0 0).toNat=false) then .inr false else .inl ())
 |0,j,hj=>by
  have:j=s.length:=by omega
  subst this;rw[aMU,FZ];unfold LF;rw[aLU pI];by_cases h0:s=[]
  .subst h0;simp
  .have:s.length≠0:=by simpa using h0
   simp [this]
 |n+1,j,hj=>by
  have hlt:j<s.length:=by omega
  have ih:=aB8 s n (j+1) pG;rw[FZ,aMw hlt,List.any_cons];have hstep:LF s j=if (zR (s[j].toNat:Int)=true\/(j=0/\AY (s[j].toNat:Int)=false)) then some (.inr (.inr false)) else some (.inl (j+1)):=by
   unfold LF;rw[aLQ (by simpa using hlt),aLQ (by simpa using hlt),aLQ (by simpa using hlt)];by_cases ha:s[j].toNat<128
   .obtain⟨e1,e2⟩:=aB3 hlt ha;rw[e1,e2];by_cases h1:AY (s[j].toNat:Int)=true
    .rw[aLQ (by unfold AY at h1;exact h1),aLU];unfold AY at h1;simp only[aMb,aMj] at h1;simp [zR,AY];omega
    .have h1':AY (s[j].toNat:Int)=false:=by simpa using h1
     rw[aLU (by unfold AY at h1;exact h1)];have h2: ¬(97<=(s[j].toNat:Int)/\(s[j].toNat:Int)<=122):=by
      unfold AY at h1;simpa using h1
     by_cases h3:zR (s[j].toNat:Int)=true\/j=0
     .rw[aLU,aLQ]
      .rcases h3 with h3|h3
       .exact .inl h3
       .exact .inr ⟨h3,h1'⟩
      .simp [zR] at h3|-;omega
     .rw[aLQ,aLU]
      .intro h;rcases h with h|⟨h,_⟩
       .exact h3 (.inl h)
       .exact h3 (.inr h)
      .simp [zR] at h3|-;omega
   .have hb:=aB4 hlt pG;rw[aLU pJ,aLU pJ,aLQ (.inl (by simp [zR];omega))]
  rw[hstep];have hd:s.getD 0 0=s[0]'pG:=by simp [aMr,aLZ (show 0<s.length by omega)]
  have hne:s≠[]:=by intro h;subst h;simp at hlt
  by_cases hp:zR (s[j].toNat:Int)=true\/(j=0/\AY (s[j].toNat:Int)=false)
  .rw[aLQ hp,aLQ]
   .rfl
   .rcases hp with hp|⟨rfl,hp⟩
    .left;simp [hp]
    .right;exact⟨rfl,hne,by rw[hd];exact hp⟩
  .rw[aLU hp];show rX _ (j+1)=_;rw[ih];have hnb:zR (s[j].toNat:Int)=false:=by
    cases h:zR (s[j].toNat:Int) with
    |true=>exact absurd (.inl h) hp
    |false=>rfl
   simp only[hnb,Bool.false_or];congr 2;apply propext;constructor
   .rintro(h|⟨h,_⟩)
    .exact .inl h
    .omega
   .rintro(h|⟨rfl,_,h⟩)
    .exact .inl h
    .rw[hd] at h;exact absurd (.inr ⟨rfl,h⟩) hp
theorem a4V (s:pD):D9 s=some (wF s):=by
 have h:=aB8 s s.length 0 pG;unfold D9;rw[h,aNb];cases s with
 |nil=>simp [wF,uT]
 |cons b t=>
  simp only[List.any_cons,List.getD_cons_zero,ne_eq,reduceCtorEq,not_false_eq_true,true_and,wF];cases hs:AY b.toNat with
  |false=>simp [uT]
  |true=>
   have hn:zR b.toNat=false:=by
    unfold AY at hs;simp only[aMb,aMj] at hs;simp [zR];omega
   simp only[hn,Bool.false_or];cases t.any (fun b=>zR b.toNat) with
   |true=>simp [uT]
   |false=>
    simp only[aNt,false_or,and_false,aNT];show some (decide ((1:Int)<=((b::t).length:Int))&&decide (((b::t).length:Int)<=40))=_;congr 1;rw[aNI];simp only[aLY,aMb,aMj,aMq,aMH,Bool.not_false,and_true];omega
theorem M6 {β:Type}{f:Nat->β}{b:β}{o:pP}:uT (some (wR (fun k=> .inr (f k)) (.inl ()) o)) (fun _=>some b)=some (wR f b o):=by
 cases o<;>rfl
theorem aB9 (l:pE) (s:pD) (hl:sR l):AS l s=some (wR (fun k=>(k:Int)) (-1) (l.findIdx? fun x=>decide (s=x))):=by
 unfold sR at hl;have h:=HH (f:=OV l s) (l:=l) (fun x=>decide (s=x)) (fun k=>(k:Int)) (fun i h=>by
  unfold OV;rw[aLQ (wJ h),aLQ (uK h),BZ (t:= .str) h,aLQ (xW pG)]) (by
  unfold OV;rw[aLU (y8 _)])
 unfold AS;rw[h,M6]
theorem PS {α:Type}{p:α->Bool}{l:List α}:decide ((0:Int)<=wR (fun k=>(k:Int)) (-1) (l.findIdx? p))=l.any p:=by
 rw[U4];cases l.any p
 .rfl
 .simp only[aNo,aMj];omega
theorem aCa (l:pE) (s:pD) (hl:sR l):DA l s=some (l.any fun x=>decide (x=s)):=by
 unfold DA;rw[aB9 l s hl];show some (decide _)=_;rw[PS];simp only[eq_comm]
def HI:pE:=[[110,101,119],[102,117,122,122,121],[116,114,97,110,115,108,97,116,101,100],[114,101,118,105,101,119,101,100],[111,98,115,111,108,101,116,101]]
def C0 (s:pD):Int:=wR (fun k=>(k:Int)) (-1) (HI.findIdx? fun x=>decide (x=s))
abbrev sK:=pD×pD×Unit
abbrev tF:Ty:= .pair .str (.pair .str .unit)
def C1 (l:List sK) (n:pD):pP:=l.findIdx? fun x=>decide (x.1=n)
def M7 (l:List sK) (n:pD):pD×Bool:=wR (fun k=>((l.getD k ([],[],())).2.1,true)) ([],false) (C1 l n)
theorem aH7 (l:List sK) (n:pD):(M7 l n).2=l.any fun x=>decide (x.1=n):=by
 unfold M7 C1;rw[U4];cases l.any fun x=>decide (x.1=n)<;>rfl
theorem aCb (l:List sK) (n:pD) (hl:sR l):FS l n=some (wR (fun k=>(k:Int)) (-1) (C1 l n)):=by
 unfold sR at hl;have h:=HH (f:=P3 l n) (l:=l) (fun x=>decide (x.1=n)) (fun k=>(k:Int)) (fun i h=>by
  unfold P3;rw[aLQ (wJ h),aLQ (uK h),BZ (t:=tF) h,aLQ (xW pG)]) (by
  unfold P3;rw[aLU (y8 _)])
 unfold FS LJ;rw[h,M6];rfl
theorem aCc {l:List sK}{n:pD}{k:Nat}(h:C1 l n=some k):k<l.length:=by
 unfold C1 at h;exact(aMO.1 h).1
theorem aCd (l:List sK) (n:pD) (hl:sR l):FW l n=some (M7 l n):=by
 unfold FW;rw[aCb l n hl];unfold M7;cases h:C1 l n with
 |none=>rfl
 |some k=>
  have hk:=aCc h;simp only[wR,aLP];rw[aLU pI,aLQ (uK hk),BZ (t:=tF) hk];simp only[wR,aMr,aLZ hk];rfl
def HJ (l:List sK) (n:pD):Nat:=(l.findIdx? fun x=> !(Op.bytesLess x.1 n||decide (x.1=n))).getD l.length
def JU (l:List sK) (n v:pD):List sK:=wR (fun k=>l.set k (n,v,())) (l.take (HJ l n)++[(n,v,())]++l.drop (HJ l n)) (C1 l n)
theorem aH8 (l:List sK) (n:pD):HJ l n<=l.length:=by
 unfold HJ;cases h:l.findIdx? fun x=> !(Op.bytesLess x.1 n||decide (x.1=n)) with
 |none=>exact aMc _
 |some k=>exact Nat.le_of_lt (aMO.1 h).1
theorem aCe (l:List sK) (n v:pD):(JU l n v).length<=l.length+1:=by
 have:=aH8 l n;unfold JU;cases C1 l n with
 |none=>simp [wR];omega
 |some k=>simp [wR]
theorem aH9 {l:List sK}{n:pD}{k:Nat}(h:C1 l n=some k) (hk:k<l.length):l[k].1=n:=by
 unfold C1 at h;have:=(aMO.1 h).2.1;simpa using this
theorem aCf (l:List sK) (n v:pD) (hl:sR l):FU l n v=some (JU l n v):=by
 have hl':=hl;unfold sR at hl';unfold FU H9;rw[aLQ pG];show (FS ([]++l) n).bind _=_;rw[List.nil_append,aCb l n hl];unfold JU;cases h:C1 l n with
 |some k=>
  have hk:=aCc h;simp only[wR,aLP];rw[aLQ pI,aLQ (uK hk),BZ (t:=tF) hk,aMK];congr 2;exact Prod.ext (aH9 h hk) rfl
 |none=>
  simp only[wR,aLP];rw[aLU pH];have h2:=HH (f:=P4 l n) (l:=l) (fun x=> !(Op.bytesLess x.1 n||decide (x.1=n))) (fun k=>(k:Int)) (fun i h=>by
   unfold P4;rw[aLQ (wJ h),aLQ (uK h),BZ (t:=tF) h,aLQ (xW pG)]) (by
   unfold P4;rw[aLU (y8 _)])
  unfold LK;rw[h2,M6];unfold HJ;cases h3:l.findIdx? fun x=> !(Op.bytesLess x.1 n||decide (x.1=n)) with
  |none=>
   simp only[wR,aLP];rw[aLQ pH,aLQ ⟨pG,aM5 _⟩,aLQ pJ];simp [AP,wR]
  |some k=>
   have hk:k<l.length:=(aMO.1 h3).1;simp only[wR,aLP];rw[aLU pI,aLQ ⟨pG,pG⟩,aLQ pJ];simp [AP,wR]
theorem aCg {α:Type}{f:Int->Option (Int⊕Int)}{l:List α}(p:α->Bool)
  (hf: ∀(i:Nat) (h:i<l.length),f i=if p l[i]=true then some (.inl (i+1)) else some (.inr i)) (he:f l.length=some (.inr l.length)):
  ∀(n j:Nat),j+n=l.length->rX f j=some (((j+((l.drop j).findIdx? fun x=> !p x).getD n:Nat)):Int)
 |0,j,hj=>by
  have:j=l.length:=by omega
  subst this;rw[aMU,FZ,he];simp
 |n+1,j,hj=>by
  have hlt:j<l.length:=by omega
  rw[FZ,hf j hlt,aMw hlt,aNs];by_cases hp:p l[j]=true
  .rw[aLQ hp,aLU (by simp [hp])];show rX f ((j:Int)+1)=_;rw[show ((j:Int)+1)=((j+1:Nat):Int) by omega,aCg p hf he n (j+1) pG];cases(l.drop (j+1)).findIdx? fun x=> !p x with
   |none=>simp;omega
   |some k=>simp;omega
  .rw[aLU hp,aLQ (by simpa using hp)];simp
theorem aIa {α:Type}{f:Int->Option (Int⊕Int)}{l:List α}(p:α->Bool)
  (hf: ∀(i:Nat) (h:i<l.length),f i=if p l[i]=true then some (.inl (i+1)) else some (.inr i)) (he:f l.length=some (.inr l.length)):
  rX f 0=some (((l.findIdx? fun x=> !p x).getD l.length:Nat):Int):=by
 have:=aCg p hf he l.length 0 pG;simpa using this
theorem a4W {α:Type}{l:List α}{k:Nat}:sD l 0 (k:Int)=l.take k:=by unfold sD;simp
theorem PT {α:Type}{l:List α}{k:Nat}:sD l (k:Int) (l.length:Int)=l.drop k:=by
 unfold sD;rw[aMK,aMK,List.take_of_length_le];rw[aL8];exact aMc _
def PU (n:Int):Prop:=0<=n/\n<=1114111/\(n<55296\/57343<n)
def EL (n:Int):Bool:=(((decide ((0:Int)<=n))&&(decide (n<=(1114111:Int))))&&((decide (n<(55296:Int)))||(decide ((57343:Int)<n))))
theorem aIb (n:Int):EL n=true↔PU n:=by
 unfold EL PU;simp;omega
theorem a4X {n:Int}{k:Int}{j:Nat}(hj:k.toNat=j) (h32:j<=32):xL .i32 n k=n/2^j:=by
 unfold xL;rw[hj,show min j IntKind.i32.bits=j from Nat.min_eq_left h32,Int.fdiv_eq_ediv_of_nonneg];exact Int.pow_nonneg pH
theorem aIc {n:Int}(p:pM) (h:PU n) (hp:sR p):HD p n=some (p++Lib.encodeRuneZ n):=by
 obtain⟨h0,h1,hs⟩:=h;unfold sR at hp;have u:IntKind.u32.wrap n=n:=by rw[IntKind.wrap_u32];omega
 have s6:xL .i32 n 6=n/64:=a4X (j:=6) rfl pH;have s12:xL .i32 n 12=n/4096:=a4X (j:=12) rfl pH;have s18:xL .i32 n 18=n/262144:=a4X (j:=18) rfl pH;have b0:bits .or .u8 128 (bits .and .u8 (n%256) 63)=128+n%64:=by
  rw[u8_and63 (x:=n%256) pG pG,show n%256%64=n%64 by omega,u8_or128 (y:=n%64) pG pG]
 have b1:bits .or .u8 128 (bits .and .u8 (n/64%256) 63)=128+n/64%64:=by
  rw[u8_and63 (x:=n/64%256) pG pG,show n/64%256%64=n/64%64 by omega,u8_or128 (y:=n/64%64) pG pG]
 have b2:bits .or .u8 128 (bits .and .u8 (n/4096%256) 63)=128+n/4096%64:=by
  rw[u8_and63 (x:=n/4096%256) pG pG,show n/4096%256%64=n/4096%64 by omega,u8_or128 (y:=n/4096%64) pG pG]
 unfold HD;rw[u];by_cases c1:n<=127
 .rw[aLQ (by simpa using c1),aLQ pJ,Lib.encodeRuneZ_one h0 c1,IntKind.wrap_u8,show n%256=n by omega]
 .rw[aLU (by simpa using c1)];unfold JG;simp only[u,s6,s12,s18,IntKind.wrap_u8,b0,b1,b2];by_cases c2:n<=2047
  .rw[aLQ (by simpa using c2),aLQ pJ,Lib.encodeRuneZ_two pG c2,show n/64%256=n/64 by omega,u8_or192 (y:=n/64) pG pG];rfl
  .rw[aLU (by simpa using c2)];by_cases c3:n<=65535
   .have hx:(if decide (n<55296)=true then some (decide (n<55296)) else some ((decide (57343<n))&&(decide (n<=65535))))=some true:=by
     by_cases c:n<55296
     .rw[aLQ (by simpa using c)];simp [c]
     .rw[aLU (by simpa using c)];simp;omega
    rw[hx];simp only[t8,aLP];rw[aLQ trivial,aLQ pJ,Lib.encodeRuneZ_three pG,show n/4096%256=n/4096 by omega,u8_or224 (y:=n/4096) pG pG];rfl
   .have hx:(if decide (n<55296)=true then some (decide (n<55296)) else some ((decide (57343<n))&&(decide (n<=65535))))=some false:=by
     rw[aLU pJ];simp;omega
    rw[hx];simp only[t8,aLP];rw[aLU pH,aLQ pJ,aLQ pJ,Lib.encodeRuneZ_four pG h1,show n/262144%256=n/262144 by omega,u8_or240 (y:=n/262144) pG pG];rfl
theorem aCh (n:Int):(Lib.encodeRuneZ n).length<=4:=by
 unfold Lib.encodeRuneZ
 repeat' split
 all_goals simp
theorem aCi {n:Int}(p:pM) (h:PU n) (hp:sR p): ∃k,EG (p,()) n=some (k,p++Lib.encodeRuneZ n):=by
 have h4:=aCh n;unfold sR at hp;unfold EG;rw[aIc p h hp];simp only[aLP];rw[aLQ (by unfold qE;simp;omega)];exact⟨_,rfl⟩
theorem aId (n:Int):PI [n] (0,[])=some (.inl (1,if EL n=true then Lib.encodeRuneZ n else Lib.encodeRuneZ 65533)):=by
 unfold PI;have hn:qW (.int .i64) [n] 0=n:=rfl;dsimp only;rw[aLQ pI,aLQ ⟨aM5 _,by simp⟩];simp only[hn];by_cases hs:EL n=true
 .have hsc:=(aIb n).1 hs;obtain⟨k,hk⟩:=aCi (n:=n) [] hsc (by unfold sR;simp);have wn:IntKind.i32.wrap n=n:=by
   obtain⟨a,b,c⟩:=hsc;rw[IntKind.wrap_i32];omega
  rw[aLQ hs];unfold EL at hs;rw[aLU (by rw[hs];decide),wn,hk];simp only[aLP,List.nil_append];rw[aLQ (by unfold qE;omega)];rfl
 .rw[aLU hs];unfold EL at hs;obtain⟨k,hk⟩:=aCi (n:=65533) [] (by unfold PU;omega) (by unfold sR;simp);rw[aLQ (by simp only[aMq] at hs|-;simpa using hs),show IntKind.i32.wrap 65533=65533 from rfl,hk];simp only[aLP,List.nil_append];rw[aLQ (by unfold qE;omega)];rfl
theorem aIe (n:Int):HF n=some (if EL n=true then Lib.encodeRune n else Lib.encodeRune 65533):=by
 unfold HF LY;rw[vN (aId n),vF (r:=if EL n=true then Lib.encodeRuneZ n else Lib.encodeRuneZ 65533) (by unfold PI;simp)];simp only[t8,aLP];by_cases hs:EL n=true
 .rw[aLQ hs,aLQ hs];rfl
 .rw[aLU hs,aLU hs];rfl
def AZ (s:pD) (i:Nat):Bool:=decide ((s.getD i 0).toNat/64=2)
theorem aIf (n:Int):(Lib.encodeRune n).length<=4:=by
 unfold Lib.encodeRune;rw[aMM];exact aCh n
def vA (s:pD):Bool:=decide ((s.length:Int)<=4000)&&Lib.validD s
theorem aIg (s:pD) (hs:sR s):LU s=some ():=by
 unfold sR at hs;unfold LU OX;rw[aLQ (fun _=>by rw[aLQ pG];rfl)]
theorem aCj {p:Prop}{α:Type}{v:α}:p->(some v).isSome=true:=fun _=>rfl
theorem aIh (a b:pD):(!Op.bytesLess a b)=(Op.bytesLess b a||decide (b=a)):=by
 rw[bytesLess_eq,bytesLess_eq,aNI];simp only[aMq,aMH,aMZ,aMj];constructor
 .intro h;exact(List.le_iff_lt_or_eq.1 (List.not_lt.1 h))
 .rintro(h|h)
  .exact List.lt_asymm h
  .rw[h];exact List.lt_irrefl _
def y9 (l:pE):Bool:=decide ((l.length:Int)<=20)&& !(l.any fun x=> !vA x)
def a4Y (l:pE) (i:Nat):Bool:=(!wF (l.getD i []))||(decide (0<i)&& !Op.bytesLess (l.getD (i-1) []) (l.getD i []))
def M8 (l:pE):Bool:= !((List.range l.length).any (a4Y l))&&decide ((l.length:Int)<=20)
abbrev fD:sK:=([],([],()))
def a4Z (l:List sK) (i:Nat):Bool:=((!wF (l.getD i fD).1)||(!vA (l.getD i fD).2.1))||(decide (0<i)&& !Op.bytesLess (l.getD (i-1) fD).1 (l.getD i fD).1)
def xX (l:List sK):Bool:= !((List.range l.length).any (a4Z l))&&decide ((l.length:Int)<=20)
abbrev G0:=rW
def DK (x:G0):Bool:=
 (((((((!decide (x.1=[]))&&decide ((x.1.length:Int)<=200))&&vA x.1)&&vA x.2.1)&&vA x.2.2.1)&&y9 x.2.2.2.1)&&M8 x.2.2.2.2.1)&&(decide (0<=x.2.2.2.2.2.1)&&decide (x.2.2.2.2.2.1<=4))&&xX x.2.2.2.2.2.2.1
theorem aIi {a b:UInt8}:((a.toNat:Int)=(b.toNat:Int))↔a=b:=by
 rw[Int.ofNat_inj];exact UInt8.toNat_inj
theorem eqB {a:UInt8}{n:Int}(b:UInt8) (hb:n=(b.toNat:Int)):decide ((a.toNat:Int)=n)=decide (a=b):=by
 rw[hb];simp only[aIi]
theorem a42 (a b:pD):uW (a++b)=uW a++uW b:=by simp [uW]
theorem aCk (a:pD):x7 (uW a)=a:=by
 unfold x7 uW;rw[List.map_map]
 conv=>rhs;rw[<-List.map_id a]
 congr 1;funext b;simp
theorem aIj {x:pM}{c:Int}(hx:x.length<=10000000000000):JF (x,()) c=some ():=by
 unfold JF;exact aLQ (by simp only[aNl,aNC];omega)
theorem aIk {x:pM}{t:pD}(hx:x.length<=10000000000000) (ht:t.length<=4000000000):FI (x,()) t=some ():=by
 unfold FI;exact aLQ (by dsimp only;omega)
theorem M9 {p:Prop}{α:Type}{v:α}:p->(some v).isSome=true:=fun _=>rfl
abbrev C4:=pD×(pE×(List sK×(List rW×Unit)))
theorem JV {v:Ty}(a b:pD) (y:v.den): ∀l:List (pD×v.den),rS .str v (tO .str v a y l) b=if b=a then y else rS .str v l b
 |[]=>by
  show (if decide (b=a)=true then y else v.zero)=if b=a then y else v.zero;by_cases h:b=a<;>simp [h]
 |(x,z)::r=>by
  have ih:=JV a b y r;show rS .str v (if decide (a=x)=true then(a,y)::r else(x,z)::tO .str v a y r) b=if b=a then y else(if decide (b=x)=true then z else rS .str v r b);by_cases h:a=x
  .rw[aLQ (aMg h)];show (if decide (b=a)=true then y else rS .str v r b)=_;by_cases hb:b=a
   .rw[aLQ (aMg hb),aLQ hb]
   .rw[aLU (by simpa using hb),aLU hb,aLU (by rw[<-h];simpa using hb)]
  .rw[aLU (by simpa using h)];show (if decide (b=x)=true then z else rS .str v (tO .str v a y r) b)=_;rw[ih];by_cases hb:b=a
   .rw[aLQ hb,aLQ hb,aLU (by rw[hb];simpa using h)]
   .rw[aLU hb,aLU hb]
theorem HK: ∀(x y:pD),Op.bytesLess x y=decide (x<y)
 |[],[]=>by simp [Op.bytesLess]
 |_::_,[]=>by simp [Op.bytesLess]
 |[],_::_=>by simp [Op.bytesLess]
 |a::x,b::y=>by
  rw[Op.bytesLess,HK x y];simp only[List.cons_lt_cons_iff];by_cases h1:a<b<;>by_cases h2:a=b<;>by_cases h3:x<y<;>simp [h1,h2,h3]
theorem aIl (l:pE):(sI l).Pairwise (·<=·):=by
 have:=List.pairwise_mergeSort (le:=fun x y:pD=>decide (x<=y)) (fun a b c h1 h2=>aMg (List.le_trans (aMv h1) (aMv h2))) (fun a b=>by simpa using List.le_total a b) l;exact this.imp (fun h=>aMv h)
theorem aCl (l:pE):(sI l).Perm l:=List.mergeSort_perm l _
theorem U7 (l:pE):(sI l).length=l.length:=(aCl l).length_eq
abbrev a43 (y:rW):Prop:=sR y.2.2.2.1/\sR y.2.2.2.2.1/\sR y.2.2.2.2.2.2.1
def MA (ids:pK) (es:List rW):Prop:= ∀x,rS .str .bool ids x=es.any fun y=>decide (y.1=x)
theorem aCm {ids:pK}{es:List rW}(h:MA ids es) (e:rW) (x:pD) (he:e.1=x):MA (tO .str .bool x true ids) (es++[e]):=by
 intro y;rw[JV,List.any_append,<-h y];by_cases hy:y=x
 .rw[aLQ hy];simp [he,hy]
 .rw[aLU hy];have:decide (e.1=y)=false:=by rw[he];simpa using fun hh=>hy hh.symm
  simp [this]
theorem a44 {α:Type}{f:Int->Option (Int⊕(Unit⊕Bool))}(l:List α) (hf: ∀(i:Nat) (h:i<l.length),f i=some (.inl (i+1))) (he:f l.length=some (.inr (.inl ()))):
  rX f 0=some (.inl ()):=by
 have h:=HH (f:=f) (l:=l) (fun _=>false) (fun _=>false) (fun i h=>by rw[aLU Bool.false_ne_true];exact hf i h) he;rw[h];have:l.findIdx? (fun _=>false)=none:=List.findIdx?_eq_none_iff.2 (fun _ _=>rfl);rw[this];rfl
theorem MB (l:pE) (hl:sR l):wI l l=some true:=by
 unfold sR at hl;unfold wI;rw[aLU pI,a44 l (fun i h=>by
  unfold TJ;rw[aLQ (wJ h),aLQ (uK h),aLQ (uK h),aLU pI,aLQ (xW pG)]) (by
  unfold TJ;rw[aLU (y8 _)])]
 rfl
theorem U8 (l:List sK) (hl:sR l):z8 l l=some true:=by
 unfold sR at hl;unfold z8;rw[aLU pI,a44 l (fun i h=>by
  unfold TK;rw[aLQ (wJ h),aLQ (uK h),aLQ (uK h),aLU pI,aLQ (xW pG)]) (by
  unfold TK;rw[aLU (y8 _)])]
 rfl
theorem aIm (y:rW) (h:a43 y):LE y y=some ():=by
 unfold LE;rw[MB _ h.1,MB _ h.2.1,U8 _ h.2.2,aLQ M9,aLQ M9,aLQ M9]
theorem aCn (l:List rW) (hl:sR l) (h: ∀y∈l,a43 y):CG l l=some true:=by
 unfold sR at hl;unfold CG;rw[aLU pI,a44 l (fun i hi=>by
  have hy:=h l[i] (aM4 hi);unfold TT;rw[aLQ (wJ hi),aLQ (uK hi),aLQ (uK hi),BZ (t:=tC) hi];rw[aIm _ hy,aLP,MB _ hy.1,MB _ hy.2.1,U8 _ hy.2.2,aLU (by simp [val]),aLQ (xW pG)]) (by
  unfold TT;rw[aLU (y8 _)])]
 rfl
abbrev eD:G0:=([],([],([],([],([],(0,([],())))))))
def PV (es:List G0) (i:Nat):Bool:=((es.take i).any fun y=>decide (y.1=(es.getD i eD).1))|| !DK (es.getD i eD)
def EM (c:C4):Bool:=((AX c.1&&y9 c.2.1)&&xX c.2.2.1)&&(decide ((c.2.2.2.1.length:Int)<=1000)&& !((List.range c.2.2.2.1.length).any (PV c.2.2.2.1)))
theorem aCo {σ ρ α:Type}{f:σ->Option (σ⊕ρ)}(st:Int->List α->σ) (out:List α->ρ) {n M B:Nat}(g:Nat->List α) (hg: ∀i,i<n->(g i).length<=B)
  (hf: ∀(i:Nat) s,i<n->s.length+B<=M->f (st i s)=some (.inl (st ((i:Int)+1) (s++g i)))) (he: ∀s,f (st n s)=some (.inr (out s))):
  ∀(k i:Nat) (s:List α),i+k=n->s.length+k*B<=M->rX f (st i s)=some (out (s++(List.range' i k).flatMap g))
 |0,i,s,hi,_=>by
  have:i=n:=by omega
  subst this;rw[vF (he s)];simp
 |k+1,i,s,hi,hM=>by
  rw[aMX] at hM;have hgi:=hg i pG;rw[vN (hf i s pG pG),show ((i:Int)+1)=((i+1:Nat):Int) by omega,aCo st out g hg hf he k (i+1) (s++g i) pG (by rw[aLT];omega),List.range'_succ,List.flatMap_cons,aLV]
theorem aIn {σ ρ α:Type}{f:σ->Option (σ⊕ρ)}(st:Int->List α->σ) (out:List α->ρ) {n M B:Nat}(g:Nat->List α) (hg: ∀i,i<n->(g i).length<=B) (s:List α) (hM:s.length+n*B<=M)
  (hf: ∀(i:Nat) s,i<n->s.length+B<=M->f (st i s)=some (.inl (st ((i:Int)+1) (s++g i)))) (he: ∀s,f (st n s)=some (.inr (out s))):
  rX f (st 0 s)=some (out (s++(List.range' 0 n).flatMap g)):=aCo st out g hg hf he n 0 s pG hM
theorem aIo {α β:Type}{l:List α}{d:α}(h:α->List β):(List.range' 0 l.length).flatMap (fun i=>h (l.getD i d))=l.flatMap h:=by
 have e:(List.range' 0 l.length).map (fun i=>l.getD i d)=l:=by
  apply List.ext_getElem
  .simp
  .intro i h1 h2;simp [aMr,h2]
 conv=>rhs;rw[<-e]
 rw[List.flatMap_map]
theorem a45 (l:pD):(uW l).length=l.length:=by simp [uW]
def xY (h:pD) (l:pE) (t:pD):pD:=h++(l.flatten++t)
theorem aCp {f:(Int×pD)->pM->Option (pM⊕pD)}(hf: ∀it b,b.length+it.2.length<=140737488355328->f it b=some (.inl (b++uW it.2))): ∀(l:List (Int×pD)) (b:pM),
  b.length+((l.map (·.2)).flatten).length<=140737488355328->xF f l b=some (.inl (b++uW (l.map (·.2)).flatten))
 |[],b,_=>by simp [xF,uW]
 |it::l,b,h=>by
  simp only[aMQ,aMD,aLT] at h;unfold xF;rw[hf it b pG,aLP];show xF f l _=_;rw[aCp hf l _ (by rw[aLT,a45];omega)];simp only[aMQ,aMD,a42,aLV]
theorem aCq (d:yH):((z6 d).map (·.2)).flatten=xY d.1 d.2.1 d.2.2.1:=by
 unfold z6 xY;have e:(List.range d.2.1.length).map (fun j=>d.2.1.getD j [])=d.2.1:=by
  apply List.ext_getElem
  .simp
  .intro i h1 h2;simp [aMr,h2]
 have e2:(((List.range d.2.1.length).map fun j:Nat=>((j:Int)+1,d.2.1.getD j [])).map (·.2))=d.2.1:=by
  rw[List.map_map];exact e
 simp only[aMQ,List.map_append,List.map_nil,aMD,List.flatten_append,List.flatten_nil,List.append_nil,e2,aLV]
theorem aIp (d:yH) (hl:d.2.1.length<=900000) (hb:(xY d.1 d.2.1 d.2.2.1).length<=140737488355328):JJ d=some (xY d.1 d.2.1 d.2.2.1):=by
 have h:=aCp (f:=TS) (fun it b h=>by
  unfold TS FI;rw[aLQ h,aLP]) (z6 d) [] (by rw[aCq];simpa using hb)
 unfold JJ;rw[aLQ pG,h,aCq];unfold uT;dsimp only;rw[aLP];simp only[List.nil_append,aCk]
theorem aIq {α β:Type}{f:α->β}{l:List α}:l.flatMap (fun x=>[f x])=l.map f:=by
 induction l with
 |nil=>rfl
 |cons x l ih=>rw[List.flatMap_cons,ih];rfl
theorem aIr {c:C4}(hok:EM c=true) {i:Nat}(hi:i<c.2.2.2.1.length):DK (c.2.2.2.1.getD i eD)=true:=by
 unfold EM at hok;simp only[aMb,aMq,aMG,aNn] at hok;have:=hok.2.2 i hi;unfold PV at this;simp only[aMZ,aMq,not_or,Bool.not_eq_false] at this;exact this.2
theorem aIs {l:pD}(h: ∀b∈l,b.toNat<128):Lib.validD l=true:=by
 rw[Lib.validD_ascii l.length l (fun b hb=>h b (List.mem_of_mem_take hb)),aMU];rfl
theorem aIt {b:UInt8}(h:zR b.toNat=false):b.toNat<128:=by
 unfold zR at h;simp only[aNw,aM1,aMb,aMj] at h;omega
theorem aCr {x:pD}(h:wF x=true):vA x=true:=by
 cases x with
 |nil=>cases h
 |cons b t=>
  unfold wF at h;simp only[aMb,aMq,aMG,aM8,aMH] at h;obtain⟨⟨h0,h1⟩,h2⟩:=h;unfold vA;rw[aMb,aMj];refine⟨by simp only[aLY];omega,aIs fun c hc=> ?_⟩;rcases aL3.1 hc with rfl|hc
  .unfold AY at h1;simp only[aMb,aMj] at h1;omega
  .exact aIt (h2 c hc)
theorem U9 {l:pE}(h:y9 l=true):l.length<=20/\∀x∈l,vA x=true:=by
 unfold y9 at h;simp only[aMb,aMq,aMG,aMj,aM8,aM1] at h;exact⟨pG,fun x hx=>by simpa using h.2 x hx⟩
theorem a47 {α:Type}{r:α->α->Prop}(tr: ∀a b c,r a b->r b c->r a c) {l:List α}(h: ∀(i:Nat) (hi:i+1<l.length),r l[i] l[i+1]):l.Pairwise r:=by
 rw[aM3];intro i j hi hj hij;obtain⟨k,rfl⟩: ∃k,j=i+1+k:=⟨j-i-1,pG⟩
 induction k with
 |zero=>exact h i hj
 |succ k ih=>exact tr _ _ _ (ih pG pG) (h (i+1+k) hj)
theorem B3 {α:Type}{l:List α}{i:Nat}{d:α}(h:i<l.length):l.getD i d=l[i]:=by
 rw[aMr,aLZ h];rfl
theorem aIu {l:pE}(h:M8 l=true):l.length<=20/\(∀x∈l,wF x=true)/\l.Pairwise (· < ·):=by
 unfold M8 at h;simp only[aMb,aMq,aMG,aMj,aNn,aM8] at h;obtain⟨h1,h2⟩:=h;unfold a4Y at h1;simp only[aMz,aNw,aM1,aMH] at h1;refine⟨pG,fun x hx=> ?_,a47 (r:=fun a b:pD=>a<b) (fun a b c=>List.lt_trans) fun i hi=> ?_⟩
 .obtain⟨i,hi,rfl⟩:=aND hx;have:=(h1 i hi).1;rwa [B3 hi] at this
 .have:=(h1 (i+1) hi).2;rw[B3 hi,Nat.add_sub_cancel,B3 (show i<l.length by omega),HK] at this;exact aMv (this.resolve_left pG)
theorem UA {l:List sK}(h:xX l=true):l.length<=20/\(∀x∈l,wF x.1=true/\vA x.1=true/\vA x.2.1=true)/\l.Pairwise (fun a b=>a.1<b.1):=by
 unfold xX at h;simp only[aMb,aMq,aMG,aMj,aNn,aM8] at h;obtain⟨h1,h2⟩:=h;unfold a4Z at h1;simp only[aMz,aNw,aM1,aMH] at h1;refine⟨pG,fun x hx=> ?_,a47 (r:=fun a b:sK=>a.1<b.1) (fun a b c=>List.lt_trans) fun i hi=> ?_⟩
 .obtain⟨i,hi,rfl⟩:=aND hx;have:=(h1 i hi).1;rw[B3 hi] at this;exact⟨this.1,aCr this.1,this.2⟩
 .have:=(h1 (i+1) hi).2;rw[B3 hi,Nat.add_sub_cancel,B3 (show i<l.length by omega),HK] at this;exact aMv (this.resolve_left pG)
theorem aIv {es:List G0}(h: ∀i,i<es.length->PV es i=false):es.Pairwise (fun a b=>a.1≠b.1):=by
 rw[aM3];intro i j hi hj hij he;have h1:=h j hj;unfold PV at h1;simp only[aMz,aMG,aMj] at h1;rw[B3 hj] at h1;exact h1.1 es[i] (by rw[List.mem_take_iff_getElem];exact⟨i,pG,rfl⟩) he
theorem aIw {c:C4}(h:EM c=true):AX c.1=true/\y9 c.2.1=true/\xX c.2.2.1=true/\c.2.2.2.1.length<=1000/\(∀x∈c.2.2.2.1,DK x=true)/\c.2.2.2.1.Pairwise (fun a b=>a.1≠b.1):=by
 have h':=h;unfold EM at h';simp only[aMb,aMq,aMG,aNn,aMj,aM8] at h';obtain⟨⟨⟨h1,h2⟩,h3⟩,h4,h5⟩:=h';refine⟨h1,h2,h3,pG,fun x hx=> ?_,aIv h5⟩;obtain⟨i,hi,rfl⟩:=aND hx;have:=aIr h hi;rwa [B3 hi] at this
theorem aCs {a b:pD}(h: ¬a<b) (hne:a≠b):b<a:=by
 have:=aIh a b;rw[HK,HK] at this;have h1:decide (a<b)=false:=by simpa using h
 have h2:decide (b=a)=false:=by simpa using fun e=>hne e.symm
 rw[h1,h2] at this;simpa using this.symm
theorem aCt {α:Type}(f:α->pD) {x:α}{p:α->Bool}: ∀{l:List α},l.Pairwise (fun a b=>f a<f b)->(∀y∈l,f y≠f x)->(∀y∈l,p y= !decide (f y<f x))->
  (l.take ((l.findIdx? p).getD l.length)++[x]++l.drop ((l.findIdx? p).getD l.length)).Pairwise (fun a b=>f a<f b)
 |[],_,_,_=>by simp
 |a::t,hp,hne,hpp=>by
  rw[aNG] at hp;have hpa:=hpp a aL7;rw[aNs];by_cases h:f a<f x
  .have hpf:p a=false:=by rw[hpa];simpa using h
   rw[hpf];have ih:=aCt f (x:=x) hp.2 (fun y hy=>hne y (aL5 _ hy)) (fun y hy=>hpp y (aL5 _ hy));have e:((if false=true then some 0 else(t.findIdx? p).map fun i=>i+1).getD (a::t).length)=(t.findIdx? p).getD t.length+1:=by
    cases t.findIdx? p<;>rfl
   rw[e,List.take_succ_cons,aNS,List.cons_append,List.cons_append,aNG];refine⟨fun y hy=> ?_,ih⟩;rw[aLV] at hy;rcases aML.1 hy with hy|hy
   .exact hp.1 y (List.mem_of_mem_take hy)
   .rcases aL3.1 hy with rfl|hy
    .exact h
    .exact hp.1 y (List.mem_of_mem_drop hy)
  .have hpt:p a=true:=by rw[hpa];simpa using h
   rw[hpt];have hx:f x<f a:=aCs h (hne a aL7);show ([]++[x]++(a::t)).Pairwise _;rw[List.nil_append,List.singleton_append,aNG];refine⟨fun y hy=> ?_,aNG.2 hp⟩;rcases aL3.1 hy with rfl|hy
   .exact hx
   .exact List.lt_trans hx (hp.1 y hy)
theorem aIx {α:Type}{l:List α}{x y:α}{k:Nat}(h:y∈l.take k++[x]++l.drop k):y=x\/y∈l:=by
 rw[aLV] at h;rcases aML.1 h with h|h
 .exact .inr (List.mem_of_mem_take h)
 .rcases aL3.1 h with h|h
  .exact .inl h
  .exact .inr (List.mem_of_mem_drop h)
theorem aIy {α:Type}{l:List α}{x:α}{k:Nat}:(l.take k++[x]++l.drop k).length=l.length+1:=by
 simp only[aLT,aMd,aL8,aNl];omega
theorem aIz {l:pE}(h:l.length<=20) (hx: ∀x∈l,vA x=true):y9 l=true:=by
 unfold y9;simp only[aMb,aMq,aMG,aMj,aM1,aM8];exact⟨pG,fun x hxl=>by simpa using hx x hxl⟩
theorem aCu {α:Type}{r:α->α->Prop}{l:List α}(h:l.Pairwise r) {i:Nat}(h0:0<i) (hi:i<l.length):r l[i-1] l[i]:=by
 rw[aM3] at h;exact h (i-1) i pG hi pG
theorem aIA {l:pE}(h:l.length<=20) (hx: ∀x∈l,wF x=true) (hp:l.Pairwise (· < ·)):M8 l=true:=by
 unfold M8;simp only[aMb,aMq,aMG,aMj,aNn,aM8];refine⟨fun i hi=> ?_,pG⟩;unfold a4Y;rw[B3 hi,hx _ (aM4 hi)];by_cases h0:0<i
 .rw[B3 (show i-1<l.length by omega),HK];simp [aCu hp h0 hi]
 .simp [h0]
theorem aIB {l:List sK}(h:l.length<=20) (hx: ∀x∈l,wF x.1=true/\vA x.2.1=true) (hp:l.Pairwise (fun a b=>a.1<b.1)):xX l=true:=by
 unfold xX;simp only[aMb,aMq,aMG,aMj,aNn,aM8];refine⟨fun i hi=> ?_,pG⟩;unfold a4Z;obtain⟨a,b⟩:=hx _ (aM4 hi);rw[B3 hi,a,b];by_cases h0:0<i
 .rw[B3 (show i-1<l.length by omega),HK];simp [aCu hp h0 hi]
 .simp [h0]
theorem aIC {l:pE}{x:pD}(h:y9 l=true) (hl: ¬20<=l.length) (hx:vA x=true):y9 (l++[x])=true:=by
 obtain⟨h1,h2⟩:=U9 h;refine aIz (by rw[aLT,aNl];omega) fun y hy=> ?_;rcases aML.1 hy with hy|hy
 .exact h2 y hy
 .rw[aL6.1 hy];exact hx
theorem aID {l:List sK}{n v:pD}(h:xX l=true) (hl: ¬20<=l.length) (hx:wF n=true) (hv:vA v=true) (hn: ¬(l.any fun y=>decide (y.1=n))=true):xX (JU l n v)=true:=by
 obtain⟨h1,h2,h3⟩:=UA h;have hne: ∀y∈l,y.1≠n:=fun y hy e=>hn (List.any_eq_true.2 ⟨y,hy,by simp [e]⟩);have hk:C1 l n=none:=by
  unfold C1;rw[List.findIdx?_eq_none_iff];intro y hy;simpa using hne y hy
 unfold JU;rw[hk];show xX (l.take (HJ l n)++[(n,v,())]++l.drop (HJ l n))=true;unfold HJ;refine aIB (by rw[aIy];omega) (fun y hy=> ?_) (aCt (fun y:sK=>y.1) (x:=(n,v,())) h3 hne fun y hy=> ?_)
 .rcases aIx hy with rfl|hy
  .exact⟨hx,hv⟩
  .exact⟨(h2 y hy).1,(h2 y hy).2.2⟩
 .rw[HK];have:decide (y.1=n)=false:=by simpa using hne y hy
  rw[this,Bool.or_false]
structure CJ (es:List G0):Prop where
 len:es.length<=1000
 ok: ∀x∈es,DK x=true
 pw:es.Pairwise (fun a b=>a.1≠b.1)
section
variable {s:pD}(hsm:s.length<=4000000000) {bad:Int}{ends:pM}{tag:pD}{cms:pE}{fds:List sK}{es:List G0}
include hsm
omit hsm in
theorem aCv {c:C4}(h1:AX c.1=true) (h2:y9 c.2.1=true) (h3:xX c.2.2.1=true) (h4:CJ c.2.2.2.1):EM c=true:=by
 unfold EM;rw[h1,h2,h3,aMg (show ((c.2.2.2.1.length:Int))<=1000 by have:=h4.len;omega)];simp only[Bool.true_and,aMq,aMG,aNn,aM8];intro i hi;unfold PV;rw[B3 hi,h4.ok _ (aM4 hi)];simp only[Bool.not_true,Bool.or_false,aMG,aMj];intro y hy;rw[List.mem_take_iff_getElem] at hy;obtain⟨j,hj,rfl⟩:=hy;exact aM3.1 h4.pw j i pG hi pG
end
theorem HL {x:pD}(h:vA x=true):x.length<=4000:=by
 unfold vA at h;simp only[aMb,aMj] at h;omega
structure aIE (x:G0):Prop where
 id:x.1.length<=4000
 src:x.2.1.length<=4000
 tgt:x.2.2.1.length<=4000
 com:x.2.2.2.1.length<=20/\∀y∈x.2.2.2.1,y.length<=4000
 flg:x.2.2.2.2.1.length<=20/\∀y∈x.2.2.2.2.1,y.length<=4000
 fld:x.2.2.2.2.2.2.1.length<=20/\∀y∈x.2.2.2.2.2.2.1,y.1.length<=4000/\y.2.1.length<=4000
theorem aIF {x:G0}(h:DK x=true):aIE x:=by
 have h':=h;unfold DK at h';simp only[aMb] at h';obtain⟨⟨⟨⟨⟨⟨⟨⟨hne,h200⟩,hid⟩,hsrc⟩,htgt⟩,hcom⟩,hflg⟩,_⟩,hfld⟩:=h';obtain⟨c1,c2⟩:=U9 hcom;obtain⟨f1,f2,f3⟩:=aIu hflg;obtain⟨g1,g2,g3⟩:=UA hfld;exact⟨HL hid,HL hsrc,HL htgt,⟨c1,fun y hy=>HL (c2 y hy)⟩,⟨f1,fun y hy=>HL (aCr (f2 y hy))⟩,⟨g1,fun y hy=>⟨HL (g2 y hy).2.1,HL (g2 y hy).2.2⟩⟩⟩
theorem aIG {c:C4}(h:EM c=true):JN c c=some ()/\((((decide (c.1=c.1))&&(val (wI c.2.1 c.2.1)))&&(val (z8 c.2.2.1 c.2.2.1)))&&(val (CG c.2.2.2.1 c.2.2.2.1)))=true:=by
 obtain⟨h1,h2,h3,h4,h5,_⟩:=aIw h;have f2:sR c.2.1:=by have:=(U9 h2).1;unfold sR;omega
 have f3:sR c.2.2.1:=by have:=(UA h3).1;unfold sR;omega
 have f4:sR c.2.2.2.1:=by unfold sR;omega
 have f5: ∀y∈c.2.2.2.1,a43 y:=fun y hy=>by
  have hs:=aIF (h5 y hy);exact⟨by have:=hs.com.1;unfold sR;omega,by have:=hs.flg.1;unfold sR;omega,by have:=hs.fld.1;unfold sR;omega⟩
 constructor
 .unfold JN PC;rw[MB _ f2,U8 _ f3,aCn _ f4 f5];rw[aLQ M9,aLQ M9,aLP,aLQ M9]
 .rw[MB _ f2,U8 _ f3,aCn _ f4 f5];simp [val]
def CK:Nat->pE->pQ
 |_,[]=>[]
 |a,x::ps=>(a+x.length)::CK (a+x.length) ps
theorem aCw: ∀(a:Nat) (ps:pE),(CK a ps).length=ps.length
 |_,[]=>rfl
 |a,x::ps=>by rw[CK,aLY,aLY,aCw]
theorem aCx: ∀(ps:pE) (a j:Nat),j<=ps.length->(a::CK a ps).getD j 0=a+(ps.take j).flatten.length
 |_,a,0,_=>by simp
 |[],_,_+1,h=>by simp at h
 |x::ps,a,j+1,h=>by
  rw[CK,List.getD_cons_succ,aCx ps (a+x.length) j (by simpa using h),List.take_succ_cons,aMD,aLT];omega
theorem aCy (ps:pE) (j:Nat):ps.flatten=(ps.take j).flatten++(ps.drop j).flatten:=by
 rw[<-List.flatten_append,aNk]
theorem aIH {s a b c:pD}(h:s=a++(b++c)):sD s (a.length:Nat) ((a.length+b.length:Nat):Int)=b:=by
 unfold sD;rw[aMK,aMK,h,aNq,aMC,aM2]
noncomputable section
def x4 (s p:pD):pD×Bool:=if s.take p.length=p then(s.drop p.length,true) else(s,false)
theorem aII {s p:pD}:((decide ((List.length p:Int)≤(List.length s:Int)))&&decide (sD s (0:Int) (List.length p:Int)=p))=decide (s.take p.length=p):=by
  rw[a4W];by_cases h:s.take p.length=p
  · have:=aL9 List.length h
    rw[aMd] at this;simp [h];omega
  .simp [h]
theorem UB (s p:pD):DF s p=some (x4 s p):=by
  unfold DF JD internal_stringslite_HasPrefix;rw[aLQ (fun h=>⟨aM5 _,pG,by simpa using h⟩),aLP,aII];unfold x4;by_cases h:s.take p.length=p
  · have:=aL9 List.length h
    rw[aMd] at this;rw[aLU (by simp [h]),aLQ ⟨pG,pG,aM5 _⟩,aLQ h,PT];rfl
  .rw[aLQ (by simp [h]),aLU h];rfl
theorem aIJ (s:pD) (base:Int) (hs:sR s): ∃n b,EE s base=some (n,b):=by
  unfold sR at hs
  have loop: ∀(k i:Nat) (n:Int),i+k=s.length→∃r,rX (H8 s base) (n,(i:Int))=some r:=by
    intro k
    induction k with
    | zero=>
      intro i n hi;obtain rfl:i=s.length:=by omega
      refine⟨Sum.inl n,vF (r:=Sum.inl n) ?_⟩
      · unfold H8
        dsimp only;rw[aLU (y8 _)]
    | succ k ih=>
      intro i n hi;have h:i<s.length:=by omega
      obtain⟨r2,e2⟩: ∃d:Int,(t8 (σ:=Int) (
       if ((decide ((65:Int)≤(tU s i)))&&(decide ((tU s i)≤(70:Int))))=true then
        if 0≤(i:Int)∧(i:Int)<(List.length s:Int) then
         some ((IntKind.wrap .i64 ((IntKind.wrap .i64 (IntKind.wrap .u8 ((tU s i)- (65:Int))))+(10:Int))))
        else none
       else
        some ((uU ([48,49,50,51,52,53,54,55,56,57,97,98,99,100,101,102]:pD) (tU s i)))
      ) fun d=>some d)=some d:=by
        unfold t8;split
        .rw[aLQ (uK h)];exact⟨_,rfl⟩
        .exact⟨_,rfl⟩
      have hw:IntKind.wrap .i64 ((i:Int)+1)=((i+1:Nat):Int):=by
        rw[IntWalk.i64_in _ pG];rfl
      have hst:(∃r,H8 s base (n,(i:Int))=some (.inr r))∨∃m,H8 s base (n,(i:Int))=some (.inl (m,((i+1:Nat):Int))):=by
        unfold H8;dsimp only;rw[aLQ (wJ h),aLQ (uK h),aLQ (uK h),aLQ (fun _=>uK h),hw];unfold t8 at e2|-;generalize (if ((decide ((65:Int)≤(tU s i)))&&(decide ((tU s i)≤(70:Int))))=true then
        if 0≤(i:Int)∧(i:Int)<(List.length s:Int) then
         some ((IntKind.wrap .i64 ((IntKind.wrap .i64 (IntKind.wrap .u8 ((tU s i)- (65:Int))))+(10:Int))))
        else none
       else
        some ((uU ([48,49,50,51,52,53,54,55,56,57,97,98,99,100,101,102]:pD) (tU s i))))=o at e2|-
        cases o with
        |none=>cases e2
        | some d=>
          rw[aLP];split
          .exact .inl ⟨_,rfl⟩
          .exact .inr ⟨_,rfl⟩
      rcases hst with⟨r,hr⟩ |⟨m,hm⟩
      .exact⟨_,vF hr⟩
      · rw[vN hm]
        exact ih (i+1) m pG
  obtain⟨r,hr⟩:=loop s.length 0 0 pG;have hr':rX (H8 s base) ((0:Int),(0:Int))=some r:=hr;unfold EE;rw[hr'];cases r with
  |inl n=>exact⟨_,_,rfl⟩
  |inr x=>obtain⟨n,b⟩:=x;exact⟨n,b,rfl⟩
def rE (l:pD):pD×Int:=(EH l).getD ([],0)
theorem UC (l:pD) (b:UInt8):Lib.indexByte l b<l.length∧ -1≤Lib.indexByte l b:=T5 l b
theorem aIK (n:Int):(if EL n=true then Lib.encodeRune n else Lib.encodeRune 65533).length≤4:=by
  split<;>exact aIf _
theorem aCz {l t:pD}(h38:l=38::t) (hf:sR l):EH l=some (rE l)∧(rE l).1.length≤4∧((rE l).2=0∨((rE l).2=Lib.indexByte l 59+1∧1≤Lib.indexByte l 59)):=by
  have hix:uU l 59=Lib.indexByte l 59:=rfl;have hr:=UC l 59
  have h1:Lib.indexByte l 59<0∨1≤Lib.indexByte l 59:=by
    rw[h38] at hr|-;unfold Lib.indexByte at hr|-;rw[aLU pH] at hr|-;split
    .left;decide
    · have:=UC t 59
      rename_i h;have h':Lib.indexByte t 59≠ -1:=by simpa using h
      omega
  suffices h: ∃x k,EH l=some (x,k)∧x.length≤4∧(k=0∨(k=Lib.indexByte l 59+1∧1≤Lib.indexByte l 59)) by
    obtain⟨x,k,e,h2,h3⟩:=h;have:rE l=(x,k):=by unfold rE;rw[e];rfl
    rw[this];exact⟨e,h2,h3⟩
  unfold sR at hf;unfold EH;rw[hix];by_cases hk:Lib.indexByte l 59<0
  · rw[aLQ (aMg hk)]
    exact⟨[],0,rfl,by simp,.inl rfl⟩
  · have hk1:1≤Lib.indexByte l 59:=by omega
    have hi:qE (Lib.indexByte l 59+1):=by unfold qE;omega
    rw[aLU (by simpa using hk),aLQ ⟨pH,hk1,pG⟩,aLQ hi,aLQ hi,aLQ hi,aLQ hi,aLQ hi]
    have hnl:(sD l 1 (Lib.indexByte l 59)).length≤l.length:=by
      unfold sD;rw[aMd,aL8];omega
    generalize sD l 1 (Lib.indexByte l 59)=nm at hnl|-;split
    .exact⟨_,_,rfl,by simp,.inr ⟨rfl,hk1⟩⟩
    split
    .exact⟨_,_,rfl,by simp,.inr ⟨rfl,hk1⟩⟩
    split
    .exact⟨_,_,rfl,by simp,.inr ⟨rfl,hk1⟩⟩
    split
    .exact⟨_,_,rfl,by simp,.inr ⟨rfl,hk1⟩⟩
    split
    .exact⟨_,_,rfl,by simp,.inr ⟨rfl,hk1⟩⟩
    rw[UB,aLP]
    have h2:(x4 nm [35]).1.length≤l.length:=by
      unfold x4;split
      .rw[aL8];omega
      .exact hnl
    generalize x4 nm [35]=c1 at h2|-;split
    .exact⟨[],0,rfl,by simp,.inl rfl⟩
    rw[UB,aLP]
    have h3:(x4 c1.1 [120]).1.length≤l.length:=by
      unfold x4;split
      .rw[aL8];omega
      .exact h2
    generalize x4 c1.1 [120]=c2 at h3|-
    obtain⟨u,e,hu⟩: ∃u:pD×Int×Int,(if c2.2=true then some ((c2.1,(16:Int),(6:Int))) else some ((c1.1,(10:Int),(7:Int))))=some u∧u.1.length≤l.length:=by
      split
      .exact⟨_,rfl,h3⟩
      .exact⟨_,rfl,h2⟩
    unfold t8;rw[e,aLP];obtain⟨u1,u2,u3⟩:=u;dsimp only at hu|-;obtain⟨n,b,ed⟩:=aIJ u1 u2 (by unfold sR;omega);rw[ed,aLP];split
    .exact⟨[],0,rfl,by simp,.inl rfl⟩
    rw[aIe,aLP];split
    .exact⟨[],0,rfl,by simp,.inl rfl⟩
    .exact⟨_,_,rfl,aIK n,.inr ⟨rfl,hk1⟩⟩
def zS:Nat→pD→Option pD
  |0,_=>some []
  |_+1,[]=>some []
  |n+1,b::t=>if b=38 then(if (rE (b::t)).2=0 then none else(zS n ((b::t).drop (rE (b::t)).2.toNat)).map ((rE (b::t)).1++ ·)) else if b=60∨b=34 then none else(zS n t).map (b:: ·)
theorem aCA {s:pD}{i:Nat}(h:i≤s.length):sD s (i:Int) (s.length:Int)=s.drop i:=PT
theorem aCB (b:UInt8):JE 4 (b.toNat:Int)=(decide (b=60)||decide (b=34)):=by
  unfold JE;rw[aLU pH];simp only[Y5];show (decide ((b.toNat:Int)=60)||decide ((b.toNat:Int)=34))=_
  rw[eqB (n:=60) 60 rfl,eqB (n:=34) 34 rfl]
theorem a48 {s:pD}(hs:sR s): ∀(k i:Nat) (x:pM),i≤s.length→s.length-i≤k→x.length+4*(s.length-i)≤5000000000000→
    ∃ r,rX (DG 4 s) ((i:Int),x)=some r∧(match zS k (s.drop i) with
      |some y=>r= .inl (x++uW y)
      |none=> ∃j,r= .inr ([],j,3))
  | k,i,x,hi,hk,hx=>by
    have hs':=hs;unfold sR at hs';by_cases he:i=s.length
    · subst he
      refine⟨.inl x,vF ?_,?_⟩
      · unfold DG
        dsimp only;rw[aLU (y8 _)]
      · rw[aMU]
        cases k<;>simp [zS,uW]
    · have h:i<s.length:=by omega
      cases k with
      |zero=>omega
      | succ k=>
        rw[aMw h];have hb:tU s (i:Int)=(s[i].toNat:Int):=aB1 h;unfold zS;by_cases h38:s[i]=38
        · have hd:s.drop i=38::s.drop (i+1):=by rw[aMw h,h38]
          obtain⟨e1,e2,e3⟩:=aCz (l:=s.drop i) hd (by unfold sR;rw[aL8];omega);rw[aLQ h38,h38,←hd];have hr:=UC (s.drop i) 59;rw[aL8] at hr;by_cases h0:(rE (s.drop i)).2=0
          · rw[aLQ h0]
            refine⟨.inr ([],(i:Int),3),vF ?_,⟨_,rfl⟩⟩;unfold DG;dsimp only;rw[aLQ (wJ h),aLQ (uK h),hb,h38,aLQ pH,aLQ ⟨pG,pG,aM5 _⟩,aCA pG,e1,aLP,aLQ (aMg h0)]
          · rw[aLU h0]
            have hk2:(rE (s.drop i)).2=Lib.indexByte (s.drop i) 59+1∧1≤Lib.indexByte (s.drop i) 59:=by
              rcases e3 with e|e
              .exact absurd e h0
              .exact e
            have hst:DG 4 s ((i:Int),x)=some (.inl (((i+(rE (s.drop i)).2.toNat:Nat):Int),x++uW (rE (s.drop i)).1)):=by
              unfold DG;dsimp only;rw[aLQ (wJ h),aLQ (uK h),hb,h38,aLQ pH,aLQ ⟨pG,pG,aM5 _⟩,aCA pG,e1,aLP,aLU (by simpa using h0),aIk pG pG,aLP,aLQ (by unfold qE;omega)];rw[show (i:Int)+(rE (s.drop i)).2=((i+(rE (s.drop i)).2.toNat:Nat):Int) by omega]
            obtain⟨r,hr1,hr2⟩:=a48 hs k (i+(rE (s.drop i)).2.toNat) (x++uW (rE (s.drop i)).1) pG pG (by rw[aLT,a45];omega);refine⟨r,by rw[vN hst];exact hr1,?_⟩;rw[aNN];cases hu:zS k (s.drop (i+(rE (s.drop i)).2.toNat)) with
            |none=>rw[hu] at hr2;exact hr2
            | some y=>
              rw[hu] at hr2;simp only[Option.map_some];rw[hr2,a42,aLV]
        · rw[aLU h38]
          have h38': ¬decide ((s[i].toNat:Int)=38)=true:=by rw[eqB (n:=38) 38 rfl];simpa using h38
          by_cases hf:s[i]=60∨s[i]=34
          · rw[aLQ hf]
            refine⟨.inr ([],(i:Int),3),vF ?_,⟨_,rfl⟩⟩;unfold DG;dsimp only;rw[aLQ (wJ h),aLQ (uK h),hb,aLU h38',aLQ (uK h),aCB,aLQ (by simpa using hf)]
          · rw[aLU hf]
            have hst:DG 4 s ((i:Int),x)=some (.inl (((i+1:Nat):Int),x++uW [s[i]])):=by
              unfold DG;dsimp only;rw[aLQ (wJ h),aLQ (uK h),hb,aLU h38',aLQ (uK h),aCB,aLU (by simpa using hf),aLQ (uK h),aIj pG,aLP,aLQ (xW pG)];rfl
            obtain⟨r,hr1,hr2⟩:=a48 hs k (i+1) (x++uW [s[i]]) pG pG (by rw[aLT,a45];simp only[aLY,aMh];omega);refine⟨r,by rw[vN hst];exact hr1,?_⟩;cases hu:zS k (s.drop (i+1)) with
            |none=>rw[hu] at hr2;exact hr2
            | some y=>
              rw[hu] at hr2;simp only[Option.map_some];rw[hr2,aLV,←a42];rfl
def yA (s:pD):Option pD:=match zS s.length s with
  |some t=>if vA t=true then some t else none
  |none=>none
theorem aCC {s:pD}(hs:sR s): ∃r,FX 4 s=some r∧(match zS s.length s with
      |some y=>r=(y,0,0)
      |none=>r.1=[]∧r.2.2=3):=by
  have hs':=hs;unfold sR at hs';obtain⟨r,hr1,hr2⟩:=a48 hs s.length 0 [] pG pG pJ;have hr1':rX (DG 4 s) ((0:Int),[])=some r:=hr1;rw[aNb] at hr2;unfold FX;rw[aLU pH,aLQ pH,hr1'];cases hu:zS s.length s with
  | none=>
    rw[hu] at hr2;obtain⟨j,rfl⟩:=hr2;exact⟨_,rfl,rfl,rfl⟩
  | some y=>
    rw[hu] at hr2;dsimp only at hr2;subst hr2;refine⟨_,rfl,?_⟩;show (x7 ([]++uW y),(0:Int),(0:Int))=(y,0,0);rw[List.nil_append,aCk]
theorem UD: ∀(k:Nat) (l r:pD),sR l→zS k l=some r→r.length≤4*k
  |0,l,r,_,h=>by unfold zS at h;cases h;simp
  |k+1,[],r,_,h=>by unfold zS at h;cases h;simp
  | k+1,b::t,r,hf,h=>by
    have hf':sR t:=by unfold sR at hf|-;simp only[aLY] at hf;omega
    unfold zS at h;split at h
    · rename_i hb
      split at h
      .cases h
      · obtain⟨y,hy,rfl⟩:=aLW.1 h
        have h1:=(aCz (l:=b::t) (t:=t) (by rw[hb]) hf).2.1;have h2:=UD k _ y (by unfold sR at hf|-;rw[aL8];omega) hy;rw[aLT];omega
    · split at h
      .cases h
      · obtain⟨y,hy,rfl⟩:=aLW.1 h
        have h2:=UD k t y hf' hy;simp only[aLY];omega
theorem aCD {s:pD}(hs:s.length≤1000000000): ∃t,EI s=some (t,(yA s).isSome)∧(∀y,yA s=some y→t=y):=by
  have hf:sR s:=by unfold sR;omega
  obtain⟨r,hr,hm⟩:=aCC hf;unfold EI yA;rw[hr,aLP];cases hu:zS s.length s with
  | none=>
    rw[hu] at hm;have hne:decide (r.2.2=0)=false:=by rw[hm.2];rfl
    rw[hne,aLQ (fun h=>by cases h)];exact⟨_,rfl,fun y h=>by cases h⟩
  | some y=>
    rw[hu] at hm;dsimp only at hm;subst hm;have hl:=UD _ _ _ hf hu;have h1:=aIg y (by unfold sR;omega);dsimp only;rw[aLQ (fun _=>by rw[h1];rfl)];refine⟨y,?_,fun z hz=> ?_⟩
    · show some (y,(_&&vA y))=_
      cases vA y<;>rfl
    · split at hz
      .exact aLS hz
      .cases hz
end
end Go.Proofs.YtkpflnijijccpaaGreatDoor
