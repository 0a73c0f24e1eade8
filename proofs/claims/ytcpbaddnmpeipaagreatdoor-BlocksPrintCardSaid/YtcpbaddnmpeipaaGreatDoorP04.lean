/- BlocksPrint returns true for every catalog (Print gives the canonical body and Pieces its pieces, or ErrArg): the tied card of the statement, over the row's statement. No condition. -/
/- Packed by a program of mine (wip/tools/pack.py): the same texts with short names and few blanks. -/
import Derived.Deep.CondSized
import Derived.Deep.DeepHandedRow
import Derived.Deep.DeepWitnessRowRef
import Derived.KernelRfl
import Derived.Laws.BitsLemmas
import Derived.Lib.Index
import Derived.Lib.IndexAny
import Derived.Lib.LaidIn
import Derived.Lib.LaidTab
import Derived.Lib.LaidU8T
import Derived.Lib.MapLaws
import Derived.Lib.TrimAscii
import Derived.Lib.TrimUEq
import Derived.Lib.ValidLaws
import Derived.OpenShut
import Derived.ProofKit
import Derived.SevenTiedAt
import Derived.SizedLaws
import Derived.Sort.Walk0
import Derived.Test.YtcpbaddnmpeipaaGreatDoorCards
import Derived.Test.YtcpbaddnmpeipaaGreatDoorRows
import Derived.Test.YtcpbaddnmpeipaaGreatDoorTie
import Derived.WalkKit
import Derived.Test.YtcpbaddnmpeipaaGreatDoorP03
set_option linter.defProp false
set_option linter.unusedVariables false
set_option linter.unusedSimpArgs false
set_option linter.unusedSectionVars false
set_option maxRecDepth 100000
set_option maxHeartbeats 4000000
namespace Go.Proofs.YtcpbaddnmpeipaaGreatDoor
open Vc
open _root_.Go.Proofs.Tryz
noncomputable section
def K2 (O:sP):Option pE:=(zN O.1).bind fun Z=>if ((([10,101,110,116,114,121,32]:pE)++Z).length:Int)≤9223372036854775807 then if (((([10,101,110,116,114,121,32]:pE)++Z)++([10]:pE)).length:Int)≤9223372036854775807 then (GZ O.2.2.2.1).bind fun aA=>if ((((([10,101,110,116,114,121,32]:pE)++Z)++([10]:pE))++aA).length:Int)≤9223372036854775807 then tA (σ:=pE) (if (!decide (O.2.1=([]:pE)))=true then (zN O.2.1).bind fun aB=>if ((([32,32,115,111,117,114,99,101,32]:pE)++aB).length:Int)≤9223372036854775807 then if (((([32,32,115,111,117,114,99,101,32]:pE)++aB)++([10]:pE)).length:Int)≤9223372036854775807 then if (((((([10,101,110,116,114,121,32]:pE)++Z)++([10]:pE))++aA)++((([32,32,115,111,117,114,99,101,32]:pE)++aB)++([10]:pE))).length:Int)≤9223372036854775807 then some (((((([10,101,110,116,114,121,32]:pE)++Z)++([10]:pE))++aA)++((([32,32,115,111,117,114,99,101,32]:pE)++aB)++([10]:pE)))) else none else none else none else some ((((([10,101,110,116,114,121,32]:pE)++Z)++([10]:pE))++aA)) ) fun aC=>tA (σ:=pE) (if (!decide (O.2.2.1=([]:pE)))=true then (zN O.2.2.1).bind fun aD=>if ((([32,32,116,97,114,103,101,116,32]:pE)++aD).length:Int)≤9223372036854775807 then if (((([32,32,116,97,114,103,101,116,32]:pE)++aD)++([10]:pE)).length:Int)≤9223372036854775807 then if ((aC++((([32,32,116,97,114,103,101,116,32]:pE)++aD)++([10]:pE))).length:Int)≤9223372036854775807 then some ((aC++((([32,32,116,97,114,103,101,116,32]:pE)++aD)++([10]:pE)))) else none else none else none else some (aC) ) fun aE=>tA (σ:=pE) (if (!decide (O.2.2.2.2.2.1=(0:Int)))=true then if 0≤O.2.2.2.2.2.1∧O.2.2.2.2.2.1<(([([110,101,119]:pE),([102,117,122,122,121]:pE),([116,114,97,110,115,108,97,116,101,100]:pE),([114,101,118,105,101,119,101,100]:pE),([111,98,115,111,108,101,116,101]:pE)]:pF).length:Int) then if ((([32,32,115,116,97,116,101,32]:pE)++(qR .str ([([110,101,119]:pE),([102,117,122,122,121]:pE),([116,114,97,110,115,108,97,116,101,100]:pE),([114,101,118,105,101,119,101,100]:pE),([111,98,115,111,108,101,116,101]:pE)]:pF) O.2.2.2.2.2.1)).length:Int)≤9223372036854775807 then if (((([32,32,115,116,97,116,101,32]:pE)++(qR .str ([([110,101,119]:pE),([102,117,122,122,121]:pE),([116,114,97,110,115,108,97,116,101,100]:pE),([114,101,118,105,101,119,101,100]:pE),([111,98,115,111,108,101,116,101]:pE)]:pF) O.2.2.2.2.2.1))++([10]:pE)).length:Int)≤9223372036854775807 then if ((aE++((([32,32,115,116,97,116,101,32]:pE)++(qR .str ([([110,101,119]:pE),([102,117,122,122,121]:pE),([116,114,97,110,115,108,97,116,101,100]:pE),([114,101,118,105,101,119,101,100]:pE),([111,98,115,111,108,101,116,101]:pE)]:pF) O.2.2.2.2.2.1))++([10]:pE))).length:Int)≤9223372036854775807 then some ((aE++((([32,32,115,116,97,116,101,32]:pE)++(qR .str ([([110,101,119]:pE),([102,117,122,122,121]:pE),([116,114,97,110,115,108,97,116,101,100]:pE),([114,101,118,105,101,119,101,100]:pE),([111,98,115,111,108,101,116,101]:pE)]:pF) O.2.2.2.2.2.1))++([10]:pE)))) else none else none else none else none else some (aE) ) fun aF=>if (decide ((0:Int)<(O.2.2.2.2.1.length:Int)))=true then if List.length O.2.2.2.2.1≤140737488355328∧List.length (yE O.2.2.2.2.1 ([32]:pE))≤140737488355328 then if ((([32,32,102,108,97,103,115,32]:pE)++(yE O.2.2.2.2.1 ([32]:pE))).length:Int)≤9223372036854775807 then if (((([32,32,102,108,97,103,115,32]:pE)++(yE O.2.2.2.2.1 ([32]:pE)))++([10]:pE)).length:Int)≤9223372036854775807 then if ((aF++((([32,32,102,108,97,103,115,32]:pE)++(yE O.2.2.2.2.1 ([32]:pE)))++([10]:pE))).length:Int)≤9223372036854775807 then (F4 O.2.2.2.2.2.2.1).bind fun aG=>if (((aF++((([32,32,102,108,97,103,115,32]:pE)++(yE O.2.2.2.2.1 ([32]:pE)))++([10]:pE)))++aG).length:Int)≤9223372036854775807 then if ((((aF++((([32,32,102,108,97,103,115,32]:pE)++(yE O.2.2.2.2.1 ([32]:pE)))++([10]:pE)))++aG)++([101,110,100,10]:pE)).length:Int)≤9223372036854775807 then some ((((aF++((([32,32,102,108,97,103,115,32]:pE)++(yE O.2.2.2.2.1 ([32]:pE)))++([10]:pE)))++aG)++([101,110,100,10]:pE))) else none else none else none else none else none else none else (F4 O.2.2.2.2.2.2.1).bind fun aH=>if ((aF++aH).length:Int)≤9223372036854775807 then if (((aF++aH)++([101,110,100,10]:pE)).length:Int)≤9223372036854775807 then some (((aF++aH)++([101,110,100,10]:pE))) else none else none else none else none else none
section
variable (O:sP)
abbrev a6I:List qC:=[(.val sM O,none)]
abbrev a6J:List qB:=[]
@[go_sem] def a6K:qJ:=⟨[((K2 O)).isSome=true],[(.val .str (val (K2 O)),none)],[]⟩
def aGr:List qC→List qB→Option qJ:=rL (V:=sP) (a6I) (fun x=>a6J) fun x=>a6K x
@[go_sem] def aRt:aGr (no_index (a6I O)) (no_index a6J)=some (a6K O):=rO (fun a0 b0 h1 h2=>by cases h1;cases h2;rfl) O
end
@[go_sem] abbrev aGs:Nat×r7:=(40,⟨[.v],aGr,[],[],none⟩)
def B3:r5 prog [uF,s8,uM,v8,A6] (r6 [Q3,a6r,UV,UJ,a6v]):=⟨⟨uN,⟨s9,⟨vA,⟨vW,⟨BF,trivial⟩⟩⟩⟩⟩,qO V9 (qO aGj (qO aDA (qO aCH (qO aGl rH)))),r8⟩
def aNu:rD prog aGs:=by
 refine rP B3 func40 (c:=_) rfl (N:=62) pW (ts:=[(2,none)]) rfl (fun _ _=>rfl) ?_;intro O hs hrow;dsimp only[a6I,a6J,a6K,rI,qS,qW,r9,rK,Nat.reduceAdd] at hs hrow|-;have hz:=hs;obtain⟨z0,e⟩:=aRW.1 hz
 try rw[rW e]
 clear hz hs;unfold K2 at e;refine q9 B3 ?_;obtain⟨Z,hv1,hw1,e⟩:=rF e
 try simp only[go_sem] at hw1
 obtain⟨X,W,e⟩:=pD e;obtain⟨aA,hv4,hw4,e⟩:=rF e
 try simp only[go_sem] at hw4
 obtain⟨V,e⟩:=qG e;refine v6 B3 ?_ (hp:=by exact⟨rC hv1,X,W,rC hv4,V⟩) (h:=by simp only[go_sem,hw1,hw4];rfl);refine qK (q9 B3 ?_);obtain⟨aB,d,e⟩:=rV e;refine yC (fun s=>s=(fun x=>⟨[(1,.val .ref (some (0,0)),none),(3,.val .str x,none)],[(0,.cells sM O [])],1,62,0⟩) aB) ?_ ?_
 .refine qQ d ?_ ?_<;>intro d Y
  .obtain⟨aC,hv6,hw6,d⟩:=rF d
   try simp only[go_sem] at hw6
   obtain⟨U,T,d⟩:=pD d;obtain⟨S,d⟩:=qG d;refine rE B3 ?_ (hp:=by exact⟨rC hv6,U,T,S⟩) (h:=by simp only[go_sem,hw6];rfl);cases d;exact tF ⟨⟨[1,3],[(0,0)]⟩,by rfl⟩
  refine qU ?_;cases d;exact tF ⟨⟨[1,3],[(0,0)]⟩,by rfl⟩
 rintro _ rfl;dsimp only at e|-;refine qI (qK (q9 B3 ?_));obtain⟨aD,d,e⟩:=rV e;refine yC (fun s=>s=(fun x=>⟨[(1,.val .ref (some (0,0)),none),(3,.val .str x,none)],[(0,.cells sM O [])],1,62,0⟩) aD) ?_ ?_
 .refine qQ d ?_ ?_<;>intro d Y
  .obtain⟨aE,hv10,hw10,d⟩:=rF d
   try simp only[go_sem] at hw10
   obtain⟨R,Q,d⟩:=pD d;obtain⟨P,d⟩:=qG d;refine rE B3 ?_ (hp:=by exact⟨rC hv10,R,Q,P⟩) (h:=by simp only[go_sem,hw10];rfl);cases d;exact tF ⟨⟨[1,3],[(0,0)]⟩,by rfl⟩
  refine qU ?_;cases d;exact tF ⟨⟨[1,3],[(0,0)]⟩,by rfl⟩
 rintro _ rfl;dsimp only at e|-;refine qI (qK (q9 B3 ?_));obtain⟨aF,d,e⟩:=rV e;refine yC (fun s=>s=(fun x=>⟨[(1,.val .ref (some (0,0)),none),(3,.val .str x,none)],[(0,.cells sM O [])],1,62,0⟩) aF) ?_ ?_
 .refine qQ d ?_ ?_<;>intro d Y
  .obtain⟨M,L,d⟩:=pD d;obtain⟨K,J,d⟩:=pD d;refine D4 B3 ?_ (hp:=by exact⟨M,L,K,J⟩);cases d;exact tF ⟨⟨[1,3],[(0,0)]⟩,by rfl⟩
  refine qU ?_;cases d;exact tF ⟨⟨[1,3],[(0,0)]⟩,by rfl⟩
 rintro _ rfl;dsimp only at e|-;refine qI (qK (q9 B3 ?_));refine qQ e ?_ ?_<;>intro e Y
 .obtain⟨I,H,e⟩:=pD e;obtain⟨G,F,e⟩:=pD e;refine rE B3 ?_ (hp:=by exact⟨I,H,G,F⟩);refine qI ?_;obtain⟨aG,hv22,hw22,e⟩:=rF e
  try simp only[go_sem] at hw22
  obtain⟨E,D,e⟩:=pD e;refine q9 B3 ?_ (hp:=by exact⟨rC hv22,E,D⟩) (h:=by simp only[go_sem,hw22];rfl);refine qM ?_;cases e;exact pG []
 refine qU (qI ?_);obtain⟨aH,hv25,hw25,e⟩:=rF e
 try simp only[go_sem] at hw25
 obtain⟨C,B,e⟩:=pD e;refine q9 B3 ?_ (hp:=by exact⟨rC hv25,C,B⟩) (h:=by simp only[go_sem,hw25];rfl);refine qM ?_;cases e;exact pG []
def Q9 (O:(List qV)):(pE×Int)→Option ((pE×Int)⊕pE):=fun(Z,aA)=>if (decide (aA<(O.length:Int)))=true then if ((Z++([32,32,102,105,101,108,100,32]:pE)).length:Int)≤9223372036854775807 then if 0≤aA∧aA<(O.length:Int) then (zO ((qR rM O aA).1)).bind fun aB=>if (((Z++([32,32,102,105,101,108,100,32]:pE))++aB).length:Int)≤9223372036854775807 then if ((((Z++([32,32,102,105,101,108,100,32]:pE))++aB)++([32]:pE)).length:Int)≤9223372036854775807 then if 0≤aA∧aA<(O.length:Int) then (zO ((qR rM O aA).2.1)).bind fun aC=>if (((((Z++([32,32,102,105,101,108,100,32]:pE))++aB)++([32]:pE))++aC).length:Int)≤9223372036854775807 then if ((((((Z++([32,32,102,105,101,108,100,32]:pE))++aB)++([32]:pE))++aC)++([10]:pE)).length:Int)≤9223372036854775807 then if qD (aA+(1:Int)) then some (.inl ((((((Z++([32,32,102,105,101,108,100,32]:pE))++aB)++([32]:pE))++aC)++([10]:pE)),(aA+(1:Int)))) else none else none else none else none else none else none else none else none else some (.inr Z)
def H5 (O:(List qV)):Option pE:=tA (s5 (Q9 O) (([]:pE),(0:Int))) fun Z=>some (Z)
section
variable (O:(List qV))
abbrev a6L:List qC:=[(.val (.list rM) O,none)]
abbrev a6M:List qB:=[]
@[go_sem] def a6N:qJ:=⟨[((H5 O)).isSome=true],[(.val .str (val (H5 O)),none)],[]⟩
def aGt:List qC→List qB→Option qJ:=rL (V:=(List qV)) (a6L) (fun x=>a6M) fun x=>a6N x
@[go_sem] def aRu:aGt (no_index (a6L O)) (no_index a6M)=some (a6N O):=rO (fun a0 b0 h1 h2=>by cases h1;cases h2;rfl) O
end
@[go_sem] abbrev a6O:Nat×r7:=(45,⟨[.v],aGt,[],[],none⟩)
def H6:r5 prog [s8,v8,zC] (r6 [Q6]):=⟨⟨s9,⟨vW,⟨C2,trivial⟩⟩⟩,qO VA rH,r8⟩
def aGu:rD prog a6O:=by
 refine rP H6 func45 (c:=_) rfl (N:=30) pW (ts:=[(2,none)]) rfl (fun _ _=>rfl) ?_;intro O hs hrow;dsimp only[a6L,a6M,a6N,rI,qS,qW,r9,rK,Nat.reduceAdd] at hs hrow|-;have hz:=hs;obtain⟨z0,e⟩:=aRW.1 hz
 try rw[rW e]
 clear hz hs;unfold H5 at e;refine q9 H6 ?_;refine q9 H6 ?_;refine qK (q9 H6 ?_);refine rT ?_;obtain⟨Z,hy1,e⟩:=rV e;refine tC 0 (fun s=>s=(fun x=>⟨[(3,.val .str x,none)],[],0,30,0⟩) Z) ?_ ?_
 .refine t8 hy1 (fun x=>⟨[(0,.val (.list rM) O,none),(3,.val .str x.1,none),(4,.val (.int .i64) x.2,none)],[],0,30,0⟩) ⟨[0,3,4],[]⟩ pX ?_;intro x1 w1 n1 d g;obtain⟨aA,aB⟩:=x1;unfold Q9 at d;dsimp only at d|-;refine qK (q9 H6 ?_);refine qQ d ?_ ?_<;>intro d Y
  .refine qU (qI (qK (rT ?_)));obtain⟨X,W,d⟩:=pD d;obtain⟨aC,hv3,hw3,d⟩:=rF d
   try simp only[go_sem] at hw3
   obtain⟨V,U,d⟩:=pD d;obtain⟨T,d⟩:=qG d;obtain⟨aD,hv7,hw7,d⟩:=rF d
   try simp only[go_sem] at hw7
   obtain⟨S,R,d⟩:=pD d;refine D4 H6 ?_ (hp:=by exact⟨X,W,rC hv3,V,U,T,rC hv7,S,R⟩) (h:=by simp only[go_sem,hw3,hw7];rfl);refine rX (qI ?_);obtain⟨Q,d⟩:=qG d;refine rE H6 ?_ (hp:=by exact Q);cases d;exact sK ⟨⟨[0,3,4],[]⟩,_,by rfl,g⟩
  refine sY (sW (sZ ?_));cases d;cases g;exact tD ⟨⟨[3],[]⟩,by rfl⟩
 rintro _ rfl;dsimp only at e|-;refine sX (qI ?_);refine q9 H6 ?_;refine qM ?_;cases e;exact pG []
def QA (O:(List qV)):Int→Option (Int⊕(Unit⊕Bool)):=fun Z=>if (decide (Z<(O.length:Int)))=true then if 0≤Z∧Z<(O.length:Int) then (GT ((qR rM O Z).1)).bind fun aA=>if (((!aA)==false)=true→0≤Z∧Z<(O.length:Int)) then if (((!aA)==false)=true→((DF ((qR rM O Z).2.1))).isSome=true) then if (((((!aA)||(!((decide ((((qR rM O Z).2.1).length:Int)≤(4000:Int)))&&(val (tS ((qR rM O Z).2.1))))))==false)&&((decide ((0:Int)<Z))==true))=true→0≤Z∧Z<(O.length:Int)) then if (((((!aA)||(!((decide ((((qR rM O Z).2.1).length:Int)≤(4000:Int)))&&(val (tS ((qR rM O Z).2.1))))))==false)&&((decide ((0:Int)<Z))==true))=true→qD (Z- (1:Int))) then if (((((!aA)||(!((decide ((((qR rM O Z).2.1).length:Int)≤(4000:Int)))&&(val (tS ((qR rM O Z).2.1))))))==false)&&((decide ((0:Int)<Z))==true))=true→0≤(Z- (1:Int))∧(Z- (1:Int))<(O.length:Int)) then if (((!aA)||(!((decide ((((qR rM O Z).2.1).length:Int)≤(4000:Int)))&&(val (tS ((qR rM O Z).2.1))))))||((decide ((0:Int)<Z))&&(Op.bytesLess (qR rM O Z).1 (qR rM O (Z- (1:Int))).1||decide ((qR rM O Z).1=(qR rM O (Z- (1:Int))).1))))=true then some (.inr (.inr (false))) else if qD (Z+(1:Int)) then some (.inl (Z+(1:Int))) else none else none else none else none else none else none else none else some (.inr (.inl ()))
def BK (O:(List qV)):Option Bool:=tO (s5 (QA O) (0:Int)) fun _=>some ((decide ((O.length:Int)≤(20:Int))))
section
variable (O:(List qV))
abbrev a6P:List qC:=[(.val (.list rM) O,none)]
abbrev a6Q:List qB:=[]
@[go_sem] def a6R:qJ:=⟨[((BK O)).isSome=true],[(.val .bool (val (BK O)),none)],[]⟩
def aGv:List qC→List qB→Option qJ:=rL (V:=(List qV)) (a6P) (fun x=>a6Q) fun x=>a6R x
@[go_sem] def aRv:aGv (no_index (a6P O)) (no_index a6Q)=some (a6R O):=rO (fun a0 b0 h1 h2=>by cases h1;cases h2;rfl) O
end
@[go_sem] abbrev a6S:Nat×r7:=(50,⟨[.v],aGv,[],[],none⟩)
def H7:r5 prog [s8,v8,zC] (r6 [a4R,V8]):=⟨⟨s9,⟨vW,⟨C2,trivial⟩⟩⟩,qO aFu (qO a6j rH),r8⟩
def aGw:rD prog a6S:=by
 refine rP H7 func50 (c:=_) rfl (N:=47) pW (ts:=[(2,none)]) rfl (fun _ _=>rfl) ?_;intro O hs hrow;dsimp only[a6P,a6Q,a6R,rI,qS,qW,r9,rK,Nat.reduceAdd] at hs hrow|-;have hz:=hs;obtain⟨z0,e⟩:=aRW.1 hz
 try rw[rW e]
 clear hz hs;unfold BK at e;refine q9 H7 ?_;refine qK (q9 H7 ?_);refine rT ?_;obtain⟨y1,hy1,e⟩:=uL e;refine tC 0 (fun s=> ∃v,y1= .inl v∧s=(fun _=>⟨[(0,.val (.list rM) O,none)],[],0,47,0⟩) v) ?_ ?_
 .refine t8 hy1 (fun x=>⟨[(0,.val (.list rM) O,none),(3,.val (.int .i64) x,none)],[],0,47,0⟩) ⟨[0,3],[]⟩ pX ?_;intro Z w1 n1 d g;unfold QA at d;dsimp only at d|-;refine qK (q9 H7 ?_);refine qQ d ?_ ?_<;>intro d Y
  .refine qU (qI (qK (rT ?_)));obtain⟨X,d⟩:=qG d;obtain⟨aA,hv2,hw2,d⟩:=rF d
   try simp only[go_sem] at hw2
   obtain⟨W,V,d⟩:=pD d;obtain⟨U,T,d⟩:=pD d;obtain⟨S,d⟩:=qG d;refine v6 H7 ?_ (hp:=by exact⟨X,rC hv2,id,id,W,id,id,id,V,id,sQ,id,id,id,id,U,id,id,id,T,id,id,S,id,id,id,id,id,fun hG f=>D3 hG f,sQ⟩) (h:=by simp only[go_sem,hw2];rfl);refine qQ d ?_ ?_<;>intro d Y
   .refine q9 H7 ?_;refine qM (rU (qY (uE (uQ (rU (qY ?_))))));cases d;cases g;dsimp only at e;cases e;exact pG []
   refine qU (rX (qI ?_));obtain⟨R,d⟩:=qG d;refine rE H7 ?_ (hp:=by exact R);cases d;exact sK ⟨⟨[0,3],[]⟩,_,by rfl,g⟩
  refine sY (sW (sZ ?_));cases d;cases g;exact tD ⟨⟨[0],[]⟩,_,rfl,by rfl⟩
 rintro _ ⟨v,rfl,rfl⟩;dsimp only at e|-;refine sX (qI ?_);refine q9 H7 ?_;refine qM ?_;cases e;exact pG []
attribute [irreducible] K2 H5 BK
end
noncomputable section
def MA (O:sP):(pE×Int)→Option ((pE×Int)⊕pE):=fun(Z,aA)=>if (decide (aA<(O.2.2.2.2.1.length:Int)))=true then tA (σ:=pE) (if (decide (aA=(0:Int)))=true then if ((Z++([32,32,102,108,97,103,115]:pE)).length:Int)≤9223372036854775807 then some ((Z++([32,32,102,108,97,103,115]:pE))) else none else some (Z) ) fun aB=>if ((aB++([32]:pE)).length:Int)≤9223372036854775807 then if 0≤aA∧aA<(O.2.2.2.2.1.length:Int) then if (((aB++([32]:pE))++(qR .str O.2.2.2.2.1 aA)).length:Int)≤9223372036854775807 then if qD ((O.2.2.2.2.1.length:Int)- (1:Int)) then if (decide (aA=((O.2.2.2.2.1.length:Int)- (1:Int))))=true then if ((((aB++([32]:pE))++(qR .str O.2.2.2.2.1 aA))++([10]:pE)).length:Int)≤9223372036854775807 then if qD (aA+(1:Int)) then some (.inl ((((aB++([32]:pE))++(qR .str O.2.2.2.2.1 aA))++([10]:pE)),(aA+(1:Int)))) else none else none else if qD (aA+(1:Int)) then some (.inl (((aB++([32]:pE))++(qR .str O.2.2.2.2.1 aA)),(aA+(1:Int)))) else none else none else none else none else none else some (.inr Z)
def K3 (O:sP):Option pE:=(zO O.1).bind fun Z=>if ((([10,101,110,116,114,121,32]:pE)++Z).length:Int)≤9223372036854775807 then if (((([10,101,110,116,114,121,32]:pE)++Z)++([10]:pE)).length:Int)≤9223372036854775807 then (H0 O.2.2.2.1).bind fun aA=>if ((((([10,101,110,116,114,121,32]:pE)++Z)++([10]:pE))++aA).length:Int)≤9223372036854775807 then tA (σ:=pE) (if (!decide (O.2.1=([]:pE)))=true then if (((((([10,101,110,116,114,121,32]:pE)++Z)++([10]:pE))++aA)++([32,32,115,111,117,114,99,101,32]:pE)).length:Int)≤9223372036854775807 then (zO O.2.1).bind fun aB=>if ((((((([10,101,110,116,114,121,32]:pE)++Z)++([10]:pE))++aA)++([32,32,115,111,117,114,99,101,32]:pE))++aB).length:Int)≤9223372036854775807 then if (((((((([10,101,110,116,114,121,32]:pE)++Z)++([10]:pE))++aA)++([32,32,115,111,117,114,99,101,32]:pE))++aB)++([10]:pE)).length:Int)≤9223372036854775807 then some (((((((([10,101,110,116,114,121,32]:pE)++Z)++([10]:pE))++aA)++([32,32,115,111,117,114,99,101,32]:pE))++aB)++([10]:pE))) else none else none else none else some ((((([10,101,110,116,114,121,32]:pE)++Z)++([10]:pE))++aA)) ) fun aC=>tA (σ:=pE) (if (!decide (O.2.2.1=([]:pE)))=true then if ((aC++([32,32,116,97,114,103,101,116,32]:pE)).length:Int)≤9223372036854775807 then (zO O.2.2.1).bind fun aD=>if (((aC++([32,32,116,97,114,103,101,116,32]:pE))++aD).length:Int)≤9223372036854775807 then if ((((aC++([32,32,116,97,114,103,101,116,32]:pE))++aD)++([10]:pE)).length:Int)≤9223372036854775807 then some ((((aC++([32,32,116,97,114,103,101,116,32]:pE))++aD)++([10]:pE))) else none else none else none else some (aC) ) fun aE=>tA (σ:=pE) (if (!decide (O.2.2.2.2.2.1=(0:Int)))=true then if ((aE++([32,32,115,116,97,116,101,32]:pE)).length:Int)≤9223372036854775807 then (JF O.2.2.2.2.2.1).bind fun aF=>if (((aE++([32,32,115,116,97,116,101,32]:pE))++(qR .str ([([110,101,119]:pE),([102,117,122,122,121]:pE),([116,114,97,110,115,108,97,116,101,100]:pE),([114,101,118,105,101,119,101,100]:pE),([111,98,115,111,108,101,116,101]:pE)]:pF) O.2.2.2.2.2.1)).length:Int)≤9223372036854775807 then if ((((aE++([32,32,115,116,97,116,101,32]:pE))++(qR .str ([([110,101,119]:pE),([102,117,122,122,121]:pE),([116,114,97,110,115,108,97,116,101,100]:pE),([114,101,118,105,101,119,101,100]:pE),([111,98,115,111,108,101,116,101]:pE)]:pF) O.2.2.2.2.2.1))++([10]:pE)).length:Int)≤9223372036854775807 then some ((((aE++([32,32,115,116,97,116,101,32]:pE))++(qR .str ([([110,101,119]:pE),([102,117,122,122,121]:pE),([116,114,97,110,115,108,97,116,101,100]:pE),([114,101,118,105,101,119,101,100]:pE),([111,98,115,111,108,101,116,101]:pE)]:pF) O.2.2.2.2.2.1))++([10]:pE))) else none else none else none else some (aE) ) fun aG=>tA (s5 (MA O) (aG,(0:Int))) fun aH=>(H5 O.2.2.2.2.2.2.1).bind fun aI=>if ((aH++aI).length:Int)≤9223372036854775807 then if (((aH++aI)++([101,110,100,10]:pE)).length:Int)≤9223372036854775807 then some (((aH++aI)++([101,110,100,10]:pE))) else none else none else none else none else none
section
variable (O:sP)
abbrev a6T:List qC:=[(.val sM O,none)]
abbrev a6U:List qB:=[]
@[go_sem] def a6V:qJ:=⟨[((K3 O)).isSome=true],[(.val .str (val (K3 O)),none)],[]⟩
def aGx:List qC→List qB→Option qJ:=rL (V:=sP) (a6T) (fun x=>a6U) fun x=>a6V x
@[go_sem] def aRw:aGx (no_index (a6T O)) (no_index a6U)=some (a6V O):=rO (fun a0 b0 h1 h2=>by cases h1;cases h2;rfl) O
end
@[go_sem] abbrev aGy:Nat×r7:=(46,⟨[.v],aGx,[],[],none⟩)
def xG:r5 prog [uF,s8,uM,v8,A6] (r6 [Q6,a6D,aDC,a6O]):=⟨⟨uN,⟨s9,⟨vA,⟨vW,⟨BF,trivial⟩⟩⟩⟩⟩,qO VA (qO aGo (qO aMF (qO aGu rH))),r8⟩
def aNv:rD prog aGy:=by
 refine rP xG func46 (c:=_) rfl (N:=77) pW (ts:=[(2,none)]) rfl (fun _ _=>rfl) ?_;intro O hs hrow;dsimp only[a6T,a6U,a6V,rI,qS,qW,r9,rK,Nat.reduceAdd] at hs hrow|-;have hz:=hs;obtain⟨z0,f⟩:=aRW.1 hz
 try rw[rW f]
 clear hz hs;unfold K3 at f;refine q9 xG ?_;obtain⟨Z,hv1,hw1,f⟩:=rF f
 try simp only[go_sem] at hw1
 obtain⟨X,W,f⟩:=pD f;obtain⟨aA,hv4,hw4,f⟩:=rF f
 try simp only[go_sem] at hw4
 obtain⟨V,f⟩:=qG f;refine v6 xG ?_ (hp:=by exact⟨rC hv1,X,W,rC hv4,V⟩) (h:=by simp only[go_sem,hw1,hw4];rfl);refine qK (q9 xG ?_);obtain⟨aB,d,f⟩:=rV f;refine yC (fun s=>s=(fun x=>⟨[(1,.val .ref (some (0,0)),none),(3,.val .str x,none)],[(0,.cells sM O [])],1,77,0⟩) aB) ?_ ?_
 .refine qQ d ?_ ?_<;>intro d Y
  .obtain⟨U,d⟩:=qG d;obtain⟨aC,hv7,hw7,d⟩:=rF d
   try simp only[go_sem] at hw7
   obtain⟨T,S,d⟩:=pD d;refine rE xG ?_ (hp:=by exact⟨U,rC hv7,T,S⟩) (h:=by simp only[go_sem,hw7];rfl);cases d;exact tF ⟨⟨[1,3],[(0,0)]⟩,by rfl⟩
  refine qU ?_;cases d;exact tF ⟨⟨[1,3],[(0,0)]⟩,by rfl⟩
 rintro _ rfl;dsimp only at f|-;refine qI (qK (q9 xG ?_));obtain⟨aD,d,f⟩:=rV f;refine yC (fun s=>s=(fun x=>⟨[(1,.val .ref (some (0,0)),none),(3,.val .str x,none)],[(0,.cells sM O [])],1,77,0⟩) aD) ?_ ?_
 .refine qQ d ?_ ?_<;>intro d Y
  .obtain⟨R,d⟩:=qG d;obtain⟨aE,hv11,hw11,d⟩:=rF d
   try simp only[go_sem] at hw11
   obtain⟨Q,P,d⟩:=pD d;refine rE xG ?_ (hp:=by exact⟨R,rC hv11,Q,P⟩) (h:=by simp only[go_sem,hw11];rfl);cases d;exact tF ⟨⟨[1,3],[(0,0)]⟩,by rfl⟩
  refine qU ?_;cases d;exact tF ⟨⟨[1,3],[(0,0)]⟩,by rfl⟩
 rintro _ rfl;dsimp only at f|-;refine qI (qK (q9 xG ?_));obtain⟨aF,d,f⟩:=rV f;refine yC (fun s=>s=(fun x=>⟨[(1,.val .ref (some (0,0)),none),(3,.val .str x,none)],[(0,.cells sM O [])],1,77,0⟩) aF) ?_ ?_
 .refine qQ d ?_ ?_<;>intro d Y
  .obtain⟨M,d⟩:=qG d;obtain⟨aG,hv15,hw15,d⟩:=rF d
   try simp only[go_sem] at hw15
   obtain⟨L,K,d⟩:=pD d;refine rE xG ?_ (hp:=by exact⟨M,rC hv15,L,K⟩) (h:=by simp only[go_sem,hw15];rfl);cases d;exact tF ⟨⟨[1,3],[(0,0)]⟩,by rfl⟩
  refine qU ?_;cases d;exact tF ⟨⟨[1,3],[(0,0)]⟩,by rfl⟩
 rintro _ rfl;dsimp only at f|-;refine qI (qK (q9 xG ?_));refine rT ?_;obtain⟨aH,hy1,f⟩:=rV f;refine tC 0 (fun s=>s=(fun x=>⟨[(1,.val .ref (some (0,0)),none),(3,.val .str x,none)],[(0,.cells sM O [])],1,77,0⟩) aH) ?_ ?_
 .refine t8 hy1 (fun x=>⟨[(1,.val .ref (some (0,0)),none),(3,.val .str x.1,none),(4,.val (.int .i64) x.2,none)],[(0,.cells sM O [])],1,77,0⟩) ⟨[1,3,4],[(0,0)]⟩ pX ?_;intro x1 w1 n1 d i;obtain⟨aI,aJ⟩:=x1;unfold MA at d;dsimp only at d|-;refine qK (q9 xG ?_);refine qQ d ?_ ?_<;>intro d Y
  .refine qU (qI (qK (rT (qK (q9 xG ?_)))));obtain⟨aK,g,d⟩:=rV d;refine yC (fun s=>s=(fun x=>⟨[(1,.val .ref (some (0,0)),none),(3,.val .str x,none),(4,.val (.int .i64) aJ,none)],[(0,.cells sM O [])],1,77,0⟩) aK) ?_ ?_
   .refine qQ g ?_ ?_<;>intro g Y
    .obtain⟨J,g⟩:=qG g;refine rE xG ?_ (hp:=by exact J);cases g;exact tF ⟨⟨[1,3,4],[(0,0)]⟩,by rfl⟩
    refine qU ?_;cases g;exact tF ⟨⟨[1,3,4],[(0,0)]⟩,by rfl⟩
   rintro _ rfl;dsimp only at d|-;refine qI ?_;obtain⟨I,H,d⟩:=pD d;obtain⟨G,d⟩:=qG d;refine q9 xG ?_ (hp:=by exact⟨I,H,G⟩);obtain⟨F,d⟩:=qG d;refine q9 xG ?_ (hp:=by exact F);refine qQ d ?_ ?_<;>intro d Y
   .obtain⟨E,d⟩:=qG d;refine rE xG ?_ (hp:=by exact E);refine rX (qI ?_);obtain⟨D,d⟩:=qG d;refine rE xG ?_ (hp:=by exact D);cases d;exact sK ⟨⟨[1,3,4],[(0,0)]⟩,_,by rfl,i⟩
   refine qU (rX (qI ?_));obtain⟨C,d⟩:=qG d;refine rE xG ?_ (hp:=by exact C);cases d;exact sK ⟨⟨[1,3,4],[(0,0)]⟩,_,by rfl,i⟩
  refine sY (sW (sZ ?_));cases d;cases i;exact tD ⟨⟨[1,3],[(0,0)]⟩,by rfl⟩
 rintro _ rfl;dsimp only at f|-;refine sX (qI ?_);obtain⟨aL,hv26,hw26,f⟩:=rF f
 try simp only[go_sem] at hw26
 obtain⟨B,A,f⟩:=pD f;refine q9 xG ?_ (hp:=by exact⟨rC hv26,B,A⟩) (h:=by simp only[go_sem,hw26];rfl);refine qM ?_;cases f;exact pG []
def K4 (O:pF):Option Unit:=if (((decide ((O.length:Int)≤(20:Int)))==true)=true→((A9 O)).isSome=true) then some (()) else none
section
variable (O:pF)
abbrev a6W:List qC:=[(.val (.list .str) O,none)]
abbrev a6X:List qB:=[]
@[go_sem] def a6Y:qJ:=⟨[((K4 O)).isSome=true],[(.val .bool ((decide ((O.length:Int)≤(20:Int)))&&(!(val (A9 O)))),none)],[]⟩
def aGz:List qC→List qB→Option qJ:=rL (V:=pF) (a6W) (fun x=>a6X) fun x=>a6Y x
@[go_sem] def aRx:aGz (no_index (a6W O)) (no_index a6X)=some (a6Y O):=rO (fun a0 b0 h1 h2=>by cases h1;cases h2;rfl) O
end
@[go_sem] abbrev a6Z:Nat×r7:=(67,⟨[.v],aGz,[],[],none⟩)
def a60:r5 prog [uM] (r6 [aGd]):=⟨⟨vA,trivial⟩,qO aNt rH,r8⟩
def aGA:rD prog a6Z:=by
 refine rP a60 func67 (c:=_) rfl (N:=11) pW (ts:=[(2,none)]) rfl (fun _ _=>rfl) ?_;intro O hs hrow;dsimp only[a6W,a6X,a6Y,rI,qS,qW,r9,rK,Nat.reduceAdd] at hs hrow|-;have hz:=hs;obtain⟨z0,f⟩:=aRW.1 hz
 try rw[rW f]
 clear hz hs;unfold K4 at f;refine q9 a60 ?_;obtain⟨Y,f⟩:=qG f;refine q9 a60 ?_ (hp:=by exact⟨id,Y,id,sB⟩);refine qM ?_;cases f;exact pG []
def H8 (O:sP):Option Bool:=if ((((decide (O.1=([]:pE)))||(decide ((200:Int)<(O.1.length:Int))))==false)=true→((BI O.1)).isSome=true) then if (((((decide (O.1=([]:pE)))||(decide ((200:Int)<(O.1.length:Int))))||(!((decide ((O.1.length:Int)≤(4000:Int)))&&(Lib.validD O.1))))||(decide (O.2.2.2.2.2.1<(0:Int))))||(decide ((4:Int)<O.2.2.2.2.2.1)))=true then some (false) else (BI O.2.1).bind fun Z=>if ((((decide ((O.2.1.length:Int)≤(4000:Int)))&&(Lib.validD O.2.1))==true)=true→((BI O.2.2.1)).isSome=true) then if (((((decide ((O.2.1.length:Int)≤(4000:Int)))&&(Lib.validD O.2.1))&&((decide ((O.2.2.1.length:Int)≤(4000:Int)))&&(Lib.validD O.2.2.1)))==true)=true→((K4 O.2.2.2.1)).isSome=true) then if ((((((decide ((O.2.1.length:Int)≤(4000:Int)))&&(Lib.validD O.2.1))&&((decide ((O.2.2.1.length:Int)≤(4000:Int)))&&(Lib.validD O.2.2.1)))&&((decide ((O.2.2.2.1.length:Int)≤(20:Int)))&&(!(val (A9 O.2.2.2.1)))))==true)=true→((EP O.2.2.2.2.1)).isSome=true) then if (((((((decide ((O.2.1.length:Int)≤(4000:Int)))&&(Lib.validD O.2.1))&&((decide ((O.2.2.1.length:Int)≤(4000:Int)))&&(Lib.validD O.2.2.1)))&&((decide ((O.2.2.2.1.length:Int)≤(20:Int)))&&(!(val (A9 O.2.2.2.1)))))&&(val (EP O.2.2.2.2.1)))==true)=true→((DD O.2.2.2.2.2.2.1)).isSome=true) then some (((((((decide ((O.2.1.length:Int)≤(4000:Int)))&&(Lib.validD O.2.1))&&((decide ((O.2.2.1.length:Int)≤(4000:Int)))&&(Lib.validD O.2.2.1)))&&((decide ((O.2.2.2.1.length:Int)≤(20:Int)))&&(!(val (A9 O.2.2.2.1)))))&&(val (EP O.2.2.2.2.1)))&&(val (DD O.2.2.2.2.2.2.1)))) else none else none else none else none else none
section
variable (O:sP)
abbrev a61:List qC:=[(.val sM O,none)]
abbrev a62:List qB:=[]
@[go_sem] def a63:qJ:=⟨[((H8 O)).isSome=true],[(.val .bool (val (H8 O)),none)],[]⟩
def aGB:List qC→List qB→Option qJ:=rL (V:=sP) (a61) (fun x=>a62) fun x=>a63 x
@[go_sem] def aRy:aGB (no_index (a61 O)) (no_index a62)=some (a63 O):=rO (fun a0 b0 h1 h2=>by cases h1;cases h2;rfl) O
end
@[go_sem] abbrev aGC:Nat×r7:=(69,⟨[.v],aGB,[],[],none⟩)
def QB:r5 prog [uF,s8,uM,v8,A6] (r6 [JP,a6Z,aDZ,a5N]):=⟨⟨uN,⟨s9,⟨vA,⟨vW,⟨BF,trivial⟩⟩⟩⟩⟩,qO PL (qO aGA (qO aMJ (qO aF2 rH))),r8⟩
def aNw:rD prog aGC:=by
 refine rP QB func69 (c:=_) rfl (N:=51) pW (ts:=[(2,none)]) rfl (fun _ _=>rfl) ?_;intro O hs hrow;dsimp only[a61,a62,a63,rI,qS,qW,r9,rK,Nat.reduceAdd] at hs hrow|-;have hz:=hs;obtain⟨z0,f⟩:=aRW.1 hz
 try rw[rW f]
 clear hz hs;unfold H8 at f;refine q9 QB ?_;refine qK ?_;obtain⟨X,f⟩:=qG f;refine q9 QB ?_ (hp:=by exact⟨id,id,id,sQ,id,id,X,id,sQ,id,id,sQ,id,id,sQ⟩);refine qQ f ?_ ?_<;>intro f Y
 .refine q9 QB ?_;refine qM (qY ?_);cases f;exact pG []
 refine qU (qI ?_);obtain⟨Z,hv2,hw2,f⟩:=rF f
 try simp only[go_sem] at hw2
 obtain⟨W,V,f⟩:=pD f;obtain⟨U,T,f⟩:=pD f;refine q9 QB ?_ (hp:=by exact⟨rC hv2,id,id,W,sB,id,id,V,sB,id,id,U,sB,id,id,T,sB⟩) (h:=by simp only[go_sem,hw2];rfl);refine qM ?_;cases f;exact pG []
def K5 (O:s7):Option Bool:=(JT O.1).bind fun Z=>if ((Z==true)=true→((zP O.2.1)).isSome=true) then if (((Z&&(val (zP O.2.1)))==true)=true→((BK O.2.2.1)).isSome=true) then some (((Z&&(val (zP O.2.1)))&&(val (BK O.2.2.1)))) else none else none
section
variable (O:s7)
abbrev a64:List qC:=[(.val vV O,none)]
abbrev a65:List qB:=[]
@[go_sem] def a67:qJ:=⟨[((K5 O)).isSome=true],[(.val .bool (val (K5 O)),none)],[]⟩
def aGD:List qC→List qB→Option qJ:=rL (V:=s7) (a64) (fun x=>a65) fun x=>a67 x
@[go_sem] def aRz:aGD (no_index (a64 O)) (no_index a65)=some (a67 O):=rO (fun a0 b0 h1 h2=>by cases h1;cases h2;rfl) O
end
@[go_sem] abbrev aGE:Nat×r7:=(47,⟨[.v],aGD,[],[],none⟩)
def a68:r5 prog [s8,uM,v8,x7] (r6 [aFs,a6H,a6S]):=⟨⟨s9,⟨vA,⟨vW,⟨xP,trivial⟩⟩⟩⟩,qO aNb (qO aGq (qO aGw rH)),r8⟩
def aNx:rD prog aGE:=by
 refine rP a68 func47 (c:=_) rfl (N:=16) pW (ts:=[(2,none)]) rfl (fun _ _=>rfl) ?_;intro O hs hrow;dsimp only[a64,a65,a67,rI,qS,qW,r9,rK,Nat.reduceAdd] at hs hrow|-;have hz:=hs;obtain⟨z0,f⟩:=aRW.1 hz
 try rw[rW f]
 clear hz hs;unfold K5 at f;refine q9 a68 ?_;obtain⟨Z,hv1,hw1,f⟩:=rF f
 try simp only[go_sem] at hw1
 obtain⟨X,W,f⟩:=pD f;refine q9 a68 ?_ (hp:=by exact⟨rC hv1,id,id,X,sB,id,id,W,sB⟩) (h:=by simp only[go_sem,hw1];rfl);refine qM ?_;cases f;exact pG []
attribute [irreducible] K3 K4 H8 K5
end
noncomputable section
def aGF (O:pO):(Int×pO)→Option ((Int×pO)⊕pO):=fun(Z,aA)=>if (decide (Z<(O.length:Int)))=true then if 0≤Z∧Z<(O.length:Int) then if (!(((decide ((0:Int)≤(qR (.int .i64) O Z)))&&(decide ((qR (.int .i64) O Z)≤(1114111:Int))))&&((decide ((qR (.int .i64) O Z)<(55296:Int)))||(decide ((57343:Int)<(qR (.int .i64) O Z))))))=true then (M7 (aA,()) (IntKind.wrap .i32 (65533:Int))).bind fun aB=>if qD (Z+(1:Int)) then some (.inl ((Z+(1:Int)),aB.2)) else none else (M7 (aA,()) (IntKind.wrap .i32 (qR (.int .i64) O Z))).bind fun aC=>if qD (Z+(1:Int)) then some (.inl ((Z+(1:Int)),aC.2)) else none else none else some (.inr aA)
def QC (O:pO):Option pE:=tA (s5 (aGF O) ((0:Int),([]:pO))) fun Z=>some ((sV Z))
section
variable (O:pO)
abbrev a69:List qC:=[(.val (.list (.int .i64)) O,none)]
abbrev a7a:List qB:=[]
@[go_sem] def a7b:qJ:=⟨[((QC O)).isSome=true],[(.val .str (val (QC O)),none)],[]⟩
def aGG:List qC→List qB→Option qJ:=rL (V:=pO) (a69) (fun x=>a7a) fun x=>a7b x
@[go_sem] def aRA:aGG (no_index (a69 O)) (no_index a7a)=some (a7b O):=rO (fun a0 b0 h1 h2=>by cases h1;cases h2;rfl) O
end
@[go_sem] abbrev aGH:Nat×r7:=(226,⟨[.v],aGG,[],[],none⟩)
def B4:r5 prog [uF,OT,JC,EK] (r6 [aEC,aF9,J5]):=⟨⟨uN,⟨a0P,⟨OU,⟨JB,trivial⟩⟩⟩⟩,qO aMV (qO aNr (qO OM rH)),r8⟩
def aNy:rD prog aGH:=by
 refine rP B4 func226 (c:=_) rfl (N:=20) pW (ts:=[(2,none)]) rfl (fun _ _=>rfl) ?_;intro O hs hrow;dsimp only[a69,a7a,a7b,rI,qS,qW,r9,rK,Nat.reduceAdd] at hs hrow|-;have hz:=hs;obtain⟨z0,e⟩:=aRW.1 hz
 try rw[rW e]
 clear hz hs;unfold QC at e;refine q9 B4 ?_;refine q9 B4 ?_;refine qK (q9 B4 ?_);refine rT ?_;obtain⟨Z,hy1,e⟩:=rV e;refine tC 0 (fun s=>s=(fun x=>⟨[(3,.val .ref (some (0,0)),none)],[(0,.cells vP ((some (0,0)),(x,())) [(1,1)]),(1,.grow 5 1 (x.length))],2,20,0⟩) Z) ?_ ?_
 .refine t8 hy1 (fun x=>⟨[(3,.val .ref (some (0,0)),none),(6,.val (.list (.int .i64)) O,none),(7,.val (.int .i64) (O.length:Int),none),(8,.val (.int .i64) x.1,none)],[(0,.cells vP ((some (0,0)),(x.2,())) [(1,1)]),(1,.grow 5 1 (x.2.length))],2,20,0⟩) ⟨[3,6,7,8],[(0,32),(1,33)]⟩ pX ?_;intro x1 w1 n1 f g;obtain⟨aA,aB⟩:=x1;unfold aGF at f;dsimp only at f|-;refine q9 B4 ?_;refine qK (qQ f (fun f Y=>?_) (fun f Y=>?_))
  .refine qU (qI (qK (rT ?_)));obtain⟨X,f⟩:=qG f;refine q9 B4 ?_ (hp:=by exact X);refine qK (q9 B4 ?_);refine qQ f ?_ ?_<;>intro f Y
   .refine rE B4 ?_;refine qI ?_;obtain⟨aC,hv2,hw2,f⟩:=rF f
    try simp only[go_sem] at hw2
    refine rE B4 ?_ (hp:=by exact⟨pV,(rC hv2)⟩) (h:=by simp only[go_sem,hw2];rfl)
    refine rX (qI ?_);obtain⟨W,f⟩:=qG f;refine rE B4 ?_ (hp:=by exact W);cases f;exact sK ⟨⟨[3,6,7,8],[(0,0),(1,1)]⟩,_,by rfl,g⟩
   refine qU (qI ?_);obtain⟨aD,hv4,hw4,f⟩:=rF f
   try simp only[go_sem] at hw4
   refine rE B4 ?_ (hp:=by exact⟨pV,(rC hv4)⟩) (h:=by simp only[go_sem,hw4];rfl)
   refine rX (qI ?_);obtain⟨V,f⟩:=qG f;refine rE B4 ?_ (hp:=by exact V);cases f;exact sK ⟨⟨[3,6,7,8],[(0,0),(1,1)]⟩,_,by rfl,g⟩
  refine sY (sW (sZ ?_));cases f;cases g;exact tD ⟨⟨[3],[(0,0),(1,1)]⟩,by rfl⟩
 rintro _ rfl;dsimp only at e|-;refine sX (qI ?_);refine q9 B4 ?_ (hp:=by first|rfl|trivial)
 refine qM ?_;cases e;exact pG []
def MB (O:sP):Option Unit:=if ((((!decide (O.1=([]:pE)))&&(decide ((O.1.length:Int)≤(200:Int))))==true)=true→((DF O.1)).isSome=true) then if (((((!decide (O.1=([]:pE)))&&(decide ((O.1.length:Int)≤(200:Int))))&&((decide ((O.1.length:Int)≤(4000:Int)))&&(val (tS O.1))))==true)=true→((DF O.2.1)).isSome=true) then if ((((((!decide (O.1=([]:pE)))&&(decide ((O.1.length:Int)≤(200:Int))))&&((decide ((O.1.length:Int)≤(4000:Int)))&&(val (tS O.1))))&&((decide ((O.2.1.length:Int)≤(4000:Int)))&&(val (tS O.2.1))))==true)=true→((DF O.2.2.1)).isSome=true) then if (((((((!decide (O.1=([]:pE)))&&(decide ((O.1.length:Int)≤(200:Int))))&&((decide ((O.1.length:Int)≤(4000:Int)))&&(val (tS O.1))))&&((decide ((O.2.1.length:Int)≤(4000:Int)))&&(val (tS O.2.1))))&&((decide ((O.2.2.1.length:Int)≤(4000:Int)))&&(val (tS O.2.2.1))))==true)=true→((zP O.2.2.2.1)).isSome=true) then if ((((((((!decide (O.1=([]:pE)))&&(decide ((O.1.length:Int)≤(200:Int))))&&((decide ((O.1.length:Int)≤(4000:Int)))&&(val (tS O.1))))&&((decide ((O.2.1.length:Int)≤(4000:Int)))&&(val (tS O.2.1))))&&((decide ((O.2.2.1.length:Int)≤(4000:Int)))&&(val (tS O.2.2.1))))&&(val (zP O.2.2.2.1)))==true)=true→((CF O.2.2.2.2.1)).isSome=true) then if (((((((((((!decide (O.1=([]:pE)))&&(decide ((O.1.length:Int)≤(200:Int))))&&((decide ((O.1.length:Int)≤(4000:Int)))&&(val (tS O.1))))&&((decide ((O.2.1.length:Int)≤(4000:Int)))&&(val (tS O.2.1))))&&((decide ((O.2.2.1.length:Int)≤(4000:Int)))&&(val (tS O.2.2.1))))&&(val (zP O.2.2.2.1)))&&(val (CF O.2.2.2.2.1)))&&(decide ((0:Int)≤O.2.2.2.2.2.1)))&&(decide (O.2.2.2.2.2.1≤(4:Int))))==true)=true→((BK O.2.2.2.2.2.2.1)).isSome=true) then some (()) else none else none else none else none else none else none
section
variable (O:sP)
abbrev a7c:List qC:=[(.val sM O,none)]
abbrev a7d:List qB:=[]
@[go_sem] def a7e:qJ:=⟨[((MB O)).isSome=true],[(.val .bool ((((((((((!decide (O.1=([]:pE)))&&(decide ((O.1.length:Int)≤(200:Int))))&&((decide ((O.1.length:Int)≤(4000:Int)))&&(val (tS O.1))))&&((decide ((O.2.1.length:Int)≤(4000:Int)))&&(val (tS O.2.1))))&&((decide ((O.2.2.1.length:Int)≤(4000:Int)))&&(val (tS O.2.2.1))))&&(val (zP O.2.2.2.1)))&&(val (CF O.2.2.2.2.1)))&&(decide ((0:Int)≤O.2.2.2.2.2.1)))&&(decide (O.2.2.2.2.2.1≤(4:Int))))&&(val (BK O.2.2.2.2.2.2.1))),none)],[]⟩
def aGI:List qC→List qB→Option qJ:=rL (V:=sP) (a7c) (fun x=>a7d) fun x=>a7e x
@[go_sem] def aRB:aGI (no_index (a7c O)) (no_index a7d)=some (a7e O):=rO (fun a0 b0 h1 h2=>by cases h1;cases h2;rfl) O
end
@[go_sem] abbrev aGJ:Nat×r7:=(26,⟨[.v],aGI,[],[],none⟩)
def a7f:r5 prog [uF,s8,uM,v8,A6] (r6 [V8,a6H,aF0,a6S]):=⟨⟨uN,⟨s9,⟨vA,⟨vW,⟨BF,trivial⟩⟩⟩⟩⟩,qO a6j (qO aGq (qO aNn (qO aGw rH))),r8⟩
def aNz:rD prog aGJ:=by
 refine rP a7f func26 (c:=_) rfl (N:=52) pW (ts:=[(2,none)]) rfl (fun _ _=>rfl) ?_;intro O hs hrow;dsimp only[a7c,a7d,a7e,rI,qS,qW,r9,rK,Nat.reduceAdd] at hs hrow|-;have hz:=hs;obtain⟨z0,e⟩:=aRW.1 hz
 try rw[rW e]
 clear hz hs;unfold MB at e;refine q9 a7f ?_;obtain⟨Y,X,e⟩:=pD e;obtain⟨W,V,e⟩:=pD e;obtain⟨U,T,e⟩:=pD e;refine q9 a7f ?_ (hp:=by exact⟨id,id,id,sB,id,id,Y,sB,id,id,X,sB,id,id,W,sB,id,id,V,sB,id,id,U,sB,id,id,sB,id,id,sB,id,id,T,sB⟩);refine qM ?_;cases e;exact pG []
def K6 (O:s7):(Int×pM)→Option ((Int×pM)⊕(Unit⊕Bool)):=fun(Z,aA)=>if (decide (Z<(O.2.2.2.1.length:Int)))=true then if 0≤Z∧Z<(O.2.2.2.1.length:Int) then if (((uA .str .bool aA ((qR sM O.2.2.2.1 Z).1))==false)=true→((H8 (qR sM O.2.2.2.1 Z))).isSome=true) then if ((uA .str .bool aA ((qR sM O.2.2.2.1 Z).1))||(!(val (H8 (qR sM O.2.2.2.1 Z)))))=true then some (.inr (.inr (false))) else if qD (Z+(1:Int)) then some (.inl ((Z+(1:Int)),(tU .str .bool ((qR sM O.2.2.2.1 Z).1) true aA))) else none else none else none else some (.inr (.inl ()))
def K7 (O:s7):Option Bool:=(AW O.1).bind fun Z=>if (((!Z)==false)=true→((K4 O.2.1)).isSome=true) then if ((((!Z)||(!((decide ((O.2.1.length:Int)≤(20:Int)))&&(!(val (A9 O.2.1))))))==false)=true→((DD O.2.2.1)).isSome=true) then if ((((!Z)||(!((decide ((O.2.1.length:Int)≤(20:Int)))&&(!(val (A9 O.2.1))))))||(!(val (DD O.2.2.1))))||(decide ((1000:Int)<(O.2.2.2.1.length:Int))))=true then some (false) else tO (s5 (K6 O) ((0:Int),([]:pM))) fun _=>some (true) else none else none
section
variable (O:s7)
abbrev a7g:List qC:=[(.val vV O,none)]
abbrev a7h:List qB:=[]
@[go_sem] def a7i:qJ:=⟨[((K7 O)).isSome=true],[(.val .bool (val (K7 O)),none)],[]⟩
def aGK:List qC→List qB→Option qJ:=rL (V:=s7) (a7g) (fun x=>a7h) fun x=>a7i x
@[go_sem] def aRC:aGK (no_index (a7g O)) (no_index a7h)=some (a7i O):=rO (fun a0 b0 h1 h2=>by cases h1;cases h2;rfl) O
end
@[go_sem] abbrev aGL:Nat×r7:=(36,⟨[.v],aGK,[],[],none⟩)
def B5:r5 prog [vF,s8,uM,v8,AQ,x7,A6,AU] (r6 [GH,a6Z,a5N,aGC]):=⟨⟨vQ,⟨s9,⟨vA,⟨vW,⟨C3,⟨xP,⟨BF,⟨C8,trivial⟩⟩⟩⟩⟩⟩⟩⟩,qO UU (qO aGA (qO aF2 (qO aNw rH))),r8⟩
def aNA:rD prog aGL:=by
 refine rP B5 func36 (c:=_) rfl (N:=49) pW (ts:=[(2,none)]) rfl (fun _ _=>rfl) ?_;intro O hs hrow;dsimp only[a7g,a7h,a7i,rI,qS,qW,r9,rK,Nat.reduceAdd] at hs hrow|-;have hz:=hs;obtain⟨z0,e⟩:=aRW.1 hz
 try rw[rW e]
 clear hz hs;unfold K7 at e;refine q9 B5 ?_;refine qK ?_;obtain⟨Z,hv1,hw1,e⟩:=rF e
 try simp only[go_sem] at hw1
 obtain⟨X,W,e⟩:=pD e;refine q9 B5 ?_ (hp:=by exact⟨rC hv1,id,id,X,id,sQ,id,id,W,id,sQ,id,id,id,sQ⟩) (h:=by simp only[go_sem,hw1];rfl);refine qQ e ?_ ?_<;>intro e Y
 .refine q9 B5 ?_;refine qM (qY ?_);cases e;exact pG []
 refine qU (qI (q9 B5 ?_));refine qK (q9 B5 ?_);refine rT ?_;obtain⟨y1,hy1,e⟩:=uL e;refine tC 0 (fun s=> ∃v,y1= .inl v∧s=(fun _=>⟨[],[],0,49,0⟩) v) ?_ ?_
 .refine t8 hy1 (fun x=>⟨[(3,.val .mp (some 0),none),(30,.val (.list sM) O.2.2.2.1,none),(31,.val (.int .i64) (O.2.2.2.1.length:Int),none),(32,.val (.int .i64) x.1,none)],[(0,.map .str .bool x.2)],1,49,0⟩) ⟨[3,30,31,32],[(0,768)]⟩ pX ?_;intro x1 w1 n1 f g;obtain⟨aA,aB⟩:=x1;unfold K6 at f;dsimp only at f|-;refine q9 B5 ?_;refine qK (qQ f (fun f Y=>?_) (fun f Y=>?_))
  .refine qU (qI (qK (rT ?_)));obtain⟨V,f⟩:=qG f;refine q9 B5 ?_ (hp:=by exact V);refine qK ?_;obtain⟨U,f⟩:=qG f;refine q9 B5 ?_ (hp:=by exact⟨id,U,id,sQ⟩);refine qQ f ?_ ?_<;>intro f Y
   .refine q9 B5 ?_;refine qM (qY (rU (qY (uE (uQ (rU (qY ?_)))))));cases f;cases g;dsimp only at e;cases e;exact pG []
   refine qU (qI (rE B5 ?_));refine rX (qI ?_);obtain⟨T,f⟩:=qG f;refine rE B5 ?_ (hp:=by exact T);cases f;exact sK ⟨⟨[3,30,31,32],[(0,0)]⟩,_,by rfl,g⟩
  refine sY (sW (sZ ?_));cases f;cases g;exact tD ⟨⟨[],[]⟩,_,rfl,by rfl⟩
 rintro _ ⟨v,rfl,rfl⟩;dsimp only at e|-;refine sX (qI ?_);refine q9 B5 ?_;refine qM ?_;cases e;exact pG []
def MC (O:Int):Option pE:=(QC ([O]:pO)).bind fun Z=>some (Z)
section
variable (O:Int)
abbrev a7j:List qC:=[(.val (.int .i64) O,none)]
abbrev a7k:List qB:=[]
@[go_sem] def a7l:qJ:=⟨[((MC O)).isSome=true],[(.val .str (val (MC O)),none),(.val .bool ((decide (O≤(1114111:Int)))&&((decide (O<(55296:Int)))||(decide ((57343:Int)<O)))),none)],[]⟩
def aGM:List qC→List qB→Option qJ:=rL (V:=Int) (a7j) (fun x=>a7k) fun x=>a7l x
@[go_sem] def aRD:aGM (no_index (a7j O)) (no_index a7k)=some (a7l O):=rO (fun a0 b0 h1 h2=>by cases h1;cases h2;rfl) O
end
@[go_sem] abbrev a7m:Nat×r7:=(201,⟨[.v],aGM,[],[],none⟩)
def VB:r5 prog [JC] (r6 [aGH]):=⟨⟨OU,trivial⟩,qO aNy rH,r8⟩
def aGN:rD prog a7m:=by
 refine rP VB func201 (c:=_) rfl (N:=19) pW (ts:=[(2,none),(3,none)]) rfl (fun _ _=>rfl) ?_;intro O hs hrow;dsimp only[a7j,a7k,a7l,rI,qS,qW,r9,rK,Nat.reduceAdd] at hs hrow|-;have hz:=hs;obtain⟨z0,e⟩:=aRW.1 hz
 try rw[rW e]
 clear hz hs;unfold MC at e;refine q9 VB ?_;refine q9 VB ?_ (hp:=by exact⟨id,id,id,id,fun hG d=>EH hG d,sB⟩);obtain⟨Z,hv1,hw1,e⟩:=rF e
 try simp only[go_sem] at hw1
 refine q9 VB ?_ (hp:=by exact(rC hv1)) (h:=by simp only[go_sem,hw1];rfl);refine qM ?_;cases e;exact pG []
attribute [irreducible] QC MB K7 MC
end
noncomputable section
def QD (O:s7):(Int×pF)→Option ((Int×pF)⊕pF):=fun(Z,aA)=>if (decide (Z<(O.2.2.2.1.length:Int)))=true then if 0≤Z∧Z<(O.2.2.2.1.length:Int) then (K2 (qR sM O.2.2.2.1 Z)).bind fun aB=>if (aA.length+([aB]:pF).length)*16≤140737488355328 then if qD (Z+(1:Int)) then some (.inl ((Z+(1:Int)),(aA++([aB]:pF)))) else none else none else none else some (.inr aA)
def H9 (O:s7):Option (pE×pF×Int):=(K7 O).bind fun Z=>if (!Z)=true then some ((([]:pE),([]:pF),(1:Int))) else (zN O.1).bind fun aA=>if ((([99,97,116,97,108,111,103,32]:pE)++aA).length:Int)≤9223372036854775807 then if (((([99,97,116,97,108,111,103,32]:pE)++aA)++([10]:pE)).length:Int)≤9223372036854775807 then (GZ O.2.1).bind fun aB=>if ((((([99,97,116,97,108,111,103,32]:pE)++aA)++([10]:pE))++aB).length:Int)≤9223372036854775807 then (F4 O.2.2.1).bind fun aC=>if (((((([99,97,116,97,108,111,103,32]:pE)++aA)++([10]:pE))++aB)++aC).length:Int)≤9223372036854775807 then if ((((((([99,97,116,97,108,111,103,32]:pE)++aA)++([10]:pE))++aB)++aC)++([101,110,100,10]:pE)).length:Int)≤9223372036854775807 then tA (s5 (QD O) ((0:Int),([]:pF))) fun aD=>some (((((((([99,97,116,97,108,111,103,32]:pE)++aA)++([10]:pE))++aB)++aC)++([101,110,100,10]:pE)),aD,(0:Int))) else none else none else none else none else none
section
variable (O:s7)
abbrev a7n:List qC:=[(.val vV O,none)]
abbrev a7o:List qB:=[]
@[go_sem] def a7p:qJ:=let q:=val (H9 O);⟨[((H9 O)).isSome=true],[(.val vO (q.1,(q.2.1,(([]:pE),()))),none),(.val (.int .i64) (q.2.2),none)],[]⟩
def aGO:List qC→List qB→Option qJ:=rL (V:=s7) (a7n) (fun x=>a7o) fun x=>a7p x
@[go_sem] def aRE:aGO (no_index (a7n O)) (no_index a7o)=some (a7p O):=rO (fun a0 b0 h1 h2=>by cases h1;cases h2;rfl) O
end
@[go_sem] abbrev a7q:Nat×r7:=(19,⟨[.v],aGO,[],[],none⟩)
def CH:r5 prog [s8,uM,v8,AQ,x7,GB,A6] (r6 [aGL,Q3,a6r,a6v,aGs]):=⟨⟨s9,⟨vA,⟨vW,⟨C3,⟨xP,⟨LO,⟨BF,trivial⟩⟩⟩⟩⟩⟩⟩,qO aNA (qO V9 (qO aGj (qO aGl (qO aNu rH)))),r8⟩
def aGP:rD prog a7q:=by
 refine rP CH func19 (c:=_) rfl (N:=42) pW (ts:=[(2,some 34),(3,none)]) rfl (fun _ _=>rfl) ?_;intro O hs hrow;dsimp only[a7n,a7o,a7p,rI,qS,qW,r9,rK,Nat.reduceAdd] at hs hrow|-;have hz:=hs;obtain⟨z0,d⟩:=aRW.1 hz
 try rw[rW d]
 clear hz hs;unfold H9 at d;refine q9 CH ?_;refine qK ?_;obtain⟨Z,hv1,hw1,d⟩:=rF d
 try simp only[go_sem] at hw1
 refine q9 CH ?_ (hp:=by exact(rC hv1)) (h:=by simp only[go_sem,hw1];rfl);refine qQ d ?_ ?_<;>intro d Y
 .refine q9 CH ?_;refine qM (qY ?_);cases d;exact pG []
 refine qU (qI ?_);obtain⟨aA,hv2,hw2,d⟩:=rF d
 try simp only[go_sem] at hw2
 obtain⟨X,W,d⟩:=pD d;obtain⟨aB,hv5,hw5,d⟩:=rF d
 try simp only[go_sem] at hw5
 obtain⟨V,d⟩:=qG d;obtain⟨aC,hv7,hw7,d⟩:=rF d
 try simp only[go_sem] at hw7
 obtain⟨U,T,d⟩:=pD d;refine v6 CH ?_ (hp:=by exact⟨rC hv2,X,W,rC hv5,V,rC hv7,U,T⟩) (h:=by simp only[go_sem,hw2,hw5,hw7];rfl);refine qK (q9 CH ?_);refine rT ?_;obtain⟨aD,hy1,d⟩:=rV d;refine tC 0 (fun s=>s=(fun x=>⟨[(2,.val .ref (some (0,0)),none),(4,.val .ref (some (1,0)),none)],[(0,.cells vO (([]:pE),(([]:pF),(([]:pE),()))) [(1,2)]),(1,.cells vO ((((((([99,97,116,97,108,111,103,32]:pE)++aA)++([10]:pE))++aB)++aC)++([101,110,100,10]:pE)),(x,(([]:pE),()))) [(1,3)]),(2,.grow 9 1 (([]:pF).length)),(3,.grow 9 1 (x.length))],4,42,0⟩) aD) ?_ ?_
 .refine t8 hy1 (fun x=>⟨[(2,.val .ref (some (0,0)),none),(4,.val .ref (some (1,0)),none),(27,.val (.list sM) O.2.2.2.1,none),(28,.val (.int .i64) (O.2.2.2.1.length:Int),none),(29,.val (.int .i64) x.1,none)],[(0,.cells vO (([]:pE),(([]:pF),(([]:pE),()))) [(1,2)]),(1,.cells vO ((((((([99,97,116,97,108,111,103,32]:pE)++aA)++([10]:pE))++aB)++aC)++([101,110,100,10]:pE)),(x.2,(([]:pE),()))) [(1,3)]),(2,.grow 9 1 (([]:pF).length)),(3,.grow 9 1 (x.2.length))],4,42,0⟩) ⟨[2,4,27,28,29],[(0,32),(1,672),(2,33),(3,704)]⟩ pX ?_;intro x1 w1 n1 e g;obtain⟨aE,aF⟩:=x1;unfold QD at e;dsimp only at e|-;refine q9 CH ?_;refine qK (qQ e (fun e Y=>?_) (fun e Y=>?_))
  .refine qU (qI (qK (rT ?_)));obtain⟨S,e⟩:=qG e;refine q9 CH ?_ (hp:=by exact S);obtain⟨aG,hv11,hw11,e⟩:=rF e
   try simp only[go_sem] at hw11
   obtain⟨R,e⟩:=qG e;refine D4 CH ?_ (hp:=by exact⟨rC hv11,pV,R⟩) (h:=by simp only[go_sem,hw11];rfl)
   refine rX (qI ?_);obtain⟨Q,e⟩:=qG e;refine rE CH ?_ (hp:=by exact Q);cases e;exact sK ⟨⟨[2,4,27,28,29],[(0,0),(1,1),(2,2),(3,3)]⟩,_,by rfl,g⟩
  refine sY (sW (sZ ?_));cases e;cases g;exact tD ⟨⟨[2,4],[(0,0),(1,1),(2,2),(3,3)]⟩,by rfl⟩
 rintro _ rfl;dsimp only at d|-;refine sX (qI ?_);refine q9 CH ?_;refine qM ?_;cases d;exact pG []
def HC (O:s7):Option (pE×Int):=(H9 O).bind fun Z=>(JM (Z.1,(Z.2.1,(([]:pE),())))).bind fun aA=>some ((aA,Z.2.2))
section
variable (O:s7)
abbrev a7r:List qC:=[(.val vV O,none)]
abbrev a7s:List qB:=[]
@[go_sem] def a7t:qJ:=⟨[((HC O)).isSome=true],[(.val .str ((val (HC O)).1),none),(.val (.int .i64) ((val (HC O)).2),none)],[]⟩
def aGQ:List qC→List qB→Option qJ:=rL (V:=s7) (a7r) (fun x=>a7s) fun x=>a7t x
@[go_sem] def aRF:aGQ (no_index (a7r O)) (no_index a7s)=some (a7t O):=rO (fun a0 b0 h1 h2=>by cases h1;cases h2;rfl) O
end
@[go_sem] abbrev aGR:Nat×r7:=(21,⟨[.v],aGQ,[],[],none⟩)
def VC:r5 prog [x7,GB] (r6 [a7q,aE4]):=⟨⟨xP,⟨LO,trivial⟩⟩,qO aGP (qO aM4 rH),r8⟩
def aNB:rD prog aGR:=by
 refine rP VC func21 (c:=_) rfl (N:=14) pW (ts:=[(2,none),(3,none)]) rfl (fun _ _=>rfl) ?_;intro O hs hrow;dsimp only[a7r,a7s,a7t,rI,qS,qW,r9,rK,Nat.reduceAdd] at hs hrow|-;have hz:=hs;obtain⟨z0,d⟩:=aRW.1 hz
 try rw[rW d]
 clear hz hs;unfold HC at d;refine q9 VC ?_;obtain⟨Z,hv1,hw1,d⟩:=rF d
 try simp only[go_sem] at hw1
 refine q9 VC ?_ (hp:=by exact(rC hv1)) (h:=by simp only[go_sem,hw1];rfl);obtain⟨aA,hv2,hw2,d⟩:=rF d
 try simp only[go_sem] at hw2
 refine q9 VC ?_ (hp:=by exact(rC hv2)) (h:=by simp only[go_sem,hw2];rfl);refine qM ?_;cases d;exact pG []
def QE (O:s7):Int→Option (Int⊕(Unit⊕Bool)):=fun Z=>if (decide (Z<(O.2.2.2.1.length:Int)))=true then if 0≤Z∧Z<(O.2.2.2.1.length:Int) then (GD O ((qR sM O.2.2.2.1 Z).1)).bind fun aA=>if (((!decide (aA.1=Z))==false)=true→0≤Z∧Z<(O.2.2.2.1.length:Int)) then if (((!decide (aA.1=Z))==false)=true→((MB (qR sM O.2.2.2.1 Z))).isSome=true) then if ((!decide (aA.1=Z))||(!((((((((((!decide (((qR sM O.2.2.2.1 Z).1)=([]:pE)))&&(decide ((((qR sM O.2.2.2.1 Z).1).length:Int)≤(200:Int))))&&((decide ((((qR sM O.2.2.2.1 Z).1).length:Int)≤(4000:Int)))&&(val (tS ((qR sM O.2.2.2.1 Z).1)))))&&((decide ((((qR sM O.2.2.2.1 Z).2.1).length:Int)≤(4000:Int)))&&(val (tS ((qR sM O.2.2.2.1 Z).2.1)))))&&((decide ((((qR sM O.2.2.2.1 Z).2.2.1).length:Int)≤(4000:Int)))&&(val (tS ((qR sM O.2.2.2.1 Z).2.2.1)))))&&(val (zP ((qR sM O.2.2.2.1 Z).2.2.2.1))))&&(val (CF ((qR sM O.2.2.2.1 Z).2.2.2.2.1))))&&(decide ((0:Int)≤((qR sM O.2.2.2.1 Z).2.2.2.2.2.1))))&&(decide (((qR sM O.2.2.2.1 Z).2.2.2.2.2.1)≤(4:Int))))&&(val (BK ((qR sM O.2.2.2.1 Z).2.2.2.2.2.2.1))))))=true then some (.inr (.inr (false))) else if qD (Z+(1:Int)) then some (.inl (Z+(1:Int))) else none else none else none else none else some (.inr (.inl ()))
def K8 (O:s7):Option Bool:=(K5 O).bind fun Z=>if ((!Z)||(decide ((1000:Int)<(O.2.2.2.1.length:Int))))=true then some (false) else tO (s5 (QE O) (0:Int)) fun _=>some (true)
section
variable (O:s7)
abbrev a7u:List qC:=[(.val vV O,none)]
abbrev a7v:List qB:=[]
@[go_sem] def a7w:qJ:=⟨[((K8 O)).isSome=true],[(.val .bool (val (K8 O)),none)],[]⟩
def aGS:List qC→List qB→Option qJ:=rL (V:=s7) (a7u) (fun x=>a7v) fun x=>a7w x
@[go_sem] def aRG:aGS (no_index (a7u O)) (no_index a7v)=some (a7w O):=rO (fun a0 b0 h1 h2=>by cases h1;cases h2;rfl) O
end
@[go_sem] abbrev aGT:Nat×r7:=(24,⟨[.v],aGS,[],[],none⟩)
def CI:r5 prog [s8,AQ,x7,A6] (r6 [aGE,aDn,aGJ]):=⟨⟨s9,⟨C3,⟨xP,⟨BF,trivial⟩⟩⟩⟩,qO aNx (qO aMD (qO aNz rH)),r8⟩
def aNC:rD prog aGT:=by
 refine rP CI func24 (c:=_) rfl (N:=45) pW (ts:=[(2,none)]) rfl (fun _ _=>rfl) ?_;intro O hs hrow;dsimp only[a7u,a7v,a7w,rI,qS,qW,r9,rK,Nat.reduceAdd] at hs hrow|-;have hz:=hs;obtain⟨z0,d⟩:=aRW.1 hz
 try rw[rW d]
 clear hz hs;unfold K8 at d;refine q9 CI ?_;refine qK ?_;obtain⟨Z,hv1,hw1,d⟩:=rF d
 try simp only[go_sem] at hw1
 refine q9 CI ?_ (hp:=by exact⟨rC hv1,id,id,id,sQ⟩) (h:=by simp only[go_sem,hw1];rfl);refine qQ d ?_ ?_<;>intro d Y
 .refine q9 CI ?_;refine qM (qY ?_);cases d;exact pG []
 refine qU (qI (qK (q9 CI ?_)));refine rT ?_;obtain⟨y1,hy1,d⟩:=uL d;refine tC 0 (fun s=> ∃v,y1= .inl v∧s=(fun _=>⟨[],[],0,45,0⟩) v) ?_ ?_
 .refine t8 hy1 (fun x=>⟨[(1,.val .ref (some (0,0)),none),(3,.val (.int .i64) x,none)],[(0,.cells vV O [])],1,45,0⟩) ⟨[1,3],[(0,0)]⟩ pX ?_;intro aA w1 n1 e g;unfold QE at e;dsimp only at e|-;refine qK (q9 CI ?_);refine qQ e ?_ ?_<;>intro e Y
  .refine qU (qI (qK (rT ?_)));obtain⟨X,e⟩:=qG e;obtain⟨aB,hv3,hw3,e⟩:=rF e
   try simp only[go_sem] at hw3
   refine v6 CI ?_ (hp:=by exact⟨X,(rC hv3)⟩) (h:=by simp only[go_sem,hw3];rfl);obtain⟨W,V,e⟩:=pD e;refine q9 CI ?_ (hp:=by exact⟨id,id,id,W,id,id,V,id,sQ⟩);refine qQ e ?_ ?_<;>intro e Y
   .refine q9 CI ?_;refine qM (rU (qY (uE (uQ (rU (qY ?_))))));cases e;cases g;dsimp only at d;cases d;exact pG []
   refine qU (rX (qI ?_));obtain⟨U,e⟩:=qG e;refine rE CI ?_ (hp:=by exact U);cases e;exact sK ⟨⟨[1,3],[(0,0)]⟩,_,by rfl,g⟩
  refine sY (sW (sZ ?_));cases e;cases g;exact tD ⟨⟨[],[]⟩,_,rfl,by rfl⟩
 rintro _ ⟨v,rfl,rfl⟩;dsimp only at d|-;refine sX (qI ?_);refine q9 CI ?_;refine qM ?_;cases d;exact pG []
def MD (O:pE):Option (pE×Int):=if (decide ((O.length:Int)<(2:Int)))=true then some ((([]:pE),(0:Int))) else if 0≤(1:Int)∧(1:Int)<(O.length:Int) then if (decide ((rY O (1:Int))=(110:Int)))=true then some ((([10]:pE),(2:Int))) else if (decide ((rY O (1:Int))=(114:Int)))=true then some ((([13]:pE),(2:Int))) else if (decide ((rY O (1:Int))=(116:Int)))=true then some ((([9]:pE),(2:Int))) else if (decide ((rY O (1:Int))=(120:Int)))=true then if (decide ((4:Int)≤(O.length:Int)))=true then if 0≤(2:Int)∧(2:Int)≤(4:Int)∧(4:Int)≤(O.length:Int) then (GL (sH O (2:Int) (4:Int)) (16:Int)).bind fun Z=>if (Z.2&&(decide (Z.1≤(127:Int))))=true then some (((sV ([(IntKind.wrap .u8 Z.1)]:pO)),(4:Int))) else some ((([]:pE),(0:Int))) else none else some ((([]:pE),(0:Int))) else if (decide ((rY O (1:Int))=(117:Int)))=true then if (decide ((6:Int)≤(O.length:Int)))=true then if 0≤(2:Int)∧(2:Int)≤(6:Int)∧(6:Int)≤(O.length:Int) then (GL (sH O (2:Int) (6:Int)) (16:Int)).bind fun aA=>if aA.2=true then (MC aA.1).bind fun aB=>if ((decide (aA.1≤(1114111:Int)))&&((decide (aA.1<(55296:Int)))||(decide ((57343:Int)<aA.1))))=true then some ((aB,(6:Int))) else some ((([]:pE),(0:Int))) else some ((([]:pE),(0:Int))) else none else some ((([]:pE),(0:Int))) else if (decide ((0:Int)≤(v7 ([92,34,61,58,35,33,123,125,32]:pE) (rY O (1:Int)))))=true then if 0≤(1:Int)∧(1:Int)≤(2:Int)∧(2:Int)≤(O.length:Int) then some (((sH O (1:Int) (2:Int)),(2:Int))) else none else some ((([]:pE),(0:Int))) else none
section
variable (O:pE)
abbrev a7x:List qC:=[(.val .str O,none)]
abbrev a7y:List qB:=[]
@[go_sem] def a7z:qJ:=⟨[((MD O)).isSome=true],[(.val .str ((val (MD O)).1),none),(.val (.int .i64) ((val (MD O)).2),none)],[]⟩
def aGU:List qC→List qB→Option qJ:=rL (V:=pE) (a7x) (fun x=>a7y) fun x=>a7z x
@[go_sem] def aRH:aGU (no_index (a7x O)) (no_index a7y)=some (a7z O):=rO (fun a0 b0 h1 h2=>by cases h1;cases h2;rfl) O
end
@[go_sem] abbrev aGV:Nat×r7:=(180,⟨[.v],aGU,[],[],none⟩)
def u7:r5 prog [uF,AS,s8,AR] (r6 [a29,a7m,J4]):=⟨⟨uN,⟨C6,⟨s9,⟨C5,trivial⟩⟩⟩⟩,qO aEu (qO aGN (qO OK rH)),r8⟩
def aND:rD prog aGV:=by
 refine rP u7 func180 (c:=_) rfl (N:=67) pW (ts:=[(2,none),(3,none)]) rfl (fun _ _=>rfl) ?_;intro O hs hrow;dsimp only[a7x,a7y,a7z,rI,qS,qW,r9,rK,Nat.reduceAdd] at hs hrow|-;have hz:=hs;obtain⟨z0,d⟩:=aRW.1 hz
 try rw[rW d]
 clear hz hs;unfold MD at d;refine q9 u7 ?_;refine qK (q9 u7 ?_);refine qQ d ?_ ?_<;>intro d Y
 .refine q9 u7 ?_;refine qM (qY ?_);cases d;exact pG []
 refine qU (qI (qK ?_));obtain⟨X,d⟩:=qG d;refine q9 u7 ?_ (hp:=by exact X);refine q9 u7 ?_;refine rT (q9 u7 ?_);refine qQ d ?_ ?_<;>intro d Y
 .refine q9 u7 ?_;refine qM (rU (qY ?_));cases d;exact pG []
 refine q9 u7 ?_;refine qQ d ?_ ?_<;>intro d Y
 .refine q9 u7 ?_;refine qM (rU (qY ?_));cases d;exact pG []
 refine q9 u7 ?_;refine qQ d ?_ ?_<;>intro d Y
 .refine q9 u7 ?_;refine qM (rU (qY ?_));cases d;exact pG []
 refine q9 u7 ?_;refine qQ d ?_ ?_<;>intro d Y
 .refine q9 u7 ?_;refine qQ d ?_ ?_<;>intro d Y
  .obtain⟨W,d⟩:=qG d;obtain⟨Z,hv3,hw3,d⟩:=rF d
   try simp only[go_sem] at hw3
   refine q9 u7 ?_ (hp:=by exact⟨W,(rC hv3)⟩) (h:=by simp only[go_sem,hw3];rfl);refine q9 u7 ?_ (hp:=by exact⟨id,sB⟩);refine qQ d ?_ ?_<;>intro d Y
   .refine q9 u7 ?_;refine qM (rU (qY ?_));cases d;exact pG []
   refine qU (rX (qI (q9 u7 ?_)));refine qM ?_;cases d;exact pG []
  refine qU (rX (qI (q9 u7 ?_)));refine qM ?_;cases d;exact pG []
 refine q9 u7 ?_;refine qQ d ?_ ?_<;>intro d Y
 .refine q9 u7 ?_;refine qQ d ?_ ?_<;>intro d Y
  .obtain⟨V,d⟩:=qG d;obtain⟨aA,hv5,hw5,d⟩:=rF d
   try simp only[go_sem] at hw5
   refine q9 u7 ?_ (hp:=by exact⟨V,(rC hv5)⟩) (h:=by simp only[go_sem,hw5];rfl);refine q9 u7 ?_;refine qQ d ?_ ?_<;>intro d Y
   .obtain⟨aB,hv6,hw6,d⟩:=rF d
    try simp only[go_sem] at hw6
    refine q9 u7 ?_ (hp:=by exact(rC hv6)) (h:=by simp only[go_sem,hw6];rfl);refine q9 u7 ?_;refine qQ d ?_ ?_<;>intro d Y
    .refine q9 u7 ?_;refine qM (rU (qY ?_));cases d;exact pG []
    refine qU (rX (qI (q9 u7 ?_)));refine qM ?_;cases d;exact pG []
   refine qU (rX (qI (q9 u7 ?_)));refine qM ?_;cases d;exact pG []
  refine qU (rX (qI (q9 u7 ?_)));refine qM ?_;cases d;exact pG []
 refine q9 u7 ?_;refine qQ d ?_ ?_<;>intro d Y
 .obtain⟨U,d⟩:=qG d;refine q9 u7 ?_ (hp:=by exact U);refine qM (rU (qY ?_));cases d;exact pG []
 refine qU (rX (qI (q9 u7 ?_)));refine qM ?_;cases d;exact pG []
attribute [irreducible] H9 HC K8 MD
end
noncomputable section
def ME (O:pE):Option (pE×Int):=if (decide ((v7 O (59:Int))<(0:Int)))=true then some ((([]:pE),(0:Int))) else if 0≤(1:Int)∧(1:Int)≤(v7 O (59:Int))∧(v7 O (59:Int))≤(O.length:Int) then if (decide ((sH O (1:Int) (v7 O (59:Int)))=([97,109,112]:pE)))=true then if qD ((v7 O (59:Int))+(1:Int)) then some ((([38]:pE),((v7 O (59:Int))+(1:Int)))) else none else if (decide ((sH O (1:Int) (v7 O (59:Int)))=([108,116]:pE)))=true then if qD ((v7 O (59:Int))+(1:Int)) then some ((([60]:pE),((v7 O (59:Int))+(1:Int)))) else none else if (decide ((sH O (1:Int) (v7 O (59:Int)))=([103,116]:pE)))=true then if qD ((v7 O (59:Int))+(1:Int)) then some ((([62]:pE),((v7 O (59:Int))+(1:Int)))) else none else if (decide ((sH O (1:Int) (v7 O (59:Int)))=([113,117,111,116]:pE)))=true then if qD ((v7 O (59:Int))+(1:Int)) then some ((([34]:pE),((v7 O (59:Int))+(1:Int)))) else none else if (decide ((sH O (1:Int) (v7 O (59:Int)))=([97,112,111,115]:pE)))=true then if qD ((v7 O (59:Int))+(1:Int)) then some ((([39]:pE),((v7 O (59:Int))+(1:Int)))) else none else (JV (sH O (1:Int) (v7 O (59:Int))) ([35]:pE)).bind fun Z=>if (!Z.2)=true then some ((([]:pE),(0:Int))) else (JV Z.1 ([120]:pE)).bind fun aA=>tA (σ:=(pE×Int×Int)) (if aA.2=true then some ((aA.1,(16:Int),(6:Int))) else some ((Z.1,(10:Int),(7:Int))) ) fun(aB,aC,aD)=>(GL aB aC).bind fun aE=>if ((!aE.2)||(decide (aD<(aB.length:Int))))=true then some ((([]:pE),(0:Int))) else (MC aE.1).bind fun aF=>if (!((decide (aE.1≤(1114111:Int)))&&((decide (aE.1<(55296:Int)))||(decide ((57343:Int)<aE.1)))))=true then some ((([]:pE),(0:Int))) else if qD ((v7 O (59:Int))+(1:Int)) then some ((aF,((v7 O (59:Int))+(1:Int)))) else none else none
section
variable (O:pE)
abbrev a7A:List qC:=[(.val .str O,none)]
abbrev a7B:List qB:=[]
@[go_sem] def a7C:qJ:=⟨[((ME O)).isSome=true],[(.val .str ((val (ME O)).1),none),(.val (.int .i64) ((val (ME O)).2),none)],[]⟩
def aGW:List qC→List qB→Option qJ:=rL (V:=pE) (a7A) (fun x=>a7B) fun x=>a7C x
@[go_sem] def aRI:aGW (no_index (a7A O)) (no_index a7B)=some (a7C O):=rO (fun a0 b0 h1 h2=>by cases h1;cases h2;rfl) O
end
@[go_sem] abbrev aGX:Nat×r7:=(181,⟨[.v],aGW,[],[],none⟩)
def uG:r5 prog [s8] (r6 [J4,aFF,a29,a7m]):=⟨⟨s9,trivial⟩,qO OK (qO aNh (qO aEu (qO aGN rH))),r8⟩
def aNE:rD prog aGX:=by
 refine rP uG func181 (c:=_) rfl (N:=80) pW (ts:=[(2,none),(3,none)]) rfl (fun _ _=>rfl) ?_;intro O hs hrow;dsimp only[a7A,a7B,a7C,rI,qS,qW,r9,rK,Nat.reduceAdd] at hs hrow|-;have hz:=hs;obtain⟨z0,d⟩:=aRW.1 hz
 try rw[rW d]
 clear hz hs;unfold ME at d;refine q9 uG ?_;refine q9 uG ?_;refine qK (q9 uG ?_);refine qQ d ?_ ?_<;>intro d Y
 .refine q9 uG ?_;refine qM (qY ?_);cases d;exact pG []
 refine qU (qI ?_);obtain⟨X,d⟩:=qG d;refine q9 uG ?_ (hp:=by exact X);refine qK (q9 uG ?_);refine rT (q9 uG ?_);refine qQ d ?_ ?_<;>intro d Y
 .obtain⟨W,d⟩:=qG d;refine q9 uG ?_ (hp:=by exact W);refine qM (rU (qY ?_));cases d;exact pG []
 refine q9 uG ?_;refine qQ d ?_ ?_<;>intro d Y
 .obtain⟨V,d⟩:=qG d;refine q9 uG ?_ (hp:=by exact V);refine qM (rU (qY ?_));cases d;exact pG []
 refine q9 uG ?_;refine qQ d ?_ ?_<;>intro d Y
 .obtain⟨U,d⟩:=qG d;refine q9 uG ?_ (hp:=by exact U);refine qM (rU (qY ?_));cases d;exact pG []
 refine q9 uG ?_;refine qQ d ?_ ?_<;>intro d Y
 .obtain⟨T,d⟩:=qG d;refine q9 uG ?_ (hp:=by exact T);refine qM (rU (qY ?_));cases d;exact pG []
 refine q9 uG ?_;refine qQ d ?_ ?_<;>intro d Y
 .obtain⟨S,d⟩:=qG d;refine q9 uG ?_ (hp:=by exact S);refine qM (rU (qY ?_));cases d;exact pG []
 refine qU (rX (qI ?_));obtain⟨Z,hv7,hw7,d⟩:=rF d
 try simp only[go_sem] at hw7
 refine q9 uG ?_ (hp:=by exact(rC hv7)) (h:=by simp only[go_sem,hw7];rfl);refine qK (q9 uG ?_);refine qQ d ?_ ?_<;>intro d Y
 .refine q9 uG ?_;refine qM (qY ?_);cases d;exact pG []
 refine qU (qI (q9 uG ?_));refine qK ?_;obtain⟨aA,hv8,hw8,d⟩:=rF d
 try simp only[go_sem] at hw8
 refine q9 uG ?_ (hp:=by exact(rC hv8)) (h:=by simp only[go_sem,hw8];rfl);refine q9 uG ?_;obtain⟨y1,e,d⟩:=rV d;refine yC (fun s=>s=(fun x=>⟨[(4,.val (.int .i64) (v7 O (59:Int)),none),(6,.val .str x.1,none),(8,.val (.int .i64) x.2.1,none),(9,.val (.int .i64) x.2.2,none)],[],0,80,0⟩) y1) ?_ ?_
 .refine qQ e ?_ ?_<;>intro e Y
  .refine rE uG ?_;cases e;exact tF ⟨⟨[4,6,8,9],[]⟩,by rfl⟩
  refine qU ?_;cases e;exact tF ⟨⟨[4,6,8,9],[]⟩,by rfl⟩
 rintro _ rfl;obtain⟨aB,aC,aD⟩:=y1;dsimp only at d|-;refine qI ?_;obtain⟨aE,hv9,hw9,d⟩:=rF d
 try simp only[go_sem] at hw9
 refine q9 uG ?_ (hp:=by exact(rC hv9)) (h:=by simp only[go_sem,hw9];rfl);refine qK (q9 uG ?_ (hp:=by exact⟨id,id,id,sQ⟩));refine qQ d ?_ ?_<;>intro d Y
 .refine q9 uG ?_;refine qM (qY ?_);cases d;exact pG []
 refine qU (qI ?_);obtain⟨aF,hv10,hw10,d⟩:=rF d
 try simp only[go_sem] at hw10
 refine q9 uG ?_ (hp:=by exact(rC hv10)) (h:=by simp only[go_sem,hw10];rfl);refine qK (q9 uG ?_);refine qQ d ?_ ?_<;>intro d Y
 .refine q9 uG ?_;refine qM (qY ?_);cases d;exact pG []
 refine qU (qI ?_);obtain⟨R,d⟩:=qG d;refine q9 uG ?_ (hp:=by exact R);refine qM ?_;cases d;exact pG []
def aGY (O:Int) (Z:pE):(Int×pO)→Option ((Int×pO)⊕(pO⊕(pE×Int×Int))):=fun(aA,aB)=>if (decide (aA<(Z.length:Int)))=true then if 0≤aA∧aA<(Z.length:Int) then if (decide ((rY Z aA)=(38:Int)))=true then if 0≤aA∧aA≤(Z.length:Int)∧(Z.length:Int)≤(Z.length:Int) then (ME (sH Z aA (Z.length:Int))).bind fun aC=>if (decide (aC.2=(0:Int)))=true then some (.inr (.inr ((([]:pE),aA,(3:Int))))) else (D8 (aB,()) aC.1).bind fun aD=>if qD (aA+aC.2) then some (.inl ((aA+aC.2),(aB++tX aC.1))) else none else none else if 0≤aA∧aA<(Z.length:Int) then if (P6 O (rY Z aA))=true then some (.inr (.inr ((([]:pE),aA,(3:Int))))) else if 0≤aA∧aA<(Z.length:Int) then (P7 (aB,()) (rY Z aA)).bind fun aE=>if qD (aA+(1:Int)) then some (.inl ((aA+(1:Int)),(aB++([(rY Z aA)]:pO)))) else none else none else none else none else some (.inr (.inl aB))
def aGZ (O:Int) (Z:pE):(Int×pO)→Option ((Int×pO)⊕(pO⊕(pE×Int×Int))):=fun(aA,aB)=>if (decide (aA<(Z.length:Int)))=true then if 0≤aA∧aA<(Z.length:Int) then if (decide ((rY Z aA)=(92:Int)))=true then if 0≤aA∧aA≤(Z.length:Int)∧(Z.length:Int)≤(Z.length:Int) then (MD (sH Z aA (Z.length:Int))).bind fun aC=>if (decide (aC.2=(0:Int)))=true then some (.inr (.inr ((([]:pE),aA,(3:Int))))) else (D8 (aB,()) aC.1).bind fun aD=>if qD (aA+aC.2) then some (.inl ((aA+aC.2),(aB++tX aC.1))) else none else none else if 0≤aA∧aA<(Z.length:Int) then if (P6 O (rY Z aA))=true then some (.inr (.inr ((([]:pE),aA,(3:Int))))) else if 0≤aA∧aA<(Z.length:Int) then (P7 (aB,()) (rY Z aA)).bind fun aE=>if qD (aA+(1:Int)) then some (.inl ((aA+(1:Int)),(aB++([(rY Z aA)]:pO)))) else none else none else none else none else some (.inr (.inl aB))
def QF (O:Int) (Z:pE):Option (pE×Int×Int):=if (!((decide ((1:Int)≤O))&&(decide (O≤(4:Int)))))=true then some ((([]:pE),(0:Int),(1:Int))) else if (decide (O=(4:Int)))=true then tO (s5 (aGY O Z) ((0:Int),([]:pO))) fun aA=>some (((sV aA),(0:Int),(0:Int))) else tO (s5 (aGZ O Z) ((0:Int),([]:pO))) fun aB=>some (((sV aB),(0:Int),(0:Int)))
section
variable (O:Int) (Z:pE)
abbrev a7D:List qC:=[(.val (.int .i64) O,none),(.val .str Z,none)]
abbrev a7E:List qB:=[]
@[go_sem] def a7F:qJ:=let q:=val (QF O Z);⟨[((QF O Z)).isSome=true],[(.val .str (q.1),none),(.val (.int .i64) (q.2.1),none),(.val (.int .i64) (q.2.2),none)],[]⟩
def aG0:List qC→List qB→Option qJ:=rL (V:=(Int×pE)) (fun x=>a7D x.1 x.2) (fun x=>a7E) fun x=>a7F x.1 x.2
@[go_sem] def aRJ:aG0 (no_index (a7D O Z)) (no_index a7E)=some (a7F O Z):=rO (fun⟨a0,a1⟩ ⟨b0,b1⟩ h1 h2=>by cases h1;cases h2;rfl) (O,Z)
end
@[go_sem] abbrev aG1:Nat×r7:=(149,⟨[.v,.v],aG0,[],[],none⟩)
def tT:r5 prog [s8,EK] (r6 [UX,aGX,US,aEp,aEr,J5,aGV]):=⟨⟨s9,⟨JB,trivial⟩⟩,qO a1K (qO aNE (qO a1f (qO aMR (qO aMS (qO OM (qO aND rH)))))),r8⟩
def aNF:rD prog aG1:=by
 refine rP tT func149 (c:=_) rfl (N:=58) pW (ts:=[(4,none),(5,none),(6,none)]) rfl (fun _ _=>rfl) ?_;intro⟨O,Z⟩ hs hrow;dsimp only[a7D,a7E,a7F,rI,qS,qW,r9,rK,Nat.reduceAdd] at hs hrow|-;have hz:=hs;obtain⟨z0,d⟩:=aRW.1 hz
 try rw[rW d]
 clear hz hs;unfold QF at d;refine q9 tT ?_;refine qK (q9 tT ?_);refine qQ d ?_ ?_<;>intro d Y
 .refine q9 tT ?_;refine qM (qY ?_);cases d;exact pG []
 refine qU (qI (q9 tT ?_));refine qK (q9 tT ?_);refine qQ d ?_ ?_<;>intro d Y
 .refine rE tT ?_;refine qI (q9 tT ?_);refine qK (q9 tT ?_);refine rT ?_;obtain⟨y1,hy1,d⟩:=uL d;refine tC 0 (fun s=> ∃v,y1= .inl v∧s=(fun x=>⟨[(9,.val .ref (some (0,0)),none)],[(0,.cells vP ((some (0,0)),(x,())) [(1,1)]),(1,.grow 5 1 (x.length))],2,58,0⟩) v) ?_ ?_
  .refine t8 hy1 (fun x=>⟨[(0,.val (.int .i64) O,none),(1,.val .str Z,none),(7,.val (.int .u8) (38:Int),none),(8,.val .clo (some (181,[])),none),(9,.val .ref (some (0,0)),none),(10,.val (.int .i64) x.1,none)],[(0,.cells vP ((some (0,0)),(x.2,())) [(1,1)]),(1,.grow 5 1 (x.2.length))],2,58,0⟩) ⟨[0,1,7,8,9,10],[(0,384),(1,385)]⟩ pX ?_;intro x1 w1 n1 e f;obtain⟨aA,aB⟩:=x1;unfold aGY at e;dsimp only at e|-;refine qK (q9 tT ?_);refine qQ e ?_ ?_<;>intro e Y
   .refine qU (qI (rT (rT ?_)));obtain⟨X,e⟩:=qG e;refine q9 tT ?_ (hp:=by exact X);refine qQ e ?_ ?_<;>intro e Y
    .obtain⟨W,e⟩:=qG e;obtain⟨aC,hv3,hw3,e⟩:=rF e
     try simp only[go_sem] at hw3
     refine q9 tT ?_ (hp:=by exact⟨W,(rC hv3)⟩) (h:=by simp only[go_sem,hw3];rfl);refine qK (q9 tT ?_);refine qQ e ?_ ?_<;>intro e Y
     .refine q9 tT ?_;refine qM (qY (rU (rU (uE (uQ (rU (qY ?_)))))));cases e;cases f;dsimp only at d;cases d;exact pG []
     refine qU (qI ?_);obtain⟨aD,hv4,hw4,e⟩:=rF e
     try simp only[go_sem] at hw4
     refine q9 tT ?_ (hp:=by exact⟨pV,(rC hv4)⟩) (h:=by simp only[go_sem,hw4];rfl)
     obtain⟨V,e⟩:=qG e;refine rE tT ?_ (hp:=by exact V);refine rX (rX ?_);cases e;exact sK ⟨⟨[0,1,7,8,9,10],[(0,0),(1,1)]⟩,_,by rfl,f⟩
    obtain⟨U,e⟩:=qG e;refine q9 tT ?_ (hp:=by exact U);refine qQ e ?_ ?_<;>intro e Y
    .refine q9 tT ?_;refine qM (rU (rU (uE (uQ (rU (qY ?_))))));cases e;cases f;dsimp only at d;cases d;exact pG []
    obtain⟨T,e⟩:=qG e;obtain⟨aE,hv8,hw8,e⟩:=rF e
    try simp only[go_sem] at hw8
    refine q9 tT ?_ (hp:=by exact⟨T,pV,(rC hv8)⟩) (h:=by simp only[go_sem,hw8];rfl)
    obtain⟨S,e⟩:=qG e;refine rE tT ?_ (hp:=by exact S);refine rX (rX ?_);cases e;exact sK ⟨⟨[0,1,7,8,9,10],[(0,0),(1,1)]⟩,_,by rfl,f⟩
   refine sY (sW (sZ ?_));cases e;cases f;exact tD ⟨⟨[9],[(0,0),(1,1)]⟩,_,rfl,by rfl⟩
  rintro _ ⟨aF,rfl,rfl⟩;dsimp only at d|-;refine sX (qI ?_);refine q9 tT ?_ (hp:=by first|rfl|trivial)
  refine qM ?_;cases d;exact pG []
 refine qU (qI (q9 tT ?_));refine qK (q9 tT ?_);refine rT ?_;obtain⟨y1,hy1,d⟩:=uL d;refine tC 0 (fun s=> ∃v,y1= .inl v∧s=(fun x=>⟨[(9,.val .ref (some (0,0)),none)],[(0,.cells vP ((some (0,0)),(x,())) [(1,1)]),(1,.grow 5 1 (x.length))],2,58,0⟩) v) ?_ ?_
 .refine t8 hy1 (fun x=>⟨[(0,.val (.int .i64) O,none),(1,.val .str Z,none),(7,.val (.int .u8) (92:Int),none),(8,.val .clo (some (180,[])),none),(9,.val .ref (some (0,0)),none),(10,.val (.int .i64) x.1,none)],[(0,.cells vP ((some (0,0)),(x.2,())) [(1,1)]),(1,.grow 5 1 (x.2.length))],2,58,0⟩) ⟨[0,1,7,8,9,10],[(0,320),(1,321)]⟩ pX ?_;intro x1 w1 n1 e f;obtain⟨aG,aH⟩:=x1;unfold aGZ at e;dsimp only at e|-;refine qK (q9 tT ?_);refine qQ e ?_ ?_<;>intro e Y
  .refine qU (qI (rT (rT ?_)));obtain⟨R,e⟩:=qG e;refine q9 tT ?_ (hp:=by exact R);refine qQ e ?_ ?_<;>intro e Y
   .obtain⟨Q,e⟩:=qG e;obtain⟨aI,hv12,hw12,e⟩:=rF e
    try simp only[go_sem] at hw12
    refine q9 tT ?_ (hp:=by exact⟨Q,(rC hv12)⟩) (h:=by simp only[go_sem,hw12];rfl);refine qK (q9 tT ?_);refine qQ e ?_ ?_<;>intro e Y
    .refine q9 tT ?_;refine qM (qY (rU (rU (uE (uQ (rU (qY ?_)))))));cases e;cases f;dsimp only at d;cases d;exact pG []
    refine qU (qI ?_);obtain⟨aJ,hv13,hw13,e⟩:=rF e
    try simp only[go_sem] at hw13
    refine q9 tT ?_ (hp:=by exact⟨pV,(rC hv13)⟩) (h:=by simp only[go_sem,hw13];rfl)
    obtain⟨P,e⟩:=qG e;refine rE tT ?_ (hp:=by exact P);refine rX (rX ?_);cases e;exact sK ⟨⟨[0,1,7,8,9,10],[(0,0),(1,1)]⟩,_,by rfl,f⟩
   obtain⟨M,e⟩:=qG e;refine q9 tT ?_ (hp:=by exact M);refine qQ e ?_ ?_<;>intro e Y
   .refine q9 tT ?_;refine qM (rU (rU (uE (uQ (rU (qY ?_))))));cases e;cases f;dsimp only at d;cases d;exact pG []
   obtain⟨L,e⟩:=qG e;obtain⟨aK,hv17,hw17,e⟩:=rF e
   try simp only[go_sem] at hw17
   refine q9 tT ?_ (hp:=by exact⟨L,pV,(rC hv17)⟩) (h:=by simp only[go_sem,hw17];rfl)
   obtain⟨K,e⟩:=qG e;refine rE tT ?_ (hp:=by exact K);refine rX (rX ?_);cases e;exact sK ⟨⟨[0,1,7,8,9,10],[(0,0),(1,1)]⟩,_,by rfl,f⟩
  refine sY (sW (sZ ?_));cases e;cases f;exact tD ⟨⟨[9],[(0,0),(1,1)]⟩,_,rfl,by rfl⟩
 rintro _ ⟨aL,rfl,rfl⟩;dsimp only at d|-;refine sX (qI ?_);refine q9 tT ?_ (hp:=by first|rfl|trivial)
 refine qM ?_;cases d;exact pG []
attribute [irreducible] ME QF
end
noncomputable section
def QG (O:s7):(Int×pF)→Option ((Int×pF)⊕pF):=fun(Z,aA)=>if (decide (Z<(O.2.2.2.1.length:Int)))=true then if 0≤Z∧Z<(O.2.2.2.1.length:Int) then (K3 (qR sM O.2.2.2.1 Z)).bind fun aB=>if (aA.length+([aB]:pF).length)*16≤140737488355328 then if qD (Z+(1:Int)) then some (.inl ((Z+(1:Int)),(aA++([aB]:pF)))) else none else none else none else some (.inr aA)
def HD (O:s7):Option (pE×pF×Int):=(K8 O).bind fun Z=>if (!Z)=true then some ((([]:pE),([]:pF),(1:Int))) else (zO O.1).bind fun aA=>if ((([99,97,116,97,108,111,103,32]:pE)++aA).length:Int)≤9223372036854775807 then if (((([99,97,116,97,108,111,103,32]:pE)++aA)++([10]:pE)).length:Int)≤9223372036854775807 then (H0 O.2.1).bind fun aB=>if ((((([99,97,116,97,108,111,103,32]:pE)++aA)++([10]:pE))++aB).length:Int)≤9223372036854775807 then (H5 O.2.2.1).bind fun aC=>if (((((([99,97,116,97,108,111,103,32]:pE)++aA)++([10]:pE))++aB)++aC).length:Int)≤9223372036854775807 then if ((((((([99,97,116,97,108,111,103,32]:pE)++aA)++([10]:pE))++aB)++aC)++([101,110,100,10]:pE)).length:Int)≤9223372036854775807 then tA (s5 (QG O) ((0:Int),([]:pF))) fun aD=>some (((((((([99,97,116,97,108,111,103,32]:pE)++aA)++([10]:pE))++aB)++aC)++([101,110,100,10]:pE)),aD,(0:Int))) else none else none else none else none else none
section
variable (O:s7)
abbrev a7G:List qC:=[(.val vV O,none)]
abbrev a7H:List qB:=[]
@[go_sem] def a7I:qJ:=let q:=val (HD O);⟨[((HD O)).isSome=true],[(.val vO (q.1,(q.2.1,(([]:pE),()))),none),(.val (.int .i64) (q.2.2),none)],[]⟩
def aG2:List qC→List qB→Option qJ:=rL (V:=s7) (a7G) (fun x=>a7H) fun x=>a7I x
@[go_sem] def aRK:aG2 (no_index (a7G O)) (no_index a7H)=some (a7I O):=rO (fun a0 b0 h1 h2=>by cases h1;cases h2;rfl) O
end
@[go_sem] abbrev a7J:Nat×r7:=(23,⟨[.v],aG2,[],[],none⟩)
def DG:r5 prog [s8,uM,v8,AQ,x7,D7,A6] (r6 [aGT,Q6,a6D,a6O,aGy]):=⟨⟨s9,⟨vA,⟨vW,⟨C3,⟨xP,⟨GC,⟨BF,trivial⟩⟩⟩⟩⟩⟩⟩,qO aNC (qO VA (qO aGo (qO aGu (qO aNv rH)))),r8⟩
def aG3:rD prog a7J:=by
 refine rP DG func23 (c:=_) rfl (N:=44) pW (ts:=[(2,some 37),(3,none)]) rfl (fun _ _=>rfl) ?_;intro O hs hrow;dsimp only[a7G,a7H,a7I,rI,qS,qW,r9,rK,Nat.reduceAdd] at hs hrow|-;have hz:=hs;obtain⟨z0,d⟩:=aRW.1 hz
 try rw[rW d]
 clear hz hs;unfold HD at d;refine q9 DG ?_;refine qK ?_;obtain⟨Z,hv1,hw1,d⟩:=rF d
 try simp only[go_sem] at hw1
 refine q9 DG ?_ (hp:=by exact(rC hv1)) (h:=by simp only[go_sem,hw1];rfl);refine qQ d ?_ ?_<;>intro d Y
 .refine q9 DG ?_;refine qM (qY ?_);cases d;exact pG []
 refine qU (qI ?_);obtain⟨aA,hv2,hw2,d⟩:=rF d
 try simp only[go_sem] at hw2
 obtain⟨X,W,d⟩:=pD d;obtain⟨aB,hv5,hw5,d⟩:=rF d
 try simp only[go_sem] at hw5
 obtain⟨V,d⟩:=qG d;obtain⟨aC,hv7,hw7,d⟩:=rF d
 try simp only[go_sem] at hw7
 obtain⟨U,T,d⟩:=pD d;refine v6 DG ?_ (hp:=by exact⟨rC hv2,X,W,rC hv5,V,rC hv7,U,T⟩) (h:=by simp only[go_sem,hw2,hw5,hw7];rfl);refine qK (q9 DG ?_);refine rT ?_;obtain⟨aD,hy1,d⟩:=rV d;refine tC 0 (fun s=>s=(fun x=>⟨[(2,.val .ref (some (0,0)),none),(4,.val .ref (some (1,0)),none)],[(0,.cells vO (([]:pE),(([]:pF),(([]:pE),()))) [(1,2)]),(1,.cells vO ((((((([99,97,116,97,108,111,103,32]:pE)++aA)++([10]:pE))++aB)++aC)++([101,110,100,10]:pE)),(x,(([]:pE),()))) [(1,3)]),(2,.grow 9 1 (([]:pF).length)),(3,.grow 9 1 (x.length))],4,44,0⟩) aD) ?_ ?_
 .refine t8 hy1 (fun x=>⟨[(1,.val .ref (some (0,0)),none),(2,.val .ref (some (1,0)),none),(4,.val .ref (some (2,0)),none),(5,.val (.int .i64) x.1,none)],[(0,.cells vV O []),(1,.cells vO (([]:pE),(([]:pF),(([]:pE),()))) [(1,3)]),(2,.cells vO ((((((([99,97,116,97,108,111,103,32]:pE)++aA)++([10]:pE))++aB)++aC)++([101,110,100,10]:pE)),(x.2,(([]:pE),()))) [(1,4)]),(3,.grow 9 1 (([]:pF).length)),(4,.grow 9 1 (x.2.length))],5,44,0⟩) ⟨[1,2,4,5],[(0,0),(1,32),(2,672),(3,33),(4,704)]⟩ pX ?_;intro x1 w1 n1 f g;obtain⟨aE,aF⟩:=x1;unfold QG at f;dsimp only at f|-;refine qK (q9 DG ?_);refine qQ f ?_ ?_<;>intro f Y
  .refine qU (qI (qK (rT ?_)));obtain⟨S,f⟩:=qG f;obtain⟨aG,hv11,hw11,f⟩:=rF f
   try simp only[go_sem] at hw11
   obtain⟨R,f⟩:=qG f;refine D4 DG ?_ (hp:=by exact⟨S,rC hv11,pV,R⟩) (h:=by simp only[go_sem,hw11];rfl)
   refine rX (qI ?_);obtain⟨Q,f⟩:=qG f;refine rE DG ?_ (hp:=by exact Q);cases f;exact sK ⟨⟨[1,2,4,5],[(0,0),(1,1),(2,2),(3,3),(4,4)]⟩,_,by rfl,g⟩
  refine sY (sW (sZ ?_));cases f;cases g;exact tD ⟨⟨[2,4],[(0,1),(1,2),(2,3),(3,4)]⟩,by rfl⟩
 rintro _ rfl;dsimp only at d|-;refine sX (qI ?_);refine q9 DG ?_;refine qM ?_;cases d;exact pG []
def MF (O:(pE×(Bool×Unit))):Option (Bool×pE×Bool×pE×Bool):=if ((decide ((Lib.trimLeftS O.1 ([32,9]:pE))=([]:pE)))||O.2.1)=true then some ((false,([]:pE),false,(Lib.trimLeftS O.1 ([32,9]:pE)),O.2.1)) else if 0≤(0:Int)∧(0:Int)<((Lib.trimLeftS O.1 ([32,9]:pE)).length:Int) then if (!decide ((rY (Lib.trimLeftS O.1 ([32,9]:pE)) (0:Int))=(34:Int)))=true then if List.length (Lib.trimLeftS O.1 ([32,9]:pE))<4294967281 then tA (σ:=Int) (if (decide ((a0G (Lib.trimLeftS O.1 ([32,9]:pE)) ([32,9,34]:pE))<(0:Int)))=true then some (((Lib.trimLeftS O.1 ([32,9]:pE)).length:Int)) else some ((a0G (Lib.trimLeftS O.1 ([32,9]:pE)) ([32,9,34]:pE))) ) fun Z=>if 0≤(0:Int)∧(0:Int)≤Z∧Z≤((Lib.trimLeftS O.1 ([32,9]:pE)).length:Int) then if 0≤Z∧Z≤((Lib.trimLeftS O.1 ([32,9]:pE)).length:Int)∧((Lib.trimLeftS O.1 ([32,9]:pE)).length:Int)≤((Lib.trimLeftS O.1 ([32,9]:pE)).length:Int) then (V6 (sH (Lib.trimLeftS O.1 ([32,9]:pE)) Z ((Lib.trimLeftS O.1 ([32,9]:pE)).length:Int)) ([34]:pE)).bind fun aA=>some ((false,(sH (Lib.trimLeftS O.1 ([32,9]:pE)) (0:Int) Z),(!((decide ((([34]:pE).length:Int)≤((sH (Lib.trimLeftS O.1 ([32,9]:pE)) Z ((Lib.trimLeftS O.1 ([32,9]:pE)).length:Int)).length:Int)))&&(decide ((sH (sH (Lib.trimLeftS O.1 ([32,9]:pE)) Z ((Lib.trimLeftS O.1 ([32,9]:pE)).length:Int)) (0:Int) (([34]:pE).length:Int))=([34]:pE))))),(sH (Lib.trimLeftS O.1 ([32,9]:pE)) Z ((Lib.trimLeftS O.1 ([32,9]:pE)).length:Int)),((decide ((([34]:pE).length:Int)≤((sH (Lib.trimLeftS O.1 ([32,9]:pE)) Z ((Lib.trimLeftS O.1 ([32,9]:pE)).length:Int)).length:Int)))&&(decide ((sH (sH (Lib.trimLeftS O.1 ([32,9]:pE)) Z ((Lib.trimLeftS O.1 ([32,9]:pE)).length:Int)) (0:Int) (([34]:pE).length:Int))=([34]:pE)))))) else none else none else none else if 0≤(1:Int)∧(1:Int)≤((Lib.trimLeftS O.1 ([32,9]:pE)).length:Int)∧((Lib.trimLeftS O.1 ([32,9]:pE)).length:Int)≤((Lib.trimLeftS O.1 ([32,9]:pE)).length:Int) then (P3 (2:Int) (sH (Lib.trimLeftS O.1 ([32,9]:pE)) (1:Int) ((Lib.trimLeftS O.1 ([32,9]:pE)).length:Int)) (34:Int)).bind fun aB=>if (decide (aB<(0:Int)))=true then some ((false,([]:pE),false,(Lib.trimLeftS O.1 ([32,9]:pE)),true)) else if qD (aB+(1:Int)) then if 0≤(1:Int)∧(1:Int)≤(aB+(1:Int))∧(aB+(1:Int))≤((Lib.trimLeftS O.1 ([32,9]:pE)).length:Int) then (QF (2:Int) (sH (Lib.trimLeftS O.1 ([32,9]:pE)) (1:Int) (aB+(1:Int)))).bind fun aC=>if qD (aB+(2:Int)) then if 0≤(aB+(2:Int))∧(aB+(2:Int))≤((Lib.trimLeftS O.1 ([32,9]:pE)).length:Int)∧((Lib.trimLeftS O.1 ([32,9]:pE)).length:Int)≤((Lib.trimLeftS O.1 ([32,9]:pE)).length:Int) then if (((!decide (aC.2.2=(0:Int)))==false)=true→((BI aC.1)).isSome=true) then if (((((!decide (aC.2.2=(0:Int)))||(!((decide ((aC.1.length:Int)≤(4000:Int)))&&(Lib.validD aC.1))))==false)&&((!decide ((sH (Lib.trimLeftS O.1 ([32,9]:pE)) (aB+(2:Int)) ((Lib.trimLeftS O.1 ([32,9]:pE)).length:Int))=([]:pE)))==true))=true→0≤(0:Int)∧(0:Int)<((sH (Lib.trimLeftS O.1 ([32,9]:pE)) (aB+(2:Int)) ((Lib.trimLeftS O.1 ([32,9]:pE)).length:Int)).length:Int)) then if (((((!decide (aC.2.2=(0:Int)))||(!((decide ((aC.1.length:Int)≤(4000:Int)))&&(Lib.validD aC.1))))==false)&&(((!decide ((sH (Lib.trimLeftS O.1 ([32,9]:pE)) (aB+(2:Int)) ((Lib.trimLeftS O.1 ([32,9]:pE)).length:Int))=([]:pE)))&&(!decide ((rY (sH (Lib.trimLeftS O.1 ([32,9]:pE)) (aB+(2:Int)) ((Lib.trimLeftS O.1 ([32,9]:pE)).length:Int)) (0:Int))=(32:Int))))==true))=true→0≤(0:Int)∧(0:Int)<((sH (Lib.trimLeftS O.1 ([32,9]:pE)) (aB+(2:Int)) ((Lib.trimLeftS O.1 ([32,9]:pE)).length:Int)).length:Int)) then some ((true,aC.1,(!(((!decide (aC.2.2=(0:Int)))||(!((decide ((aC.1.length:Int)≤(4000:Int)))&&(Lib.validD aC.1))))||(((!decide ((sH (Lib.trimLeftS O.1 ([32,9]:pE)) (aB+(2:Int)) ((Lib.trimLeftS O.1 ([32,9]:pE)).length:Int))=([]:pE)))&&(!decide ((rY (sH (Lib.trimLeftS O.1 ([32,9]:pE)) (aB+(2:Int)) ((Lib.trimLeftS O.1 ([32,9]:pE)).length:Int)) (0:Int))=(32:Int))))&&(!decide ((rY (sH (Lib.trimLeftS O.1 ([32,9]:pE)) (aB+(2:Int)) ((Lib.trimLeftS O.1 ([32,9]:pE)).length:Int)) (0:Int))=(9:Int)))))),(sH (Lib.trimLeftS O.1 ([32,9]:pE)) (aB+(2:Int)) ((Lib.trimLeftS O.1 ([32,9]:pE)).length:Int)),(((!decide (aC.2.2=(0:Int)))||(!((decide ((aC.1.length:Int)≤(4000:Int)))&&(Lib.validD aC.1))))||(((!decide ((sH (Lib.trimLeftS O.1 ([32,9]:pE)) (aB+(2:Int)) ((Lib.trimLeftS O.1 ([32,9]:pE)).length:Int))=([]:pE)))&&(!decide ((rY (sH (Lib.trimLeftS O.1 ([32,9]:pE)) (aB+(2:Int)) ((Lib.trimLeftS O.1 ([32,9]:pE)).length:Int)) (0:Int))=(32:Int))))&&(!decide ((rY (sH (Lib.trimLeftS O.1 ([32,9]:pE)) (aB+(2:Int)) ((Lib.trimLeftS O.1 ([32,9]:pE)).length:Int)) (0:Int))=(9:Int))))))) else none else none else none else none else none else none else none else none else none
section
variable (O:(pE×(Bool×Unit)))
abbrev a7K:List qC:=[(.val .ref (some (0,0)),none)]
abbrev a7L:List qB:=[.cells (.pair .str (.pair .bool .unit)) O []]
@[go_sem] def a7M:qJ:=let q:=val (MF O);⟨[((MF O)).isSome=true],[(.val rR (q.1,(q.2.1,())),none),(.val .bool (q.2.2.1),none)],[.cells (.pair .str (.pair .bool .unit)) (q.2.2.2.1,(q.2.2.2.2,())) []]⟩
def aG4:List qC→List qB→Option qJ:=rL (V:=(pE×(Bool×Unit))) (fun x=>a7K) (a7L) fun x=>a7M x
@[go_sem] def aRL:aG4 (no_index a7K) (no_index (a7L O))=some (a7M O):=rO (fun a0 b0 h1 h2=>by cases h1;cases h2;rfl) O
end
@[go_sem] abbrev aG5:Nat×r7:=(115,⟨[.p (.pair .str (.pair .bool .unit)) []],aG4,[],[],none⟩)
def wX:r5 prog [vF,s8,vL,UR] (r6 [OL,aDd,aFh,aEe,aG1,JP]):=⟨⟨vQ,⟨s9,⟨vY,⟨aDc,trivial⟩⟩⟩⟩,qO a0l (qO aMw (qO aM7 (qO aMP (qO aNF (qO PL rH))))),r8⟩
def aNG:rD prog aG5:=by
 refine rP wX func115 (c:=_) rfl (N:=152) pW (ts:=[(2,some 121),(3,none)]) rfl (fun _ _=>rfl) ?_;intro O hs hrow;dsimp only[a7K,a7L,a7M,rI,qS,qW,r9,rK,Nat.reduceAdd] at hs hrow|-;have hz:=hs;obtain⟨z0,d⟩:=aRW.1 hz
 try rw[rW d]
 clear hz hs;unfold MF at d;refine q9 wX ?_;refine q9 wX ?_ (hp:=by exact⟨pJ,pJ⟩);refine qK (q9 wX ?_ (hp:=by exact⟨id,id,id,sQ⟩));refine qQ d ?_ ?_<;>intro d Y
 .refine q9 wX ?_;refine qM (qY ?_);cases d;exact pG [(0,0)]
 refine qU (qI (qK ?_));obtain⟨X,d⟩:=qG d;refine q9 wX ?_ (hp:=by exact X);refine qQ d ?_ ?_<;>intro d Y
 .obtain⟨W,d⟩:=qG d;refine q9 wX ?_ (hp:=by exact W);refine qK (q9 wX ?_);obtain⟨Z,f,d⟩:=rV d;refine yC (fun s=>s=(fun x=>⟨[(0,.val .ref (some (0,0)),none),(2,.val .ref (some (1,0)),none),(4,.val (.int .i64) x,none)],[(0,.cells (.pair .str (.pair .bool .unit)) ((Lib.trimLeftS O.1 ([32,9]:pE)),O.2) []),(1,.cells rR (false,(([]:pE),())) [])],2,152,1⟩) Z) ?_ ?_
  .refine qQ f ?_ ?_<;>intro f Y
   .refine rE wX ?_;cases f;exact tF ⟨⟨[0,2,4],[(0,0),(1,1)]⟩,by rfl⟩
   refine qU ?_;cases f;exact tF ⟨⟨[0,2,4],[(0,0),(1,1)]⟩,by rfl⟩
  rintro _ rfl;dsimp only at d|-;refine qI ?_;obtain⟨V,d⟩:=qG d;refine q9 wX ?_ (hp:=by exact V);obtain⟨U,d⟩:=qG d;refine q9 wX ?_ (hp:=by exact U);obtain⟨aA,hv5,hw5,d⟩:=rF d
  try simp only[go_sem] at hw5
  refine q9 wX ?_ (hp:=by exact(rC hv5)) (h:=by simp only[go_sem,hw5];rfl);refine v6 wX ?_;refine qM (qY ?_);cases d;exact pG [(0,0)]
 refine qU (qI ?_);obtain⟨T,d⟩:=qG d;obtain⟨aB,hv7,hw7,d⟩:=rF d
 try simp only[go_sem] at hw7
 refine q9 wX ?_ (hp:=by exact⟨T,(rC hv7)⟩) (h:=by simp only[go_sem,hw7];rfl);refine qK (q9 wX ?_);refine qQ d ?_ ?_<;>intro d Y
 .refine q9 wX ?_;refine q9 wX ?_;refine qM (qY ?_);cases d;exact pG [(0,0)]
 refine qU (qI ?_);obtain⟨S,R,d⟩:=pD d;obtain⟨aC,hv10,hw10,d⟩:=rF d
 try simp only[go_sem] at hw10
 refine q9 wX ?_ (hp:=by exact⟨S,R,(rC hv10)⟩) (h:=by simp only[go_sem,hw10];rfl);obtain⟨Q,P,d⟩:=pD d;refine q9 wX ?_ (hp:=by exact⟨Q,P⟩);obtain⟨M,L,d⟩:=pD d;obtain⟨K,d⟩:=qG d;refine q9 wX ?_ (hp:=by exact⟨id,M,id,sQ,id,id,id,id,id,id,id,id,id,L,id,id,fun hG e=>D3 hG e,id,id,id,id,id,K,id,id,fun hG e=>D3 hG e,sQ⟩);refine v6 wX ?_;refine qM ?_;cases d;exact pG [(0,0)]
def HE (O:s7):Option (pE×Int):=(HD O).bind fun Z=>if (!decide (Z.2.2=(0:Int)))=true then some ((([]:pE),Z.2.2)) else (JR (Z.1,(Z.2.1,(([]:pE),())))).bind fun aA=>some ((aA,(0:Int)))
section
variable (O:s7)
abbrev a7N:List qC:=[(.val vV O,none)]
abbrev a7O:List qB:=[]
@[go_sem] def a7P:qJ:=⟨[((HE O)).isSome=true],[(.val .str ((val (HE O)).1),none),(.val (.int .i64) ((val (HE O)).2),none)],[]⟩
def aG6:List qC→List qB→Option qJ:=rL (V:=s7) (a7N) (fun x=>a7O) fun x=>a7P x
@[go_sem] def aRM:aG6 (no_index (a7N O)) (no_index a7O)=some (a7P O):=rO (fun a0 b0 h1 h2=>by cases h1;cases h2;rfl) O
end
@[go_sem] abbrev aG7:Nat×r7:=(22,⟨[.v],aG6,[],[],none⟩)
def MG:r5 prog [x7,D7] (r6 [a7J,aFm]):=⟨⟨xP,⟨GC,trivial⟩⟩,qO aG3 (qO aM8 rH),r8⟩
def aNH:rD prog aG7:=by
 refine rP MG func22 (c:=_) rfl (N:=16) pW (ts:=[(2,none),(3,none)]) rfl (fun _ _=>rfl) ?_;intro O hs hrow;dsimp only[a7N,a7O,a7P,rI,qS,qW,r9,rK,Nat.reduceAdd] at hs hrow|-;have hz:=hs;obtain⟨z0,d⟩:=aRW.1 hz
 try rw[rW d]
 clear hz hs;unfold HE at d;refine q9 MG ?_;obtain⟨Z,hv1,hw1,d⟩:=rF d
 try simp only[go_sem] at hw1
 refine q9 MG ?_ (hp:=by exact(rC hv1)) (h:=by simp only[go_sem,hw1];rfl);refine qK (q9 MG ?_);refine qQ d ?_ ?_<;>intro d Y
 .refine q9 MG ?_;refine qM (qY ?_);cases d;exact pG []
 refine qU (qI ?_);obtain⟨aA,hv2,hw2,d⟩:=rF d
 try simp only[go_sem] at hw2
 refine q9 MG ?_ (hp:=by exact(rC hv2)) (h:=by simp only[go_sem,hw2];rfl);refine qM ?_;cases d;exact pG []
attribute [irreducible] HD MF HE
end
noncomputable section
def aG8:((List (Bool×(pE×Unit)))×Bool×pE×Bool×Bool×pE)→Option (((List (Bool×(pE×Unit)))×Bool×pE×Bool×Bool×pE)⊕((List (Bool×(pE×Unit)))×pE×Bool)):=fun(O,Z,aA,aB,aC,aD)=>if Z=true then if (O.length+([(aC,(aD,()))]:List (Bool×(pE×Unit))).length)*24≤140737488355328 then (MF (aA,(aB,()))).bind fun aE=>some (.inl ((O++([(aC,(aD,()))]:List (Bool×(pE×Unit)))),aE.2.2.1,aE.2.2.2.1,aE.2.2.2.2,aE.1,aE.2.1)) else none else some (.inr (O,aA,aB))
def K9 (O:pE):Option ((List (Bool×(pE×Unit)))×Bool):=(MF (O,(false,()))).bind fun Z=>tA (s5 aG8 (([]:List (Bool×(pE×Unit))),Z.2.2.1,Z.2.2.2.1,Z.2.2.2.2,Z.1,Z.2.1)) fun(aA,aB,aC)=>some ((aA,(!aC)))
section
variable (O:pE)
abbrev a7Q:List qC:=[(.val .str O,none)]
abbrev a7R:List qB:=[]
@[go_sem] def a7S:qJ:=let q:=val (K9 O);⟨[((K9 O)).isSome=true],[(.val (.list rR) (q.1),some 0),(.val .bool (q.2),none)],[.grow 121 2 ((q.1).length)]⟩
def aG9:List qC→List qB→Option qJ:=rL (V:=pE) (a7Q) (fun x=>a7R) fun x=>a7S x
@[go_sem] def aRN:aG9 (no_index (a7Q O)) (no_index a7R)=some (a7S O):=rO (fun a0 b0 h1 h2=>by cases h1;cases h2;rfl) O
end
@[go_sem] abbrev zQ:Nat×r7:=(81,⟨[.v],aG9,[],[],none⟩)
def CJ:r5 prog [vF,vR,vL,UR] (r6 [aG5]):=⟨⟨vQ,⟨wE,⟨vY,⟨aDc,trivial⟩⟩⟩⟩,qO aNG rH,r8⟩
def KA:rD prog zQ:=by
 refine rP CJ func81 (c:=_) rfl (N:=33) pW (ts:=[(2,none),(3,none)]) rfl (fun _ _=>rfl) ?_;intro O hs hrow;dsimp only[a7Q,a7R,a7S,rI,qS,qW,r9,rK,Nat.reduceAdd] at hs hrow|-;have hz:=hs;obtain⟨z0,e⟩:=aRW.1 hz
 try rw[rW e]
 clear hz hs;unfold K9 at e;refine q9 CJ ?_;refine q9 CJ ?_;refine q9 CJ ?_;refine qK ?_;obtain⟨Z,hv1,hw1,e⟩:=rF e
 try simp only[go_sem] at hw1
 refine q9 CJ ?_ (hp:=by exact(rC hv1)) (h:=by simp only[go_sem,hw1];rfl);refine rT ?_;obtain⟨y1,hy1,e⟩:=rV e;refine tC 0 (fun s=>s=(fun x=>⟨[(4,.val .ref (some (0,0)),none),(5,(.val (.list rR) x.1,some 1))],[(0,.cells (.pair .str (.pair .bool .unit)) (x.2.1,(x.2.2,())) []),(1,.grow 121 2 (x.1.length))],2,33,0⟩) y1) ?_ ?_
 .refine t8 hy1 (fun x=>⟨[(4,.val .ref (some (0,0)),none),(5,(.val (.list rR) x.1,some 1)),(6,(.val .ref (some (2,0)),none)),(7,.val .bool x.2.1,none)],[(0,.cells (.pair .str (.pair .bool .unit)) (x.2.2.1,(x.2.2.2.1,())) []),(1,.grow 121 2 (x.1.length)),(2,.cells rR (x.2.2.2.2.1,(x.2.2.2.2.2,())) [])],3,33,0⟩) ⟨[4,5,6,7],[(0,128),(1,192),(2,384)]⟩ pX ?_;intro x1 w1 n1 d f;obtain⟨aA,aB,aC,aD,aE,aF⟩:=x1;unfold aG8 at d;dsimp only at d|-;refine qK (q9 CJ ?_);refine qQ d ?_ ?_<;>intro d Y
  .refine qU (qI (qK (rT ?_)));obtain⟨X,d⟩:=qG d;refine rE CJ ?_ (hp:=by exact⟨pV,X⟩)
   refine rX (qI (qK (q9 CJ ?_)));refine rE CJ ?_;refine qI ?_;obtain⟨aG,hv3,hw3,d⟩:=rF d
   try simp only[go_sem] at hw3
   refine rE CJ ?_ (hp:=by exact(rC hv3)) (h:=by simp only[go_sem,hw3];rfl);cases d;exact sK ⟨⟨[4,5,6,7],[(0,0),(1,1),(2,227)]⟩,_,by rfl,f⟩
  refine sY (sW (sZ ?_));cases d;cases f;exact tD ⟨⟨[4,5],[(0,0),(1,1)]⟩,by rfl⟩
 rintro _ rfl;obtain⟨aH,aI,aJ⟩:=y1;dsimp only at e|-;refine sX (qI ?_);refine v6 CJ ?_;refine qM ?_;cases e;exact pG [(0,1)]
attribute [irreducible] K9
end
noncomputable section
def MH (O:s7) (Z:Int) (aA:pE) (aB:pE) (aC:pE) (aD:pF) (aE:Int) (aF:Nat) (aG:(pO×Unit)) (aH:pE) (aI:Int) (aJ:(Option pF)) (aK:Nat) (aL:(Option (List qV))) (aM:Nat) (aN:pM) (aO:pM):Option (Int×pE×pF×(List qV)×(List sP)×Int×pE×pE×pE×pF×Int×Nat×pO×pM×(Option pF)×Nat×(Option (List qV))×Nat×pM):=(K9 aH).bind fun aP=>if (!aP.2)=true then some (((3:Int),O.1,O.2.1,O.2.2.1,O.2.2.2.1,Z,aA,aB,aC,aD,aE,aF,aG.1,aO,aJ,aK,aL,aM,aN)) else if 0≤(0:Int)∧(0:Int)<(aP.1.length:Int) then if (qR rR aP.1 (0:Int)).1=true then (PV O Z aA aB aC aD aE aF aG aP.1 aJ aK aL aM aN aO).bind fun aQ=>some ((aQ.1,O.1,O.2.1,O.2.2.1,O.2.2.2.1,Z,aA,aQ.2.1,aQ.2.2.1,aD,aE,aF,aG.1,aO,aQ.2.2.2.1,aQ.2.2.2.2.1,aQ.2.2.2.2.2.1,aQ.2.2.2.2.2.2,aN)) else if ((decide (Z=(0:Int)))||(decide (Z=(2:Int))))=true then (PJ O Z aA aB aC aD aE aG aP.1 aJ aK aL aM aN aO).bind fun aR=>some ((aR.1,aR.2.1,O.2.1,O.2.2.1,O.2.2.2.1,aR.2.2.1,aR.2.2.2.1,aR.2.2.2.2.1,aR.2.2.2.2.2.1,aR.2.2.2.2.2.2.1,aR.2.2.2.2.2.2.2.1,0,aG.1,aR.2.2.2.2.2.2.2.2.1,aR.2.2.2.2.2.2.2.2.2.1,aR.2.2.2.2.2.2.2.2.2.2.1,aR.2.2.2.2.2.2.2.2.2.2.2.1,aR.2.2.2.2.2.2.2.2.2.2.2.2.1,aR.2.2.2.2.2.2.2.2.2.2.2.2.2)) else if 0≤(0:Int)∧(0:Int)<(aP.1.length:Int) then if (decide ((qR rR aP.1 (0:Int)).2.1=([101,110,100]:pE)))=true then aJ.bind fun aS=>aL.bind fun aT=>if 0≤(1:Int)∧(1:Int)≤(aP.1.length:Int)∧(aP.1.length:Int)≤(aP.1.length:Int) then (PH O Z aA aB aC aD aE aG (sH aP.1 (1:Int) (aP.1.length:Int)) aI aS aT aN aO).bind fun aU=>some ((aU.1,O.1,aU.2.1,aU.2.2.1,aU.2.2.2.1,aU.2.2.2.2.1,aA,aB,aC,aD,aE,0,aU.2.2.2.2.2.1,aO,aU.2.2.2.2.2.2.1,(aS.length),aU.2.2.2.2.2.2.2.1,aU.2.2.2.2.2.2.2.2,aN)) else none else if 0≤(0:Int)∧(0:Int)<(aP.1.length:Int) then D2 (JI ((qR rR aP.1 (0:Int)).2.1)) fun aV=>if ((MY aV.1)||((decide (Z=(1:Int)))&&(!aV.2)))=true then some (((3:Int),O.1,O.2.1,O.2.2.1,O.2.2.2.1,Z,aA,aB,aC,aD,aE,0,aG.1,aO,aJ,aK,aL,aM,aN)) else D2 aV.1 fun aW=>if aW=some 117 then aJ.bind fun aX=>aL.bind fun aY=>if 0≤(1:Int)∧(1:Int)≤(aP.1.length:Int)∧(aP.1.length:Int)≤(aP.1.length:Int) then (PD O Z aA aB aC aD aE aG (sH aP.1 (1:Int) (aP.1.length:Int)) aX aY aN aO).bind fun aZ=>some ((aZ.1,O.1,O.2.1,O.2.2.1,O.2.2.2.1,Z,aA,aB,aC,aD,aE,aZ.2.1,aG.1,aO,(some aZ.2.2),(aZ.2.2.length),(some aY),(aY.length),aN)) else none else if aW=some 118 then aJ.bind fun bA=>aL.bind fun bB=>if 0≤(1:Int)∧(1:Int)≤(aP.1.length:Int)∧(aP.1.length:Int)≤(aP.1.length:Int) then (Q2 O Z aA aB aC aD aE aG (sH aP.1 (1:Int) (aP.1.length:Int)) bA bB aN aO).bind fun bC=>some ((bC.1,O.1,O.2.1,O.2.2.1,O.2.2.2.1,Z,aA,aB,aC,aD,aE,bC.2.1,aG.1,aO,(some bA),(bA.length),(some bC.2.2),(bC.2.2.length),aN)) else none else if aW=some 119 then aJ.bind fun bD=>aL.bind fun bE=>if 0≤(1:Int)∧(1:Int)≤(aP.1.length:Int)∧(aP.1.length:Int)≤(aP.1.length:Int) then (PS O Z aA aB aC aD aE aG (sH aP.1 (1:Int) (aP.1.length:Int)) bD bE aN aO).bind fun bF=>some ((bF.1,O.1,O.2.1,O.2.2.1,O.2.2.2.1,Z,aA,bF.2.1,aC,aD,aE,bF.2.2.1,aG.1,aO,(some bD),(bD.length),(some bE),(bE.length),bF.2.2.2)) else none else if aW=some 120 then aJ.bind fun bG=>aL.bind fun bH=>if 0≤(1:Int)∧(1:Int)≤(aP.1.length:Int)∧(aP.1.length:Int)≤(aP.1.length:Int) then (PT O Z aA aB aC aD aE aG (sH aP.1 (1:Int) (aP.1.length:Int)) bG bH aN aO).bind fun bI=>some ((bI.1,O.1,O.2.1,O.2.2.1,O.2.2.2.1,Z,aA,aB,bI.2.1,aD,aE,bI.2.2.1,aG.1,aO,(some bG),(bG.length),(some bH),(bH.length),bI.2.2.2)) else none else if aW=some 121 then aJ.bind fun bJ=>aL.bind fun bK=>if 0≤(1:Int)∧(1:Int)≤(aP.1.length:Int)∧(aP.1.length:Int)≤(aP.1.length:Int) then (PU O Z aA aB aC aD aE aG (sH aP.1 (1:Int) (aP.1.length:Int)) bJ bK aN aO).bind fun bM=>some ((bM.1,O.1,O.2.1,O.2.2.1,O.2.2.2.1,Z,aA,aB,aC,aD,bM.2.1,0,aG.1,aO,(some bJ),(bJ.length),(some bK),(bK.length),bM.2.2)) else none else if aW=some 122 then aJ.bind fun bN=>aL.bind fun bO=>if 0≤(1:Int)∧(1:Int)≤(aP.1.length:Int)∧(aP.1.length:Int)≤(aP.1.length:Int) then (PE O Z aA aB aC aD aE aG (sH aP.1 (1:Int) (aP.1.length:Int)) bN bO aN aO).bind fun bP=>some ((bP.1,O.1,O.2.1,O.2.2.1,O.2.2.2.1,Z,aA,aB,aC,bP.2.1,aE,0,aG.1,aO,(some bN),(bN.length),(some bO),(bO.length),bP.2.2)) else none else none else none else none else none
section
variable (O:pE) (Z:Int) (aA:s7) (aB:Int) (aC:pE) (aD:pE) (aE:pE) (aF:Nat) (aG:pF) (aH:Int) (aI:Nat) (aJ:Nat) (aK:Nat) (aL:Nat) (aM:(pO×Unit)) (aN:Nat) (aO:Nat) (aP:(Option pF)) (aQ:Nat) (aR:(Option (List qV))) (aS:Nat) (aT:pM) (aU:pM)
abbrev a7T:List qC:=[(.val .ref (some (0,0)),none),(.val .str O,none),(.val (.int .i64) Z,none)]
abbrev a7U:List qB:=[.cells sE (aA,(aB,((aC,(aD,(aE,((some (3,aF)),(aG,(aH,((some (4,aI)),()))))))),((some 5),((some 6),((aJ,0,(3,aK),(4,aL)),aM)))))) [(3,1),(15,2)],.grow 45 7 aN,.grow 3 1 aO,s3 9 .str aP aQ,s3 110 rM aR aS,.map .str .bool aT,.map .str .bool aU]
@[go_sem] def a7V:qJ:=let q:=val (MH aA aB aC aD aE aG aH aJ aM O Z aP aQ aR aS aT aU);⟨[aN=(aA.2.2.2.1.length),aO=(aM.1.length),aF=aQ,aI=aS,aK=aQ,aL=aS,((MH aA aB aC aD aE aG aH aJ aM O Z aP aQ aR aS aT aU)).isSome=true],[(.val (.int .i64) (q.1),none)],[.cells sE ((q.2.1,(q.2.2.1,(q.2.2.2.1,(q.2.2.2.2.1,())))),(q.2.2.2.2.2.1,((q.2.2.2.2.2.2.1,(q.2.2.2.2.2.2.2.1,(q.2.2.2.2.2.2.2.2.1,((some (7,q.2.2.2.2.2.2.2.2.2.2.2.2.2.2.2.1)),(q.2.2.2.2.2.2.2.2.2.1,(q.2.2.2.2.2.2.2.2.2.2.1,((some (8,q.2.2.2.2.2.2.2.2.2.2.2.2.2.2.2.2.2.1)),()))))))),((some 9),((some 6),((q.2.2.2.2.2.2.2.2.2.2.2.1,0,(7,q.2.2.2.2.2.2.2.2.2.2.2.2.2.2.2.1),(8,q.2.2.2.2.2.2.2.2.2.2.2.2.2.2.2.2.2.1)),(q.2.2.2.2.2.2.2.2.2.2.2.2.1,()))))))) [(3,1),(15,2)],.grow 45 7 ((q.2.2.2.2.1).length),.grow 3 1 ((q.2.2.2.2.2.2.2.2.2.2.2.2.1).length),.dead,.dead,.dead,.map .str .bool (q.2.2.2.2.2.2.2.2.2.2.2.2.2.1),s3 9 .str (q.2.2.2.2.2.2.2.2.2.2.2.2.2.2.1) (q.2.2.2.2.2.2.2.2.2.2.2.2.2.2.2.1),s3 110 rM (q.2.2.2.2.2.2.2.2.2.2.2.2.2.2.2.2.1) (q.2.2.2.2.2.2.2.2.2.2.2.2.2.2.2.2.2.1),.map .str .bool (q.2.2.2.2.2.2.2.2.2.2.2.2.2.2.2.2.2.2)]⟩
def aHa:List qC→List qB→Option qJ:=rL (V:=(pE×Int×s7×Int×pE×pE×pE×Nat×pF×Int×Nat×Nat×Nat×Nat×(pO×Unit)×Nat×Nat×(Option pF)×Nat×(Option (List qV))×Nat×pM×pM)) (fun⟨O,Z,_,_,_,_,_,_,_,_,_,_,_,_,_,_,_,_,_,_,_,_,_⟩=>a7T O Z) (fun⟨_,_,aA,aB,aC,aD,aE,aF,aG,aH,aI,aJ,aK,aL,aM,aN,aO,aP,aQ,aR,aS,aT,aU⟩=>a7U aA aB aC aD aE aF aG aH aI aJ aK aL aM aN aO aP aQ aR aS aT aU) fun⟨O,Z,aA,aB,aC,aD,aE,aF,aG,aH,aI,aJ,aK,aL,aM,aN,aO,aP,aQ,aR,aS,aT,aU⟩=>a7V O Z aA aB aC aD aE aF aG aH aI aJ aK aL aM aN aO aP aQ aR aS aT aU
@[go_sem] def aRO:aHa (no_index (a7T O Z)) (no_index (a7U aA aB aC aD aE aF aG aH aI aJ aK aL aM aN aO aP aQ aR aS aT aU))=some (a7V O Z aA aB aC aD aE aF aG aH aI aJ aK aL aM aN aO aP aQ aR aS aT aU):=rO (fun⟨a0,a1,a2,a3,a4,a5,a6,a7,a8,a9,a10,a11,a12,a13,a14,a15,a16,a17,a18,a19,a20,a21,a22⟩ ⟨b0,b1,b2,b3,b4,b5,b6,b7,b8,b9,b10,b11,b12,b13,b14,b15,b16,b17,b18,b19,b20,b21,b22⟩ h1 h2=>by cases h1;injection h2 with p0 h2;injection h2 with p1 h2;injection h2 with p2 h2;injection h2 with p3 h2;injection h2 with p4 h2;injection h2 with p5 h2;injection h2 with p6 h2;obtain⟨q3,r3⟩:=yP p3;cases q3;cases r3;obtain⟨q4,r4⟩:=yP p4;cases q4;cases r4;cases p0;cases p1;cases p2;cases p5;cases p6;rfl) (O,Z,aA,aB,aC,aD,aE,aF,aG,aH,aI,aJ,aK,aL,aM,aN,aO,aP,aQ,aR,aS,aT,aU)
end
@[go_sem] abbrev QH:Nat×r7:=(56,⟨[.p sE [3,15],.v,.v],aHa,[(0,8,.r),(0,11,.r),(0,12,.m),(0,13,.m)],[],none⟩)
def aHb:r5 prog [] (r6 [zQ,a5z,a4k,zH,zE,zF,zM,zI,zJ,zK,zG]):=⟨trivial,qO KA (qO aNk (qO aM5 (qO JO (qO JJ (qO JK (qO K1 (qO JW (qO JX (qO JY (qO JL rH)))))))))),r8⟩
def x8:r5 prog [uF,vF,s8,zD,uH,vR,vL,EM] (r6 [zQ,a5z,a4k,zH,zE,zF,zM,zI,zJ,zK,zG]):=⟨⟨uN,⟨vQ,⟨s9,⟨AT,⟨uR,⟨wE,⟨vY,⟨JD,trivial⟩⟩⟩⟩⟩⟩⟩⟩,aHb.Γ,r8⟩
def aHc:rD prog QH:=by
 refine rP aHb func56 (c:=_) rfl (N:=81) pW (ts:=[(6,none)]) rfl (fun _ _=>rfl) ?_ (h3:=by intro _;repeat (first|exact trivial|refine GA rfl ?_ |refine ⟨rfl,?_⟩))
 intro⟨O,Z,aA,aB,aC,aD,aE,aF,aG,aH,aI,aJ,aK,aL,aM,aN,aO,aP,aQ,aR,aS,aT,aU⟩ hs hrow;dsimp only[a7T,a7U,a7V,rI,qS,qW,r9,rK,Nat.reduceAdd] at hs hrow|-;obtain⟨rfl,rfl,hps2,hps3,hps4,hps5,hz⟩:=hs;obtain rfl:=hps2.symm;obtain rfl:=hps3.symm;obtain rfl:=hps4.symm;obtain rfl:=hps5.symm;obtain⟨z0,d⟩:=aRW.1 hz
 try rw[rW d]
 clear hz;unfold MH at d;refine q9 x8 ?_;obtain⟨aV,hv1,hw1,d⟩:=rF d
 try simp only[go_sem] at hw1
 refine q9 x8 ?_ (hp:=by exact(rC hv1)) (h:=by simp only[go_sem,hw1];rfl);refine qK (rT (q9 x8 ?_));refine qQ d ?_ ?_<;>intro d Y
 .refine q9 x8 ?_;refine qM (rU (qY ?_));cases d;exact pH [(0,0),(1,1),(2,2),(6,6),(7,3),(8,4),(9,5)]
 obtain⟨X,d⟩:=qG d;refine q9 x8 ?_ (hp:=by exact X);refine qQ d ?_ ?_<;>intro d Y
 .obtain⟨aW,hv3,hw3,d⟩:=rF d
  try simp only[go_sem] at hw3
  refine q9 x8 ?_ (hp:=by exact⟨pV,pV,pV,pV,pV,pV,pV,pV,pV,pV,(rC hv3)⟩) (h:=by simp only[go_sem,hw3];rfl)
  refine qM (rU (qY ?_));cases d;exact pH [(0,0),(1,1),(2,2),(6,6),(7,3),(8,4),(9,5)]
 refine qU (rX (qI (q9 x8 ?_)));refine qK (q9 x8 ?_ (hp:=by exact⟨id,id,id,id,sQ⟩));refine qQ d ?_ ?_<;>intro d Y
 .refine qK (xO 0 (0,(3,aQ),(4,aS)) (x2:=(aA,(aB,((aC,(aD,(aE,((some (3,aQ)),(aG,(aH,((some (4,aS)),()))))))),((some 5),((some 6),((0,0,(3,aQ),(4,aS)),aM))))))) rfl pY ?_)
  obtain⟨aX,hv4,hw4,d⟩:=rF d
  try simp only[go_sem] at hw4
  refine rE x8 ?_ (hp:=by exact⟨pV,pV,pV,pV,pV,pV,pV,pV,(rC hv4)⟩) (h:=by simp only[go_sem,hw4];rfl)
  refine qI (qM (qY ?_));cases d;exact pH [(0,0),(1,1),(2,2),(6,6),(7,1102),(8,1103),(9,1104)]
 refine qU (qI (qK ?_));obtain⟨W,d⟩:=qG d;refine q9 x8 ?_ (hp:=by exact W);refine qQ d ?_ ?_<;>intro d Y
 .refine qK (xO 0 (0,(3,aQ),(4,aS)) (x2:=(aA,(aB,((aC,(aD,(aE,((some (3,aQ)),(aG,(aH,((some (4,aS)),()))))))),((some 5),((some 6),((0,0,(3,aQ),(4,aS)),aM))))))) rfl pY ?_)
  obtain⟨aY,hal6,hAhal6⟩:=yQ d;subst hal6;obtain⟨aZ,hal7,hAhal7⟩:=yQ hAhal6;subst hal7;rw[show s3 9 .str (some aY:Option pF) aQ= .row 9 .str aY aQ from rfl];rw[show s3 110 rM (some aZ:Option (List qV)) aS= .row 110 rM aZ aS from rfl];refine yR 3 rfl fun hln=>?_;subst hln;refine yR 4 rfl fun hln=>?_;subst hln;have d:=hAhal7;obtain⟨V,d⟩:=qG d;obtain⟨bA,hv9,hw9,d⟩:=rF d
  try simp only[go_sem] at hw9
  refine rE x8 ?_ (hp:=by exact⟨V,pV,pV,pV,pV,pV,pV,pV,pV,(rC hv9)⟩) (h:=by simp only[go_sem,hw9];rfl)
  refine qI (qM (qY ?_));cases d;exact pH [(0,0),(1,1),(2,2),(6,6),(7,3),(8,1326),(9,5)]
 refine qU (qI ?_);obtain⟨U,d⟩:=qG d;obtain⟨bB,hw_89,d⟩:=OH d
 try simp only[go_sem] at hw_89
 refine q9 x8 ?_ (hp:=by exact U) (h:=by simp only[go_sem,hw_89];rfl);refine qK (q9 x8 ?_ (hp:=by exact⟨id,id,id,id,id,id,id,fun hG e=>D3 hG e,sQ⟩));refine qQ d ?_ ?_<;>intro d Y
 .refine q9 x8 ?_;refine xO 0 (0,(3,aQ),(4,aS)) (x2:=(aA,(aB,((aC,(aD,(aE,((some (3,aQ)),(aG,(aH,((some (4,aS)),()))))))),((some 5),((some 6),((0,0,(3,aQ),(4,aS)),aM))))))) rfl pY ?_
  refine qM (qY ?_);cases d;exact pH [(0,0),(1,1),(2,2),(6,6),(7,3),(8,4),(9,5)]
 refine qU (qI (qK ?_));replace d:=ZZ d;generalize bB.1=bC at d|-;by_cases hfn:bC=some 117
 .subst hfn;rw[aRZ rfl] at d;refine xO 0 (0,(3,aQ),(4,aS)) (x2:=(aA,(aB,((aC,(aD,(aE,((some (3,aQ)),(aG,(aH,((some (4,aS)),()))))))),((some 5),((some 6),((0,0,(3,aQ),(4,aS)),aM))))))) rfl pY ?_
  obtain⟨bD,hal11,hAhal11⟩:=yQ d;subst hal11;obtain⟨bE,hal12,hAhal12⟩:=yQ hAhal11;subst hal12;rw[show s3 9 .str (some bD:Option pF) aQ= .row 9 .str bD aQ from rfl];rw[show s3 110 rM (some bE:Option (List qV)) aS= .row 110 rM bE aS from rfl];refine yR 3 rfl fun hln=>?_;subst hln;refine yR 4 rfl fun hln=>?_;subst hln;have d:=hAhal12;obtain⟨T,d⟩:=qG d;obtain⟨bF,hv14,hw14,d⟩:=rF d
  try simp only[go_sem] at hw14
  refine rE x8 ?_ (hp:=by exact⟨T,pV,pV,pV,pV,pV,pV,pV,pV,pV,pV,pV,(rC hv14)⟩) (h:=by simp only[go_sem,hw14];rfl)
  refine qI (qM ?_);cases d;exact pH [(0,0),(1,1),(2,2),(6,6),(7,3),(8,4),(9,5)]
 rw[aR4 hfn] at d;clear hfn;by_cases hfn:bC=some 118
 .subst hfn;rw[aRZ rfl] at d;refine xO 0 (0,(3,aQ),(4,aS)) (x2:=(aA,(aB,((aC,(aD,(aE,((some (3,aQ)),(aG,(aH,((some (4,aS)),()))))))),((some 5),((some 6),((0,0,(3,aQ),(4,aS)),aM))))))) rfl pY ?_
  obtain⟨bG,hal15,hAhal15⟩:=yQ d;subst hal15;obtain⟨bH,hal16,hAhal16⟩:=yQ hAhal15;subst hal16;rw[show s3 9 .str (some bG:Option pF) aQ= .row 9 .str bG aQ from rfl];rw[show s3 110 rM (some bH:Option (List qV)) aS= .row 110 rM bH aS from rfl];refine yR 3 rfl fun hln=>?_;subst hln;refine yR 4 rfl fun hln=>?_;subst hln;have d:=hAhal16;obtain⟨S,d⟩:=qG d;obtain⟨bI,hv18,hw18,d⟩:=rF d
  try simp only[go_sem] at hw18
  refine rE x8 ?_ (hp:=by exact⟨S,pV,pV,pV,pV,pV,pV,pV,pV,pV,pV,pV,(rC hv18)⟩) (h:=by simp only[go_sem,hw18];rfl)
  refine qI (qM ?_);cases d;exact pH [(0,0),(1,1),(2,2),(6,6),(7,3),(8,4),(9,5)]
 rw[aR4 hfn] at d;clear hfn;by_cases hfn:bC=some 119
 .subst hfn;rw[aRZ rfl] at d;refine xO 0 (0,(3,aQ),(4,aS)) (x2:=(aA,(aB,((aC,(aD,(aE,((some (3,aQ)),(aG,(aH,((some (4,aS)),()))))))),((some 5),((some 6),((0,0,(3,aQ),(4,aS)),aM))))))) rfl pY ?_
  obtain⟨bJ,hal19,hAhal19⟩:=yQ d;subst hal19;obtain⟨bK,hal20,hAhal20⟩:=yQ hAhal19;subst hal20;rw[show s3 9 .str (some bJ:Option pF) aQ= .row 9 .str bJ aQ from rfl];rw[show s3 110 rM (some bK:Option (List qV)) aS= .row 110 rM bK aS from rfl];refine yR 3 rfl fun hln=>?_;subst hln;refine yR 4 rfl fun hln=>?_;subst hln;have d:=hAhal20;obtain⟨R,d⟩:=qG d;obtain⟨bM,hv22,hw22,d⟩:=rF d
  try simp only[go_sem] at hw22
  refine rE x8 ?_ (hp:=by exact⟨R,pV,pV,pV,pV,pV,pV,pV,pV,pV,pV,pV,(rC hv22)⟩) (h:=by simp only[go_sem,hw22];rfl)
  refine qI (qM ?_);cases d;exact pH [(0,0),(1,1),(2,2),(6,6),(7,3),(8,4),(9,5)]
 rw[aR4 hfn] at d;clear hfn;by_cases hfn:bC=some 120
 .subst hfn;rw[aRZ rfl] at d;refine xO 0 (0,(3,aQ),(4,aS)) (x2:=(aA,(aB,((aC,(aD,(aE,((some (3,aQ)),(aG,(aH,((some (4,aS)),()))))))),((some 5),((some 6),((0,0,(3,aQ),(4,aS)),aM))))))) rfl pY ?_
  obtain⟨bN,hal23,hAhal23⟩:=yQ d;subst hal23;obtain⟨bO,hal24,hAhal24⟩:=yQ hAhal23;subst hal24;rw[show s3 9 .str (some bN:Option pF) aQ= .row 9 .str bN aQ from rfl];rw[show s3 110 rM (some bO:Option (List qV)) aS= .row 110 rM bO aS from rfl];refine yR 3 rfl fun hln=>?_;subst hln;refine yR 4 rfl fun hln=>?_;subst hln;have d:=hAhal24;obtain⟨Q,d⟩:=qG d;obtain⟨bP,hv26,hw26,d⟩:=rF d
  try simp only[go_sem] at hw26
  refine rE x8 ?_ (hp:=by exact⟨Q,pV,pV,pV,pV,pV,pV,pV,pV,pV,pV,pV,(rC hv26)⟩) (h:=by simp only[go_sem,hw26];rfl)
  refine qI (qM ?_);cases d;exact pH [(0,0),(1,1),(2,2),(6,6),(7,3),(8,4),(9,5)]
 rw[aR4 hfn] at d;clear hfn;by_cases hfn:bC=some 121
 .subst hfn;rw[aRZ rfl] at d;refine xO 0 (0,(3,aQ),(4,aS)) (x2:=(aA,(aB,((aC,(aD,(aE,((some (3,aQ)),(aG,(aH,((some (4,aS)),()))))))),((some 5),((some 6),((0,0,(3,aQ),(4,aS)),aM))))))) rfl pY ?_
  obtain⟨bQ,hal27,hAhal27⟩:=yQ d;subst hal27;obtain⟨bR,hal28,hAhal28⟩:=yQ hAhal27;subst hal28;rw[show s3 9 .str (some bQ:Option pF) aQ= .row 9 .str bQ aQ from rfl];rw[show s3 110 rM (some bR:Option (List qV)) aS= .row 110 rM bR aS from rfl];refine yR 3 rfl fun hln=>?_;subst hln;refine yR 4 rfl fun hln=>?_;subst hln;have d:=hAhal28;obtain⟨P,d⟩:=qG d;obtain⟨bS,hv30,hw30,d⟩:=rF d
  try simp only[go_sem] at hw30
  refine rE x8 ?_ (hp:=by exact⟨P,pV,pV,pV,pV,pV,pV,pV,pV,pV,pV,pV,(rC hv30)⟩) (h:=by simp only[go_sem,hw30];rfl)
  refine qI (qM ?_);cases d;exact pH [(0,0),(1,1),(2,2),(6,6),(7,3),(8,4),(9,5)]
 rw[aR4 hfn] at d;clear hfn;by_cases hfn:bC=some 122
 .subst hfn;rw[aRZ rfl] at d;refine xO 0 (0,(3,aQ),(4,aS)) (x2:=(aA,(aB,((aC,(aD,(aE,((some (3,aQ)),(aG,(aH,((some (4,aS)),()))))))),((some 5),((some 6),((0,0,(3,aQ),(4,aS)),aM))))))) rfl pY ?_
  obtain⟨bT,hal31,hAhal31⟩:=yQ d;subst hal31;obtain⟨bU,hal32,hAhal32⟩:=yQ hAhal31;subst hal32;rw[show s3 9 .str (some bT:Option pF) aQ= .row 9 .str bT aQ from rfl];rw[show s3 110 rM (some bU:Option (List qV)) aS= .row 110 rM bU aS from rfl];refine yR 3 rfl fun hln=>?_;subst hln;refine yR 4 rfl fun hln=>?_;subst hln;have d:=hAhal32;obtain⟨M,d⟩:=qG d;obtain⟨bV,hv34,hw34,d⟩:=rF d
  try simp only[go_sem] at hw34
  refine rE x8 ?_ (hp:=by exact⟨M,pV,pV,pV,pV,pV,pV,pV,pV,pV,pV,pV,(rC hv34)⟩) (h:=by simp only[go_sem,hw34];rfl)
  refine qI (qM ?_);cases d;exact pH [(0,0),(1,1),(2,2),(6,6),(7,3),(8,4),(9,5)]
 rw[aR4 hfn] at d;clear hfn;cases d
attribute [irreducible] MH
end
noncomputable section
def DH (O:s7) (Z:Int) (aA:pE) (aB:pE) (aC:pE) (aD:pF) (aE:Int) (aF:(pO×Unit)) (aG:pE) (aH:Int) (aI:(Option pF)) (aJ:Nat) (aK:(Option (List qV))) (aL:Nat) (aM:pM):Option (pE×Int×pE×pM):=(K9 aG).bind fun aN=>if (!aN.2)=true then none else if 0≤(0:Int)∧(0:Int)<(aN.1.length:Int) then if (qR rR aN.1 (0:Int)).1=true then (LZ O Z aA aB aC aD aE aF aN.1 aI aJ aK aL aM).bind fun aO=>none else if ((decide (Z=(0:Int)))||(decide (Z=(2:Int))))=true then if ((DB O Z aA aB aC aD aE aF aN.1 aI aJ aK aL aM)).isSome=true then (DB O Z aA aB aC aD aE aF aN.1 aI aJ aK aL aM).bind fun aP=>some ((aP.1,aP.2.1,aP.2.2.1,aP.2.2.2)) else (LY O Z aA aB aC aD aE aF aN.1 aI aJ aK aL aM).bind fun aQ=>none else if 0≤(0:Int)∧(0:Int)<(aN.1.length:Int) then if (decide ((qR rR aN.1 (0:Int)).2.1=([101,110,100]:pE)))=true then none else if 0≤(0:Int)∧(0:Int)<(aN.1.length:Int) then D2 (JI ((qR rR aN.1 (0:Int)).2.1)) fun aR=>if ((MY aR.1)||((decide (Z=(1:Int)))&&(!aR.2)))=true then none else D2 aR.1 fun aS=>if aS=some 117 then none else if aS=some 118 then none else if aS=some 119 then none else if aS=some 120 then none else if aS=some 121 then none else if aS=some 122 then none else none else none else none else none
section
variable (O:pE) (Z:Int) (aA:s7) (aB:Int) (aC:pE) (aD:pE) (aE:pE) (aF:Nat) (aG:pF) (aH:Int) (aI:Nat) (aJ:Nat) (aK:Nat) (aL:(pO×Unit)) (aM:Nat) (aN:Nat) (aO:(Option pF)) (aP:Nat) (aQ:(Option (List qV))) (aR:Nat) (aS:pM)
abbrev VD:List qC:=[(.val .ref (some (0,0)),none),(.val .str O,none),(.val (.int .i64) Z,none)]
abbrev a7W:List qB:=[.cells sE (aA,(aB,((aC,(aD,(aE,((some (3,aF)),(aG,(aH,((some (4,aI)),()))))))),(none,((some 5),((0,0,(3,aJ),(4,aK)),aL)))))) [(3,1),(15,2)],.grow 45 7 aM,.grow 3 1 aN,s3 9 .str aO aP,s3 110 rM aQ aR,.map .str .bool aS]
@[go_sem] def VE:qJ:=let q:=val (DH aA aB aC aD aE aG aH aL O Z aO aP aQ aR aS);⟨[aM=(aA.2.2.2.1.length),aN=(aL.1.length),aF=aP,aI=aR,aJ=aP,aK=aR,((DH aA aB aC aD aE aG aH aL O Z aO aP aQ aR aS)).isSome=true],[(.val (.int .i64) (0:Int),none)],[.cells sE ((q.1,(aA.2.1,(aA.2.2.1,(aA.2.2.2.1,())))),(q.2.1,((q.2.2.1,(([]:pE),(([]:pE),((some (6,0)),(([]:pF),((0:Int),((some (7,0)),()))))))),((some 8),((some 5),((0,0,(6,0),(7,0)),(aL.1,()))))))) [(3,1),(9,9),(15,2)],.grow 45 7 (aA.2.2.2.1.length),.grow 3 1 (aL.1.length),s3 9 .str aO aP,s3 110 rM aQ aR,.map .str .bool (q.2.2.2),.row 9 .str ([]:pF) 0,.row 110 rM ([]:List qV) 0,.map .str .bool ([]:pM),.grow 9 1 (([]:pF).length)]⟩
def a7X:List qC→List qB→Option qJ:=rL (V:=(pE×Int×s7×Int×pE×pE×pE×Nat×pF×Int×Nat×Nat×Nat×(pO×Unit)×Nat×Nat×(Option pF)×Nat×(Option (List qV))×Nat×pM)) (fun⟨O,Z,_,_,_,_,_,_,_,_,_,_,_,_,_,_,_,_,_,_,_⟩=>VD O Z) (fun⟨_,_,aA,aB,aC,aD,aE,aF,aG,aH,aI,aJ,aK,aL,aM,aN,aO,aP,aQ,aR,aS⟩=>a7W aA aB aC aD aE aF aG aH aI aJ aK aL aM aN aO aP aQ aR aS) fun⟨O,Z,aA,aB,aC,aD,aE,aF,aG,aH,aI,aJ,aK,aL,aM,aN,aO,aP,aQ,aR,aS⟩=>VE O Z aA aB aC aD aE aF aG aH aI aJ aK aL aM aN aO aP aQ aR aS
@[go_sem] def aNI:a7X (no_index (VD O Z)) (no_index (a7W aA aB aC aD aE aF aG aH aI aJ aK aL aM aN aO aP aQ aR aS))=some (VE O Z aA aB aC aD aE aF aG aH aI aJ aK aL aM aN aO aP aQ aR aS):=rO (fun⟨a0,a1,a2,a3,a4,a5,a6,a7,a8,a9,a10,a11,a12,a13,a14,a15,a16,a17,a18,a19,a20⟩ ⟨b0,b1,b2,b3,b4,b5,b6,b7,b8,b9,b10,b11,b12,b13,b14,b15,b16,b17,b18,b19,b20⟩ h1 h2=>by cases h1;injection h2 with p0 h2;injection h2 with p1 h2;injection h2 with p2 h2;injection h2 with p3 h2;injection h2 with p4 h2;injection h2 with p5 h2;obtain⟨q3,r3⟩:=yP p3;cases q3;cases r3;obtain⟨q4,r4⟩:=yP p4;cases q4;cases r4;cases p0;cases p1;cases p2;cases p5;rfl) (O,Z,aA,aB,aC,aD,aE,aF,aG,aH,aI,aJ,aK,aL,aM,aN,aO,aP,aQ,aR,aS)
end
@[go_sem] def aRP (O:pE) (Z:Int) (aA:s7) (aB:Int) (aC:pE) (aD:pE) (aE:pE) (aF:Nat) (aG:pF) (aH:Int) (aI:Nat) (aJ:Nat) (aK:Nat) (aL:(pO×Unit)) (aM:Nat) (aN:Nat) (aO:pF) (aP:Nat) (aQ:List qV) (aR:Nat) (aS:pM):a7X (no_index (VD O Z)) (no_index ([.cells sE (aA,(aB,((aC,(aD,(aE,((some (3,aF)),(aG,(aH,((some (4,aI)),()))))))),(none,((some 5),((0,0,(3,aJ),(4,aK)),aL)))))) [(3,1),(15,2)],.grow 45 7 aM,.grow 3 1 aN,.row 9 .str aO aP,.row 110 rM aQ aR,.map .str .bool aS]:List qB))=some (VE O Z aA aB aC aD aE aF aG aH aI aJ aK aL aM aN (some aO) aP (some aQ) aR aS):=aNI O Z aA aB aC aD aE aF aG aH aI aJ aK aL aM aN (some aO) aP (some aQ) aR aS
@[go_sem] abbrev QI:Nat×r7:=(56,⟨[.p sE [3,15],.v,.v],a7X,[(0,8,.r),(0,11,.r),(0,13,.m)],[1,2,3,4],none⟩)
def aHd:r5 prog [] (r6 [zQ,B1,EY,zH,zE,zF,zM,zI,zJ,zK,zG]):=⟨trivial,qO KA (qO M0 (qO V5 (qO JO (qO JJ (qO JK (qO K1 (qO JW (qO JX (qO JY (qO JL rH)))))))))),r8⟩
def CK:r5 prog [uF,vF,s8,zD,uH,vR,vL,EM] (r6 [zQ,B1,EY,zH,zE,zF,zM,zI,zJ,zK,zG]):=⟨⟨uN,⟨vQ,⟨s9,⟨AT,⟨uR,⟨wE,⟨vY,⟨JD,trivial⟩⟩⟩⟩⟩⟩⟩⟩,aHd.Γ,r8⟩
def aNJ:r5 prog [] (r6 [zQ,B1,EY,zH,zE,zF,zM,zI,zJ,zK,zG]):=⟨trivial,qO KA (qO M0 (qO V5 (qO JO (qO JJ (qO JK (qO K1 (qO JW (qO JX (qO JY (qO JL rH)))))))))),r8⟩
def aHe:r5 prog [uF,vF,s8,zD,uH,vR,vL,EM] (r6 [zQ,B1,EY,zH,zE,zF,zM,zI,zJ,zK,zG]):=⟨⟨uN,⟨vQ,⟨s9,⟨AT,⟨uR,⟨wE,⟨vY,⟨JD,trivial⟩⟩⟩⟩⟩⟩⟩⟩,aNJ.Γ,r8⟩
def aNK:r5 prog [] (r6 [zQ,B1,PI,zH,zE,zF,zM,zI,zJ,zK,zG]):=⟨trivial,qO KA (qO M0 (qO aE8 (qO JO (qO JJ (qO JK (qO K1 (qO JW (qO JX (qO JY (qO JL rH)))))))))),r8⟩
def aNL:r5 prog [uF,vF,s8,zD,uH,vR,vL,EM] (r6 [zQ,B1,PI,zH,zE,zF,zM,zI,zJ,zK,zG]):=⟨⟨uN,⟨vQ,⟨s9,⟨AT,⟨uR,⟨wE,⟨vY,⟨JD,trivial⟩⟩⟩⟩⟩⟩⟩⟩,aNK.Γ,r8⟩
def aHf:rD prog QI:=by
 refine rP aHd func56 (c:=_) rfl (N:=81) pW (ts:=[(6,none)]) rfl (fun _ _=>rfl) ?_ (h3:=by intro _;repeat (first|exact trivial|refine GA rfl ?_ |refine ⟨rfl,?_⟩))
 intro⟨O,Z,aA,aB,aC,aD,aE,aF,aG,aH,aI,aJ,aK,aL,aM,aN,aO,aP,aQ,aR,aS⟩ hs hrow;dsimp only[VD,a7W,VE,rI,qS,qW,r9,rK,Nat.reduceAdd] at hs hrow|-;obtain⟨rfl,rfl,hps2,hps3,hps4,hps5,hz⟩:=hs;obtain rfl:=hps2.symm;obtain rfl:=hps3.symm;obtain rfl:=hps4.symm;obtain rfl:=hps5.symm;obtain⟨z0,d⟩:=aRW.1 hz
 try rw[rW d]
 clear hz;unfold DH at d;refine q9 CK ?_;obtain⟨aT,hv1,hw1,d⟩:=rF d
 try simp only[go_sem] at hw1
 refine q9 CK ?_ (hp:=by exact(rC hv1)) (h:=by simp only[go_sem,hw1];rfl);refine qK (rT (q9 CK ?_));refine qQ d ?_ ?_<;>intro d Y
 .refine qK (rE CK ?_);cases d
 obtain⟨X,d⟩:=qG d;refine q9 CK ?_ (hp:=by exact X);refine qQ d ?_ ?_<;>intro d Y
 .refine qK ?_;obtain⟨aU,hv3,hw3,d⟩:=rF d
  try simp only[go_sem] at hw3
  refine rE aHe ?_ (hp:=by exact⟨pV,pV,pV,pV,pV,pV,pV,pV,pV,pV,pV,(rC hv3)⟩) (h:=by simp only[go_sem,hw3];rfl)
  cases d
 refine qU (rX (qI (q9 CK ?_)));refine qK (q9 CK ?_ (hp:=by exact⟨id,id,id,id,sQ⟩));refine qQ d ?_ ?_<;>intro d Y
 .refine qK (xO 0 (0,(3,aP),(4,aR)) (x2:=(aA,(aB,((aC,(aD,(aE,((some (3,aP)),(aG,(aH,((some (4,aR)),()))))))),(none,((some 5),((0,0,(3,aP),(4,aR)),aL))))))) rfl pY ?_)
  by_cases hva4:((DB aA aB aC aD aE aG aH aL aT.1 aO aP aQ aR aS)).isSome=true
  .rw[aRZ hva4] at d;obtain⟨aV,hv4,hw4,d⟩:=rF d
   try simp only[go_sem] at hw4
   refine rE aHe ?_ (hp:=by exact⟨pV,pV,pV,pV,pV,pV,pV,pV,pV,pV,(rC hv4)⟩) (h:=by simp only[go_sem,hw4];rfl)
   refine qI (qM (qY ?_));cases d;exact pH [(0,0),(1,1),(2,2),(3,3),(4,4),(5,5),(6,1100),(7,1101),(8,1102),(9,1103)]
  rw[aR4 hva4] at d;obtain⟨aW,hv5,hw5,d⟩:=rF d
  try simp only[go_sem] at hw5
  refine rE aNL ?_ (hp:=by exact⟨pV,pV,pV,pV,pV,pV,pV,pV,pV,pV,pV,(rC hv5)⟩) (h:=by simp only[go_sem,hw5];rfl)
  cases d
 refine qU (qI (qK ?_));obtain⟨W,d⟩:=qG d;refine q9 CK ?_ (hp:=by exact W);refine qQ d ?_ ?_<;>intro d Y
 .cases d
 refine qU (qI ?_);obtain⟨V,d⟩:=qG d;obtain⟨aX,hw_46,d⟩:=OH d
 try simp only[go_sem] at hw_46
 refine q9 CK ?_ (hp:=by exact V) (h:=by simp only[go_sem,hw_46];rfl);refine qK (q9 CK ?_ (hp:=by exact⟨id,id,id,id,id,id,id,fun hG e=>D3 hG e,sQ⟩));refine qQ d ?_ ?_<;>intro d Y
 .refine qK (rE CK ?_);cases d
 refine qU (qI (qK ?_));replace d:=ZZ d;generalize aX.1=aY at d|-;by_cases hfn:aY=some 117
 .subst hfn;rw[aRZ rfl] at d;cases d
 rw[aR4 hfn] at d;clear hfn;by_cases hfn:aY=some 118
 .subst hfn;rw[aRZ rfl] at d;cases d
 rw[aR4 hfn] at d;clear hfn;by_cases hfn:aY=some 119
 .subst hfn;rw[aRZ rfl] at d;cases d
 rw[aR4 hfn] at d;clear hfn;by_cases hfn:aY=some 120
 .subst hfn;rw[aRZ rfl] at d;cases d
 rw[aR4 hfn] at d;clear hfn;by_cases hfn:aY=some 121
 .subst hfn;rw[aRZ rfl] at d;cases d
 rw[aR4 hfn] at d;clear hfn;by_cases hfn:aY=some 122
 .subst hfn;rw[aRZ rfl] at d;cases d
 rw[aR4 hfn] at d;clear hfn;cases d
attribute [irreducible] DH
end
noncomputable section
def MI (O:s7) (Z:Int) (aA:pE) (aB:pE) (aC:pE) (aD:pF) (aE:Int) (aF:(pO×Unit)) (aG:pE) (aH:Int) (aI:(Option pF)) (aJ:Nat) (aK:(Option (List qV))) (aL:Nat) (aM:pM):Option Int:=(K9 aG).bind fun aN=>if (!aN.2)=true then some ((3:Int)) else if 0≤(0:Int)∧(0:Int)<(aN.1.length:Int) then if (qR rR aN.1 (0:Int)).1=true then (LZ O Z aA aB aC aD aE aF aN.1 aI aJ aK aL aM).bind fun aO=>some (aO) else if ((decide (Z=(0:Int)))||(decide (Z=(2:Int))))=true then if ((DB O Z aA aB aC aD aE aF aN.1 aI aJ aK aL aM)).isSome=true then (DB O Z aA aB aC aD aE aF aN.1 aI aJ aK aL aM).bind fun aP=>none else (LY O Z aA aB aC aD aE aF aN.1 aI aJ aK aL aM).bind fun aQ=>some (aQ) else if 0≤(0:Int)∧(0:Int)<(aN.1.length:Int) then if (decide ((qR rR aN.1 (0:Int)).2.1=([101,110,100]:pE)))=true then none else if 0≤(0:Int)∧(0:Int)<(aN.1.length:Int) then D2 (JI ((qR rR aN.1 (0:Int)).2.1)) fun aR=>if ((MY aR.1)||((decide (Z=(1:Int)))&&(!aR.2)))=true then some ((3:Int)) else D2 aR.1 fun aS=>if aS=some 117 then none else if aS=some 118 then none else if aS=some 119 then none else if aS=some 120 then none else if aS=some 121 then none else if aS=some 122 then none else none else none else none else none
section
variable (O:pE) (Z:Int) (aA:s7) (aB:Int) (aC:pE) (aD:pE) (aE:pE) (aF:Nat) (aG:pF) (aH:Int) (aI:Nat) (aJ:Nat) (aK:Nat) (aL:(pO×Unit)) (aM:Nat) (aN:Nat) (aO:(Option pF)) (aP:Nat) (aQ:(Option (List qV))) (aR:Nat) (aS:pM)
abbrev VF:List qC:=[(.val .ref (some (0,0)),none),(.val .str O,none),(.val (.int .i64) Z,none)]
abbrev a7Y:List qB:=[.cells sE (aA,(aB,((aC,(aD,(aE,((some (3,aF)),(aG,(aH,((some (4,aI)),()))))))),(none,((some 5),((0,0,(3,aJ),(4,aK)),aL)))))) [(3,1),(15,2)],.grow 45 7 aM,.grow 3 1 aN,s3 9 .str aO aP,s3 110 rM aQ aR,.map .str .bool aS]
@[go_sem] def VG:qJ:=⟨[aM=(aA.2.2.2.1.length),aN=(aL.1.length),aF=aP,aI=aR,aJ=aP,aK=aR,((MI aA aB aC aD aE aG aH aL O Z aO aP aQ aR aS)).isSome=true],[(.val (.int .i64) (val (MI aA aB aC aD aE aG aH aL O Z aO aP aQ aR aS)),none)],[.cells sE ((aA.1,(aA.2.1,(aA.2.2.1,(aA.2.2.2.1,())))),(aB,((aC,(aD,(aE,((some (3,aP)),(aG,(aH,((some (4,aR)),()))))))),(none,((some 5),((0,0,(3,aP),(4,aR)),(aL.1,()))))))) [(3,1),(15,2)],.grow 45 7 (aA.2.2.2.1.length),.grow 3 1 (aL.1.length),s3 9 .str aO aP,s3 110 rM aQ aR,.map .str .bool aS]⟩
def a7Z:List qC→List qB→Option qJ:=rL (V:=(pE×Int×s7×Int×pE×pE×pE×Nat×pF×Int×Nat×Nat×Nat×(pO×Unit)×Nat×Nat×(Option pF)×Nat×(Option (List qV))×Nat×pM)) (fun⟨O,Z,_,_,_,_,_,_,_,_,_,_,_,_,_,_,_,_,_,_,_⟩=>VF O Z) (fun⟨_,_,aA,aB,aC,aD,aE,aF,aG,aH,aI,aJ,aK,aL,aM,aN,aO,aP,aQ,aR,aS⟩=>a7Y aA aB aC aD aE aF aG aH aI aJ aK aL aM aN aO aP aQ aR aS) fun⟨O,Z,aA,aB,aC,aD,aE,aF,aG,aH,aI,aJ,aK,aL,aM,aN,aO,aP,aQ,aR,aS⟩=>VG O Z aA aB aC aD aE aF aG aH aI aJ aK aL aM aN aO aP aQ aR aS
@[go_sem] def aNM:a7Z (no_index (VF O Z)) (no_index (a7Y aA aB aC aD aE aF aG aH aI aJ aK aL aM aN aO aP aQ aR aS))=some (VG O Z aA aB aC aD aE aF aG aH aI aJ aK aL aM aN aO aP aQ aR aS):=rO (fun⟨a0,a1,a2,a3,a4,a5,a6,a7,a8,a9,a10,a11,a12,a13,a14,a15,a16,a17,a18,a19,a20⟩ ⟨b0,b1,b2,b3,b4,b5,b6,b7,b8,b9,b10,b11,b12,b13,b14,b15,b16,b17,b18,b19,b20⟩ h1 h2=>by cases h1;injection h2 with p0 h2;injection h2 with p1 h2;injection h2 with p2 h2;injection h2 with p3 h2;injection h2 with p4 h2;injection h2 with p5 h2;obtain⟨q3,r3⟩:=yP p3;cases q3;cases r3;obtain⟨q4,r4⟩:=yP p4;cases q4;cases r4;cases p0;cases p1;cases p2;cases p5;rfl) (O,Z,aA,aB,aC,aD,aE,aF,aG,aH,aI,aJ,aK,aL,aM,aN,aO,aP,aQ,aR,aS)
end
@[go_sem] def aRQ (O:pE) (Z:Int) (aA:s7) (aB:Int) (aC:pE) (aD:pE) (aE:pE) (aF:Nat) (aG:pF) (aH:Int) (aI:Nat) (aJ:Nat) (aK:Nat) (aL:(pO×Unit)) (aM:Nat) (aN:Nat) (aO:pF) (aP:Nat) (aQ:List qV) (aR:Nat) (aS:pM):a7Z (no_index (VF O Z)) (no_index ([.cells sE (aA,(aB,((aC,(aD,(aE,((some (3,aF)),(aG,(aH,((some (4,aI)),()))))))),(none,((some 5),((0,0,(3,aJ),(4,aK)),aL)))))) [(3,1),(15,2)],.grow 45 7 aM,.grow 3 1 aN,.row 9 .str aO aP,.row 110 rM aQ aR,.map .str .bool aS]:List qB))=some (VG O Z aA aB aC aD aE aF aG aH aI aJ aK aL aM aN (some aO) aP (some aQ) aR aS):=aNM O Z aA aB aC aD aE aF aG aH aI aJ aK aL aM aN (some aO) aP (some aQ) aR aS
@[go_sem] abbrev QJ:Nat×r7:=(56,⟨[.p sE [3,15],.v,.v],a7Z,[(0,8,.r),(0,11,.r),(0,13,.m)],[1,2,3,4,5],none⟩)
def aHg:r5 prog [] (r6 [zQ,B1,EY,zH,zE,zF,zM,zI,zJ,zK,zG]):=⟨trivial,qO KA (qO M0 (qO V5 (qO JO (qO JJ (qO JK (qO K1 (qO JW (qO JX (qO JY (qO JL rH)))))))))),r8⟩
def CL:r5 prog [uF,vF,s8,zD,uH,vR,vL,EM] (r6 [zQ,B1,EY,zH,zE,zF,zM,zI,zJ,zK,zG]):=⟨⟨uN,⟨vQ,⟨s9,⟨AT,⟨uR,⟨wE,⟨vY,⟨JD,trivial⟩⟩⟩⟩⟩⟩⟩⟩,aHg.Γ,r8⟩
def aNN:r5 prog [] (r6 [zQ,B1,EY,zH,zE,zF,zM,zI,zJ,zK,zG]):=⟨trivial,qO KA (qO M0 (qO V5 (qO JO (qO JJ (qO JK (qO K1 (qO JW (qO JX (qO JY (qO JL rH)))))))))),r8⟩
def aHh:r5 prog [uF,vF,s8,zD,uH,vR,vL,EM] (r6 [zQ,B1,EY,zH,zE,zF,zM,zI,zJ,zK,zG]):=⟨⟨uN,⟨vQ,⟨s9,⟨AT,⟨uR,⟨wE,⟨vY,⟨JD,trivial⟩⟩⟩⟩⟩⟩⟩⟩,aNN.Γ,r8⟩
def aNO:r5 prog [] (r6 [zQ,B1,PI,zH,zE,zF,zM,zI,zJ,zK,zG]):=⟨trivial,qO KA (qO M0 (qO aE8 (qO JO (qO JJ (qO JK (qO K1 (qO JW (qO JX (qO JY (qO JL rH)))))))))),r8⟩
def aNP:r5 prog [uF,vF,s8,zD,uH,vR,vL,EM] (r6 [zQ,B1,PI,zH,zE,zF,zM,zI,zJ,zK,zG]):=⟨⟨uN,⟨vQ,⟨s9,⟨AT,⟨uR,⟨wE,⟨vY,⟨JD,trivial⟩⟩⟩⟩⟩⟩⟩⟩,aNO.Γ,r8⟩
def aHi:rD prog QJ:=by
 refine rP aHg func56 (c:=_) rfl (N:=81) pW (ts:=[(6,none)]) rfl (fun _ _=>rfl) ?_ (h3:=by intro _;repeat (first|exact trivial|refine GA rfl ?_ |refine ⟨rfl,?_⟩))
 intro⟨O,Z,aA,aB,aC,aD,aE,aF,aG,aH,aI,aJ,aK,aL,aM,aN,aO,aP,aQ,aR,aS⟩ hs hrow;dsimp only[VF,a7Y,VG,rI,qS,qW,r9,rK,Nat.reduceAdd] at hs hrow|-;obtain⟨rfl,rfl,hps2,hps3,hps4,hps5,hz⟩:=hs;obtain rfl:=hps2.symm;obtain rfl:=hps3.symm;obtain rfl:=hps4.symm;obtain rfl:=hps5.symm;obtain⟨z0,d⟩:=aRW.1 hz
 try rw[rW d]
 clear hz;unfold MI at d;refine q9 CL ?_;obtain⟨aT,hv1,hw1,d⟩:=rF d
 try simp only[go_sem] at hw1
 refine q9 CL ?_ (hp:=by exact(rC hv1)) (h:=by simp only[go_sem,hw1];rfl);refine qK (rT (q9 CL ?_));refine qQ d ?_ ?_<;>intro d Y
 .refine q9 CL ?_;refine qM (rU (qY ?_));cases d;exact pH [(0,0),(1,1),(2,2),(3,3),(4,4),(5,5)]
 obtain⟨X,d⟩:=qG d;refine q9 CL ?_ (hp:=by exact X);refine qQ d ?_ ?_<;>intro d Y
 .obtain⟨aU,hv3,hw3,d⟩:=rF d
  try simp only[go_sem] at hw3
  refine q9 aHh ?_ (hp:=by exact⟨pV,pV,pV,pV,pV,pV,pV,pV,pV,pV,pV,(rC hv3)⟩) (h:=by simp only[go_sem,hw3];rfl)
  refine qM (rU (qY ?_));cases d;exact pH [(0,0),(1,1),(2,2),(3,3),(4,4),(5,5)]
 refine qU (rX (qI (q9 CL ?_)));refine qK (q9 CL ?_ (hp:=by exact⟨id,id,id,id,sQ⟩));refine qQ d ?_ ?_<;>intro d Y
 .refine qK (xO 0 (0,(3,aP),(4,aR)) (x2:=(aA,(aB,((aC,(aD,(aE,((some (3,aP)),(aG,(aH,((some (4,aR)),()))))))),(none,((some 5),((0,0,(3,aP),(4,aR)),aL))))))) rfl pY ?_)
  by_cases hva4:((DB aA aB aC aD aE aG aH aL aT.1 aO aP aQ aR aS)).isSome=true
  .rw[aRZ hva4] at d;obtain⟨aV,hv4,hw4,d⟩:=rF d
   try simp only[go_sem] at hw4
   refine rE aHh ?_ (hp:=by exact⟨pV,pV,pV,pV,pV,pV,pV,pV,pV,pV,(rC hv4)⟩) (h:=by simp only[go_sem,hw4];rfl)
   cases d
  rw[aR4 hva4] at d;obtain⟨aW,hv5,hw5,d⟩:=rF d
  try simp only[go_sem] at hw5
  refine rE aNP ?_ (hp:=by exact⟨pV,pV,pV,pV,pV,pV,pV,pV,pV,pV,pV,(rC hv5)⟩) (h:=by simp only[go_sem,hw5];rfl)
  refine qI (qM (qY ?_));cases d;exact pH [(0,0),(1,1),(2,2),(3,3),(4,4),(5,5)]
 refine qU (qI (qK ?_));obtain⟨W,d⟩:=qG d;refine q9 CL ?_ (hp:=by exact W);refine qQ d ?_ ?_<;>intro d Y
 .cases d
 refine qU (qI ?_);obtain⟨V,d⟩:=qG d;obtain⟨aX,hw_43,d⟩:=OH d
 try simp only[go_sem] at hw_43
 refine q9 CL ?_ (hp:=by exact V) (h:=by simp only[go_sem,hw_43];rfl);refine qK (q9 CL ?_ (hp:=by exact⟨id,id,id,id,id,id,id,fun hG e=>D3 hG e,sQ⟩));refine qQ d ?_ ?_<;>intro d Y
 .refine q9 CL ?_;refine xO 0 (0,(3,aP),(4,aR)) (x2:=(aA,(aB,((aC,(aD,(aE,((some (3,aP)),(aG,(aH,((some (4,aR)),()))))))),(none,((some 5),((0,0,(3,aP),(4,aR)),aL))))))) rfl pY ?_
  refine qM (qY ?_);cases d;exact pH [(0,0),(1,1),(2,2),(3,3),(4,4),(5,5)]
 refine qU (qI (qK ?_));replace d:=ZZ d;generalize aX.1=aY at d|-;by_cases hfn:aY=some 117
 .subst hfn;rw[aRZ rfl] at d;cases d
 rw[aR4 hfn] at d;clear hfn;by_cases hfn:aY=some 118
 .subst hfn;rw[aRZ rfl] at d;cases d
 rw[aR4 hfn] at d;clear hfn;by_cases hfn:aY=some 119
 .subst hfn;rw[aRZ rfl] at d;cases d
 rw[aR4 hfn] at d;clear hfn;by_cases hfn:aY=some 120
 .subst hfn;rw[aRZ rfl] at d;cases d
 rw[aR4 hfn] at d;clear hfn;by_cases hfn:aY=some 121
 .subst hfn;rw[aRZ rfl] at d;cases d
 rw[aR4 hfn] at d;clear hfn;by_cases hfn:aY=some 122
 .subst hfn;rw[aRZ rfl] at d;cases d
 rw[aR4 hfn] at d;clear hfn;cases d
attribute [irreducible] MI
end
noncomputable section
def a71 (O:pE):(Int⊕(Int×pE×pF×(List qV)×(List sP)×Int×pE×pE×pE×pF×Int×Nat×pO×(Option pF)×Nat×(Option (List qV))×Nat×pM×pM))→Option ((Int⊕(Int×pE×pF×(List qV)×(List sP)×Int×pE×pE×pE×pF×Int×Nat×pO×(Option pF)×Nat×(Option (List qV))×Nat×pM×pM))⊕(pE×pF×(List qV)×(List sP)×Int×pE×pE×pE×pF×Int×Nat×pO×(Option pF)×Nat×(Option (List qV))×Nat×pM×pM)):=fun x=>match x with
 | .inl Z=>
  if (decide (Z<(O.length:Int)))=true then
   if 0≤Z∧Z≤(O.length:Int)∧(O.length:Int)≤(O.length:Int) then
    (GM (sH O Z (O.length:Int)) ([10]:pE)).bind fun aA=>
    if qD (Z+(aA.1.length:Int)) then
     if qD ((Z+(aA.1.length:Int))+(1:Int)) then
      (JE aA.1).bind fun aB=>
      if (!((decide ((Lib.trimLeftS aA.1 ([32,9]:pE))=([]:pE)))||(decide ((rY (Lib.trimLeftS aA.1 ([32,9]:pE)) (0:Int))=(35:Int)))))=true then
       if ((DH (([]:pE),(([]:pF),(([]:List qV),(([]:List sP),())))) (0:Int) ([]:pE) ([]:pE) ([]:pE) ([]:pF) (0:Int) (([]:pO),()) aA.1 (min (O.length:Int) ((Z+(aA.1.length:Int))+(1:Int))) (some ([]:pF)) 0 (some ([]:List qV)) 0 ([]:pM))).isSome=true then
        (DH (([]:pE),(([]:pF),(([]:List qV),(([]:List sP),())))) (0:Int) ([]:pE) ([]:pE) ([]:pE) ([]:pF) (0:Int) (([]:pO),()) aA.1 (min (O.length:Int) ((Z+(aA.1.length:Int))+(1:Int))) (some ([]:pF)) 0 (some ([]:List qV)) 0 ([]:pM)).bind fun aC=>
        if (!decide ((0:Int)=(0:Int)))=true then
         none
        else
         some (.inl (.inr ((min (O.length:Int) ((Z+(aA.1.length:Int))+(1:Int))),aC.1,([]:pF),([]:List qV),([]:List sP),aC.2.1,aC.2.2.1,([]:pE),([]:pE),([]:pF),(0:Int),0,([]:pO),(some ([]:pF)),0,(some ([]:List qV)),0,([]:pM),aC.2.2.2)))
       else
        (MI (([]:pE),(([]:pF),(([]:List qV),(([]:List sP),())))) (0:Int) ([]:pE) ([]:pE) ([]:pE) ([]:pF) (0:Int) (([]:pO),()) aA.1 (min (O.length:Int) ((Z+(aA.1.length:Int))+(1:Int))) (some ([]:pF)) 0 (some ([]:List qV)) 0 ([]:pM)).bind fun aD=>
        if (!decide (aD=(0:Int)))=true then
         none
        else
         some (.inl (.inl (min (O.length:Int) ((Z+(aA.1.length:Int))+(1:Int)))))
      else
       some (.inl (.inl (min (O.length:Int) ((Z+(aA.1.length:Int))+(1:Int)))))
     else none
    else none
   else none
  else
   if (!decide ((0:Int)=(2:Int)))=true then
    none
   else
    none
 | .inr (aE,aF,aG,aH,aI,aJ,aK,aL,aM,aN,aO,aP,aQ,aR,aS,aT,aU,aV,aW)=>
  if (decide (aE<(O.length:Int)))=true then
   if 0≤aE∧aE≤(O.length:Int)∧(O.length:Int)≤(O.length:Int) then
    (GM (sH O aE (O.length:Int)) ([10]:pE)).bind fun aX=>
    if qD (aE+(aX.1.length:Int)) then
     if qD ((aE+(aX.1.length:Int))+(1:Int)) then
      (JE aX.1).bind fun aY=>
      if (!((decide ((Lib.trimLeftS aX.1 ([32,9]:pE))=([]:pE)))||(decide ((rY (Lib.trimLeftS aX.1 ([32,9]:pE)) (0:Int))=(35:Int)))))=true then
       (MH (aF,(aG,(aH,(aI,())))) aJ aK aL aM aN aO aP (aQ,()) aX.1 (min (O.length:Int) ((aE+(aX.1.length:Int))+(1:Int))) aR aS aT aU aV aW).bind fun aZ=>
       if (!decide (aZ.1=(0:Int)))=true then
        none
       else
        some (.inl (.inr ((min (O.length:Int) ((aE+(aX.1.length:Int))+(1:Int))),aZ.2.1,aZ.2.2.1,aZ.2.2.2.1,aZ.2.2.2.2.1,aZ.2.2.2.2.2.1,aZ.2.2.2.2.2.2.1,aZ.2.2.2.2.2.2.2.1,aZ.2.2.2.2.2.2.2.2.1,aZ.2.2.2.2.2.2.2.2.2.1,aZ.2.2.2.2.2.2.2.2.2.2.1,aZ.2.2.2.2.2.2.2.2.2.2.2.1,aZ.2.2.2.2.2.2.2.2.2.2.2.2.1,aZ.2.2.2.2.2.2.2.2.2.2.2.2.2.2.1,aZ.2.2.2.2.2.2.2.2.2.2.2.2.2.2.2.1,aZ.2.2.2.2.2.2.2.2.2.2.2.2.2.2.2.2.1,aZ.2.2.2.2.2.2.2.2.2.2.2.2.2.2.2.2.2.1,aZ.2.2.2.2.2.2.2.2.2.2.2.2.2.2.2.2.2.2,aZ.2.2.2.2.2.2.2.2.2.2.2.2.2.1)))
      else
       some (.inl (.inr ((min (O.length:Int) ((aE+(aX.1.length:Int))+(1:Int))),aF,aG,aH,aI,aJ,aK,aL,aM,aN,aO,aP,aQ,aR,aS,aT,aU,aV,aW)))
     else none
    else none
   else none
  else
   if (!decide (aJ=(2:Int)))=true then
    none
   else
    some (.inr ((aF,aG,aH,aI,aJ,aK,aL,aM,aN,aO,aP,aQ,aR,aS,aT,aU,aV,aW)))
def KB (O:pE):Option (pE×pF×(List qV)×(List sP)×Int×pE×pE×pE×pF×Int×Nat×pO×(Option pF)×Nat×(Option (List qV))×Nat×pM×pM):=s5 (a71 O) (.inl (0:Int))
section
variable (O:pE)
abbrev a73:List qC:=[(.val .str O,none)]
abbrev a74:List qB:=[]
@[go_sem] def a78:qJ:=let q:=val (KB O);⟨[((KB O)).isSome=true],[(.val .ref (some (0,0)),none),(.val (.int .i64) (0:Int),none),(.val (.int .i64) (0:Int),none)],[.cells sE ((q.1,(q.2.1,(q.2.2.1,(q.2.2.2.1,())))),(q.2.2.2.2.1,((q.2.2.2.2.2.1,(q.2.2.2.2.2.2.1,(q.2.2.2.2.2.2.2.1,((some (1,q.2.2.2.2.2.2.2.2.2.2.2.2.2.1)),(q.2.2.2.2.2.2.2.2.1,(q.2.2.2.2.2.2.2.2.2.1,((some (2,q.2.2.2.2.2.2.2.2.2.2.2.2.2.2.2.1)),()))))))),((some 3),((some 4),((q.2.2.2.2.2.2.2.2.2.2.1,0,(1,q.2.2.2.2.2.2.2.2.2.2.2.2.2.1),(2,q.2.2.2.2.2.2.2.2.2.2.2.2.2.2.2.1)),(q.2.2.2.2.2.2.2.2.2.2.2.1,()))))))) [(3,5),(15,6)],s3 9 .str (q.2.2.2.2.2.2.2.2.2.2.2.2.1) (q.2.2.2.2.2.2.2.2.2.2.2.2.2.1),s3 110 rM (q.2.2.2.2.2.2.2.2.2.2.2.2.2.2.1) (q.2.2.2.2.2.2.2.2.2.2.2.2.2.2.2.1),.map .str .bool (q.2.2.2.2.2.2.2.2.2.2.2.2.2.2.2.2.1),.map .str .bool (q.2.2.2.2.2.2.2.2.2.2.2.2.2.2.2.2.2),.grow 45 7 ((q.2.2.2.1).length),.grow 3 1 ((q.2.2.2.2.2.2.2.2.2.2.2.1).length)]⟩
def aHj:List qC→List qB→Option qJ:=rL (V:=pE) (a73) (fun x=>a74) fun x=>a78 x
@[go_sem] def aRR:aHj (no_index (a73 O)) (no_index a74)=some (a78 O):=rO (fun a0 b0 h1 h2=>by cases h1;cases h2;rfl) O
end
@[go_sem] abbrev a79:Nat×r7:=(29,⟨[.v],aHj,[],[],none⟩)
def a8a:r5 prog [] (r6 [AZ,AV,QH]):=⟨trivial,qO LV (qO LP (qO aHc rH)),r8⟩
def uS:r5 prog [uF,vF,s8,AU,uH] (r6 [AZ,AV,QH]):=⟨⟨uN,⟨vQ,⟨s9,⟨C8,⟨uR,trivial⟩⟩⟩⟩⟩,a8a.Γ,r8⟩
def aNQ:r5 prog [] (r6 [AZ,AV,QI]):=⟨trivial,qO LV (qO LP (qO aHf rH)),r8⟩
def aNR:r5 prog [uF,vF,s8,AU,uH] (r6 [AZ,AV,QI]):=⟨⟨uN,⟨vQ,⟨s9,⟨C8,⟨uR,trivial⟩⟩⟩⟩⟩,aNQ.Γ,r8⟩
def aNS:r5 prog [] (r6 [AZ,AV,QJ]):=⟨trivial,qO LV (qO LP (qO aHi rH)),r8⟩
def aNT:r5 prog [uF,vF,s8,AU,uH] (r6 [AZ,AV,QJ]):=⟨⟨uN,⟨vQ,⟨s9,⟨C8,⟨uR,trivial⟩⟩⟩⟩⟩,aNS.Γ,r8⟩
def aNU:rD prog a79:=by
 refine rP a8a func29 (c:=_) rfl (N:=55) pW (ts:=[(2,none),(3,none),(4,none)]) rfl (fun _ _=>rfl) ?_;intro O hs hrow;dsimp only[a73,a74,a78,rI,qS,qW,r9,rK,Nat.reduceAdd] at hs hrow|-;have hz:=hs;obtain⟨z0,f⟩:=aRW.1 hz
 try rw[rW f]
 clear hz hs;unfold KB at f;refine q9 a8a ?_;refine q9 uS ?_;refine qK (q9 uS ?_);refine rT (xO 160 (160,(166,0),(167,0)) (x2:=((([]:pE),(([]:pF),(([]:List qV),(([]:List sP),())))),((0:Int),((([]:pE),(([]:pE),(([]:pE),((some (166,0)),(([]:pF),((0:Int),((some (167,0)),()))))))),(none,((some 96),((0,160,(166,0),(167,0)),(([]:pO),())))))))) rfl pY ?_)
 have hy1:=f;refine t8 hy1 (fun x=>match x with| .inl x=>⟨[(0,.val .str O,none),(5,.val .ref (some (0,0)),none),(6,.val (.int .i64) x,none)],[(0,.cells sE ((([]:pE),(([]:pF),(([]:List qV),(([]:List sP),())))),((0:Int),((([]:pE),(([]:pE),(([]:pE),((some (1,0)),(([]:pF),((0:Int),((some (2,0)),()))))))),(none,((some 3),((0,0,(1,0),(2,0)),(([]:pO),()))))))) [(3,4),(15,5)]),(1,.row 9 .str ([]:pF) 0),(2,.row 110 rM ([]:List qV) 0),(3,.map .str .bool ([]:pM)),(4,.grow 45 7 (([]:List sP).length)),(5,.grow 3 1 (([]:pO).length))],6,55,0⟩ | .inr x=>⟨[(0,.val .str O,none),(5,.val .ref (some (0,0)),none),(6,.val (.int .i64) x.1,none)],[(0,.cells sE ((x.2.1,(x.2.2.1,(x.2.2.2.1,(x.2.2.2.2.1,())))),(x.2.2.2.2.2.1,((x.2.2.2.2.2.2.1,(x.2.2.2.2.2.2.2.1,(x.2.2.2.2.2.2.2.2.1,((some (1,x.2.2.2.2.2.2.2.2.2.2.2.2.2.2.1)),(x.2.2.2.2.2.2.2.2.2.1,(x.2.2.2.2.2.2.2.2.2.2.1,((some (2,x.2.2.2.2.2.2.2.2.2.2.2.2.2.2.2.2.1)),()))))))),((some 3),((some 4),((x.2.2.2.2.2.2.2.2.2.2.2.1,0,(1,x.2.2.2.2.2.2.2.2.2.2.2.2.2.2.1),(2,x.2.2.2.2.2.2.2.2.2.2.2.2.2.2.2.2.1)),(x.2.2.2.2.2.2.2.2.2.2.2.2.1,()))))))) [(3,5),(15,6)]),(1,s3 9 .str x.2.2.2.2.2.2.2.2.2.2.2.2.2.1 x.2.2.2.2.2.2.2.2.2.2.2.2.2.2.1),(2,s3 110 rM x.2.2.2.2.2.2.2.2.2.2.2.2.2.2.2.1 x.2.2.2.2.2.2.2.2.2.2.2.2.2.2.2.2.1),(3,.map .str .bool x.2.2.2.2.2.2.2.2.2.2.2.2.2.2.2.2.2.1),(4,.map .str .bool x.2.2.2.2.2.2.2.2.2.2.2.2.2.2.2.2.2.2),(5,.grow 45 7 (x.2.2.2.2.1.length)),(6,.grow 3 1 (x.2.2.2.2.2.2.2.2.2.2.2.2.1.length))],7,55,0⟩) ⟨[0,5,6],[(0,160),(1,166),(2,167),(3,96),(4,163),(5,165)]⟩ pY ?_
 intro x1 w1 n1 d e;rcases x1 with x1|x1
 .obtain⟨Z,hvx⟩: ∃v,v=x1:=⟨_,rfl⟩;subst hvx;unfold a71 at d;dsimp only at d|-;refine qK (q9 uS ?_);refine qQ d ?_ ?_<;>intro d Y
  .refine qU (qI (rT ?_));obtain⟨X,d⟩:=qG d;obtain⟨aA,hv2,hw2,d⟩:=rF d
   try simp only[go_sem] at hw2
   refine q9 uS ?_ (hp:=by exact⟨X,(rC hv2)⟩) (h:=by simp only[go_sem,hw2];rfl);obtain⟨W,V,d⟩:=pD d;refine q9 uS ?_ (hp:=by exact⟨W,V⟩);refine qK ?_;obtain⟨aB,hv5,hw5,d⟩:=rF d
   try simp only[go_sem] at hw5
   refine q9 uS ?_ (hp:=by exact(rC hv5)) (h:=by simp only[go_sem,hw5];rfl);refine qQ d ?_ ?_<;>intro d Y
   .refine qK ?_;by_cases hva3:((DH (([]:pE),(([]:pF),(([]:List qV),(([]:List sP),())))) (0:Int) ([]:pE) ([]:pE) ([]:pE) ([]:pF) (0:Int) (([]:pO),()) aA.1 (min (O.length:Int) ((Z+(aA.1.length:Int))+(1:Int))) (some ([]:pF)) 0 (some ([]:List qV)) 0 ([]:pM))).isSome=true
    .rw[aRZ hva3] at d;obtain⟨aC,hv6,hw6,d⟩:=rF d
     try simp only[go_sem] at hw6
     refine rE aNR ?_ (hp:=by exact⟨pV,pV,pV,pV,pV,pV,pV,pV,pV,pV,(rC hv6)⟩) (h:=by simp only[go_sem,hw6];rfl)
     refine qI (q9 uS ?_);refine qQ d ?_ ?_<;>intro d Y
     .refine qK (rE uS ?_);cases d
     refine qU (qI (rE uS ?_));refine rX ?_;cases d;exact sK ⟨⟨[0,5,6],[(0,0),(1,972),(2,973),(3,974),(4,3),(5,4),(6,5)]⟩,_,pY,e⟩
    rw[aR4 hva3] at d;obtain⟨aD,hv7,hw7,d⟩:=rF d
    try simp only[go_sem] at hw7
    refine rE aNT ?_ (hp:=by exact⟨pV,pV,pV,pV,pV,pV,pV,pV,pV,pV,pV,(rC hv7)⟩) (h:=by simp only[go_sem,hw7];rfl)
    refine qI (q9 uS ?_);refine qQ d ?_ ?_<;>intro d Y
    .refine qK (rE uS ?_);cases d
    refine qU (qI (rE uS ?_));refine rX ?_;cases d;exact sK ⟨⟨[0,5,6],[(0,0),(1,1),(2,2),(3,3),(4,4),(5,5)]⟩,_,pY,e⟩
   refine qU (qI (rE uS ?_));refine rX ?_;cases d;exact sK ⟨⟨[0,5,6],[(0,0),(1,1),(2,2),(3,3),(4,4),(5,5)]⟩,_,pY,e⟩
  refine sY (sW (sZ (sX (qI (qK ?_)))));refine q9 uS ?_;refine qQ d ?_ ?_<;>intro d Y
  .refine qK (rE uS ?_);cases d
  refine qU (qI (qK (rE uS ?_)));cases d
 obtain⟨aE,aF,aG,aH,aI,aJ,aK,aL,aM,aN,aO,aP,aQ,aR,aS,aT,aU,aV,aW⟩:=x1;unfold a71 at d;dsimp only at d|-;refine qK (q9 uS ?_);refine qQ d ?_ ?_<;>intro d Y
 .refine qU (qI (rT ?_));obtain⟨U,d⟩:=qG d;obtain⟨aX,hv9,hw9,d⟩:=rF d
  try simp only[go_sem] at hw9
  refine q9 uS ?_ (hp:=by exact⟨U,(rC hv9)⟩) (h:=by simp only[go_sem,hw9];rfl);obtain⟨T,S,d⟩:=pD d;refine q9 uS ?_ (hp:=by exact⟨T,S⟩);refine qK ?_;obtain⟨aY,hv12,hw12,d⟩:=rF d
  try simp only[go_sem] at hw12
  refine q9 uS ?_ (hp:=by exact(rC hv12)) (h:=by simp only[go_sem,hw12];rfl);refine qQ d ?_ ?_<;>intro d Y
  .obtain⟨aZ,hv13,hw13,d⟩:=rF d
   try simp only[go_sem] at hw13
   refine q9 uS ?_ (hp:=by exact⟨pV,pV,pV,pV,pV,pV,(rC hv13)⟩) (h:=by simp only[go_sem,hw13];rfl)
   refine q9 uS ?_;refine qQ d ?_ ?_<;>intro d Y
   .refine qK (rE uS ?_);cases d
   refine qU (qI (rE uS ?_));refine rX ?_;cases d;exact sK ⟨⟨[0,5,6],[(0,0),(1,974),(2,975),(3,976),(4,4),(5,5),(6,6)]⟩,_,pY,e⟩
  refine qU (qI (rE uS ?_));refine rX ?_;cases d;exact sK ⟨⟨[0,5,6],[(0,0),(1,1),(2,2),(3,3),(4,4),(5,5),(6,6)]⟩,_,pY,e⟩
 refine sY (sW (sZ (sX (qI (qK ?_)))));refine q9 uS ?_;refine qQ d ?_ ?_<;>intro d Y
 .refine qK (rE uS ?_);cases d
 refine qU (qI (q9 uS ?_));refine qM ?_;cases d;have f:=aSk some (show _=_ from e);cases f;exact pH [(0,0),(1,1),(2,2),(3,3),(4,4),(5,5),(6,6)]
attribute [irreducible] KB
end
noncomputable section
def a8b (O:pE):(Int⊕(Int×pE×pF×(List qV)×(List sP)×Int×pE×pE×pE×pF×Int×Nat×pO×(Option pF)×Nat×(Option (List qV))×Nat×pM×pM))→Option ((Int⊕(Int×pE×pF×(List qV)×(List sP)×Int×pE×pE×pE×pF×Int×Nat×pO×(Option pF)×Nat×(Option (List qV))×Nat×pM×pM))⊕(Int×Int)):=fun x=>match x with
 | .inl Z=>
  if (decide (Z<(O.length:Int)))=true then
   if 0≤Z∧Z≤(O.length:Int)∧(O.length:Int)≤(O.length:Int) then
    (GM (sH O Z (O.length:Int)) ([10]:pE)).bind fun aA=>
    if qD (Z+(aA.1.length:Int)) then
     if qD ((Z+(aA.1.length:Int))+(1:Int)) then
      (JE aA.1).bind fun aB=>
      if (!((decide ((Lib.trimLeftS aA.1 ([32,9]:pE))=([]:pE)))||(decide ((rY (Lib.trimLeftS aA.1 ([32,9]:pE)) (0:Int))=(35:Int)))))=true then
       if ((DH (([]:pE),(([]:pF),(([]:List qV),(([]:List sP),())))) (0:Int) ([]:pE) ([]:pE) ([]:pE) ([]:pF) (0:Int) (([]:pO),()) aA.1 (min (O.length:Int) ((Z+(aA.1.length:Int))+(1:Int))) (some ([]:pF)) 0 (some ([]:List qV)) 0 ([]:pM))).isSome=true then
        (DH (([]:pE),(([]:pF),(([]:List qV),(([]:List sP),())))) (0:Int) ([]:pE) ([]:pE) ([]:pE) ([]:pF) (0:Int) (([]:pO),()) aA.1 (min (O.length:Int) ((Z+(aA.1.length:Int))+(1:Int))) (some ([]:pF)) 0 (some ([]:List qV)) 0 ([]:pM)).bind fun aC=>
        if (!decide ((0:Int)=(0:Int)))=true then
         some (.inr ((Z,(0:Int))))
        else
         some (.inl (.inr ((min (O.length:Int) ((Z+(aA.1.length:Int))+(1:Int))),aC.1,([]:pF),([]:List qV),([]:List sP),aC.2.1,aC.2.2.1,([]:pE),([]:pE),([]:pF),(0:Int),0,([]:pO),(some ([]:pF)),0,(some ([]:List qV)),0,([]:pM),aC.2.2.2)))
       else
        (MI (([]:pE),(([]:pF),(([]:List qV),(([]:List sP),())))) (0:Int) ([]:pE) ([]:pE) ([]:pE) ([]:pF) (0:Int) (([]:pO),()) aA.1 (min (O.length:Int) ((Z+(aA.1.length:Int))+(1:Int))) (some ([]:pF)) 0 (some ([]:List qV)) 0 ([]:pM)).bind fun aD=>
        if (!decide (aD=(0:Int)))=true then
         some (.inr ((Z,aD)))
        else
         some (.inl (.inl (min (O.length:Int) ((Z+(aA.1.length:Int))+(1:Int)))))
      else
       some (.inl (.inl (min (O.length:Int) ((Z+(aA.1.length:Int))+(1:Int)))))
     else none
    else none
   else none
  else
   if (!decide ((0:Int)=(2:Int)))=true then
    some (.inr (((O.length:Int),(3:Int))))
   else
    none
 | .inr (aE,aF,aG,aH,aI,aJ,aK,aL,aM,aN,aO,aP,aQ,aR,aS,aT,aU,aV,aW)=>
  if (decide (aE<(O.length:Int)))=true then
   if 0≤aE∧aE≤(O.length:Int)∧(O.length:Int)≤(O.length:Int) then
    (GM (sH O aE (O.length:Int)) ([10]:pE)).bind fun aX=>
    if qD (aE+(aX.1.length:Int)) then
     if qD ((aE+(aX.1.length:Int))+(1:Int)) then
      (JE aX.1).bind fun aY=>
      if (!((decide ((Lib.trimLeftS aX.1 ([32,9]:pE))=([]:pE)))||(decide ((rY (Lib.trimLeftS aX.1 ([32,9]:pE)) (0:Int))=(35:Int)))))=true then
       (MH (aF,(aG,(aH,(aI,())))) aJ aK aL aM aN aO aP (aQ,()) aX.1 (min (O.length:Int) ((aE+(aX.1.length:Int))+(1:Int))) aR aS aT aU aV aW).bind fun aZ=>
       if (!decide (aZ.1=(0:Int)))=true then
        some (.inr ((aE,aZ.1)))
       else
        some (.inl (.inr ((min (O.length:Int) ((aE+(aX.1.length:Int))+(1:Int))),aZ.2.1,aZ.2.2.1,aZ.2.2.2.1,aZ.2.2.2.2.1,aZ.2.2.2.2.2.1,aZ.2.2.2.2.2.2.1,aZ.2.2.2.2.2.2.2.1,aZ.2.2.2.2.2.2.2.2.1,aZ.2.2.2.2.2.2.2.2.2.1,aZ.2.2.2.2.2.2.2.2.2.2.1,aZ.2.2.2.2.2.2.2.2.2.2.2.1,aZ.2.2.2.2.2.2.2.2.2.2.2.2.1,aZ.2.2.2.2.2.2.2.2.2.2.2.2.2.2.1,aZ.2.2.2.2.2.2.2.2.2.2.2.2.2.2.2.1,aZ.2.2.2.2.2.2.2.2.2.2.2.2.2.2.2.2.1,aZ.2.2.2.2.2.2.2.2.2.2.2.2.2.2.2.2.2.1,aZ.2.2.2.2.2.2.2.2.2.2.2.2.2.2.2.2.2.2,aZ.2.2.2.2.2.2.2.2.2.2.2.2.2.1)))
      else
       some (.inl (.inr ((min (O.length:Int) ((aE+(aX.1.length:Int))+(1:Int))),aF,aG,aH,aI,aJ,aK,aL,aM,aN,aO,aP,aQ,aR,aS,aT,aU,aV,aW)))
     else none
    else none
   else none
  else
   if (!decide (aJ=(2:Int)))=true then
    some (.inr (((O.length:Int),(3:Int))))
   else
    none
def MJ (O:pE):Option (Int×Int):=s5 (a8b O) (.inl (0:Int))
section
variable (O:pE)
abbrev a8c:List qC:=[(.val .str O,none)]
abbrev a8d:List qB:=[]
@[go_sem] def a8e:qJ:=⟨[((MJ O)).isSome=true],[(.val .ref none,none),(.val (.int .i64) ((val (MJ O)).1),none),(.val (.int .i64) ((val (MJ O)).2),none)],[]⟩
def aHk:List qC→List qB→Option qJ:=rL (V:=pE) (a8c) (fun x=>a8d) fun x=>a8e x
@[go_sem] def aRS:aHk (no_index (a8c O)) (no_index a8d)=some (a8e O):=rO (fun a0 b0 h1 h2=>by cases h1;cases h2;rfl) O
end
@[go_sem] abbrev aHl:Nat×r7:=(29,⟨[.v],aHk,[],[],none⟩)
def a8f:r5 prog [] (r6 [AZ,AV,QH]):=⟨trivial,qO LV (qO LP (qO aHc rH)),r8⟩
def uU:r5 prog [uF,vF,s8,AU,uH] (r6 [AZ,AV,QH]):=⟨⟨uN,⟨vQ,⟨s9,⟨C8,⟨uR,trivial⟩⟩⟩⟩⟩,a8f.Γ,r8⟩
def aNV:r5 prog [] (r6 [AZ,AV,QI]):=⟨trivial,qO LV (qO LP (qO aHf rH)),r8⟩
def aNW:r5 prog [uF,vF,s8,AU,uH] (r6 [AZ,AV,QI]):=⟨⟨uN,⟨vQ,⟨s9,⟨C8,⟨uR,trivial⟩⟩⟩⟩⟩,aNV.Γ,r8⟩
def aNX:r5 prog [] (r6 [AZ,AV,QJ]):=⟨trivial,qO LV (qO LP (qO aHi rH)),r8⟩
def aNY:r5 prog [uF,vF,s8,AU,uH] (r6 [AZ,AV,QJ]):=⟨⟨uN,⟨vQ,⟨s9,⟨C8,⟨uR,trivial⟩⟩⟩⟩⟩,aNX.Γ,r8⟩
def aNZ:rD prog aHl:=by
 refine rP a8f func29 (c:=_) rfl (N:=55) pW (ts:=[(2,none),(3,none),(4,none)]) rfl (fun _ _=>rfl) ?_;intro O hs hrow;dsimp only[a8c,a8d,a8e,rI,qS,qW,r9,rK,Nat.reduceAdd] at hs hrow|-;have hz:=hs;obtain⟨z0,e⟩:=aRW.1 hz
 try rw[rW e]
 clear hz hs;unfold MJ at e;refine q9 a8f ?_;refine q9 uU ?_;refine qK (q9 uU ?_);refine rT (xO 160 (160,(166,0),(167,0)) (x2:=((([]:pE),(([]:pF),(([]:List qV),(([]:List sP),())))),((0:Int),((([]:pE),(([]:pE),(([]:pE),((some (166,0)),(([]:pF),((0:Int),((some (167,0)),()))))))),(none,((some 96),((0,160,(166,0),(167,0)),(([]:pO),())))))))) rfl pY ?_)
 have hy1:=e;refine t8 hy1 (fun x=>match x with| .inl x=>⟨[(0,.val .str O,none),(5,.val .ref (some (0,0)),none),(6,.val (.int .i64) x,none)],[(0,.cells sE ((([]:pE),(([]:pF),(([]:List qV),(([]:List sP),())))),((0:Int),((([]:pE),(([]:pE),(([]:pE),((some (1,0)),(([]:pF),((0:Int),((some (2,0)),()))))))),(none,((some 3),((0,0,(1,0),(2,0)),(([]:pO),()))))))) [(3,4),(15,5)]),(1,.row 9 .str ([]:pF) 0),(2,.row 110 rM ([]:List qV) 0),(3,.map .str .bool ([]:pM)),(4,.grow 45 7 (([]:List sP).length)),(5,.grow 3 1 (([]:pO).length))],6,55,0⟩ | .inr x=>⟨[(0,.val .str O,none),(5,.val .ref (some (0,0)),none),(6,.val (.int .i64) x.1,none)],[(0,.cells sE ((x.2.1,(x.2.2.1,(x.2.2.2.1,(x.2.2.2.2.1,())))),(x.2.2.2.2.2.1,((x.2.2.2.2.2.2.1,(x.2.2.2.2.2.2.2.1,(x.2.2.2.2.2.2.2.2.1,((some (1,x.2.2.2.2.2.2.2.2.2.2.2.2.2.2.1)),(x.2.2.2.2.2.2.2.2.2.1,(x.2.2.2.2.2.2.2.2.2.2.1,((some (2,x.2.2.2.2.2.2.2.2.2.2.2.2.2.2.2.2.1)),()))))))),((some 3),((some 4),((x.2.2.2.2.2.2.2.2.2.2.2.1,0,(1,x.2.2.2.2.2.2.2.2.2.2.2.2.2.2.1),(2,x.2.2.2.2.2.2.2.2.2.2.2.2.2.2.2.2.1)),(x.2.2.2.2.2.2.2.2.2.2.2.2.1,()))))))) [(3,5),(15,6)]),(1,s3 9 .str x.2.2.2.2.2.2.2.2.2.2.2.2.2.1 x.2.2.2.2.2.2.2.2.2.2.2.2.2.2.1),(2,s3 110 rM x.2.2.2.2.2.2.2.2.2.2.2.2.2.2.2.1 x.2.2.2.2.2.2.2.2.2.2.2.2.2.2.2.2.1),(3,.map .str .bool x.2.2.2.2.2.2.2.2.2.2.2.2.2.2.2.2.2.1),(4,.map .str .bool x.2.2.2.2.2.2.2.2.2.2.2.2.2.2.2.2.2.2),(5,.grow 45 7 (x.2.2.2.2.1.length)),(6,.grow 3 1 (x.2.2.2.2.2.2.2.2.2.2.2.2.1.length))],7,55,0⟩) ⟨[0,5,6],[(0,160),(1,166),(2,167),(3,96),(4,163),(5,165)]⟩ pY ?_
 intro x1 w1 n1 d f;rcases x1 with x1|x1
 .obtain⟨Z,hvx⟩: ∃v,v=x1:=⟨_,rfl⟩;subst hvx;unfold a8b at d;dsimp only at d|-;refine qK (q9 uU ?_);refine qQ d ?_ ?_<;>intro d Y
  .refine qU (qI (rT ?_));obtain⟨X,d⟩:=qG d;obtain⟨aA,hv2,hw2,d⟩:=rF d
   try simp only[go_sem] at hw2
   refine q9 uU ?_ (hp:=by exact⟨X,(rC hv2)⟩) (h:=by simp only[go_sem,hw2];rfl);obtain⟨W,V,d⟩:=pD d;refine q9 uU ?_ (hp:=by exact⟨W,V⟩);refine qK ?_;obtain⟨aB,hv5,hw5,d⟩:=rF d
   try simp only[go_sem] at hw5
   refine q9 uU ?_ (hp:=by exact(rC hv5)) (h:=by simp only[go_sem,hw5];rfl);refine qQ d ?_ ?_<;>intro d Y
   .refine qK ?_;by_cases hva3:((DH (([]:pE),(([]:pF),(([]:List qV),(([]:List sP),())))) (0:Int) ([]:pE) ([]:pE) ([]:pE) ([]:pF) (0:Int) (([]:pO),()) aA.1 (min (O.length:Int) ((Z+(aA.1.length:Int))+(1:Int))) (some ([]:pF)) 0 (some ([]:List qV)) 0 ([]:pM))).isSome=true
    .rw[aRZ hva3] at d;obtain⟨aC,hv6,hw6,d⟩:=rF d
     try simp only[go_sem] at hw6
     refine rE aNW ?_ (hp:=by exact⟨pV,pV,pV,pV,pV,pV,pV,pV,pV,pV,(rC hv6)⟩) (h:=by simp only[go_sem,hw6];rfl)
     refine qI (q9 uU ?_);refine qQ d ?_ ?_<;>intro d Y
     .refine q9 uU ?_;refine qM (qY (rU (uE (rU (qY ?_)))));cases d;have e:=aSk some (show _=_ from f);cases e;exact pH []
     refine qU (qI (rE uU ?_));refine rX ?_;cases d;exact sK ⟨⟨[0,5,6],[(0,0),(1,972),(2,973),(3,974),(4,3),(5,4),(6,5)]⟩,_,pY,f⟩
    rw[aR4 hva3] at d;obtain⟨aD,hv7,hw7,d⟩:=rF d
    try simp only[go_sem] at hw7
    refine rE aNY ?_ (hp:=by exact⟨pV,pV,pV,pV,pV,pV,pV,pV,pV,pV,pV,(rC hv7)⟩) (h:=by simp only[go_sem,hw7];rfl)
    refine qI (q9 uU ?_);refine qQ d ?_ ?_<;>intro d Y
    .refine q9 uU ?_;refine qM (qY (rU (uE (rU (qY ?_)))));cases d;have e:=aSk some (show _=_ from f);cases e;exact pH []
    refine qU (qI (rE uU ?_));refine rX ?_;cases d;exact sK ⟨⟨[0,5,6],[(0,0),(1,1),(2,2),(3,3),(4,4),(5,5)]⟩,_,pY,f⟩
   refine qU (qI (rE uU ?_));refine rX ?_;cases d;exact sK ⟨⟨[0,5,6],[(0,0),(1,1),(2,2),(3,3),(4,4),(5,5)]⟩,_,pY,f⟩
  refine sY (sW (sZ (sX (qI (qK ?_)))));refine q9 uU ?_;refine qQ d ?_ ?_<;>intro d Y
  .refine q9 uU ?_;refine qM (qY ?_);cases d;have e:=aSk some (show _=_ from f);cases e;exact pH []
  refine qU (qI (qK (rE uU ?_)));cases d
 obtain⟨aE,aF,aG,aH,aI,aJ,aK,aL,aM,aN,aO,aP,aQ,aR,aS,aT,aU,aV,aW⟩:=x1;unfold a8b at d;dsimp only at d|-;refine qK (q9 uU ?_);refine qQ d ?_ ?_<;>intro d Y
 .refine qU (qI (rT ?_));obtain⟨U,d⟩:=qG d;obtain⟨aX,hv9,hw9,d⟩:=rF d
  try simp only[go_sem] at hw9
  refine q9 uU ?_ (hp:=by exact⟨U,(rC hv9)⟩) (h:=by simp only[go_sem,hw9];rfl);obtain⟨T,S,d⟩:=pD d;refine q9 uU ?_ (hp:=by exact⟨T,S⟩);refine qK ?_;obtain⟨aY,hv12,hw12,d⟩:=rF d
  try simp only[go_sem] at hw12
  refine q9 uU ?_ (hp:=by exact(rC hv12)) (h:=by simp only[go_sem,hw12];rfl);refine qQ d ?_ ?_<;>intro d Y
  .obtain⟨aZ,hv13,hw13,d⟩:=rF d
   try simp only[go_sem] at hw13
   refine q9 uU ?_ (hp:=by exact⟨pV,pV,pV,pV,pV,pV,(rC hv13)⟩) (h:=by simp only[go_sem,hw13];rfl)
   refine q9 uU ?_;refine qQ d ?_ ?_<;>intro d Y
   .refine q9 uU ?_;refine qM (qY (rU (uE (rU (qY ?_)))));cases d;have e:=aSk some (show _=_ from f);cases e;exact pH []
   refine qU (qI (rE uU ?_));refine rX ?_;cases d;exact sK ⟨⟨[0,5,6],[(0,0),(1,974),(2,975),(3,976),(4,4),(5,5),(6,6)]⟩,_,pY,f⟩
  refine qU (qI (rE uU ?_));refine rX ?_;cases d;exact sK ⟨⟨[0,5,6],[(0,0),(1,1),(2,2),(3,3),(4,4),(5,5),(6,6)]⟩,_,pY,f⟩
 refine sY (sW (sZ (sX (qI (qK ?_)))));refine q9 uU ?_;refine qQ d ?_ ?_<;>intro d Y
 .refine q9 uU ?_;refine qM (qY ?_);cases d;have e:=aSk some (show _=_ from f);cases e;exact pH []
 refine qU (qI (qK (rE uU ?_)));cases d
def QK (O:pE):Option (pE×pF×(List qV)×(List sP)×Int×Int):=if ((KB O)).isSome=true then (KB O).bind fun Z=>if (!decide ((0:Int)=(0:Int)))=true then some ((([]:pE),([]:pF),([]:List qV),([]:List sP),(0:Int),(0:Int))) else some ((Z.1,Z.2.1,Z.2.2.1,Z.2.2.2.1,(0:Int),(0:Int))) else (MJ O).bind fun aA=>if (!decide (aA.2=(0:Int)))=true then some ((([]:pE),([]:pF),([]:List qV),([]:List sP),aA.1,aA.2)) else none
section
variable (O:pE)
abbrev a8g:List qC:=[(.val .str O,none)]
abbrev a8h:List qB:=[]
@[go_sem] def a8i:qJ:=let q:=val (QK O);⟨[((QK O)).isSome=true],[(.val vV (q.1,(q.2.1,(q.2.2.1,(q.2.2.2.1,())))),none),(.val (.int .i64) (q.2.2.2.2.1),none),(.val (.int .i64) (q.2.2.2.2.2),none)],[]⟩
def aHm:List qC→List qB→Option qJ:=rL (V:=pE) (a8g) (fun x=>a8h) fun x=>a8i x
@[go_sem] def aRT:aHm (no_index (a8g O)) (no_index a8h)=some (a8i O):=rO (fun a0 b0 h1 h2=>by cases h1;cases h2;rfl) O
end
@[go_sem] abbrev aHn:Nat×r7:=(11,⟨[.v],aHm,[],[],none⟩)
def MK:r5 prog [x7] (r6 [a79]):=⟨⟨xP,trivial⟩,qO aNU rH,r8⟩
def a8j:r5 prog [x7,uH] (r6 [a79]):=⟨⟨xP,⟨uR,trivial⟩⟩,MK.Γ,r8⟩
def aN0:r5 prog [x7] (r6 [aHl]):=⟨⟨xP,trivial⟩,qO aNZ rH,r8⟩
def aN1:rD prog aHn:=by
 refine rP MK func11 (c:=_) rfl (N:=23) pW (ts:=[(2,some 27),(3,none),(4,none)]) rfl (fun _ _=>rfl) ?_;intro O hs hrow;dsimp only[a8g,a8h,a8i,rI,qS,qW,r9,rK,Nat.reduceAdd] at hs hrow|-;have hz:=hs;obtain⟨z0,e⟩:=aRW.1 hz
 try rw[rW e]
 clear hz hs;unfold QK at e;refine q9 MK ?_;refine qK ?_;by_cases hva1:((KB O)).isSome=true
 .rw[aRZ hva1] at e;obtain⟨Z,hv1,hw1,e⟩:=rF e
  try simp only[go_sem] at hw1
  refine rE MK ?_ (hp:=by exact(rC hv1)) (h:=by simp only[go_sem,hw1];rfl);refine qI (qK (q9 a8j ?_));refine qQ e ?_ ?_<;>intro e Y
  .refine q9 a8j ?_;refine qM (qY ?_);cases e;exact pG []
  refine qU (qI (q9 a8j ?_));refine qM ?_;cases e;exact pG []
 rw[aR4 hva1] at e;obtain⟨aA,hv2,hw2,e⟩:=rF e
 try simp only[go_sem] at hw2
 refine rE aN0 ?_ (hp:=by exact(rC hv2)) (h:=by simp only[go_sem,hw2];rfl);refine qI (qK (q9 MK ?_));refine qQ e ?_ ?_<;>intro e Y
 .refine q9 MK ?_;refine qM (qY ?_);cases e;exact pG []
 cases e
attribute [irreducible] MJ QK
end
noncomputable section
def ML:Option Bool:=(QK ([99,97,116,97,108,111,103,32,34,100,101,34,10,99,111,109,109,101,110,116,32,34,97,98,34,10,34,99,100,34,10,101,110,100,10,10,101,110,116,114,121,32,34,97,34,10,101,110,100]:pE)).bind fun O=>if (((((decide (O.2.2.2.2.2=(0:Int)))&&(decide (O.1=([100,101]:pE))))&&(decide ((O.2.1.length:Int)=(1:Int))))==true)=true→0≤(0:Int)∧(0:Int)<(O.2.1.length:Int)) then if (((((((decide (O.2.2.2.2.2=(0:Int)))&&(decide (O.1=([100,101]:pE))))&&(decide ((O.2.1.length:Int)=(1:Int))))&&(decide ((qR .str O.2.1 (0:Int))=([97,98,99,100]:pE))))&&(decide ((O.2.2.2.1.length:Int)=(1:Int))))==true)=true→0≤(0:Int)∧(0:Int)<(O.2.2.2.1.length:Int)) then some (((((((decide (O.2.2.2.2.2=(0:Int)))&&(decide (O.1=([100,101]:pE))))&&(decide ((O.2.1.length:Int)=(1:Int))))&&(decide ((qR .str O.2.1 (0:Int))=([97,98,99,100]:pE))))&&(decide ((O.2.2.2.1.length:Int)=(1:Int))))&&(decide ((qR sM O.2.2.2.1 (0:Int)).1=([97]:pE))))) else none else none
section
abbrev a8k:List qC:=[]
abbrev a8l:List qB:=[]
@[go_sem] def a8m:qJ:=⟨[(ML).isSome=true],[(.val .bool (val ML),none)],[]⟩
def aHo:List qC→List qB→Option qJ:=rL (V:=Unit) (fun x=>a8k) (fun x=>a8l) fun x=>a8m
@[go_sem] def aRU:aHo (no_index a8k) (no_index a8l)=some a8m:=rO (fun _ _ h1 h2=>by cases h1;cases h2;rfl) ()
end
@[go_sem] abbrev aHp:Nat×r7:=(10,⟨[],aHo,[],[],none⟩)
def VH:r5 prog [s8,uM,AQ,x7,A6] (r6 [aHn]):=⟨⟨s9,⟨vA,⟨C3,⟨xP,⟨BF,trivial⟩⟩⟩⟩⟩,qO aN1 rH,r8⟩
def aN2:rD prog aHp:=by
 refine rP VH func10 (c:=_) rfl (N:=43) pW (ts:=[(0,none)]) rfl (fun _ _=>rfl) ?_;intro⟨⟩ hs hrow;dsimp only[a8k,a8l,a8m,rI,qS,qW,r9,rK,Nat.reduceAdd] at hs hrow|-;have hz:=hs;obtain⟨z0,e⟩:=aRW.1 hz
 try rw[rW e]
 clear hz hs;unfold ML at e;refine q9 VH ?_;obtain⟨O,hv1,hw1,e⟩:=rF e
 try simp only[go_sem] at hw1
 refine q9 VH ?_ (hp:=by exact(rC hv1)) (h:=by simp only[go_sem,hw1];rfl);obtain⟨Y,X,e⟩:=pD e;refine q9 VH ?_ (hp:=by exact⟨id,id,sB,id,id,id,sB,id,id,Y,id,id,sB,id,id,id,sB,id,id,X,id,id,id,sB⟩);refine qM ?_;cases e;exact pG []
def KC (O:s7):Option Bool:=ML.bind fun Z=>if (!Z)=true then some (false) else (K0 O).bind fun aA=>if (!aA)=true then some (true) else (HC O).bind fun aB=>(HE O).bind fun aC=>(H9 O).bind fun aD=>(HD O).bind fun aE=>if (((((decide (aB.1=aC.1))&&(decide (aB.2=aC.2)))&&(decide (aD.2.2=aE.2.2)))==true)=true→((GV (aD.1,(aD.2.1,(([]:pE),()))) (aE.1,(aE.2.1,(([]:pE),()))))).isSome=true) then some (((((decide (aB.1=aC.1))&&(decide (aB.2=aC.2)))&&(decide (aD.2.2=aE.2.2)))&&(val (GV (aD.1,(aD.2.1,(([]:pE),()))) (aE.1,(aE.2.1,(([]:pE),()))))))) else none
section
variable (O:s7)
abbrev QL:List qC:=[(.val vV O,none)]
abbrev VI:List qB:=[]
@[go_sem] def MM:qJ:=⟨[((KC O)).isSome=true],[(.val .bool (val (KC O)),none)],[]⟩
def a8n:List qC→List qB→Option qJ:=rL (V:=s7) (QL) (fun x=>VI) fun x=>MM x
@[go_sem] def aN3:a8n (no_index (QL O)) (no_index VI)=some (MM O):=rO (fun a0 b0 h1 h2=>by cases h1;cases h2;rfl) O
end
@[go_sem] abbrev aN4:Nat×r7:=(6,⟨[.v],a8n,[],[],none⟩)
def CM:r5 prog [x7,GB,D7] (r6 [aHp,aFW,aGR,aG7,a7q,a7J,aDl,aFR]):=⟨⟨xP,⟨LO,⟨GC,trivial⟩⟩⟩,qO aN2 (qO aNl (qO aNB (qO aNH (qO aGP (qO aG3 (qO aMC (qO aNj rH))))))),r8⟩
def aN5:rD prog aN4:=by
 refine rP CM func6 (c:=_) rfl (N:=55) pW (ts:=[(2,none)]) rfl (fun _ _=>rfl) ?_;intro O hs hrow;dsimp only[QL,VI,MM,rI,qS,qW,r9,rK,Nat.reduceAdd] at hs hrow|-;have hz:=hs;obtain⟨z0,e⟩:=aRW.1 hz
 try rw[rW e]
 clear hz hs;unfold KC at e;refine q9 CM ?_;refine qK ?_;obtain⟨Z,hv1,hw1,e⟩:=rF e
 try simp only[go_sem] at hw1
 refine q9 CM ?_ (hp:=by exact(rC hv1)) (h:=by simp only[go_sem,hw1];rfl);refine qQ e ?_ ?_<;>intro e Y
 .refine q9 CM ?_;refine qM (qY ?_);cases e;exact pG []
 refine qU (qI (qK ?_));obtain⟨aA,hv2,hw2,e⟩:=rF e
 try simp only[go_sem] at hw2
 refine q9 CM ?_ (hp:=by exact(rC hv2)) (h:=by simp only[go_sem,hw2];rfl);refine qQ e ?_ ?_<;>intro e Y
 .refine q9 CM ?_;refine qM (qY ?_);cases e;exact pG []
 refine qU (qI ?_);obtain⟨aB,hv3,hw3,e⟩:=rF e
 try simp only[go_sem] at hw3
 refine q9 CM ?_ (hp:=by exact(rC hv3)) (h:=by simp only[go_sem,hw3];rfl);obtain⟨aC,hv4,hw4,e⟩:=rF e
 try simp only[go_sem] at hw4
 refine q9 CM ?_ (hp:=by exact(rC hv4)) (h:=by simp only[go_sem,hw4];rfl);obtain⟨aD,hv5,hw5,e⟩:=rF e
 try simp only[go_sem] at hw5
 refine q9 CM ?_ (hp:=by exact(rC hv5)) (h:=by simp only[go_sem,hw5];rfl);obtain⟨aE,hv6,hw6,e⟩:=rF e
 try simp only[go_sem] at hw6
 refine q9 CM ?_ (hp:=by exact(rC hv6)) (h:=by simp only[go_sem,hw6];rfl);obtain⟨X,e⟩:=qG e;refine v6 CM ?_ (hp:=by exact⟨id,id,sB,id,id,sB,id,id,id,X,sB⟩);refine qM ?_;cases e;exact pG []
attribute [irreducible] ML KC
end
end Go.Proofs.YtcpbaddnmpeipaaGreatDoor
namespace Go.Proofs.YtcpbaddnmpeipaaGreatDoor
open Vc
end Go.Proofs.YtcpbaddnmpeipaaGreatDoor
section
end
namespace Go.Proofs.YtcpbaddnmpeipaaGreatDoor
open Vc
def F6 {σ ρ:Type}(f:σ→Option (σ⊕ρ)) (x:σ):s5 f x=(f x).bind fun w=>match w with
    | .inl y=>s5 f y
    | .inr r=>some r:=by
  cases h:f x with
  | none=>
    cases h2:s5 f x with
    |none=>rfl
    | some r=>
      obtain⟨n,hn⟩:=TY h2;cases n with
      |zero=>cases hn
      |succ n=>unfold iter at hn;rw[h] at hn;cases hn
  | some w=>
    cases w with
    |inl y=>exact G5 h
    |inr r=>exact zB h
def KD {t:Ty}{l:List t.den}{i:Nat}(h:i<l.length):qR t l (i:Int)=l[i]:=by
  unfold qR;rw[aSP,aSo,aR3 h];rfl
def VJ {l:pE}{i:Nat}(h:i<l.length):rY l (i:Int)=(l[i].toNat:Int):=by
  unfold rY;rw[aSP,aSo,aR3 h];rfl
def BL {β:Type}(f:Nat→β) (b:β):pR→β
  |some k=>f k
  |none=>b
def a8o {α ρ:Type}{f:Int→Option (Int⊕(Unit⊕ρ))}{l:List α}(p:α→Bool) (g:Nat→ρ)
    (hf: ∀(i:Nat) (h:i<l.length),f i=if p l[i]=true then some (.inr (.inr (g i))) else some (.inl (i+1)))
    (he:f l.length=some (.inr (.inl ()))): ∀(n j:Nat),j+n=l.length→s5 f j=some (BL (fun k=> .inr (g (j+k))) (.inl ()) ((l.drop j).findIdx? p))
  | 0,j,hj=>by
    have:j=l.length:=by omega
    subst this;rw[aTb,F6,he];rfl
  | n+1,j,hj=>by
    have hlt:j<l.length:=by omega
    rw[F6,hf j hlt,aSC hlt,aTN];by_cases hp:p l[j]=true
    · rw[aRZ hp,aRZ hp]
      rfl
    rw[aR4 hp,aR4 hp]
    show s5 f ((j:Int)+1)=_;have:=a8o p g hf he n (j+1) pI;rw[show ((j:Int)+1)=((j+1:Nat):Int) by omega,this];cases(l.drop (j+1)).findIdx? p with
    |none=>rfl
    | some k=>
      show some (Sum.inr (g (j+1+k)))=some (Sum.inr (g (j+(k+1))));rw[show j+1+k=j+(k+1) by omega]
def QM {α ρ:Type}{f:Int→Option (Int⊕(Unit⊕ρ))}{l:List α}(p:α→Bool) (g:Nat→ρ)
    (hf: ∀(i:Nat) (h:i<l.length),f i=if p l[i]=true then some (.inr (.inr (g i))) else some (.inl (i+1)))
    (he:f l.length=some (.inr (.inl ()))):s5 f 0=some (BL (fun k=> .inr (g k)) (.inl ()) (l.findIdx? p)):=by
  have:=a8o p g hf he l.length 0 pI;simpa using this
def aHq {s:pE}{i:Nat}(h:i<s.length) (ha:s[i].toNat<128):w7 s i=(s[i].toNat:Int)∧z6 s i=i+1:=by
  have h1:=Lib.decodeL_drop ⟨s.toArray⟩ i
  have h2:(⟨s.toArray⟩:ByteArray).data.toList.drop i=s[i]::s.drop (i+1):=by
    show s.drop i=_;rw[aSC h]
  rw[h2,Lib.decodeL_ascii _ _ ha] at h1;unfold w7 z6 XO;rw[←h1,aRZ h];exact⟨rfl,rfl⟩
def aN6 {n b0 b1 b2 b3:Nat}(h:128≤b0):128≤(Lib.decodeN n b0 b1 b2 b3).1:=by
  unfold Lib.decodeN
  repeat' split
  all_goals first|omega|(dsimp only;omega)
def aHr {s:pE}{i:Nat}(h:i<s.length) (ha:128≤s[i].toNat):128≤w7 s i:=by
  unfold w7;rw[Lib.decode_at]
  have:(⟨s.toArray⟩:ByteArray).get! i=s[i]:=by
    show s.toArray[i]! =_;simp [h]
  rw[this];exact Int.ofNat_le.2 (aN6 ha)
def aHs {ρ:Type}{f:Nat→Option (Nat⊕(Unit⊕ρ))}{s:pE}(p:Int→Bool) (g:Nat→ρ) (hb: ∀c,128≤c→p c=true)
    (hf: ∀(i:Nat) (h:i<s.length),f i=if p (w7 s i)=true then some (.inr (.inr (g i))) else some (.inl (z6 s i)))
    (he:f s.length=some (.inr (.inl ()))): ∀(n j:Nat),j+n=s.length→s5 f j=some (BL (fun k=> .inr (g (j+k))) (.inl ()) ((s.drop j).findIdx? (fun b=>p b.toNat)))
  | 0,j,hj=>by
    have:j=s.length:=by omega
    subst this;rw[aTb,F6,he];rfl
  | n+1,j,hj=>by
    have hlt:j<s.length:=by omega
    rw[F6,hf j hlt,aSC hlt,aTN];by_cases ha:s[j].toNat<128
    · obtain⟨e1,e2⟩:=aHq hlt ha
      rw[e1,e2];by_cases hp:p (s[j].toNat:Int)=true
      · rw[aRZ hp,aRZ hp]
        rfl
      rw[aR4 hp,aR4 hp]
      show s5 f (j+1)=_;rw[aHs p g hb hf he n (j+1) pI];cases(s.drop (j+1)).findIdx? (fun b=>p b.toNat) with
      |none=>rfl
      | some k=>
        show some (Sum.inr (g (j+1+k)))=some (Sum.inr (g (j+(k+1))));rw[show j+1+k=j+(k+1) by omega]
    rw[aRZ (hb _ (aHr hlt pI)),aRZ (hb _ pI)]
    rfl
def aN7 {ρ:Type}{f:Nat→Option (Nat⊕(Unit⊕ρ))}{s:pE}(p:Int→Bool) (g:Nat→ρ) (hb: ∀c,128≤c→p c=true)
    (hf: ∀(i:Nat) (h:i<s.length),f i=if p (w7 s i)=true then some (.inr (.inr (g i))) else some (.inl (z6 s i)))
    (he:f s.length=some (.inr (.inl ()))):s5 f 0=some (BL (fun k=> .inr (g k)) (.inl ()) (s.findIdx? (fun b=>p b.toNat))):=by
  have:=aHs p g hb hf he s.length 0 pI;simpa using this
def sO {α:Type}(l:List α):Prop:=l.length≤4000000000
def vB {i:Nat}(h:i≤4000000000):qD ((i:Int)+1):=by unfold qD;omega
def tH {i n:Nat}(h:i<n):0≤(i:Int)∧(i:Int)<(n:Int):=⟨pI,pI⟩
def vS {i n:Nat}(h:i<n):decide ((i:Int)<(n:Int))=true:=by simpa using h
def w4 (n:Nat): ¬decide ((n:Int)<(n:Int))=true:=by simp
def aHt {α:Type}{p:α→Bool}: ∀{l:List α},(l.findIdx? p).isSome=l.any p
  |[]=>rfl
  | x::l=>by
    rw[aTN,List.any_cons];cases p x with
    |true=>rfl
    |false=>simp [aHt (l:=l)]
def MN {α β:Type}{p:α→Bool}{l:List α}{f:Nat→β}{b:β}:BL f b (l.findIdx? p)=if l.any p=true then f ((l.findIdx? p).getD 0) else b:=by
  rw[←aHt];cases l.findIdx? p with
  |none=>rfl
  |some k=>rfl
def MO (c:Int):Bool:=(((!((decide ((97:Int)≤c))&&(decide (c≤(122:Int)))))&&(!((decide ((48:Int)≤c))&&(decide (c≤(57:Int))))))&&(!decide (c=(45:Int))))&&((decide (c<(65:Int)))||(decide ((90:Int)<c)))
def F7 (s:pE):Bool:= !(s.any fun b=>MO b.toNat)&&((decide ((1:Int)≤(s.length:Int)))&&(decide ((s.length:Int)≤(40:Int))))
def VK (c:Int):Bool:=((((decide (c<(97:Int)))||(decide ((122:Int)<c)))&&((decide (c<(65:Int)))||(decide ((90:Int)<c))))&&((decide (c<(48:Int)))||(decide ((57:Int)<c))))&&(!decide (c=(45:Int)))
def aN8 (c:Int):VK c=MO c:=by
  unfold VK MO;rw[aTm];simp;omega
def aN9 (s:pE):AW s=some (F7 s):=by
  have h:=aN7 (f:=OX s) (s:=s) (fun c=>VK c) (fun _=>false) (fun c h=>by unfold VK;simp;omega) (fun i h=>by
    unfold OX;rw[aRZ (by simpa using h),aRZ (by simpa using h)];rfl) (by
    unfold OX;rw[aR4 pK])
  unfold AW;rw[h,MN];simp only[aN8];unfold F7;cases s.any fun b=>MO b.toNat<;>rfl
def yS (c:Int):Bool:=((((!((decide ((97:Int)≤c))&&(decide (c≤(122:Int)))))&&(!((decide ((48:Int)≤c))&&(decide (c≤(57:Int))))))&&(!decide (c=(45:Int))))&&(!decide (c=(95:Int))))&&(!decide (c=(46:Int)))
def yT (c:Int):Bool:=(decide ((97:Int)≤c))&&(decide (c≤(122:Int)))
def HF:pE→Bool
  |[]=>false
  |b::t=>(!decide (40<t.length+1)&&yT b.toNat)&& !(t.any fun b=>yS b.toNat)
def aHu (s:pE): ∀(n j:Nat),j+n=s.length→s5 (LR s) j=some (if (s.drop j).any (fun b=>yS b.toNat)=true∨(j=0∧s≠[]∧yT (s.getD 0 0).toNat=false) then .inr false else .inl ())
  | 0,j,hj=>by
    have:j=s.length:=by omega
    subst this;rw[aTb,F6];unfold LR;rw[aR4 pK];by_cases h0:s=[]
    .subst h0;simp
    · have:s.length≠0:=by simpa using h0
      simp [this]
  | n+1,j,hj=>by
    have hlt:j<s.length:=by omega
    have ih:=aHu s n (j+1) pI;rw[F6,aSC hlt,List.any_cons]
    have hstep:LR s j=if (yS (s[j].toNat:Int)=true∨(j=0∧yT (s[j].toNat:Int)=false)) then some (.inr (.inr false)) else some (.inl (j+1)):=by
      unfold LR;rw[aRZ (by simpa using hlt),aRZ (by simpa using hlt),aRZ (by simpa using hlt)];by_cases ha:s[j].toNat<128
      · obtain⟨e1,e2⟩:=aHq hlt ha
        rw[e1,e2];by_cases h1:yT (s[j].toNat:Int)=true
        · rw[aRZ (by unfold yT at h1;exact h1),aR4]
          unfold yT at h1;simp only[aSj,aSi] at h1;simp [yS,yT];omega
        have h1':yT (s[j].toNat:Int)=false:=by simpa using h1
        rw[aR4 (by unfold yT at h1;exact h1)]
        have h2: ¬(97≤(s[j].toNat:Int)∧(s[j].toNat:Int)≤122):=by
          unfold yT at h1;simpa using h1
        by_cases h3:yS (s[j].toNat:Int)=true∨j=0
        · rw[aR4,aRZ]
          · rcases h3 with h3|h3
            .exact .inl h3
            exact .inr ⟨h3,h1'⟩
          simp [yS] at h3|-
          omega
        rw[aRZ,aR4]
        · intro h
          rcases h with h|⟨h,_⟩
          .exact h3 (.inl h)
          exact h3 (.inr h)
        simp [yS] at h3|-
        omega
      have hb:=aHr hlt pI
      rw[aR4 pL,aR4 pL,aRZ (.inl (by simp [yS];omega))]
    rw[hstep];have hd:s.getD 0 0=s[0]'pI:=by simp [aSo,aR3 (show 0<s.length by omega)]
    have hne:s≠[]:=by intro h;subst h;simp at hlt
    by_cases hp:yS (s[j].toNat:Int)=true∨(j=0∧yT (s[j].toNat:Int)=false)
    · rw[aRZ hp,aRZ]
      .rfl
      rcases hp with hp|⟨rfl,hp⟩
      .left;simp [hp]
      right;exact⟨rfl,hne,by rw[hd];exact hp⟩
    rw[aR4 hp]
    show s5 _ (j+1)=_;rw[ih]
    have hnb:yS (s[j].toNat:Int)=false:=by
      cases h:yS (s[j].toNat:Int) with
      |true=>exact absurd (.inl h) hp
      |false=>rfl
    simp only[hnb,Bool.false_or];congr 2;apply propext;constructor
    · rintro(h|⟨h,_⟩)
      .exact .inl h
      omega
    rintro(h|⟨rfl,_,h⟩)
    .exact .inl h
    rw[hd] at h
    exact absurd (.inr ⟨rfl,h⟩) hp
def aHv (s:pE):AX s=some (HF s):=by
  have h:=aHu s s.length 0 pI;unfold AX;rw[h,aTx];cases s with
  |nil=>simp [HF,tO]
  | cons b t=>
    simp only[List.any_cons,List.getD_cons_zero,ne_eq,reduceCtorEq,not_false_eq_true,true_and,HF];cases hs:yT b.toNat with
    |false=>simp [tO]
    | true=>
      have hn:yS b.toNat=false:=by
        unfold yT at hs;simp only[aSj,aSi] at hs;simp [yS];omega
      simp only[hn,Bool.false_or];cases t.any (fun b=>yS b.toNat) with
      |true=>simp [tO]
      | false=>
        simp only[aTq,false_or,and_false,aTK];show some (decide ((1:Int)≤((b::t).length:Int))&&decide (((b::t).length:Int)≤40))=_;congr 1;rw[aTm];simp only[aR1,aSj,aSi,aSE,aTd,Bool.not_false,and_true];omega
def aHw {β:Type}{f:Nat→β}{b:β}{o:pR}:tO (some (BL (fun k=> .inr (f k)) (.inl ()) o)) (fun _=>some b)=some (BL f b o):=by
  cases o<;>rfl
def aOa {α:Type}{p:α→Bool}{l:List α}:decide ((0:Int)≤BL (fun k=>(k:Int)) (-1) (l.findIdx? p))=l.any p:=by
  rw[MN];cases l.any p
  .rfl
  simp only[aTf,aSi];omega
def BM:pF:=[[110,101,119],[102,117,122,122,121],[116,114,97,110,115,108,97,116,101,100],[114,101,118,105,101,119,101,100],[111,98,115,111,108,101,116,101]]
abbrev wH:=pE×pE×Unit
def aOb {α:Type}{l:List α}{k:Nat}:sH l 0 (k:Int)=l.take k:=by unfold sH;simp
def aOc {α:Type}{l:List α}{k:Nat}:sH l (k:Int) (l.length:Int)=l.drop k:=by
  unfold sH;rw[aSP,aSP,List.take_of_length_le];rw[aS1];exact aSl _
def B6 (n:Int):Prop:=0≤n∧n≤1114111∧(n<55296∨57343<n)
def HG (n:Int):Bool:=(((decide ((0:Int)≤n))&&(decide (n≤(1114111:Int))))&&((decide (n<(55296:Int)))||(decide ((57343:Int)<n))))
def KE (n:Int):HG n=true↔B6 n:=by
  unfold HG B6;simp;omega
def VL {n:Int}(h0:0≤n) (h1:n≤127):Lib.encodeRune n=sV [n]:=by
  unfold Lib.encodeRune;rw[Lib.encodeRuneZ_one h0 h1];rfl
def VM {n:Int}(h0:128≤n) (h1:n≤2047):Lib.encodeRune n=sV [192+n/64,128+n%64]:=by
  unfold Lib.encodeRune;rw[Lib.encodeRuneZ_two h0 h1];rfl
def a8p {n:Int}(h:(2048≤n∧n<55296)∨(57343<n∧n≤65535)):Lib.encodeRune n=sV [224+n/4096,128+n/64%64,128+n%64]:=by
  unfold Lib.encodeRune;rw[Lib.encodeRuneZ_three h];rfl
def aHx {n:Int}(h0:65536≤n) (h1:n≤1114111):Lib.encodeRune n=sV [240+n/262144,128+n/4096%64,128+n/64%64,128+n%64]:=by
  unfold Lib.encodeRune;rw[Lib.encodeRuneZ_four h0 h1];rfl
def aHy {n:Int}(h:B6 n):BH n=some (Lib.encodeRune n):=by
  obtain⟨h0,h1,hs⟩:=h;have w1:IntKind.i64.wrap (n/64)=n/64:=by rw[aTA];omega
  have w2:IntKind.i64.wrap (n/4096)=n/4096:=by rw[aTA];omega
  have w3:IntKind.i64.wrap (n/262144)=n/262144:=by rw[aTA];omega
  have m1:Int.tmod n 64=n%64:=aTw h0;have m2:Int.tmod (n/64) 64=n/64%64:=aTw pI;have m3:Int.tmod (n/4096) 64=n/4096%64:=aTw pI;unfold BH;simp only[Int.tdiv_eq_ediv_of_nonneg h0,w1,w2,w3,m1,m2,m3,IntKind.wrap_u8];by_cases c1:n<128
  .rw[aRZ (by simpa using c1),VL h0 pI,show n%256=n by omega]
  rw[aR4 (by simpa using c1)]
  by_cases c2:n<2048
  .rw[aRZ (by simpa using c2),aRZ (by unfold qD;omega),aRZ (by unfold qD;omega),VM pI pI,show (192+n/64) %256=192+n/64 by omega,show (128+n%64) %256=128+n%64 by omega]
  rw[aR4 (by simpa using c2)]
  by_cases c3:n<65536
  .rw[aRZ (by simpa using c3),aRZ (by unfold qD;omega),aRZ (by unfold qD;omega),aRZ (by unfold qD;omega),a8p pI,show (224+n/4096) %256=224+n/4096 by omega,show (128+n/64%64) %256=128+n/64%64 by omega,show (128+n%64) %256=128+n%64 by omega]
  rw[aR4 (by simpa using c3),aRZ (by unfold qD;omega),aRZ (by unfold qD;omega),aRZ (by unfold qD;omega),aRZ (by unfold qD;omega),aHx pI pI,show (240+n/262144) %256=240+n/262144 by omega,show (128+n/4096%64) %256=128+n/4096%64 by omega,show (128+n/64%64) %256=128+n/64%64 by omega,show (128+n%64) %256=128+n%64 by omega]
def aOd (n:Int):(Lib.encodeRuneZ n).length≤4:=by
  unfold Lib.encodeRuneZ
  repeat' split
  all_goals simp
def aHz {l:pE}{i:Nat}(h:i<l.length):rY l (i:Int)=((l.getD i 0).toNat:Int):=by
  rw[VJ h,aSo,aR3 h];rfl
def aOe {s:pE}{x n:Int}{i:Nat}(h:i<s.length) (hn:(i:Int)<n) (hx:0≤x) (hx1:x≤1000000) (hi:i≤10):C9 s n (x,(i:Int))=
    if (s.getD i 0).toNat/64=2 then some (.inl (64*x+(s.getD i 0).toNat-128,((i+1:Nat):Int))) else some (.inr (.inr (65533,1))):=by
  have hb:=(s.getD i 0).toNat_lt;have hy:=aHz h;generalize (s.getD i 0).toNat=B at hb hy|-;unfold C9;dsimp only;rw[aRZ (by simpa using hn),aRZ (tH h),aRZ (fun _=>tH h),hy];by_cases hc:B/64=2
  · rw[aR4 pL,aRZ hc,aRZ (by unfold qD;omega),aRZ (tH h),show IntKind.i64.wrap (B:Int)=(B:Int) by rw[aTA];omega,
      aRZ (by unfold qD;omega),aRZ (by unfold qD;omega),aRZ (by unfold qD;omega)]
    rfl
  rw[aRZ pL,aR4 hc]
def a8q {s:pE}{x n i:Int}(h:n≤i):C9 s n (x,i)=some (.inr (.inl x)):=by
  unfold C9;dsimp only;rw[aR4 (by simpa using h)]
def tI (s:pE) (i:Nat):Bool:=decide ((s.getD i 0).toNat/64=2)
def x9 (s:pE) (i:Nat) (x:Int):Int:=64*x+(s.getD i 0).toNat-128
def a8r {s:pE}{i:Nat}{x m:Int}(h0:0≤x) (hm:x≤m) (hc:tI s i=true):0≤x9 s i x∧x9 s i x≤64*m+63:=by
  have hb:=(s.getD i 0).toNat_lt;unfold tI at hc;unfold x9;simp only[aSi] at hc;omega
def MP {s:pE}{x n:Int}{i:Nat}(h:i<s.length) (hn:(i:Int)<n) (hx:0≤x) (hx1:x≤1000000) (hi:i≤10):
    s5 (C9 s n) (x,(i:Int))=if tI s i=true then s5 (C9 s n) (x9 s i x,((i+1:Nat):Int)) else some (.inr (65533,1)):=by
  rw[F6,aOe h hn hx hx1 hi];unfold tI x9;simp only[aSi];by_cases hc:(s.getD i 0).toNat/64=2
  .rw[aRZ hc,aRZ hc];rfl
  rw[aR4 hc,aR4 hc];rfl
def aOf {s:pE}{x:Int}(h:1<s.length) (hx:0≤x) (hx1:x≤31):s5 (C9 s 2) (x,1)=some (if tI s 1=true then .inl (x9 s 1 x) else .inr (65533,1)):=by
  show s5 _ (x,((1:Nat):Int))=_;rw[MP h pJ hx pI pJ];by_cases c1:tI s 1=true
  .rw[aRZ c1,aRZ c1,zB (a8q pJ)]
  rw[aR4 c1,aR4 c1]
def aOg {s:pE}{x:Int}(h:2<s.length) (hx:0≤x) (hx1:x≤15):s5 (C9 s 3) (x,1)=some (if (tI s 1&&tI s 2)=true then .inl (x9 s 2 (x9 s 1 x)) else .inr (65533,1)):=by
  show s5 _ (x,((1:Nat):Int))=_;rw[MP pI pJ hx pI pJ];by_cases c1:tI s 1=true
  · have b1:=a8r hx hx1 c1
    rw[aRZ c1,MP h pJ b1.1 pI pJ,c1,Bool.true_and];by_cases c2:tI s 2=true
    .rw[aRZ c2,aRZ c2,zB (a8q pJ)]
    rw[aR4 c2,aR4 c2]
  rw[aR4 c1,aR4 (by simp [c1])]
def aOh {s:pE}{x:Int}(h:3<s.length) (hx:0≤x) (hx1:x≤7):s5 (C9 s 4) (x,1)=some (if (tI s 1&&tI s 2&&tI s 3)=true then .inl (x9 s 3 (x9 s 2 (x9 s 1 x))) else .inr (65533,1)):=by
  show s5 _ (x,((1:Nat):Int))=_;rw[MP pI pJ hx pI pJ];by_cases c1:tI s 1=true
  · have b1:=a8r hx hx1 c1
    rw[aRZ c1,MP pI pJ b1.1 pI pJ,c1,Bool.true_and];by_cases c2:tI s 2=true
    · have b2:=a8r b1.1 b1.2 c2
      rw[aRZ c2,MP h pJ b2.1 pI pJ,c2,Bool.true_and];by_cases c3:tI s 3=true
      .rw[aRZ c3,aRZ c3,zB (a8q pJ)]
      rw[aR4 c3,aR4 c3]
    rw[aR4 c2,aR4 (by simp [c2])]
  rw[aR4 c1,aR4 (by simp [c1])]
def uI (s:pE) (x:Int) (n:Nat):Int×Int:=if HG x=true∧Lib.encodeRune x=s.take n then(x,n) else(65533,1)
def a8s {s:pE}{x:Int}{n:Nat}(hn:n≤s.length):
    (if (((!(((decide ((0:Int)≤x))&&(decide (x≤(1114111:Int))))&&((decide (x<(55296:Int)))||(decide ((57343:Int)<x)))))==false)=true→((BH x)).isSome=true) then
    if (((!(((decide ((0:Int)≤x))&&(decide (x≤(1114111:Int))))&&((decide (x<(55296:Int)))||(decide ((57343:Int)<x)))))==false)=true→0≤(0:Int)∧(0:Int)≤(n:Int)∧(n:Int)≤(s.length:Int)) then
     if ((!(((decide ((0:Int)≤x))&&(decide (x≤(1114111:Int))))&&((decide (x<(55296:Int)))||(decide ((57343:Int)<x)))))||(!decide ((val (BH x))=(sH s (0:Int) (n:Int)))))=true then
      some (((65533:Int),(1:Int)))
     else
      some ((x,(n:Int)))
    else none
   else none)=some (uI s x n):=by
  rw[aOb];simp only[show (((decide ((0:Int)≤x))&&(decide (x≤(1114111:Int))))&&((decide (x<(55296:Int)))||(decide ((57343:Int)<x))))=HG x from rfl]
  unfold uI;by_cases hs:HG x=true
  · have ho:=aHy ((KE x).1 hs)
    rw[aRZ (fun _=>by rw[ho];rfl),aRZ (fun _=>⟨aTC _,pI,pI⟩),ho,hs];by_cases he:Lib.encodeRune x=s.take n
    .rw[aR4 (by simp [val,he]),aRZ ⟨rfl,he⟩]
    rw[aRZ (by simp [val,he]),aR4 (fun h=>he h.2)]
  have hs':HG x=false:=by simpa using hs
  rw[aRZ (fun h=>by simp [hs'] at h),aRZ (fun h=>by simp [hs'] at h),aRZ (by simp [hs']),aR4 (fun h=>hs h.1)]
def F8 (z:Int) (l:pO) (x:UInt8) (h:z=(x.toNat:Int)):sV (z::l)=x::sV l:=by
  show UInt8.ofNat z.toNat::sV l=_;rw[h];simp
def a8t:sV []=[]:=rfl
def MQ (l:pO):(sV l).length=l.length:=by simp [sV]
def aOi {s:pE}(hl:1<s.length) (h0:192≤(s.getD 0 0).toNat) (h0':(s.getD 0 0).toNat<224) (hc:tI s 1=true):
    uI s (x9 s 1 ((s.getD 0 0).toNat-192)) 2=(((Lib.decodeL s).1:Int),((Lib.decodeL s).2:Int)):=by
  unfold tI at hc;simp only[aSi] at hc;have k0:=(s.getD 0 0).toNat_lt;have k1:=(s.getD 1 0).toNat_lt
  have hd:Lib.decodeL s=if (s.getD 0 0).toNat%32*64+(s.getD 1 0).toNat%64≥128 then((s.getD 0 0).toNat%32*64+(s.getD 1 0).toNat%64,2) else(65533,1):=by
    rw[Lib.decodeL_N];unfold Lib.decodeN;rw[aR4 pI,aRZ ⟨pI,pI,hc⟩]
  rw[hd];unfold uI x9;rw[Lib.takeB s hl];have hx:HG (64*((s.getD 0 0).toNat-192)+(s.getD 1 0).toNat-128)=true:=(KE _).2 (by unfold B6;omega);rw[hx];by_cases hv:(s.getD 0 0).toNat%32*64+(s.getD 1 0).toNat%64≥128
  · rw[aRZ hv,aRZ ⟨rfl,by
      rw[VM pI pI,F8 _ _ (s.getD 0 0) pI,F8 _ _ (s.getD 1 0) pI,a8t]⟩]
    exact Prod.ext (by show _=(((_:Nat)):Int);omega) rfl
  rw[aR4 hv,aR4 (fun h=>by
    have h2:=aSk List.length h.2;rw[VL pI pI,MQ] at h2;simp at h2)]
  rfl
def aOj {s:pE}(hl:2<s.length) (h0:224≤(s.getD 0 0).toNat) (h0':(s.getD 0 0).toNat<240) (hc:tI s 1=true) (hc2:tI s 2=true):
    uI s (x9 s 2 (x9 s 1 ((s.getD 0 0).toNat-224))) 3=(((Lib.decodeL s).1:Int),((Lib.decodeL s).2:Int)):=by
  unfold tI at hc hc2;simp only[aSi] at hc hc2;have k0:=(s.getD 0 0).toNat_lt;have k1:=(s.getD 1 0).toNat_lt;have k2:=(s.getD 2 0).toNat_lt;obtain⟨V,hV⟩: ∃V,(s.getD 0 0).toNat%16*4096+(s.getD 1 0).toNat%64*64+(s.getD 2 0).toNat%64=V:=⟨_,rfl⟩
  have hd:Lib.decodeL s=if V≥2048∧(V<55296∨(57344≤V∧V≤1114111)) then(V,3) else(65533,1):=by
    rw[Lib.decodeL_N];unfold Lib.decodeN;rw[aR4 pI,aR4 pI,aRZ ⟨pI,⟨pI,hc⟩,pI,hc2⟩,hV]
  rw[hd];unfold uI x9;rw[Lib.takeC s hl];generalize hX:64*(64*(((s.getD 0 0).toNat:Int)-224)+(s.getD 1 0).toNat-128)+(s.getD 2 0).toNat-128=X;have hXV:X=(V:Int):=by omega
  by_cases hv:V≥2048∧(V<55296∨(57344≤V∧V≤1114111))
  · rw[aRZ hv,aRZ ⟨(KE _).2 (by unfold B6;omega),by
      rw[a8p pI,F8 _ _ (s.getD 0 0) pI,F8 _ _ (s.getD 1 0) pI,F8 _ _ (s.getD 2 0) pI,a8t]⟩]
    exact Prod.ext hXV rfl
  rw[aR4 hv,aR4 (fun h=>by
    have hs:=(KE _).1 h.1;unfold B6 at hs;have hlt:X<2048:=by omega
    have h2:=aSk List.length h.2;by_cases h7:X≤127
    .rw[VL pI h7,MQ] at h2;simp at h2
    rw[VM pI pI,MQ] at h2;simp at h2)]
  rfl
def aOk {s:pE}(hl:3<s.length) (h0:240≤(s.getD 0 0).toNat) (h0':(s.getD 0 0).toNat<248) (hc:tI s 1=true) (hc2:tI s 2=true) (hc3:tI s 3=true):
    uI s (x9 s 3 (x9 s 2 (x9 s 1 ((s.getD 0 0).toNat-240)))) 4=(((Lib.decodeL s).1:Int),((Lib.decodeL s).2:Int)):=by
  unfold tI at hc hc2 hc3;simp only[aSi] at hc hc2 hc3;have k0:=(s.getD 0 0).toNat_lt;have k1:=(s.getD 1 0).toNat_lt;have k2:=(s.getD 2 0).toNat_lt;have k3:=(s.getD 3 0).toNat_lt;obtain⟨V,hV⟩: ∃V,(s.getD 0 0).toNat%8*262144+(s.getD 1 0).toNat%64*4096+(s.getD 2 0).toNat%64*64+(s.getD 3 0).toNat%64=V:=⟨_,rfl⟩
  have hd:Lib.decodeL s=if V≥65536∧(V<55296∨(57344≤V∧V≤1114111)) then(V,4) else(65533,1):=by
    rw[Lib.decodeL_N];unfold Lib.decodeN;rw[aR4 pI,aR4 pI,aR4 pI,aRZ ⟨pI,⟨pI,hc⟩,⟨pI,hc2⟩,pI,hc3⟩,hV]
  rw[hd];unfold uI x9;rw[Lib.takeD s hl];generalize hX:64*(64*(64*(((s.getD 0 0).toNat:Int)-240)+(s.getD 1 0).toNat-128)+(s.getD 2 0).toNat-128)+(s.getD 3 0).toNat-128=X;have hXV:X=(V:Int):=by omega
  by_cases hv:V≥65536∧(V<55296∨(57344≤V∧V≤1114111))
  · rw[aRZ hv,aRZ ⟨(KE _).2 (by unfold B6;omega),by
      rw[aHx pI pI,F8 _ _ (s.getD 0 0) pI,F8 _ _ (s.getD 1 0) pI,F8 _ _ (s.getD 2 0) pI,F8 _ _ (s.getD 3 0) pI,a8t]⟩]
    exact Prod.ext hXV rfl
  rw[aR4 hv,aR4 (fun h=>by
    have hs:=(KE _).1 h.1;unfold B6 at hs;have hlt:X<65536:=by omega
    have h2:=aSk List.length h.2;by_cases h7:X≤127
    .rw[VL pI h7,MQ] at h2;simp at h2
    by_cases h8:X≤2047
    .rw[VM pI pI,MQ] at h2;simp at h2
    rw[a8p pI,MQ] at h2;simp at h2)]
  rfl
def KF {s:pE}(h: ¬(s.getD 0 0).toNat<128) (h2: ¬((s.getD 0 0).toNat/32=6∧1<s.length∧tI s 1=true)) (h3: ¬((s.getD 0 0).toNat/16=14∧2<s.length∧(tI s 1&&tI s 2)=true))
    (h4: ¬((s.getD 0 0).toNat/8=30∧3<s.length∧(tI s 1&&tI s 2&&tI s 3)=true)):Lib.decodeL s=(65533,1):=by
  unfold tI at h2 h3 h4;simp only[aSj,aSi] at h2 h3 h4;rw[Lib.decodeL_N];unfold Lib.decodeN;rw[aR4 h,aR4 (fun⟨a,b,c⟩=>h2 ⟨a,b,c⟩),aR4 (fun⟨a,⟨b,c⟩,d,e⟩=>h3 ⟨a,d,c,e⟩),aR4 (fun⟨a,⟨b,c⟩,⟨d,e⟩,f,g⟩=>h4 ⟨a,f,⟨c,e⟩,g⟩)]
def aOl {s:pE}(hne:s≠[]):GJ s=some (((Lib.decodeL s).1:Int),((Lib.decodeL s).2:Int)):=by
  have hl:0<s.length:=aTB.2 hne;have hy:rY s 0=((s.getD 0 0).toNat:Int):=aHz (i:=0) hl;have k0:=(s.getD 0 0).toNat_lt;have hw:IntKind.i64.wrap ((s.getD 0 0).toNat:Int)=((s.getD 0 0).toNat:Int):=by rw[aTA];omega
  unfold GJ;rw[aRZ ⟨aTC _,pI⟩,hy,hw];by_cases c1:(s.getD 0 0).toNat<128
  · rw[aRZ (by simp only[aSi];omega)]
    rw[Lib.decodeL_N];unfold Lib.decodeN;rw[aRZ c1];rfl
  rw[aR4 (by simp only[aSi];omega)]
  by_cases c2:192≤(s.getD 0 0).toNat∧(s.getD 0 0).toNat<224
  · rw[aRZ (by simp only[aSj,aSi];omega),aRZ (by unfold qD;omega)]
    show (if decide ((s.length:Int)<2)=true then _ else _)=_;by_cases l2:1<s.length
    · rw[aR4 (by simp only[aSi];omega),aOf l2 pI pI]
      by_cases hc:tI s 1=true
      · rw[aRZ hc,←aOi l2 c2.1 c2.2 hc,←a8s (s:=s) (n:=2) pI]
        rfl
      rw[aR4 hc,KF c1 (fun h=>hc h.2.2) (fun h=>by omega) (fun h=>by omega)]
      rfl
    rw[aRZ (by simp only[aSi];omega),KF c1 (fun h=>l2 h.2.1) (fun h=>by omega) (fun h=>by omega)]
    rfl
  rw[aR4 (by simp only[aSj,aSi];omega)]
  by_cases c3:224≤(s.getD 0 0).toNat∧(s.getD 0 0).toNat<240
  · rw[aRZ (by simp only[aSj,aSi];omega),aRZ (by unfold qD;omega)]
    show (if decide ((s.length:Int)<3)=true then _ else _)=_;by_cases l2:2<s.length
    · rw[aR4 (by simp only[aSi];omega),aOg l2 pI pI]
      by_cases hc:(tI s 1&&tI s 2)=true
      · have hc':=aSj _ _▸hc
        rw[aRZ hc,←aOj l2 c3.1 c3.2 hc'.1 hc'.2,←a8s (s:=s) (n:=3) pI];rfl
      rw[aR4 hc,KF c1 (fun h=>by omega) (fun h=>hc h.2.2) (fun h=>by omega)]
      rfl
    rw[aRZ (by simp only[aSi];omega),KF c1 (fun h=>by omega) (fun h=>l2 h.2.1) (fun h=>by omega)]
    rfl
  rw[aR4 (by simp only[aSj,aSi];omega)]
  by_cases c4:240≤(s.getD 0 0).toNat∧(s.getD 0 0).toNat<248
  · rw[aRZ (by simp only[aSj,aSi];omega),aRZ (by unfold qD;omega)]
    show (if decide ((s.length:Int)<4)=true then _ else _)=_;by_cases l2:3<s.length
    · rw[aR4 (by simp only[aSi];omega),aOh l2 pI pI]
      by_cases hc:(tI s 1&&tI s 2&&tI s 3)=true
      · have hc':=aSj _ _▸hc
        have hc'':=aSj _ _▸hc'.1;rw[aRZ hc,←aOk l2 c4.1 c4.2 hc''.1 hc''.2 hc'.2,←a8s (s:=s) (n:=4) pI];rfl
      rw[aR4 hc,KF c1 (fun h=>by omega) (fun h=>by omega) (fun h=>hc h.2.2)]
      rfl
    rw[aRZ (by simp only[aSi];omega),KF c1 (fun h=>by omega) (fun h=>by omega) (fun h=>l2 h.2.1)]
    rfl
  rw[aR4 (by simp only[aSj,aSi];omega),KF c1 (fun h=>by omega) (fun h=>by omega) (fun h=>by omega)]
  rfl
def xU:Nat→pE→pO
  |0,_=>[]
  |n+1,s=>if s=[] then[] else((Lib.decodeL s).1:Int)::xU n (s.drop (Lib.decodeL s).2)
def aHA: ∀(n:Nat) (s:pE),(xU n s).length≤n
  |0,_=>aSl _
  | n+1,s=>by
    unfold xU;split
    .simp
    simp only[aR1]
    have:=aHA n (s.drop (Lib.decodeL s).2);omega
def aOm (s:pE):B6 ((Lib.decodeL s).1:Int):=by
  have k0:=(s.getD 0 0).toNat_lt;rw[Lib.decodeL_N];rcases Lib.decodeN_shape s.length (s.getD 0 0).toNat (s.getD 1 0).toNat (s.getD 2 0).toNat (s.getD 3 0).toNat with⟨c,e⟩ |⟨c1,c2,c3,cv,e⟩ |⟨c1,c2,c3,c4,cv,cs,e⟩ |⟨c1,c2,c3,c4,c5,cv,cw,e⟩ |e
  all_goals (rw[e];unfold B6;dsimp only;omega)
def aHB: ∀(n:Nat) (s:pE) (out:pO),s.length≤n→out.length+s.length≤4000000000→s5 M2 (s,out)=some (out++xU n s)
  | n,[],out,_,_=>by
    rw[zB (r:=out) (by unfold M2;simp)];cases n<;>simp [xU]
  |0,b::t,_,h,_=>by simp at h
  | n+1,b::t,out,h,ho=>by
    have hne:(b::t)≠[]:=by simp
    have hle:=Lib.decodeL_le (b::t) hne;have hw:=Lib.decodeL_width (b::t)
    have hstep:M2 (b::t,out)=some (.inl ((b::t).drop (Lib.decodeL (b::t)).2,out++[((Lib.decodeL (b::t)).1:Int)])):=by
      unfold M2;dsimp only;rw[aRZ pK,aOl hne];simp only[aR2];rw[aRZ (by simp only[aR1,aSe] at ho|-;omega),aRZ ⟨pI,pI,aTC _⟩,aOc]
    rw[G5 hstep,aHB n _ _ (by rw[aS1];simp only[aR1] at h hle|-;omega) (by rw[aS1,aRX];simp only[aR1,aSe] at ho hle|-;omega)];rw[show xU (n+1) (b::t)=((Lib.decodeL (b::t)).1:Int)::xU n ((b::t).drop (Lib.decodeL (b::t)).2) by rw[xU,aR4 hne],aR9];rfl
def VN (s:pE):pO:=xU s.length s
def aOn (s:pE) (hs:sO s):GR s=some (VN s):=by
  unfold sO at hs;unfold GR;rw[aHB s.length s [] (aSl _) (by simpa using hs)];rfl
def aHC: ∀(n:Nat) (s:pE),∀x∈xU n s,B6 x
  |0,_,_,h=>by cases h
  | n+1,s,x,h=>by
    unfold xU at h;split at h
    .cases h
    rcases aSa.1 h with h|h
    .rw[h];exact aOm s
    exact aHC n _ x h
def HH (l:pO):pE:=(l.map Lib.encodeRune).flatten
def aOo (n:Int):(Lib.encodeRune n).length≤4:=by
  unfold Lib.encodeRune;rw[aTL];exact aOd n
def aHD (l:pO) (hsc: ∀x∈l,B6 x) (hl:sO l): ∀(n j:Nat) (s:pE),j+n=l.length→s.length+4*n≤10000000000000→s5 (M1 l) (s,(j:Int))=some (s++HH (l.drop j))
  | 0,j,s,hj,_=>by
    have:j=l.length:=by omega
    subst this;rw[zB (r:=s) (by unfold M1;simp),aTb];simp [HH]
  | n+1,j,s,hj,hs=>by
    have hlt:j<l.length:=by omega
    unfold sO at hl;have hx:=hsc l[j] (aSX hlt);have h4:=aOo l[j]
    have hstep:M1 l (s,(j:Int))=some (.inl (s++Lib.encodeRune l[j],((j+1:Nat):Int))):=by
      unfold M1;dsimp only;rw[aRZ (vS hlt),aRZ (tH hlt),KD (t:= .int .i64) hlt];have hb:=(KE l[j]).2 hx;unfold HG at hb;rw[aRZ hb,aRZ (tH hlt),aHy hx];simp only[aR2];rw[aRZ (by rw[aRX];omega),aRZ (vB pI)];rfl
    rw[G5 hstep,aHD l hsc hl n (j+1) _ pI (by rw[aRX];omega),aSC hlt,aR9];rfl
def aOp (l:pO) (hsc: ∀x∈l,B6 x) (hl:sO l):JS l=some (HH l):=by
  have hl':=hl;unfold sO at hl';unfold JS;rw[show ((0:Int))=((0:Nat):Int) from rfl,aHD l hsc hl l.length 0 [] pI pL];rfl
def aHE: ∀(n:Nat) (s:pE),s.length≤n→s.length≤(HH (xU n s)).length∧(HH (xU n s)=s↔Lib.validD s=true)
  | n,[],_=>by
    have:xU n []=[]:=by cases n<;>simp [xU]
    rw[this];simp [HH,Lib.validD_nil]
  |0,b::t,h=>by simp at h
  | n+1,b::t,h=>by
    have hne:(b::t)≠[]:=by simp
    have hle:=Lib.decodeL_le (b::t) hne;have hw:=Lib.decodeL_width (b::t);obtain⟨ih1,ih2⟩:=aHE n ((b::t).drop (Lib.decodeL (b::t)).2) (by rw[aS1];simp only[aR1] at h|-;omega)
    have hr:HH (xU (n+1) (b::t))=Lib.encodeRune ((Lib.decodeL (b::t)).1:Int)++HH (xU n ((b::t).drop (Lib.decodeL (b::t)).2)):=by
      rw[xU,aR4 hne];rfl
    rw[hr,Lib.validD_step _ hne];rw[aS1] at ih1;by_cases hv:(Lib.decodeL (b::t)).1=65533∧(Lib.decodeL (b::t)).2=1
    · rw[aRZ hv,hv.1]
      have e3:(Lib.encodeRune ((65533:Nat):Int)).length=3:=rfl;rw[hv.2] at ih1|-;refine⟨by rw[aRX,e3];omega,fun he=>?_,fun he=>by cases he⟩;have:=aSk List.length he;rw[aRX,e3] at this;omega
    have he:=Lib.encode_decode (b::t) hne hv
    rw[aR4 hv,he];refine⟨by rw[aRX,aSN];omega,?_⟩;rw[←ih2];constructor
    · intro h1
      exact List.append_cancel_left (h1.trans (aTh _ _).symm)
    intro h1
    rw[h1,aTh]
def aOq (s:pE) (hs:sO s):tS s=some (Lib.validD s):=by
  have hl:sO (VN s):=by
    have:=aHA s.length s;unfold sO VN at*;omega
  unfold tS;rw[aOn s hs];simp only[aR2];rw[aOp (VN s) (fun x hx=>aHC _ _ x hx) hl];simp only[aR2];congr 1;have:=(aHE s.length s (aSl _)).2;rw[aTm,aSi];exact this
def zR (s:pE):Bool:=decide ((s.length:Int)≤4000)&&Lib.validD s
def QN (s:pE) (hs:sO s):DF s=some ()∧((decide ((s.length:Int)≤4000))&&val (tS s))=zR s:=by
  unfold DF;rw[aOq s hs];exact⟨aRZ (fun _=>rfl),rfl⟩
def QO (s:pE) (hs:sO s):BI s=some ():=by
  unfold sO at hs;unfold BI P0;rw[aRZ (fun _=>by rw[aRZ pI];rfl)]
def aHF (a b:pE):(!Op.bytesLess a b)=(Op.bytesLess b a||decide (b=a)):=by
  rw[bytesLess_eq,bytesLess_eq,aTm];simp only[aSE,aTd,aS7,aSi];constructor
  · intro h
    exact(List.le_iff_lt_or_eq.1 (List.not_lt.1 h))
  rintro(h|h)
  .exact List.lt_asymm h
  rw[h];exact List.lt_irrefl _
def BN (l:pF):Bool:=decide ((l.length:Int)≤20)&& !(l.any fun x=> !zR x)
def a8u (l:pF) (i:Nat):Bool:=(!HF (l.getD i []))||(decide (0<i)&& !Op.bytesLess (l.getD (i-1) []) (l.getD i []))
def MR (l:pF):Bool:= !((List.range l.length).any (a8u l))&&decide ((l.length:Int)≤20)
abbrev fD:wH:=([],([],()))
def a8v (l:List wH) (i:Nat):Bool:=((!HF (l.getD i fD).1)||(!zR (l.getD i fD).2.1))||(decide (0<i)&& !Op.bytesLess (l.getD (i-1) fD).1 (l.getD i fD).1)
def CN (l:List wH):Bool:= !((List.range l.length).any (a8v l))&&decide ((l.length:Int)≤20)
abbrev wI:=sP
def HI (x:wI):Bool:=
  (((((((!decide (x.1=[]))&&decide ((x.1.length:Int)≤200))&&zR x.1)&&zR x.2.1)&&zR x.2.2.1)&&BN x.2.2.2.1)&&MR x.2.2.2.2.1)&&(decide (0≤x.2.2.2.2.2.1)&&decide (x.2.2.2.2.2.1≤4))&&CN x.2.2.2.2.2.2.1
def aHG (a b:pE):tX (a++b)=tX a++tX b:=by simp [tX]
def a8w (a:pE):sV (tX a)=a:=by
  unfold sV tX;rw[List.map_map]
  conv=>rhs;rw[←List.map_id a]
  congr 1;funext b;simp
def aOr {p:Prop}{α:Type}{v:α}:p→(some v).isSome=true:=fun _=>rfl
abbrev C4:=pE×(pF×(List wH×(List sP×Unit)))
def aHH {v:Ty}(a b:pE) (y:v.den): ∀l:List (pE×v.den),uA .str v (tU .str v a y l) b=if b=a then y else uA .str v l b
  | []=>by
    show (if decide (b=a)=true then y else v.zero)=if b=a then y else v.zero;by_cases h:b=a<;>simp [h]
  | (x,z)::r=>by
    have ih:=aHH a b y r;show uA .str v (if decide (a=x)=true then(a,y)::r else(x,z)::tU .str v a y r) b=if b=a then y else(if decide (b=x)=true then z else uA .str v r b);by_cases h:a=x
    · rw[aRZ (aTH h)]
      show (if decide (b=a)=true then y else uA .str v r b)=_;by_cases hb:b=a
      .rw[aRZ (aTH hb),aRZ hb]
      rw[aR4 (by simpa using hb),aR4 hb,aR4 (by rw[←h];simpa using hb)]
    rw[aR4 (by simpa using h)]
    show (if decide (b=x)=true then z else uA .str v (tU .str v a y r) b)=_;rw[ih];by_cases hb:b=a
    .rw[aRZ hb,aRZ hb,aR4 (by rw[hb];simpa using h)]
    rw[aR4 hb,aR4 hb]
def aOs {σ ρ:Type}{f:σ→Option (σ⊕ρ)}{x y:σ}(h:f x=some (.inl y)):s5 f x=s5 f y:=by
  rw[F6,h];rfl
def aOt {σ ρ:Type}{f:σ→Option (σ⊕ρ)}{x:σ}{r:ρ}(h:f x=some (.inr r)):s5 f x=some r:=by
  rw[F6,h];rfl
def a8x (es:List sP) (x:pE):Int×Bool:=BL (fun k=>((k:Int),true)) ((0:Int),false) (es.findIdx? fun y=>decide (y.1=x))
def aOu (c:C4) (x:pE) (hl:c.2.2.2.1.length≤5000):GD c x=some (a8x c.2.2.2.1 x):=by
  have h:=QM (f:=OV c x) (l:=c.2.2.2.1) (fun y=>decide (y.1=x)) (fun k=>((k:Int),true)) (fun i h=>by
    unfold OV;rw[aRZ (vS h),aRZ (tH h),KD (t:=sM) h,aRZ (vB pI)]) (by
    unfold OV;rw[aR4 (w4 _)])
  unfold GD;rw[h,aHw];rfl
def aHI {σ ρ:Type}{f:σ→Option (σ⊕ρ)}{n:Nat}(st:Nat→σ) {r:ρ}(h: ∀i,i<n→f (st i)=some (.inl (st (i+1)))) (he:f (st n)=some (.inr r)): ∀(k i:Nat),i+k=n→s5 f (st i)=some r
  | 0,i,hi=>by
    have:i=n:=by omega
    subst this;exact aOt he
  | k+1,i,hi=>by
    rw[aOs (h i pI)];exact aHI st h he k (i+1) pI
def aOv (d:tR) (h:d.2.1.length≤5000):JQ d d=some ([],0):=by
  have hn:((([d.1]:pF)++d.2.1)++([d.2.2.1]:pF)).length=d.2.1.length+2:=by simp
  have hA:EN d=some ():=by
    unfold EN;rw[aRZ pL,aRZ pL]
  have hloop:=aHI (f:=PM d d) (n:=d.2.1.length+2) (fun i=>(([]:List (Int×pE×Unit)),(i:Int))) (r:=[])
    (fun i hi=>by
      unfold PM;dsimp only;rw[hn,aRZ (vS hi),aRZ (tH hi),aRZ (tH hi),aR4 pK,aRZ (vB pI)];rfl)
    (by
      unfold PM;dsimp only;rw[hn,aR4 (w4 _)]) (d.2.1.length+2) 0 pI
  unfold JQ;rw[aR4 pK,hA,aR2,aR2,show (([]:List (Int×pE×Unit)),(0:Int))=(([]:List (Int×pE×Unit)),((0:Nat):Int)) from rfl,hloop];rfl
def aOw (d:tR) (h:d.2.1.length≤5000):GV d d=some true:=by
  unfold GV;rw[aOv d h];rfl
abbrev eD:wI:=([],([],([],([],([],(0,([],())))))))
def HJ (es:List wI) (i:Nat):Bool:=((es.take i).any fun y=>decide (y.1=(es.getD i eD).1))|| !HI (es.getD i eD)
def yF (c:C4):Bool:=((F7 c.1&&BN c.2.1)&&CN c.2.2.1)&&(decide ((c.2.2.2.1.length:Int)≤1000)&& !((List.range c.2.2.2.1.length).any (HJ c.2.2.2.1)))
def a8y {c:C4}(hok:yF c=true) {i:Nat}(hi:i<c.2.2.2.1.length):HI (c.2.2.2.1.getD i eD)=true:=by
  unfold yF at hok;simp only[aSj,aSE,List.any_eq_false,List.mem_range] at hok;have:=hok.2.2 i hi;unfold HJ at this;simp only[aS7,aSE,not_or,Bool.not_eq_false] at this;exact this.2
noncomputable section
structure St where
  c:C4
  ends:pO
  id:pE
  sc:pE
  tg:pE
  cm:pF
  fg:pF
  sv:Int
  fd:List wH
  op:Bool
  bs:Bool
  bt:Bool
  bh:Bool
  bf:Bool
  last:pE
  name:pE
abbrev St.x (s:St):sP:=(s.id,(s.sc,(s.tg,(s.cm,(s.fg,(s.sv,(s.fd,())))))))
end
noncomputable section
abbrev Mp:=pM
structure Pg where
  c:C4
  pl:Int
  id:pE
  sc:pE
  tg:pE
  fg:pF
  sv:Int
  ap:Nat
  ends:pO
  cm:Option pF
  n1:Nat
  fl:Option (List wH)
  n2:Nat
  seen:Mp
  ids:Mp
end
noncomputable section
abbrev aOx:=pE×pF×(List qV)×(List sP)×Int×pE×pE×pE×pF×Int×Nat×pO×(Option pF)×Nat×(Option (List qV))×Nat×pM×pM
abbrev Pg.out (P:Pg):aOx:=(P.c.1,P.c.2.1,P.c.2.2.1,P.c.2.2.2.1,P.pl,P.id,P.sc,P.tg,P.fg,P.sv,P.ap,P.ends,P.cm,P.n1,P.fl,P.n2,P.seen,P.ids)
end
noncomputable section
def aOy:ML=some true:=by kernel_rfl
end
def aOz (s:pE) (hs:sO s):JT s=some (F7 s):=by
 unfold sO at hs;have h:=QM (f:=PO s) (l:=s) (fun b=>MO b.toNat) (fun _=>false) (fun i h=>by
  unfold PO;rw[aRZ (vS h),aRZ (tH h),VJ h,aRZ (vB pI)];rfl) (by
  unfold PO;rw[aR4 (w4 _)])
 unfold JT;rw[h,MN];unfold F7;cases s.any fun b=>MO b.toNat<;>rfl
def aHJ (s:pE) (hs:sO s):GT s=some (HF s):=by
 unfold sO at hs;unfold GT;cases s with
 |nil=>simp [HF]
 |cons b t=>
  have hb0:rY (b::t) (0:Int)=(b.toNat:Int):=VJ (i:=0) pK;rw[aRZ (fun _=>⟨aTC 0,by simp only[aR1];omega⟩),hb0];unfold HF;by_cases hl:(40:Int)<((b::t).length:Int)
  .have hl2:40<t.length+1:=by simp only[aR1] at hl;omega
   rw[aRZ (by simp only[hl,decide_true,Bool.or_true,Bool.true_or])];simp [hl2]
  have hl2: ¬40<t.length+1:=by simp only[aR1] at hl;omega
  have hl3: ¬((b::t).length:Int)<1:=by simp;omega
  by_cases hb:yT b.toNat=true
  .rw[aR4 (by unfold yT at hb;simp only[hl,hl3,hb];simp)];have h:=a8o (f:=PP (b::t)) (l:=b::t) (fun b=>yS b.toNat) (fun _=>false) (fun i h=>by
    unfold PP;rw[aRZ (vS h),aRZ (tH h),VJ h,aRZ (vB pI)];rfl) (by
    unfold PP;rw[aR4 (w4 _)]) t.length 1 pL
   rw[show ((1:Nat):Int)=1 from rfl] at h;rw[h,MN];simp only[List.drop_succ_cons,aTx,hb,hl2,decide_false,Bool.not_false,Bool.true_and];cases t.any fun b=>yS b.toNat<;>rfl
  rw[aRZ (by unfold yT at hb;simp only[hb];simp)];simp [hb]
def w5 {p:Prop}{α:Type}{v:α}:p->(some v).isSome=true:=fun _=>rfl
def QP {ρ:Type}{f:Int->Option (Int⊕(Unit⊕ρ))}{n:Nat}(p:Nat->Bool) (g:Nat->ρ)
  (hf: ∀(i:Nat),i<n->f i=if p i=true then some (.inr (.inr (g i))) else some (.inl (i+1)))
  (he:f n=some (.inr (.inl ()))):s5 f 0=some (BL (fun k=> .inr (g k)) (.inl ()) ((List.range n).findIdx? p)):=by
 refine QM (l:=List.range n) p g (fun i h=>?_) (by rw[List.length_range];exact he);have hi:i<n:=by rw[List.length_range] at h;exact h
 rw[List.getElem_range];exact hf i hi
def QQ {n:Nat}{p:Nat->Bool}{b:Bool}:tO (some (BL (fun _=>Sum.inr false) (Sum.inl ()) ((List.range n).findIdx? p))) (fun _:Unit=>some b)=some (!((List.range n).any p)&&b):=by
 rw[MN];cases(List.range n).any p<;>rfl
def aOA {α:Type}{l:List α}{p:α->Bool}{b:Bool}:tO (some (BL (fun _=>Sum.inr false) (Sum.inl ()) (l.findIdx? p))) (fun _:Unit=>some b)=some (!(l.any p)&&b):=by
 rw[MN];cases l.any p<;>rfl
def aHK (l:pF) (hl:sO l) (hx: ∀x∈l,sO x):zP l=some (BN l):=by
 unfold sO at hl;have h:=QM (f:=Q8 l) (l:=l) (fun x=> !zR x) (fun _=>false) (fun i h=>by
  obtain⟨h1,h2⟩:=QN l[i] (hx _ (aSX h));unfold Q8;rw[aRZ (vS h),aRZ (tH h),KD (t:= .str) h,h1,aR2,h2,aRZ (vB pI)]) (by
  unfold Q8;rw[aR4 (w4 _)])
 unfold zP;rw[h,aOA,BN,Bool.and_comm]
def aOB (l:pF) (hl:sO l) (hx: ∀x∈l,sO x):A9 l=some (l.any fun x=> !zR x):=by
 unfold sO at hl;have h:=QM (f:=Q1 l) (l:=l) (fun x=> !zR x) (fun k=>(k:Int)) (fun i h=>by
  have h1:=QO l[i] (hx _ (aSX h));unfold Q1 PW;rw[aRZ (vS h),aRZ (tH h),KD (t:= .str) h,h1,aR2,aR2,aRZ (vB pI)];rfl) (by
  unfold Q1;rw[aR4 (w4 _)])
 unfold A9 M9;rw[h,aHw];show some (decide _)=_;rw[aOa]
def aHL (l:pF) (hl:sO l) (hx: ∀x∈l,sO x):K4 l=some ()/\((decide ((l.length:Int)<=20))&&(!(val (A9 l))))=BN l:=by
 unfold K4;rw[aOB l hl hx];exact⟨aRZ w5,rfl⟩
def KG {l:pF}{i:Nat}:qR .str l (i:Int)=l.getD i []:=by unfold qR;rw[aSP];rfl
def aHM {l:pF}{i:Nat}:qR .str l ((i:Int)-1)=l.getD (i-1) []:=by
 unfold qR;rw[show ((i:Int)-1).toNat=i-1 by omega];rfl
def VO {i:Nat}:decide ((0:Int)<(i:Int))=decide (0<i):=by simp
def aOC (l:pF) (hl:sO l):EP l=some (MR l):=by
 unfold sO at hl;have h:=QP (f:=OZ l) (n:=l.length) (a8u l) (fun _=>false) (fun i h=>by
  unfold OZ;rw[aRZ (vS h),aRZ (tH h),KG,aHM,aHv,aR2,VO];have h0: ∀q:Bool,((q==false)&&(decide (0<i)==true))=true->0<i:=fun q hq=>by
   simp only[aSj,aTP,aSi] at hq;exact hq.2
  rw[aRZ (fun hq=>by have:=h0 _ hq;unfold qD;omega),aRZ (fun hq=>by have:=h0 _ hq;omega),aRZ (vB pI)];rfl) (by
  unfold OZ;rw[aR4 (w4 _)])
 unfold EP;rw[h,QQ];rfl
def aOD (l:pF) (hl:sO l) (hx: ∀x∈l,sO x):CF l=some (MR l):=by
 unfold sO at hl;have h:=QP (f:=PX l) (n:=l.length) (a8u l) (fun _=>false) (fun i h=>by
  unfold PX;have hf:sO (l.getD i []):=by rw[aSo,aR3 h];exact hx _ (aSX h)
  rw[aRZ (vS h),aRZ (tH h),KG,aHM,aHJ _ hf,aR2,VO];have h0: ∀q:Bool,((q==false)&&(decide (0<i)==true))=true->0<i:=fun q hq=>by
   simp only[aSj,aTP,aSi] at hq;exact hq.2
  rw[aRZ (fun _=>tH h),aRZ (fun hq=>by have:=h0 _ hq;unfold qD;omega),aRZ (fun hq=>by have:=h0 _ hq;omega),aRZ (vB pI),<-aHF];rfl) (by
  unfold PX;rw[aR4 (w4 _)])
 unfold CF;rw[h,QQ];rfl
def VP {l:List wH}{i:Nat}:qR rM l (i:Int)=l.getD i fD:=by unfold qR;rw[aSP];rfl
def aHN {l:List wH}{i:Nat}:qR rM l ((i:Int)-1)=l.getD (i-1) fD:=by
 unfold qR;rw[show ((i:Int)-1).toNat=i-1 by omega];rfl
def QR (x:wH):Prop:=sO x.1/\sO x.2.1
def DI {α:Type}{l:List α}{i:Nat}{d:α}(h:i<l.length):l.getD i d∈l:=by
 rw[aSo,aR3 h];exact aSX h
def VQ {i:Nat}{q:Bool}(hq:((q==false)&&(decide (0<i)==true))=true):0<i:=by
 simp only[aSj,aTP,aSi] at hq;exact hq.2
def aHO (l:List wH) (hl:sO l) (hx: ∀x∈l,QR x):DD l=some (CN l):=by
 unfold sO at hl;have h:=QP (f:=PY l) (n:=l.length) (a8v l) (fun _=>false) (fun i h=>by
  unfold PY;have hf:=hx _ (DI (d:=fD) h);rw[aRZ (vS h),aRZ (tH h),VP,aHN,aHv,aR2,VO,QO _ hf.2];rw[aRZ w5,aRZ (fun hq=>by have:=VQ hq;unfold qD;omega),aRZ (fun hq=>by have:=VQ hq;omega),aRZ (vB pI)];rfl) (by
  unfold PY;rw[aR4 (w4 _)])
 unfold DD;rw[h,QQ];rfl
def aHP (l:List wH) (hl:sO l) (hx: ∀x∈l,QR x):BK l=some (CN l):=by
 unfold sO at hl;have h:=QP (f:=QA l) (n:=l.length) (a8v l) (fun _=>false) (fun i h=>by
  unfold QA;have hf:=hx _ (DI (d:=fD) h);obtain⟨h1,h2⟩:=QN _ hf.2;rw[aRZ (vS h),aRZ (tH h),VP,aHN,aHJ _ hf.1,aR2,VO,h1,h2];rw[aRZ (fun _=>tH h),aRZ w5,aRZ (fun _=>tH h),aRZ (fun hq=>by have:=VQ hq;unfold qD;omega),aRZ (fun hq=>by have:=VQ hq;omega),aRZ (vB pI),<-aHF];rfl) (by
  unfold QA;rw[aR4 (w4 _)])
 unfold BK;rw[h,QQ];rfl
structure VR (x:wI):Prop where
 id:sO x.1
 src:sO x.2.1
 tgt:sO x.2.2.1
 com:sO x.2.2.2.1/\∀y∈x.2.2.2.1,sO y
 flg:sO x.2.2.2.2.1/\∀y∈x.2.2.2.2.1,sO y
 fld:sO x.2.2.2.2.2.2.1/\∀y∈x.2.2.2.2.2.2.1,QR y
def aOE (x:wI) (h:VR x):H8 x=some (HI x):=by
 obtain⟨t1,t2⟩:=aHL _ h.com.1 h.com.2;have e1:=aOC _ h.flg.1;have e2:=aHO _ h.fld.1 h.fld.2;unfold H8;rw[QO _ h.id,QO _ h.src,QO _ h.tgt,t1,t2,e1,e2];have k: ∀s:pE,(decide ((s.length:Int)<=4000)&&Lib.validD s)=zR s:=fun s=>rfl;rw[aRZ w5,aR2,aRZ w5,aRZ w5,aRZ w5,aRZ w5,k,k,k];unfold HI;show (if _ then some false else some _)=_;have a1:decide ((200:Int)<(x.1.length:Int))= !decide ((x.1.length:Int)<=200):=by rw[<-decide_not];exact aS9.2 pI
 have a2:decide (x.2.2.2.2.2.1<(0:Int))= !decide ((0:Int)<=x.2.2.2.2.2.1):=by rw[<-decide_not];exact aS9.2 pI
 have a3:decide ((4:Int)<x.2.2.2.2.2.1)= !decide (x.2.2.2.2.2.1<=(4:Int)):=by rw[<-decide_not];exact aS9.2 pI
 rw[a1,a2,a3];show (if _ then some false else some (((((zR x.2.1&&zR x.2.2.1)&&BN x.2.2.2.1)&&MR x.2.2.2.2.1))&&CN x.2.2.2.2.2.2.1))=_;generalize decide (x.1=[])=b1;generalize decide ((x.1.length:Int)<=200)=b2;generalize zR x.1=b3;generalize zR x.2.1=b4;generalize zR x.2.2.1=b5;generalize BN x.2.2.2.1=b6;generalize MR x.2.2.2.2.1=b7;generalize decide ((0:Int)<=x.2.2.2.2.2.1)=b8;generalize decide (x.2.2.2.2.2.1<=(4:Int))=b9;generalize CN x.2.2.2.2.2.2.1=b10;cases b1<;>cases b2<;>cases b3<;>cases b8<;>cases b9<;>simp
def aOF (x:wI) (h:VR x):MB x=some ()/\((((((((((!decide (x.1=([]:pE)))&&(decide ((x.1.length:Int)<=(200:Int))))&&((decide ((x.1.length:Int)<=(4000:Int)))&&(val (tS x.1))))&&((decide ((x.2.1.length:Int)<=(4000:Int)))&&(val (tS x.2.1))))&&((decide ((x.2.2.1.length:Int)<=(4000:Int)))&&(val (tS x.2.2.1))))&&(val (zP x.2.2.2.1)))&&(val (CF x.2.2.2.2.1)))&&(decide ((0:Int)<=x.2.2.2.2.2.1)))&&(decide (x.2.2.2.2.2.1<=(4:Int))))&&(val (BK x.2.2.2.2.2.2.1)))=HI x:=by
 obtain⟨u1,v1⟩:=QN _ h.id;obtain⟨u2,v2⟩:=QN _ h.src;obtain⟨u3,v3⟩:=QN _ h.tgt;have e0:=aHK _ h.com.1 h.com.2;have e1:=aOD _ h.flg.1 h.flg.2;have e2:=aHP _ h.fld.1 h.fld.2;unfold MB;rw[u1,u2,u3,v1,v2,v3,e0,e1,e2];refine⟨?_,?_⟩
 .rw[aRZ w5,aRZ w5,aRZ w5,aRZ w5,aRZ w5,aRZ w5]
 unfold HI;show (((((((((!_&&_)&&_)&&_)&&_)&&BN x.2.2.2.1)&&MR x.2.2.2.2.1)&&_)&&_)&&CN x.2.2.2.2.2.2.1)=_;simp only[Bool.and_assoc]
def a8z (ids:pM) (es:List sP):Prop:= ∀x,uA .str .bool ids x=es.any fun y=>decide (y.1=x)
def aOG {ids:pM}{es:List sP}(h:a8z ids es) (e:sP) (x:pE) (he:e.1=x):a8z (tU .str .bool x true ids) (es++[e]):=by
 intro y;rw[aHH,List.any_append,<-h y];by_cases hy:y=x
 .rw[aRZ hy];simp [he,hy]
 rw[aR4 hy];have:decide (e.1=y)=false:=by rw[he];simpa using fun hh=>hy hh.symm
 simp [this]
def VS {l:List wI}{i:Nat}:qR sM l (i:Int)=l.getD i eD:=by unfold qR;rw[aSP];rfl
structure QS (c:C4):Prop where
 tag:sO c.1
 com:sO c.2.1/\∀y∈c.2.1,sO y
 fld:sO c.2.2.1/\∀y∈c.2.2.1,QR y
 len:c.2.2.2.1.length<=5000
 ent: ∀x∈c.2.2.2.1,VR x
def aOH {α:Type}{l:List α}{i:Nat}{d:α}(h:i<l.length):l.take (i+1)=l.take i++[l.getD i d]:=by
 rw[List.take_add_one,aR3 h,aSo,aR3 h];rfl
def aHQ {c:C4}(hc:QS c): ∀(n i:Nat) (m:pM),i+n=c.2.2.2.1.length->a8z m (c.2.2.2.1.take i)->
  s5 (K6 c) ((i:Int),m)=some (if (List.range' i n).any (HJ c.2.2.2.1)=true then .inr false else .inl ())
 |0,i,m,hi,_=>by
  have:i=c.2.2.2.1.length:=by omega
  subst this;refine zB ?_;unfold K6;dsimp only;rw[aR4 (w4 _)];rfl
 |n+1,i,m,hi,hm=>by
  have h:i<c.2.2.2.1.length:=by omega
  have he:=hc.ent _ (DI (d:=eD) h);have hl:=hc.len;have hst:K6 c ((i:Int),m)=if HJ c.2.2.2.1 i=true then some (.inr (.inr false)) else some (.inl (((i+1:Nat):Int),tU .str .bool (c.2.2.2.1.getD i eD).1 true m)):=by
   unfold K6;dsimp only;rw[aRZ (vS h),aRZ (tH h),VS,hm,aOE _ he,aRZ w5,aRZ (vB pI)];rfl
  rw[aTo,List.any_cons];by_cases hb:HJ c.2.2.2.1 i=true
  .rw[aRZ hb] at hst;rw[hb,Bool.true_or,aRZ rfl];exact zB hst
  rw[aR4 hb] at hst;rw[G5 hst,aHQ hc n (i+1) _ pI (by rw[aOH (d:=eD) h];exact aOG hm _ _ rfl)];simp only[aTR] at hb;rw[hb,Bool.false_or]
def aOI {c:C4}(hc:QS c):K7 c=some (yF c):=by
 obtain⟨t1,t2⟩:=aHL _ hc.com.1 hc.com.2;have e2:=aHO _ hc.fld.1 hc.fld.2;have hlp:=aHQ hc c.2.2.2.1.length 0 [] pI (fun x=>by rfl);rw[<-List.range_eq_range'] at hlp;have hlp':s5 (K6 c) ((0:Int),[])=_:=hlp;have a1:decide ((1000:Int)<(c.2.2.2.1.length:Int))= !decide ((c.2.2.2.1.length:Int)<=1000):=by rw[<-decide_not];exact aS9.2 pI
 unfold K7;rw[aN9,aR2,t1,t2,e2,aRZ w5,aRZ w5,hlp',a1];unfold yF;show (if (((!F7 c.1)||(!BN c.2.1))||(!CN c.2.2.1)||_)=true then some false else _)=_
 generalize F7 c.1=b1;generalize BN c.2.1=b2;generalize CN c.2.2.1=b3;generalize decide ((c.2.2.2.1.length:Int)<=1000)=b4;generalize (List.range c.2.2.2.1.length).any (HJ c.2.2.2.1)=b5;cases b1<;>cases b2<;>cases b3<;>cases b4<;>cases b5<;>rfl
def aOJ {es:List wI}{i:Nat}(h:i<es.length):decide ((a8x es (es.getD i eD).1).1=(i:Int))= !((es.take i).any fun y=>decide (y.1=(es.getD i eD).1)):=by
 have hx:es.getD i eD=es[i]:=by rw[aSo,aR3 h];rfl
 unfold a8x;cases hf:es.findIdx? fun y=>decide (y.1=(es.getD i eD).1) with
 |none=>
  have:=List.findIdx?_eq_none_iff.1 hf es[i] (aSX h);rw[hx] at this;simp at this
 |some k=>
  obtain⟨hk,h1,h2⟩:=List.findIdx?_eq_some_iff_getElem.1 hf;simp only[aSi,aTd] at h1 h2;show decide ((k:Int)=(i:Int))=_;rw[aTm,aSi,aSE,List.any_eq_false];have hki:k<=i:=by
   rcases aSQ i k with hlt|hge
   .exact absurd (aSk Prod.fst hx.symm) (h2 i hlt)
   exact hge
  constructor
  .intro he x hxm;obtain⟨j,hj,rfl⟩:=aTM hxm;rw[aSN] at hj;rw[List.getElem_take];have:=h2 j pI;simpa using this
  intro hall;rcases aSQ k i with hlt|hge
  .have:=hall es[k] (by rw[List.mem_take_iff_getElem];exact⟨k,pI,rfl⟩);simp [h1] at this
  omega
def aOK (c:C4) (hc:QS c):K5 c=some ((F7 c.1&&BN c.2.1)&&CN c.2.2.1):=by
 unfold K5;rw[aOz _ hc.tag,aR2,aHK _ hc.com.1 hc.com.2,aHP _ hc.fld.1 hc.fld.2,aRZ w5,aRZ w5];rfl
def aOL {c:C4}(hc:QS c):K8 c=some (yF c):=by
 have hl:=hc.len;have h:=QP (f:=QE c) (n:=c.2.2.2.1.length) (HJ c.2.2.2.1) (fun _=>false) (fun i h=>by
  have he:=hc.ent _ (DI (d:=eD) h);obtain⟨u,v⟩:=aOF _ he;unfold QE;rw[aRZ (vS h),aRZ (tH h),VS,aOu c _ hl,aR2,aRZ (fun _=>tH h),u,aRZ w5,v,aOJ h,aRZ (vB pI),Bool.not_not];rfl) (by
  unfold QE;rw[aR4 (w4 _)])
 have a1:decide ((1000:Int)<(c.2.2.2.1.length:Int))= !decide ((c.2.2.2.1.length:Int)<=1000):=by rw[<-decide_not];exact aS9.2 pI
 unfold K8;rw[aOK c hc,aR2,h,QQ,a1];unfold yF;generalize ((F7 c.1&&BN c.2.1)&&CN c.2.2.1)=b1;generalize decide ((c.2.2.2.1.length:Int)<=1000)=b2;generalize (List.range c.2.2.2.1.length).any (HJ c.2.2.2.1)=b3;cases b1<;>cases b2<;>cases b3<;>rfl
def tW:Nat:=140737488351232
def aHR {l:pF}(hl:l.length<=tW) (hx: ∀x∈l,x.length<=tW): ∀(m i:Nat) (n:Int),i+m=l.length->0<=n->n<=1125899906842624->
  ∃r,s5 (GF l) (n,(i:Int))=some r/\n<=r/\r<=1125899906842624/\(r<1099511627776->∀x∈l.drop i,n+(x.length:Int)<=r)
 |0,i,n,hi,h0,h1=>by
  have:i=l.length:=by omega
  subst this;refine⟨n,zB ?_,aTC _,h1,fun _ x hx=>by rw[aTb] at hx;cases hx⟩;unfold GF;dsimp only;rw[aR4 pK]
 |m+1,i,n,hi,h0,h1=>by
  have h:i<l.length:=by omega
  by_cases hn:n<1099511627776
  .have hxi:=hx _ (aSX h);unfold tW at hxi hl;have hst:GF l (n,(i:Int))=some (.inl (n+(l[i].length:Int),((i+1:Nat):Int))):=by
    unfold GF;dsimp only;rw[aRZ (by simp [h,hn]),aRZ (tH h),KD (t:= .str) h,aRZ (by unfold qD;omega),aRZ (by unfold qD;omega)];rfl
   obtain⟨r,e,e1,e2,e3⟩:=aHR (by unfold tW;exact hl) hx m (i+1) (n+(l[i].length:Int)) pI pI pI;refine⟨r,by rw[G5 hst,e],pI,e2,fun hr x hxm=>?_⟩;rw[aSC h] at hxm;rcases aSa.1 hxm with rfl|hxm
   .omega
   have:=e3 hr x hxm;omega
  refine⟨n,zB ?_,aTC _,h1,fun hr=>by omega⟩;unfold GF;dsimp only;rw[aR4 (by simp [hn])]
def aHS {l:List wH}(hl:l.length<=tW) (hx: ∀x∈l,x.1.length<=tW/\x.2.1.length<=tW): ∀(m i:Nat) (n:Int),i+m=l.length->0<=n->n<=1125899906842624->
  ∃r,s5 (GG l) (n,(i:Int))=some r/\n<=r/\r<=1125899906842624/\(r<1099511627776->∀x∈l.drop i,n+(x.1.length:Int)+(x.2.1.length:Int)<=r)
 |0,i,n,hi,h0,h1=>by
  have:i=l.length:=by omega
  subst this;refine⟨n,zB ?_,aTC _,h1,fun _ x hx=>by rw[aTb] at hx;cases hx⟩;unfold GG;dsimp only;rw[aR4 pK]
 |m+1,i,n,hi,h0,h1=>by
  have h:i<l.length:=by omega
  by_cases hn:n<1099511627776
  .have hxi:=hx _ (aSX h);unfold tW at hxi hl;have hst:GG l (n,(i:Int))=some (.inl (n+(l[i].1.length:Int)+(l[i].2.1.length:Int),((i+1:Nat):Int))):=by
    unfold GG;dsimp only;rw[aRZ (by simp [h,hn]),aRZ (tH h),KD (t:= .pair .str (.pair .str .unit)) h,aRZ (by unfold qD;omega),aRZ (tH h),aRZ (by unfold qD;omega),aRZ (by unfold qD;omega)];rfl
   obtain⟨r,e,e1,e2,e3⟩:=aHS (by unfold tW;exact hl) hx m (i+1) (n+(l[i].1.length:Int)+(l[i].2.1.length:Int)) pI pI pI;refine⟨r,by rw[G5 hst,e],pI,e2,fun hr x hxm=>?_⟩;rw[aSC h] at hxm;rcases aSa.1 hxm with rfl|hxm
   .omega
   have:=e3 hr x hxm;omega
  refine⟨n,zB ?_,aTC _,h1,fun hr=>by omega⟩;unfold GG;dsimp only;rw[aR4 (by simp [hn])]
def B7 (l:pF):Prop:=l.length<=6000/\∀x∈l,x.length<=6000
def HK (l:List wH):Prop:=l.length<=6000/\∀x∈l,x.1.length<=6000/\x.2.1.length<=6000
def a8A {l:pF}{f:List wH}(hl:l.length<=tW) (hx: ∀x∈l,x.length<=tW) (hf:f.length<=tW) (hy: ∀x∈f,x.1.length<=tW/\x.2.1.length<=tW):
  ∃r,xQ l f=some r/\0<=r/\r<=1125899906842624/\(r<=6000->B7 l/\HK f):=by
 have hl':=hl;have hf':=hf;unfold tW at hl' hf';obtain⟨r,e,e1,e2,e3⟩:=aHR hl hx l.length 0 ((l.length:Int)+(f.length:Int)) pI pI pI;obtain⟨r',k,k1,k2,k3⟩:=aHS hf hy f.length 0 r pI pI e2;have e':s5 (GF l) ((l.length:Int)+(f.length:Int),(0:Int))=some r:=e;have k':s5 (GG f) (r,(0:Int))=some r':=k;refine⟨r',?_,pI,k2,fun hr=>⟨⟨pI,fun x hxm=>?_⟩,⟨pI,fun x hxm=>?_⟩⟩⟩
 .unfold xQ;rw[aRZ (by unfold qD;omega),e'];unfold tA;rw[aR2,k',aR2]
 .have:=e3 pI x (by rw[aTx];exact hxm);omega
 have:=k3 pI x (by rw[aTx];exact hxm);omega
structure a8B (x:wI):Prop where
 id:x.1.length<=tW
 src:x.2.1.length<=tW
 tgt:x.2.2.1.length<=tW
 com:x.2.2.2.1.length<=tW/\∀y∈x.2.2.2.1,y.length<=tW
 flg:x.2.2.2.2.1.length<=tW/\∀y∈x.2.2.2.2.1,y.length<=tW
 fld:x.2.2.2.2.2.2.1.length<=tW/\∀y∈x.2.2.2.2.2.2.1,y.1.length<=tW/\y.2.1.length<=tW
structure MS (x:wI):Prop where
 id:x.1.length<=6000
 src:x.2.1.length<=6000
 tgt:x.2.2.1.length<=6000
 com:B7 x.2.2.2.1
 flg:B7 x.2.2.2.2.1
 fld:HK x.2.2.2.2.2.2.1
def aOM (x:wI) (h:a8B x): ∃b:Bool,LX x=some ()/\
  ((decide ((((x.1.length:Int)+(x.2.1.length:Int))+(x.2.2.1.length:Int))<=(6000:Int)))&&(decide (((val (xQ x.2.2.2.1 x.2.2.2.2.2.2.1))+(val (xQ x.2.2.2.2.1 ([]:List qV))))<=(6000:Int))))=b/\(b=true->MS x):=by
 obtain⟨r,e,e1,e2,e3⟩:=a8A h.com.1 h.com.2 h.fld.1 h.fld.2;obtain⟨r',k,k1,k2,k3⟩:=a8A (f:=[]) h.flg.1 h.flg.2 (by unfold tW;simp) (fun x hx=>by cases hx);have a1:=h.id;have a2:=h.src;have a3:=h.tgt;unfold tW at a1 a2 a3;refine⟨_,?_,rfl,fun hb=>?_⟩
 .unfold LX;rw[e,k,aRZ (by unfold qD;omega),aRZ (by unfold qD;omega),aRZ w5,aRZ w5,aRZ (fun _=>by show qD (r+r');unfold qD;omega)]
 rw[e,k] at hb;simp only[aSj,aSi] at hb;obtain⟨h1,h2⟩:=hb;have h2:r+r'<=6000:=h2;obtain⟨p,q⟩:=e3 pI;obtain⟨p',_⟩:=k3 pI;exact⟨pI,pI,pI,p,p',q⟩
structure VT (c:C4):Prop where
 tag:c.1.length<=tW
 com:c.2.1.length<=tW/\∀y∈c.2.1,y.length<=tW
 fld:c.2.2.1.length<=tW/\∀y∈c.2.2.1,y.1.length<=tW/\y.2.1.length<=tW
 ent: ∀x∈c.2.2.2.1,a8B x
structure DJ (c:C4):Prop where
 tag:c.1.length<=100
 com:B7 c.2.1
 fld:HK c.2.2.1
 len:c.2.2.2.1.length<=1000
 ent: ∀x∈c.2.2.2.1,MS x
def aHT {c:C4}(hc:VT c) (hl:c.2.2.2.1.length<=12): ∀(n i:Nat),i+n=c.2.2.2.1.length->
  ∃r,s5 (JZ c) (i:Int)=some r/\(r= .inr false\/(r= .inl ()/\∀x∈c.2.2.2.1.drop i,MS x))
 |0,i,hi=>by
  have:i=c.2.2.2.1.length:=by omega
  subst this;refine⟨.inl (),zB ?_,.inr ⟨rfl,fun x hx=>by rw[aTb] at hx;cases hx⟩⟩;unfold JZ;rw[aR4 (w4 _)]
 |n+1,i,hi=>by
  have h:i<c.2.2.2.1.length:=by omega
  obtain⟨b,e1,e2,e3⟩:=aOM _ (hc.ent _ (aSX h));have hst:JZ c (i:Int)=if (!b)=true then some (.inr (.inr false)) else some (.inl ((i+1:Nat):Int)):=by
   unfold JZ;rw[aRZ (vS h),aRZ (tH h),KD (t:=sM) h,e1,aR2,e2,aRZ (vB pI)];rfl
  cases b with
  |false=>exact⟨_,zB hst,.inl rfl⟩
  |true=>
   obtain⟨r,k,k2⟩:=aHT hc hl n (i+1) pI;refine⟨r,by rw[G5 hst,k],k2.imp id fun⟨a,b⟩=>⟨a,fun x hx=>?_⟩⟩;rw[aSC h] at hx;rcases aSa.1 hx with rfl|hx
   .exact e3 rfl
   exact b x hx
def aON {c:C4}(hc:VT c): ∃b,K0 c=some b/\(b=true->DJ c):=by
 obtain⟨r,e,e1,e2,e3⟩:=a8A hc.com.1 hc.com.2 hc.fld.1 hc.fld.2;unfold K0;rw[e,aRZ w5];by_cases hb:(((decide ((100:Int)<(c.1.length:Int)))||(decide ((6000:Int)<(val (some r)))))||(decide ((12:Int)<(c.2.2.2.1.length:Int))))=true
 .rw[aRZ hb];exact⟨false,rfl,fun h=>by cases h⟩
 rw[aR4 hb];simp only[aS7,aSi] at hb;have hr: ¬(6000:Int)<r:=fun h=>hb (.inl (.inr h));obtain⟨p,q⟩:=e3 pI;obtain⟨r',k,k2⟩:=aHT hc pI c.2.2.2.1.length 0 pI;have k':s5 (JZ c) (0:Int)=some r':=k;rw[k'];rcases k2 with rfl|⟨rfl,k3⟩
 .exact⟨false,rfl,fun h=>by cases h⟩
 exact⟨true,rfl,fun _=>⟨pI,p,q,pI,by rw[aTx] at k3;exact k3⟩⟩
def F9 {l:pE}(h:l.length<=6000):sO l:=by unfold sO;omega
def a8C {l:pF}(h:B7 l):sO l/\∀y∈l,sO y:=⟨by have:=h.1;unfold sO;omega,fun y hy=>F9 (h.2 y hy)⟩
def aHU {l:List wH}(h:HK l):sO l/\∀y∈l,QR y:=⟨by have:=h.1;unfold sO;omega,fun y hy=>⟨F9 (h.2 y hy).1,F9 (h.2 y hy).2⟩⟩
def MS.fitP {x:wI}(h:MS x):VR x:=⟨F9 h.id,F9 h.src,F9 h.tgt,a8C h.com,a8C h.flg,aHU h.fld⟩
def DJ.fitP {c:C4}(h:DJ c):QS c:=⟨F9 (by have:=h.tag;omega),a8C h.com,aHU h.fld,by have:=h.len;omega,fun x hx=>(h.ent x hx).fitP⟩
def aHV {σ ρ α:Type}{f:σ->Option (σ⊕ρ)}(st:Int->List α->σ) (out:List α->ρ) {n M B:Nat}(g:Nat->List α) (hg: ∀i,i<n->(g i).length<=B)
  (hf: ∀(i:Nat) s,i<n->s.length+B<=M->f (st i s)=some (.inl (st ((i:Int)+1) (s++g i)))) (he: ∀s,f (st n s)=some (.inr (out s))):
  ∀(k i:Nat) (s:List α),i+k=n->s.length+k*B<=M->s5 f (st i s)=some (out (s++(List.range' i k).flatMap g))
 |0,i,s,hi,_=>by
  have:i=n:=by omega
  subst this;rw[zB (he s)];simp
 |k+1,i,s,hi,hM=>by
  rw[aSR] at hM;have hgi:=hg i pI;rw[G5 (hf i s pI pI),show ((i:Int)+1)=((i+1:Nat):Int) by omega,aHV st out g hg hf he k (i+1) (s++g i) pI (by rw[aRX];omega),aTo,aSZ,aR9]
def aHW {α:Type}{g:Nat->List α}{B:Nat}: ∀(k i:Nat),(∀j,i<=j->j<i+k->(g j).length<=B)->((List.range' i k).flatMap g).length<=k*B
 |0,i,_=>by simp
 |k+1,i,h=>by
  rw[aTo,aSZ,aRX,aSR];have h1:=aHW k (i+1) fun j h1 h2=>h j pI pI;have h2:=h i pI pI;omega
def DK {σ ρ α:Type}{f:σ->Option (σ⊕ρ)}(st:Int->List α->σ) (out:List α->ρ) {n M B:Nat}(g:Nat->List α) (hg: ∀i,i<n->(g i).length<=B) (s:List α) (hM:s.length+n*B<=M)
  (hf: ∀(i:Nat) s,i<n->s.length+B<=M->f (st i s)=some (.inl (st ((i:Int)+1) (s++g i)))) (he: ∀s,f (st n s)=some (.inr (out s))):
  s5 f (st 0 s)=some (out (s++(List.range' 0 n).flatMap g)):=aHV st out g hg hf he n 0 s pI hM
def KH {α β:Type}{l:List α}{d:α}(h:α->List β):(List.range' 0 l.length).flatMap (fun i=>h (l.getD i d))=l.flatMap h:=by
 have e:(List.range' 0 l.length).map (fun i=>l.getD i d)=l:=by
  apply List.ext_getElem
  .simp
  intro i h1 h2;simp [aSo,h2]
 conv=>rhs;rw[<-e]
 rw[List.flatMap_map]
def VU {α β:Type}{l:List α}{h:α->List β}{B:Nat}(hb: ∀x∈l,(h x).length<=B):(l.flatMap h).length<=l.length*B:=by
 induction l with
 |nil=>simp
 |cons x l ih=>
  rw[aSZ,aRX,aR1,aSR];have h1:=hb x aSf;have h2:=ih fun y hy=>hb y (aSb _ hy);omega
def KI (n b:Nat) (first:Bool):pE:=(GU (n:Int) (b:Int) first).getD []
def aOO:((List.range 256).all fun b=>[true,false].all fun f=>decide (GU 2 (b:Int) f=some (KI 2 b f))&&(decide (JU 2 (b:Int) f=some (KI 2 b f))&&decide ((KI 2 b f).length<=6)))=true:=by kernel_rfl
def a8D {n b:Nat}(hn:n=2) (hb:b<256) (f:Bool):GU (n:Int) (b:Int) f=some (KI n b f)/\JU (n:Int) (b:Int) f=some (KI n b f)/\(KI n b f).length<=6:=by
 have hf:f∈[true,false]:=by cases f<;>simp
 subst hn;have h:=aS2.1 (aS2.1 aOO b (by simpa using hb)) f hf;simpa using h
def QT (n:Nat) (s:pE) (i:Nat):pE:=KI n (s.getD i 0).toNat (decide (i=0))
def KJ (n:Nat) (s:pE):pE:=(List.range' 0 s.length).flatMap (QT n s)
def a8E {n:Nat}(hn:n=2) (s:pE) (i:Nat):(QT n s i).length<=6:=(a8D hn (UInt8.toNat_lt _) _).2.2
def a8F {n:Nat}(hn:n=2) (s:pE):(KJ n s).length<=6*s.length:=by
 have:=aHW (g:=QT n s) (B:=6) s.length 0 fun j _ _=>a8E hn s j;unfold KJ;omega
def aHX {s:pE}{i:Nat}:rY s (i:Int)=((s.getD i 0).toNat:Int):=by unfold rY;rw[aSP]
def a8G {i:Nat}:decide ((i:Int)=0)=decide (i=0):=aS9.2 pI
def aHY {l:pS}{g:Nat->pE}:l.flatMap (fun i=>tX (g i))=tX (l.flatMap g):=by
 induction l with
 |nil=>rfl
 |cons x l ih=>rw[aSZ,aSZ,aHG,ih]
def a8H (l:pE):(tX l).length=l.length:=by simp [tX]
def aOP {n:Nat}(hn:n=2) {s:pE}(hs:sO s):GX (n:Int) s=some (KJ n s):=by
 unfold sO at hs;have hn4: ¬decide ((n:Int)=4)=true:=by simp;omega
 have h:=DK (f:=PZ (n:Int) s) (fun i b=>(i,b)) (fun b=>b) (n:=s.length) (M:=10000000000000) (B:=6) (fun i=>tX (QT n s i)) (fun i _=>by rw[a8H];exact a8E hn s i) [] pL (fun i b hi hM=>by
  obtain⟨e1,_,e3⟩:=a8D hn (UInt8.toNat_lt (s.getD i 0)) (decide (i=0));unfold PZ;dsimp only;rw[aRZ (vS hi),aR4 hn4,aRZ (tH hi),aHX,a8G,e1,aR2];unfold D8;rw[aRZ (by dsimp only;omega),aR2,aRZ (vB pI)];rfl) (fun b=>by
  unfold PZ;dsimp only;rw[aR4 (w4 _)])
 unfold GX;rw[aR4 pL,h,aHY];unfold tA;rw[aR2,List.nil_append,a8w];rfl
def aOQ {n:Nat}(hn:n=2) {s:pE}(hs:sO s):GY (n:Int) s=some (KJ n s):=by
 unfold sO at hs;have h:=DK (f:=Q0 (n:Int) s) (fun i b=>(b,i)) (fun b=>b) (n:=s.length) (M:=10000000000000) (B:=6) (fun i=>tX (QT n s i)) (fun i _=>by rw[a8H];exact a8E hn s i) [] pL (fun i b hi hM=>by
  obtain⟨_,e2,e3⟩:=a8D hn (UInt8.toNat_lt (s.getD i 0)) (decide (i=0));unfold Q0;dsimp only;rw[aRZ (vS hi),aRZ (tH hi),aHX,a8G,e2,aR2,aRZ pI,aRZ (vB pI)];rfl) (fun b=>by
  unfold Q0;dsimp only;rw[aR4 (w4 _)])
 unfold GY;rw[aR4 pL,h,aHY];unfold tA;rw[aR2,List.nil_append,a8w];rfl
def FA (h:pE) (l:pF) (t:pE):pE:=h++(l.flatten++t)
def aHZ {f:(Int×pE)->pO->Option (pO⊕pE)}(hf: ∀it b,b.length+it.2.length<=140737488355328->f it b=some (.inl (b++tX it.2))): ∀(l:List (Int×pE)) (b:pO),
  b.length+((l.map (·.2)).flatten).length<=140737488355328->A5 f l b=some (.inl (b++tX (l.map (·.2)).flatten))
 |[],b,_=>by simp [A5,tX]
 |it::l,b,h=>by
  simp only[aS0,aTG,aRX] at h;unfold A5;rw[hf it b pI,aR2];show A5 f l _=_;rw[aHZ hf l _ (by rw[aRX,a8H];omega)];simp only[aS0,aTG,aHG,aR9]
def aH0 (d:tR):((AO d).map (·.2)).flatten=FA d.1 d.2.1 d.2.2.1:=by
 unfold AO FA;have e:(List.range d.2.1.length).map (fun j=>d.2.1.getD j [])=d.2.1:=by
  apply List.ext_getElem
  .simp
  intro i h1 h2;simp [aSo,h2]
 have e2:(((List.range d.2.1.length).map fun j:Nat=>((j:Int)+1,d.2.1.getD j [])).map (·.2))=d.2.1:=by
  rw[List.map_map];exact e
 simp only[aS0,List.map_append,List.map_nil,aTG,List.flatten_append,List.flatten_nil,List.append_nil,e2,aR9]
def aH1 (d:tR) (hl:d.2.1.length<=900000) (hb:(FA d.1 d.2.1 d.2.2.1).length<=140737488355328):JM d=some (FA d.1 d.2.1 d.2.2.1):=by
 have h:=aHZ (f:=V4) (fun it b h=>by
  unfold V4 D8;rw[aRZ h,aR2]) (AO d) [] (by rw[aH0];simpa using hb)
 unfold JM;rw[aRZ pI,h,aH0];unfold tO;dsimp only;rw[aR2];simp only[List.nil_append,a8w]
def aOR (d:tR) (hl:d.2.1.length<=900000) (hb: ∀x∈([d.1]++d.2.1)++[d.2.2.1],x.length<=100000000000):JR d=some (FA d.1 d.2.1 d.2.2.1):=by
 obtain⟨L,hL⟩: ∃L,([d.1]++d.2.1)++[d.2.2.1]=L:=⟨_,rfl⟩;have hLl:L.length=d.2.1.length+2:=by rw[<-hL];simp
 rw[hL] at hb;have h:=DK (f:=PN d) (fun i s=>(s,i)) (fun s=>s) (n:=L.length) (M:=1000000000000000000) (B:=100000000000) (fun i=>L.getD i []) (fun i hi=>hb _ (DI hi)) [] pL (fun i s hi hM=>by
  unfold PN;dsimp only;have:=hb _ (DI (d:=[]) hi);rw[hL,aRZ (vS hi),aRZ (tH hi),KG,aRZ (by rw[aRX];omega),aRZ (vB pI)]) (fun b=>by
  unfold PN;dsimp only;rw[hL,aR4 (w4 _)])
 unfold JR EN;rw[aRZ pL,aRZ pL,aR2,h];unfold tA;rw[aR2,KH (l:=L) (d:=[]) (fun x=>x)];congr 1;rw[List.nil_append,<-hL];unfold FA;simp
def MT {l:pF}(h:B7 l) {i:Nat}(hi:i<l.length):(l.getD i []).length<=6000:=h.2 _ (DI hi)
def VV {l:List wH}(h:HK l) {i:Nat}(hi:i<l.length):(l.getD i fD).1.length<=6000/\(l.getD i fD).2.1.length<=6000:=h.2 _ (DI hi)
def a8I {n:Int}(h0:0<=n) (h1:n<=4):(qR .str BM n).length<=10:=by
 have:n=0\/n=1\/n=2\/n=3\/n=4:=by omega
 rcases this with rfl|rfl|rfl|rfl|rfl<;>decide
def aH2 {α β:Type}{f:α->β}{l:List α}:l.flatMap (fun x=>[f x])=l.map f:=by
 induction l with
 |nil=>rfl
 |cons x l ih=>rw[aSZ,ih];rfl
def a8J {x:wI}(h:HI x=true):0<=x.2.2.2.2.2.1/\x.2.2.2.2.2.1<=4:=by
 unfold HI at h;simp only[aSj,aSi] at h;exact h.1.2
theorem t7 {l:pE}(h:l.length≤4000000000):(l.length:Int)≤9223372036854775807:=by omega
def qt (s:pE):pE:=(([34]:pE)++KJ 2 s)++([34]:pE)
theorem xA {s:pE}(h:s.length≤6000):(qt s).length≤36002:=by
  have:=a8F (n:=2) rfl s;simp only[qt,aRX,aR1,aSe];omega
theorem KK {s:pE}(h:s.length≤6000):zN s=some (qt s):=by
  have h1:=a8F (n:=2) rfl s;unfold zN;rw[show GX (2:Int) s=some (KJ 2 s) from aOP (n:=2) rfl (F9 h),aR2]
  repeat rw[aRZ (t7 (by simp only[aRX,aR1,aSe];omega))]
  rfl
theorem KL {s:pE}(h:s.length≤6000):zO s=some (qt s):=by
  have h1:=a8F (n:=2) rfl s;unfold zO;rw[show GY (2:Int) s=some (KJ 2 s) from aOQ (n:=2) rfl (F9 h),aR2]
  repeat rw[aRZ (t7 (by simp only[aRX,aR1,aSe];omega))]
  rfl
abbrev aOS:pE:=([32,32,99,111,109,109,101,110,116,32]:pE)
abbrev aOT:pE:=([32,32,102,105,101,108,100,32]:pE)
abbrev DL:pE:=([32,32,115,111,117,114,99,101,32]:pE)
abbrev DM:pE:=([32,32,116,97,114,103,101,116,32]:pE)
abbrev FB:pE:=([32,32,115,116,97,116,101,32]:pE)
abbrev aH3:pE:=([32,32,102,108,97,103,115,32]:pE)
abbrev a8K:pE:=([10,101,110,116,114,121,32]:pE)
abbrev aH4:pE:=([101,110,100,10]:pE)
abbrev aOU:pE:=([99,97,116,97,108,111,103,32]:pE)
def FC (s:pE):pE:=(aOS++qt s)++[10]
def HL (l:pF):pE:=l.flatMap FC
theorem a8L {s:pE}(h:s.length≤6000):(FC s).length≤36013:=by
  have:=xA h;simp only[FC,aRX,aR1,aSe];omega
theorem MU {l:pF}(h:B7 l):(HL l).length≤216078000:=by
  have:=VU (l:=l) (h:=FC) (B:=36013) fun x hx=>a8L (h.2 x hx);have h1:=h.1;unfold HL
  calc _≤l.length*36013:=this
    _≤6000*36013:=aTj _ h1
theorem aH5 {l:pF}(h:B7 l):GZ l=some (HL l):=by
  have hl:=h.1
  have k:=DK (f:=Q4 l) (fun i s=>(s,i)) (fun s=>s) (n:=l.length) (M:=1000000000) (B:=36013) (fun i=>FC (l.getD i [])) (fun i hi=>a8L (MT h hi)) [] pL (fun i s hi hM=>by
    have h2:=MT h hi;have h1:=xA h2;unfold Q4;dsimp only;rw[aRZ (vS hi),aRZ (tH hi),KG,KK h2,aR2]
    repeat rw[aRZ (t7 (by simp only[aRX,aR1,aSe];omega))]
    rw[aRZ (vB pI)];rfl) (fun b=>by
    unfold Q4;dsimp only;rw[aR4 (w4 _)])
  unfold GZ;rw[k,KH (l:=l) (d:=[]) FC];rfl
theorem aH6 {l:pF}(h:B7 l):H0 l=some (HL l):=by
  have hl:=h.1
  have k:=DK (f:=Q7 l) (fun i s=>(s,i)) (fun s=>s) (n:=l.length) (M:=1000000000) (B:=36013) (fun i=>FC (l.getD i [])) (fun i hi=>a8L (MT h hi)) [] pL (fun i s hi hM=>by
    have h2:=MT h hi;have h1:=xA h2;unfold Q7;dsimp only;rw[aRZ (vS hi),aRZ (t7 (by simp only[aRX,aR1,aSe];omega)),aRZ (tH hi),KG,KL h2,aR2]
    repeat rw[aRZ (t7 (by simp only[aRX,aR1,aSe];omega))]
    rw[aRZ (vB pI)];unfold FC;simp only[aR9]) (fun b=>by
    unfold Q7;dsimp only;rw[aR4 (w4 _)])
  unfold H0;rw[k,KH (l:=l) (d:=[]) FC];rfl
def FD (f:wH):pE:=(((aOT++qt f.1)++[32])++qt f.2.1)++[10]
def MV (l:List wH):pE:=l.flatMap FD
theorem a8M {f:wH}(h:f.1.length≤6000∧f.2.1.length≤6000):(FD f).length≤72014:=by
  have h1:=xA h.1;have h2:=xA h.2;simp only[FD,aRX,aR1,aSe];omega
theorem MW {l:List wH}(h:HK l):(MV l).length≤432084000:=by
  have:=VU (l:=l) (h:=FD) (B:=72014) fun x hx=>a8M (h.2 x hx);have h1:=h.1;unfold MV
  calc _≤l.length*72014:=this
    _≤6000*72014:=aTj _ h1
theorem a8N {l:List wH}(h:HK l):F4 l=some (MV l):=by
  have hl:=h.1
  have k:=DK (f:=Q5 l) (fun i s=>(s,i)) (fun s=>s) (n:=l.length) (M:=1000000000) (B:=72014) (fun i=>FD (l.getD i fD)) (fun i hi=>a8M (VV h hi)) [] pL (fun i s hi hM=>by
    have h2:=VV h hi;have h1:=xA h2.1;have h3:=xA h2.2;unfold Q5;dsimp only;rw[aRZ (vS hi),aRZ (tH hi),VP,KK h2.1,aR2]
    repeat rw[aRZ (t7 (by simp only[aRX,aR1,aSe];omega))]
    rw[KK h2.2,aR2]
    repeat rw[aRZ (t7 (by simp only[aRX,aR1,aSe];omega))]
    rw[aRZ (vB pI)];rfl) (fun b=>by
    unfold Q5;dsimp only;rw[aR4 (w4 _)])
  unfold F4;rw[k,KH (l:=l) (d:=fD) FD];rfl
theorem aH7 {l:List wH}(h:HK l):H5 l=some (MV l):=by
  have hl:=h.1
  have k:=DK (f:=Q9 l) (fun i s=>(s,i)) (fun s=>s) (n:=l.length) (M:=1000000000) (B:=72014) (fun i=>FD (l.getD i fD)) (fun i hi=>a8M (VV h hi)) [] pL (fun i s hi hM=>by
    have h2:=VV h hi;have h1:=xA h2.1;have h3:=xA h2.2;unfold Q9;dsimp only;rw[aRZ (vS hi),aRZ (t7 (by simp only[aRX,aR1,aSe];omega)),aRZ (tH hi),VP,KL h2.1,aR2]
    repeat rw[aRZ (t7 (by simp only[aRX,aR1,aSe];omega))]
    rw[aRZ (tH hi),KL h2.2,aR2]
    repeat rw[aRZ (t7 (by simp only[aRX,aR1,aSe];omega))]
    rw[aRZ (vB pI)];unfold FD;simp only[aR9]) (fun b=>by
    unfold Q9;dsimp only;rw[aR4 (w4 _)])
  unfold H5;rw[k,KH (l:=l) (d:=fD) FD];rfl
theorem aH8 (x:pE) (r:pF):yE (x::r) [32]=x++r.flatMap (fun y=>[32]++y):=by
  unfold yE;rw[Lib.join_cons];unfold Lib.joinTail;rw[List.flatMap_def]
theorem aH9 {l:pF}(h:B7 l):(yE l [32]).length≤36012000:=by
  cases l with
  |nil=>simp [yE,Lib.join_nil]
  | cons x r=>
    rw[aH8,aRX];have h1:=h.1;have h2:=h.2 x aSf
    have h3:=VU (l:=r) (h:=fun y=>[32]++y) (B:=6001) fun y hy=>by
      have:=h.2 y (aSb _ hy);simp only[aRX,aR1,aSe];omega
    simp only[aR1] at h1;have h4:r.length*6001≤6000*6001:=aTj _ pI;omega
def FE (l:pF):pE:=if l=[] then[] else(aH3++yE l [32])++[10]
theorem aOV {l:pF}(h:B7 l):(FE l).length≤36012009:=by
  unfold FE;split
  .simp
  have:=aH9 h
  simp only[aRX,aR1,aSe];omega
def DN (l:pF) (i:Nat):pE:=(if i=0 then([32,32,102,108,97,103,115]:pE) else[])++(([32]++l.getD i [])++(if i+1=l.length then[10] else[]))
theorem aOW {l:pF}(h:B7 l) {i:Nat}(hi:i<l.length):(DN l i).length≤6009:=by
  have:=MT h hi;unfold DN;rw[aRX,aRX,aRX];split<;>split<;>simp only[aR1,aSe]<;>omega
theorem aIa (l:pF): ∀(m i:Nat),0<i→i+m=l.length→0<m→(List.range' i m).flatMap (DN l)=((l.drop i).flatMap fun y=>[32]++y)++[10]
  |0,_,_,_,h=>by omega
  | m+1,i,h0,hi,_=>by
    have hil:i<l.length:=by omega
    rw[aTo,aSZ,aSC hil,aSZ]
    have hg:DN l i=([32]++l[i])++(if i+1=l.length then[10] else[]):=by
      unfold DN;rw[aR4 pI,List.nil_append,aSo,aR3 hil];rfl
    rw[hg];by_cases hm:m=0
    · subst hm
      rw[aRZ pI,List.drop_of_length_le pI];simp
    rw[aR4 pI,aIa l m (i+1) pI pI pI]
    simp
theorem aOX (l:pF):(List.range' 0 l.length).flatMap (DN l)=FE l:=by
  unfold FE;cases l with
  |nil=>rfl
  | cons x r=>
    rw[aR4 pK,aH8,aR1,aTo,aSZ]
    have hg:DN (x::r) 0=([32,32,102,108,97,103,115]:pE)++(([32]++x)++(if r=[] then[10] else[])):=by
      unfold DN;rw[aRZ rfl];cases r<;>simp
    rw[hg];by_cases hr:r=[]
    · subst hr
      simp
    rw[aR4 hr,aIa (x::r) r.length 1 pJ pL (aTB.2 hr)]
    simp
theorem aOY {x:wI}(h:B7 x.2.2.2.2.1) {s:pE}(hs:s.length≤500000000):s5 (MA x) (s,(0:Int))=some (s++FE x.2.2.2.2.1):=by
  have hl:=h.1
  have k:=DK (f:=MA x) (fun i s=>(s,i)) (fun s=>s) (n:=x.2.2.2.2.1.length) (M:=1000000000) (B:=6009) (DN x.2.2.2.2.1) (fun i hi=>aOW h hi) s pI (fun i s hi hM=>by
    have h2:=MT h hi;unfold MA;dsimp only;rw[aRZ (vS hi)];have hz:decide ((i:Int)=0)=decide (i=0):=a8G;have hlast:decide ((i:Int)=(x.2.2.2.2.1.length:Int)-1)=decide (i+1=x.2.2.2.2.1.length):=aS9.2 pI;have hi6:qD ((x.2.2.2.2.1.length:Int)-1):=by unfold qD;omega
    unfold DN;by_cases h0:i=0
    · rw[aRZ (show decide ((i:Int)=0)=true by rw[hz];simpa using h0),aRZ (t7 (by simp only[aRX,aR1,aSe];omega))]
      unfold tA;rw[aR2];rw[aRZ (t7 (by simp only[aRX,aR1,aSe];omega)),aRZ (tH hi),KG,aRZ (t7 (by simp only[aRX,aR1,aSe];omega)),aRZ hi6,hlast,aRZ h0];by_cases h3:i+1=x.2.2.2.2.1.length
      · rw[aRZ (by simpa using h3),aRZ (t7 (by simp only[aRX,aR1,aSe];omega)),aRZ (vB pI),aRZ h3]
        simp only[aR9]
      rw[aR4 (by simpa using h3),aRZ (vB pI),aR4 h3]
      simp only[aR9,List.append_nil]
    · rw[aR4 (show¬decide ((i:Int)=0)=true by rw[hz];simpa using h0)]
      unfold tA;rw[aR2];rw[aRZ (t7 (by simp only[aRX,aR1,aSe];omega)),aRZ (tH hi),KG,aRZ (t7 (by simp only[aRX,aR1,aSe];omega)),aRZ hi6,hlast,aR4 h0];by_cases h3:i+1=x.2.2.2.2.1.length
      · rw[aRZ (by simpa using h3),aRZ (t7 (by simp only[aRX,aR1,aSe];omega)),aRZ (vB pI),aRZ h3]
        simp only[aR9,List.nil_append]
      rw[aR4 (by simpa using h3),aRZ (vB pI),aR4 h3]
      simp only[aR9,List.append_nil,List.nil_append]) (fun b=>by
    unfold MA;dsimp only;rw[aR4 (w4 _)])
  rw[k,aOX]
def HO (p s:pE):pE:=if s=[] then[] else(p++qt s)++[10]
def QU (n:Int):pE:=if n=0 then[] else(FB++qR .str BM n)++[10]
theorem aIb {p s:pE}(hp:p.length≤10) (h:s.length≤6000):(HO p s).length≤36013:=by
  have:=xA h;unfold HO;split
  .simp
  simp only[aRX,aR1,aSe];omega
theorem aOZ {n:Int}(h0:0≤n) (h4:n≤4):(QU n).length≤19:=by
  have:=a8I h0 h4;unfold QU;split
  .simp
  simp only[aRX,aR1,aSe];omega
def iA (x:wI):pE:=((a8K++qt x.1)++[10])++HL x.2.2.2.1
def iB (x:wI):pE:=iA x++HO DL x.2.1
def iC (x:wI):pE:=iB x++HO DM x.2.2.1
def iD (x:wI):pE:=iC x++QU x.2.2.2.2.2.1
def iE (x:wI):pE:=iD x++FE x.2.2.2.2.1
def xV (x:wI):pE:=(iE x++MV x.2.2.2.2.2.2.1)++aH4
section
variable {x:wI}(h:MS x) (h0:0≤x.2.2.2.2.2.1) (h4:x.2.2.2.2.2.1≤4)
include h
theorem a8O:(iA x).length≤216114010:=by
  have h1:=xA h.id;have h2:=MU h.com;simp only[iA,aRX,aR1,aSe];omega
theorem a8P:(iB x).length≤216150023:=by
  have h1:=a8O h;have h2:=aIb (p:=DL) pJ h.src;unfold iB;rw[aRX];omega
theorem a8Q:(iC x).length≤216186036:=by
  have h1:=a8P h;have h2:=aIb (p:=DM) pJ h.tgt;unfold iC;rw[aRX];omega
include h0 h4
theorem a8R:(iD x).length≤216186055:=by
  have h1:=a8Q h;have h2:=aOZ h0 h4;unfold iD;rw[aRX];omega
theorem a8S:(iE x).length≤252198064:=by
  have h1:=a8R h h0 h4;have h2:=aOV h.flg;unfold iE;rw[aRX];omega
theorem aO0:(xV x).length≤684282068:=by
  have h1:=a8S h h0 h4;have h2:=MW h.fld;simp only[xV,aRX,aR1,aSe];omega
theorem aIc:0≤x.2.2.2.2.2.1∧x.2.2.2.2.2.1<(BM.length:Int):=⟨h0,by simp only[BM,aR1,aSe];omega⟩
theorem aO1:K2 x=some (xV x):=by
  have l1:=xA h.id;have l2:=MU h.com;have l3:=xA h.src;have l4:=xA h.tgt;have l5:=a8I h0 h4;have l6:=MW h.fld;have l7:=a8O h;have l8:=a8P h;have l9:=a8Q h;have l10:=a8R h h0 h4;have l11:=a8S h h0 h4;have hfl:=h.flg.1;have hst:=aIc h h0 h4;unfold K2;rw[KK h.id,aR2,aRZ (t7 (by simp only[aRX,aR1,aSe];omega)),aRZ (t7 (by simp only[aRX,aR1,aSe];omega)),aH5 h.com,aR2,aRZ (t7 (l:=((a8K++qt x.1)++[10])++HL x.2.2.2.1) (show (iA x).length≤_ by omega))]
  have e1:(if (!decide (x.2.1=([]:pE)))=true then
       (zN x.2.1).bind fun O=>
       if ((DL++O).length:Int)≤9223372036854775807 then
        if (((DL++O)++([10]:pE)).length:Int)≤9223372036854775807 then
         if ((iA x++((DL++O)++([10]:pE))).length:Int)≤9223372036854775807 then
          some ((iA x++((DL++O)++([10]:pE))))
         else none
        else none
       else none
      else some (iA x))=some (iB x):=by
    unfold iB HO;by_cases e:x.2.1=[]
    .rw[aR4 (by simp [e]),aRZ e,List.append_nil]
    rw[aRZ (by simp [e]),aR4 e,KK h.src,aR2]
    repeat rw[aRZ (t7 (by simp only[aRX,aR1,aSe];omega))]
  refine(aSk (fun o=>tA o _) e1).trans ?_;unfold tA;rw[aR2]
  have e2:(if (!decide (x.2.2.1=([]:pE)))=true then
       (zN x.2.2.1).bind fun Z=>
       if ((DM++Z).length:Int)≤9223372036854775807 then
        if (((DM++Z)++([10]:pE)).length:Int)≤9223372036854775807 then
         if ((iB x++((DM++Z)++([10]:pE))).length:Int)≤9223372036854775807 then
          some ((iB x++((DM++Z)++([10]:pE))))
         else none
        else none
       else none
      else some (iB x))=some (iC x):=by
    unfold iC HO;by_cases e:x.2.2.1=[]
    .rw[aR4 (by simp [e]),aRZ e,List.append_nil]
    rw[aRZ (by simp [e]),aR4 e,KK h.tgt,aR2]
    repeat rw[aRZ (t7 (by simp only[aRX,aR1,aSe];omega))]
  refine(aSk (fun o=>Option.bind o _) e2).trans ?_;rw[aR2]
  have e3:(if (!decide (x.2.2.2.2.2.1=(0:Int)))=true then
       if 0≤x.2.2.2.2.2.1∧x.2.2.2.2.2.1<(BM.length:Int) then
        if ((FB++qR .str BM x.2.2.2.2.2.1).length:Int)≤9223372036854775807 then
         if (((FB++qR .str BM x.2.2.2.2.2.1)++([10]:pE)).length:Int)≤9223372036854775807 then
          if ((iC x++((FB++qR .str BM x.2.2.2.2.2.1)++([10]:pE))).length:Int)≤9223372036854775807 then
           some ((iC x++((FB++qR .str BM x.2.2.2.2.2.1)++([10]:pE))))
          else none
         else none
        else none
       else none
      else some (iC x))=some (iD x):=by
    unfold iD QU;by_cases e:x.2.2.2.2.2.1=0
    .rw[aR4 (by simp [e]),aRZ e,List.append_nil]
    rw[aRZ (by simp [e]),aR4 e,aRZ hst]
    repeat rw[aRZ (t7 (by simp only[aRX,aR1,aSe];omega))]
  refine(aSk (fun o=>Option.bind o _) e3).trans ?_;rw[aR2];by_cases e:x.2.2.2.2.1=[]
  · rw[aR4 (by simp [e]),a8N h.fld,aR2,aRZ (t7 (by rw[aRX];omega)),aRZ (t7 (by simp only[aRX,aR1,aSe];omega))]
    unfold xV iE FE;rw[aRZ e,List.append_nil]
  have hj:=aH9 h.flg
  have hE:iD x++((aH3++yE x.2.2.2.2.1 [32])++[10])=iE x:=by unfold iE FE;rw[aR4 e]
  rw[aRZ (by have:=aTB.2 e;simp;omega),aRZ ⟨pI,pI⟩,aRZ (t7 (by simp only[aRX,aR1,aSe];omega)),aRZ (t7 (by simp only[aRX,aR1,aSe];omega)),aRZ (t7 (by simp only[aRX,aR1,aSe];omega)),a8N h.fld,aR2,hE,
    aRZ (t7 (by rw[aRX];omega)),aRZ (t7 (by simp only[aRX,aR1,aSe];omega))]
  rfl
theorem aO2:K3 x=some (xV x):=by
  have l1:=xA h.id;have l2:=MU h.com;have l3:=xA h.src;have l4:=xA h.tgt;have l5:=a8I h0 h4;have l6:=MW h.fld;have l7:=a8O h;have l8:=a8P h;have l9:=a8Q h;have l10:=a8R h h0 h4;have l11:=a8S h h0 h4;have hst:=aIc h h0 h4;unfold K3;rw[KL h.id,aR2,aRZ (t7 (by simp only[aRX,aR1,aSe];omega)),aRZ (t7 (by simp only[aRX,aR1,aSe];omega)),aH6 h.com,aR2,aRZ (t7 (l:=((a8K++qt x.1)++[10])++HL x.2.2.2.1) (show (iA x).length≤_ by omega))]
  have e1:(if (!decide (x.2.1=([]:pE)))=true then
       if ((iA x++DL).length:Int)≤9223372036854775807 then
        (zO x.2.1).bind fun aA=>
        if (((iA x++DL)++aA).length:Int)≤9223372036854775807 then
         if ((((iA x++DL)++aA)++([10]:pE)).length:Int)≤9223372036854775807 then
          some ((((iA x++DL)++aA)++([10]:pE)))
         else none
        else none
       else none
      else some (iA x))=some (iB x):=by
    unfold iB HO;by_cases e:x.2.1=[]
    .rw[aR4 (by simp [e]),aRZ e,List.append_nil]
    rw[aRZ (by simp [e]),aR4 e,aRZ (t7 (by simp only[aRX,aR1,aSe];omega)),KL h.src,aR2]
    repeat rw[aRZ (t7 (by simp only[aRX,aR1,aSe];omega))]
    simp only[aR9]
  refine(aSk (fun o=>tA o _) e1).trans ?_;unfold tA;rw[aR2]
  have e2:(if (!decide (x.2.2.1=([]:pE)))=true then
       if ((iB x++DM).length:Int)≤9223372036854775807 then
        (zO x.2.2.1).bind fun aA=>
        if (((iB x++DM)++aA).length:Int)≤9223372036854775807 then
         if ((((iB x++DM)++aA)++([10]:pE)).length:Int)≤9223372036854775807 then
          some ((((iB x++DM)++aA)++([10]:pE)))
         else none
        else none
       else none
      else some (iB x))=some (iC x):=by
    unfold iC HO;by_cases e:x.2.2.1=[]
    .rw[aR4 (by simp [e]),aRZ e,List.append_nil]
    rw[aRZ (by simp [e]),aR4 e,aRZ (t7 (by simp only[aRX,aR1,aSe];omega)),KL h.tgt,aR2]
    repeat rw[aRZ (t7 (by simp only[aRX,aR1,aSe];omega))]
    simp only[aR9]
  refine(aSk (fun o=>Option.bind o _) e2).trans ?_;rw[aR2]
  have e3:(if (!decide (x.2.2.2.2.2.1=(0:Int)))=true then
       if ((iC x++FB).length:Int)≤9223372036854775807 then
        (JF x.2.2.2.2.2.1).bind fun _=>
        if (((iC x++FB)++(qR .str BM x.2.2.2.2.2.1)).length:Int)≤9223372036854775807 then
         if ((((iC x++FB)++(qR .str BM x.2.2.2.2.2.1))++([10]:pE)).length:Int)≤9223372036854775807 then
          some ((((iC x++FB)++(qR .str BM x.2.2.2.2.2.1))++([10]:pE)))
         else none
        else none
       else none
      else some (iC x))=some (iD x):=by
    unfold iD QU;by_cases e:x.2.2.2.2.2.1=0
    .rw[aR4 (by simp [e]),aRZ e,List.append_nil]
    rw[aRZ (by simp [e]),aR4 e,aRZ (t7 (by simp only[aRX,aR1,aSe];omega)),show JF x.2.2.2.2.2.1=some () from by unfold JF;exact aRZ hst,aR2]
    repeat rw[aRZ (t7 (by simp only[aRX,aR1,aSe];omega))]
    simp only[aR9]
  refine(aSk (fun o=>Option.bind o _) e3).trans ?_;rw[aR2,aOY h.flg pI,aR2,aH7 h.fld,aR2,show iD x++FE x.2.2.2.2.1=iE x from rfl,aRZ (t7 (by rw[aRX];omega)),aRZ (t7 (by simp only[aRX,aR1,aSe];omega))];rfl
end
def CO (c:C4):pE:=(((((aOU++qt c.1)++[10])++HL c.2.1)++MV c.2.2.1))++aH4
def aO3 {c:C4}(hc:DJ c):(CO c).length<=900000000:=by
 have h1:=xA (s:=c.1) (by have:=hc.tag;omega);have h2:=MU hc.com;have h3:=MW hc.fld;simp only[CO,aRX,aR1,aSe];omega
def aId {c:C4}(hc:DJ c):H9 c=some (if yF c=true then(CO c,c.2.2.2.1.map xV,0) else([],[],1)):=by
 unfold H9;rw[aOI hc.fitP,aR2];by_cases hok:yF c=true
 .have hl:=hc.len;have ht:c.1.length<=6000:=by have:=hc.tag;omega
  have h1:=xA ht;have h2:=MU hc.com;have h3:=MW hc.fld;have k:=DK (f:=QD c) (fun i b=>(i,b)) (fun b=>b) (n:=c.2.2.2.1.length) (M:=1000000) (B:=1) (fun i=>[xV (c.2.2.2.1.getD i eD)]) (fun i hi=>by simp) [] pL (fun i b hi hM=>by
   obtain⟨r0,r4⟩:=a8J (a8y hok hi);unfold QD;dsimp only;rw[aRZ (vS hi),aRZ (tH hi),VS,aO1 (hc.ent _ (DI hi)) r0 r4,aR2,aRZ pL,aRZ (vB pI)]) (fun b=>by
   unfold QD;dsimp only;rw[aR4 (w4 _)])
  rw[hok,aR4 (show¬(!true)=true from by decide),aRZ rfl,KK ht,aR2]
  repeat rw[aRZ (t7 (by simp only[aRX,aR1,aSe];omega))]
  rw[aH5 hc.com,aR2,aRZ (t7 (by simp only[aRX,aR1,aSe];omega)),a8N hc.fld,aR2]
  repeat rw[aRZ (t7 (by simp only[aRX,aR1,aSe];omega))]
  rw[k,KH (l:=c.2.2.2.1) (d:=eD) (fun x=>[xV x])];unfold tA;rw[aR2,List.nil_append,aH2];rfl
 simp only[aTR] at hok;rw[hok,aRZ (show (!false)=true from rfl),aR4 pJ]
def aIe {c:C4}(hc:DJ c):HD c=some (if yF c=true then(CO c,c.2.2.2.1.map xV,0) else([],[],1)):=by
 unfold HD;rw[aOL hc.fitP,aR2];by_cases hok:yF c=true
 .have hl:=hc.len;have ht:c.1.length<=6000:=by have:=hc.tag;omega
  have h1:=xA ht;have h2:=MU hc.com;have h3:=MW hc.fld;have k:=DK (f:=QG c) (fun i b=>(i,b)) (fun b=>b) (n:=c.2.2.2.1.length) (M:=1000000) (B:=1) (fun i=>[xV (c.2.2.2.1.getD i eD)]) (fun i hi=>by simp) [] pL (fun i b hi hM=>by
   obtain⟨r0,r4⟩:=a8J (a8y hok hi);unfold QG;dsimp only;rw[aRZ (vS hi),aRZ (tH hi),VS,aO2 (hc.ent _ (DI hi)) r0 r4,aR2,aRZ pL,aRZ (vB pI)]) (fun b=>by
   unfold QG;dsimp only;rw[aR4 (w4 _)])
  rw[hok,aR4 (show¬(!true)=true from by decide),aRZ rfl,KL ht,aR2]
  repeat rw[aRZ (t7 (by simp only[aRX,aR1,aSe];omega))]
  rw[aH6 hc.com,aR2,aRZ (t7 (by simp only[aRX,aR1,aSe];omega)),aH7 hc.fld,aR2]
  repeat rw[aRZ (t7 (by simp only[aRX,aR1,aSe];omega))]
  rw[k,KH (l:=c.2.2.2.1) (d:=eD) (fun x=>[xV x])];unfold tA;rw[aR2,List.nil_append,aH2];rfl
 simp only[aTR] at hok;rw[hok,aRZ (show (!false)=true from rfl),aR4 pJ]
def aIf {c:C4}(hc:DJ c) (hok:yF c=true): ∀x∈([CO c]++c.2.2.2.1.map xV)++[[]],x.length<=2000000000:=by
 intro x hx;simp only[aSW,aSd,List.mem_map] at hx;rcases hx with(rfl|⟨y,hy,rfl⟩) |rfl
 .have:=aO3 hc;omega
 .obtain⟨i,hi,rfl⟩:=aTM hy;have he:=a8y hok hi;rw[aSo,aR3 hi] at he;obtain⟨r0,r4⟩:=a8J he;have:=aO0 (hc.ent _ hy) r0 r4;omega
 simp
def MX (c:C4):pE:=FA (CO c) (c.2.2.2.1.map xV) []
def aO4 {c:C4}(hc:DJ c) (hok:yF c=true):(MX c).length<=2004000000000:=by
 have h:=aIf hc hok;have hl:=hc.len;have e:MX c=(([CO c]++c.2.2.2.1.map xV)++[[]]).flatMap (fun x=>x):=by
  unfold MX FA;simp [List.flatMap_def];rfl
 have:=VU (l:=([CO c]++c.2.2.2.1.map xV)++[[]]) (h:=fun x=>x) (B:=2000000000) h;rw[e];simp only[aRX,aS5,aTL] at this;omega
def aO5 {c:C4}(hc:DJ c):HC c=some (if yF c=true then(MX c,0) else([],1)):=by
 unfold HC;rw[aId hc,aR2];by_cases hok:yF c=true
 .have hl:=hc.len;have:=aO4 hc hok;rw[aRZ hok,aRZ hok];dsimp only;rw[aH1 (CO c,(c.2.2.2.1.map xV,([],()))) pL (by show (MX c).length<=_;omega),aR2];rfl
 rw[aR4 hok,aR4 hok];dsimp only;rw[aH1 ([],([],([],()))) pK (by simp [FA]),aR2];rfl
def aO6 {c:C4}(hc:DJ c):HE c=some (if yF c=true then(MX c,0) else([],1)):=by
 unfold HE;rw[aIe hc,aR2];by_cases hok:yF c=true
 .have hl:=hc.len;rw[aRZ hok,aRZ hok];dsimp only;rw[aR4 (show¬(!decide ((0:Int)=0))=true from by decide),aOR (CO c,(c.2.2.2.1.map xV,([],()))) pL (fun x hx=>by have:=aIf hc hok x hx;omega),aR2];rfl
 rw[aR4 hok,aR4 hok];dsimp only;rw[aRZ (show (!decide ((1:Int)=0))=true from by decide)]
def aO7 {c:C4}(hc:VT c):KC c=some true:=by
 unfold KC;rw[aOy,aR2,aR4 pJ];obtain⟨b,hb,hf⟩:=aON hc;rw[hb,aR2];cases b with
 |false=>rw[aRZ (show (!false)=true from rfl)]
 |true=>
  have hw:=hf rfl;rw[aR4 pJ,aO5 hw,aO6 hw,aId hw,aIe hw];simp only[aR2];obtain⟨d,hd⟩: ∃d,(if yF c=true then(CO c,c.2.2.2.1.map xV,(0:Int)) else([],[],1))=d:=⟨_,rfl⟩;have hdl:d.2.1.length<=5000:=by
   have hl:=hw.len;rw[<-hd];split
   .simp;omega
   simp
  have hS:=aOw (d.1,(d.2.1,([],()))) hdl;rw[hd,hS,aRZ aOr];simp [val]
end Go.Proofs.YtcpbaddnmpeipaaGreatDoor
namespace Go.Proofs.YtcpbaddnmpeipaaGreatDoor
open Go.ChangeShapes Go.WideShapes Go.ChangeAt Go.RowKit
section
variable {H:Type}{enc:TypeId×pU->H}{P:Program}
theorem aO8 (hl:laidOutB P=true) {W W':pT}(hb:Below W.heap.size W W'):
  ∀{ts:List TypeId}{vs:pP}{ds:List (DataW H)}{ps:List MemPlace},(∀t∈ts,P.readableRec t=true/\t<P.types.size)->
  DataW.TrodAll enc P W 0 (fun _=>true) true ts vs ds ps->(∀x∈ps,x.block<W.heap.size)->
  DataW.TrodAll enc P W' 0 (fun b=>decide (b<W.heap.size)) true ts vs ds ps:=by
 intro ts
 induction ts with
 |nil=>
  intro vs ds ps _ h _;obtain⟨rfl,rfl,rfl⟩:=trodAll_nil h;exact trodAll_mk0
 |cons t ts ih=>
  intro vs ds ps hr h hlt;obtain⟨v,vs',d,ds',p,q,rfl,rfl,rfl,h0,r0⟩:=trodAll_cons h;exact trodAll_cons_mk (Below.trod hl (hr t pK).1 (hr t pK).2 h0 hb (fun x hx=>hlt x (by simp [hx]))) (ih (fun t' ht'=>hr t' (by simp [ht'])) r0 (fun x hx=>hlt x (by simp [hx])))
theorem aO9 {f:Func}{s:ChangeSpec}{W W':pT}{args:Array pU}{ds gs:List (DataW H)}{before:List MemPlace}{tb:TypeId}
  (hl:laidOutB P=true) (hr: ∀t∈f.params.toList,P.readableRec t=true/\t<P.types.size)
  (hW:DataW.Whole enc P f.params.toList s.vars false W args.toList ds gs before) (hv:s.vars=[])
  (hfn:s.fn H ds={results:=[.lit (.bool true)],args:=ds}) (hrt:f.resultTypes= #[tb]) (htb:P.underlying tb=some .bool)
  (hb:Below W.heap.size W W'):s.post enc P f false true false false W args (.bool true) W':=by
 have hW':=hW;obtain⟨p,q,hA,hV,rfl,hfz,hnd⟩:=hW;rw[hv] at hV;obtain⟨rfl,rfl⟩:=trodVars_none hV;have hlt: ∀x∈p,x.block<W.heap.size:=fun x hx=>by simpa using hW'.lt x (by simp [hx])
 refine⟨ds,[],p++[],[],p,[],hW',?_,?_,?_,hb.frame _,fun h=>by cases h⟩
 .rw[List.append_nil,hfn,hrt];exact trodAll_mk1 (shut_bool htb true)
 .rw[List.append_nil,hfn];exact aO8 hl hb hr hA hlt
 rw[hv,List.append_nil,hfn];rfl
end
section
variable {H:Type}{enc:TypeId×pU->H}
theorem aPa {C:Checked}{f:FuncId}{fn:Func}{s:ChangeSpec}{tb:TypeId}{DO:List (String×DataW Unit)}(own:ownKnob C.prog.godebug=none) {os:Os}(started:os.Started) (F:Stop.Interp)
  (noInit:C.prog.inits.idxOf? f=none) (hfn:C.prog.funcs[f]? =some fn)
  (hl:laidOutB C.prog=true) (hr: ∀t∈fn.params.toList,C.prog.readableRec t=true/\t<C.prog.types.size) (hv:s.vars=[])
  (hrt:fn.resultTypes= #[tb]) (htb:C.prog.underlying tb=some .bool)
  (hspec: ∀(ds:List (DataW H)) (W:pT) (args:Array pU) ps,DataW.TrodAll enc C.prog W 0 (fun _=>true) true fn.params.toList args.toList ds ps->s.fn H ds={results:=[.lit (.bool true)],args:=ds})
  (witness: ∃(w:pT) (tape:Tape) (i:Input),w.os=os/\(w.forCall tape i).Shaped C.prog/\i.vars=[]/\Input.okWide C.prog (w.forCall tape i) .any w.heap.size f i/\
   (OpenSpec.ofChange s).preRow enc C.prog fn [] false DO (w.forCall tape i).memory i.args/\Assume.holds {} C.prog (lone (Frame.enter C.prog f i.args .normal) [] (w.forCall tape i)))
  (contract: ∀(W:pT) (base:Nat) (args:Array pU) (ds:List (DataW H)) (ps:List MemPlace),
   (∀(j:Nat) t v,fn.params[j]? =some t->args[j]? =some v->Value.okWide C.prog W .any base t v)->
   DataW.TrodAll enc C.prog W 0 (fun _=>true) true fn.params.toList args.toList ds ps->
   (∀x∈ps,x.block<W.heap.size)->(DataW.weightsEach C.prog fn.params.toList ds).all (·<=reachBytes)=true->laidMetH C.prog DO W->W.ShapedOpen C.prog->
   Calls C.prog f args W fun e W'=>e= .returned (.bool true)/\Below W.heap.size W W'):
  ReturnsInHanded {} C os f .any ((OpenSpec.ofChange s).preRow enc C.prog fn [] false DO) (s.post enc C.prog fn false true false false):=by
 refine returnsInHanded_of_row (C:=C) (s:=OpenSpec.ofChange s) (F:=F) own started noInit hfn witness ?_;intro W base args ds gs before hval hW _ _ hsz hL hsh _;have hW':=hW;obtain⟨p,q,hA,hV,rfl,hfz,hnd⟩:=hW;have hV':DataW.TrodVars enc C.prog W (fun _=>true) s.vars gs q:=hV;rw[hv] at hV';obtain⟨rfl,rfl⟩:=trodVars_none hV';have hlt: ∀x∈p,x.block<W.heap.size:=fun x hx=>by simpa using hW'.lt x (by simp [hx])
 have hvt:(OpenSpec.ofChange s).bare.plain.varTypes C.prog=[]:=by
  simp [OpenSpec.ofChange,ChangeSpec.plain,hv];rfl
 rw[hvt,List.append_nil,List.append_nil] at hsz;refine(contract W base args ds p hval hA hlt hsz hL hsh).mono fun e W' ⟨he,hb⟩=>?_;subst he;exact⟨_,rfl,aO9 hl hr hW' hv (hspec ds W args p hA) hrt htb hb⟩
end
end Go.Proofs.YtcpbaddnmpeipaaGreatDoor
namespace Go.Proofs.YtcpbaddnmpeipaaGreatDoor
open Go.Shelf Go.Lib
open Vc
theorem aPb:(Rows.laid_unicode_utf8_first:DataW Unit)=Lib.firstData:=by kernel_rfl
theorem aPc:(Rows.laid_unicode_utf8_acceptRanges:DataW Unit)=Lib.acceptData:=by kernel_rfl
def aIg:pO:=[0,1,56,2,57,49,28,3,61,58,42,50,38,29,17,4,62,47,59,36,45,43,51,22,53,39,33,30,24,18,12,5,63,55,48,27,60,41,37,16,46,35,44,21,52,32,23,11,54,26,40,15,34,20,31,10,25,14,19,9,13,8,7,6]
theorem aPd:(Rows.laid_math_bits_deBruijn64tab:DataW Unit)=Lib.tabData .u8 aIg:=by kernel_rfl
theorem aPe {P:Program}{w:pT}{g:Nat}{t:TypeId}{k:IntKind}{zero:Array pU}(h:w.ShapedOpen P) (hg:g<P.globals.size)
  (h0:((begin P (fun _ _=>0) default).world.heap[g]?).bind Obj.row? =some (zero,t)) (hz:zero.size=1)
  (hb:P.buildable t=true) (hc:P.cellTypes P.depth t=some [t]) (hu:P.underlying t=some (.int k)): ∃m,w.cell? ⟨g,0,none⟩=some (.int k m):=by
 obtain⟨cs,hh,hs,hr⟩:=h.1 g zero t hg h0;obtain⟨ts,hts,_,hall⟩:=hr hb;rw[hc] at hts;cases hts;have h1:0<cs.size:=by omega
 obtain⟨u,hu',hok⟩:=hall 0 cs[0] (by simp [h1]);have:u=t:=by simpa using hu'.symm
 subst this;have hcell:w.cell? ⟨g,0,none⟩=some cs[0]:=by simp [World.cell?,hh,h1]
 rw[hcell];unfold Cell.ok at hok;rw[hu] at hok;cases hv:cs[0]<;>rw[hv] at hok<;>simp at hok
 rename_i k' m;exact⟨m,by rw[hok.1]⟩
theorem aPf {W:pT}(hsh:W.ShapedOpen Tryz.prog): ∃m,W.cell? ⟨0,0,none⟩=some (.int .i64 m):=
 aPe (t:=3) (zero:= #[.int .i64 0]) hsh (aSD pW) pW rfl pW pW Tryz.underlying3
def aPg:Ren:=⟨fun x=>x,fun x=>if x=5 then 5 else if x=119 then 218 else if x=138 then 220 else 221,fun x=>if x=3 then 1 else 2⟩
theorem aPh {w:pT}{a:Addr}{v:pU}(h:w.cell? a=some v):a.block<w.heap.size:=by
 unfold World.cell? at h;split at h
 .rename_i hb;exact(aSn.1 hb).1
 cases h
theorem aPi {W:pT}(hL:laidMet Tryz.prog Rows.blocksPrintRow.laid W) (hsh:W.ShapedOpen Tryz.prog):CP W:=by
 obtain⟨m,hm⟩:=aPf hsh;have h0:=laidMet.reads hL (.tail _ (.head _));have h1:=laidMet.reads hL (.tail _ (.tail _ (.tail _ (.head _))));have h2:=laidMet.reads hL (.tail _ (.tail _ (.tail _ (.tail _ (.head _)))));rw[aPd] at h0;rw[aPb] at h2;rw[aPc] at h1;have hU:Lib.Utf8Tabs 1 2 W:=utf8Tabs_of_readsT (ρ:=aPg) ⟨pW,pW,pW,pW⟩ ⟨pW,pW,pW,pW,pW,pW,pW⟩ h2 h1;have hT:W.cell? ⟨5,15,none⟩=some (.int .u8 4):=by
  obtain⟨g,t,cs,fuel,p,hg,ht,hv,hd⟩:=h0;have hg0:Tryz.prog.globalNamed "math/bits.deBruijn64tab" =some 5:=by kernel_rfl
  have ht0:(Tryz.prog.globals[5]?).map (·.type)=some 273:=by kernel_rfl
  obtain rfl:=aRY (hg0.symm.trans hg);obtain rfl:=aRY (ht0.symm.trans ht);have hc:=cells_of_tab Tryz.underlying273 Tryz.underlying5 pW pW hd;rw[World.var?_cell hg hv 15,<-aSJ,hc];rfl
 refine⟨?_,hU,⟨m,hm⟩,fun x hx=>?_⟩
 .have b0:5<W.heap.size:=aPh hT;show 6<=W.heap.size;omega
 unfold a8W at hx;obtain rfl:=aSd.1 hx;exact⟨pJ,hT⟩
noncomputable def VW (os:Os):pT:=
 let w0:=World.holding Tryz.prog os ⟨#[],#[],[]⟩
 let tK (h:Array Obj) (g:Nat) (cs:Array pU):Array Obj:=h.modify g fun
  | .cells _ t frozen=> .cells cs t frozen
  |o=>o
 let h1:=tK w0.heap 1 (Lib.firstTab.map fun z=>Value.int .u8 z).toArray
 let h2:=tK h1 2 ((List.range 16).flatMap fun i=>[Value.int .u8 (Lib.accLo i),Value.int .u8 (Lib.accHi i)]).toArray
 let h3:=tK h2 5 (aIg.map fun z=>Value.int .u8 z).toArray
 let h4:=tK h3 4 (([0,1,28,2,29,14,24,3,30,22,20,15,25,17,4,8,31,27,13,23,21,19,16,7,26,12,18,6,11,5,10,9]:pO).map fun z=>Value.int .u8 z).toArray
 let h5:=tK h4 3 ((List.range 20).map fun i=>Value.int .u64 (10^i)).toArray
 {w0 with heap:=h5}
theorem aPj (os:Os) (args:Array pU):laidMet Tryz.prog Rows.blocksPrintRow.laid ((VW os).forCall (fun _ _=>0) ⟨#[],args,[]⟩).memory:=
 (LaidIn.of_run [4,5,3,2,1] 8 pW pW pW pW:LaidIn Tryz.prog _ Rows.blocksPrintRow.laid _).met
end Go.Proofs.YtcpbaddnmpeipaaGreatDoor
namespace Go.Proofs.YtcpbaddnmpeipaaGreatDoor
open Vc Go.RowKit
inductive a8T where
 |ty (t:TypeId) |fs (o:Nat) (l:List Field)
inductive xB (P:Program):a8T->Ty->Prop
 |bool {t}:P.underlying t=some .bool->xB P (.ty t) .bool
 |int {t k}:P.underlying t=some (.int k)->xB P (.ty t) (.int k)
 |str {t}:P.underlying t=some .string->xB P (.ty t) .str
 |list {t e u}:P.underlying t=some (.slice e)->P.cellsOf e=u.cells->0<u.cells->0<P.bytesOf e->xB P (.ty e) u->xB P (.ty t) (.list u)
 |struct {t fs ty}:ty.isRow=true->P.underlying t=some (.struct fs)->P.cellsOf t=ty.cells->xB P (.fs 0 fs.toList) ty->xB P (.ty t) ty
 |nil {o}:xB P (.fs o []) .unit
 |cons {o}{f:Field}{r a b}:f.offset=o->P.cellsOf f.type=a.cells->xB P (.ty f.type) a->xB P (.fs (o+a.cells) r) b->xB P (.fs o (f::r)) (.pair a b)
def Bd:(t:Ty)->t.den->Prop
 | .str,s=>List.length s<=140737488351232
 | .int k,n=>(Lit.int k n).wf=true
 | .list u,l=>List.length l<=140737488351232/\∀x:u.den,x∈(l:List u.den)->Bd u x
 | .pair a b,x=>Bd a x.1/\Bd b x.2
 |_,_=>True
def HP (w:pT):Gh:=⟨fun b _=>b<w.heap.size,fun _=>none,fun _ _=>none⟩
theorem aIh {α:Type}{R:α->pP->Prop}{w:pT}{S:Nat->Nat->Prop}{c b:Nat}: ∀{l:List α}{o:Nat},(∀i x,l[i]? =some x->∃cs,cs.length=c/\w.rangeAt b (o+i*c) cs/\(∀j,j<c->S b (o+i*c+j))/\R x cs)->x4 R w S c b o l
 |[],_,_=>trivial
 |x::l,o,h=>by
  refine⟨?_,aIh fun i y hy=>?_⟩
  .obtain⟨cs,h1,h2,h3,h4⟩:=h 0 x rfl;exact⟨cs,h1,by simpa using h2,by simpa using h3,h4⟩
  obtain⟨cs,h1,h2,h3,h4⟩:=h (i+1) y (by simpa using hy);have e:o+(i+1)*c=o+c+i*c:=by rw[aSR];omega
  exact⟨cs,h1,by rw[<-e];exact h2,by rw[<-e];exact h3,h4⟩
section
variable {H:Type}{enc:TypeId×pU->H}{P:Program}{W:pT}
theorem aIi {e:TypeId}: ∀{l:List (DataW H)}{i:Nat}{d:DataW H},l[i]? =some d->∀n∈d.weights P e,n∈DataW.weightsAll P e l
 |d0::l,0,d,h,n,hn=>by
  simp only[aSt,aRV] at h;subst h;simp only[DataW.weightsAll,aSW];exact .inl hn
 |d0::l,i+1,d,h,n,hn=>by
  simp only[aSx] at h;simp only[DataW.weightsAll,aSW];exact .inr (aIi h n hn)
 |[],_,_,h,_,_=>by simp at h
def aPk (enc:TypeId×pU->H) (P:Program) (W:pT):a8T->Ty->Prop
 | .ty t,u=> ∀(fuel:Nat) (cs:pP) (y:DataW H×List MemPlace),DataW.trod enc P W 0 (fun _=>true) true fuel t cs=some y->(∀n∈y.1.weights P t,n<=reachBytes)->∃x:u.den,Rd (HP W) W u x cs/\Bd u x
 | .fs o l,u=> ∀(fuel:Nat) (cs:pP) (xs:List (DataW H×List MemPlace)),cs.length=o+u.cells->xs.length=l.length->(∀(i:Nat) (f:Field),l[i]? =some f->DataW.trod enc P W 0 (fun _=>true) true fuel f.type ((cs.drop f.offset).take (P.cellsOf f.type))=xs[i]?)->(∀n∈DataW.weightsEach P (l.map (·.type)) (xs.map (·.1)),n<=reachBytes)->∃x:u.den,Rd (HP W) W u x (cs.drop o)/\Bd u x
theorem aPl {e:TypeId}{u:Ty}{a:Addr}{len cap:Nat}(hc:P.cellsOf e=u.cells) (hpos:0<u.cells) (hcap:len<=cap)
  (each: ∀i,i<len->∃(cs:pP) (x:u.den),W.cells? 0 (a.add (i*u.cells)) u.cells=some cs/\Rd (HP W) W u x cs/\Bd u x):
  ∃l:List u.den,l.length=len/\Rd (HP W) W (.list u) l [.slice (some a) len cap]/\∀x∈l,Bd u x:=by
 have build: ∀k,k<=len->∃l:List u.den,l.length=k/\∀i x,l[i]? =some x->∃cs:pP,W.cells? 0 (a.add (i*u.cells)) u.cells=some cs/\Rd (HP W) W u x cs/\Bd u x:=by
  intro k
  induction k with
  |zero=>intro _;exact⟨[],rfl,fun i x h=>by simp at h⟩
  |succ k ih=>
   intro hk;obtain⟨l,h1,h2⟩:=ih pI;obtain⟨cs,x,h3,h4⟩:=each k pI;refine⟨l++[x],by simp [h1],fun i y hy=>?_⟩;rw[List.getElem?_append] at hy;split at hy
   .exact h2 i y hy
   rename_i hi;obtain⟨j,hj⟩: ∃j,i=l.length+j:=⟨i-l.length,pI⟩;subst hj;rw[aSB] at hy;cases j with
   |zero=>
    simp only[aSt,aRV] at hy;subst hy;exact⟨cs,by rw[aSM,h1];exact h3,h4⟩
   |succ j=>simp at hy
 obtain⟨l,hll,hle⟩:=build len (aSl _);refine⟨l,hll,?_,fun x hx=>?_⟩
 .subst hll;by_cases hl0:l=[]
  .subst hl0;exact⟨some a,cap,rfl,hcap,.inl rfl⟩
  obtain⟨b,off,spot⟩:=a;have hlp:0<l.length:=aTB.2 hl0;have hspot:spot=none:=by
   obtain⟨cs,x,h3,_⟩:=each 0 hlp;have h4:=(World.cells?_some h3).2.2 0 hpos;have hlen0:=(World.cells?_some h3).2.1;rw[aR3 pI] at h4;simpa[Addr.add] using World.cell?_spot h4
  subst hspot;refine⟨_,cap,rfl,hcap,.inr ⟨b,off,rfl,aIh fun i x hx=>?_⟩⟩;obtain⟨cs,h3,h4,_⟩:=hle i x hx;obtain⟨_,h5,h6⟩:=World.cells?_some h3;have hcell: ∀j v,cs[j]? =some v->W.cell? ⟨b,off+i*u.cells+j,none⟩=some v:=by
   intro j v hv;have hj:j<u.cells:=by have:=(aR7.1 hv).1;omega
   have:=h6 j hj;rw[hv] at this;rw[Addr.add_lit,Addr.add_lit] at this;exact this
  refine⟨cs,h5,hcell,fun j hj=>?_,h4⟩;exact Vc.NX (hcell 0 _ (aR3 pI))
 obtain⟨i,hi,he⟩:=aTM hx;obtain⟨cs,h3,h4,h5⟩:=hle i x (by rw[aR3 hi,he]);exact h5
theorem aPm {ix:a8T}{u:Ty}(h:xB P ix u):aPk enc P W ix u:=by
 induction h with
 |bool ht=>
  intro fuel cs y hy _;obtain⟨b,rfl,_⟩:=DataW.trod_bool ht hy;exact⟨b,rfl,trivial⟩
 |int ht=>
  intro fuel cs y hy _;obtain⟨n,rfl,_,hw⟩:=DataW.trod_int ht hy;exact⟨n,rfl,hw⟩
 |str ht=>
  intro fuel cs y hy hw;obtain⟨s,rfl,rfl,_⟩:=DataW.trod_string ht hy;refine⟨s.data.toList,by show [Value.string s]=[Value.string ⟨s.data.toList.toArray⟩];rw[aTc],?_⟩;exact hw _ (by simp [DataW.weights])
 | @list t e u ht hc hpos hb _ ih=>
  intro fuel cs y hy hw;rcases DataW.trod_slice ht hy with⟨rfl,_⟩ |⟨a,len,cap,elems,rest,n,_,rfl,rfl,_,hl,_,hlen,hall,_,_⟩
  .exact⟨[],⟨none,0,rfl,aSl _,.inl rfl⟩,by simp,fun x hx=>by cases hx⟩
  .have hws:DataW.weights P t (.slice (elems.map (·.1)) (rest.map (·.1)))=((elems.map (·.1)).length+(rest.map (·.1)).length)*P.bytesOf e::(DataW.weightsAll P e (elems.map (·.1))++DataW.weightsAll P e (rest.map (·.1))):=by
    simp [DataW.weights,ht]
   rw[hws] at hw;have hn:=hw _ aSf;obtain⟨l,h1,h2,h3⟩:=aPl (W:=W) (a:=a) (cap:=cap) hc hpos hl fun i hi=>by
    have h1:=hall i hi;rw[hc,aR3 pI,Option.bind_eq_some_iff] at h1;obtain⟨cs,h2,h3⟩:=h1;obtain⟨x,hx⟩:=ih n cs _ h3 fun m hm=>hw m (by
     refine aSb _ (aSW.2 (.inl (aIi (i:=i) ?_ m hm)));rw[List.getElem?_map,aR3 pI];rfl)
    exact⟨cs,x,h2,hx⟩
   refine⟨l,h2,?_,h3⟩;have:elems.length<=(elems.length+rest.length)*P.bytesOf e:=by
    calc elems.length<=(elems.length+rest.length)*1:=by omega
     _<=_:=Nat.mul_le_mul_left _ hb
   simp only[aTL] at hn;have hr:reachBytes=140737488351232:=rfl;show l.length<=_;omega
 |struct hrow ht hcl _ ih=>
  intro fuel cs y hy hw;obtain⟨xs,n,rfl,rfl,hl,hlen,hf⟩:=DataW.trod_struct ht hy;have:=ih n cs xs (by rw[hl,hcl];omega) (by rw[hlen];simp) (fun i f hi=>hf i f (by simpa using hi)) fun m hm=>hw m (by simpa[DataW.weights,ht] using hm);rwa [aTx] at this
 |nil=>
  intro fuel cs xs hl _ _ _;refine⟨(),?_,trivial⟩;show cs.drop _=[];exact List.drop_of_length_le (by simp [Ty.cells] at hl;omega)
 | @cons o f r a b ho hc _ _ iha ihb=>
  intro fuel cs xs hl hx hf hw;cases xs with
  |nil=>simp at hx
  |cons x0 xs=>
   have h0:=hf 0 f rfl;rw[hc,ho] at h0;obtain⟨xa,ra,ba⟩:=iha fuel _ x0 h0 fun m hm=>hw m (by simp only[aS0,DataW.weightsEach,aSW];exact .inl hm);obtain⟨xb,rb,bb⟩:=ihb fuel cs xs (by simp only[Ty.cells] at hl;omega) (by simpa using hx) (fun i f' hi=>by have:=hf (i+1) f' (by simpa using hi);simpa using this) fun m hm=>hw m (by simp only[aS0,DataW.weightsEach,aSW];exact .inr hm);refine⟨(xa,xb),⟨_,_,(aTh a.cells (cs.drop o)).symm,ra,?_⟩,ba,bb⟩;rw[List.drop_drop];exact rb
theorem aPn {t:TypeId}{u:Ty}{base:Nat}{v:pU}{d:DataW H}{ps:List MemPlace}(h:xB P (.ty t) u) (hok:Value.okWide P W .any base t v) (hT:DataW.Trod enc P W 0 (fun _=>true) true t v d ps) (hw: ∀n∈d.weights P t,n<=reachBytes): ∃x:u.den,sR (HP W) W u x v/\Bd u x:=by
 obtain⟨fuel,hf⟩:=hT;obtain⟨x,hx,hb⟩:=aPm (enc:=enc) (W:=W) h fuel _ _ hf hw;refine⟨x,?_,hb⟩;cases h with
 |bool ht=>obtain⟨b,rfl⟩:=Go.WideShapes.okWide_bool ht hok;exact .inr ⟨rfl,hx⟩
 |int ht=>obtain⟨b,rfl⟩:=Go.WideShapes.okWide_int ht hok;exact .inr ⟨rfl,hx⟩
 |str ht=>obtain⟨b,rfl⟩:=Go.WideShapes.okWide_string ht hok;exact .inr ⟨rfl,hx⟩
 |list ht=>obtain⟨a,l,c,rfl⟩:=Go.WideShapes.okWide_slice ht hok;exact .inr ⟨rfl,hx⟩
 |struct hrow ht=>obtain⟨cs,rfl,_⟩:=Go.WideShapes.okWide_struct ht hok;exact .inl ⟨hrow,cs.toList,by rw[aTc],hx⟩
end
end Go.Proofs.YtcpbaddnmpeipaaGreatDoor
namespace Go.Proofs.YtcpbaddnmpeipaaGreatDoor
open Vc
open Go.ChangeShapes Go.WideShapes Go.ChangeAt Go.RowKit
theorem KM:xB Tryz.prog (.ty 9) .str:= .str Tryz.underlying9
theorem a8U:xB Tryz.prog (.ty 23) (.list .str):= .list Tryz.underlying23 pW pJ (aSD pW) KM
theorem aPo:xB Tryz.prog (.ty 110) (.pair .str (.pair .str .unit)):=by
 refine .struct rfl Tryz.underlying110 pW ?_;exact .cons rfl pW KM (.cons rfl pW KM .nil)
theorem aIj:xB Tryz.prog (.ty 24) (.list (.pair .str (.pair .str .unit))):= .list Tryz.underlying24 pW pJ (aSD pW) aPo
theorem aPp:xB Tryz.prog (.ty 45) sM:=by
 refine .struct rfl Tryz.underlying45 pW ?_;exact .cons rfl pW KM (.cons rfl pW KM (.cons rfl pW KM (.cons rfl pW a8U (.cons rfl pW a8U (.cons rfl pW (.int Tryz.underlying3) (.cons rfl pW aIj .nil))))))
theorem aPq:xB Tryz.prog (.ty 25) (.list sM):= .list Tryz.underlying25 pW pJ (aSD pW) aPp
theorem aPr:xB Tryz.prog (.ty 27) vV:=by
 refine .struct rfl Tryz.underlying27 pW ?_;exact .cons rfl pW KM (.cons rfl pW a8U (.cons rfl pW aIj (.cons rfl pW aPq .nil)))
theorem aPs {x:wI}(h:Bd sM x):a8B x:=by
 obtain⟨h1,h2,h3,⟨h4,k4⟩,⟨h5,k5⟩,_,⟨h7,k7⟩,_⟩:=h;exact⟨h1,h2,h3,⟨h4,k4⟩,⟨h5,k5⟩,h7,fun y hy=>⟨(k7 y hy).1,(k7 y hy).2.1⟩⟩
theorem aPt {c:C4}(h:Bd vV c):VT c:=by
 obtain⟨h1,⟨h2,k2⟩,⟨h3,k3⟩,⟨h4,k4⟩,_⟩:=h;exact⟨h1,⟨h2,k2⟩,⟨h3,fun y hy=>⟨(k3 y hy).1,(k3 y hy).2.1⟩⟩,fun x hx=>aPs (k4 x hx)⟩
theorem aPu {W:pT}(hT:CP W) (v:pU) (c:C4) (hv:sR (HP W) W vV c v) (hB:Bd vV c):
  Calls Tryz.prog 6 #[v] W fun e W'=>e= .returned (.bool true)/\Below W.heap.size W W':=by
 have hC:a8n (QL c) VI=some (MM c):=aN3 _;have ht:=aO7 (aPt hB);refine(aN5.1.2 (HP W) W (QL c) [v] [] _ ⟨(fun i b h=>by cases h),(fun i j bi bj b o _ h=>by cases h),fun b o h=>h,hT,(fun i blk b o h=>by cases h)⟩ ⟨v,[],rfl,⟨hv,trivial⟩,rfl⟩ hC ?_).mono fun e W' ⟨v,g',he,r⟩=>?_
 .intro p hp;have:p=((KC c).isSome=true):=by simpa[MM] using hp
  rw[this,ht];rfl
 have hv:v= .bool true:=by
  have h1:=r.ret;unfold MM at h1;rw[ht] at h1;exact uJ h1.1
 subst hv;exact⟨he,⟨r.fr.os,r.fr.tape,r.fr.output,r.fr.size,fun k hk=>r.fr.blk k hk (fun o ⟨i,blk,hi,_⟩=>by cases hi)⟩⟩
end Go.Proofs.YtcpbaddnmpeipaaGreatDoor
namespace Go.Proofs.YtcpbaddnmpeipaaGreatDoor
open Go.ChangeShapes Go.WideShapes Go.ChangeAt Go.RowKit Go.Lib
theorem aPv:(Rows.blocksPrintRow.inPlace==Tryz.prog.inPlace 6)=true:=by kernel_rfl
theorem aPw:(Rows.blocksPrintRow.unfollowed==Tryz.prog.unfollowed 6)=true:=by kernel_rfl
theorem aPx:(Rows.blocksPrintRow.recurses==Tryz.prog.recurses 6)=true:=by kernel_rfl
theorem aPy:(Rows.blocksPrintRow.named==Tryz.prog.varsNamed 6)=true:=by kernel_rfl
theorem aPz:joinedFacts Tryz.prog 6 Tryz.f6 Rows.blocksPrintSpec Rows.blocksPrintRow=true:=by
 unfold joinedFacts;rw[aPv,aPw,aPx,aPy]
 kernel_rfl
namespace blocksPrintLaw
theorem own:ownKnob Tryz.prog.godebug=none:=by kernel_rfl
theorem DO:laidOutB Tryz.prog=true:=by kernel_rfl
theorem aPA:Tryz.prog.readableRec 27=true:=by kernel_rfl
theorem ltC:27<Tryz.prog.types.size:=aSD pW
def QV:pU:= .agg #[.string ⟨#[]⟩,.slice none 0 0,.slice none 0 0,.slice none 0 0]
theorem aPC (os:Os) {H:Type}(enc:TypeId×pU->H):
  (OpenSpec.ofChange Rows.blocksPrintSpec).preRow enc Tryz.prog Tryz.f6 [] false Rows.blocksPrintRow.laid ((VW os).forCall (fun _ _=>0) ⟨#[],#[QV],[]⟩).memory #[QV]:=by
 have hw:(DataW.whole enc Tryz.prog ((VW os).forCall (fun _ _=>0) ⟨#[],#[QV],[]⟩).memory Tryz.f6.params.toList (OpenSpec.ofChange Rows.blocksPrintSpec).vars false #[QV].toList 8).map (fun x=>(x.1,x.2.1))=
   some ([.agg [.lit (.string []),.nil,.nil,.nil]],[]):=by kernel_rfl
 obtain⟨⟨x1,x2,x3⟩,hx,hx1⟩:=aR8.1 hw;simp only[aSp] at hx1;obtain⟨rfl,rfl⟩:=hx1;exact OpenSpec.preRow_of_cond 8 hx pW (fun k hk=>by cases hk) pW (aPj os _)
theorem lifted (os:Os) (started:os.Started) (H:Type) (enc:TypeId×pU->H) (F:Stop.Interp):
  ReturnsInHanded {} Tryz.checked os 6 .any ((OpenSpec.ofChange Rows.blocksPrintSpec).preRow enc Tryz.prog Tryz.f6 [] false Rows.blocksPrintRow.laid) (Rows.blocksPrintSpec.post enc Tryz.prog Tryz.f6 false true false false):=by
 refine aPa (C:=Tryz.checked) (tb:=4) own started F pW Tryz.func6 DO ?_ rfl rfl Tryz.underlying4 ?_
  (witness_row_atRef (enc:=enc) (C:=Tryz.checked) false (VW os) #[QV] rfl pW pW pW (aPC os enc)) ?_
 .intro t ht;rw[Tryz.params6] at ht;simp only[aSa,aTa,or_false] at ht;rcases ht with rfl
  exact⟨aPA,ltC⟩
 .intro ds W args ps h;have h':DataW.TrodAll enc Tryz.prog W 0 (fun _=>true) true Tryz.f6.params.toList args.toList ds ps:=h;rw[Tryz.params6] at h';obtain⟨v0,d0,rfl,rfl,h0⟩:=trodAll_one h';rfl
 intro W base args ds ps hval0 hA0 hlt hsz0 hL hsh;have hval: ∀(j:Nat) t v,Tryz.f6.params[j]? =some t->args[j]? =some v->Value.okWide Tryz.prog W .any base t v:=hval0;have hA:DataW.TrodAll enc Tryz.prog W 0 (fun _=>true) true Tryz.f6.params.toList args.toList ds ps:=hA0;have hsz:(DataW.weightsEach Tryz.prog Tryz.f6.params.toList ds).all (·<=reachBytes)=true:=hsz0;rw[Tryz.params6] at hA hval hsz;obtain⟨v0,d0,rfl,rfl,h0⟩:=trodAll_one hA;obtain⟨c,hv,hB⟩:=aPn aPr (hval 0 27 v0 rfl rfl) h0 (fun n hn=>by
  have:=aS2.1 hsz n (DataW.weights_mem_each (j:=0) rfl rfl n hn);simpa using this)
 exact aPu (aPi hL hsh) v0 c hv hB
end blocksPrintLaw
theorem aIk:Rows.BlocksPrintSaid:=
 OpenClaim.holds_of_wide 6 Tryz.f6 rfl rfl rfl rfl rfl rfl rfl ⟨rfl,rfl,rfl,rfl,rfl⟩ rfl rfl rfl rfl rfl pW Tryz.func6 aPz
  (aSD pW) (by unfold Func.isWrapper;first|(rw[aRZ (by decide+kernel)];kernel_rfl) |(rw[aR4 (by decide+kernel)];exact⟨rfl,rfl⟩))
  (fun os started H enc _=>by rw[OpenClaim.pre_eq_preRow];exact blocksPrintLaw.lifted os started H enc (fun _ _ _=>0))
#print axioms aIk
end Go.Proofs.YtcpbaddnmpeipaaGreatDoor
namespace Go.Proofs.YtcpbaddnmpeipaaGreatDoor
open Go
theorem aPD:Rows.blocksPrintRow.wfByText (OpenSpec.ofChange Rows.blocksPrintSpec)=true:=by kernel_rfl
theorem aPE:Tryz.prog.mainIs=some (true, "5d87d424bdcb739eb2e592d3312f44549b2e7d9aae6f0497c2ce86444ec20ce9".toList):=by kernel_rfl
theorem aPF:false=Tryz.prog.looks []:=by kernel_rfl
theorem aPG:false=Rows.blocksPrintRow.goesBy Tryz.prog:=by kernel_rfl
theorem aPH:Tryz.prog.funcNamed "calque/calquelaw39.BlocksPrint" =some 6:=by kernel_rfl
theorem aPI:([27].all fun u=> !Tryz.prog.wantsStandIn u)=true:=by kernel_rfl
theorem blocksPrintCard_holds:Rows.BlocksPrintCardSaid:=
 Claim7.holds_tied_plain_at .later [] [.data,.data,.data,.data,.pinned] true (true, "5d87d424bdcb739eb2e592d3312f44549b2e7d9aae6f0497c2ce86444ec20ce9") false
  aIk (fun _ h=>by cases h) aPD (fun _ h=>by cases h) blocksPrint_row_tie rfl ⟨rfl,rfl⟩ aPE rfl
  (fun f fn hf hfn=>by
   obtain rfl:f=6:=aRY (aPH.symm.trans hf) |>.symm
   obtain rfl:fn=Tryz.f6:=(aRY (Tryz.func6.symm.trans hfn)).symm;exact⟨aPF,fun j t ht=>by
    rw[Tryz.params6] at ht;have hm:t∈[27]:=by simpa using Array.mem_of_getElem? ht
    exact(show Tryz.prog.wantsStandIn t=false by simpa using aS2.1 aPI t hm)⟩)
  aPG
#print axioms blocksPrintCard_holds
end Go.Proofs.YtcpbaddnmpeipaaGreatDoor
