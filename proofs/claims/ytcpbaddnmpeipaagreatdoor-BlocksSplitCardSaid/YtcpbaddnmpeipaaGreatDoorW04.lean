/- Packed by a program of mine (wip/tools/pack.py): the same texts with short names and few blanks. -/
import Derived.KernelRfl
import Derived.Laws.BitsLemmas
import Derived.Lib.Index
import Derived.Lib.IndexAny
import Derived.Lib.MapLaws
import Derived.Lib.TrimAscii
import Derived.Lib.TrimUEq
import Derived.Lib.ValidLaws
import Derived.Sort.Walk0
import Derived.Test.YtcpbaddnmpeipaaGreatDoorW03
set_option linter.defProp false
set_option linter.unusedVariables false
set_option linter.unusedSimpArgs false
set_option linter.unusedSectionVars false
set_option maxRecDepth 100000
set_option maxHeartbeats 4000000
namespace Go.Proofs.YtcpbaddnmpeipaaGreatDoor
open Vc
open Tryz
noncomputable section
def OK (O:Int) (Z:p7):(pH×Int)→Option ((pH×Int)⊕(pH⊕(p7×Int×Int))):=fun(aA,aB)=>if (decide (aB<(Z.length:Int)))=true then if 0≤aB∧aB<(Z.length:Int) then if pX (aB+(1:Int)) then if 0≤aB∧aB≤(aB+(1:Int))∧(aB+(1:Int))≤(Z.length:Int) then sN (σ:=(p7×Int)) (if ((!decide (O=(4:Int)))&&(decide ((rI Z aB)=(92:Int))))=true then if 0≤aB∧aB≤(Z.length:Int)∧(Z.length:Int)≤(Z.length:Int) then (GY (qR Z aB (Z.length:Int))).bind fun aC=>some ((aC.1,aC.2)) else none else if ((decide (O=(4:Int)))&&(decide ((rI Z aB)=(38:Int))))=true then if 0≤aB∧aB≤(Z.length:Int)∧(Z.length:Int)≤(Z.length:Int) then (OG (qR Z aB (Z.length:Int))).bind fun aD=>some ((aD.1,aD.2)) else none else if ((!decide (O=(4:Int)))&&(decide ((rI Z aB)=(10:Int))))=true then if ((!decide (O=(4:Int)))&&(decide ((rI Z aB)=(10:Int))))=true then some (((qR Z aB (aB+(1:Int))),(0:Int))) else some (((qR Z aB (aB+(1:Int))),(1:Int))) else if (((decide (O=(2:Int)))||(decide (O=(3:Int))))&&(decide ((rI Z aB)=(34:Int))))=true then if (((decide (O=(2:Int)))||(decide (O=(3:Int))))&&(decide ((rI Z aB)=(34:Int))))=true then some (((qR Z aB (aB+(1:Int))),(0:Int))) else some (((qR Z aB (aB+(1:Int))),(1:Int))) else if (((decide (O=(4:Int)))==true)=true→((GM (rI Z aB) ([60,34]:p7))).isSome=true) then if ((decide (O=(4:Int)))&&(val (GM (rI Z aB) ([60,34]:p7))))=true then some (((qR Z aB (aB+(1:Int))),(0:Int))) else some (((qR Z aB (aB+(1:Int))),(1:Int))) else none ) fun(aE,aF)=>if (decide (aF=(0:Int)))=true then some (.inr (.inr ((([]:p7),aB,(3:Int))))) else if List.length aA+aE.length≤140737488355328 then if pX (aB+aF) then some (.inl ((aA++uK aE),(aB+aF))) else none else none else none else none else none else some (.inr (.inl aA))
def M3 (O:Int) (Z:p7):Option (p7×Int×Int):=if (!((decide ((1:Int)≤O))&&(decide (O≤(4:Int)))))=true then some ((([]:p7),(0:Int),(1:Int))) else tI (rF (OK O Z) (([]:pH),(0:Int))) fun aA=>some (((tP aA),(0:Int),(0:Int)))
section
variable (O:Int) (Z:p7)
abbrev a7t:List pW:=[(.val (.int .i64) O,none),(.val .str Z,none)]
abbrev a7u:List pV:=[]
@[go_sem] def a7v:qH:=let q:=val (M3 O Z);⟨[((M3 O Z)).isSome=true],[(.val .str (q.1),none),(.val (.int .i64) (q.2.1),none),(.val (.int .i64) (q.2.2),none)],[]⟩
def aGf:List pW→List pV→Option qH:=rQ (V:=(Int×p7)) (fun x=>a7t x.1 x.2) (fun x=>a7u) fun x=>a7v x.1 x.2
@[go_sem] def aR0:aGf (no_index (a7t O Z)) (no_index a7u)=some (a7v O Z):=rR (fun⟨a0,a1⟩ ⟨b0,b1⟩ h1 h2=>by cases h1;cases h2;rfl) (O,Z)
end
@[go_sem] abbrev aGg:Nat×r5:=(167,⟨[.v,.v],aGf,[],[],none⟩)
def wF:qW prog [DP,s8,DN] (qY [a3o,aF1,aF4,a3Z]):=⟨⟨GE,⟨s9,⟨GD,trivial⟩⟩⟩,qJ aDY (qJ aNk (qJ aNl (qJ aEi rL))),qZ⟩
def aNp:rC prog aGg:=by
 refine rS wF func167 (c:=_) rfl (N:=89) pP (ts:=[(4,none),(5,none),(6,none)]) rfl (fun _ _=>rfl) ?_;intro⟨O,Z⟩ hs hrow;dsimp only[a7t,a7u,a7v,rM,qP,qU,r6,rP,Nat.reduceAdd] at hs hrow|-;have hz:=hs;obtain⟨z0,g⟩:=aSF.1 hz
 try rw[rU g]
 clear hz hs;unfold M3 at g;refine pU wF ?_;refine qC (pU wF ?_);refine qD g ?_ ?_<;>intro g Y
 .refine pU wF ?_;refine qB (qO ?_);cases g;exact p9 []
 refine qM (q8 (pU wF ?_));refine pU wF ?_;refine qC (rN ?_);obtain⟨y1,hy1,g⟩:=v6 g;refine tK 0 (fun s=> ∃v,y1= .inl v∧s=(fun x=>⟨[(7,(.val (.list (.int .u8)) x,some 0))],[(0,.grow 5 1 (x.length))],1,89,0⟩) v) ?_ ?_
 .refine tC hy1 (fun x=>⟨[(0,.val (.int .i64) O,none),(1,.val .str Z,none),(7,(.val (.list (.int .u8)) x.1,some 0)),(8,(.val (.int .i64) x.2,none))],[(0,.grow 5 1 (x.1.length))],1,89,0⟩) ⟨[0,1,7,8],[(0,192)]⟩ pQ ?_;intro x1 w1 n1 d i;obtain⟨aA,aB⟩:=x1;unfold OK at d;dsimp only at d|-;refine qC (pU wF ?_);refine qD d ?_ ?_<;>intro d Y
  .refine qM (q8 (rN ?_));obtain⟨X,d⟩:=pZ d;refine pU wF ?_ (hp:=by exact X);obtain⟨W,V,d⟩:=oZ d;refine pU wF ?_ (hp:=by exact⟨W,V⟩);refine qC ?_;obtain⟨y2,f,d⟩:=qQ d;refine AO (fun s=>s=(fun x=>⟨[(0,.val (.int .i64) O,none),(1,.val .str Z,none),(7,(.val (.list (.int .u8)) aA,some 0)),(8,(.val (.int .i64) aB,none)),(10,.val .str x.1,none),(11,.val (.int .i64) x.2,none)],[(0,.grow 5 1 (aA.length))],1,89,0⟩) y2) ?_ ?_
   .refine rN (pU wF ?_ (hp:=by exact⟨id,rZ⟩));refine qD f ?_ ?_<;>intro f Y
    .obtain⟨U,f⟩:=pZ f;obtain⟨aC,hv5,hw5,f⟩:=rG f
     try simp only[go_sem] at hw5
     refine qV wF ?_ (hp:=by exact⟨U,(rE hv5)⟩) (h:=by simp only[go_sem,hw5];rfl);refine rK ?_;cases f;exact tD ⟨⟨[0,1,7,8,10,11],[(0,0)]⟩,by rfl⟩
    refine pU wF ?_ (hp:=by exact⟨id,rZ⟩);refine qD f ?_ ?_<;>intro f Y
    .obtain⟨T,f⟩:=pZ f;obtain⟨aD,hv7,hw7,f⟩:=rG f
     try simp only[go_sem] at hw7
     refine qV wF ?_ (hp:=by exact⟨T,(rE hv7)⟩) (h:=by simp only[go_sem,hw7];rfl);refine rK ?_;cases f;exact tD ⟨⟨[0,1,7,8,10,11],[(0,0)]⟩,by rfl⟩
    refine qC (pU wF ?_ (hp:=by exact⟨id,rZ⟩));refine qD f ?_ ?_<;>intro f Y
    .refine qM (q8 (qD f (fun f Y=>?_) (fun f Y=>?_)))
     .refine qV wF ?_;refine rK ?_;cases f;exact tD ⟨⟨[0,1,7,8,10,11],[(0,0)]⟩,by rfl⟩
     refine qM (rK ?_);cases f;exact tD ⟨⟨[0,1,7,8,10,11],[(0,0)]⟩,by rfl⟩
    refine pU wF ?_ (hp:=by exact⟨id,tN,id,rZ⟩);refine qD f ?_ ?_<;>intro f Y
    .refine qM (q8 (qD f (fun f Y=>?_) (fun f Y=>?_)))
     .refine qV wF ?_;refine rK ?_;cases f;exact tD ⟨⟨[0,1,7,8,10,11],[(0,0)]⟩,by rfl⟩
     refine qM (rK ?_);cases f;exact tD ⟨⟨[0,1,7,8,10,11],[(0,0)]⟩,by rfl⟩
    obtain⟨S,f⟩:=pZ f;refine qV wF ?_ (hp:=by exact⟨id,S,rZ⟩);refine q8 (qD f (fun f Y=>?_) (fun f Y=>?_))
    .refine qV wF ?_;refine rK ?_;cases f;exact tD ⟨⟨[0,1,7,8,10,11],[(0,0)]⟩,by rfl⟩
    refine qM (rK ?_);cases f;exact tD ⟨⟨[0,1,7,8,10,11],[(0,0)]⟩,by rfl⟩
   rintro _ rfl;obtain⟨aE,aF⟩:=y2;dsimp only at d|-;refine q8 (qC (pU wF ?_));refine qD d ?_ ?_<;>intro d Y
   .refine pU wF ?_;refine qB (qO (r9 (uB (vE (r9 (qO ?_))))));cases d;cases i;dsimp only at g;cases g;exact p9 []
   refine qM (q8 ?_);obtain⟨R,d⟩:=pZ d;refine pU wF ?_ (hp:=by exact⟨pO,R⟩)
   obtain⟨Q,d⟩:=pZ d;refine qV wF ?_ (hp:=by exact Q);refine rK ?_;cases d;exact sM ⟨⟨[0,1,7,8],[(0,0)]⟩,_,by rfl,i⟩
  refine t8 (t6 (tA ?_));cases d;cases i;exact tM ⟨⟨[7],[(0,0)]⟩,_,rfl,by rfl⟩
 rintro _ ⟨aG,rfl,rfl⟩;dsimp only at g|-;refine t7 (q8 ?_);refine pU wF ?_;refine qB ?_;cases g;exact p9 []
def JD (O:A7) (Z:(List (Bool×(p7×Unit)))):Option (p7×p7×p8×(List qG)×Int):=if ((!O.2.2.2.1)||(decide (O.2.2.2.2.2.2.2.2.1=([]:p7))))=true then some ((O.2.2.1.2.1,O.2.2.1.2.2.1,O.2.2.1.2.2.2.1,O.2.2.1.2.2.2.2.2.2.1,(3:Int))) else sN (σ:=(Bool×p7×p7×p8×(List qG))) (if (decide (O.2.2.2.2.2.2.2.2.1=([99,111,109,109,101,110,116]:p7)))=true then if pX ((O.2.2.1.2.2.2.1.length:Int)- (1:Int)) then if 0≤((O.2.2.1.2.2.2.1.length:Int)- (1:Int))∧((O.2.2.1.2.2.2.1.length:Int)- (1:Int))<(O.2.2.1.2.2.2.1.length:Int) then (E8 (qE .str O.2.2.1.2.2.2.1 ((O.2.2.1.2.2.2.1.length:Int)- (1:Int))) Z).bind fun aA=>if 0≤(0:Int)∧(0:Int)≤((O.2.2.1.2.2.2.1.length:Int)- (1:Int))∧((O.2.2.1.2.2.2.1.length:Int)- (1:Int))≤(O.2.2.1.2.2.2.1.length:Int) then if (([]:p8).length+(qR O.2.2.1.2.2.2.1 (0:Int) ((O.2.2.1.2.2.2.1.length:Int)- (1:Int))).length)*16≤140737488355328 then if ((([]:p8)++(qR O.2.2.1.2.2.2.1 (0:Int) ((O.2.2.1.2.2.2.1.length:Int)- (1:Int)))).length+([aA.1]:p8).length)*16≤140737488355328 then some ((aA.2,O.2.2.1.2.1,O.2.2.1.2.2.1,((([]:p8)++(qR O.2.2.1.2.2.2.1 (0:Int) ((O.2.2.1.2.2.2.1.length:Int)- (1:Int))))++([aA.1]:p8)),O.2.2.1.2.2.2.2.2.2.1)) else none else none else none else none else none else if (decide (O.2.2.2.2.2.2.2.2.1=([115,111,117,114,99,101]:p7)))=true then (E8 O.2.2.1.2.1 Z).bind fun aB=>some ((aB.2,aB.1,O.2.2.1.2.2.1,O.2.2.1.2.2.2.1,O.2.2.1.2.2.2.2.2.2.1)) else if (decide (O.2.2.2.2.2.2.2.2.1=([116,97,114,103,101,116]:p7)))=true then (E8 O.2.2.1.2.2.1 Z).bind fun aC=>some ((aC.2,O.2.2.1.2.1,aC.1,O.2.2.1.2.2.2.1,O.2.2.1.2.2.2.2.2.2.1)) else if (decide (O.2.2.2.2.2.2.2.2.1=([102,105,101,108,100]:p7)))=true then (GK O.2.2.1.2.2.2.2.2.2.1 O.2.2.2.2.2.2.2.2.2.1).bind fun aD=>(E8 aD.1 Z).bind fun aE=>(GL O.2.2.1.2.2.2.2.2.2.1 O.2.2.2.2.2.2.2.2.2.1 aE.1).bind fun aF=>some ((aE.2,O.2.2.1.2.1,O.2.2.1.2.2.1,O.2.2.1.2.2.2.1,aF)) else some ((false,O.2.2.1.2.1,O.2.2.1.2.2.1,O.2.2.1.2.2.2.1,O.2.2.1.2.2.2.2.2.2.1)) ) fun(aG,aH,aI,aJ,aK)=>if (!aG)=true then some ((aH,aI,aJ,aK,(3:Int))) else some ((aH,aI,aJ,aK,(0:Int)))
section
variable (O:A7) (Z:(List (Bool×(p7×Unit))))
abbrev a7w:List pW:=[(.val wJ O,none),(.val (.list qK) Z,none)]
abbrev a7x:List pV:=[]
@[go_sem] def a7y:qH:=let q:=val (JD O Z);⟨[((JD O Z)).isSome=true],[(.val wJ ((O.1.1,(O.1.2.1,(O.1.2.2.1,(O.1.2.2.2.1,())))),(O.2.1,((O.2.2.1.1,(q.1,(q.2.1,(q.2.2.1,(O.2.2.1.2.2.2.2.1,(O.2.2.1.2.2.2.2.2.1,(q.2.2.2.1,()))))))),(O.2.2.2.1,(O.2.2.2.2.1,(O.2.2.2.2.2.1,(O.2.2.2.2.2.2.1,(O.2.2.2.2.2.2.2.1,(O.2.2.2.2.2.2.2.2.1,(O.2.2.2.2.2.2.2.2.2.1,())))))))))),none),(.val (.int .i64) (q.2.2.2.2),none)],[]⟩
def aGh:List pW→List pV→Option qH:=rQ (V:=(A7×(List (Bool×(p7×Unit))))) (fun x=>a7w x.1 x.2) (fun x=>a7x) fun x=>a7y x.1 x.2
@[go_sem] def aR1:aGh (no_index (a7w O Z)) (no_index a7x)=some (a7y O Z):=rR (fun⟨a0,a1⟩ ⟨b0,b1⟩ h1 h2=>by cases h1;cases h2;rfl) (O,Z)
end
@[go_sem] abbrev aGi:Nat×r5:=(89,⟨[.v,.v],aGh,[],[],none⟩)
def wM:qW prog [uV,s8,yK,A3,IE,IF] (qY [aGc,a3K,a3O]):=⟨⟨vI,⟨s9,⟨zP,⟨D1,⟨NQ,⟨NR,trivial⟩⟩⟩⟩⟩⟩,qJ aNn (qJ aEa (qJ aEc rL)),qZ⟩
def aNq:rC prog aGi:=by
 refine rS wM func89 (c:=_) rfl (N:=108) pP (ts:=[(4,some 95),(5,none)]) rfl (fun _ _=>rfl) ?_;intro⟨O,Z⟩ hs hrow;dsimp only[a7w,a7x,a7y,rM,qP,qU,r6,rP,Nat.reduceAdd] at hs hrow|-;have hz:=hs;obtain⟨z0,g⟩:=aSF.1 hz
 try rw[rU g]
 clear hz hs;unfold JD at g;refine pU wM ?_;refine qC (pU wM ?_ (hp:=by exact⟨id,id,tN⟩));refine qD g ?_ ?_<;>intro g Y
 .refine pU wM ?_;refine qB (qO ?_);cases g;exact p9 []
 refine qM (q8 (pU wM ?_));refine qC (pU wM ?_);obtain⟨y1,d,g⟩:=qQ g;refine AO (fun s=>s=(fun x=>⟨[(2,.val .ref (some (0,0)),none),(4,.val .ref (some (1,0)),none),(7,.val .bool x.1,none)],[(0,.cells wJ ((O.1.1,(O.1.2.1,(O.1.2.2.1,(O.1.2.2.2.1,())))),(O.2.1,((O.2.2.1.1,(x.2.1,(x.2.2.1,(x.2.2.2.1,(O.2.2.1.2.2.2.2.1,(O.2.2.1.2.2.2.2.2.1,(x.2.2.2.2,()))))))),(O.2.2.2.1,(O.2.2.2.2.1,(O.2.2.2.2.2.1,(O.2.2.2.2.2.2.1,(O.2.2.2.2.2.2.2.1,(O.2.2.2.2.2.2.2.2.1,(O.2.2.2.2.2.2.2.2.2.1,())))))))))) []),(1,.cells wJ ((([]:p7),(([]:p8),(([]:List qG),(([]:List sA),())))),(([]:pH),((([]:p7),(([]:p7),(([]:p7),(([]:p8),(([]:p8),((0:Int),(([]:List qG),()))))))),(false,(false,(false,(false,(false,(([]:p7),(([]:p7),())))))))))) [(1,2),(2,3),(3,4),(4,5),(8,6),(9,7),(11,8)]),(2,.grow 9 1 (([]:p8).length)),(3,.grow 110 2 (([]:List qG).length)),(4,.grow 45 7 (([]:List sA).length)),(5,.grow 3 1 (([]:pH).length)),(6,.grow 9 1 (([]:p8).length)),(7,.grow 9 1 (([]:p8).length)),(8,.grow 110 2 (([]:List qG).length))],9,108,0⟩) y1) ?_ ?_
 .refine rN (pU wM ?_);refine qD d ?_ ?_<;>intro d Y
  .obtain⟨X,d⟩:=pZ d;refine pU wM ?_ (hp:=by exact X);obtain⟨W,d⟩:=pZ d;obtain⟨aA,hv3,hw3,d⟩:=rG d
   try simp only[go_sem] at hw3
   refine pU wM ?_ (hp:=by exact⟨W,(rE hv3)⟩) (h:=by simp only[go_sem,hw3];rfl);obtain⟨V,U,d⟩:=oZ d;obtain⟨T,d⟩:=pZ d;refine qV wM ?_ (hp:=by exact⟨V,pO,U,pO,T⟩)
   refine rK ?_;cases d;exact tD ⟨⟨[2,4,7],[(0,0),(1,32),(2,33),(3,34),(4,35),(5,36),(6,37),(7,38),(8,39)]⟩,by rfl⟩
  refine pU wM ?_;refine qD d ?_ ?_<;>intro d Y
  .obtain⟨aB,hv7,hw7,d⟩:=rG d
   try simp only[go_sem] at hw7
   refine pU wM ?_ (hp:=by exact(rE hv7)) (h:=by simp only[go_sem,hw7];rfl);refine qV wM ?_;refine rK ?_;cases d;exact tD ⟨⟨[2,4,7],[(0,0),(1,32),(2,33),(3,34),(4,35),(5,36),(6,37),(7,38),(8,39)]⟩,by rfl⟩
  refine pU wM ?_;refine qD d ?_ ?_<;>intro d Y
  .obtain⟨aC,hv8,hw8,d⟩:=rG d
   try simp only[go_sem] at hw8
   refine pU wM ?_ (hp:=by exact(rE hv8)) (h:=by simp only[go_sem,hw8];rfl);refine qV wM ?_;refine rK ?_;cases d;exact tD ⟨⟨[2,4,7],[(0,0),(1,32),(2,33),(3,34),(4,35),(5,36),(6,37),(7,38),(8,39)]⟩,by rfl⟩
  refine pU wM ?_;refine qD d ?_ ?_<;>intro d Y
  .obtain⟨aD,hv9,hw9,d⟩:=rG d
   try simp only[go_sem] at hw9
   refine pU wM ?_ (hp:=by exact(rE hv9)) (h:=by simp only[go_sem,hw9];rfl);obtain⟨aE,hv10,hw10,d⟩:=rG d
   try simp only[go_sem] at hw10
   refine pU wM ?_ (hp:=by exact(rE hv10)) (h:=by simp only[go_sem,hw10];rfl);obtain⟨aF,hv11,hw11,d⟩:=rG d
   try simp only[go_sem] at hw11
   refine qV wM ?_ (hp:=by exact(rE hv11)) (h:=by simp only[go_sem,hw11];rfl);refine rK ?_;cases d;exact tD ⟨⟨[2,4,7],[(0,0),(1,32),(2,33),(3,34),(4,35),(5,36),(6,37),(7,38),(8,39)]⟩,by rfl⟩
  refine qM (rK ?_);cases d;exact tD ⟨⟨[2,4,7],[(0,0),(1,32),(2,33),(3,34),(4,35),(5,36),(6,37),(7,38),(8,39)]⟩,by rfl⟩
 rintro _ rfl;obtain⟨aG,aH,aI,aJ,aK⟩:=y1;dsimp only at g|-;refine q8 (qC (pU wM ?_));refine qD g ?_ ?_<;>intro g Y
 .refine pU wM ?_;refine qB (qO ?_);cases g;exact p9 []
 refine qM (q8 (pU wM ?_));refine qB ?_;cases g;exact p9 []
def JE (O:Int):Option p7:=(OJ ([O]:pH)).bind fun Z=>some (Z)
section
variable (O:Int)
abbrev a7z:List pW:=[(.val (.int .i64) O,none)]
abbrev a7A:List pV:=[]
@[go_sem] def a7B:qH:=⟨[((JE O)).isSome=true],[(.val .str (val (JE O)),none),(.val .bool ((decide (O≤(1114111:Int)))&&((decide (O<(55296:Int)))||(decide ((57343:Int)<O)))),none)],[]⟩
def aGj:List pW→List pV→Option qH:=rQ (V:=Int) (a7z) (fun x=>a7A) fun x=>a7B x
@[go_sem] def aR2:aGj (no_index (a7z O)) (no_index a7A)=some (a7B O):=rR (fun a0 b0 h1 h2=>by cases h1;cases h2;rfl) O
end
@[go_sem] abbrev a7C:Nat×r5:=(201,⟨[.v],aGj,[],[],none⟩)
def X4:qW prog [CC] (qY [aGe]):=⟨⟨DO,trivial⟩,qJ aNo rL,qZ⟩
def aGk:rC prog a7C:=by
 refine rS X4 func201 (c:=_) rfl (N:=19) pP (ts:=[(2,none),(3,none)]) rfl (fun _ _=>rfl) ?_;intro O hs hrow;dsimp only[a7z,a7A,a7B,rM,qP,qU,r6,rP,Nat.reduceAdd] at hs hrow|-;have hz:=hs;obtain⟨z0,g⟩:=aSF.1 hz
 try rw[rU g]
 clear hz hs;unfold JE at g;refine pU X4 ?_;refine pU X4 ?_ (hp:=by exact⟨id,id,id,id,fun hG e=>GB hG e,rZ⟩);obtain⟨Z,hv1,hw1,g⟩:=rG g
 try simp only[go_sem] at hw1
 refine pU X4 ?_ (hp:=by exact(rE hv1)) (h:=by simp only[go_sem,hw1];rfl);refine qB ?_;cases g;exact p9 []
attribute [irreducible] M3 JD JE
end
noncomputable section
def M4 (O:p7):Option (p7×Int×Bool):=if 0≤(1:Int)∧(1:Int)≤(O.length:Int)∧(O.length:Int)≤(O.length:Int) then (GO (2:Int) (qR O (1:Int) (O.length:Int)) (34:Int)).bind fun Z=>if (decide (Z<(0:Int)))=true then some ((([]:p7),(0:Int),false)) else if pX ((1:Int)+Z) then if 0≤(1:Int)∧(1:Int)≤((1:Int)+Z)∧((1:Int)+Z)≤(O.length:Int) then (M3 (2:Int) (qR O (1:Int) ((1:Int)+Z))).bind fun aA=>if pX (Z+(2:Int)) then if (((decide (aA.2.2=(0:Int)))==true)=true→((M1 aA.1)).isSome=true) then some ((aA.1,(Z+(2:Int)),((decide (aA.2.2=(0:Int)))&&((decide ((aA.1.length:Int)≤(4000:Int)))&&(val (E6 aA.1)))))) else none else none else none else none else none
section
variable (O:p7)
abbrev a7D:List pW:=[(.val .str O,none)]
abbrev a7E:List pV:=[]
@[go_sem] def a7F:qH:=let q:=val (M4 O);⟨[((M4 O)).isSome=true],[(.val .str (q.1),none),(.val (.int .i64) (q.2.1),none),(.val .bool (q.2.2),none)],[]⟩
def aGl:List pW→List pV→Option qH:=rQ (V:=p7) (a7D) (fun x=>a7E) fun x=>a7F x
@[go_sem] def aR3:aGl (no_index (a7D O)) (no_index a7E)=some (a7F O):=rR (fun a0 b0 h1 h2=>by cases h1;cases h2;rfl) O
end
@[go_sem] abbrev aGm:Nat×r5:=(123,⟨[.v],aGl,[],[],none⟩)
def M5:qW prog [s8] (qY [aEs,aGg,a7l]):=⟨⟨s9,trivial⟩,qJ aMN (qJ aNp (qJ aGa rL)),qZ⟩
def aNr:rC prog aGm:=by
 refine rS M5 func123 (c:=_) rfl (N:=32) pP (ts:=[(2,none),(3,none),(4,none)]) rfl (fun _ _=>rfl) ?_;intro O hs hrow;dsimp only[a7D,a7E,a7F,rM,qP,qU,r6,rP,Nat.reduceAdd] at hs hrow|-;have hz:=hs;obtain⟨z0,d⟩:=aSF.1 hz
 try rw[rU d]
 clear hz hs;unfold M4 at d;refine pU M5 ?_;obtain⟨X,d⟩:=pZ d;obtain⟨Z,hv2,hw2,d⟩:=rG d
 try simp only[go_sem] at hw2
 refine pU M5 ?_ (hp:=by exact⟨X,(rE hv2)⟩) (h:=by simp only[go_sem,hw2];rfl);refine qC (pU M5 ?_);refine qD d ?_ ?_<;>intro d Y
 .refine pU M5 ?_;refine qB (qO ?_);cases d;exact p9 []
 refine qM (q8 ?_);obtain⟨W,V,d⟩:=oZ d;obtain⟨aA,hv5,hw5,d⟩:=rG d
 try simp only[go_sem] at hw5
 refine pU M5 ?_ (hp:=by exact⟨W,V,(rE hv5)⟩) (h:=by simp only[go_sem,hw5];rfl);obtain⟨U,T,d⟩:=oZ d;refine pU M5 ?_ (hp:=by exact⟨U,id,T,rZ⟩);refine qB ?_;cases d;exact p9 []
def RR (O:p7):Int→Option (Int⊕Int):=fun Z=>if (((decide (Z<(O.length:Int)))==true)=true→0≤Z∧Z<(O.length:Int)) then if ((decide (Z<(O.length:Int)))&&((decide ((rI O Z)=(32:Int)))||(decide ((rI O Z)=(9:Int)))))=true then if pX (Z+(1:Int)) then some (.inl (Z+(1:Int))) else none else some (.inr Z) else none
def RS (O:p7):Int→Option (Int⊕Int):=fun Z=>if (((decide (Z<(O.length:Int)))==true)=true→0≤Z∧Z<(O.length:Int)) then if ((((decide (Z<(O.length:Int)))&&(!((decide ((rI O Z)=(32:Int)))||(decide ((rI O Z)=(9:Int))))))==true)=true→0≤Z∧Z<(O.length:Int)) then if (((decide (Z<(O.length:Int)))&&(!((decide ((rI O Z)=(32:Int)))||(decide ((rI O Z)=(9:Int))))))&&(!decide ((rI O Z)=(34:Int))))=true then if pX (Z+(1:Int)) then some (.inl (Z+(1:Int))) else none else some (.inr Z) else none else none
def RT (O:p7):((List (Bool×(p7×Unit)))×Int)→Option (((List (Bool×(p7×Unit)))×Int)⊕((List (Bool×(p7×Unit)))×Bool)):=fun(Z,aA)=>sN (rF (RR O) aA) fun aB=>if (decide (aB=(O.length:Int)))=true then some (.inr ((Z,true))) else if 0≤aB∧aB<(O.length:Int) then tI (σ:=((List (Bool×(p7×Unit)))×Int)) (if (decide ((rI O aB)=(34:Int)))=true then if 0≤aB∧aB≤(O.length:Int)∧(O.length:Int)≤(O.length:Int) then (M4 (qR O aB (O.length:Int))).bind fun aC=>if (!aC.2.2)=true then some (.inr (.inr ((([]:List (Bool×(p7×Unit))),false)))) else if (Z.length+([(true,(aC.1,()))]:List (Bool×(p7×Unit))).length)*24≤140737488355328 then if pX (aB+aC.2.1) then some (.inl ((Z++([(true,(aC.1,()))]:List (Bool×(p7×Unit)))),(aB+aC.2.1))) else none else none else none else sN (rF (RS O) aB) fun aD=>if 0≤aB∧aB≤aD∧aD≤(O.length:Int) then if (Z.length+([(false,((qR O aB aD),()))]:List (Bool×(p7×Unit))).length)*24≤140737488355328 then some (.inl ((Z++([(false,((qR O aB aD),()))]:List (Bool×(p7×Unit)))),aD)) else none else none ) fun(aE,aF)=>if (((decide (aF<(O.length:Int)))==true)=true→0≤aF∧aF<(O.length:Int)) then if ((decide (aF<(O.length:Int)))&&(!((decide ((rI O aF)=(32:Int)))||(decide ((rI O aF)=(9:Int))))))=true then some (.inr ((([]:List (Bool×(p7×Unit))),false))) else some (.inl (aE,aF)) else none else none
def M6 (O:p7):Option ((List (Bool×(p7×Unit)))×Bool):=rF (RT O) (([]:List (Bool×(p7×Unit))),(0:Int))
section
variable (O:p7)
abbrev a7G:List pW:=[(.val .str O,none)]
abbrev a7H:List pV:=[]
@[go_sem] def a7I:qH:=let q:=val (M6 O);⟨[((M6 O)).isSome=true],[(.val (.list qK) (q.1),some 0),(.val .bool (q.2),none)],[.grow 136 2 ((q.1).length)]⟩
def aGn:List pW→List pV→Option qH:=rQ (V:=p7) (a7G) (fun x=>a7H) fun x=>a7I x
@[go_sem] def aR4:aGn (no_index (a7G O)) (no_index a7H)=some (a7I O):=rR (fun a0 b0 h1 h2=>by cases h1;cases h2;rfl) O
end
@[go_sem] abbrev aGo:Nat×r5:=(87,⟨[.v],aGn,[],[],none⟩)
def xT:qW prog [s8,IG,IH] (qY [a2X,aGm]):=⟨⟨s9,⟨NS,⟨NT,trivial⟩⟩⟩,qJ aDL (qJ aNr rL),qZ⟩
def aNs:rC prog aGo:=by
 refine rS xT func87 (c:=_) rfl (N:=89) pP (ts:=[(2,none),(3,none)]) rfl (fun _ _=>rfl) ?_;intro O hs hrow;dsimp only[a7G,a7H,a7I,rM,qP,qU,r6,rP,Nat.reduceAdd] at hs hrow|-;have hz:=hs;obtain⟨z0,d⟩:=aSF.1 hz
 try rw[rU d]
 clear hz hs;unfold M6 at d;refine pU xT ?_;refine pU xT ?_;refine pU xT ?_;refine rN ?_;have hy1:=d;refine tC hy1 (fun x=>⟨[(0,.val .str O,none),(4,(.val (.list qK) x.1,some 0)),(5,(.val (.int .i64) x.2,none))],[(0,.grow 136 2 (x.1.length))],1,89,0⟩) ⟨[0,4,5],[(0,64)]⟩ pQ ?_;intro x1 w1 n1 g j;obtain⟨Z,aA⟩:=x1;unfold RT at g;dsimp only at g|-;refine rN (qC (rN ?_));obtain⟨aB,hy2,g⟩:=qQ g;refine tK 2 (fun s=>s=(fun x=>⟨[(0,.val .str O,none),(4,(.val (.list qK) Z,some 0)),(5,(.val (.int .i64) x,none))],[(0,.grow 136 2 (Z.length))],1,89,0⟩) aB) ?_ ?_
 .refine tC hy2 (fun x=>⟨[(0,.val .str O,none),(4,(.val (.list qK) Z,some 0)),(5,(.val (.int .i64) x,none))],[(0,.grow 136 2 (Z.length))],1,89,0⟩) ⟨[0,4,5],[(0,0)]⟩ pQ ?_;intro aC w2 n2 f k;unfold RR at f;dsimp only at f|-;refine qC ?_;obtain⟨X,f⟩:=pZ f;refine pU xT ?_ (hp:=by exact⟨id,id,X,id,rZ⟩);refine qD f ?_ ?_<;>intro f Y
  .refine qM (q8 (rN ?_));obtain⟨W,f⟩:=pZ f;refine qV xT ?_ (hp:=by exact W);refine rK ?_;cases f;exact sM ⟨⟨[0,4,5],[(0,0)]⟩,_,by rfl,k⟩
  refine t8 (t6 (tA ?_));cases f;cases k;exact tM ⟨⟨[0,4,5],[(0,0)]⟩,by rfl⟩
 rintro _ rfl;dsimp only at g|-;refine t7 (q8 (qC ?_));refine pU xT ?_;refine qD g ?_ ?_<;>intro g Y
 .refine pU xT ?_;refine qB (qO (r9 (uB (r9 ?_))));cases g;have d:=aS4 some (show _=_ from j);cases d;exact p9 [(0,0)]
 refine qM (q8 (qC ?_));obtain⟨V,g⟩:=pZ g;refine pU xT ?_ (hp:=by exact V);obtain⟨y2,f,g⟩:=v6 g;refine AO (fun s=> ∃v,y2= .inl v∧s=(fun x=>⟨[(0,.val .str O,none),(4,(.val (.list qK) x.1,some 0)),(5,(.val (.int .i64) x.2,none))],[(0,.grow 136 2 (x.1.length))],1,89,0⟩) v) ?_ ?_
 .refine qD f ?_ ?_<;>intro f Y
  .obtain⟨U,f⟩:=pZ f;obtain⟨aD,hv5,hw5,f⟩:=rG f
   try simp only[go_sem] at hw5
   refine pU xT ?_ (hp:=by exact⟨U,(rE hv5)⟩) (h:=by simp only[go_sem,hw5];rfl);refine qC (pU xT ?_);refine qD f ?_ ?_<;>intro f Y
   .refine pU xT ?_;refine qB (qO (a1p (qO (r9 (uB (r9 ?_))))));cases f;dsimp only at g;cases g;have d:=aS4 some (show _=_ from j);cases d;exact p9 [(0,673)]
   refine qM (q8 ?_);obtain⟨T,f⟩:=pZ f;refine pU xT ?_ (hp:=by exact⟨pO,T⟩)
   obtain⟨S,f⟩:=pZ f;refine qV xT ?_ (hp:=by exact S);cases f;exact tD ⟨⟨[0,4,5],[(0,0)]⟩,_,rfl,by rfl⟩
  refine pU xT ?_;refine qC (rN ?_);obtain⟨aE,hy3,f⟩:=qQ f;refine tK 4 (fun s=>s=(fun x=>⟨[(0,.val .str O,none),(4,(.val (.list qK) Z,some 0)),(5,(.val (.int .i64) aB,none)),(9,.val (.int .i64) x,none)],[(0,.grow 136 2 (Z.length))],1,89,0⟩) aE) ?_ ?_
  .refine tC hy3 (fun x=>⟨[(0,.val .str O,none),(4,(.val (.list qK) Z,some 0)),(5,(.val (.int .i64) aB,none)),(9,.val (.int .i64) x,none)],[(0,.grow 136 2 (Z.length))],1,89,0⟩) ⟨[0,4,5,9],[(0,0)]⟩ pQ ?_;intro aF w3 n3 i l;unfold RS at i;dsimp only at i|-;refine qC ?_;obtain⟨R,Q,i⟩:=oZ i;refine pU xT ?_ (hp:=by exact⟨id,id,R,id,id,rZ,id,id,Q,id,rZ⟩);refine qD i ?_ ?_<;>intro i Y
   .refine qM (q8 (rN ?_));obtain⟨P,i⟩:=pZ i;refine qV xT ?_ (hp:=by exact P);refine rK ?_;cases i;exact sM ⟨⟨[0,4,5,9],[(0,0)]⟩,_,by rfl,l⟩
   refine t8 (t6 (tA ?_));cases i;cases l;exact tM ⟨⟨[0,4,5,9],[(0,0)]⟩,by rfl⟩
  rintro _ rfl;dsimp only at f|-;refine t7 (q8 ?_);obtain⟨M,L,f⟩:=oZ f;refine pU xT ?_ (hp:=by exact⟨M,pO,L⟩)
  refine qV xT ?_;cases f;exact tD ⟨⟨[0,4,5],[(0,0)]⟩,_,rfl,by rfl⟩
 rintro _ ⟨v,rfl,rfl⟩;obtain⟨aG,aH⟩:=v;dsimp only at g|-;refine q8 ?_;obtain⟨K,g⟩:=pZ g;refine pU xT ?_ (hp:=by exact⟨id,id,K,id,id,rZ⟩);refine qD g ?_ ?_<;>intro g Y
 .refine pU xT ?_;refine qB (r9 (uB (r9 ?_)));cases g;have d:=aS4 some (show _=_ from j);cases d;exact p9 [(0,353)]
 refine qM (rK ?_);cases g;exact sM ⟨⟨[0,4,5],[(0,0)]⟩,_,by rfl,j⟩
def GZ (O:p7):Option (p7×Int):=if (decide ((O.length:Int)<(2:Int)))=true then some ((([]:p7),(0:Int))) else if 0≤(1:Int)∧(1:Int)<(O.length:Int) then if (decide ((rI O (1:Int))=(110:Int)))=true then some ((([10]:p7),(2:Int))) else if (decide ((rI O (1:Int))=(114:Int)))=true then some ((([13]:p7),(2:Int))) else if (decide ((rI O (1:Int))=(116:Int)))=true then some ((([9]:p7),(2:Int))) else if (decide ((rI O (1:Int))=(120:Int)))=true then if (decide ((4:Int)≤(O.length:Int)))=true then if 0≤(2:Int)∧(2:Int)≤(4:Int)∧(4:Int)≤(O.length:Int) then (F7 (qR O (2:Int) (4:Int)) (16:Int)).bind fun Z=>if (Z.2&&(decide (Z.1≤(127:Int))))=true then some (((tP ([(IntKind.wrap .u8 Z.1)]:pH)),(4:Int))) else some ((([]:p7),(0:Int))) else none else some ((([]:p7),(0:Int))) else if (decide ((rI O (1:Int))=(117:Int)))=true then if (decide ((6:Int)≤(O.length:Int)))=true then if 0≤(2:Int)∧(2:Int)≤(6:Int)∧(6:Int)≤(O.length:Int) then (F7 (qR O (2:Int) (6:Int)) (16:Int)).bind fun aA=>if aA.2=true then (JE aA.1).bind fun aB=>if ((decide (aA.1≤(1114111:Int)))&&((decide (aA.1<(55296:Int)))||(decide ((57343:Int)<aA.1))))=true then some ((aB,(6:Int))) else some ((([]:p7),(0:Int))) else some ((([]:p7),(0:Int))) else none else some ((([]:p7),(0:Int))) else if (decide ((0:Int)≤(vU ([92,34,61,58,35,33,123,125,32]:p7) (rI O (1:Int)))))=true then if 0≤(1:Int)∧(1:Int)≤(2:Int)∧(2:Int)≤(O.length:Int) then some (((qR O (1:Int) (2:Int)),(2:Int))) else none else some ((([]:p7),(0:Int))) else none
section
variable (O:p7)
abbrev a7J:List pW:=[(.val .str O,none)]
abbrev a7K:List pV:=[]
@[go_sem] def a7L:qH:=⟨[((GZ O)).isSome=true],[(.val .str ((val (GZ O)).1),none),(.val (.int .i64) ((val (GZ O)).2),none)],[]⟩
def aGp:List pW→List pV→Option qH:=rQ (V:=p7) (a7J) (fun x=>a7K) fun x=>a7L x
@[go_sem] def aR5:aGp (no_index (a7J O)) (no_index a7K)=some (a7L O):=rR (fun a0 b0 h1 h2=>by cases h1;cases h2;rfl) O
end
@[go_sem] abbrev aGq:Nat×r5:=(180,⟨[.v],aGp,[],[],none⟩)
def uO:qW prog [uU,DP,s8,DN] (qY [a4F,a7C,NM]):=⟨⟨vH,⟨GE,⟨s9,⟨GD,trivial⟩⟩⟩⟩,qJ aEG (qJ aGk (qJ WE rL)),qZ⟩
def aNt:rC prog aGq:=by
 refine rS uO func180 (c:=_) rfl (N:=67) pP (ts:=[(2,none),(3,none)]) rfl (fun _ _=>rfl) ?_;intro O hs hrow;dsimp only[a7J,a7K,a7L,rM,qP,qU,r6,rP,Nat.reduceAdd] at hs hrow|-;have hz:=hs;obtain⟨z0,d⟩:=aSF.1 hz
 try rw[rU d]
 clear hz hs;unfold GZ at d;refine pU uO ?_;refine qC (pU uO ?_);refine qD d ?_ ?_<;>intro d Y
 .refine pU uO ?_;refine qB (qO ?_);cases d;exact p9 []
 refine qM (q8 (qC ?_));obtain⟨X,d⟩:=pZ d;refine pU uO ?_ (hp:=by exact X);refine pU uO ?_;refine rN (pU uO ?_);refine qD d ?_ ?_<;>intro d Y
 .refine pU uO ?_;refine qB (r9 (qO ?_));cases d;exact p9 []
 refine pU uO ?_;refine qD d ?_ ?_<;>intro d Y
 .refine pU uO ?_;refine qB (r9 (qO ?_));cases d;exact p9 []
 refine pU uO ?_;refine qD d ?_ ?_<;>intro d Y
 .refine pU uO ?_;refine qB (r9 (qO ?_));cases d;exact p9 []
 refine pU uO ?_;refine qD d ?_ ?_<;>intro d Y
 .refine pU uO ?_;refine qD d ?_ ?_<;>intro d Y
  .obtain⟨W,d⟩:=pZ d;obtain⟨Z,hv3,hw3,d⟩:=rG d
   try simp only[go_sem] at hw3
   refine pU uO ?_ (hp:=by exact⟨W,(rE hv3)⟩) (h:=by simp only[go_sem,hw3];rfl);refine pU uO ?_ (hp:=by exact⟨id,rZ⟩);refine qD d ?_ ?_<;>intro d Y
   .refine pU uO ?_;refine qB (r9 (qO ?_));cases d;exact p9 []
   refine qM (rK (q8 (pU uO ?_)));refine qB ?_;cases d;exact p9 []
  refine qM (rK (q8 (pU uO ?_)));refine qB ?_;cases d;exact p9 []
 refine pU uO ?_;refine qD d ?_ ?_<;>intro d Y
 .refine pU uO ?_;refine qD d ?_ ?_<;>intro d Y
  .obtain⟨V,d⟩:=pZ d;obtain⟨aA,hv5,hw5,d⟩:=rG d
   try simp only[go_sem] at hw5
   refine pU uO ?_ (hp:=by exact⟨V,(rE hv5)⟩) (h:=by simp only[go_sem,hw5];rfl);refine pU uO ?_;refine qD d ?_ ?_<;>intro d Y
   .obtain⟨aB,hv6,hw6,d⟩:=rG d
    try simp only[go_sem] at hw6
    refine pU uO ?_ (hp:=by exact(rE hv6)) (h:=by simp only[go_sem,hw6];rfl);refine pU uO ?_;refine qD d ?_ ?_<;>intro d Y
    .refine pU uO ?_;refine qB (r9 (qO ?_));cases d;exact p9 []
    refine qM (rK (q8 (pU uO ?_)));refine qB ?_;cases d;exact p9 []
   refine qM (rK (q8 (pU uO ?_)));refine qB ?_;cases d;exact p9 []
  refine qM (rK (q8 (pU uO ?_)));refine qB ?_;cases d;exact p9 []
 refine pU uO ?_;refine qD d ?_ ?_<;>intro d Y
 .obtain⟨U,d⟩:=pZ d;refine pU uO ?_ (hp:=by exact U);refine qB (r9 (qO ?_));cases d;exact p9 []
 refine qM (rK (q8 (pU uO ?_)));refine qB ?_;cases d;exact p9 []
attribute [irreducible] M4 M6 GZ
end
noncomputable section
def OL (O:p7):Option (p7×Int):=if (decide ((vU O (59:Int))<(0:Int)))=true then some ((([]:p7),(0:Int))) else if 0≤(1:Int)∧(1:Int)≤(vU O (59:Int))∧(vU O (59:Int))≤(O.length:Int) then if (decide ((qR O (1:Int) (vU O (59:Int)))=([97,109,112]:p7)))=true then if pX ((vU O (59:Int))+(1:Int)) then some ((([38]:p7),((vU O (59:Int))+(1:Int)))) else none else if (decide ((qR O (1:Int) (vU O (59:Int)))=([108,116]:p7)))=true then if pX ((vU O (59:Int))+(1:Int)) then some ((([60]:p7),((vU O (59:Int))+(1:Int)))) else none else if (decide ((qR O (1:Int) (vU O (59:Int)))=([103,116]:p7)))=true then if pX ((vU O (59:Int))+(1:Int)) then some ((([62]:p7),((vU O (59:Int))+(1:Int)))) else none else if (decide ((qR O (1:Int) (vU O (59:Int)))=([113,117,111,116]:p7)))=true then if pX ((vU O (59:Int))+(1:Int)) then some ((([34]:p7),((vU O (59:Int))+(1:Int)))) else none else if (decide ((qR O (1:Int) (vU O (59:Int)))=([97,112,111,115]:p7)))=true then if pX ((vU O (59:Int))+(1:Int)) then some ((([39]:p7),((vU O (59:Int))+(1:Int)))) else none else (LV (qR O (1:Int) (vU O (59:Int))) ([35]:p7)).bind fun Z=>if (!Z.2)=true then some ((([]:p7),(0:Int))) else (LV Z.1 ([120]:p7)).bind fun aA=>sN (σ:=(p7×Int×Int)) (if aA.2=true then some ((aA.1,(16:Int),(6:Int))) else some ((Z.1,(10:Int),(7:Int))) ) fun(aB,aC,aD)=>(F7 aB aC).bind fun aE=>if ((!aE.2)||(decide (aD<(aB.length:Int))))=true then some ((([]:p7),(0:Int))) else (JE aE.1).bind fun aF=>if (!((decide (aE.1≤(1114111:Int)))&&((decide (aE.1<(55296:Int)))||(decide ((57343:Int)<aE.1)))))=true then some ((([]:p7),(0:Int))) else if pX ((vU O (59:Int))+(1:Int)) then some ((aF,((vU O (59:Int))+(1:Int)))) else none else none
section
variable (O:p7)
abbrev a7M:List pW:=[(.val .str O,none)]
abbrev a7N:List pV:=[]
@[go_sem] def a7O:qH:=⟨[((OL O)).isSome=true],[(.val .str ((val (OL O)).1),none),(.val (.int .i64) ((val (OL O)).2),none)],[]⟩
def aGr:List pW→List pV→Option qH:=rQ (V:=p7) (a7M) (fun x=>a7N) fun x=>a7O x
@[go_sem] def aR6:aGr (no_index (a7M O)) (no_index a7N)=some (a7O O):=rR (fun a0 b0 h1 h2=>by cases h1;cases h2;rfl) O
end
@[go_sem] abbrev aGs:Nat×r5:=(181,⟨[.v],aGr,[],[],none⟩)
def uY:qW prog [s8] (qY [NM,aFC,a4F,a7C]):=⟨⟨s9,trivial⟩,qJ WE (qJ aNc (qJ aEG (qJ aGk rL))),qZ⟩
def aNu:rC prog aGs:=by
 refine rS uY func181 (c:=_) rfl (N:=80) pP (ts:=[(2,none),(3,none)]) rfl (fun _ _=>rfl) ?_;intro O hs hrow;dsimp only[a7M,a7N,a7O,rM,qP,qU,r6,rP,Nat.reduceAdd] at hs hrow|-;have hz:=hs;obtain⟨z0,d⟩:=aSF.1 hz
 try rw[rU d]
 clear hz hs;unfold OL at d;refine pU uY ?_;refine pU uY ?_;refine qC (pU uY ?_);refine qD d ?_ ?_<;>intro d Y
 .refine pU uY ?_;refine qB (qO ?_);cases d;exact p9 []
 refine qM (q8 ?_);obtain⟨X,d⟩:=pZ d;refine pU uY ?_ (hp:=by exact X);refine qC (pU uY ?_);refine rN (pU uY ?_);refine qD d ?_ ?_<;>intro d Y
 .obtain⟨W,d⟩:=pZ d;refine pU uY ?_ (hp:=by exact W);refine qB (r9 (qO ?_));cases d;exact p9 []
 refine pU uY ?_;refine qD d ?_ ?_<;>intro d Y
 .obtain⟨V,d⟩:=pZ d;refine pU uY ?_ (hp:=by exact V);refine qB (r9 (qO ?_));cases d;exact p9 []
 refine pU uY ?_;refine qD d ?_ ?_<;>intro d Y
 .obtain⟨U,d⟩:=pZ d;refine pU uY ?_ (hp:=by exact U);refine qB (r9 (qO ?_));cases d;exact p9 []
 refine pU uY ?_;refine qD d ?_ ?_<;>intro d Y
 .obtain⟨T,d⟩:=pZ d;refine pU uY ?_ (hp:=by exact T);refine qB (r9 (qO ?_));cases d;exact p9 []
 refine pU uY ?_;refine qD d ?_ ?_<;>intro d Y
 .obtain⟨S,d⟩:=pZ d;refine pU uY ?_ (hp:=by exact S);refine qB (r9 (qO ?_));cases d;exact p9 []
 refine qM (rK (q8 ?_));obtain⟨Z,hv7,hw7,d⟩:=rG d
 try simp only[go_sem] at hw7
 refine pU uY ?_ (hp:=by exact(rE hv7)) (h:=by simp only[go_sem,hw7];rfl);refine qC (pU uY ?_);refine qD d ?_ ?_<;>intro d Y
 .refine pU uY ?_;refine qB (qO ?_);cases d;exact p9 []
 refine qM (q8 (pU uY ?_));refine qC ?_;obtain⟨aA,hv8,hw8,d⟩:=rG d
 try simp only[go_sem] at hw8
 refine pU uY ?_ (hp:=by exact(rE hv8)) (h:=by simp only[go_sem,hw8];rfl);refine pU uY ?_;obtain⟨y1,e,d⟩:=qQ d;refine AO (fun s=>s=(fun x=>⟨[(4,.val (.int .i64) (vU O (59:Int)),none),(6,.val .str x.1,none),(8,.val (.int .i64) x.2.1,none),(9,.val (.int .i64) x.2.2,none)],[],0,80,0⟩) y1) ?_ ?_
 .refine qD e ?_ ?_<;>intro e Y
  .refine qV uY ?_;cases e;exact tD ⟨⟨[4,6,8,9],[]⟩,by rfl⟩
  refine qM ?_;cases e;exact tD ⟨⟨[4,6,8,9],[]⟩,by rfl⟩
 rintro _ rfl;obtain⟨aB,aC,aD⟩:=y1;dsimp only at d|-;refine q8 ?_;obtain⟨aE,hv9,hw9,d⟩:=rG d
 try simp only[go_sem] at hw9
 refine pU uY ?_ (hp:=by exact(rE hv9)) (h:=by simp only[go_sem,hw9];rfl);refine qC (pU uY ?_ (hp:=by exact⟨id,id,id,tN⟩));refine qD d ?_ ?_<;>intro d Y
 .refine pU uY ?_;refine qB (qO ?_);cases d;exact p9 []
 refine qM (q8 ?_);obtain⟨aF,hv10,hw10,d⟩:=rG d
 try simp only[go_sem] at hw10
 refine pU uY ?_ (hp:=by exact(rE hv10)) (h:=by simp only[go_sem,hw10];rfl);refine qC (pU uY ?_);refine qD d ?_ ?_<;>intro d Y
 .refine pU uY ?_;refine qB (qO ?_);cases d;exact p9 []
 refine qM (q8 ?_);obtain⟨R,d⟩:=pZ d;refine pU uY ?_ (hp:=by exact R);refine qB ?_;cases d;exact p9 []
def aGt (O:Int) (Z:p7):(Int×pH)→Option ((Int×pH)⊕(pH⊕(p7×Int×Int))):=fun(aA,aB)=>if (decide (aA<(Z.length:Int)))=true then if 0≤aA∧aA<(Z.length:Int) then if (decide ((rI Z aA)=(38:Int)))=true then if 0≤aA∧aA≤(Z.length:Int)∧(Z.length:Int)≤(Z.length:Int) then (OL (qR Z aA (Z.length:Int))).bind fun aC=>if (decide (aC.2=(0:Int)))=true then some (.inr (.inr ((([]:p7),aA,(3:Int))))) else (L6 (aB,()) aC.1).bind fun aD=>if pX (aA+aC.2) then some (.inl ((aA+aC.2),(aB++uK aC.1))) else none else none else if 0≤aA∧aA<(Z.length:Int) then if (LD O (rI Z aA))=true then some (.inr (.inr ((([]:p7),aA,(3:Int))))) else if 0≤aA∧aA<(Z.length:Int) then (LE (aB,()) (rI Z aA)).bind fun aE=>if pX (aA+(1:Int)) then some (.inl ((aA+(1:Int)),(aB++([(rI Z aA)]:pH)))) else none else none else none else none else some (.inr (.inl aB))
def OM (O:Int) (Z:p7):(Int×pH)→Option ((Int×pH)⊕(pH⊕(p7×Int×Int))):=fun(aA,aB)=>if (decide (aA<(Z.length:Int)))=true then if 0≤aA∧aA<(Z.length:Int) then if (decide ((rI Z aA)=(92:Int)))=true then if 0≤aA∧aA≤(Z.length:Int)∧(Z.length:Int)≤(Z.length:Int) then (GZ (qR Z aA (Z.length:Int))).bind fun aC=>if (decide (aC.2=(0:Int)))=true then some (.inr (.inr ((([]:p7),aA,(3:Int))))) else (L6 (aB,()) aC.1).bind fun aD=>if pX (aA+aC.2) then some (.inl ((aA+aC.2),(aB++uK aC.1))) else none else none else if 0≤aA∧aA<(Z.length:Int) then if (LD O (rI Z aA))=true then some (.inr (.inr ((([]:p7),aA,(3:Int))))) else if 0≤aA∧aA<(Z.length:Int) then (LE (aB,()) (rI Z aA)).bind fun aE=>if pX (aA+(1:Int)) then some (.inl ((aA+(1:Int)),(aB++([(rI Z aA)]:pH)))) else none else none else none else none else some (.inr (.inl aB))
def M7 (O:Int) (Z:p7):Option (p7×Int×Int):=if (!((decide ((1:Int)≤O))&&(decide (O≤(4:Int)))))=true then some ((([]:p7),(0:Int),(1:Int))) else if (decide (O=(4:Int)))=true then tI (rF (aGt O Z) ((0:Int),([]:pH))) fun aA=>some (((tP aA),(0:Int),(0:Int))) else tI (rF (OM O Z) ((0:Int),([]:pH))) fun aB=>some (((tP aB),(0:Int),(0:Int)))
section
variable (O:Int) (Z:p7)
abbrev a7P:List pW:=[(.val (.int .i64) O,none),(.val .str Z,none)]
abbrev a7Q:List pV:=[]
@[go_sem] def a7R:qH:=let q:=val (M7 O Z);⟨[((M7 O Z)).isSome=true],[(.val .str (q.1),none),(.val (.int .i64) (q.2.1),none),(.val (.int .i64) (q.2.2),none)],[]⟩
def aGu:List pW→List pV→Option qH:=rQ (V:=(Int×p7)) (fun x=>a7P x.1 x.2) (fun x=>a7Q) fun x=>a7R x.1 x.2
@[go_sem] def aR7:aGu (no_index (a7P O Z)) (no_index a7Q)=some (a7R O Z):=rR (fun⟨a0,a1⟩ ⟨b0,b1⟩ h1 h2=>by cases h1;cases h2;rfl) (O,Z)
end
@[go_sem] abbrev aGv:Nat×r5:=(149,⟨[.v,.v],aGu,[],[],none⟩)
def uC:qW prog [s8,L4] (qY [a3j,aGs,aDu,aEw,aEy,QR,aGq]):=⟨⟨s9,⟨QY,trivial⟩⟩,qJ aDV (qJ aNu (qJ aMA (qJ aMO (qJ aMP (qJ a1E (qJ aNt rL)))))),qZ⟩
def aNv:rC prog aGv:=by
 refine rS uC func149 (c:=_) rfl (N:=58) pP (ts:=[(4,none),(5,none),(6,none)]) rfl (fun _ _=>rfl) ?_;intro⟨O,Z⟩ hs hrow;dsimp only[a7P,a7Q,a7R,rM,qP,qU,r6,rP,Nat.reduceAdd] at hs hrow|-;have hz:=hs;obtain⟨z0,d⟩:=aSF.1 hz
 try rw[rU d]
 clear hz hs;unfold M7 at d;refine pU uC ?_;refine qC (pU uC ?_);refine qD d ?_ ?_<;>intro d Y
 .refine pU uC ?_;refine qB (qO ?_);cases d;exact p9 []
 refine qM (q8 (pU uC ?_));refine qC (pU uC ?_);refine qD d ?_ ?_<;>intro d Y
 .refine qV uC ?_;refine q8 (pU uC ?_);refine qC (pU uC ?_);refine rN ?_;obtain⟨y1,hy1,d⟩:=v6 d;refine tK 0 (fun s=> ∃v,y1= .inl v∧s=(fun x=>⟨[(9,.val .ref (some (0,0)),none)],[(0,.cells xR ((some (0,0)),(x,())) [(1,1)]),(1,.grow 5 1 (x.length))],2,58,0⟩) v) ?_ ?_
  .refine tC hy1 (fun x=>⟨[(0,.val (.int .i64) O,none),(1,.val .str Z,none),(7,.val (.int .u8) (38:Int),none),(8,.val .clo (some (181,[])),none),(9,.val .ref (some (0,0)),none),(10,.val (.int .i64) x.1,none)],[(0,.cells xR ((some (0,0)),(x.2,())) [(1,1)]),(1,.grow 5 1 (x.2.length))],2,58,0⟩) ⟨[0,1,7,8,9,10],[(0,384),(1,385)]⟩ pQ ?_;intro x1 w1 n1 e f;obtain⟨aA,aB⟩:=x1;unfold aGt at e;dsimp only at e|-;refine qC (pU uC ?_);refine qD e ?_ ?_<;>intro e Y
   .refine qM (q8 (rN (rN ?_)));obtain⟨X,e⟩:=pZ e;refine pU uC ?_ (hp:=by exact X);refine qD e ?_ ?_<;>intro e Y
    .obtain⟨W,e⟩:=pZ e;obtain⟨aC,hv3,hw3,e⟩:=rG e
     try simp only[go_sem] at hw3
     refine pU uC ?_ (hp:=by exact⟨W,(rE hv3)⟩) (h:=by simp only[go_sem,hw3];rfl);refine qC (pU uC ?_);refine qD e ?_ ?_<;>intro e Y
     .refine pU uC ?_;refine qB (qO (r9 (r9 (uB (vE (r9 (qO ?_)))))));cases e;cases f;dsimp only at d;cases d;exact p9 []
     refine qM (q8 ?_);obtain⟨aD,hv4,hw4,e⟩:=rG e
     try simp only[go_sem] at hw4
     refine pU uC ?_ (hp:=by exact⟨pO,(rE hv4)⟩) (h:=by simp only[go_sem,hw4];rfl)
     obtain⟨V,e⟩:=pZ e;refine qV uC ?_ (hp:=by exact V);refine rK (rK ?_);cases e;exact sM ⟨⟨[0,1,7,8,9,10],[(0,0),(1,1)]⟩,_,by rfl,f⟩
    obtain⟨U,e⟩:=pZ e;refine pU uC ?_ (hp:=by exact U);refine qD e ?_ ?_<;>intro e Y
    .refine pU uC ?_;refine qB (r9 (r9 (uB (vE (r9 (qO ?_))))));cases e;cases f;dsimp only at d;cases d;exact p9 []
    obtain⟨T,e⟩:=pZ e;obtain⟨aE,hv8,hw8,e⟩:=rG e
    try simp only[go_sem] at hw8
    refine pU uC ?_ (hp:=by exact⟨T,pO,(rE hv8)⟩) (h:=by simp only[go_sem,hw8];rfl)
    obtain⟨S,e⟩:=pZ e;refine qV uC ?_ (hp:=by exact S);refine rK (rK ?_);cases e;exact sM ⟨⟨[0,1,7,8,9,10],[(0,0),(1,1)]⟩,_,by rfl,f⟩
   refine t8 (t6 (tA ?_));cases e;cases f;exact tM ⟨⟨[9],[(0,0),(1,1)]⟩,_,rfl,by rfl⟩
  rintro _ ⟨aF,rfl,rfl⟩;dsimp only at d|-;refine t7 (q8 ?_);refine pU uC ?_ (hp:=by first|rfl|trivial)
  refine qB ?_;cases d;exact p9 []
 refine qM (q8 (pU uC ?_));refine qC (pU uC ?_);refine rN ?_;obtain⟨y1,hy1,d⟩:=v6 d;refine tK 0 (fun s=> ∃v,y1= .inl v∧s=(fun x=>⟨[(9,.val .ref (some (0,0)),none)],[(0,.cells xR ((some (0,0)),(x,())) [(1,1)]),(1,.grow 5 1 (x.length))],2,58,0⟩) v) ?_ ?_
 .refine tC hy1 (fun x=>⟨[(0,.val (.int .i64) O,none),(1,.val .str Z,none),(7,.val (.int .u8) (92:Int),none),(8,.val .clo (some (180,[])),none),(9,.val .ref (some (0,0)),none),(10,.val (.int .i64) x.1,none)],[(0,.cells xR ((some (0,0)),(x.2,())) [(1,1)]),(1,.grow 5 1 (x.2.length))],2,58,0⟩) ⟨[0,1,7,8,9,10],[(0,320),(1,321)]⟩ pQ ?_;intro x1 w1 n1 e f;obtain⟨aG,aH⟩:=x1;unfold OM at e;dsimp only at e|-;refine qC (pU uC ?_);refine qD e ?_ ?_<;>intro e Y
  .refine qM (q8 (rN (rN ?_)));obtain⟨R,e⟩:=pZ e;refine pU uC ?_ (hp:=by exact R);refine qD e ?_ ?_<;>intro e Y
   .obtain⟨Q,e⟩:=pZ e;obtain⟨aI,hv12,hw12,e⟩:=rG e
    try simp only[go_sem] at hw12
    refine pU uC ?_ (hp:=by exact⟨Q,(rE hv12)⟩) (h:=by simp only[go_sem,hw12];rfl);refine qC (pU uC ?_);refine qD e ?_ ?_<;>intro e Y
    .refine pU uC ?_;refine qB (qO (r9 (r9 (uB (vE (r9 (qO ?_)))))));cases e;cases f;dsimp only at d;cases d;exact p9 []
    refine qM (q8 ?_);obtain⟨aJ,hv13,hw13,e⟩:=rG e
    try simp only[go_sem] at hw13
    refine pU uC ?_ (hp:=by exact⟨pO,(rE hv13)⟩) (h:=by simp only[go_sem,hw13];rfl)
    obtain⟨P,e⟩:=pZ e;refine qV uC ?_ (hp:=by exact P);refine rK (rK ?_);cases e;exact sM ⟨⟨[0,1,7,8,9,10],[(0,0),(1,1)]⟩,_,by rfl,f⟩
   obtain⟨M,e⟩:=pZ e;refine pU uC ?_ (hp:=by exact M);refine qD e ?_ ?_<;>intro e Y
   .refine pU uC ?_;refine qB (r9 (r9 (uB (vE (r9 (qO ?_))))));cases e;cases f;dsimp only at d;cases d;exact p9 []
   obtain⟨L,e⟩:=pZ e;obtain⟨aK,hv17,hw17,e⟩:=rG e
   try simp only[go_sem] at hw17
   refine pU uC ?_ (hp:=by exact⟨L,pO,(rE hv17)⟩) (h:=by simp only[go_sem,hw17];rfl)
   obtain⟨K,e⟩:=pZ e;refine qV uC ?_ (hp:=by exact K);refine rK (rK ?_);cases e;exact sM ⟨⟨[0,1,7,8,9,10],[(0,0),(1,1)]⟩,_,by rfl,f⟩
  refine t8 (t6 (tA ?_));cases e;cases f;exact tM ⟨⟨[9],[(0,0),(1,1)]⟩,_,rfl,by rfl⟩
 rintro _ ⟨aL,rfl,rfl⟩;dsimp only at d|-;refine t7 (q8 ?_);refine pU uC ?_ (hp:=by first|rfl|trivial)
 refine qB ?_;cases d;exact p9 []
attribute [irreducible] OL M7
end
noncomputable section
def RU (O:p7):Int→Option (Int⊕Int):=fun Z=>if (((decide (Z<(O.length:Int)))==true)=true→0≤Z∧Z<(O.length:Int)) then if ((decide (Z<(O.length:Int)))&&((decide ((rI O Z)=(32:Int)))||(decide ((rI O Z)=(9:Int)))))=true then if pX (Z+(1:Int)) then some (.inl (Z+(1:Int))) else none else some (.inr Z) else none
def JF (O:A7) (Z:p7) (aA:Int):Option (p7×p8×(List qG)×(List sA)×pH×p7×p7×p7×p8×p8×Int×(List qG)×Bool×Bool×Bool×Bool×Bool×p7×p7×Int):=if (((decide ((0:Int)<(Z.length:Int)))==true)=true→pX ((Z.length:Int)- (1:Int))) then if (((decide ((0:Int)<(Z.length:Int)))==true)=true→0≤((Z.length:Int)- (1:Int))∧((Z.length:Int)- (1:Int))<(Z.length:Int)) then sN (σ:=p7) (if ((decide ((0:Int)<(Z.length:Int)))&&(decide ((rI Z ((Z.length:Int)- (1:Int)))=(10:Int))))=true then if pX ((Z.length:Int)- (1:Int)) then if 0≤(0:Int)∧(0:Int)≤((Z.length:Int)- (1:Int))∧((Z.length:Int)- (1:Int))≤(Z.length:Int) then some ((qR Z (0:Int) ((Z.length:Int)- (1:Int)))) else none else none else some (Z) ) fun aB=>sN (rF (RU aB) (0:Int)) fun aC=>if (((decide (aC=(aB.length:Int)))==false)=true→0≤aC∧aC<(aB.length:Int)) then if ((decide (aC=(aB.length:Int)))||(decide ((rI aB aC)=(35:Int))))=true then some ((O.1.1,O.1.2.1,O.1.2.2.1,O.1.2.2.2.1,O.2.1,O.2.2.1.1,O.2.2.1.2.1,O.2.2.1.2.2.1,O.2.2.1.2.2.2.1,O.2.2.1.2.2.2.2.1,O.2.2.1.2.2.2.2.2.1,O.2.2.1.2.2.2.2.2.2.1,O.2.2.2.1,O.2.2.2.2.1,O.2.2.2.2.2.1,O.2.2.2.2.2.2.1,O.2.2.2.2.2.2.2.1,O.2.2.2.2.2.2.2.2.1,O.2.2.2.2.2.2.2.2.2.1,(0:Int))) else (M6 aB).bind fun aD=>if (!aD.2)=true then some ((O.1.1,O.1.2.1,O.1.2.2.1,O.1.2.2.2.1,O.2.1,O.2.2.1.1,O.2.2.1.2.1,O.2.2.1.2.2.1,O.2.2.1.2.2.2.1,O.2.2.1.2.2.2.2.1,O.2.2.1.2.2.2.2.2.1,O.2.2.1.2.2.2.2.2.2.1,O.2.2.2.1,O.2.2.2.2.1,O.2.2.2.2.2.1,O.2.2.2.2.2.2.1,O.2.2.2.2.2.2.2.1,O.2.2.2.2.2.2.2.2.1,O.2.2.2.2.2.2.2.2.2.1,(3:Int))) else (z8 aD.1).bind fun aE=>if (!aE.2)=true then some ((O.1.1,O.1.2.1,O.1.2.2.1,O.1.2.2.2.1,O.2.1,O.2.2.1.1,O.2.2.1.2.1,O.2.2.1.2.2.1,O.2.2.1.2.2.2.1,O.2.2.1.2.2.2.2.1,O.2.2.1.2.2.2.2.2.1,O.2.2.1.2.2.2.2.2.2.1,O.2.2.2.1,O.2.2.2.2.1,O.2.2.2.2.2.1,O.2.2.2.2.2.2.1,O.2.2.2.2.2.2.2.1,O.2.2.2.2.2.2.2.2.1,O.2.2.2.2.2.2.2.2.2.1,(3:Int))) else if (decide (aE.1=([]:p7)))=true then (JD O aD.1).bind fun aF=>some ((O.1.1,O.1.2.1,O.1.2.2.1,O.1.2.2.2.1,O.2.1,O.2.2.1.1,aF.1,aF.2.1,aF.2.2.1,O.2.2.1.2.2.2.2.1,O.2.2.1.2.2.2.2.2.1,aF.2.2.2.1,O.2.2.2.1,O.2.2.2.2.1,O.2.2.2.2.2.1,O.2.2.2.2.2.2.1,O.2.2.2.2.2.2.2.1,O.2.2.2.2.2.2.2.2.1,O.2.2.2.2.2.2.2.2.2.1,aF.2.2.2.2)) else sN (σ:=Bool) (if (decide (aE.1=([99,97,116,97,108,111,103]:p7)))=true then some ((decide (aE.1=([99,97,116,97,108,111,103]:p7)))) else some ((decide (aE.1=([101,110,116,114,121]:p7)))) ) fun aG=>if aG=true then if 0≤(1:Int)∧(1:Int)<(aD.1.length:Int) then (J3 O aE.1 ((qE qK aD.1 (1:Int)).2.1)).bind fun aH=>some ((aH.1,O.1.2.1,O.1.2.2.1,O.1.2.2.2.1,O.2.1,aH.2.1,aH.2.2.1,aH.2.2.2.1,aH.2.2.2.2.1,aH.2.2.2.2.2.1,aH.2.2.2.2.2.2.1,aH.2.2.2.2.2.2.2.1,aH.2.2.2.2.2.2.2.2.1,aH.2.2.2.2.2.2.2.2.2.1,aH.2.2.2.2.2.2.2.2.2.2.1,aH.2.2.2.2.2.2.2.2.2.2.2.1,aH.2.2.2.2.2.2.2.2.2.2.2.2.1,aH.2.2.2.2.2.2.2.2.2.2.2.2.2.1,aH.2.2.2.2.2.2.2.2.2.2.2.2.2.2.1,aH.2.2.2.2.2.2.2.2.2.2.2.2.2.2.2)) else none else if (decide (aE.1=([101,110,100]:p7)))=true then (IN O aA).bind fun aI=>some ((O.1.1,aI.1,aI.2.1,aI.2.2.1,aI.2.2.2.1,aI.2.2.2.2.1,aI.2.2.2.2.2.1,aI.2.2.2.2.2.2.1,aI.2.2.2.2.2.2.2.1,aI.2.2.2.2.2.2.2.2.1,aI.2.2.2.2.2.2.2.2.2.1,aI.2.2.2.2.2.2.2.2.2.2.1,aI.2.2.2.2.2.2.2.2.2.2.2.1,aI.2.2.2.2.2.2.2.2.2.2.2.2.1,aI.2.2.2.2.2.2.2.2.2.2.2.2.2.1,aI.2.2.2.2.2.2.2.2.2.2.2.2.2.2.1,aI.2.2.2.2.2.2.2.2.2.2.2.2.2.2.2.1,aI.2.2.2.2.2.2.2.2.2.2.2.2.2.2.2.2.1,aI.2.2.2.2.2.2.2.2.2.2.2.2.2.2.2.2.2.1,aI.2.2.2.2.2.2.2.2.2.2.2.2.2.2.2.2.2.2)) else (J5 O aE.1 aD.1).bind fun aJ=>some ((O.1.1,O.1.2.1,O.1.2.2.1,O.1.2.2.2.1,O.2.1,O.2.2.1.1,aJ.1,aJ.2.1,aJ.2.2.1,aJ.2.2.2.1,aJ.2.2.2.2.1,aJ.2.2.2.2.2.1,O.2.2.2.1,aJ.2.2.2.2.2.2.1,aJ.2.2.2.2.2.2.2.1,aJ.2.2.2.2.2.2.2.2.1,aJ.2.2.2.2.2.2.2.2.2.1,aJ.2.2.2.2.2.2.2.2.2.2.1,aJ.2.2.2.2.2.2.2.2.2.2.2.1,aJ.2.2.2.2.2.2.2.2.2.2.2.2)) else none else none else none
section
variable (O:A7) (Z:p7) (aA:Int)
abbrev a7S:List pW:=[(.val wJ O,none),(.val .str Z,none),(.val (.int .i64) aA,none)]
abbrev a7T:List pV:=[]
@[go_sem] def a7U:qH:=let q:=val (JF O Z aA);⟨[((JF O Z aA)).isSome=true],[(.val wJ ((q.1,(q.2.1,(q.2.2.1,(q.2.2.2.1,())))),(q.2.2.2.2.1,((q.2.2.2.2.2.1,(q.2.2.2.2.2.2.1,(q.2.2.2.2.2.2.2.1,(q.2.2.2.2.2.2.2.2.1,(q.2.2.2.2.2.2.2.2.2.1,(q.2.2.2.2.2.2.2.2.2.2.1,(q.2.2.2.2.2.2.2.2.2.2.2.1,()))))))),(q.2.2.2.2.2.2.2.2.2.2.2.2.1,(q.2.2.2.2.2.2.2.2.2.2.2.2.2.1,(q.2.2.2.2.2.2.2.2.2.2.2.2.2.2.1,(q.2.2.2.2.2.2.2.2.2.2.2.2.2.2.2.1,(q.2.2.2.2.2.2.2.2.2.2.2.2.2.2.2.2.1,(q.2.2.2.2.2.2.2.2.2.2.2.2.2.2.2.2.2.1,(q.2.2.2.2.2.2.2.2.2.2.2.2.2.2.2.2.2.2.1,())))))))))),none),(.val (.int .i64) (q.2.2.2.2.2.2.2.2.2.2.2.2.2.2.2.2.2.2.2),none)],[]⟩
def aGw:List pW→List pV→Option qH:=rQ (V:=(A7×p7×Int)) (fun x=>a7S x.1 x.2.1 x.2.2) (fun x=>a7T) fun x=>a7U x.1 x.2.1 x.2.2
@[go_sem] def aR8:aGw (no_index (a7S O Z aA)) (no_index a7T)=some (a7U O Z aA):=rR (fun⟨a0,a1,a2⟩ ⟨b0,b1,b2⟩ h1 h2=>by cases h1;cases h2;rfl) (O,Z,aA)
end
@[go_sem] abbrev aGx:Nat×r5:=(58,⟨[.v,.v,.v],aGw,[],[],none⟩)
def wG:qW prog [s8,IF,IG,IH] (qY [a2X,aGo,aFE,aGi,aFx,aDP,aFK]):=⟨⟨s9,⟨NR,⟨NS,⟨NT,trivial⟩⟩⟩⟩,qJ aDL (qJ aNs (qJ aNd (qJ aNq (qJ aM9 (qJ aMH (qJ aNf rL)))))),qZ⟩
def aNw:rC prog aGx:=by
 refine rS wG func58 (c:=_) rfl (N:=100) pP (ts:=[(6,some 95),(7,none)]) rfl (fun _ _=>rfl) ?_;intro⟨O,Z,aA⟩ hs hrow;dsimp only[a7S,a7T,a7U,rM,qP,qU,r6,rP,Nat.reduceAdd] at hs hrow|-;have hz:=hs;obtain⟨z0,d⟩:=aSF.1 hz
 try rw[rU d]
 clear hz hs;unfold JF at d;refine pU wG ?_;refine qC ?_;obtain⟨X,W,d⟩:=oZ d;refine pU wG ?_ (hp:=by exact⟨id,id,X,id,id,W,id,rZ⟩);obtain⟨aB,f,d⟩:=qQ d;refine AO (fun s=>s=(fun x=>⟨[(1,.val .str x,none),(2,.val (.int .i64) aA,none),(3,.val .ref (some (0,0)),none),(6,.val .ref (some (1,0)),none)],[(0,.cells wJ O []),(1,.cells wJ ((([]:p7),(([]:p8),(([]:List qG),(([]:List sA),())))),(([]:pH),((([]:p7),(([]:p7),(([]:p7),(([]:p8),(([]:p8),((0:Int),(([]:List qG),()))))))),(false,(false,(false,(false,(false,(([]:p7),(([]:p7),())))))))))) [(1,2),(2,3),(3,4),(4,5),(8,6),(9,7),(11,8)]),(2,.grow 9 1 (([]:p8).length)),(3,.grow 110 2 (([]:List qG).length)),(4,.grow 45 7 (([]:List sA).length)),(5,.grow 3 1 (([]:pH).length)),(6,.grow 9 1 (([]:p8).length)),(7,.grow 9 1 (([]:p8).length)),(8,.grow 110 2 (([]:List qG).length))],9,100,0⟩) aB) ?_ ?_
 .refine qD f ?_ ?_<;>intro f Y
  .obtain⟨V,U,f⟩:=oZ f;refine qV wG ?_ (hp:=by exact⟨V,U⟩);cases f;exact tD ⟨⟨[1,2,3,6],[(0,0),(1,32),(2,33),(3,34),(4,35),(5,36),(6,37),(7,38),(8,39)]⟩,by rfl⟩
  refine qM ?_;cases f;exact tD ⟨⟨[1,2,3,6],[(0,0),(1,32),(2,33),(3,34),(4,35),(5,36),(6,37),(7,38),(8,39)]⟩,by rfl⟩
 rintro _ rfl;dsimp only at d|-;refine q8 (pU wG ?_);refine qC (rN ?_);obtain⟨aC,hy1,d⟩:=qQ d;refine tK 0 (fun s=>s=(fun x=>⟨[(1,.val .str aB,none),(2,.val (.int .i64) aA,none),(3,.val .ref (some (0,0)),none),(6,.val .ref (some (1,0)),none),(8,.val (.int .i64) x,none)],[(0,.cells wJ O []),(1,.cells wJ ((([]:p7),(([]:p8),(([]:List qG),(([]:List sA),())))),(([]:pH),((([]:p7),(([]:p7),(([]:p7),(([]:p8),(([]:p8),((0:Int),(([]:List qG),()))))))),(false,(false,(false,(false,(false,(([]:p7),(([]:p7),())))))))))) [(1,2),(2,3),(3,4),(4,5),(8,6),(9,7),(11,8)]),(2,.grow 9 1 (([]:p8).length)),(3,.grow 110 2 (([]:List qG).length)),(4,.grow 45 7 (([]:List sA).length)),(5,.grow 3 1 (([]:pH).length)),(6,.grow 9 1 (([]:p8).length)),(7,.grow 9 1 (([]:p8).length)),(8,.grow 110 2 (([]:List qG).length))],9,100,0⟩) aC) ?_ ?_
 .refine tC hy1 (fun x=>⟨[(1,.val .str aB,none),(2,.val (.int .i64) aA,none),(3,.val .ref (some (0,0)),none),(6,.val .ref (some (1,0)),none),(8,.val (.int .i64) x,none)],[(0,.cells wJ O []),(1,.cells wJ ((([]:p7),(([]:p8),(([]:List qG),(([]:List sA),())))),(([]:pH),((([]:p7),(([]:p7),(([]:p7),(([]:p8),(([]:p8),((0:Int),(([]:List qG),()))))))),(false,(false,(false,(false,(false,(([]:p7),(([]:p7),())))))))))) [(1,2),(2,3),(3,4),(4,5),(8,6),(9,7),(11,8)]),(2,.grow 9 1 (([]:p8).length)),(3,.grow 110 2 (([]:List qG).length)),(4,.grow 45 7 (([]:List sA).length)),(5,.grow 3 1 (([]:pH).length)),(6,.grow 9 1 (([]:p8).length)),(7,.grow 9 1 (([]:p8).length)),(8,.grow 110 2 (([]:List qG).length))],9,100,0⟩) ⟨[1,2,3,6,8],[(0,0),(1,1),(2,2),(3,3),(4,4),(5,5),(6,6),(7,7),(8,8)]⟩ pQ ?_;intro aD w1 n1 f g;unfold RU at f;dsimp only at f|-;refine qC ?_;obtain⟨T,f⟩:=pZ f;refine pU wG ?_ (hp:=by exact⟨id,id,T,id,rZ⟩);refine qD f ?_ ?_<;>intro f Y
  .refine qM (q8 (rN ?_));obtain⟨S,f⟩:=pZ f;refine qV wG ?_ (hp:=by exact S);refine rK ?_;cases f;exact sM ⟨⟨[1,2,3,6,8],[(0,0),(1,1),(2,2),(3,3),(4,4),(5,5),(6,6),(7,7),(8,8)]⟩,_,by rfl,g⟩
  refine t8 (t6 (tA ?_));cases f;cases g;exact tM ⟨⟨[1,2,3,6,8],[(0,0),(1,1),(2,2),(3,3),(4,4),(5,5),(6,6),(7,7),(8,8)]⟩,by rfl⟩
 rintro _ rfl;dsimp only at d|-;refine t7 (q8 (qC ?_));obtain⟨R,d⟩:=pZ d;refine pU wG ?_ (hp:=by exact⟨id,id,R,id,tN⟩);refine qD d ?_ ?_<;>intro d Y
 .refine pU wG ?_;refine qB (qO ?_);cases d;exact p9 []
 refine qM (q8 ?_);obtain⟨aE,hv8,hw8,d⟩:=rG d
 try simp only[go_sem] at hw8
 refine pU wG ?_ (hp:=by exact(rE hv8)) (h:=by simp only[go_sem,hw8];rfl);refine qC (pU wG ?_);refine qD d ?_ ?_<;>intro d Y
 .refine pU wG ?_;refine qB (qO ?_);cases d;exact p9 []
 refine qM (q8 ?_);obtain⟨aF,hv9,hw9,d⟩:=rG d
 try simp only[go_sem] at hw9
 refine pU wG ?_ (hp:=by exact(rE hv9)) (h:=by simp only[go_sem,hw9];rfl);refine qC (pU wG ?_);refine qD d ?_ ?_<;>intro d Y
 .refine pU wG ?_;refine qB (qO ?_);cases d;exact p9 []
 refine qM (q8 (qC (pU wG ?_)));refine rN (pU wG ?_);refine qD d ?_ ?_<;>intro d Y
 .obtain⟨aG,hv10,hw10,d⟩:=rG d
  try simp only[go_sem] at hw10
  refine pU wG ?_ (hp:=by exact(rE hv10)) (h:=by simp only[go_sem,hw10];rfl);refine qB (r9 (qO ?_));cases d;exact p9 []
 refine qC (pU wG ?_);obtain⟨aH,f,d⟩:=qQ d;refine AO (fun s=>s=(fun x=>⟨[(2,.val (.int .i64) aA,none),(3,.val .ref (some (0,0)),none),(6,.val .ref (some (1,0)),none),(9,(.val (.list qK) aE.1,some 2)),(11,(.val .str aF.1,none)),(67,.val .str aF.1,none),(75,.val .bool x,none)],[(0,.cells wJ O []),(1,.cells wJ ((([]:p7),(([]:p8),(([]:List qG),(([]:List sA),())))),(([]:pH),((([]:p7),(([]:p7),(([]:p7),(([]:p8),(([]:p8),((0:Int),(([]:List qG),()))))))),(false,(false,(false,(false,(false,(([]:p7),(([]:p7),())))))))))) [(1,3),(2,4),(3,5),(4,6),(8,7),(9,8),(11,9)]),(2,.grow 136 2 (aE.1.length)),(3,.grow 9 1 (([]:p8).length)),(4,.grow 110 2 (([]:List qG).length)),(5,.grow 45 7 (([]:List sA).length)),(6,.grow 3 1 (([]:pH).length)),(7,.grow 9 1 (([]:p8).length)),(8,.grow 9 1 (([]:p8).length)),(9,.grow 110 2 (([]:List qG).length))],10,100,0⟩) aH) ?_ ?_
 .refine qD f ?_ ?_<;>intro f Y
  .refine qM ?_;cases f;exact tD ⟨⟨[2,3,6,9,11,67,75],[(0,0),(1,1),(2,361),(3,2),(4,3),(5,4),(6,5),(7,6),(8,7),(9,8)]⟩,by rfl⟩
  refine qV wG ?_;cases f;exact tD ⟨⟨[2,3,6,9,11,67,75],[(0,0),(1,1),(2,361),(3,2),(4,3),(5,4),(6,5),(7,6),(8,7),(9,8)]⟩,by rfl⟩
 rintro _ rfl;dsimp only at d|-;refine q8 (qD d (fun d Y=>?_) (fun d Y=>?_))
 .obtain⟨Q,d⟩:=pZ d;obtain⟨aI,hv12,hw12,d⟩:=rG d
  try simp only[go_sem] at hw12
  refine vF wG ?_ (hp:=by exact⟨Q,(rE hv12)⟩) (h:=by simp only[go_sem,hw12];rfl);refine qB (r9 (qO ?_));cases d;exact p9 []
 refine pU wG ?_;refine qD d ?_ ?_<;>intro d Y
 .obtain⟨aJ,hv13,hw13,d⟩:=rG d
  try simp only[go_sem] at hw13
  refine pU wG ?_ (hp:=by exact(rE hv13)) (h:=by simp only[go_sem,hw13];rfl);refine qB (r9 (qO ?_));cases d;exact p9 []
 refine qM (rK (q8 ?_));obtain⟨aK,hv14,hw14,d⟩:=rG d
 try simp only[go_sem] at hw14
 refine pU wG ?_ (hp:=by exact(rE hv14)) (h:=by simp only[go_sem,hw14];rfl);refine qB ?_;cases d;exact p9 []
attribute [irreducible] JF
end
noncomputable section
def H0 (O:(p7×(Bool×Unit))):Option (Bool×p7×Bool×p7×Bool):=if ((decide ((Lib.trimLeftS O.1 ([32,9]:p7))=([]:p7)))||O.2.1)=true then some ((false,([]:p7),false,(Lib.trimLeftS O.1 ([32,9]:p7)),O.2.1)) else if 0≤(0:Int)∧(0:Int)<((Lib.trimLeftS O.1 ([32,9]:p7)).length:Int) then if (!decide ((rI (Lib.trimLeftS O.1 ([32,9]:p7)) (0:Int))=(34:Int)))=true then if List.length (Lib.trimLeftS O.1 ([32,9]:p7))<4294967281 then sN (σ:=Int) (if (decide ((NP (Lib.trimLeftS O.1 ([32,9]:p7)) ([32,9,34]:p7))<(0:Int)))=true then some (((Lib.trimLeftS O.1 ([32,9]:p7)).length:Int)) else some ((NP (Lib.trimLeftS O.1 ([32,9]:p7)) ([32,9,34]:p7))) ) fun Z=>if 0≤(0:Int)∧(0:Int)≤Z∧Z≤((Lib.trimLeftS O.1 ([32,9]:p7)).length:Int) then if 0≤Z∧Z≤((Lib.trimLeftS O.1 ([32,9]:p7)).length:Int)∧((Lib.trimLeftS O.1 ([32,9]:p7)).length:Int)≤((Lib.trimLeftS O.1 ([32,9]:p7)).length:Int) then (OB (qR (Lib.trimLeftS O.1 ([32,9]:p7)) Z ((Lib.trimLeftS O.1 ([32,9]:p7)).length:Int)) ([34]:p7)).bind fun aA=>some ((false,(qR (Lib.trimLeftS O.1 ([32,9]:p7)) (0:Int) Z),(!((decide ((([34]:p7).length:Int)≤((qR (Lib.trimLeftS O.1 ([32,9]:p7)) Z ((Lib.trimLeftS O.1 ([32,9]:p7)).length:Int)).length:Int)))&&(decide ((qR (qR (Lib.trimLeftS O.1 ([32,9]:p7)) Z ((Lib.trimLeftS O.1 ([32,9]:p7)).length:Int)) (0:Int) (([34]:p7).length:Int))=([34]:p7))))),(qR (Lib.trimLeftS O.1 ([32,9]:p7)) Z ((Lib.trimLeftS O.1 ([32,9]:p7)).length:Int)),((decide ((([34]:p7).length:Int)≤((qR (Lib.trimLeftS O.1 ([32,9]:p7)) Z ((Lib.trimLeftS O.1 ([32,9]:p7)).length:Int)).length:Int)))&&(decide ((qR (qR (Lib.trimLeftS O.1 ([32,9]:p7)) Z ((Lib.trimLeftS O.1 ([32,9]:p7)).length:Int)) (0:Int) (([34]:p7).length:Int))=([34]:p7)))))) else none else none else none else if 0≤(1:Int)∧(1:Int)≤((Lib.trimLeftS O.1 ([32,9]:p7)).length:Int)∧((Lib.trimLeftS O.1 ([32,9]:p7)).length:Int)≤((Lib.trimLeftS O.1 ([32,9]:p7)).length:Int) then (LB (2:Int) (qR (Lib.trimLeftS O.1 ([32,9]:p7)) (1:Int) ((Lib.trimLeftS O.1 ([32,9]:p7)).length:Int)) (34:Int)).bind fun aB=>if (decide (aB<(0:Int)))=true then some ((false,([]:p7),false,(Lib.trimLeftS O.1 ([32,9]:p7)),true)) else if pX (aB+(1:Int)) then if 0≤(1:Int)∧(1:Int)≤(aB+(1:Int))∧(aB+(1:Int))≤((Lib.trimLeftS O.1 ([32,9]:p7)).length:Int) then (M7 (2:Int) (qR (Lib.trimLeftS O.1 ([32,9]:p7)) (1:Int) (aB+(1:Int)))).bind fun aC=>if pX (aB+(2:Int)) then if 0≤(aB+(2:Int))∧(aB+(2:Int))≤((Lib.trimLeftS O.1 ([32,9]:p7)).length:Int)∧((Lib.trimLeftS O.1 ([32,9]:p7)).length:Int)≤((Lib.trimLeftS O.1 ([32,9]:p7)).length:Int) then if (((!decide (aC.2.2=(0:Int)))==false)=true→((LN aC.1)).isSome=true) then if (((((!decide (aC.2.2=(0:Int)))||(!((decide ((aC.1.length:Int)≤(4000:Int)))&&(Lib.validD aC.1))))==false)&&((!decide ((qR (Lib.trimLeftS O.1 ([32,9]:p7)) (aB+(2:Int)) ((Lib.trimLeftS O.1 ([32,9]:p7)).length:Int))=([]:p7)))==true))=true→0≤(0:Int)∧(0:Int)<((qR (Lib.trimLeftS O.1 ([32,9]:p7)) (aB+(2:Int)) ((Lib.trimLeftS O.1 ([32,9]:p7)).length:Int)).length:Int)) then if (((((!decide (aC.2.2=(0:Int)))||(!((decide ((aC.1.length:Int)≤(4000:Int)))&&(Lib.validD aC.1))))==false)&&(((!decide ((qR (Lib.trimLeftS O.1 ([32,9]:p7)) (aB+(2:Int)) ((Lib.trimLeftS O.1 ([32,9]:p7)).length:Int))=([]:p7)))&&(!decide ((rI (qR (Lib.trimLeftS O.1 ([32,9]:p7)) (aB+(2:Int)) ((Lib.trimLeftS O.1 ([32,9]:p7)).length:Int)) (0:Int))=(32:Int))))==true))=true→0≤(0:Int)∧(0:Int)<((qR (Lib.trimLeftS O.1 ([32,9]:p7)) (aB+(2:Int)) ((Lib.trimLeftS O.1 ([32,9]:p7)).length:Int)).length:Int)) then some ((true,aC.1,(!(((!decide (aC.2.2=(0:Int)))||(!((decide ((aC.1.length:Int)≤(4000:Int)))&&(Lib.validD aC.1))))||(((!decide ((qR (Lib.trimLeftS O.1 ([32,9]:p7)) (aB+(2:Int)) ((Lib.trimLeftS O.1 ([32,9]:p7)).length:Int))=([]:p7)))&&(!decide ((rI (qR (Lib.trimLeftS O.1 ([32,9]:p7)) (aB+(2:Int)) ((Lib.trimLeftS O.1 ([32,9]:p7)).length:Int)) (0:Int))=(32:Int))))&&(!decide ((rI (qR (Lib.trimLeftS O.1 ([32,9]:p7)) (aB+(2:Int)) ((Lib.trimLeftS O.1 ([32,9]:p7)).length:Int)) (0:Int))=(9:Int)))))),(qR (Lib.trimLeftS O.1 ([32,9]:p7)) (aB+(2:Int)) ((Lib.trimLeftS O.1 ([32,9]:p7)).length:Int)),(((!decide (aC.2.2=(0:Int)))||(!((decide ((aC.1.length:Int)≤(4000:Int)))&&(Lib.validD aC.1))))||(((!decide ((qR (Lib.trimLeftS O.1 ([32,9]:p7)) (aB+(2:Int)) ((Lib.trimLeftS O.1 ([32,9]:p7)).length:Int))=([]:p7)))&&(!decide ((rI (qR (Lib.trimLeftS O.1 ([32,9]:p7)) (aB+(2:Int)) ((Lib.trimLeftS O.1 ([32,9]:p7)).length:Int)) (0:Int))=(32:Int))))&&(!decide ((rI (qR (Lib.trimLeftS O.1 ([32,9]:p7)) (aB+(2:Int)) ((Lib.trimLeftS O.1 ([32,9]:p7)).length:Int)) (0:Int))=(9:Int))))))) else none else none else none else none else none else none else none else none else none
section
variable (O:(p7×(Bool×Unit)))
abbrev a7V:List pW:=[(.val .ref (some (0,0)),none)]
abbrev a7W:List pV:=[.cells (.pair .str (.pair .bool .unit)) O []]
@[go_sem] def a7X:qH:=let q:=val (H0 O);⟨[((H0 O)).isSome=true],[(.val qK (q.1,(q.2.1,())),none),(.val .bool (q.2.2.1),none)],[.cells (.pair .str (.pair .bool .unit)) (q.2.2.2.1,(q.2.2.2.2,())) []]⟩
def aGy:List pW→List pV→Option qH:=rQ (V:=(p7×(Bool×Unit))) (fun x=>a7V) (a7W) fun x=>a7X x
@[go_sem] def aR9:aGy (no_index a7V) (no_index (a7W O))=some (a7X O):=rR (fun a0 b0 h1 h2=>by cases h1;cases h2;rfl) O
end
@[go_sem] abbrev aGz:Nat×r5:=(115,⟨[.p (.pair .str (.pair .bool .unit)) []],aGy,[],[],none⟩)
def xU:qW prog [uV,s8,wA,WO] (qY [QQ,aDm,aFm,aEl,aGv,X0]):=⟨⟨vI,⟨s9,⟨wK,⟨aDl,trivial⟩⟩⟩⟩,qJ a1D (qJ aMw (qJ aM6 (qJ aML (qJ aNv (qJ aFa rL))))),qZ⟩
def aNx:rC prog aGz:=by
 refine rS xU func115 (c:=_) rfl (N:=152) pP (ts:=[(2,some 121),(3,none)]) rfl (fun _ _=>rfl) ?_;intro O hs hrow;dsimp only[a7V,a7W,a7X,rM,qP,qU,r6,rP,Nat.reduceAdd] at hs hrow|-;have hz:=hs;obtain⟨z0,d⟩:=aSF.1 hz
 try rw[rU d]
 clear hz hs;unfold H0 at d;refine pU xU ?_;refine pU xU ?_ (hp:=by exact⟨pC,pC⟩);refine qC (pU xU ?_ (hp:=by exact⟨id,id,id,tN⟩));refine qD d ?_ ?_<;>intro d Y
 .refine pU xU ?_;refine qB (qO ?_);cases d;exact p9 [(0,0)]
 refine qM (q8 (qC ?_));obtain⟨X,d⟩:=pZ d;refine pU xU ?_ (hp:=by exact X);refine qD d ?_ ?_<;>intro d Y
 .obtain⟨W,d⟩:=pZ d;refine pU xU ?_ (hp:=by exact W);refine qC (pU xU ?_);obtain⟨Z,f,d⟩:=qQ d;refine AO (fun s=>s=(fun x=>⟨[(0,.val .ref (some (0,0)),none),(2,.val .ref (some (1,0)),none),(4,.val (.int .i64) x,none)],[(0,.cells (.pair .str (.pair .bool .unit)) ((Lib.trimLeftS O.1 ([32,9]:p7)),O.2) []),(1,.cells qK (false,(([]:p7),())) [])],2,152,1⟩) Z) ?_ ?_
  .refine qD f ?_ ?_<;>intro f Y
   .refine qV xU ?_;cases f;exact tD ⟨⟨[0,2,4],[(0,0),(1,1)]⟩,by rfl⟩
   refine qM ?_;cases f;exact tD ⟨⟨[0,2,4],[(0,0),(1,1)]⟩,by rfl⟩
  rintro _ rfl;dsimp only at d|-;refine q8 ?_;obtain⟨V,d⟩:=pZ d;refine pU xU ?_ (hp:=by exact V);obtain⟨U,d⟩:=pZ d;refine pU xU ?_ (hp:=by exact U);obtain⟨aA,hv5,hw5,d⟩:=rG d
  try simp only[go_sem] at hw5
  refine pU xU ?_ (hp:=by exact(rE hv5)) (h:=by simp only[go_sem,hw5];rfl);refine vF xU ?_;refine qB (qO ?_);cases d;exact p9 [(0,0)]
 refine qM (q8 ?_);obtain⟨T,d⟩:=pZ d;obtain⟨aB,hv7,hw7,d⟩:=rG d
 try simp only[go_sem] at hw7
 refine pU xU ?_ (hp:=by exact⟨T,(rE hv7)⟩) (h:=by simp only[go_sem,hw7];rfl);refine qC (pU xU ?_);refine qD d ?_ ?_<;>intro d Y
 .refine pU xU ?_;refine pU xU ?_;refine qB (qO ?_);cases d;exact p9 [(0,0)]
 refine qM (q8 ?_);obtain⟨S,R,d⟩:=oZ d;obtain⟨aC,hv10,hw10,d⟩:=rG d
 try simp only[go_sem] at hw10
 refine pU xU ?_ (hp:=by exact⟨S,R,(rE hv10)⟩) (h:=by simp only[go_sem,hw10];rfl);obtain⟨Q,P,d⟩:=oZ d;refine pU xU ?_ (hp:=by exact⟨Q,P⟩);obtain⟨M,L,d⟩:=oZ d;obtain⟨K,d⟩:=pZ d;refine pU xU ?_ (hp:=by exact⟨id,M,id,tN,id,id,id,id,id,id,id,id,id,L,id,id,fun hG e=>I6 hG e,id,id,id,id,id,K,id,id,fun hG e=>I6 hG e,tN⟩);refine vF xU ?_;refine qB ?_;cases d;exact p9 [(0,0)]
def M8 (O:p8):(Int×Int×p7×p8×(List qG)×(List sA)×pH×p7×p7×p7×p8×p8×Int×(List qG)×Bool×Bool×Bool×Bool×Bool×p7×p7)→Option ((Int×Int×p7×p8×(List qG)×(List sA)×pH×p7×p7×p7×p8×p8×Int×(List qG)×Bool×Bool×Bool×Bool×Bool×p7×p7)⊕((p7×p8×(List qG)×(List sA)×pH×p7×p7×p7×p8×p8×Int×(List qG)×Bool×Bool×Bool×Bool×Bool×p7×p7)⊕(p7×p8×(List qG)×(List sA)×pH×Int×Int))):=fun(Z,aA,aB,aC,aD,aE,aF,aG,aH,aI,aJ,aK,aL,aM,aN,aO,aP,aQ,aR,aS,aT)=>if (decide (aA<(O.length:Int)))=true then if 0≤aA∧aA<(O.length:Int) then if pX (Z+((qE .str O aA).length:Int)) then if 0≤aA∧aA<(O.length:Int) then (JF ((aB,(aC,(aD,(aE,())))),(aF,((aG,(aH,(aI,(aJ,(aK,(aL,(aM,()))))))),(aN,(aO,(aP,(aQ,(aR,(aS,(aT,())))))))))) (qE .str O aA) (Z+((qE .str O aA).length:Int))).bind fun aU=>if (!decide (aU.2.2.2.2.2.2.2.2.2.2.2.2.2.2.2.2.2.2.2=(0:Int)))=true then some (.inr (.inr ((([]:p7),([]:p8),([]:List qG),([]:List sA),([]:pH),Z,aU.2.2.2.2.2.2.2.2.2.2.2.2.2.2.2.2.2.2.2)))) else if pX (aA+(1:Int)) then some (.inl ((Z+((qE .str O aA).length:Int)),(aA+(1:Int)),aU.1,aU.2.1,aU.2.2.1,aU.2.2.2.1,aU.2.2.2.2.1,aU.2.2.2.2.2.1,aU.2.2.2.2.2.2.1,aU.2.2.2.2.2.2.2.1,aU.2.2.2.2.2.2.2.2.1,aU.2.2.2.2.2.2.2.2.2.1,aU.2.2.2.2.2.2.2.2.2.2.1,aU.2.2.2.2.2.2.2.2.2.2.2.1,aU.2.2.2.2.2.2.2.2.2.2.2.2.1,aU.2.2.2.2.2.2.2.2.2.2.2.2.2.1,aU.2.2.2.2.2.2.2.2.2.2.2.2.2.2.1,aU.2.2.2.2.2.2.2.2.2.2.2.2.2.2.2.1,aU.2.2.2.2.2.2.2.2.2.2.2.2.2.2.2.2.1,aU.2.2.2.2.2.2.2.2.2.2.2.2.2.2.2.2.2.1,aU.2.2.2.2.2.2.2.2.2.2.2.2.2.2.2.2.2.2.1)) else none else none else none else none else some (.inr (.inl (aB,aC,aD,aE,aF,aG,aH,aI,aJ,aK,aL,aM,aN,aO,aP,aQ,aR,aS,aT)))
def M9 (O:p7):Option (p7×p8×(List qG)×(List sA)×pH×Int×Int):=(IL O).bind fun Z=>tI (rF (M8 Z) ((0:Int),(0:Int),([]:p7),([]:p8),([]:List qG),([]:List sA),([]:pH),([]:p7),([]:p7),([]:p7),([]:p8),([]:p8),(0:Int),([]:List qG),false,false,false,false,false,([]:p7),([]:p7))) fun(aA,aB,aC,aD,aE,aF,aG,aH,aI,aJ,aK,aL,aM,aN,aO,aP,aQ,aR,aS)=>if (aM||(decide ((aE.length:Int)=(0:Int))))=true then some ((([]:p7),([]:p8),([]:List qG),([]:List sA),([]:pH),(O.length:Int),(3:Int))) else some ((aA,aB,aC,aD,aE,(0:Int),(0:Int)))
section
variable (O:p7)
abbrev a7Y:List pW:=[(.val .str O,none)]
abbrev a7Z:List pV:=[]
@[go_sem] def a71:qH:=let q:=val (M9 O);⟨[((M9 O)).isSome=true],[(.val DM (q.1,(q.2.1,(q.2.2.1,(q.2.2.2.1,())))),none),(.val (.list (.int .i64)) (q.2.2.2.2.1),none),(.val (.int .i64) (q.2.2.2.2.2.1),none),(.val (.int .i64) (q.2.2.2.2.2.2),none)],[]⟩
def aGA:List pW→List pV→Option qH:=rQ (V:=p7) (a7Y) (fun x=>a7Z) fun x=>a71 x
@[go_sem] def aSa:aGA (no_index (a7Y O)) (no_index a7Z)=some (a71 O):=rR (fun a0 b0 h1 h2=>by cases h1;cases h2;rfl) O
end
@[go_sem] abbrev aGB:Nat×r5:=(30,⟨[.v],aGA,[],[],none⟩)
def A8:qW prog [uV,s8,yK,AQ,CC,IF] (qY [aDx,aGx]):=⟨⟨vI,⟨s9,⟨zP,⟨CB,⟨DO,⟨NR,trivial⟩⟩⟩⟩⟩⟩,qJ aMB (qJ aNw rL),qZ⟩
def aNy:rC prog aGB:=by
 refine rS A8 func30 (c:=_) rfl (N:=60) pP (ts:=[(2,some 27),(3,none),(4,none),(5,none)]) rfl (fun _ _=>rfl) ?_;intro O hs hrow;dsimp only[a7Y,a7Z,a71,rM,qP,qU,r6,rP,Nat.reduceAdd] at hs hrow|-;have hz:=hs;obtain⟨z0,d⟩:=aSF.1 hz
 try rw[rU d]
 clear hz hs;unfold M9 at d;refine pU A8 ?_;refine pU A8 ?_;refine pU A8 ?_;obtain⟨Z,hv1,hw1,d⟩:=rG d
 try simp only[go_sem] at hw1
 refine pU A8 ?_ (hp:=by exact(rE hv1)) (h:=by simp only[go_sem,hw1];rfl);refine qC (pU A8 ?_);refine rN ?_;obtain⟨y1,hy1,d⟩:=v6 d;refine tK 0 (fun s=> ∃v,y1= .inl v∧s=(fun x=>⟨[(0,.val .str O,none),(2,.val .ref (some (0,0)),none),(6,.val .ref (some (1,0)),none)],[(0,.cells DM (([]:p7),(([]:p8),(([]:List qG),(([]:List sA),())))) [(1,2),(2,3),(3,4)]),(1,.cells wJ ((x.1,(x.2.1,(x.2.2.1,(x.2.2.2.1,())))),(x.2.2.2.2.1,((x.2.2.2.2.2.1,(x.2.2.2.2.2.2.1,(x.2.2.2.2.2.2.2.1,(x.2.2.2.2.2.2.2.2.1,(x.2.2.2.2.2.2.2.2.2.1,(x.2.2.2.2.2.2.2.2.2.2.1,(x.2.2.2.2.2.2.2.2.2.2.2.1,()))))))),(x.2.2.2.2.2.2.2.2.2.2.2.2.1,(x.2.2.2.2.2.2.2.2.2.2.2.2.2.1,(x.2.2.2.2.2.2.2.2.2.2.2.2.2.2.1,(x.2.2.2.2.2.2.2.2.2.2.2.2.2.2.2.1,(x.2.2.2.2.2.2.2.2.2.2.2.2.2.2.2.2.1,(x.2.2.2.2.2.2.2.2.2.2.2.2.2.2.2.2.2.1,(x.2.2.2.2.2.2.2.2.2.2.2.2.2.2.2.2.2.2,())))))))))) []),(2,.grow 9 1 (([]:p8).length)),(3,.grow 110 2 (([]:List qG).length)),(4,.grow 45 7 (([]:List sA).length))],5,60,0⟩) v) ?_ ?_
 .refine tC hy1 (fun x=>⟨[(0,.val .str O,none),(2,.val .ref (some (0,0)),none),(6,.val .ref (some (1,0)),none),(7,.val (.int .i64) x.1,none),(8,(.val (.list .str) Z,some 2)),(9,(.val (.int .i64) x.2.1,none))],[(0,.cells DM (([]:p7),(([]:p8),(([]:List qG),(([]:List sA),())))) [(1,3),(2,4),(3,5)]),(1,.cells wJ ((x.2.2.1,(x.2.2.2.1,(x.2.2.2.2.1,(x.2.2.2.2.2.1,())))),(x.2.2.2.2.2.2.1,((x.2.2.2.2.2.2.2.1,(x.2.2.2.2.2.2.2.2.1,(x.2.2.2.2.2.2.2.2.2.1,(x.2.2.2.2.2.2.2.2.2.2.1,(x.2.2.2.2.2.2.2.2.2.2.2.1,(x.2.2.2.2.2.2.2.2.2.2.2.2.1,(x.2.2.2.2.2.2.2.2.2.2.2.2.2.1,()))))))),(x.2.2.2.2.2.2.2.2.2.2.2.2.2.2.1,(x.2.2.2.2.2.2.2.2.2.2.2.2.2.2.2.1,(x.2.2.2.2.2.2.2.2.2.2.2.2.2.2.2.2.1,(x.2.2.2.2.2.2.2.2.2.2.2.2.2.2.2.2.2.1,(x.2.2.2.2.2.2.2.2.2.2.2.2.2.2.2.2.2.2.1,(x.2.2.2.2.2.2.2.2.2.2.2.2.2.2.2.2.2.2.2.1,(x.2.2.2.2.2.2.2.2.2.2.2.2.2.2.2.2.2.2.2.2,())))))))))) []),(2,.grow 9 1 (Z.length)),(3,.grow 9 1 (([]:p8).length)),(4,.grow 110 2 (([]:List qG).length)),(5,.grow 45 7 (([]:List sA).length))],6,60,0⟩) ⟨[0,2,6,7,8,9],[(0,0),(1,128),(2,224),(3,1),(4,2),(5,3)]⟩ pQ ?_;intro x1 w1 n1 f g;obtain⟨aA,aB,aC,aD,aE,aF,aG,aH,aI,aJ,aK,aL,aM,aN,aO,aP,aQ,aR,aS,aT,aU⟩:=x1;unfold M8 at f;dsimp only at f|-;refine qC (pU A8 ?_);refine qD f ?_ ?_<;>intro f Y
  .refine qM (q8 (qC (rN ?_)));obtain⟨X,W,f⟩:=oZ f;refine pU A8 ?_ (hp:=by exact⟨X,W⟩);obtain⟨V,f⟩:=pZ f;obtain⟨aV,hv5,hw5,f⟩:=rG f
   try simp only[go_sem] at hw5
   refine vF A8 ?_ (hp:=by exact⟨V,(rE hv5)⟩) (h:=by simp only[go_sem,hw5];rfl);refine qC (pU A8 ?_);refine qD f ?_ ?_<;>intro f Y
   .refine pU A8 ?_;refine qB (qO (r9 (qO (uB (vE (r9 (qO ?_)))))));cases f;cases g;dsimp only at d;cases d;exact p9 []
   refine qM (q8 (qV A8 ?_));refine rK (q8 ?_);obtain⟨U,f⟩:=pZ f;refine qV A8 ?_ (hp:=by exact U);cases f;exact sM ⟨⟨[0,2,6,7,8,9],[(0,0),(1,1),(2,2),(3,3),(4,4),(5,5)]⟩,_,by rfl,g⟩
  refine t8 (t6 (tA ?_));cases f;cases g;exact tM ⟨⟨[0,2,6],[(0,0),(1,1),(2,3),(3,4),(4,5)]⟩,_,rfl,by rfl⟩
 rintro _ ⟨v,rfl,rfl⟩;obtain⟨aW,aX,aY,aZ,bA,bB,bC,bD,bE,bF,bG,bH,bI,bJ,bK,bM,bN,bO,bP⟩:=v;dsimp only at d|-;refine t7 (q8 (qC ?_));refine pU A8 ?_ (hp:=by exact⟨id,id,id,tN⟩);refine qD d ?_ ?_<;>intro d Y
 .refine pU A8 ?_;refine qB (qO ?_);cases d;exact p9 []
 refine qM (q8 (vF A8 ?_));refine qB ?_;cases d;exact p9 []
attribute [irreducible] H0 M9
end
noncomputable section
def ON:((List (Bool×(p7×Unit)))×Bool×p7×Bool×Bool×p7)→Option (((List (Bool×(p7×Unit)))×Bool×p7×Bool×Bool×p7)⊕((List (Bool×(p7×Unit)))×p7×Bool)):=fun(O,Z,aA,aB,aC,aD)=>if Z=true then if (O.length+([(aC,(aD,()))]:List (Bool×(p7×Unit))).length)*24≤140737488355328 then (H0 (aA,(aB,()))).bind fun aE=>some (.inl ((O++([(aC,(aD,()))]:List (Bool×(p7×Unit)))),aE.2.2.1,aE.2.2.2.1,aE.2.2.2.2,aE.1,aE.2.1)) else none else some (.inr (O,aA,aB))
def H3 (O:p7):Option ((List (Bool×(p7×Unit)))×Bool):=(H0 (O,(false,()))).bind fun Z=>sN (rF ON (([]:List (Bool×(p7×Unit))),Z.2.2.1,Z.2.2.2.1,Z.2.2.2.2,Z.1,Z.2.1)) fun(aA,aB,aC)=>some ((aA,(!aC)))
section
variable (O:p7)
abbrev a73:List pW:=[(.val .str O,none)]
abbrev a74:List pV:=[]
@[go_sem] def a75:qH:=let q:=val (H3 O);⟨[((H3 O)).isSome=true],[(.val (.list qK) (q.1),some 0),(.val .bool (q.2),none)],[.grow 121 2 ((q.1).length)]⟩
def aGC:List pW→List pV→Option qH:=rQ (V:=p7) (a73) (fun x=>a74) fun x=>a75 x
@[go_sem] def aSb:aGC (no_index (a73 O)) (no_index a74)=some (a75 O):=rR (fun a0 b0 h1 h2=>by cases h1;cases h2;rfl) O
end
@[go_sem] abbrev B2:Nat×r5:=(81,⟨[.v],aGC,[],[],none⟩)
def E9:qW prog [uV,wD,wA,WO] (qY [aGz]):=⟨⟨vI,⟨x7,⟨wK,⟨aDl,trivial⟩⟩⟩⟩,qJ aNx rL,qZ⟩
def MA:rC prog B2:=by
 refine rS E9 func81 (c:=_) rfl (N:=33) pP (ts:=[(2,none),(3,none)]) rfl (fun _ _=>rfl) ?_;intro O hs hrow;dsimp only[a73,a74,a75,rM,qP,qU,r6,rP,Nat.reduceAdd] at hs hrow|-;have hz:=hs;obtain⟨z0,d⟩:=aSF.1 hz
 try rw[rU d]
 clear hz hs;unfold H3 at d;refine pU E9 ?_;refine pU E9 ?_;refine pU E9 ?_;refine qC ?_;obtain⟨Z,hv1,hw1,d⟩:=rG d
 try simp only[go_sem] at hw1
 refine pU E9 ?_ (hp:=by exact(rE hv1)) (h:=by simp only[go_sem,hw1];rfl);refine rN ?_;obtain⟨y1,hy1,d⟩:=qQ d;refine tK 0 (fun s=>s=(fun x=>⟨[(4,.val .ref (some (0,0)),none),(5,(.val (.list qK) x.1,some 1))],[(0,.cells (.pair .str (.pair .bool .unit)) (x.2.1,(x.2.2,())) []),(1,.grow 121 2 (x.1.length))],2,33,0⟩) y1) ?_ ?_
 .refine tC hy1 (fun x=>⟨[(4,.val .ref (some (0,0)),none),(5,(.val (.list qK) x.1,some 1)),(6,(.val .ref (some (2,0)),none)),(7,.val .bool x.2.1,none)],[(0,.cells (.pair .str (.pair .bool .unit)) (x.2.2.1,(x.2.2.2.1,())) []),(1,.grow 121 2 (x.1.length)),(2,.cells qK (x.2.2.2.2.1,(x.2.2.2.2.2,())) [])],3,33,0⟩) ⟨[4,5,6,7],[(0,128),(1,192),(2,384)]⟩ pQ ?_;intro x1 w1 n1 e f;obtain⟨aA,aB,aC,aD,aE,aF⟩:=x1;unfold ON at e;dsimp only at e|-;refine qC (pU E9 ?_);refine qD e ?_ ?_<;>intro e Y
  .refine qM (q8 (qC (rN ?_)));obtain⟨X,e⟩:=pZ e;refine qV E9 ?_ (hp:=by exact⟨pO,X⟩)
   refine rK (q8 (qC (pU E9 ?_)));refine qV E9 ?_;refine q8 ?_;obtain⟨aG,hv3,hw3,e⟩:=rG e
   try simp only[go_sem] at hw3
   refine qV E9 ?_ (hp:=by exact(rE hv3)) (h:=by simp only[go_sem,hw3];rfl);cases e;exact sM ⟨⟨[4,5,6,7],[(0,0),(1,1),(2,227)]⟩,_,by rfl,f⟩
  refine t8 (t6 (tA ?_));cases e;cases f;exact tM ⟨⟨[4,5],[(0,0),(1,1)]⟩,by rfl⟩
 rintro _ rfl;obtain⟨aH,aI,aJ⟩:=y1;dsimp only at d|-;refine t7 (q8 ?_);refine vF E9 ?_;refine qB ?_;cases d;exact p9 [(0,1)]
def JG (O:p7):Option (p7×p8×p7×Int):=(M9 O).bind fun Z=>if (!decide (Z.2.2.2.2.2.2=(0:Int)))=true then some ((([]:p7),([]:p8),([]:p7),Z.2.2.2.2.2.2)) else (GU O Z.2.2.2.2.1).bind fun aA=>some ((aA.1,aA.2.1,aA.2.2,(0:Int)))
section
variable (O:p7)
abbrev a78:List pW:=[(.val .str O,none)]
abbrev a79:List pV:=[]
@[go_sem] def a8a:qH:=let q:=val (JG O);⟨[((JG O)).isSome=true],[(.val y9 (q.1,(q.2.1,(q.2.2.1,()))),none),(.val (.int .i64) (q.2.2.2),none)],[]⟩
def aGD:List pW→List pV→Option qH:=rQ (V:=p7) (a78) (fun x=>a79) fun x=>a8a x
@[go_sem] def aSc:aGD (no_index (a78 O)) (no_index a79)=some (a8a O):=rR (fun a0 b0 h1 h2=>by cases h1;cases h2;rfl) O
end
@[go_sem] abbrev aGE:Nat×r5:=(15,⟨[.v],aGD,[],[],none⟩)
def OO:qW prog [AQ,F2] (qY [aGB,aE4]):=⟨⟨CB,⟨IC,trivial⟩⟩,qJ aNy (qJ aM0 rL),qZ⟩
def aNz:rC prog aGE:=by
 refine rS OO func15 (c:=_) rfl (N:=22) pP (ts:=[(2,some 37),(3,none)]) rfl (fun _ _=>rfl) ?_;intro O hs hrow;dsimp only[a78,a79,a8a,rM,qP,qU,r6,rP,Nat.reduceAdd] at hs hrow|-;have hz:=hs;obtain⟨z0,d⟩:=aSF.1 hz
 try rw[rU d]
 clear hz hs;unfold JG at d;refine pU OO ?_;obtain⟨Z,hv1,hw1,d⟩:=rG d
 try simp only[go_sem] at hw1
 refine pU OO ?_ (hp:=by exact(rE hv1)) (h:=by simp only[go_sem,hw1];rfl);refine qC (pU OO ?_);refine qD d ?_ ?_<;>intro d Y
 .refine pU OO ?_;refine qB (qO ?_);cases d;exact p9 []
 refine qM (q8 ?_);obtain⟨aA,hv2,hw2,d⟩:=rG d
 try simp only[go_sem] at hw2
 refine pU OO ?_ (hp:=by exact(rE hv2)) (h:=by simp only[go_sem,hw2];rfl);refine qB ?_;cases d;exact p9 []
attribute [irreducible] H3 JG
end
noncomputable section
def H4 (O:sK) (Z:Int) (aA:p7) (aB:p7) (aC:p7) (aD:p8) (aE:Int) (aF:Nat) (aG:(pH×Unit)) (aH:p7) (aI:Int) (aJ:(Option p8)) (aK:Nat) (aL:(Option (List qG))) (aM:Nat) (aN:pF) (aO:pF):Option (Int×p7×p8×(List qG)×(List sA)×Int×p7×p7×p7×p8×Int×Nat×pH×pF×(Option p8)×Nat×(Option (List qG))×Nat×pF):=(H3 aH).bind fun aP=>if (!aP.2)=true then some (((3:Int),O.1,O.2.1,O.2.2.1,O.2.2.2.1,Z,aA,aB,aC,aD,aE,aF,aG.1,aO,aJ,aK,aL,aM,aN)) else if 0≤(0:Int)∧(0:Int)<(aP.1.length:Int) then if (qE qK aP.1 (0:Int)).1=true then (LZ O Z aA aB aC aD aE aF aG aP.1 aJ aK aL aM aN aO).bind fun aQ=>some ((aQ.1,O.1,O.2.1,O.2.2.1,O.2.2.2.1,Z,aA,aQ.2.1,aQ.2.2.1,aD,aE,aF,aG.1,aO,aQ.2.2.2.1,aQ.2.2.2.2.1,aQ.2.2.2.2.2.1,aQ.2.2.2.2.2.2,aN)) else if ((decide (Z=(0:Int)))||(decide (Z=(2:Int))))=true then (LO O Z aA aB aC aD aE aG aP.1 aJ aK aL aM aN aO).bind fun aR=>some ((aR.1,aR.2.1,O.2.1,O.2.2.1,O.2.2.2.1,aR.2.2.1,aR.2.2.2.1,aR.2.2.2.2.1,aR.2.2.2.2.2.1,aR.2.2.2.2.2.2.1,aR.2.2.2.2.2.2.2.1,0,aG.1,aR.2.2.2.2.2.2.2.2.1,aR.2.2.2.2.2.2.2.2.2.1,aR.2.2.2.2.2.2.2.2.2.2.1,aR.2.2.2.2.2.2.2.2.2.2.2.1,aR.2.2.2.2.2.2.2.2.2.2.2.2.1,aR.2.2.2.2.2.2.2.2.2.2.2.2.2)) else if 0≤(0:Int)∧(0:Int)<(aP.1.length:Int) then if (decide ((qE qK aP.1 (0:Int)).2.1=([101,110,100]:p7)))=true then aJ.bind fun aS=>aL.bind fun aT=>if 0≤(1:Int)∧(1:Int)≤(aP.1.length:Int)∧(aP.1.length:Int)≤(aP.1.length:Int) then (LL O Z aA aB aC aD aE aG (qR aP.1 (1:Int) (aP.1.length:Int)) aI aS aT aN aO).bind fun aU=>some ((aU.1,O.1,aU.2.1,aU.2.2.1,aU.2.2.2.1,aU.2.2.2.2.1,aA,aB,aC,aD,aE,0,aU.2.2.2.2.2.1,aO,aU.2.2.2.2.2.2.1,(aS.length),aU.2.2.2.2.2.2.2.1,aU.2.2.2.2.2.2.2.2,aN)) else none else if 0≤(0:Int)∧(0:Int)<(aP.1.length:Int) then AP (F8 ((qE qK aP.1 (0:Int)).2.1)) fun aV=>if ((yP aV.1)||((decide (Z=(1:Int)))&&(!aV.2)))=true then some (((3:Int),O.1,O.2.1,O.2.2.1,O.2.2.2.1,Z,aA,aB,aC,aD,aE,0,aG.1,aO,aJ,aK,aL,aM,aN)) else AP aV.1 fun aW=>if aW=some 117 then aJ.bind fun aX=>aL.bind fun aY=>if 0≤(1:Int)∧(1:Int)≤(aP.1.length:Int)∧(aP.1.length:Int)≤(aP.1.length:Int) then (IV O Z aA aB aC aD aE aG (qR aP.1 (1:Int) (aP.1.length:Int)) aX aY aN aO).bind fun aZ=>some ((aZ.1,O.1,O.2.1,O.2.2.1,O.2.2.2.1,Z,aA,aB,aC,aD,aE,aZ.2.1,aG.1,aO,(some aZ.2.2),(aZ.2.2.length),(some aY),(aY.length),aN)) else none else if aW=some 118 then aJ.bind fun bA=>aL.bind fun bB=>if 0≤(1:Int)∧(1:Int)≤(aP.1.length:Int)∧(aP.1.length:Int)≤(aP.1.length:Int) then (JC O Z aA aB aC aD aE aG (qR aP.1 (1:Int) (aP.1.length:Int)) bA bB aN aO).bind fun bC=>some ((bC.1,O.1,O.2.1,O.2.2.1,O.2.2.2.1,Z,aA,aB,aC,aD,aE,bC.2.1,aG.1,aO,(some bA),(bA.length),(some bC.2.2),(bC.2.2.length),aN)) else none else if aW=some 119 then aJ.bind fun bD=>aL.bind fun bE=>if 0≤(1:Int)∧(1:Int)≤(aP.1.length:Int)∧(aP.1.length:Int)≤(aP.1.length:Int) then (J6 O Z aA aB aC aD aE aG (qR aP.1 (1:Int) (aP.1.length:Int)) bD bE aN aO).bind fun bF=>some ((bF.1,O.1,O.2.1,O.2.2.1,O.2.2.2.1,Z,aA,bF.2.1,aC,aD,aE,bF.2.2.1,aG.1,aO,(some bD),(bD.length),(some bE),(bE.length),bF.2.2.2)) else none else if aW=some 120 then aJ.bind fun bG=>aL.bind fun bH=>if 0≤(1:Int)∧(1:Int)≤(aP.1.length:Int)∧(aP.1.length:Int)≤(aP.1.length:Int) then (J7 O Z aA aB aC aD aE aG (qR aP.1 (1:Int) (aP.1.length:Int)) bG bH aN aO).bind fun bI=>some ((bI.1,O.1,O.2.1,O.2.2.1,O.2.2.2.1,Z,aA,aB,bI.2.1,aD,aE,bI.2.2.1,aG.1,aO,(some bG),(bG.length),(some bH),(bH.length),bI.2.2.2)) else none else if aW=some 121 then aJ.bind fun bJ=>aL.bind fun bK=>if 0≤(1:Int)∧(1:Int)≤(aP.1.length:Int)∧(aP.1.length:Int)≤(aP.1.length:Int) then (J8 O Z aA aB aC aD aE aG (qR aP.1 (1:Int) (aP.1.length:Int)) bJ bK aN aO).bind fun bM=>some ((bM.1,O.1,O.2.1,O.2.2.1,O.2.2.2.1,Z,aA,aB,aC,aD,bM.2.1,0,aG.1,aO,(some bJ),(bJ.length),(some bK),(bK.length),bM.2.2)) else none else if aW=some 122 then aJ.bind fun bN=>aL.bind fun bO=>if 0≤(1:Int)∧(1:Int)≤(aP.1.length:Int)∧(aP.1.length:Int)≤(aP.1.length:Int) then (IY O Z aA aB aC aD aE aG (qR aP.1 (1:Int) (aP.1.length:Int)) bN bO aN aO).bind fun bP=>some ((bP.1,O.1,O.2.1,O.2.2.1,O.2.2.2.1,Z,aA,aB,aC,bP.2.1,aE,0,aG.1,aO,(some bN),(bN.length),(some bO),(bO.length),bP.2.2)) else none else none else none else none else none
section
variable (O:p7) (Z:Int) (aA:sK) (aB:Int) (aC:p7) (aD:p7) (aE:p7) (aF:Nat) (aG:p8) (aH:Int) (aI:Nat) (aJ:Nat) (aK:Nat) (aL:Nat) (aM:(pH×Unit)) (aN:Nat) (aO:Nat) (aP:(Option p8)) (aQ:Nat) (aR:(Option (List qG))) (aS:Nat) (aT:pF) (aU:pF)
abbrev a8b:List pW:=[(.val .ref (some (0,0)),none),(.val .str O,none),(.val (.int .i64) Z,none)]
abbrev a8c:List pV:=[.cells sE (aA,(aB,((aC,(aD,(aE,((some (3,aF)),(aG,(aH,((some (4,aI)),()))))))),((some 5),((some 6),((aJ,0,(3,aK),(4,aL)),aM)))))) [(3,1),(15,2)],.grow 45 7 aN,.grow 3 1 aO,rW 9 .str aP aQ,rW 110 rV aR aS,.map .str .bool aT,.map .str .bool aU]
@[go_sem] def a8d:qH:=let q:=val (H4 aA aB aC aD aE aG aH aJ aM O Z aP aQ aR aS aT aU);⟨[aN=(aA.2.2.2.1.length),aO=(aM.1.length),aF=aQ,aI=aS,aK=aQ,aL=aS,((H4 aA aB aC aD aE aG aH aJ aM O Z aP aQ aR aS aT aU)).isSome=true],[(.val (.int .i64) (q.1),none)],[.cells sE ((q.2.1,(q.2.2.1,(q.2.2.2.1,(q.2.2.2.2.1,())))),(q.2.2.2.2.2.1,((q.2.2.2.2.2.2.1,(q.2.2.2.2.2.2.2.1,(q.2.2.2.2.2.2.2.2.1,((some (7,q.2.2.2.2.2.2.2.2.2.2.2.2.2.2.2.1)),(q.2.2.2.2.2.2.2.2.2.1,(q.2.2.2.2.2.2.2.2.2.2.1,((some (8,q.2.2.2.2.2.2.2.2.2.2.2.2.2.2.2.2.2.1)),()))))))),((some 9),((some 6),((q.2.2.2.2.2.2.2.2.2.2.2.1,0,(7,q.2.2.2.2.2.2.2.2.2.2.2.2.2.2.2.1),(8,q.2.2.2.2.2.2.2.2.2.2.2.2.2.2.2.2.2.1)),(q.2.2.2.2.2.2.2.2.2.2.2.2.1,()))))))) [(3,1),(15,2)],.grow 45 7 ((q.2.2.2.2.1).length),.grow 3 1 ((q.2.2.2.2.2.2.2.2.2.2.2.2.1).length),.dead,.dead,.dead,.map .str .bool (q.2.2.2.2.2.2.2.2.2.2.2.2.2.1),rW 9 .str (q.2.2.2.2.2.2.2.2.2.2.2.2.2.2.1) (q.2.2.2.2.2.2.2.2.2.2.2.2.2.2.2.1),rW 110 rV (q.2.2.2.2.2.2.2.2.2.2.2.2.2.2.2.2.1) (q.2.2.2.2.2.2.2.2.2.2.2.2.2.2.2.2.2.1),.map .str .bool (q.2.2.2.2.2.2.2.2.2.2.2.2.2.2.2.2.2.2)]⟩
def aGF:List pW→List pV→Option qH:=rQ (V:=(p7×Int×sK×Int×p7×p7×p7×Nat×p8×Int×Nat×Nat×Nat×Nat×(pH×Unit)×Nat×Nat×(Option p8)×Nat×(Option (List qG))×Nat×pF×pF)) (fun⟨O,Z,_,_,_,_,_,_,_,_,_,_,_,_,_,_,_,_,_,_,_,_,_⟩=>a8b O Z) (fun⟨_,_,aA,aB,aC,aD,aE,aF,aG,aH,aI,aJ,aK,aL,aM,aN,aO,aP,aQ,aR,aS,aT,aU⟩=>a8c aA aB aC aD aE aF aG aH aI aJ aK aL aM aN aO aP aQ aR aS aT aU) fun⟨O,Z,aA,aB,aC,aD,aE,aF,aG,aH,aI,aJ,aK,aL,aM,aN,aO,aP,aQ,aR,aS,aT,aU⟩=>a8d O Z aA aB aC aD aE aF aG aH aI aJ aK aL aM aN aO aP aQ aR aS aT aU
@[go_sem] def aSd:aGF (no_index (a8b O Z)) (no_index (a8c aA aB aC aD aE aF aG aH aI aJ aK aL aM aN aO aP aQ aR aS aT aU))=some (a8d O Z aA aB aC aD aE aF aG aH aI aJ aK aL aM aN aO aP aQ aR aS aT aU):=rR (fun⟨a0,a1,a2,a3,a4,a5,a6,a7,a8,a9,a10,a11,a12,a13,a14,a15,a16,a17,a18,a19,a20,a21,a22⟩ ⟨b0,b1,b2,b3,b4,b5,b6,b7,b8,b9,b10,b11,b12,b13,b14,b15,b16,b17,b18,b19,b20,b21,b22⟩ h1 h2=>by cases h1;injection h2 with p0 h2;injection h2 with p1 h2;injection h2 with p2 h2;injection h2 with p3 h2;injection h2 with p4 h2;injection h2 with p5 h2;injection h2 with p6 h2;obtain⟨q3,r3⟩:=A4 p3;cases q3;cases r3;obtain⟨q4,r4⟩:=A4 p4;cases q4;cases r4;cases p0;cases p1;cases p2;cases p5;cases p6;rfl) (O,Z,aA,aB,aC,aD,aE,aF,aG,aH,aI,aJ,aK,aL,aM,aN,aO,aP,aQ,aR,aS,aT,aU)
end
@[go_sem] abbrev RV:Nat×r5:=(56,⟨[.p sE [3,15],.v,.v],aGF,[(0,8,.r),(0,11,.r),(0,12,.m),(0,13,.m)],[],none⟩)
def aGG:qW prog [] (qY [B2,a6T,a5H,AW,AT,AU,B1,AX,AY,AZ,AV]):=⟨trivial,qJ MA (qJ aNg (qJ aM2 (qJ LM (qJ LH (qJ LI (qJ M0 (qJ LW (qJ LX (qJ LY (qJ LK rL)))))))))),qZ⟩
def yB:qW prog [uU,uV,s8,AR,uW,wD,wA,GG] (qY [B2,a6T,a5H,AW,AT,AU,B1,AX,AY,AZ,AV]):=⟨⟨vH,⟨vI,⟨s9,⟨CD,⟨vJ,⟨x7,⟨wK,⟨L5,trivial⟩⟩⟩⟩⟩⟩⟩⟩,aGG.Γ,qZ⟩
def aGH:rC prog RV:=by
 refine rS aGG func56 (c:=_) rfl (N:=81) pP (ts:=[(6,none)]) rfl (fun _ _=>rfl) ?_ (h3:=by intro _;repeat (first|exact trivial|refine IB rfl ?_ |refine ⟨rfl,?_⟩))
 intro⟨O,Z,aA,aB,aC,aD,aE,aF,aG,aH,aI,aJ,aK,aL,aM,aN,aO,aP,aQ,aR,aS,aT,aU⟩ hs hrow;dsimp only[a8b,a8c,a8d,rM,qP,qU,r6,rP,Nat.reduceAdd] at hs hrow|-;obtain⟨rfl,rfl,hps2,hps3,hps4,hps5,hz⟩:=hs;obtain rfl:=hps2.symm;obtain rfl:=hps3.symm;obtain rfl:=hps4.symm;obtain rfl:=hps5.symm;obtain⟨z0,d⟩:=aSF.1 hz
 try rw[rU d]
 clear hz;unfold H4 at d;refine pU yB ?_;obtain⟨aV,hv1,hw1,d⟩:=rG d
 try simp only[go_sem] at hw1
 refine pU yB ?_ (hp:=by exact(rE hv1)) (h:=by simp only[go_sem,hw1];rfl);refine qC (rN (pU yB ?_));refine qD d ?_ ?_<;>intro d Y
 .refine pU yB ?_;refine qB (r9 (qO ?_));cases d;exact pA [(0,0),(1,1),(2,2),(6,6),(7,3),(8,4),(9,5)]
 obtain⟨X,d⟩:=pZ d;refine pU yB ?_ (hp:=by exact X);refine qD d ?_ ?_<;>intro d Y
 .obtain⟨aW,hv3,hw3,d⟩:=rG d
  try simp only[go_sem] at hw3
  refine pU yB ?_ (hp:=by exact⟨pO,pO,pO,pO,pO,pO,pO,pO,pO,pO,(rE hv3)⟩) (h:=by simp only[go_sem,hw3];rfl)
  refine qB (r9 (qO ?_));cases d;exact pA [(0,0),(1,1),(2,2),(6,6),(7,3),(8,4),(9,5)]
 refine qM (rK (q8 (pU yB ?_)));refine qC (pU yB ?_ (hp:=by exact⟨id,id,id,id,tN⟩));refine qD d ?_ ?_<;>intro d Y
 .refine qC (yX 0 (0,(3,aQ),(4,aS)) (x2:=(aA,(aB,((aC,(aD,(aE,((some (3,aQ)),(aG,(aH,((some (4,aS)),()))))))),((some 5),((some 6),((0,0,(3,aQ),(4,aS)),aM))))))) rfl pR ?_)
  obtain⟨aX,hv4,hw4,d⟩:=rG d
  try simp only[go_sem] at hw4
  refine qV yB ?_ (hp:=by exact⟨pO,pO,pO,pO,pO,pO,pO,pO,(rE hv4)⟩) (h:=by simp only[go_sem,hw4];rfl)
  refine q8 (qB (qO ?_));cases d;exact pA [(0,0),(1,1),(2,2),(6,6),(7,1102),(8,1103),(9,1104)]
 refine qM (q8 (qC ?_));obtain⟨W,d⟩:=pZ d;refine pU yB ?_ (hp:=by exact W);refine qD d ?_ ?_<;>intro d Y
 .refine qC (yX 0 (0,(3,aQ),(4,aS)) (x2:=(aA,(aB,((aC,(aD,(aE,((some (3,aQ)),(aG,(aH,((some (4,aS)),()))))))),((some 5),((some 6),((0,0,(3,aQ),(4,aS)),aM))))))) rfl pR ?_)
  obtain⟨aY,hal6,hAhal6⟩:=A5 d;subst hal6;obtain⟨aZ,hal7,hAhal7⟩:=A5 hAhal6;subst hal7;rw[show rW 9 .str (some aY:Option p8) aQ= .row 9 .str aY aQ from rfl];rw[show rW 110 rV (some aZ:Option (List qG)) aS= .row 110 rV aZ aS from rfl];refine A6 3 rfl fun hln=>?_;subst hln;refine A6 4 rfl fun hln=>?_;subst hln;have d:=hAhal7;obtain⟨V,d⟩:=pZ d;obtain⟨bA,hv9,hw9,d⟩:=rG d
  try simp only[go_sem] at hw9
  refine qV yB ?_ (hp:=by exact⟨V,pO,pO,pO,pO,pO,pO,pO,pO,(rE hv9)⟩) (h:=by simp only[go_sem,hw9];rfl)
  refine q8 (qB (qO ?_));cases d;exact pA [(0,0),(1,1),(2,2),(6,6),(7,3),(8,1326),(9,5)]
 refine qM (q8 ?_);obtain⟨U,d⟩:=pZ d;obtain⟨bB,hw_89,d⟩:=QM d
 try simp only[go_sem] at hw_89
 refine pU yB ?_ (hp:=by exact U) (h:=by simp only[go_sem,hw_89];rfl);refine qC (pU yB ?_ (hp:=by exact⟨id,id,id,id,id,id,id,fun hG e=>I6 hG e,tN⟩));refine qD d ?_ ?_<;>intro d Y
 .refine pU yB ?_;refine yX 0 (0,(3,aQ),(4,aS)) (x2:=(aA,(aB,((aC,(aD,(aE,((some (3,aQ)),(aG,(aH,((some (4,aS)),()))))))),((some 5),((some 6),((0,0,(3,aQ),(4,aS)),aM))))))) rfl pR ?_
  refine qB (qO ?_);cases d;exact pA [(0,0),(1,1),(2,2),(6,6),(7,3),(8,4),(9,5)]
 refine qM (q8 (qC ?_));replace d:=a1q d;generalize bB.1=bC at d|-;by_cases hfn:bC=some 117
 .subst hfn;rw[aSB rfl] at d;refine yX 0 (0,(3,aQ),(4,aS)) (x2:=(aA,(aB,((aC,(aD,(aE,((some (3,aQ)),(aG,(aH,((some (4,aS)),()))))))),((some 5),((some 6),((0,0,(3,aQ),(4,aS)),aM))))))) rfl pR ?_
  obtain⟨bD,hal11,hAhal11⟩:=A5 d;subst hal11;obtain⟨bE,hal12,hAhal12⟩:=A5 hAhal11;subst hal12;rw[show rW 9 .str (some bD:Option p8) aQ= .row 9 .str bD aQ from rfl];rw[show rW 110 rV (some bE:Option (List qG)) aS= .row 110 rV bE aS from rfl];refine A6 3 rfl fun hln=>?_;subst hln;refine A6 4 rfl fun hln=>?_;subst hln;have d:=hAhal12;obtain⟨T,d⟩:=pZ d;obtain⟨bF,hv14,hw14,d⟩:=rG d
  try simp only[go_sem] at hw14
  refine qV yB ?_ (hp:=by exact⟨T,pO,pO,pO,pO,pO,pO,pO,pO,pO,pO,pO,(rE hv14)⟩) (h:=by simp only[go_sem,hw14];rfl)
  refine q8 (qB ?_);cases d;exact pA [(0,0),(1,1),(2,2),(6,6),(7,3),(8,4),(9,5)]
 rw[aSD hfn] at d;clear hfn;by_cases hfn:bC=some 118
 .subst hfn;rw[aSB rfl] at d;refine yX 0 (0,(3,aQ),(4,aS)) (x2:=(aA,(aB,((aC,(aD,(aE,((some (3,aQ)),(aG,(aH,((some (4,aS)),()))))))),((some 5),((some 6),((0,0,(3,aQ),(4,aS)),aM))))))) rfl pR ?_
  obtain⟨bG,hal15,hAhal15⟩:=A5 d;subst hal15;obtain⟨bH,hal16,hAhal16⟩:=A5 hAhal15;subst hal16;rw[show rW 9 .str (some bG:Option p8) aQ= .row 9 .str bG aQ from rfl];rw[show rW 110 rV (some bH:Option (List qG)) aS= .row 110 rV bH aS from rfl];refine A6 3 rfl fun hln=>?_;subst hln;refine A6 4 rfl fun hln=>?_;subst hln;have d:=hAhal16;obtain⟨S,d⟩:=pZ d;obtain⟨bI,hv18,hw18,d⟩:=rG d
  try simp only[go_sem] at hw18
  refine qV yB ?_ (hp:=by exact⟨S,pO,pO,pO,pO,pO,pO,pO,pO,pO,pO,pO,(rE hv18)⟩) (h:=by simp only[go_sem,hw18];rfl)
  refine q8 (qB ?_);cases d;exact pA [(0,0),(1,1),(2,2),(6,6),(7,3),(8,4),(9,5)]
 rw[aSD hfn] at d;clear hfn;by_cases hfn:bC=some 119
 .subst hfn;rw[aSB rfl] at d;refine yX 0 (0,(3,aQ),(4,aS)) (x2:=(aA,(aB,((aC,(aD,(aE,((some (3,aQ)),(aG,(aH,((some (4,aS)),()))))))),((some 5),((some 6),((0,0,(3,aQ),(4,aS)),aM))))))) rfl pR ?_
  obtain⟨bJ,hal19,hAhal19⟩:=A5 d;subst hal19;obtain⟨bK,hal20,hAhal20⟩:=A5 hAhal19;subst hal20;rw[show rW 9 .str (some bJ:Option p8) aQ= .row 9 .str bJ aQ from rfl];rw[show rW 110 rV (some bK:Option (List qG)) aS= .row 110 rV bK aS from rfl];refine A6 3 rfl fun hln=>?_;subst hln;refine A6 4 rfl fun hln=>?_;subst hln;have d:=hAhal20;obtain⟨R,d⟩:=pZ d;obtain⟨bM,hv22,hw22,d⟩:=rG d
  try simp only[go_sem] at hw22
  refine qV yB ?_ (hp:=by exact⟨R,pO,pO,pO,pO,pO,pO,pO,pO,pO,pO,pO,(rE hv22)⟩) (h:=by simp only[go_sem,hw22];rfl)
  refine q8 (qB ?_);cases d;exact pA [(0,0),(1,1),(2,2),(6,6),(7,3),(8,4),(9,5)]
 rw[aSD hfn] at d;clear hfn;by_cases hfn:bC=some 120
 .subst hfn;rw[aSB rfl] at d;refine yX 0 (0,(3,aQ),(4,aS)) (x2:=(aA,(aB,((aC,(aD,(aE,((some (3,aQ)),(aG,(aH,((some (4,aS)),()))))))),((some 5),((some 6),((0,0,(3,aQ),(4,aS)),aM))))))) rfl pR ?_
  obtain⟨bN,hal23,hAhal23⟩:=A5 d;subst hal23;obtain⟨bO,hal24,hAhal24⟩:=A5 hAhal23;subst hal24;rw[show rW 9 .str (some bN:Option p8) aQ= .row 9 .str bN aQ from rfl];rw[show rW 110 rV (some bO:Option (List qG)) aS= .row 110 rV bO aS from rfl];refine A6 3 rfl fun hln=>?_;subst hln;refine A6 4 rfl fun hln=>?_;subst hln;have d:=hAhal24;obtain⟨Q,d⟩:=pZ d;obtain⟨bP,hv26,hw26,d⟩:=rG d
  try simp only[go_sem] at hw26
  refine qV yB ?_ (hp:=by exact⟨Q,pO,pO,pO,pO,pO,pO,pO,pO,pO,pO,pO,(rE hv26)⟩) (h:=by simp only[go_sem,hw26];rfl)
  refine q8 (qB ?_);cases d;exact pA [(0,0),(1,1),(2,2),(6,6),(7,3),(8,4),(9,5)]
 rw[aSD hfn] at d;clear hfn;by_cases hfn:bC=some 121
 .subst hfn;rw[aSB rfl] at d;refine yX 0 (0,(3,aQ),(4,aS)) (x2:=(aA,(aB,((aC,(aD,(aE,((some (3,aQ)),(aG,(aH,((some (4,aS)),()))))))),((some 5),((some 6),((0,0,(3,aQ),(4,aS)),aM))))))) rfl pR ?_
  obtain⟨bQ,hal27,hAhal27⟩:=A5 d;subst hal27;obtain⟨bR,hal28,hAhal28⟩:=A5 hAhal27;subst hal28;rw[show rW 9 .str (some bQ:Option p8) aQ= .row 9 .str bQ aQ from rfl];rw[show rW 110 rV (some bR:Option (List qG)) aS= .row 110 rV bR aS from rfl];refine A6 3 rfl fun hln=>?_;subst hln;refine A6 4 rfl fun hln=>?_;subst hln;have d:=hAhal28;obtain⟨P,d⟩:=pZ d;obtain⟨bS,hv30,hw30,d⟩:=rG d
  try simp only[go_sem] at hw30
  refine qV yB ?_ (hp:=by exact⟨P,pO,pO,pO,pO,pO,pO,pO,pO,pO,pO,pO,(rE hv30)⟩) (h:=by simp only[go_sem,hw30];rfl)
  refine q8 (qB ?_);cases d;exact pA [(0,0),(1,1),(2,2),(6,6),(7,3),(8,4),(9,5)]
 rw[aSD hfn] at d;clear hfn;by_cases hfn:bC=some 122
 .subst hfn;rw[aSB rfl] at d;refine yX 0 (0,(3,aQ),(4,aS)) (x2:=(aA,(aB,((aC,(aD,(aE,((some (3,aQ)),(aG,(aH,((some (4,aS)),()))))))),((some 5),((some 6),((0,0,(3,aQ),(4,aS)),aM))))))) rfl pR ?_
  obtain⟨bT,hal31,hAhal31⟩:=A5 d;subst hal31;obtain⟨bU,hal32,hAhal32⟩:=A5 hAhal31;subst hal32;rw[show rW 9 .str (some bT:Option p8) aQ= .row 9 .str bT aQ from rfl];rw[show rW 110 rV (some bU:Option (List qG)) aS= .row 110 rV bU aS from rfl];refine A6 3 rfl fun hln=>?_;subst hln;refine A6 4 rfl fun hln=>?_;subst hln;have d:=hAhal32;obtain⟨M,d⟩:=pZ d;obtain⟨bV,hv34,hw34,d⟩:=rG d
  try simp only[go_sem] at hw34
  refine qV yB ?_ (hp:=by exact⟨M,pO,pO,pO,pO,pO,pO,pO,pO,pO,pO,pO,(rE hv34)⟩) (h:=by simp only[go_sem,hw34];rfl)
  refine q8 (qB ?_);cases d;exact pA [(0,0),(1,1),(2,2),(6,6),(7,3),(8,4),(9,5)]
 rw[aSD hfn] at d;clear hfn;cases d
attribute [irreducible] H4
end
noncomputable section
def B3 (O:sK) (Z:Int) (aA:p7) (aB:p7) (aC:p7) (aD:p8) (aE:Int) (aF:(pH×Unit)) (aG:p7) (aH:Int) (aI:(Option p8)) (aJ:Nat) (aK:(Option (List qG))) (aL:Nat) (aM:pF):Option (p7×Int×p7×pF):=(H3 aG).bind fun aN=>if (!aN.2)=true then none else if 0≤(0:Int)∧(0:Int)<(aN.1.length:Int) then if (qE qK aN.1 (0:Int)).1=true then (LS O Z aA aB aC aD aE aF aN.1 aI aJ aK aL aM).bind fun aO=>none else if ((decide (Z=(0:Int)))||(decide (Z=(2:Int))))=true then if ((D5 O Z aA aB aC aD aE aF aN.1 aI aJ aK aL aM)).isSome=true then (D5 O Z aA aB aC aD aE aF aN.1 aI aJ aK aL aM).bind fun aP=>some ((aP.1,aP.2.1,aP.2.2.1,aP.2.2.2)) else (J2 O Z aA aB aC aD aE aF aN.1 aI aJ aK aL aM).bind fun aQ=>none else if 0≤(0:Int)∧(0:Int)<(aN.1.length:Int) then if (decide ((qE qK aN.1 (0:Int)).2.1=([101,110,100]:p7)))=true then none else if 0≤(0:Int)∧(0:Int)<(aN.1.length:Int) then AP (F8 ((qE qK aN.1 (0:Int)).2.1)) fun aR=>if ((yP aR.1)||((decide (Z=(1:Int)))&&(!aR.2)))=true then none else AP aR.1 fun aS=>if aS=some 117 then none else if aS=some 118 then none else if aS=some 119 then none else if aS=some 120 then none else if aS=some 121 then none else if aS=some 122 then none else none else none else none else none
section
variable (O:p7) (Z:Int) (aA:sK) (aB:Int) (aC:p7) (aD:p7) (aE:p7) (aF:Nat) (aG:p8) (aH:Int) (aI:Nat) (aJ:Nat) (aK:Nat) (aL:(pH×Unit)) (aM:Nat) (aN:Nat) (aO:(Option p8)) (aP:Nat) (aQ:(Option (List qG))) (aR:Nat) (aS:pF)
abbrev X5:List pW:=[(.val .ref (some (0,0)),none),(.val .str O,none),(.val (.int .i64) Z,none)]
abbrev a8e:List pV:=[.cells sE (aA,(aB,((aC,(aD,(aE,((some (3,aF)),(aG,(aH,((some (4,aI)),()))))))),(none,((some 5),((0,0,(3,aJ),(4,aK)),aL)))))) [(3,1),(15,2)],.grow 45 7 aM,.grow 3 1 aN,rW 9 .str aO aP,rW 110 rV aQ aR,.map .str .bool aS]
@[go_sem] def X6:qH:=let q:=val (B3 aA aB aC aD aE aG aH aL O Z aO aP aQ aR aS);⟨[aM=(aA.2.2.2.1.length),aN=(aL.1.length),aF=aP,aI=aR,aJ=aP,aK=aR,((B3 aA aB aC aD aE aG aH aL O Z aO aP aQ aR aS)).isSome=true],[(.val (.int .i64) (0:Int),none)],[.cells sE ((q.1,(aA.2.1,(aA.2.2.1,(aA.2.2.2.1,())))),(q.2.1,((q.2.2.1,(([]:p7),(([]:p7),((some (6,0)),(([]:p8),((0:Int),((some (7,0)),()))))))),((some 8),((some 5),((0,0,(6,0),(7,0)),(aL.1,()))))))) [(3,1),(9,9),(15,2)],.grow 45 7 (aA.2.2.2.1.length),.grow 3 1 (aL.1.length),rW 9 .str aO aP,rW 110 rV aQ aR,.map .str .bool (q.2.2.2),.row 9 .str ([]:p8) 0,.row 110 rV ([]:List qG) 0,.map .str .bool ([]:pF),.grow 9 1 (([]:p8).length)]⟩
def a8f:List pW→List pV→Option qH:=rQ (V:=(p7×Int×sK×Int×p7×p7×p7×Nat×p8×Int×Nat×Nat×Nat×(pH×Unit)×Nat×Nat×(Option p8)×Nat×(Option (List qG))×Nat×pF)) (fun⟨O,Z,_,_,_,_,_,_,_,_,_,_,_,_,_,_,_,_,_,_,_⟩=>X5 O Z) (fun⟨_,_,aA,aB,aC,aD,aE,aF,aG,aH,aI,aJ,aK,aL,aM,aN,aO,aP,aQ,aR,aS⟩=>a8e aA aB aC aD aE aF aG aH aI aJ aK aL aM aN aO aP aQ aR aS) fun⟨O,Z,aA,aB,aC,aD,aE,aF,aG,aH,aI,aJ,aK,aL,aM,aN,aO,aP,aQ,aR,aS⟩=>X6 O Z aA aB aC aD aE aF aG aH aI aJ aK aL aM aN aO aP aQ aR aS
@[go_sem] def aNA:a8f (no_index (X5 O Z)) (no_index (a8e aA aB aC aD aE aF aG aH aI aJ aK aL aM aN aO aP aQ aR aS))=some (X6 O Z aA aB aC aD aE aF aG aH aI aJ aK aL aM aN aO aP aQ aR aS):=rR (fun⟨a0,a1,a2,a3,a4,a5,a6,a7,a8,a9,a10,a11,a12,a13,a14,a15,a16,a17,a18,a19,a20⟩ ⟨b0,b1,b2,b3,b4,b5,b6,b7,b8,b9,b10,b11,b12,b13,b14,b15,b16,b17,b18,b19,b20⟩ h1 h2=>by cases h1;injection h2 with p0 h2;injection h2 with p1 h2;injection h2 with p2 h2;injection h2 with p3 h2;injection h2 with p4 h2;injection h2 with p5 h2;obtain⟨q3,r3⟩:=A4 p3;cases q3;cases r3;obtain⟨q4,r4⟩:=A4 p4;cases q4;cases r4;cases p0;cases p1;cases p2;cases p5;rfl) (O,Z,aA,aB,aC,aD,aE,aF,aG,aH,aI,aJ,aK,aL,aM,aN,aO,aP,aQ,aR,aS)
end
@[go_sem] def aSe (O:p7) (Z:Int) (aA:sK) (aB:Int) (aC:p7) (aD:p7) (aE:p7) (aF:Nat) (aG:p8) (aH:Int) (aI:Nat) (aJ:Nat) (aK:Nat) (aL:(pH×Unit)) (aM:Nat) (aN:Nat) (aO:p8) (aP:Nat) (aQ:List qG) (aR:Nat) (aS:pF):a8f (no_index (X5 O Z)) (no_index ([.cells sE (aA,(aB,((aC,(aD,(aE,((some (3,aF)),(aG,(aH,((some (4,aI)),()))))))),(none,((some 5),((0,0,(3,aJ),(4,aK)),aL)))))) [(3,1),(15,2)],.grow 45 7 aM,.grow 3 1 aN,.row 9 .str aO aP,.row 110 rV aQ aR,.map .str .bool aS]:List pV))=some (X6 O Z aA aB aC aD aE aF aG aH aI aJ aK aL aM aN (some aO) aP (some aQ) aR aS):=aNA O Z aA aB aC aD aE aF aG aH aI aJ aK aL aM aN (some aO) aP (some aQ) aR aS
@[go_sem] abbrev RW:Nat×r5:=(56,⟨[.p sE [3,15],.v,.v],a8f,[(0,8,.r),(0,11,.r),(0,13,.m)],[1,2,3,4],none⟩)
def aGI:qW prog [] (qY [B2,CL,GV,AW,AT,AU,B1,AX,AY,AZ,AV]):=⟨trivial,qJ MA (qJ OC (qJ X1 (qJ LM (qJ LH (qJ LI (qJ M0 (qJ LW (qJ LX (qJ LY (qJ LK rL)))))))))),qZ⟩
def EA:qW prog [uU,uV,s8,AR,uW,wD,wA,GG] (qY [B2,CL,GV,AW,AT,AU,B1,AX,AY,AZ,AV]):=⟨⟨vH,⟨vI,⟨s9,⟨CD,⟨vJ,⟨x7,⟨wK,⟨L5,trivial⟩⟩⟩⟩⟩⟩⟩⟩,aGI.Γ,qZ⟩
def aSl:qW prog [] (qY [B2,CL,GV,AW,AT,AU,B1,AX,AY,AZ,AV]):=⟨trivial,qJ MA (qJ OC (qJ X1 (qJ LM (qJ LH (qJ LI (qJ M0 (qJ LW (qJ LX (qJ LY (qJ LK rL)))))))))),qZ⟩
def aHm:qW prog [uU,uV,s8,AR,uW,wD,wA,GG] (qY [B2,CL,GV,AW,AT,AU,B1,AX,AY,AZ,AV]):=⟨⟨vH,⟨vI,⟨s9,⟨CD,⟨vJ,⟨x7,⟨wK,⟨L5,trivial⟩⟩⟩⟩⟩⟩⟩⟩,aSl.Γ,qZ⟩
def aSm:qW prog [] (qY [B2,CL,RL,AW,AT,AU,B1,AX,AY,AZ,AV]):=⟨trivial,qJ MA (qJ OC (qJ aFp (qJ LM (qJ LH (qJ LI (qJ M0 (qJ LW (qJ LX (qJ LY (qJ LK rL)))))))))),qZ⟩
def aSn:qW prog [uU,uV,s8,AR,uW,wD,wA,GG] (qY [B2,CL,RL,AW,AT,AU,B1,AX,AY,AZ,AV]):=⟨⟨vH,⟨vI,⟨s9,⟨CD,⟨vJ,⟨x7,⟨wK,⟨L5,trivial⟩⟩⟩⟩⟩⟩⟩⟩,aSm.Γ,qZ⟩
def aGJ:rC prog RW:=by
 refine rS aGI func56 (c:=_) rfl (N:=81) pP (ts:=[(6,none)]) rfl (fun _ _=>rfl) ?_ (h3:=by intro _;repeat (first|exact trivial|refine IB rfl ?_ |refine ⟨rfl,?_⟩))
 intro⟨O,Z,aA,aB,aC,aD,aE,aF,aG,aH,aI,aJ,aK,aL,aM,aN,aO,aP,aQ,aR,aS⟩ hs hrow;dsimp only[X5,a8e,X6,rM,qP,qU,r6,rP,Nat.reduceAdd] at hs hrow|-;obtain⟨rfl,rfl,hps2,hps3,hps4,hps5,hz⟩:=hs;obtain rfl:=hps2.symm;obtain rfl:=hps3.symm;obtain rfl:=hps4.symm;obtain rfl:=hps5.symm;obtain⟨z0,d⟩:=aSF.1 hz
 try rw[rU d]
 clear hz;unfold B3 at d;refine pU EA ?_;obtain⟨aT,hv1,hw1,d⟩:=rG d
 try simp only[go_sem] at hw1
 refine pU EA ?_ (hp:=by exact(rE hv1)) (h:=by simp only[go_sem,hw1];rfl);refine qC (rN (pU EA ?_));refine qD d ?_ ?_<;>intro d Y
 .refine qC (qV EA ?_);cases d
 obtain⟨X,d⟩:=pZ d;refine pU EA ?_ (hp:=by exact X);refine qD d ?_ ?_<;>intro d Y
 .refine qC ?_;obtain⟨aU,hv3,hw3,d⟩:=rG d
  try simp only[go_sem] at hw3
  refine qV aHm ?_ (hp:=by exact⟨pO,pO,pO,pO,pO,pO,pO,pO,pO,pO,pO,(rE hv3)⟩) (h:=by simp only[go_sem,hw3];rfl)
  cases d
 refine qM (rK (q8 (pU EA ?_)));refine qC (pU EA ?_ (hp:=by exact⟨id,id,id,id,tN⟩));refine qD d ?_ ?_<;>intro d Y
 .refine qC (yX 0 (0,(3,aP),(4,aR)) (x2:=(aA,(aB,((aC,(aD,(aE,((some (3,aP)),(aG,(aH,((some (4,aR)),()))))))),(none,((some 5),((0,0,(3,aP),(4,aR)),aL))))))) rfl pR ?_)
  by_cases hva4:((D5 aA aB aC aD aE aG aH aL aT.1 aO aP aQ aR aS)).isSome=true
  .rw[aSB hva4] at d;obtain⟨aV,hv4,hw4,d⟩:=rG d
   try simp only[go_sem] at hw4
   refine qV aHm ?_ (hp:=by exact⟨pO,pO,pO,pO,pO,pO,pO,pO,pO,pO,(rE hv4)⟩) (h:=by simp only[go_sem,hw4];rfl)
   refine q8 (qB (qO ?_));cases d;exact pA [(0,0),(1,1),(2,2),(3,3),(4,4),(5,5),(6,1100),(7,1101),(8,1102),(9,1103)]
  rw[aSD hva4] at d;obtain⟨aW,hv5,hw5,d⟩:=rG d
  try simp only[go_sem] at hw5
  refine qV aSn ?_ (hp:=by exact⟨pO,pO,pO,pO,pO,pO,pO,pO,pO,pO,pO,(rE hv5)⟩) (h:=by simp only[go_sem,hw5];rfl)
  cases d
 refine qM (q8 (qC ?_));obtain⟨W,d⟩:=pZ d;refine pU EA ?_ (hp:=by exact W);refine qD d ?_ ?_<;>intro d Y
 .cases d
 refine qM (q8 ?_);obtain⟨V,d⟩:=pZ d;obtain⟨aX,hw_46,d⟩:=QM d
 try simp only[go_sem] at hw_46
 refine pU EA ?_ (hp:=by exact V) (h:=by simp only[go_sem,hw_46];rfl);refine qC (pU EA ?_ (hp:=by exact⟨id,id,id,id,id,id,id,fun hG e=>I6 hG e,tN⟩));refine qD d ?_ ?_<;>intro d Y
 .refine qC (qV EA ?_);cases d
 refine qM (q8 (qC ?_));replace d:=a1q d;generalize aX.1=aY at d|-;by_cases hfn:aY=some 117
 .subst hfn;rw[aSB rfl] at d;cases d
 rw[aSD hfn] at d;clear hfn;by_cases hfn:aY=some 118
 .subst hfn;rw[aSB rfl] at d;cases d
 rw[aSD hfn] at d;clear hfn;by_cases hfn:aY=some 119
 .subst hfn;rw[aSB rfl] at d;cases d
 rw[aSD hfn] at d;clear hfn;by_cases hfn:aY=some 120
 .subst hfn;rw[aSB rfl] at d;cases d
 rw[aSD hfn] at d;clear hfn;by_cases hfn:aY=some 121
 .subst hfn;rw[aSB rfl] at d;cases d
 rw[aSD hfn] at d;clear hfn;by_cases hfn:aY=some 122
 .subst hfn;rw[aSB rfl] at d;cases d
 rw[aSD hfn] at d;clear hfn;cases d
attribute [irreducible] B3
end
noncomputable section
def FD (O:sK) (Z:Int) (aA:p7) (aB:p7) (aC:p7) (aD:p8) (aE:Int) (aF:(pH×Unit)) (aG:p7) (aH:Int) (aI:(Option p8)) (aJ:Nat) (aK:(Option (List qG))) (aL:Nat) (aM:pF):Option Int:=(H3 aG).bind fun aN=>if (!aN.2)=true then some ((3:Int)) else if 0≤(0:Int)∧(0:Int)<(aN.1.length:Int) then if (qE qK aN.1 (0:Int)).1=true then (LS O Z aA aB aC aD aE aF aN.1 aI aJ aK aL aM).bind fun aO=>some (aO) else if ((decide (Z=(0:Int)))||(decide (Z=(2:Int))))=true then if ((D5 O Z aA aB aC aD aE aF aN.1 aI aJ aK aL aM)).isSome=true then (D5 O Z aA aB aC aD aE aF aN.1 aI aJ aK aL aM).bind fun aP=>none else (J2 O Z aA aB aC aD aE aF aN.1 aI aJ aK aL aM).bind fun aQ=>some (aQ) else if 0≤(0:Int)∧(0:Int)<(aN.1.length:Int) then if (decide ((qE qK aN.1 (0:Int)).2.1=([101,110,100]:p7)))=true then none else if 0≤(0:Int)∧(0:Int)<(aN.1.length:Int) then AP (F8 ((qE qK aN.1 (0:Int)).2.1)) fun aR=>if ((yP aR.1)||((decide (Z=(1:Int)))&&(!aR.2)))=true then some ((3:Int)) else AP aR.1 fun aS=>if aS=some 117 then none else if aS=some 118 then none else if aS=some 119 then none else if aS=some 120 then none else if aS=some 121 then none else if aS=some 122 then none else none else none else none else none
section
variable (O:p7) (Z:Int) (aA:sK) (aB:Int) (aC:p7) (aD:p7) (aE:p7) (aF:Nat) (aG:p8) (aH:Int) (aI:Nat) (aJ:Nat) (aK:Nat) (aL:(pH×Unit)) (aM:Nat) (aN:Nat) (aO:(Option p8)) (aP:Nat) (aQ:(Option (List qG))) (aR:Nat) (aS:pF)
abbrev X7:List pW:=[(.val .ref (some (0,0)),none),(.val .str O,none),(.val (.int .i64) Z,none)]
abbrev a8g:List pV:=[.cells sE (aA,(aB,((aC,(aD,(aE,((some (3,aF)),(aG,(aH,((some (4,aI)),()))))))),(none,((some 5),((0,0,(3,aJ),(4,aK)),aL)))))) [(3,1),(15,2)],.grow 45 7 aM,.grow 3 1 aN,rW 9 .str aO aP,rW 110 rV aQ aR,.map .str .bool aS]
@[go_sem] def X8:qH:=⟨[aM=(aA.2.2.2.1.length),aN=(aL.1.length),aF=aP,aI=aR,aJ=aP,aK=aR,((FD aA aB aC aD aE aG aH aL O Z aO aP aQ aR aS)).isSome=true],[(.val (.int .i64) (val (FD aA aB aC aD aE aG aH aL O Z aO aP aQ aR aS)),none)],[.cells sE ((aA.1,(aA.2.1,(aA.2.2.1,(aA.2.2.2.1,())))),(aB,((aC,(aD,(aE,((some (3,aP)),(aG,(aH,((some (4,aR)),()))))))),(none,((some 5),((0,0,(3,aP),(4,aR)),(aL.1,()))))))) [(3,1),(15,2)],.grow 45 7 (aA.2.2.2.1.length),.grow 3 1 (aL.1.length),rW 9 .str aO aP,rW 110 rV aQ aR,.map .str .bool aS]⟩
def a8h:List pW→List pV→Option qH:=rQ (V:=(p7×Int×sK×Int×p7×p7×p7×Nat×p8×Int×Nat×Nat×Nat×(pH×Unit)×Nat×Nat×(Option p8)×Nat×(Option (List qG))×Nat×pF)) (fun⟨O,Z,_,_,_,_,_,_,_,_,_,_,_,_,_,_,_,_,_,_,_⟩=>X7 O Z) (fun⟨_,_,aA,aB,aC,aD,aE,aF,aG,aH,aI,aJ,aK,aL,aM,aN,aO,aP,aQ,aR,aS⟩=>a8g aA aB aC aD aE aF aG aH aI aJ aK aL aM aN aO aP aQ aR aS) fun⟨O,Z,aA,aB,aC,aD,aE,aF,aG,aH,aI,aJ,aK,aL,aM,aN,aO,aP,aQ,aR,aS⟩=>X8 O Z aA aB aC aD aE aF aG aH aI aJ aK aL aM aN aO aP aQ aR aS
@[go_sem] def aNB:a8h (no_index (X7 O Z)) (no_index (a8g aA aB aC aD aE aF aG aH aI aJ aK aL aM aN aO aP aQ aR aS))=some (X8 O Z aA aB aC aD aE aF aG aH aI aJ aK aL aM aN aO aP aQ aR aS):=rR (fun⟨a0,a1,a2,a3,a4,a5,a6,a7,a8,a9,a10,a11,a12,a13,a14,a15,a16,a17,a18,a19,a20⟩ ⟨b0,b1,b2,b3,b4,b5,b6,b7,b8,b9,b10,b11,b12,b13,b14,b15,b16,b17,b18,b19,b20⟩ h1 h2=>by cases h1;injection h2 with p0 h2;injection h2 with p1 h2;injection h2 with p2 h2;injection h2 with p3 h2;injection h2 with p4 h2;injection h2 with p5 h2;obtain⟨q3,r3⟩:=A4 p3;cases q3;cases r3;obtain⟨q4,r4⟩:=A4 p4;cases q4;cases r4;cases p0;cases p1;cases p2;cases p5;rfl) (O,Z,aA,aB,aC,aD,aE,aF,aG,aH,aI,aJ,aK,aL,aM,aN,aO,aP,aQ,aR,aS)
end
@[go_sem] def aSf (O:p7) (Z:Int) (aA:sK) (aB:Int) (aC:p7) (aD:p7) (aE:p7) (aF:Nat) (aG:p8) (aH:Int) (aI:Nat) (aJ:Nat) (aK:Nat) (aL:(pH×Unit)) (aM:Nat) (aN:Nat) (aO:p8) (aP:Nat) (aQ:List qG) (aR:Nat) (aS:pF):a8h (no_index (X7 O Z)) (no_index ([.cells sE (aA,(aB,((aC,(aD,(aE,((some (3,aF)),(aG,(aH,((some (4,aI)),()))))))),(none,((some 5),((0,0,(3,aJ),(4,aK)),aL)))))) [(3,1),(15,2)],.grow 45 7 aM,.grow 3 1 aN,.row 9 .str aO aP,.row 110 rV aQ aR,.map .str .bool aS]:List pV))=some (X8 O Z aA aB aC aD aE aF aG aH aI aJ aK aL aM aN (some aO) aP (some aQ) aR aS):=aNB O Z aA aB aC aD aE aF aG aH aI aJ aK aL aM aN (some aO) aP (some aQ) aR aS
@[go_sem] abbrev RX:Nat×r5:=(56,⟨[.p sE [3,15],.v,.v],a8h,[(0,8,.r),(0,11,.r),(0,13,.m)],[1,2,3,4,5],none⟩)
def aGK:qW prog [] (qY [B2,CL,GV,AW,AT,AU,B1,AX,AY,AZ,AV]):=⟨trivial,qJ MA (qJ OC (qJ X1 (qJ LM (qJ LH (qJ LI (qJ M0 (qJ LW (qJ LX (qJ LY (qJ LK rL)))))))))),qZ⟩
def EB:qW prog [uU,uV,s8,AR,uW,wD,wA,GG] (qY [B2,CL,GV,AW,AT,AU,B1,AX,AY,AZ,AV]):=⟨⟨vH,⟨vI,⟨s9,⟨CD,⟨vJ,⟨x7,⟨wK,⟨L5,trivial⟩⟩⟩⟩⟩⟩⟩⟩,aGK.Γ,qZ⟩
def aSo:qW prog [] (qY [B2,CL,GV,AW,AT,AU,B1,AX,AY,AZ,AV]):=⟨trivial,qJ MA (qJ OC (qJ X1 (qJ LM (qJ LH (qJ LI (qJ M0 (qJ LW (qJ LX (qJ LY (qJ LK rL)))))))))),qZ⟩
def aLn:qW prog [uU,uV,s8,AR,uW,wD,wA,GG] (qY [B2,CL,GV,AW,AT,AU,B1,AX,AY,AZ,AV]):=⟨⟨vH,⟨vI,⟨s9,⟨CD,⟨vJ,⟨x7,⟨wK,⟨L5,trivial⟩⟩⟩⟩⟩⟩⟩⟩,aSo.Γ,qZ⟩
def aSp:qW prog [] (qY [B2,CL,RL,AW,AT,AU,B1,AX,AY,AZ,AV]):=⟨trivial,qJ MA (qJ OC (qJ aFp (qJ LM (qJ LH (qJ LI (qJ M0 (qJ LW (qJ LX (qJ LY (qJ LK rL)))))))))),qZ⟩
def aSq:qW prog [uU,uV,s8,AR,uW,wD,wA,GG] (qY [B2,CL,RL,AW,AT,AU,B1,AX,AY,AZ,AV]):=⟨⟨vH,⟨vI,⟨s9,⟨CD,⟨vJ,⟨x7,⟨wK,⟨L5,trivial⟩⟩⟩⟩⟩⟩⟩⟩,aSp.Γ,qZ⟩
def aGL:rC prog RX:=by
 refine rS aGK func56 (c:=_) rfl (N:=81) pP (ts:=[(6,none)]) rfl (fun _ _=>rfl) ?_ (h3:=by intro _;repeat (first|exact trivial|refine IB rfl ?_ |refine ⟨rfl,?_⟩))
 intro⟨O,Z,aA,aB,aC,aD,aE,aF,aG,aH,aI,aJ,aK,aL,aM,aN,aO,aP,aQ,aR,aS⟩ hs hrow;dsimp only[X7,a8g,X8,rM,qP,qU,r6,rP,Nat.reduceAdd] at hs hrow|-;obtain⟨rfl,rfl,hps2,hps3,hps4,hps5,hz⟩:=hs;obtain rfl:=hps2.symm;obtain rfl:=hps3.symm;obtain rfl:=hps4.symm;obtain rfl:=hps5.symm;obtain⟨z0,d⟩:=aSF.1 hz
 try rw[rU d]
 clear hz;unfold FD at d;refine pU EB ?_;obtain⟨aT,hv1,hw1,d⟩:=rG d
 try simp only[go_sem] at hw1
 refine pU EB ?_ (hp:=by exact(rE hv1)) (h:=by simp only[go_sem,hw1];rfl);refine qC (rN (pU EB ?_));refine qD d ?_ ?_<;>intro d Y
 .refine pU EB ?_;refine qB (r9 (qO ?_));cases d;exact pA [(0,0),(1,1),(2,2),(3,3),(4,4),(5,5)]
 obtain⟨X,d⟩:=pZ d;refine pU EB ?_ (hp:=by exact X);refine qD d ?_ ?_<;>intro d Y
 .obtain⟨aU,hv3,hw3,d⟩:=rG d
  try simp only[go_sem] at hw3
  refine pU aLn ?_ (hp:=by exact⟨pO,pO,pO,pO,pO,pO,pO,pO,pO,pO,pO,(rE hv3)⟩) (h:=by simp only[go_sem,hw3];rfl)
  refine qB (r9 (qO ?_));cases d;exact pA [(0,0),(1,1),(2,2),(3,3),(4,4),(5,5)]
 refine qM (rK (q8 (pU EB ?_)));refine qC (pU EB ?_ (hp:=by exact⟨id,id,id,id,tN⟩));refine qD d ?_ ?_<;>intro d Y
 .refine qC (yX 0 (0,(3,aP),(4,aR)) (x2:=(aA,(aB,((aC,(aD,(aE,((some (3,aP)),(aG,(aH,((some (4,aR)),()))))))),(none,((some 5),((0,0,(3,aP),(4,aR)),aL))))))) rfl pR ?_)
  by_cases hva4:((D5 aA aB aC aD aE aG aH aL aT.1 aO aP aQ aR aS)).isSome=true
  .rw[aSB hva4] at d;obtain⟨aV,hv4,hw4,d⟩:=rG d
   try simp only[go_sem] at hw4
   refine qV aLn ?_ (hp:=by exact⟨pO,pO,pO,pO,pO,pO,pO,pO,pO,pO,(rE hv4)⟩) (h:=by simp only[go_sem,hw4];rfl)
   cases d
  rw[aSD hva4] at d;obtain⟨aW,hv5,hw5,d⟩:=rG d
  try simp only[go_sem] at hw5
  refine qV aSq ?_ (hp:=by exact⟨pO,pO,pO,pO,pO,pO,pO,pO,pO,pO,pO,(rE hv5)⟩) (h:=by simp only[go_sem,hw5];rfl)
  refine q8 (qB (qO ?_));cases d;exact pA [(0,0),(1,1),(2,2),(3,3),(4,4),(5,5)]
 refine qM (q8 (qC ?_));obtain⟨W,d⟩:=pZ d;refine pU EB ?_ (hp:=by exact W);refine qD d ?_ ?_<;>intro d Y
 .cases d
 refine qM (q8 ?_);obtain⟨V,d⟩:=pZ d;obtain⟨aX,hw_43,d⟩:=QM d
 try simp only[go_sem] at hw_43
 refine pU EB ?_ (hp:=by exact V) (h:=by simp only[go_sem,hw_43];rfl);refine qC (pU EB ?_ (hp:=by exact⟨id,id,id,id,id,id,id,fun hG e=>I6 hG e,tN⟩));refine qD d ?_ ?_<;>intro d Y
 .refine pU EB ?_;refine yX 0 (0,(3,aP),(4,aR)) (x2:=(aA,(aB,((aC,(aD,(aE,((some (3,aP)),(aG,(aH,((some (4,aR)),()))))))),(none,((some 5),((0,0,(3,aP),(4,aR)),aL))))))) rfl pR ?_
  refine qB (qO ?_);cases d;exact pA [(0,0),(1,1),(2,2),(3,3),(4,4),(5,5)]
 refine qM (q8 (qC ?_));replace d:=a1q d;generalize aX.1=aY at d|-;by_cases hfn:aY=some 117
 .subst hfn;rw[aSB rfl] at d;cases d
 rw[aSD hfn] at d;clear hfn;by_cases hfn:aY=some 118
 .subst hfn;rw[aSB rfl] at d;cases d
 rw[aSD hfn] at d;clear hfn;by_cases hfn:aY=some 119
 .subst hfn;rw[aSB rfl] at d;cases d
 rw[aSD hfn] at d;clear hfn;by_cases hfn:aY=some 120
 .subst hfn;rw[aSB rfl] at d;cases d
 rw[aSD hfn] at d;clear hfn;by_cases hfn:aY=some 121
 .subst hfn;rw[aSB rfl] at d;cases d
 rw[aSD hfn] at d;clear hfn;by_cases hfn:aY=some 122
 .subst hfn;rw[aSB rfl] at d;cases d
 rw[aSD hfn] at d;clear hfn;cases d
attribute [irreducible] FD
end
noncomputable section
def A9 (O:p7):(Int⊕(Int×p7×p8×(List qG)×(List sA)×Int×p7×p7×p7×p8×Int×Nat×pH×(Option p8)×Nat×(Option (List qG))×Nat×pF×pF))→Option ((Int⊕(Int×p7×p8×(List qG)×(List sA)×Int×p7×p7×p7×p8×Int×Nat×pH×(Option p8)×Nat×(Option (List qG))×Nat×pF×pF))⊕(p7×p8×(List qG)×(List sA)×Int×p7×p7×p7×p8×Int×Nat×pH×(Option p8)×Nat×(Option (List qG))×Nat×pF×pF)):=fun x=>match x with
 | .inl Z=>
  if (decide (Z<(O.length:Int)))=true then
   if 0≤Z∧Z≤(O.length:Int)∧(O.length:Int)≤(O.length:Int) then
    (DY (qR O Z (O.length:Int)) ([10]:p7)).bind fun aA=>
    if pX (Z+(aA.1.length:Int)) then
     if pX ((Z+(aA.1.length:Int))+(1:Int)) then
      (GH aA.1).bind fun aB=>
      if (!((decide ((Lib.trimLeftS aA.1 ([32,9]:p7))=([]:p7)))||(decide ((rI (Lib.trimLeftS aA.1 ([32,9]:p7)) (0:Int))=(35:Int)))))=true then
       if ((B3 (([]:p7),(([]:p8),(([]:List qG),(([]:List sA),())))) (0:Int) ([]:p7) ([]:p7) ([]:p7) ([]:p8) (0:Int) (([]:pH),()) aA.1 (min (O.length:Int) ((Z+(aA.1.length:Int))+(1:Int))) (some ([]:p8)) 0 (some ([]:List qG)) 0 ([]:pF))).isSome=true then
        (B3 (([]:p7),(([]:p8),(([]:List qG),(([]:List sA),())))) (0:Int) ([]:p7) ([]:p7) ([]:p7) ([]:p8) (0:Int) (([]:pH),()) aA.1 (min (O.length:Int) ((Z+(aA.1.length:Int))+(1:Int))) (some ([]:p8)) 0 (some ([]:List qG)) 0 ([]:pF)).bind fun aC=>
        if (!decide ((0:Int)=(0:Int)))=true then
         none
        else
         some (.inl (.inr ((min (O.length:Int) ((Z+(aA.1.length:Int))+(1:Int))),aC.1,([]:p8),([]:List qG),([]:List sA),aC.2.1,aC.2.2.1,([]:p7),([]:p7),([]:p8),(0:Int),0,([]:pH),(some ([]:p8)),0,(some ([]:List qG)),0,([]:pF),aC.2.2.2)))
       else
        (FD (([]:p7),(([]:p8),(([]:List qG),(([]:List sA),())))) (0:Int) ([]:p7) ([]:p7) ([]:p7) ([]:p8) (0:Int) (([]:pH),()) aA.1 (min (O.length:Int) ((Z+(aA.1.length:Int))+(1:Int))) (some ([]:p8)) 0 (some ([]:List qG)) 0 ([]:pF)).bind fun aD=>
        if (!decide (aD=(0:Int)))=true then
         none
        else
         some (.inl (.inl (min (O.length:Int) ((Z+(aA.1.length:Int))+(1:Int)))))
      else
       some (.inl (.inl (min (O.length:Int) ((Z+(aA.1.length:Int))+(1:Int)))))
     else none
    else none
   else none
  else
   if (!decide ((0:Int)=(2:Int)))=true then
    none
   else
    none
 | .inr (aE,aF,aG,aH,aI,aJ,aK,aL,aM,aN,aO,aP,aQ,aR,aS,aT,aU,aV,aW)=>
  if (decide (aE<(O.length:Int)))=true then
   if 0≤aE∧aE≤(O.length:Int)∧(O.length:Int)≤(O.length:Int) then
    (DY (qR O aE (O.length:Int)) ([10]:p7)).bind fun aX=>
    if pX (aE+(aX.1.length:Int)) then
     if pX ((aE+(aX.1.length:Int))+(1:Int)) then
      (GH aX.1).bind fun aY=>
      if (!((decide ((Lib.trimLeftS aX.1 ([32,9]:p7))=([]:p7)))||(decide ((rI (Lib.trimLeftS aX.1 ([32,9]:p7)) (0:Int))=(35:Int)))))=true then
       (H4 (aF,(aG,(aH,(aI,())))) aJ aK aL aM aN aO aP (aQ,()) aX.1 (min (O.length:Int) ((aE+(aX.1.length:Int))+(1:Int))) aR aS aT aU aV aW).bind fun aZ=>
       if (!decide (aZ.1=(0:Int)))=true then
        none
       else
        some (.inl (.inr ((min (O.length:Int) ((aE+(aX.1.length:Int))+(1:Int))),aZ.2.1,aZ.2.2.1,aZ.2.2.2.1,aZ.2.2.2.2.1,aZ.2.2.2.2.2.1,aZ.2.2.2.2.2.2.1,aZ.2.2.2.2.2.2.2.1,aZ.2.2.2.2.2.2.2.2.1,aZ.2.2.2.2.2.2.2.2.2.1,aZ.2.2.2.2.2.2.2.2.2.2.1,aZ.2.2.2.2.2.2.2.2.2.2.2.1,aZ.2.2.2.2.2.2.2.2.2.2.2.2.1,aZ.2.2.2.2.2.2.2.2.2.2.2.2.2.2.1,aZ.2.2.2.2.2.2.2.2.2.2.2.2.2.2.2.1,aZ.2.2.2.2.2.2.2.2.2.2.2.2.2.2.2.2.1,aZ.2.2.2.2.2.2.2.2.2.2.2.2.2.2.2.2.2.1,aZ.2.2.2.2.2.2.2.2.2.2.2.2.2.2.2.2.2.2,aZ.2.2.2.2.2.2.2.2.2.2.2.2.2.1)))
      else
       some (.inl (.inr ((min (O.length:Int) ((aE+(aX.1.length:Int))+(1:Int))),aF,aG,aH,aI,aJ,aK,aL,aM,aN,aO,aP,aQ,aR,aS,aT,aU,aV,aW)))
     else none
    else none
   else none
  else
   if (!decide (aJ=(2:Int)))=true then
    none
   else
    some (.inr ((aF,aG,aH,aI,aJ,aK,aL,aM,aN,aO,aP,aQ,aR,aS,aT,aU,aV,aW)))
def BO (O:p7):Option (p7×p8×(List qG)×(List sA)×Int×p7×p7×p7×p8×Int×Nat×pH×(Option p8)×Nat×(Option (List qG))×Nat×pF×pF):=rF (A9 O) (.inl (0:Int))
section
variable (O:p7)
abbrev a8i:List pW:=[(.val .str O,none)]
abbrev a8j:List pV:=[]
@[go_sem] def a8k:qH:=let q:=val (BO O);⟨[((BO O)).isSome=true],[(.val .ref (some (0,0)),none),(.val (.int .i64) (0:Int),none),(.val (.int .i64) (0:Int),none)],[.cells sE ((q.1,(q.2.1,(q.2.2.1,(q.2.2.2.1,())))),(q.2.2.2.2.1,((q.2.2.2.2.2.1,(q.2.2.2.2.2.2.1,(q.2.2.2.2.2.2.2.1,((some (1,q.2.2.2.2.2.2.2.2.2.2.2.2.2.1)),(q.2.2.2.2.2.2.2.2.1,(q.2.2.2.2.2.2.2.2.2.1,((some (2,q.2.2.2.2.2.2.2.2.2.2.2.2.2.2.2.1)),()))))))),((some 3),((some 4),((q.2.2.2.2.2.2.2.2.2.2.1,0,(1,q.2.2.2.2.2.2.2.2.2.2.2.2.2.1),(2,q.2.2.2.2.2.2.2.2.2.2.2.2.2.2.2.1)),(q.2.2.2.2.2.2.2.2.2.2.2.1,()))))))) [(3,5),(15,6)],rW 9 .str (q.2.2.2.2.2.2.2.2.2.2.2.2.1) (q.2.2.2.2.2.2.2.2.2.2.2.2.2.1),rW 110 rV (q.2.2.2.2.2.2.2.2.2.2.2.2.2.2.1) (q.2.2.2.2.2.2.2.2.2.2.2.2.2.2.2.1),.map .str .bool (q.2.2.2.2.2.2.2.2.2.2.2.2.2.2.2.2.1),.map .str .bool (q.2.2.2.2.2.2.2.2.2.2.2.2.2.2.2.2.2),.grow 45 7 ((q.2.2.2.1).length),.grow 3 1 ((q.2.2.2.2.2.2.2.2.2.2.2.1).length)]⟩
def aGM:List pW→List pV→Option qH:=rQ (V:=p7) (a8i) (fun x=>a8j) fun x=>a8k x
@[go_sem] def aSg:aGM (no_index (a8i O)) (no_index a8j)=some (a8k O):=rR (fun a0 b0 h1 h2=>by cases h1;cases h2;rfl) O
end
@[go_sem] abbrev RY:Nat×r5:=(29,⟨[.v],aGM,[],[],none⟩)
def a8l:qW prog [] (qY [CJ,CE,RV]):=⟨trivial,qJ O8 (qJ NU (qJ aGH rL)),qZ⟩
def vN:qW prog [uU,uV,s8,D2,uW] (qY [CJ,CE,RV]):=⟨⟨vH,⟨vI,⟨s9,⟨F4,⟨vJ,trivial⟩⟩⟩⟩⟩,a8l.Γ,qZ⟩
def aSr:qW prog [] (qY [CJ,CE,RW]):=⟨trivial,qJ O8 (qJ NU (qJ aGJ rL)),qZ⟩
def aSs:qW prog [uU,uV,s8,D2,uW] (qY [CJ,CE,RW]):=⟨⟨vH,⟨vI,⟨s9,⟨F4,⟨vJ,trivial⟩⟩⟩⟩⟩,aSr.Γ,qZ⟩
def aSt:qW prog [] (qY [CJ,CE,RX]):=⟨trivial,qJ O8 (qJ NU (qJ aGL rL)),qZ⟩
def aSu:qW prog [uU,uV,s8,D2,uW] (qY [CJ,CE,RX]):=⟨⟨vH,⟨vI,⟨s9,⟨F4,⟨vJ,trivial⟩⟩⟩⟩⟩,aSt.Γ,qZ⟩
def aGN:rC prog RY:=by
 refine rS a8l func29 (c:=_) rfl (N:=55) pP (ts:=[(2,none),(3,none),(4,none)]) rfl (fun _ _=>rfl) ?_;intro O hs hrow;dsimp only[a8i,a8j,a8k,rM,qP,qU,r6,rP,Nat.reduceAdd] at hs hrow|-;have hz:=hs;obtain⟨z0,f⟩:=aSF.1 hz
 try rw[rU f]
 clear hz hs;unfold BO at f;refine pU a8l ?_;refine pU vN ?_;refine qC (pU vN ?_);refine rN (yX 160 (160,(166,0),(167,0)) (x2:=((([]:p7),(([]:p8),(([]:List qG),(([]:List sA),())))),((0:Int),((([]:p7),(([]:p7),(([]:p7),((some (166,0)),(([]:p8),((0:Int),((some (167,0)),()))))))),(none,((some 96),((0,160,(166,0),(167,0)),(([]:pH),())))))))) rfl pR ?_)
 have hy1:=f;refine tC hy1 (fun x=>match x with| .inl x=>⟨[(0,.val .str O,none),(5,.val .ref (some (0,0)),none),(6,.val (.int .i64) x,none)],[(0,.cells sE ((([]:p7),(([]:p8),(([]:List qG),(([]:List sA),())))),((0:Int),((([]:p7),(([]:p7),(([]:p7),((some (1,0)),(([]:p8),((0:Int),((some (2,0)),()))))))),(none,((some 3),((0,0,(1,0),(2,0)),(([]:pH),()))))))) [(3,4),(15,5)]),(1,.row 9 .str ([]:p8) 0),(2,.row 110 rV ([]:List qG) 0),(3,.map .str .bool ([]:pF)),(4,.grow 45 7 (([]:List sA).length)),(5,.grow 3 1 (([]:pH).length))],6,55,0⟩ | .inr x=>⟨[(0,.val .str O,none),(5,.val .ref (some (0,0)),none),(6,.val (.int .i64) x.1,none)],[(0,.cells sE ((x.2.1,(x.2.2.1,(x.2.2.2.1,(x.2.2.2.2.1,())))),(x.2.2.2.2.2.1,((x.2.2.2.2.2.2.1,(x.2.2.2.2.2.2.2.1,(x.2.2.2.2.2.2.2.2.1,((some (1,x.2.2.2.2.2.2.2.2.2.2.2.2.2.2.1)),(x.2.2.2.2.2.2.2.2.2.1,(x.2.2.2.2.2.2.2.2.2.2.1,((some (2,x.2.2.2.2.2.2.2.2.2.2.2.2.2.2.2.2.1)),()))))))),((some 3),((some 4),((x.2.2.2.2.2.2.2.2.2.2.2.1,0,(1,x.2.2.2.2.2.2.2.2.2.2.2.2.2.2.1),(2,x.2.2.2.2.2.2.2.2.2.2.2.2.2.2.2.2.1)),(x.2.2.2.2.2.2.2.2.2.2.2.2.1,()))))))) [(3,5),(15,6)]),(1,rW 9 .str x.2.2.2.2.2.2.2.2.2.2.2.2.2.1 x.2.2.2.2.2.2.2.2.2.2.2.2.2.2.1),(2,rW 110 rV x.2.2.2.2.2.2.2.2.2.2.2.2.2.2.2.1 x.2.2.2.2.2.2.2.2.2.2.2.2.2.2.2.2.1),(3,.map .str .bool x.2.2.2.2.2.2.2.2.2.2.2.2.2.2.2.2.2.1),(4,.map .str .bool x.2.2.2.2.2.2.2.2.2.2.2.2.2.2.2.2.2.2),(5,.grow 45 7 (x.2.2.2.2.1.length)),(6,.grow 3 1 (x.2.2.2.2.2.2.2.2.2.2.2.2.1.length))],7,55,0⟩) ⟨[0,5,6],[(0,160),(1,166),(2,167),(3,96),(4,163),(5,165)]⟩ pR ?_
 intro x1 w1 n1 d e;rcases x1 with x1|x1
 .obtain⟨Z,hvx⟩: ∃v,v=x1:=⟨_,rfl⟩;subst hvx;unfold A9 at d;dsimp only at d|-;refine qC (pU vN ?_);refine qD d ?_ ?_<;>intro d Y
  .refine qM (q8 (rN ?_));obtain⟨X,d⟩:=pZ d;obtain⟨aA,hv2,hw2,d⟩:=rG d
   try simp only[go_sem] at hw2
   refine pU vN ?_ (hp:=by exact⟨X,(rE hv2)⟩) (h:=by simp only[go_sem,hw2];rfl);obtain⟨W,V,d⟩:=oZ d;refine pU vN ?_ (hp:=by exact⟨W,V⟩);refine qC ?_;obtain⟨aB,hv5,hw5,d⟩:=rG d
   try simp only[go_sem] at hw5
   refine pU vN ?_ (hp:=by exact(rE hv5)) (h:=by simp only[go_sem,hw5];rfl);refine qD d ?_ ?_<;>intro d Y
   .refine qC ?_;by_cases hva3:((B3 (([]:p7),(([]:p8),(([]:List qG),(([]:List sA),())))) (0:Int) ([]:p7) ([]:p7) ([]:p7) ([]:p8) (0:Int) (([]:pH),()) aA.1 (min (O.length:Int) ((Z+(aA.1.length:Int))+(1:Int))) (some ([]:p8)) 0 (some ([]:List qG)) 0 ([]:pF))).isSome=true
    .rw[aSB hva3] at d;obtain⟨aC,hv6,hw6,d⟩:=rG d
     try simp only[go_sem] at hw6
     refine qV aSs ?_ (hp:=by exact⟨pO,pO,pO,pO,pO,pO,pO,pO,pO,pO,(rE hv6)⟩) (h:=by simp only[go_sem,hw6];rfl)
     refine q8 (pU vN ?_);refine qD d ?_ ?_<;>intro d Y
     .refine qC (qV vN ?_);cases d
     refine qM (q8 (qV vN ?_));refine rK ?_;cases d;exact sM ⟨⟨[0,5,6],[(0,0),(1,972),(2,973),(3,974),(4,3),(5,4),(6,5)]⟩,_,pR,e⟩
    rw[aSD hva3] at d;obtain⟨aD,hv7,hw7,d⟩:=rG d
    try simp only[go_sem] at hw7
    refine qV aSu ?_ (hp:=by exact⟨pO,pO,pO,pO,pO,pO,pO,pO,pO,pO,pO,(rE hv7)⟩) (h:=by simp only[go_sem,hw7];rfl)
    refine q8 (pU vN ?_);refine qD d ?_ ?_<;>intro d Y
    .refine qC (qV vN ?_);cases d
    refine qM (q8 (qV vN ?_));refine rK ?_;cases d;exact sM ⟨⟨[0,5,6],[(0,0),(1,1),(2,2),(3,3),(4,4),(5,5)]⟩,_,pR,e⟩
   refine qM (q8 (qV vN ?_));refine rK ?_;cases d;exact sM ⟨⟨[0,5,6],[(0,0),(1,1),(2,2),(3,3),(4,4),(5,5)]⟩,_,pR,e⟩
  refine t8 (t6 (tA (t7 (q8 (qC ?_)))));refine pU vN ?_;refine qD d ?_ ?_<;>intro d Y
  .refine qC (qV vN ?_);cases d
  refine qM (q8 (qC (qV vN ?_)));cases d
 obtain⟨aE,aF,aG,aH,aI,aJ,aK,aL,aM,aN,aO,aP,aQ,aR,aS,aT,aU,aV,aW⟩:=x1;unfold A9 at d;dsimp only at d|-;refine qC (pU vN ?_);refine qD d ?_ ?_<;>intro d Y
 .refine qM (q8 (rN ?_));obtain⟨U,d⟩:=pZ d;obtain⟨aX,hv9,hw9,d⟩:=rG d
  try simp only[go_sem] at hw9
  refine pU vN ?_ (hp:=by exact⟨U,(rE hv9)⟩) (h:=by simp only[go_sem,hw9];rfl);obtain⟨T,S,d⟩:=oZ d;refine pU vN ?_ (hp:=by exact⟨T,S⟩);refine qC ?_;obtain⟨aY,hv12,hw12,d⟩:=rG d
  try simp only[go_sem] at hw12
  refine pU vN ?_ (hp:=by exact(rE hv12)) (h:=by simp only[go_sem,hw12];rfl);refine qD d ?_ ?_<;>intro d Y
  .obtain⟨aZ,hv13,hw13,d⟩:=rG d
   try simp only[go_sem] at hw13
   refine pU vN ?_ (hp:=by exact⟨pO,pO,pO,pO,pO,pO,(rE hv13)⟩) (h:=by simp only[go_sem,hw13];rfl)
   refine pU vN ?_;refine qD d ?_ ?_<;>intro d Y
   .refine qC (qV vN ?_);cases d
   refine qM (q8 (qV vN ?_));refine rK ?_;cases d;exact sM ⟨⟨[0,5,6],[(0,0),(1,974),(2,975),(3,976),(4,4),(5,5),(6,6)]⟩,_,pR,e⟩
  refine qM (q8 (qV vN ?_));refine rK ?_;cases d;exact sM ⟨⟨[0,5,6],[(0,0),(1,1),(2,2),(3,3),(4,4),(5,5),(6,6)]⟩,_,pR,e⟩
 refine t8 (t6 (tA (t7 (q8 (qC ?_)))));refine pU vN ?_;refine qD d ?_ ?_<;>intro d Y
 .refine qC (qV vN ?_);cases d
 refine qM (q8 (pU vN ?_));refine qB ?_;cases d;have f:=aS4 some (show _=_ from e);cases f;exact pA [(0,0),(1,1),(2,2),(3,3),(4,4),(5,5),(6,6)]
attribute [irreducible] BO
end
noncomputable section
def AA (O:p7):(Int⊕(Int×p7×p8×(List qG)×(List sA)×Int×p7×p7×p7×p8×Int×Nat×pH×(Option p8)×Nat×(Option (List qG))×Nat×pF×pF))→Option ((Int⊕(Int×p7×p8×(List qG)×(List sA)×Int×p7×p7×p7×p8×Int×Nat×pH×(Option p8)×Nat×(Option (List qG))×Nat×pF×pF))⊕(Int×Int)):=fun x=>match x with
 | .inl Z=>
  if (decide (Z<(O.length:Int)))=true then
   if 0≤Z∧Z≤(O.length:Int)∧(O.length:Int)≤(O.length:Int) then
    (DY (qR O Z (O.length:Int)) ([10]:p7)).bind fun aA=>
    if pX (Z+(aA.1.length:Int)) then
     if pX ((Z+(aA.1.length:Int))+(1:Int)) then
      (GH aA.1).bind fun aB=>
      if (!((decide ((Lib.trimLeftS aA.1 ([32,9]:p7))=([]:p7)))||(decide ((rI (Lib.trimLeftS aA.1 ([32,9]:p7)) (0:Int))=(35:Int)))))=true then
       if ((B3 (([]:p7),(([]:p8),(([]:List qG),(([]:List sA),())))) (0:Int) ([]:p7) ([]:p7) ([]:p7) ([]:p8) (0:Int) (([]:pH),()) aA.1 (min (O.length:Int) ((Z+(aA.1.length:Int))+(1:Int))) (some ([]:p8)) 0 (some ([]:List qG)) 0 ([]:pF))).isSome=true then
        (B3 (([]:p7),(([]:p8),(([]:List qG),(([]:List sA),())))) (0:Int) ([]:p7) ([]:p7) ([]:p7) ([]:p8) (0:Int) (([]:pH),()) aA.1 (min (O.length:Int) ((Z+(aA.1.length:Int))+(1:Int))) (some ([]:p8)) 0 (some ([]:List qG)) 0 ([]:pF)).bind fun aC=>
        if (!decide ((0:Int)=(0:Int)))=true then
         some (.inr ((Z,(0:Int))))
        else
         some (.inl (.inr ((min (O.length:Int) ((Z+(aA.1.length:Int))+(1:Int))),aC.1,([]:p8),([]:List qG),([]:List sA),aC.2.1,aC.2.2.1,([]:p7),([]:p7),([]:p8),(0:Int),0,([]:pH),(some ([]:p8)),0,(some ([]:List qG)),0,([]:pF),aC.2.2.2)))
       else
        (FD (([]:p7),(([]:p8),(([]:List qG),(([]:List sA),())))) (0:Int) ([]:p7) ([]:p7) ([]:p7) ([]:p8) (0:Int) (([]:pH),()) aA.1 (min (O.length:Int) ((Z+(aA.1.length:Int))+(1:Int))) (some ([]:p8)) 0 (some ([]:List qG)) 0 ([]:pF)).bind fun aD=>
        if (!decide (aD=(0:Int)))=true then
         some (.inr ((Z,aD)))
        else
         some (.inl (.inl (min (O.length:Int) ((Z+(aA.1.length:Int))+(1:Int)))))
      else
       some (.inl (.inl (min (O.length:Int) ((Z+(aA.1.length:Int))+(1:Int)))))
     else none
    else none
   else none
  else
   if (!decide ((0:Int)=(2:Int)))=true then
    some (.inr (((O.length:Int),(3:Int))))
   else
    none
 | .inr (aE,aF,aG,aH,aI,aJ,aK,aL,aM,aN,aO,aP,aQ,aR,aS,aT,aU,aV,aW)=>
  if (decide (aE<(O.length:Int)))=true then
   if 0≤aE∧aE≤(O.length:Int)∧(O.length:Int)≤(O.length:Int) then
    (DY (qR O aE (O.length:Int)) ([10]:p7)).bind fun aX=>
    if pX (aE+(aX.1.length:Int)) then
     if pX ((aE+(aX.1.length:Int))+(1:Int)) then
      (GH aX.1).bind fun aY=>
      if (!((decide ((Lib.trimLeftS aX.1 ([32,9]:p7))=([]:p7)))||(decide ((rI (Lib.trimLeftS aX.1 ([32,9]:p7)) (0:Int))=(35:Int)))))=true then
       (H4 (aF,(aG,(aH,(aI,())))) aJ aK aL aM aN aO aP (aQ,()) aX.1 (min (O.length:Int) ((aE+(aX.1.length:Int))+(1:Int))) aR aS aT aU aV aW).bind fun aZ=>
       if (!decide (aZ.1=(0:Int)))=true then
        some (.inr ((aE,aZ.1)))
       else
        some (.inl (.inr ((min (O.length:Int) ((aE+(aX.1.length:Int))+(1:Int))),aZ.2.1,aZ.2.2.1,aZ.2.2.2.1,aZ.2.2.2.2.1,aZ.2.2.2.2.2.1,aZ.2.2.2.2.2.2.1,aZ.2.2.2.2.2.2.2.1,aZ.2.2.2.2.2.2.2.2.1,aZ.2.2.2.2.2.2.2.2.2.1,aZ.2.2.2.2.2.2.2.2.2.2.1,aZ.2.2.2.2.2.2.2.2.2.2.2.1,aZ.2.2.2.2.2.2.2.2.2.2.2.2.1,aZ.2.2.2.2.2.2.2.2.2.2.2.2.2.2.1,aZ.2.2.2.2.2.2.2.2.2.2.2.2.2.2.2.1,aZ.2.2.2.2.2.2.2.2.2.2.2.2.2.2.2.2.1,aZ.2.2.2.2.2.2.2.2.2.2.2.2.2.2.2.2.2.1,aZ.2.2.2.2.2.2.2.2.2.2.2.2.2.2.2.2.2.2,aZ.2.2.2.2.2.2.2.2.2.2.2.2.2.1)))
      else
       some (.inl (.inr ((min (O.length:Int) ((aE+(aX.1.length:Int))+(1:Int))),aF,aG,aH,aI,aJ,aK,aL,aM,aN,aO,aP,aQ,aR,aS,aT,aU,aV,aW)))
     else none
    else none
   else none
  else
   if (!decide (aJ=(2:Int)))=true then
    some (.inr (((O.length:Int),(3:Int))))
   else
    none
def H5 (O:p7):Option (Int×Int):=rF (AA O) (.inl (0:Int))
section
variable (O:p7)
abbrev a8m:List pW:=[(.val .str O,none)]
abbrev a8n:List pV:=[]
@[go_sem] def a8o:qH:=⟨[((H5 O)).isSome=true],[(.val .ref none,none),(.val (.int .i64) ((val (H5 O)).1),none),(.val (.int .i64) ((val (H5 O)).2),none)],[]⟩
def aGO:List pW→List pV→Option qH:=rQ (V:=p7) (a8m) (fun x=>a8n) fun x=>a8o x
@[go_sem] def aSh:aGO (no_index (a8m O)) (no_index a8n)=some (a8o O):=rR (fun a0 b0 h1 h2=>by cases h1;cases h2;rfl) O
end
@[go_sem] abbrev a8p:Nat×r5:=(29,⟨[.v],aGO,[],[],none⟩)
def a8q:qW prog [] (qY [CJ,CE,RV]):=⟨trivial,qJ O8 (qJ NU (qJ aGH rL)),qZ⟩
def vO:qW prog [uU,uV,s8,D2,uW] (qY [CJ,CE,RV]):=⟨⟨vH,⟨vI,⟨s9,⟨F4,⟨vJ,trivial⟩⟩⟩⟩⟩,a8q.Γ,qZ⟩
def aSv:qW prog [] (qY [CJ,CE,RW]):=⟨trivial,qJ O8 (qJ NU (qJ aGJ rL)),qZ⟩
def aSw:qW prog [uU,uV,s8,D2,uW] (qY [CJ,CE,RW]):=⟨⟨vH,⟨vI,⟨s9,⟨F4,⟨vJ,trivial⟩⟩⟩⟩⟩,aSv.Γ,qZ⟩
def aSx:qW prog [] (qY [CJ,CE,RX]):=⟨trivial,qJ O8 (qJ NU (qJ aGL rL)),qZ⟩
def aSy:qW prog [uU,uV,s8,D2,uW] (qY [CJ,CE,RX]):=⟨⟨vH,⟨vI,⟨s9,⟨F4,⟨vJ,trivial⟩⟩⟩⟩⟩,aSx.Γ,qZ⟩
def aGP:rC prog a8p:=by
 refine rS a8q func29 (c:=_) rfl (N:=55) pP (ts:=[(2,none),(3,none),(4,none)]) rfl (fun _ _=>rfl) ?_;intro O hs hrow;dsimp only[a8m,a8n,a8o,rM,qP,qU,r6,rP,Nat.reduceAdd] at hs hrow|-;have hz:=hs;obtain⟨z0,e⟩:=aSF.1 hz
 try rw[rU e]
 clear hz hs;unfold H5 at e;refine pU a8q ?_;refine pU vO ?_;refine qC (pU vO ?_);refine rN (yX 160 (160,(166,0),(167,0)) (x2:=((([]:p7),(([]:p8),(([]:List qG),(([]:List sA),())))),((0:Int),((([]:p7),(([]:p7),(([]:p7),((some (166,0)),(([]:p8),((0:Int),((some (167,0)),()))))))),(none,((some 96),((0,160,(166,0),(167,0)),(([]:pH),())))))))) rfl pR ?_)
 have hy1:=e;refine tC hy1 (fun x=>match x with| .inl x=>⟨[(0,.val .str O,none),(5,.val .ref (some (0,0)),none),(6,.val (.int .i64) x,none)],[(0,.cells sE ((([]:p7),(([]:p8),(([]:List qG),(([]:List sA),())))),((0:Int),((([]:p7),(([]:p7),(([]:p7),((some (1,0)),(([]:p8),((0:Int),((some (2,0)),()))))))),(none,((some 3),((0,0,(1,0),(2,0)),(([]:pH),()))))))) [(3,4),(15,5)]),(1,.row 9 .str ([]:p8) 0),(2,.row 110 rV ([]:List qG) 0),(3,.map .str .bool ([]:pF)),(4,.grow 45 7 (([]:List sA).length)),(5,.grow 3 1 (([]:pH).length))],6,55,0⟩ | .inr x=>⟨[(0,.val .str O,none),(5,.val .ref (some (0,0)),none),(6,.val (.int .i64) x.1,none)],[(0,.cells sE ((x.2.1,(x.2.2.1,(x.2.2.2.1,(x.2.2.2.2.1,())))),(x.2.2.2.2.2.1,((x.2.2.2.2.2.2.1,(x.2.2.2.2.2.2.2.1,(x.2.2.2.2.2.2.2.2.1,((some (1,x.2.2.2.2.2.2.2.2.2.2.2.2.2.2.1)),(x.2.2.2.2.2.2.2.2.2.1,(x.2.2.2.2.2.2.2.2.2.2.1,((some (2,x.2.2.2.2.2.2.2.2.2.2.2.2.2.2.2.2.1)),()))))))),((some 3),((some 4),((x.2.2.2.2.2.2.2.2.2.2.2.1,0,(1,x.2.2.2.2.2.2.2.2.2.2.2.2.2.2.1),(2,x.2.2.2.2.2.2.2.2.2.2.2.2.2.2.2.2.1)),(x.2.2.2.2.2.2.2.2.2.2.2.2.1,()))))))) [(3,5),(15,6)]),(1,rW 9 .str x.2.2.2.2.2.2.2.2.2.2.2.2.2.1 x.2.2.2.2.2.2.2.2.2.2.2.2.2.2.1),(2,rW 110 rV x.2.2.2.2.2.2.2.2.2.2.2.2.2.2.2.1 x.2.2.2.2.2.2.2.2.2.2.2.2.2.2.2.2.1),(3,.map .str .bool x.2.2.2.2.2.2.2.2.2.2.2.2.2.2.2.2.2.1),(4,.map .str .bool x.2.2.2.2.2.2.2.2.2.2.2.2.2.2.2.2.2.2),(5,.grow 45 7 (x.2.2.2.2.1.length)),(6,.grow 3 1 (x.2.2.2.2.2.2.2.2.2.2.2.2.1.length))],7,55,0⟩) ⟨[0,5,6],[(0,160),(1,166),(2,167),(3,96),(4,163),(5,165)]⟩ pR ?_
 intro x1 w1 n1 d f;rcases x1 with x1|x1
 .obtain⟨Z,hvx⟩: ∃v,v=x1:=⟨_,rfl⟩;subst hvx;unfold AA at d;dsimp only at d|-;refine qC (pU vO ?_);refine qD d ?_ ?_<;>intro d Y
  .refine qM (q8 (rN ?_));obtain⟨X,d⟩:=pZ d;obtain⟨aA,hv2,hw2,d⟩:=rG d
   try simp only[go_sem] at hw2
   refine pU vO ?_ (hp:=by exact⟨X,(rE hv2)⟩) (h:=by simp only[go_sem,hw2];rfl);obtain⟨W,V,d⟩:=oZ d;refine pU vO ?_ (hp:=by exact⟨W,V⟩);refine qC ?_;obtain⟨aB,hv5,hw5,d⟩:=rG d
   try simp only[go_sem] at hw5
   refine pU vO ?_ (hp:=by exact(rE hv5)) (h:=by simp only[go_sem,hw5];rfl);refine qD d ?_ ?_<;>intro d Y
   .refine qC ?_;by_cases hva3:((B3 (([]:p7),(([]:p8),(([]:List qG),(([]:List sA),())))) (0:Int) ([]:p7) ([]:p7) ([]:p7) ([]:p8) (0:Int) (([]:pH),()) aA.1 (min (O.length:Int) ((Z+(aA.1.length:Int))+(1:Int))) (some ([]:p8)) 0 (some ([]:List qG)) 0 ([]:pF))).isSome=true
    .rw[aSB hva3] at d;obtain⟨aC,hv6,hw6,d⟩:=rG d
     try simp only[go_sem] at hw6
     refine qV aSw ?_ (hp:=by exact⟨pO,pO,pO,pO,pO,pO,pO,pO,pO,pO,(rE hv6)⟩) (h:=by simp only[go_sem,hw6];rfl)
     refine q8 (pU vO ?_);refine qD d ?_ ?_<;>intro d Y
     .refine pU vO ?_;refine qB (qO (r9 (uB (r9 (qO ?_)))));cases d;have e:=aS4 some (show _=_ from f);cases e;exact pA []
     refine qM (q8 (qV vO ?_));refine rK ?_;cases d;exact sM ⟨⟨[0,5,6],[(0,0),(1,972),(2,973),(3,974),(4,3),(5,4),(6,5)]⟩,_,pR,f⟩
    rw[aSD hva3] at d;obtain⟨aD,hv7,hw7,d⟩:=rG d
    try simp only[go_sem] at hw7
    refine qV aSy ?_ (hp:=by exact⟨pO,pO,pO,pO,pO,pO,pO,pO,pO,pO,pO,(rE hv7)⟩) (h:=by simp only[go_sem,hw7];rfl)
    refine q8 (pU vO ?_);refine qD d ?_ ?_<;>intro d Y
    .refine pU vO ?_;refine qB (qO (r9 (uB (r9 (qO ?_)))));cases d;have e:=aS4 some (show _=_ from f);cases e;exact pA []
    refine qM (q8 (qV vO ?_));refine rK ?_;cases d;exact sM ⟨⟨[0,5,6],[(0,0),(1,1),(2,2),(3,3),(4,4),(5,5)]⟩,_,pR,f⟩
   refine qM (q8 (qV vO ?_));refine rK ?_;cases d;exact sM ⟨⟨[0,5,6],[(0,0),(1,1),(2,2),(3,3),(4,4),(5,5)]⟩,_,pR,f⟩
  refine t8 (t6 (tA (t7 (q8 (qC ?_)))));refine pU vO ?_;refine qD d ?_ ?_<;>intro d Y
  .refine pU vO ?_;refine qB (qO ?_);cases d;have e:=aS4 some (show _=_ from f);cases e;exact pA []
  refine qM (q8 (qC (qV vO ?_)));cases d
 obtain⟨aE,aF,aG,aH,aI,aJ,aK,aL,aM,aN,aO,aP,aQ,aR,aS,aT,aU,aV,aW⟩:=x1;unfold AA at d;dsimp only at d|-;refine qC (pU vO ?_);refine qD d ?_ ?_<;>intro d Y
 .refine qM (q8 (rN ?_));obtain⟨U,d⟩:=pZ d;obtain⟨aX,hv9,hw9,d⟩:=rG d
  try simp only[go_sem] at hw9
  refine pU vO ?_ (hp:=by exact⟨U,(rE hv9)⟩) (h:=by simp only[go_sem,hw9];rfl);obtain⟨T,S,d⟩:=oZ d;refine pU vO ?_ (hp:=by exact⟨T,S⟩);refine qC ?_;obtain⟨aY,hv12,hw12,d⟩:=rG d
  try simp only[go_sem] at hw12
  refine pU vO ?_ (hp:=by exact(rE hv12)) (h:=by simp only[go_sem,hw12];rfl);refine qD d ?_ ?_<;>intro d Y
  .obtain⟨aZ,hv13,hw13,d⟩:=rG d
   try simp only[go_sem] at hw13
   refine pU vO ?_ (hp:=by exact⟨pO,pO,pO,pO,pO,pO,(rE hv13)⟩) (h:=by simp only[go_sem,hw13];rfl)
   refine pU vO ?_;refine qD d ?_ ?_<;>intro d Y
   .refine pU vO ?_;refine qB (qO (r9 (uB (r9 (qO ?_)))));cases d;have e:=aS4 some (show _=_ from f);cases e;exact pA []
   refine qM (q8 (qV vO ?_));refine rK ?_;cases d;exact sM ⟨⟨[0,5,6],[(0,0),(1,974),(2,975),(3,976),(4,4),(5,5),(6,6)]⟩,_,pR,f⟩
  refine qM (q8 (qV vO ?_));refine rK ?_;cases d;exact sM ⟨⟨[0,5,6],[(0,0),(1,1),(2,2),(3,3),(4,4),(5,5),(6,6)]⟩,_,pR,f⟩
 refine t8 (t6 (tA (t7 (q8 (qC ?_)))));refine pU vO ?_;refine qD d ?_ ?_<;>intro d Y
 .refine pU vO ?_;refine qB (qO ?_);cases d;have e:=aS4 some (show _=_ from f);cases e;exact pA []
 refine qM (q8 (qC (qV vO ?_)));cases d
def RZ (O:p7):Option (p7×p8×(List qG)×(List sA)×Int×Int):=if ((BO O)).isSome=true then (BO O).bind fun Z=>if (!decide ((0:Int)=(0:Int)))=true then some ((([]:p7),([]:p8),([]:List qG),([]:List sA),(0:Int),(0:Int))) else some ((Z.1,Z.2.1,Z.2.2.1,Z.2.2.2.1,(0:Int),(0:Int))) else (H5 O).bind fun aA=>if (!decide (aA.2=(0:Int)))=true then some ((([]:p7),([]:p8),([]:List qG),([]:List sA),aA.1,aA.2)) else none
section
variable (O:p7)
abbrev a8r:List pW:=[(.val .str O,none)]
abbrev a8s:List pV:=[]
@[go_sem] def a8t:qH:=let q:=val (RZ O);⟨[((RZ O)).isSome=true],[(.val DM (q.1,(q.2.1,(q.2.2.1,(q.2.2.2.1,())))),none),(.val (.int .i64) (q.2.2.2.2.1),none),(.val (.int .i64) (q.2.2.2.2.2),none)],[]⟩
def aGQ:List pW→List pV→Option qH:=rQ (V:=p7) (a8r) (fun x=>a8s) fun x=>a8t x
@[go_sem] def aSi:aGQ (no_index (a8r O)) (no_index a8s)=some (a8t O):=rR (fun a0 b0 h1 h2=>by cases h1;cases h2;rfl) O
end
@[go_sem] abbrev aGR:Nat×r5:=(11,⟨[.v],aGQ,[],[],none⟩)
def OP:qW prog [AQ] (qY [RY]):=⟨⟨CB,trivial⟩,qJ aGN rL,qZ⟩
def a8u:qW prog [AQ,uW] (qY [RY]):=⟨⟨CB,⟨vJ,trivial⟩⟩,OP.Γ,qZ⟩
def aNC:qW prog [AQ] (qY [a8p]):=⟨⟨CB,trivial⟩,qJ aGP rL,qZ⟩
def aND:rC prog aGR:=by
 refine rS OP func11 (c:=_) rfl (N:=23) pP (ts:=[(2,some 27),(3,none),(4,none)]) rfl (fun _ _=>rfl) ?_;intro O hs hrow;dsimp only[a8r,a8s,a8t,rM,qP,qU,r6,rP,Nat.reduceAdd] at hs hrow|-;have hz:=hs;obtain⟨z0,e⟩:=aSF.1 hz
 try rw[rU e]
 clear hz hs;unfold RZ at e;refine pU OP ?_;refine qC ?_;by_cases hva1:((BO O)).isSome=true
 .rw[aSB hva1] at e;obtain⟨Z,hv1,hw1,e⟩:=rG e
  try simp only[go_sem] at hw1
  refine qV OP ?_ (hp:=by exact(rE hv1)) (h:=by simp only[go_sem,hw1];rfl);refine q8 (qC (pU a8u ?_));refine qD e ?_ ?_<;>intro e Y
  .refine pU a8u ?_;refine qB (qO ?_);cases e;exact p9 []
  refine qM (q8 (pU a8u ?_));refine qB ?_;cases e;exact p9 []
 rw[aSD hva1] at e;obtain⟨aA,hv2,hw2,e⟩:=rG e
 try simp only[go_sem] at hw2
 refine qV aNC ?_ (hp:=by exact(rE hv2)) (h:=by simp only[go_sem,hw2];rfl);refine q8 (qC (pU OP ?_));refine qD e ?_ ?_<;>intro e Y
 .refine pU OP ?_;refine qB (qO ?_);cases e;exact p9 []
 cases e
attribute [irreducible] H5 RZ
end
noncomputable section
def OQ (O:p7) (Z:(p7×p8×(List qG)×(List sA)×Int×p7×p7×p7×p8×Int×Nat×pH×(Option p8)×Nat×(Option (List qG))×Nat×pF×pF)):(Int×p8)→Option ((Int×p8)⊕p8):=fun(aA,aB)=>if (decide (aA<(Z.2.2.2.2.2.2.2.2.2.2.2.1.length:Int)))=true then if pX (aA- (1:Int)) then if 0≤(aA- (1:Int))∧(aA- (1:Int))<(Z.2.2.2.2.2.2.2.2.2.2.2.1.length:Int) then if 0≤aA∧aA<(Z.2.2.2.2.2.2.2.2.2.2.2.1.length:Int) then if 0≤(qE (.int .i64) Z.2.2.2.2.2.2.2.2.2.2.2.1 (aA- (1:Int)))∧(qE (.int .i64) Z.2.2.2.2.2.2.2.2.2.2.2.1 (aA- (1:Int)))≤(qE (.int .i64) Z.2.2.2.2.2.2.2.2.2.2.2.1 aA)∧(qE (.int .i64) Z.2.2.2.2.2.2.2.2.2.2.2.1 aA)≤(O.length:Int) then if (aB.length+([(qR O (qE (.int .i64) Z.2.2.2.2.2.2.2.2.2.2.2.1 (aA- (1:Int))) (qE (.int .i64) Z.2.2.2.2.2.2.2.2.2.2.2.1 aA))]:p8).length)*16≤140737488355328 then if pX (aA+(1:Int)) then some (.inl ((aA+(1:Int)),(aB++([(qR O (qE (.int .i64) Z.2.2.2.2.2.2.2.2.2.2.2.1 (aA- (1:Int))) (qE (.int .i64) Z.2.2.2.2.2.2.2.2.2.2.2.1 aA))]:p8)))) else none else none else none else none else none else none else some (.inr aB)
def H6 (O:p7):Option (p7×p8×p7×Int):=if ((BO O)).isSome=true then (BO O).bind fun Z=>if (!decide ((0:Int)=(0:Int)))=true then some ((([]:p7),([]:p8),([]:p7),(0:Int))) else if 0≤(0:Int)∧(0:Int)<(Z.2.2.2.2.2.2.2.2.2.2.2.1.length:Int) then if 0≤(0:Int)∧(0:Int)≤(qE (.int .i64) Z.2.2.2.2.2.2.2.2.2.2.2.1 (0:Int))∧(qE (.int .i64) Z.2.2.2.2.2.2.2.2.2.2.2.1 (0:Int))≤(O.length:Int) then if pX ((Z.2.2.2.2.2.2.2.2.2.2.2.1.length:Int)- (1:Int)) then if 0≤((Z.2.2.2.2.2.2.2.2.2.2.2.1.length:Int)- (1:Int))∧((Z.2.2.2.2.2.2.2.2.2.2.2.1.length:Int)- (1:Int))<(Z.2.2.2.2.2.2.2.2.2.2.2.1.length:Int) then if 0≤(qE (.int .i64) Z.2.2.2.2.2.2.2.2.2.2.2.1 ((Z.2.2.2.2.2.2.2.2.2.2.2.1.length:Int)- (1:Int)))∧(qE (.int .i64) Z.2.2.2.2.2.2.2.2.2.2.2.1 ((Z.2.2.2.2.2.2.2.2.2.2.2.1.length:Int)- (1:Int)))≤(O.length:Int)∧(O.length:Int)≤(O.length:Int) then sN (rF (OQ O Z) ((1:Int),([]:p8))) fun aA=>some (((qR O (0:Int) (qE (.int .i64) Z.2.2.2.2.2.2.2.2.2.2.2.1 (0:Int))),aA,(qR O (qE (.int .i64) Z.2.2.2.2.2.2.2.2.2.2.2.1 ((Z.2.2.2.2.2.2.2.2.2.2.2.1.length:Int)- (1:Int))) (O.length:Int)),(0:Int))) else none else none else none else none else none else (H5 O).bind fun aB=>if (!decide (aB.2=(0:Int)))=true then some ((([]:p7),([]:p8),([]:p7),aB.2)) else none
section
variable (O:p7)
abbrev a8v:List pW:=[(.val .str O,none)]
abbrev a8w:List pV:=[]
@[go_sem] def a8x:qH:=let q:=val (H6 O);⟨[((H6 O)).isSome=true],[(.val y9 (q.1,(q.2.1,(q.2.2.1,()))),none),(.val (.int .i64) (q.2.2.2),none)],[]⟩
def aGS:List pW→List pV→Option qH:=rQ (V:=p7) (a8v) (fun x=>a8w) fun x=>a8x x
@[go_sem] def aSj:aGS (no_index (a8v O)) (no_index a8w)=some (a8x O):=rR (fun a0 b0 h1 h2=>by cases h1;cases h2;rfl) O
end
@[go_sem] abbrev aGT:Nat×r5:=(14,⟨[.v],aGS,[],[],none⟩)
def MB:qW prog [L3] (qY [RY]):=⟨⟨QX,trivial⟩,qJ aGN rL,qZ⟩
def MC:qW prog [uU,s8,yK,L3,CC,uW] (qY [RY]):=⟨⟨vH,⟨s9,⟨zP,⟨QX,⟨DO,⟨vJ,trivial⟩⟩⟩⟩⟩⟩,MB.Γ,qZ⟩
def aNE:qW prog [L3] (qY [a8p]):=⟨⟨QX,trivial⟩,qJ aGP rL,qZ⟩
def aNF:rC prog aGT:=by
 refine rS MB func14 (c:=_) rfl (N:=74) pP (ts:=[(2,some 34),(3,none)]) rfl (fun _ _=>rfl) ?_;intro O hs hrow;dsimp only[a8v,a8w,a8x,rM,qP,qU,r6,rP,Nat.reduceAdd] at hs hrow|-;have hz:=hs;obtain⟨z0,d⟩:=aSF.1 hz
 try rw[rU d]
 clear hz hs;unfold H6 at d;refine pU MB ?_;refine qC ?_;by_cases hva1:((BO O)).isSome=true
 .rw[aSB hva1] at d;obtain⟨Z,hv1,hw1,d⟩:=rG d
  try simp only[go_sem] at hw1
  refine qV MB ?_ (hp:=by exact(rE hv1)) (h:=by simp only[go_sem,hw1];rfl);refine q8 (qC (pU MC ?_));refine qD d ?_ ?_<;>intro d Y
  .refine pU MC ?_;refine qB (qO ?_);cases d;exact pA []
  refine qM (q8 ?_);obtain⟨X,W,d⟩:=oZ d;obtain⟨V,U,d⟩:=oZ d;obtain⟨T,d⟩:=pZ d;refine vF MC ?_ (hp:=by exact⟨X,W,V,U,T⟩);refine qC (pU MC ?_);refine rN ?_;obtain⟨aA,hy1,d⟩:=qQ d;refine tK 0 (fun s=>s=(fun x=>⟨[(2,.val .ref (some (0,0)),none),(7,.val .ref (some (1,0)),none)],[(0,.cells y9 (([]:p7),(([]:p8),(([]:p7),()))) [(1,2)]),(1,.cells y9 ((qR O (0:Int) (qE (.int .i64) Z.2.2.2.2.2.2.2.2.2.2.2.1 (0:Int))),(x,((qR O (qE (.int .i64) Z.2.2.2.2.2.2.2.2.2.2.2.1 ((Z.2.2.2.2.2.2.2.2.2.2.2.1.length:Int)- (1:Int))) (O.length:Int)),()))) [(1,3)]),(2,.grow 9 1 (([]:p8).length)),(3,.grow 9 1 (x.length))],4,74,0⟩) aA) ?_ ?_
  .refine tC hy1 (fun x=>⟨[(0,.val .str O,none),(2,.val .ref (some (0,0)),none),(4,.val .ref (some (1,0)),none),(7,.val .ref (some (2,0)),none),(8,.val (.int .i64) x.1,none)],[(0,.cells y9 (([]:p7),(([]:p8),(([]:p7),()))) [(1,3)]),(1,.cells sE ((Z.1,(Z.2.1,(Z.2.2.1,(Z.2.2.2.1,())))),(Z.2.2.2.2.1,((Z.2.2.2.2.2.1,(Z.2.2.2.2.2.2.1,(Z.2.2.2.2.2.2.2.1,((some (4,Z.2.2.2.2.2.2.2.2.2.2.2.2.2.1)),(Z.2.2.2.2.2.2.2.2.1,(Z.2.2.2.2.2.2.2.2.2.1,((some (5,Z.2.2.2.2.2.2.2.2.2.2.2.2.2.2.2.1)),()))))))),((some 6),((some 7),((Z.2.2.2.2.2.2.2.2.2.2.1,1,(4,Z.2.2.2.2.2.2.2.2.2.2.2.2.2.1),(5,Z.2.2.2.2.2.2.2.2.2.2.2.2.2.2.2.1)),(Z.2.2.2.2.2.2.2.2.2.2.2.1,()))))))) [(3,8),(15,9)]),(2,.cells y9 ((qR O (0:Int) (qE (.int .i64) Z.2.2.2.2.2.2.2.2.2.2.2.1 (0:Int))),(x.2,((qR O (qE (.int .i64) Z.2.2.2.2.2.2.2.2.2.2.2.1 ((Z.2.2.2.2.2.2.2.2.2.2.2.1.length:Int)- (1:Int))) (O.length:Int)),()))) [(1,10)]),(3,.grow 9 1 (([]:p8).length)),(4,rW 9 .str Z.2.2.2.2.2.2.2.2.2.2.2.2.1 Z.2.2.2.2.2.2.2.2.2.2.2.2.2.1),(5,rW 110 rV Z.2.2.2.2.2.2.2.2.2.2.2.2.2.2.1 Z.2.2.2.2.2.2.2.2.2.2.2.2.2.2.2.1),(6,.map .str .bool Z.2.2.2.2.2.2.2.2.2.2.2.2.2.2.2.2.1),(7,.map .str .bool Z.2.2.2.2.2.2.2.2.2.2.2.2.2.2.2.2.2),(8,.grow 45 7 (Z.2.2.2.1.length)),(9,.grow 3 1 (Z.2.2.2.2.2.2.2.2.2.2.2.1.length)),(10,.grow 9 1 (x.2.length))],11,74,0⟩) ⟨[0,2,4,7,8],[(0,0),(1,96),(2,1152),(3,1),(4,97),(5,98),(6,99),(7,100),(8,101),(9,102),(10,1184)]⟩ pR ?_
   intro x1 w1 n1 f g;obtain⟨aB,aC⟩:=x1;unfold OQ at f;dsimp only at f|-;refine qC (pU MC ?_);refine qD f ?_ ?_<;>intro f Y
   .refine qM (q8 (qC (rN ?_)));obtain⟨S,R,f⟩:=oZ f;obtain⟨Q,P,f⟩:=oZ f;obtain⟨M,f⟩:=pZ f;refine EY MC ?_ (hp:=by exact⟨S,R,Q,P,pO,M⟩)
    refine rK (q8 ?_);obtain⟨L,f⟩:=pZ f;refine qV MC ?_ (hp:=by exact L);cases f;exact sM ⟨⟨[0,2,4,7,8],[(0,0),(1,1),(2,2),(3,3),(4,4),(5,5),(6,6),(7,7),(8,8),(9,9),(10,10)]⟩,_,pR,g⟩
   refine t8 (t6 (tA ?_));cases f;cases g;exact tM ⟨⟨[2,7],[(0,0),(1,2),(2,3),(3,10)]⟩,pR⟩
  rintro _ rfl;dsimp only at d|-;refine t7 (q8 ?_);refine pU MB ?_;refine qB ?_;cases d;exact pA []
 rw[aSD hva1] at d;obtain⟨aD,hv13,hw13,d⟩:=rG d
 try simp only[go_sem] at hw13
 refine qV aNE ?_ (hp:=by exact(rE hv13)) (h:=by simp only[go_sem,hw13];rfl);refine q8 (qC (pU MB ?_));refine qD d ?_ ?_<;>intro d Y
 .refine pU MB ?_;refine qB (qO ?_);cases d;exact pA []
 cases d
def OR:Option Bool:=(RZ ([99,97,116,97,108,111,103,32,34,100,101,34,10,99,111,109,109,101,110,116,32,34,97,98,34,10,34,99,100,34,10,101,110,100,10,10,101,110,116,114,121,32,34,97,34,10,101,110,100]:p7)).bind fun O=>if (((((decide (O.2.2.2.2.2=(0:Int)))&&(decide (O.1=([100,101]:p7))))&&(decide ((O.2.1.length:Int)=(1:Int))))==true)=true→0≤(0:Int)∧(0:Int)<(O.2.1.length:Int)) then if (((((((decide (O.2.2.2.2.2=(0:Int)))&&(decide (O.1=([100,101]:p7))))&&(decide ((O.2.1.length:Int)=(1:Int))))&&(decide ((qE .str O.2.1 (0:Int))=([97,98,99,100]:p7))))&&(decide ((O.2.2.2.1.length:Int)=(1:Int))))==true)=true→0≤(0:Int)∧(0:Int)<(O.2.2.2.1.length:Int)) then some (((((((decide (O.2.2.2.2.2=(0:Int)))&&(decide (O.1=([100,101]:p7))))&&(decide ((O.2.1.length:Int)=(1:Int))))&&(decide ((qE .str O.2.1 (0:Int))=([97,98,99,100]:p7))))&&(decide ((O.2.2.2.1.length:Int)=(1:Int))))&&(decide ((qE DL O.2.2.2.1 (0:Int)).1=([97]:p7))))) else none else none
section
abbrev a8y:List pW:=[]
abbrev a8z:List pV:=[]
@[go_sem] def a8A:qH:=⟨[(OR).isSome=true],[(.val .bool (val OR),none)],[]⟩
def aGU:List pW→List pV→Option qH:=rQ (V:=Unit) (fun x=>a8y) (fun x=>a8z) fun x=>a8A
@[go_sem] def aSk:aGU (no_index a8y) (no_index a8z)=some a8A:=rR (fun _ _ h1 h2=>by cases h1;cases h2;rfl) ()
end
@[go_sem] abbrev aGV:Nat×r5:=(10,⟨[],aGU,[],[],none⟩)
def X9:qW prog [s8,yK,F3,AQ,IE] (qY [aGR]):=⟨⟨s9,⟨zP,⟨ID,⟨CB,⟨NQ,trivial⟩⟩⟩⟩⟩,qJ aND rL,qZ⟩
def aNG:rC prog aGV:=by
 refine rS X9 func10 (c:=_) rfl (N:=43) pP (ts:=[(0,none)]) rfl (fun _ _=>rfl) ?_;intro⟨⟩ hs hrow;dsimp only[a8y,a8z,a8A,rM,qP,qU,r6,rP,Nat.reduceAdd] at hs hrow|-;have hz:=hs;obtain⟨z0,d⟩:=aSF.1 hz
 try rw[rU d]
 clear hz hs;unfold OR at d;refine pU X9 ?_;obtain⟨O,hv1,hw1,d⟩:=rG d
 try simp only[go_sem] at hw1
 refine pU X9 ?_ (hp:=by exact(rE hv1)) (h:=by simp only[go_sem,hw1];rfl);obtain⟨Y,X,d⟩:=oZ d;refine pU X9 ?_ (hp:=by exact⟨id,id,rZ,id,id,id,rZ,id,id,Y,id,id,rZ,id,id,id,rZ,id,id,X,id,id,id,rZ⟩);refine qB ?_;cases d;exact p9 []
def MD (O:p7):Option Bool:=OR.bind fun Z=>if (!Z)=true then some (false) else if (decide ((4000:Int)<(O.length:Int)))=true then some (true) else (H6 O).bind fun aA=>(JG O).bind fun aB=>if (((decide (aA.2.2.2=aB.2.2.2))==true)=true→((J9 (aA.1,(aA.2.1,(aA.2.2.1,()))) (aB.1,(aB.2.1,(aB.2.2.1,()))))).isSome=true) then some (((decide (aA.2.2.2=aB.2.2.2))&&(val (J9 (aA.1,(aA.2.1,(aA.2.2.1,()))) (aB.1,(aB.2.1,(aB.2.2.1,()))))))) else none
section
variable (O:p7)
abbrev S0:List pW:=[(.val .str O,none)]
abbrev XA:List pV:=[]
@[go_sem] def OS:qH:=⟨[((MD O)).isSome=true],[(.val .bool (val (MD O)),none)],[]⟩
def a8B:List pW→List pV→Option qH:=rQ (V:=p7) (S0) (fun x=>XA) fun x=>OS x
@[go_sem] def aNH:a8B (no_index (S0 O)) (no_index XA)=some (OS O):=rR (fun a0 b0 h1 h2=>by cases h1;cases h2;rfl) O
end
@[go_sem] abbrev aNI:Nat×r5:=(4,⟨[.v],a8B,[],[],none⟩)
def H7:qW prog [s8,L3,F2] (qY [aGV,aGT,aGE,aDq,aFW]):=⟨⟨s9,⟨QX,⟨IC,trivial⟩⟩⟩,qJ aNG (qJ aNF (qJ aNz (qJ aMy (qJ aNh rL)))),qZ⟩
def aNJ:rC prog aNI:=by
 refine rS H7 func4 (c:=_) rfl (N:=31) pP (ts:=[(2,none)]) rfl (fun _ _=>rfl) ?_;intro O hs hrow;dsimp only[S0,XA,OS,rM,qP,qU,r6,rP,Nat.reduceAdd] at hs hrow|-;have hz:=hs;obtain⟨z0,d⟩:=aSF.1 hz
 try rw[rU d]
 clear hz hs;unfold MD at d;refine pU H7 ?_;refine qC ?_;obtain⟨Z,hv1,hw1,d⟩:=rG d
 try simp only[go_sem] at hw1
 refine pU H7 ?_ (hp:=by exact(rE hv1)) (h:=by simp only[go_sem,hw1];rfl);refine qD d ?_ ?_<;>intro d Y
 .refine pU H7 ?_;refine qB (qO ?_);cases d;exact p9 []
 refine qM (q8 (qC (pU H7 ?_)));refine qD d ?_ ?_<;>intro d Y
 .refine pU H7 ?_;refine qB (qO ?_);cases d;exact p9 []
 refine qM (q8 ?_);obtain⟨aA,hv2,hw2,d⟩:=rG d
 try simp only[go_sem] at hw2
 refine pU H7 ?_ (hp:=by exact(rE hv2)) (h:=by simp only[go_sem,hw2];rfl);obtain⟨aB,hv3,hw3,d⟩:=rG d
 try simp only[go_sem] at hw3
 refine pU H7 ?_ (hp:=by exact(rE hv3)) (h:=by simp only[go_sem,hw3];rfl);obtain⟨X,d⟩:=pZ d;refine vF H7 ?_ (hp:=by exact⟨id,id,id,X,rZ⟩);refine qB ?_;cases d;exact p9 []
attribute [irreducible] H6 OR MD
end
end Go.Proofs.YtcpbaddnmpeipaaGreatDoor
section
end
namespace Go.Proofs.YtcpbaddnmpeipaaGreatDoor
open Vc
theorem tB {σ ρ:Type}(f:σ→Option (σ⊕ρ)) (x:σ):rF f x=(f x).bind fun w=>match w with
    | .inl y=>rF f y
    | .inr r=>some r:=by
  cases h:f x with
  | none=>
    cases h2:rF f x with
    |none=>rfl
    | some r=>
      obtain⟨n,hn⟩:=VW h2;cases n with
      |zero=>cases hn
      |succ n=>unfold iter at hn;rw[h] at hn;cases hn
  | some w=>
    cases w with
    |inl y=>exact NH h
    |inr r=>exact BL h
theorem zA {t:Ty}{l:List t.den}{i:Nat}(h:i<l.length):qE t l (i:Int)=l[i]:=by
  unfold qE;rw[aTs,aSZ,aSK h];rfl
theorem x9 {l:p7}{i:Nat}(h:i<l.length):rI l (i:Int)=(l[i].toNat:Int):=by
  unfold rI;rw[aTs,aSZ,aSK h];rfl
def xV {β:Type}(f:Nat→β) (b:β):pK→β
  |some k=>f k
  |none=>b
theorem XB {α ρ:Type}{f:Int→Option (Int⊕(Unit⊕ρ))}{l:List α}(p:α→Bool) (g:Nat→ρ)
    (hf: ∀(i:Nat) (h:i<l.length),f i=if p l[i]=true then some (.inr (.inr (g i))) else some (.inl (i+1)))
    (he:f l.length=some (.inr (.inl ()))): ∀(n j:Nat),j+n=l.length→rF f j=some (xV (fun k=> .inr (g (j+k))) (.inl ()) ((l.drop j).findIdx? p))
  | 0,j,hj=>by
    have:j=l.length:=by omega
    subst this;rw[aTu,tB,he];rfl
  | n+1,j,hj=>by
    have hlt:j<l.length:=by omega
    rw[tB,hf j hlt,aS3 hlt,aTZ];by_cases hp:p l[j]=true
    · rw[aSB hp,aSB hp]
      rfl
    rw[aSD hp,aSD hp]
    show rF f ((j:Int)+1)=_;have:=XB p g hf he n (j+1) pB;rw[show ((j:Int)+1)=((j+1:Nat):Int) by omega,this];cases(l.drop (j+1)).findIdx? p with
    |none=>rfl
    | some k=>
      show some (Sum.inr (g (j+1+k)))=some (Sum.inr (g (j+(k+1))));rw[show j+1+k=j+(k+1) by omega]
theorem FE {α ρ:Type}{f:Int→Option (Int⊕(Unit⊕ρ))}{l:List α}(p:α→Bool) (g:Nat→ρ)
    (hf: ∀(i:Nat) (h:i<l.length),f i=if p l[i]=true then some (.inr (.inr (g i))) else some (.inl (i+1)))
    (he:f l.length=some (.inr (.inl ()))):rF f 0=some (xV (fun k=> .inr (g k)) (.inl ()) (l.findIdx? p)):=by
  have:=XB p g hf he l.length 0 pB;simpa using this
theorem aGW {s:p7}{i:Nat}(h:i<s.length) (ha:s[i].toNat<128):wS s i=(s[i].toNat:Int)∧AK s i=i+1:=by
  have h1:=Lib.decodeL_drop ⟨s.toArray⟩ i
  have h2:(⟨s.toArray⟩:ByteArray).data.toList.drop i=s[i]::s.drop (i+1):=by
    show s.drop i=_;rw[aS3 h]
  rw[h2,Lib.decodeL_ascii _ _ ha] at h1;unfold wS AK ZT;rw[←h1,aSB h];exact⟨rfl,rfl⟩
theorem aNK {n b0 b1 b2 b3:Nat}(h:128≤b0):128≤(Lib.decodeN n b0 b1 b2 b3).1:=by
  unfold Lib.decodeN
  repeat' split
  all_goals first|omega|(dsimp only;omega)
theorem aGX {s:p7}{i:Nat}(h:i<s.length) (ha:128≤s[i].toNat):128≤wS s i:=by
  unfold wS;rw[Lib.decode_at]
  have:(⟨s.toArray⟩:ByteArray).get! i=s[i]:=by
    show s.toArray[i]! =_;simp [h]
  rw[this];exact Int.ofNat_le.2 (aNK ha)
theorem aGY {ρ:Type}{f:Nat→Option (Nat⊕(Unit⊕ρ))}{s:p7}(p:Int→Bool) (g:Nat→ρ) (hb: ∀c,128≤c→p c=true)
    (hf: ∀(i:Nat) (h:i<s.length),f i=if p (wS s i)=true then some (.inr (.inr (g i))) else some (.inl (AK s i)))
    (he:f s.length=some (.inr (.inl ()))): ∀(n j:Nat),j+n=s.length→rF f j=some (xV (fun k=> .inr (g (j+k))) (.inl ()) ((s.drop j).findIdx? (fun b=>p b.toNat)))
  | 0,j,hj=>by
    have:j=s.length:=by omega
    subst this;rw[aTu,tB,he];rfl
  | n+1,j,hj=>by
    have hlt:j<s.length:=by omega
    rw[tB,hf j hlt,aS3 hlt,aTZ];by_cases ha:s[j].toNat<128
    · obtain⟨e1,e2⟩:=aGW hlt ha
      rw[e1,e2];by_cases hp:p (s[j].toNat:Int)=true
      · rw[aSB hp,aSB hp]
        rfl
      rw[aSD hp,aSD hp]
      show rF f (j+1)=_;rw[aGY p g hb hf he n (j+1) pB];cases(s.drop (j+1)).findIdx? (fun b=>p b.toNat) with
      |none=>rfl
      | some k=>
        show some (Sum.inr (g (j+1+k)))=some (Sum.inr (g (j+(k+1))));rw[show j+1+k=j+(k+1) by omega]
    rw[aSB (hb _ (aGX hlt pB)),aSB (hb _ pB)]
    rfl
theorem aNL {ρ:Type}{f:Nat→Option (Nat⊕(Unit⊕ρ))}{s:p7}(p:Int→Bool) (g:Nat→ρ) (hb: ∀c,128≤c→p c=true)
    (hf: ∀(i:Nat) (h:i<s.length),f i=if p (wS s i)=true then some (.inr (.inr (g i))) else some (.inl (AK s i)))
    (he:f s.length=some (.inr (.inl ()))):rF f 0=some (xV (fun k=> .inr (g k)) (.inl ()) (s.findIdx? (fun b=>p b.toNat))):=by
  have:=aGY p g hb hf he s.length 0 pB;simpa using this
def sC {α:Type}(l:List α):Prop:=l.length≤4000000000
theorem u7 {i:Nat}(h:i≤4000000000):pX ((i:Int)+1):=by unfold pX;omega
theorem sT {i n:Nat}(h:i<n):0≤(i:Int)∧(i:Int)<(n:Int):=⟨pB,pB⟩
theorem tV {i n:Nat}(h:i<n):decide ((i:Int)<(n:Int))=true:=by simpa using h
theorem xA (n:Nat): ¬decide ((n:Int)<(n:Int))=true:=by simp
theorem a8C {α:Type}{p:α→Bool}: ∀{l:List α},(l.findIdx? p).isSome=l.any p
  |[]=>rfl
  | x::l=>by
    rw[aTZ,List.any_cons];cases p x with
    |true=>rfl
    |false=>simp [a8C (l:=l)]
theorem JH {α β:Type}{p:α→Bool}{l:List α}{f:Nat→β}{b:β}:xV f b (l.findIdx? p)=if l.any p=true then f ((l.findIdx? p).getD 0) else b:=by
  rw[←a8C];cases l.findIdx? p with
  |none=>rfl
  |some k=>rfl
def OT (c:Int):Bool:=(((!((decide ((97:Int)≤c))&&(decide (c≤(122:Int)))))&&(!((decide ((48:Int)≤c))&&(decide (c≤(57:Int))))))&&(!decide (c=(45:Int))))&&((decide (c<(65:Int)))||(decide ((90:Int)<c)))
def yM (s:p7):Bool:= !(s.any fun b=>OT b.toNat)&&((decide ((1:Int)≤(s.length:Int)))&&(decide ((s.length:Int)≤(40:Int))))
theorem aNM (s:p7) (hs:sC s):LT s=some (yM s):=by
  unfold sC at hs
  have h:=FE (f:=RM s) (l:=s) (fun b=>OT b.toNat) (fun _=>false) (fun i h=>by
    unfold RM;rw[aSB (tV h),aSB (sT h),x9 h,aSB (u7 pB)];rfl) (by
    unfold RM;rw[aSD (xA _)])
  unfold LT;rw[h,JH];unfold yM;cases s.any fun b=>OT b.toNat<;>rfl
def XC (c:Int):Bool:=((((decide (c<(97:Int)))||(decide ((122:Int)<c)))&&((decide (c<(65:Int)))||(decide ((90:Int)<c))))&&((decide (c<(48:Int)))||(decide ((57:Int)<c))))&&(!decide (c=(45:Int)))
theorem aNN (c:Int):XC c=OT c:=by
  unfold XC OT;rw[aUf];simp;omega
theorem aGZ (s:p7):D3 s=some (yM s):=by
  have h:=aNL (f:=R2 s) (s:=s) (fun c=>XC c) (fun _=>false) (fun c h=>by unfold XC;simp;omega) (fun i h=>by
    unfold R2;rw[aSB (by simpa using h),aSB (by simpa using h)];rfl) (by
    unfold R2;rw[aSD pD])
  unfold D3;rw[h,JH];simp only[aNN];unfold yM;cases s.any fun b=>OT b.toNat<;>rfl
def zB (c:Int):Bool:=((((!((decide ((97:Int)≤c))&&(decide (c≤(122:Int)))))&&(!((decide ((48:Int)≤c))&&(decide (c≤(57:Int))))))&&(!decide (c=(45:Int))))&&(!decide (c=(95:Int))))&&(!decide (c=(46:Int)))
def zQ (c:Int):Bool:=(decide ((97:Int)≤c))&&(decide (c≤(122:Int)))
def w5:p7→Bool
  |[]=>false
  |b::t=>(!decide (40<t.length+1)&&zQ b.toNat)&& !(t.any fun b=>zB b.toNat)
theorem aG0 (s:p7) (hs:sC s):FB s=some (w5 s):=by
  unfold sC at hs;unfold FB;cases s with
  |nil=>simp [w5]
  | cons b t=>
    have hb0:rI (b::t) (0:Int)=(b.toNat:Int):=x9 (i:=0) pD;rw[aSB (fun _=>⟨aTl 0,by simp only[aSI];omega⟩),hb0];unfold w5;by_cases hl:(40:Int)<((b::t).length:Int)
    · have hl2:40<t.length+1:=by simp only[aSI] at hl;omega
      rw[aSB (by simp only[hl,decide_true,Bool.or_true,Bool.true_or])];simp [hl2]
    have hl2: ¬40<t.length+1:=by simp only[aSI] at hl;omega
    have hl3: ¬((b::t).length:Int)<1:=by simp;omega
    by_cases hb:zQ b.toNat=true
    · rw[aSD (by unfold zQ at hb;simp only[hl,hl3,hb];simp)]
      have h:=XB (f:=RN (b::t)) (l:=b::t) (fun b=>zB b.toNat) (fun _=>false) (fun i h=>by
        unfold RN;rw[aSB (tV h),aSB (sT h),x9 h,aSB (u7 pB)];rfl) (by
        unfold RN;rw[aSD (xA _)]) t.length 1 pE
      rw[show ((1:Nat):Int)=1 from rfl] at h;rw[h,JH];simp only[aUD,aTM,hb,hl2,decide_false,Bool.not_false,Bool.true_and];cases t.any fun b=>zB b.toNat<;>rfl
    rw[aSB (by unfold zQ at hb;simp only[hb];simp)]
    simp [hb]
theorem aG1 (s:p7): ∀(n j:Nat),j+n=s.length→rF (NY s) j=some (if (s.drop j).any (fun b=>zB b.toNat)=true∨(j=0∧s≠[]∧zQ (s.getD 0 0).toNat=false) then .inr false else .inl ())
  | 0,j,hj=>by
    have:j=s.length:=by omega
    subst this;rw[aTu,tB];unfold NY;rw[aSD pD];by_cases h0:s=[]
    .subst h0;simp
    · have:s.length≠0:=by simpa using h0
      simp [this]
  | n+1,j,hj=>by
    have hlt:j<s.length:=by omega
    have ih:=aG1 s n (j+1) pB;rw[tB,aS3 hlt,List.any_cons]
    have hstep:NY s j=if (zB (s[j].toNat:Int)=true∨(j=0∧zQ (s[j].toNat:Int)=false)) then some (.inr (.inr false)) else some (.inl (j+1)):=by
      unfold NY;rw[aSB (by simpa using hlt),aSB (by simpa using hlt),aSB (by simpa using hlt)];by_cases ha:s[j].toNat<128
      · obtain⟨e1,e2⟩:=aGW hlt ha
        rw[e1,e2];by_cases h1:zQ (s[j].toNat:Int)=true
        · rw[aSB (by unfold zQ at h1;exact h1),aSD]
          unfold zQ at h1;simp only[aSV,aSL] at h1;simp [zB,zQ];omega
        have h1':zQ (s[j].toNat:Int)=false:=by simpa using h1
        rw[aSD (by unfold zQ at h1;exact h1)]
        have h2: ¬(97≤(s[j].toNat:Int)∧(s[j].toNat:Int)≤122):=by
          unfold zQ at h1;simpa using h1
        by_cases h3:zB (s[j].toNat:Int)=true∨j=0
        · rw[aSD,aSB]
          · rcases h3 with h3|h3
            .exact .inl h3
            exact .inr ⟨h3,h1'⟩
          simp [zB] at h3|-
          omega
        rw[aSB,aSD]
        · intro h
          rcases h with h|⟨h,_⟩
          .exact h3 (.inl h)
          exact h3 (.inr h)
        simp [zB] at h3|-
        omega
      have hb:=aGX hlt pB
      rw[aSD pE,aSD pE,aSB (.inl (by simp [zB];omega))]
    rw[hstep];have hd:s.getD 0 0=s[0]'pB:=by simp [aSZ,aSK (show 0<s.length by omega)]
    have hne:s≠[]:=by intro h;subst h;simp at hlt
    by_cases hp:zB (s[j].toNat:Int)=true∨(j=0∧zQ (s[j].toNat:Int)=false)
    · rw[aSB hp,aSB]
      .rfl
      rcases hp with hp|⟨rfl,hp⟩
      .left;simp [hp]
      right;exact⟨rfl,hne,by rw[hd];exact hp⟩
    rw[aSD hp]
    show rF _ (j+1)=_;rw[ih]
    have hnb:zB (s[j].toNat:Int)=false:=by
      cases h:zB (s[j].toNat:Int) with
      |true=>exact absurd (.inl h) hp
      |false=>rfl
    simp only[hnb,Bool.false_or];congr 2;apply propext;constructor
    · rintro(h|⟨h,_⟩)
      .exact .inl h
      omega
    rintro(h|⟨rfl,_,h⟩)
    .exact .inl h
    rw[hd] at h
    exact absurd (.inr ⟨rfl,h⟩) hp
theorem aG2 (s:p7):DS s=some (w5 s):=by
  have h:=aG1 s s.length 0 pB;unfold DS;rw[h,aTM];cases s with
  |nil=>simp [w5,tI]
  | cons b t=>
    simp only[List.any_cons,List.getD_cons_zero,ne_eq,reduceCtorEq,not_false_eq_true,true_and,w5];cases hs:zQ b.toNat with
    |false=>simp [tI]
    | true=>
      have hn:zB b.toNat=false:=by
        unfold zQ at hs;simp only[aSV,aSL] at hs;simp [zB];omega
      simp only[hn,Bool.false_or];cases t.any (fun b=>zB b.toNat) with
      |true=>simp [tI]
      | false=>
        simp only[aTS,false_or,and_false,aUy];show some (decide ((1:Int)≤((b::t).length:Int))&&decide (((b::t).length:Int)≤40))=_;congr 1;rw[aUf];simp only[aSI,aSV,aSL,aTg,aTo,Bool.not_false,and_true];omega
theorem aNO {α:Type}{p:α→Bool}{l:List α}:xV (fun _=>true) false (l.findIdx? p)=l.any p:=by
  rw[JH];cases l.any p<;>rfl
theorem H8 {β:Type}{f:Nat→β}{b:β}{o:pK}:tI (some (xV (fun k=> .inr (f k)) (.inl ()) o)) (fun _=>some b)=some (xV f b o):=by
  cases o<;>rfl
theorem aNP (l:p8) (s:p7) (hl:sC l):DW l s=some (xV (fun k=>(k:Int)) (-1) (l.findIdx? fun x=>decide (s=x))):=by
  unfold sC at hl
  have h:=FE (f:=RD l s) (l:=l) (fun x=>decide (s=x)) (fun k=>(k:Int)) (fun i h=>by
    unfold RD;rw[aSB (tV h),aSB (sT h),zA (t:= .str) h,aSB (u7 pB)]) (by
    unfold RD;rw[aSD (xA _)])
  unfold DW;rw[h,H8]
theorem aNQ {α:Type}{p:α→Bool}{l:List α}:decide ((0:Int)≤xV (fun k=>(k:Int)) (-1) (l.findIdx? p))=l.any p:=by
  rw[JH];cases l.any p
  .rfl
  simp only[aT5,aSL];omega
def H9:p8:=[[110,101,119],[102,117,122,122,121],[116,114,97,110,115,108,97,116,101,100],[114,101,118,105,101,119,101,100],[111,98,115,111,108,101,116,101]]
def xB (s:p7):Int:=xV (fun k=>(k:Int)) (-1) (H9.findIdx? fun x=>decide (x=s))
theorem aG3 (s:p7):GJ s=some (xB s):=by
  have h:=FE (f:=R6 s) (l:=H9) (fun x=>decide (x=s)) (fun k=>(k:Int)) (fun i h=>by
    have h5:i<5:=h;unfold R6 R3;rw[aSB pE,aSB (⟨pB,by simp;omega⟩)];show (if decide (qE .str H9 (i:Int)=s)=true then _ else _)=_;rw[zA (t:= .str) h,aSB (u7 pB)]) (by
    unfold R6;rw[aSD (by simp [H9])])
  unfold GJ;rw[h,H8];rfl
abbrev tO:=p7×p7×Unit
abbrev tF:Ty:= .pair .str (.pair .str .unit)
def xW (l:List tO) (n:p7):pK:=l.findIdx? fun x=>decide (x.1=n)
def EC (l:List tO) (n:p7):p7×Bool:=xV (fun k=>((l.getD k ([],[],())).2.1,true)) ([],false) (xW l n)
theorem aG4 (l:List tO) (n:p7):(EC l n).2=l.any fun x=>decide (x.1=n):=by
  unfold EC xW;rw[JH];cases l.any fun x=>decide (x.1=n)<;>rfl
theorem aG5 (l:List tO) (n:p7) (hl:sC l):GK l n=some (EC l n):=by
  unfold sC at hl
  have h:=FE (f:=R8 l n) (l:=l) (fun x=>decide (x.1=n)) (fun k=>((l.getD k ([],[],())).2.1,true)) (fun i h=>by
    unfold R8;rw[aSB (tV h),aSB (sT h),zA (t:=tF) h,aSB (sT h),aSB (u7 pB),aSZ,aSK h];rfl) (by
    unfold R8;rw[aSD (xA _)])
  unfold GK;rw[h,H8];rfl
theorem aNR (l:List tO) (n:p7) (hl:sC l):LU l n=some (xV (fun k=>(k:Int)) (-1) (xW l n)):=by
  unfold sC at hl
  have h:=FE (f:=RI l n) (l:=l) (fun x=>decide (x.1=n)) (fun k=>(k:Int)) (fun i h=>by
    unfold RI;rw[aSB (tV h),aSB (sT h),zA (t:=tF) h,aSB (u7 pB)]) (by
    unfold RI;rw[aSD (xA _)])
  unfold LU O4;rw[h,H8];rfl
theorem S1 {l:List tO}{n:p7}{k:Nat}(h:xW l n=some k):k<l.length:=by
  unfold xW at h;exact(aTm.1 h).1
theorem aNS (l:List tO) (n:p7) (hl:sC l):JA l n=some (EC l n):=by
  unfold JA;rw[aNR l n hl];unfold EC;cases h:xW l n with
  |none=>rfl
  | some k=>
    have hk:=S1 h;simp only[xV,aSE];rw[aSD pD,aSB (sT hk),zA (t:=tF) hk];simp only[xV,aSZ,aSK hk];rfl
def uH (l:List tO) (n:p7):Nat:=(l.findIdx? fun x=> !(Op.bytesLess x.1 n||decide (x.1=n))).getD l.length
def xC (l:List tO) (n v:p7):List tO:=xV (fun k=>l.set k (n,v,())) (l.take (uH l n)++[(n,v,())]++l.drop (uH l n)) (xW l n)
theorem aG6 (l:List tO) (n:p7):uH l n≤l.length:=by
  unfold uH;cases h:l.findIdx? fun x=> !(Op.bytesLess x.1 n||decide (x.1=n)) with
  |none=>exact aSW _
  |some k=>exact Nat.le_of_lt (aTm.1 h).1
theorem aG7 {l:List tO}{n:p7}{k:Nat}(h:xW l n=some k) (hk:k<l.length):l[k].1=n:=by
  unfold xW at h;have:=(aTm.1 h).2.1;simpa using this
theorem aG8 {α:Type}{f:Int→Option (Int⊕Int)}{l:List α}(p:α→Bool)
    (hf: ∀(i:Nat) (h:i<l.length),f i=if p l[i]=true then some (.inl (i+1)) else some (.inr i)) (he:f l.length=some (.inr l.length)):
    ∀(n j:Nat),j+n=l.length→rF f j=some (((j+((l.drop j).findIdx? fun x=> !p x).getD n:Nat)):Int)
  | 0,j,hj=>by
    have:j=l.length:=by omega
    subst this;rw[aTu,tB,he];simp
  | n+1,j,hj=>by
    have hlt:j<l.length:=by omega
    rw[tB,hf j hlt,aS3 hlt,aTZ];by_cases hp:p l[j]=true
    · rw[aSB hp,aSD (by simp [hp])]
      show rF f ((j:Int)+1)=_;rw[show ((j:Int)+1)=((j+1:Nat):Int) by omega,aG8 p hf he n (j+1) pB];cases(l.drop (j+1)).findIdx? fun x=> !p x with
      |none=>simp;omega
      |some k=>simp;omega
    rw[aSD hp,aSB (by simpa using hp)]
    simp
theorem aG9 {α:Type}{f:Int→Option (Int⊕Int)}{l:List α}(p:α→Bool)
    (hf: ∀(i:Nat) (h:i<l.length),f i=if p l[i]=true then some (.inl (i+1)) else some (.inr i)) (he:f l.length=some (.inr l.length)):
    rF f 0=some (((l.findIdx? fun x=> !p x).getD l.length:Nat):Int):=by
  have:=aG8 p hf he l.length 0 pB;simpa using this
theorem OU {α:Type}{l:List α}{k:Nat}:qR l 0 (k:Int)=l.take k:=by unfold qR;simp
theorem CP {α:Type}{l:List α}{k:Nat}:qR l (k:Int) (l.length:Int)=l.drop k:=by
  unfold qR;rw[aTs,aTs,List.take_of_length_le];rw[aS8];exact aSW _
theorem aHa (l:List tO) (n v:p7) (hl:sC l):GL l n v=some (xC l n v):=by
  have hl':=hl;unfold sC at hl';unfold GL;rw[aSB pB]
  have h1:=FE (f:=R9 l n v) (l:=l) (fun x=>decide (x.1=n)) (fun k=>l.set k ((l.getD k ([],[],())).1,(v,(l.getD k ([],[],())).2.2))) (fun i h=>by
    unfold R9;rw[List.nil_append,aSB (tV h),aSB (sT h),zA (t:=tF) h,aSB (sT h),aSB (u7 pB),aSZ,aSK h,aTs];rfl) (by
    unfold R9;rw[List.nil_append,aSD (xA _)])
  rw[h1];unfold xC;show tI (some (xV _ _ (xW l n))) _=_;cases h:xW l n with
  | some k=>
    have hk:=S1 h;simp only[xV,aSZ,aSK hk];show some (l.set k _)=_;congr 2;exact Prod.ext (aG7 h hk) rfl
  | none=>
    show sN (rF (L9 l n) 0) _=_
    have h2:=aG9 (f:=L9 l n) (l:=l) (fun x=>Op.bytesLess x.1 n||decide (x.1=n)) (fun i h=>by
      unfold L9;rw[aSB (fun _=>sT h),zA (t:=tF) h,tV h,Bool.true_and,aSB (u7 pB)]) (by
      unfold L9;have hF:decide ((l.length:Int)<(l.length:Int))=false:=by simp
      rw[hF,aSB (fun h=>by simp at h),aUa,aSD pC])
    rw[show rF (L9 l n) 0=some ((uH l n:Nat):Int) from h2];have hk:=aG6 l n;unfold sN;rw[aSE,aSB ⟨aTl _,pB,pB⟩,OU,CP,aSB pE,aSB pE,aSB ⟨pB,pB,aTl _⟩,aSB pE];simp [xV]
def AB (n:Int):Prop:=0≤n∧n≤1114111∧(n<55296∨57343<n)
def wN (n:Int):Bool:=(((decide ((0:Int)≤n))&&(decide (n≤(1114111:Int))))&&((decide (n<(55296:Int)))||(decide ((57343:Int)<n))))
theorem HC (n:Int):wN n=true↔AB n:=by
  unfold wN AB;simp;omega
theorem XD {n:Int}(h0:0≤n) (h1:n≤127):Lib.encodeRune n=tP [n]:=by
  unfold Lib.encodeRune;rw[Lib.encodeRuneZ_one h0 h1];rfl
theorem XE {n:Int}(h0:128≤n) (h1:n≤2047):Lib.encodeRune n=tP [192+n/64,128+n%64]:=by
  unfold Lib.encodeRune;rw[Lib.encodeRuneZ_two h0 h1];rfl
theorem a8D {n:Int}(h:(2048≤n∧n<55296)∨(57343<n∧n≤65535)):Lib.encodeRune n=tP [224+n/4096,128+n/64%64,128+n%64]:=by
  unfold Lib.encodeRune;rw[Lib.encodeRuneZ_three h];rfl
theorem aHb {n:Int}(h0:65536≤n) (h1:n≤1114111):Lib.encodeRune n=tP [240+n/262144,128+n/4096%64,128+n/64%64,128+n%64]:=by
  unfold Lib.encodeRune;rw[Lib.encodeRuneZ_four h0 h1];rfl
theorem a8E {n:Int}(h:AB n):BM n=some (Lib.encodeRune n):=by
  obtain⟨h0,h1,hs⟩:=h;have w1:IntKind.i64.wrap (n/64)=n/64:=by rw[aTT];omega
  have w2:IntKind.i64.wrap (n/4096)=n/4096:=by rw[aTT];omega
  have w3:IntKind.i64.wrap (n/262144)=n/262144:=by rw[aTT];omega
  have m1:Int.tmod n 64=n%64:=aUn h0;have m2:Int.tmod (n/64) 64=n/64%64:=aUn pB;have m3:Int.tmod (n/4096) 64=n/4096%64:=aUn pB;unfold BM;simp only[Int.tdiv_eq_ediv_of_nonneg h0,w1,w2,w3,m1,m2,m3,aTY];by_cases c1:n<128
  .rw[aSB (by simpa using c1),XD h0 pB,show n%256=n by omega]
  rw[aSD (by simpa using c1)]
  by_cases c2:n<2048
  .rw[aSB (by simpa using c2),aSB (by unfold pX;omega),aSB (by unfold pX;omega),XE pB pB,show (192+n/64) %256=192+n/64 by omega,show (128+n%64) %256=128+n%64 by omega]
  rw[aSD (by simpa using c2)]
  by_cases c3:n<65536
  .rw[aSB (by simpa using c3),aSB (by unfold pX;omega),aSB (by unfold pX;omega),aSB (by unfold pX;omega),a8D pB,show (224+n/4096) %256=224+n/4096 by omega,show (128+n/64%64) %256=128+n/64%64 by omega,show (128+n%64) %256=128+n%64 by omega]
  rw[aSD (by simpa using c3),aSB (by unfold pX;omega),aSB (by unfold pX;omega),aSB (by unfold pX;omega),aSB (by unfold pX;omega),aHb pB pB,show (240+n/262144) %256=240+n/262144 by omega,show (128+n/4096%64) %256=128+n/4096%64 by omega,show (128+n/64%64) %256=128+n/64%64 by omega,show (128+n%64) %256=128+n%64 by omega]
theorem a8F {n:Int}{k:Int}{j:Nat}(hj:k.toNat=j) (h32:j≤32):xZ .i32 n k=n/2^j:=by
  unfold xZ;rw[hj,show min j IntKind.i32.bits=j from Nat.min_eq_left h32,Int.fdiv_eq_ediv_of_nonneg];exact Int.pow_nonneg pC
theorem aNT {n:Int}(p:pH) (h:AB n) (hp:sC p):J4 p n=some (p++Lib.encodeRuneZ n):=by
  obtain⟨h0,h1,hs⟩:=h;unfold sC at hp;have u:IntKind.u32.wrap n=n:=by rw[IntKind.wrap_u32];omega
  have s6:xZ .i32 n 6=n/64:=a8F (j:=6) rfl pC;have s12:xZ .i32 n 12=n/4096:=a8F (j:=12) rfl pC;have s18:xZ .i32 n 18=n/262144:=a8F (j:=18) rfl pC
  have b0:bits .or .u8 128 (bits .and .u8 (n%256) 63)=128+n%64:=by
    rw[u8_and63 (x:=n%256) pB pB,show n%256%64=n%64 by omega,u8_or128 (y:=n%64) pB pB]
  have b1:bits .or .u8 128 (bits .and .u8 (n/64%256) 63)=128+n/64%64:=by
    rw[u8_and63 (x:=n/64%256) pB pB,show n/64%256%64=n/64%64 by omega,u8_or128 (y:=n/64%64) pB pB]
  have b2:bits .or .u8 128 (bits .and .u8 (n/4096%256) 63)=128+n/4096%64:=by
    rw[u8_and63 (x:=n/4096%256) pB pB,show n/4096%256%64=n/4096%64 by omega,u8_or128 (y:=n/4096%64) pB pB]
  unfold J4;rw[u];by_cases c1:n≤127
  .rw[aSB (by simpa using c1),aSB pE,Lib.encodeRuneZ_one h0 c1,aTY,show n%256=n by omega]
  rw[aSD (by simpa using c1)]
  unfold LG;simp only[u,s6,s12,s18,aTY,b0,b1,b2];by_cases c2:n≤2047
  · rw[aSB (by simpa using c2),aSB pE,Lib.encodeRuneZ_two pB c2,show n/64%256=n/64 by omega,u8_or192 (y:=n/64) pB pB]
    rfl
  rw[aSD (by simpa using c2)]
  by_cases c3:n≤65535
  · have hx:(if decide (n<55296)=true then some (decide (n<55296)) else some ((decide (57343<n))&&(decide (n≤65535))))=some true:=by
      by_cases c:n<55296
      .rw[aSB (by simpa using c)];simp [c]
      rw[aSD (by simpa using c)];simp;omega
    rw[hx];simp only[sN,aSE];rw[aSB trivial,aSB pE,Lib.encodeRuneZ_three pB,show n/4096%256=n/4096 by omega,u8_or224 (y:=n/4096) pB pB];rfl
  have hx:(if decide (n<55296)=true then some (decide (n<55296)) else some ((decide (57343<n))&&(decide (n≤65535))))=some false:=by
    rw[aSD pE];simp;omega
  rw[hx];simp only[sN,aSE];rw[aSD pC,aSB pE,aSB pE,Lib.encodeRuneZ_four pB h1,show n/262144%256=n/262144 by omega,u8_or240 (y:=n/262144) pB pB];rfl
theorem aHc (n:Int):(Lib.encodeRuneZ n).length≤4:=by
  unfold Lib.encodeRuneZ
  repeat' split
  all_goals simp
theorem aHd {n:Int}(p:pH) (h:AB n) (hp:sC p): ∃k,JB (p,()) n=some (k,p++Lib.encodeRuneZ n):=by
  have h4:=aHc n;unfold sC at hp;unfold JB;rw[aNT p h hp];simp only[aSE];rw[aSB (by unfold pX;simp;omega)];exact⟨_,rfl⟩
theorem aNU (n:Int):RQ [n] (0,[])=some (.inl (1,if wN n=true then Lib.encodeRuneZ n else Lib.encodeRuneZ 65533)):=by
  unfold RQ;have hn:qE (.int .i64) [n] 0=n:=rfl;dsimp only;rw[aSB pD,aSB ⟨aTl _,by simp⟩];simp only[hn];by_cases hs:wN n=true
  · have hsc:=(HC n).1 hs
    obtain⟨k,hk⟩:=aHd (n:=n) [] hsc (by unfold sC;simp)
    have wn:IntKind.i32.wrap n=n:=by
      obtain⟨a,b,c⟩:=hsc;rw[IntKind.wrap_i32];omega
    rw[aSB hs];unfold wN at hs;rw[aSD (by rw[hs];decide),wn,hk];simp only[aSE,List.nil_append];rw[aSB (by unfold pX;omega)];rfl
  rw[aSD hs]
  unfold wN at hs;obtain⟨k,hk⟩:=aHd (n:=65533) [] (by unfold AB;omega) (by unfold sC;simp);rw[aSB (by simp only[aTg] at hs|-;simpa using hs),show IntKind.i32.wrap 65533=65533 from rfl,hk];simp only[aSE,List.nil_append];rw[aSB (by unfold pX;omega)];rfl
theorem aNV (n:Int):JE n=some (if wN n=true then Lib.encodeRune n else Lib.encodeRune 65533):=by
  unfold JE OJ;rw[NH (aNU n),BL (r:=if wN n=true then Lib.encodeRuneZ n else Lib.encodeRuneZ 65533) (by unfold RQ;simp)];simp only[sN,aSE];by_cases hs:wN n=true
  .rw[aSB hs,aSB hs];rfl
  rw[aSD hs,aSD hs];rfl
theorem aHe {l:p7}{i:Nat}(h:i<l.length):rI l (i:Int)=((l.getD i 0).toNat:Int):=by
  rw[x9 h,aSZ,aSK h];rfl
theorem aNW {s:p7}{x n:Int}{i:Nat}(h:i<s.length) (hn:(i:Int)<n) (hx:0≤x) (hx1:x≤1000000) (hi:i≤10):DR s n (x,(i:Int))=
    if (s.getD i 0).toNat/64=2 then some (.inl (64*x+(s.getD i 0).toNat-128,((i+1:Nat):Int))) else some (.inr (.inr (65533,1))):=by
  have hb:=(s.getD i 0).toNat_lt;have hy:=aHe h;generalize (s.getD i 0).toNat=B at hb hy|-;unfold DR;dsimp only;rw[aSB (by simpa using hn),aSB (sT h),aSB (fun _=>sT h),hy];by_cases hc:B/64=2
  · rw[aSD pE,aSB hc,aSB (by unfold pX;omega),aSB (sT h),show IntKind.i64.wrap (B:Int)=(B:Int) by rw[aTT];omega,
      aSB (by unfold pX;omega),aSB (by unfold pX;omega),aSB (by unfold pX;omega)]
    rfl
  rw[aSB pE,aSD hc]
theorem a8G {s:p7}{x n i:Int}(h:n≤i):DR s n (x,i)=some (.inr (.inl x)):=by
  unfold DR;dsimp only;rw[aSD (by simpa using h)]
def cont (s:p7) (i:Nat):Bool:=decide ((s.getD i 0).toNat/64=2)
def yC (s:p7) (i:Nat) (x:Int):Int:=64*x+(s.getD i 0).toNat-128
theorem a8H {s:p7}{i:Nat}{x m:Int}(h0:0≤x) (hm:x≤m) (hc:cont s i=true):0≤yC s i x∧yC s i x≤64*m+63:=by
  have hb:=(s.getD i 0).toNat_lt;unfold cont at hc;unfold yC;simp only[aSL] at hc;omega
theorem OV {s:p7}{x n:Int}{i:Nat}(h:i<s.length) (hn:(i:Int)<n) (hx:0≤x) (hx1:x≤1000000) (hi:i≤10):
    rF (DR s n) (x,(i:Int))=if cont s i=true then rF (DR s n) (yC s i x,((i+1:Nat):Int)) else some (.inr (65533,1)):=by
  rw[tB,aNW h hn hx hx1 hi];unfold cont yC;simp only[aSL];by_cases hc:(s.getD i 0).toNat/64=2
  .rw[aSB hc,aSB hc];rfl
  rw[aSD hc,aSD hc];rfl
theorem aNX {s:p7}{x:Int}(h:1<s.length) (hx:0≤x) (hx1:x≤31):rF (DR s 2) (x,1)=some (if cont s 1=true then .inl (yC s 1 x) else .inr (65533,1)):=by
  show rF _ (x,((1:Nat):Int))=_;rw[OV h pC hx pB pC];by_cases c1:cont s 1=true
  .rw[aSB c1,aSB c1,BL (a8G pC)]
  rw[aSD c1,aSD c1]
theorem aNY {s:p7}{x:Int}(h:2<s.length) (hx:0≤x) (hx1:x≤15):rF (DR s 3) (x,1)=some (if (cont s 1&&cont s 2)=true then .inl (yC s 2 (yC s 1 x)) else .inr (65533,1)):=by
  show rF _ (x,((1:Nat):Int))=_;rw[OV pB pC hx pB pC];by_cases c1:cont s 1=true
  · have b1:=a8H hx hx1 c1
    rw[aSB c1,OV h pC b1.1 pB pC,c1,Bool.true_and];by_cases c2:cont s 2=true
    .rw[aSB c2,aSB c2,BL (a8G pC)]
    rw[aSD c2,aSD c2]
  rw[aSD c1,aSD (by simp [c1])]
theorem aNZ {s:p7}{x:Int}(h:3<s.length) (hx:0≤x) (hx1:x≤7):rF (DR s 4) (x,1)=some (if (cont s 1&&cont s 2&&cont s 3)=true then .inl (yC s 3 (yC s 2 (yC s 1 x))) else .inr (65533,1)):=by
  show rF _ (x,((1:Nat):Int))=_;rw[OV pB pC hx pB pC];by_cases c1:cont s 1=true
  · have b1:=a8H hx hx1 c1
    rw[aSB c1,OV pB pC b1.1 pB pC,c1,Bool.true_and];by_cases c2:cont s 2=true
    · have b2:=a8H b1.1 b1.2 c2
      rw[aSB c2,OV h pC b2.1 pB pC,c2,Bool.true_and];by_cases c3:cont s 3=true
      .rw[aSB c3,aSB c3,BL (a8G pC)]
      rw[aSD c3,aSD c3]
    rw[aSD c2,aSD (by simp [c2])]
  rw[aSD c1,aSD (by simp [c1])]
def fin (s:p7) (x:Int) (n:Nat):Int×Int:=if wN x=true∧Lib.encodeRune x=s.take n then(x,n) else(65533,1)
theorem a8I {s:p7}{x:Int}{n:Nat}(hn:n≤s.length):
    (if (((!(((decide ((0:Int)≤x))&&(decide (x≤(1114111:Int))))&&((decide (x<(55296:Int)))||(decide ((57343:Int)<x)))))==false)=true→((BM x)).isSome=true) then
    if (((!(((decide ((0:Int)≤x))&&(decide (x≤(1114111:Int))))&&((decide (x<(55296:Int)))||(decide ((57343:Int)<x)))))==false)=true→0≤(0:Int)∧(0:Int)≤(n:Int)∧(n:Int)≤(s.length:Int)) then
     if ((!(((decide ((0:Int)≤x))&&(decide (x≤(1114111:Int))))&&((decide (x<(55296:Int)))||(decide ((57343:Int)<x)))))||(!decide ((val (BM x))=(qR s (0:Int) (n:Int)))))=true then
      some (((65533:Int),(1:Int)))
     else
      some ((x,(n:Int)))
    else none
   else none)=some (fin s x n):=by
  rw[OU];simp only[show (((decide ((0:Int)≤x))&&(decide (x≤(1114111:Int))))&&((decide (x<(55296:Int)))||(decide ((57343:Int)<x))))=wN x from rfl]
  unfold fin;by_cases hs:wN x=true
  · have ho:=a8E ((HC x).1 hs)
    rw[aSB (fun _=>by rw[ho];rfl),aSB (fun _=>⟨aTl _,pB,pB⟩),ho,hs];by_cases he:Lib.encodeRune x=s.take n
    .rw[aSD (by simp [val,he]),aSB ⟨rfl,he⟩]
    rw[aSB (by simp [val,he]),aSD (fun h=>he h.2)]
  have hs':wN x=false:=by simpa using hs
  rw[aSB (fun h=>by simp [hs'] at h),aSB (fun h=>by simp [hs'] at h),aSB (by simp [hs']),aSD (fun h=>hs h.1)]
theorem HD (z:Int) (l:pH) (x:UInt8) (h:z=(x.toNat:Int)):tP (z::l)=x::tP l:=by
  show UInt8.ofNat z.toNat::tP l=_;rw[h];simp
theorem a8J:tP []=[]:=rfl
theorem OW (l:pH):(tP l).length=l.length:=by simp [tP]
theorem aN0 {s:p7}(hl:1<s.length) (h0:192≤(s.getD 0 0).toNat) (h0':(s.getD 0 0).toNat<224) (hc:cont s 1=true):
    fin s (yC s 1 ((s.getD 0 0).toNat-192)) 2=(((Lib.decodeL s).1:Int),((Lib.decodeL s).2:Int)):=by
  unfold cont at hc;simp only[aSL] at hc;have k0:=(s.getD 0 0).toNat_lt;have k1:=(s.getD 1 0).toNat_lt
  have hd:Lib.decodeL s=if (s.getD 0 0).toNat%32*64+(s.getD 1 0).toNat%64≥128 then((s.getD 0 0).toNat%32*64+(s.getD 1 0).toNat%64,2) else(65533,1):=by
    rw[Lib.decodeL_N];unfold Lib.decodeN;rw[aSD pB,aSB ⟨pB,pB,hc⟩]
  rw[hd];unfold fin yC;rw[Lib.takeB s hl];have hx:wN (64*((s.getD 0 0).toNat-192)+(s.getD 1 0).toNat-128)=true:=(HC _).2 (by unfold AB;omega);rw[hx];by_cases hv:(s.getD 0 0).toNat%32*64+(s.getD 1 0).toNat%64≥128
  · rw[aSB hv,aSB ⟨rfl,by
      rw[XE pB pB,HD _ _ (s.getD 0 0) pB,HD _ _ (s.getD 1 0) pB,a8J]⟩]
    exact Prod.ext (by show _=(((_:Nat)):Int);omega) rfl
  rw[aSD hv,aSD (fun h=>by
    have h2:=aS4 List.length h.2;rw[XD pB pB,OW] at h2;simp at h2)]
  rfl
theorem aN1 {s:p7}(hl:2<s.length) (h0:224≤(s.getD 0 0).toNat) (h0':(s.getD 0 0).toNat<240) (hc:cont s 1=true) (hc2:cont s 2=true):
    fin s (yC s 2 (yC s 1 ((s.getD 0 0).toNat-224))) 3=(((Lib.decodeL s).1:Int),((Lib.decodeL s).2:Int)):=by
  unfold cont at hc hc2;simp only[aSL] at hc hc2;have k0:=(s.getD 0 0).toNat_lt;have k1:=(s.getD 1 0).toNat_lt;have k2:=(s.getD 2 0).toNat_lt;obtain⟨V,hV⟩: ∃V,(s.getD 0 0).toNat%16*4096+(s.getD 1 0).toNat%64*64+(s.getD 2 0).toNat%64=V:=⟨_,rfl⟩
  have hd:Lib.decodeL s=if V≥2048∧(V<55296∨(57344≤V∧V≤1114111)) then(V,3) else(65533,1):=by
    rw[Lib.decodeL_N];unfold Lib.decodeN;rw[aSD pB,aSD pB,aSB ⟨pB,⟨pB,hc⟩,pB,hc2⟩,hV]
  rw[hd];unfold fin yC;rw[Lib.takeC s hl];generalize hX:64*(64*(((s.getD 0 0).toNat:Int)-224)+(s.getD 1 0).toNat-128)+(s.getD 2 0).toNat-128=X;have hXV:X=(V:Int):=by omega
  by_cases hv:V≥2048∧(V<55296∨(57344≤V∧V≤1114111))
  · rw[aSB hv,aSB ⟨(HC _).2 (by unfold AB;omega),by
      rw[a8D pB,HD _ _ (s.getD 0 0) pB,HD _ _ (s.getD 1 0) pB,HD _ _ (s.getD 2 0) pB,a8J]⟩]
    exact Prod.ext hXV rfl
  rw[aSD hv,aSD (fun h=>by
    have hs:=(HC _).1 h.1;unfold AB at hs;have hlt:X<2048:=by omega
    have h2:=aS4 List.length h.2;by_cases h7:X≤127
    .rw[XD pB h7,OW] at h2;simp at h2
    rw[XE pB pB,OW] at h2;simp at h2)]
  rfl
theorem aN2 {s:p7}(hl:3<s.length) (h0:240≤(s.getD 0 0).toNat) (h0':(s.getD 0 0).toNat<248) (hc:cont s 1=true) (hc2:cont s 2=true) (hc3:cont s 3=true):
    fin s (yC s 3 (yC s 2 (yC s 1 ((s.getD 0 0).toNat-240)))) 4=(((Lib.decodeL s).1:Int),((Lib.decodeL s).2:Int)):=by
  unfold cont at hc hc2 hc3;simp only[aSL] at hc hc2 hc3;have k0:=(s.getD 0 0).toNat_lt;have k1:=(s.getD 1 0).toNat_lt;have k2:=(s.getD 2 0).toNat_lt;have k3:=(s.getD 3 0).toNat_lt;obtain⟨V,hV⟩: ∃V,(s.getD 0 0).toNat%8*262144+(s.getD 1 0).toNat%64*4096+(s.getD 2 0).toNat%64*64+(s.getD 3 0).toNat%64=V:=⟨_,rfl⟩
  have hd:Lib.decodeL s=if V≥65536∧(V<55296∨(57344≤V∧V≤1114111)) then(V,4) else(65533,1):=by
    rw[Lib.decodeL_N];unfold Lib.decodeN;rw[aSD pB,aSD pB,aSD pB,aSB ⟨pB,⟨pB,hc⟩,⟨pB,hc2⟩,pB,hc3⟩,hV]
  rw[hd];unfold fin yC;rw[Lib.takeD s hl];generalize hX:64*(64*(64*(((s.getD 0 0).toNat:Int)-240)+(s.getD 1 0).toNat-128)+(s.getD 2 0).toNat-128)+(s.getD 3 0).toNat-128=X;have hXV:X=(V:Int):=by omega
  by_cases hv:V≥65536∧(V<55296∨(57344≤V∧V≤1114111))
  · rw[aSB hv,aSB ⟨(HC _).2 (by unfold AB;omega),by
      rw[aHb pB pB,HD _ _ (s.getD 0 0) pB,HD _ _ (s.getD 1 0) pB,HD _ _ (s.getD 2 0) pB,HD _ _ (s.getD 3 0) pB,a8J]⟩]
    exact Prod.ext hXV rfl
  rw[aSD hv,aSD (fun h=>by
    have hs:=(HC _).1 h.1;unfold AB at hs;have hlt:X<65536:=by omega
    have h2:=aS4 List.length h.2;by_cases h7:X≤127
    .rw[XD pB h7,OW] at h2;simp at h2
    by_cases h8:X≤2047
    .rw[XE pB pB,OW] at h2;simp at h2
    rw[a8D pB,OW] at h2;simp at h2)]
  rfl
theorem ME {s:p7}(h: ¬(s.getD 0 0).toNat<128) (h2: ¬((s.getD 0 0).toNat/32=6∧1<s.length∧cont s 1=true)) (h3: ¬((s.getD 0 0).toNat/16=14∧2<s.length∧(cont s 1&&cont s 2)=true))
    (h4: ¬((s.getD 0 0).toNat/8=30∧3<s.length∧(cont s 1&&cont s 2&&cont s 3)=true)):Lib.decodeL s=(65533,1):=by
  unfold cont at h2 h3 h4;simp only[aSV,aSL] at h2 h3 h4;rw[Lib.decodeL_N];unfold Lib.decodeN;rw[aSD h,aSD (fun⟨a,b,c⟩=>h2 ⟨a,b,c⟩),aSD (fun⟨a,⟨b,c⟩,d,e⟩=>h3 ⟨a,d,c,e⟩),aSD (fun⟨a,⟨b,c⟩,⟨d,e⟩,f,g⟩=>h4 ⟨a,f,⟨c,e⟩,g⟩)]
theorem aN3 {s:p7}(hne:s≠[]):IP s=some (((Lib.decodeL s).1:Int),((Lib.decodeL s).2:Int)):=by
  have hl:0<s.length:=aTJ.2 hne;have hy:rI s 0=((s.getD 0 0).toNat:Int):=aHe (i:=0) hl;have k0:=(s.getD 0 0).toNat_lt;have hw:IntKind.i64.wrap ((s.getD 0 0).toNat:Int)=((s.getD 0 0).toNat:Int):=by rw[aTT];omega
  unfold IP;rw[aSB ⟨aTl _,pB⟩,hy,hw];by_cases c1:(s.getD 0 0).toNat<128
  · rw[aSB (by simp only[aSL];omega)]
    rw[Lib.decodeL_N];unfold Lib.decodeN;rw[aSB c1];rfl
  rw[aSD (by simp only[aSL];omega)]
  by_cases c2:192≤(s.getD 0 0).toNat∧(s.getD 0 0).toNat<224
  · rw[aSB (by simp only[aSV,aSL];omega),aSB (by unfold pX;omega)]
    show (if decide ((s.length:Int)<2)=true then _ else _)=_;by_cases l2:1<s.length
    · rw[aSD (by simp only[aSL];omega),aNX l2 pB pB]
      by_cases hc:cont s 1=true
      · rw[aSB hc,←aN0 l2 c2.1 c2.2 hc,←a8I (s:=s) (n:=2) pB]
        rfl
      rw[aSD hc,ME c1 (fun h=>hc h.2.2) (fun h=>by omega) (fun h=>by omega)]
      rfl
    rw[aSB (by simp only[aSL];omega),ME c1 (fun h=>l2 h.2.1) (fun h=>by omega) (fun h=>by omega)]
    rfl
  rw[aSD (by simp only[aSV,aSL];omega)]
  by_cases c3:224≤(s.getD 0 0).toNat∧(s.getD 0 0).toNat<240
  · rw[aSB (by simp only[aSV,aSL];omega),aSB (by unfold pX;omega)]
    show (if decide ((s.length:Int)<3)=true then _ else _)=_;by_cases l2:2<s.length
    · rw[aSD (by simp only[aSL];omega),aNY l2 pB pB]
      by_cases hc:(cont s 1&&cont s 2)=true
      · have hc':=aSV _ _▸hc
        rw[aSB hc,←aN1 l2 c3.1 c3.2 hc'.1 hc'.2,←a8I (s:=s) (n:=3) pB];rfl
      rw[aSD hc,ME c1 (fun h=>by omega) (fun h=>hc h.2.2) (fun h=>by omega)]
      rfl
    rw[aSB (by simp only[aSL];omega),ME c1 (fun h=>by omega) (fun h=>l2 h.2.1) (fun h=>by omega)]
    rfl
  rw[aSD (by simp only[aSV,aSL];omega)]
  by_cases c4:240≤(s.getD 0 0).toNat∧(s.getD 0 0).toNat<248
  · rw[aSB (by simp only[aSV,aSL];omega),aSB (by unfold pX;omega)]
    show (if decide ((s.length:Int)<4)=true then _ else _)=_;by_cases l2:3<s.length
    · rw[aSD (by simp only[aSL];omega),aNZ l2 pB pB]
      by_cases hc:(cont s 1&&cont s 2&&cont s 3)=true
      · have hc':=aSV _ _▸hc
        have hc'':=aSV _ _▸hc'.1;rw[aSB hc,←aN2 l2 c4.1 c4.2 hc''.1 hc''.2 hc'.2,←a8I (s:=s) (n:=4) pB];rfl
      rw[aSD hc,ME c1 (fun h=>by omega) (fun h=>by omega) (fun h=>hc h.2.2)]
      rfl
    rw[aSB (by simp only[aSL];omega),ME c1 (fun h=>by omega) (fun h=>by omega) (fun h=>l2 h.2.1)]
    rfl
  rw[aSD (by simp only[aSV,aSL];omega),ME c1 (fun h=>by omega) (fun h=>by omega) (fun h=>by omega)]
  rfl
def zC:Nat→p7→pH
  |0,_=>[]
  |n+1,s=>if s=[] then[] else((Lib.decodeL s).1:Int)::zC n (s.drop (Lib.decodeL s).2)
theorem aHf: ∀(n:Nat) (s:p7),(zC n s).length≤n
  |0,_=>aSW _
  | n+1,s=>by
    unfold zC;split
    .simp
    simp only[aSI]
    have:=aHf n (s.drop (Lib.decodeL s).2);omega
theorem aN4 (s:p7):AB ((Lib.decodeL s).1:Int):=by
  have k0:=(s.getD 0 0).toNat_lt;rw[Lib.decodeL_N];rcases Lib.decodeN_shape s.length (s.getD 0 0).toNat (s.getD 1 0).toNat (s.getD 2 0).toNat (s.getD 3 0).toNat with⟨c,e⟩ |⟨c1,c2,c3,cv,e⟩ |⟨c1,c2,c3,c4,cv,cs,e⟩ |⟨c1,c2,c3,c4,c5,cv,cw,e⟩ |e
  all_goals (rw[e];unfold AB;dsimp only;omega)
theorem aHg: ∀(n:Nat) (s:p7) (out:pH),s.length≤n→out.length+s.length≤4000000000→rF OA (s,out)=some (out++zC n s)
  | n,[],out,_,_=>by
    rw[BL (r:=out) (by unfold OA;simp)];cases n<;>simp [zC]
  |0,b::t,_,h,_=>by simp at h
  | n+1,b::t,out,h,ho=>by
    have hne:(b::t)≠[]:=by simp
    have hle:=Lib.decodeL_le (b::t) hne;have hw:=Lib.decodeL_width (b::t)
    have hstep:OA (b::t,out)=some (.inl ((b::t).drop (Lib.decodeL (b::t)).2,out++[((Lib.decodeL (b::t)).1:Int)])):=by
      unfold OA;dsimp only;rw[aSB pD,aN3 hne];simp only[aSE];rw[aSB (by simp only[aSI,aSY] at ho|-;omega),aSB ⟨pB,pB,aTl _⟩,CP]
    rw[NH hstep,aHg n _ _ (by rw[aS8];simp only[aSI] at h hle|-;omega) (by rw[aS8,aSH];simp only[aSI,aSY] at ho hle|-;omega)];rw[show zC (n+1) (b::t)=((Lib.decodeL (b::t)).1:Int)::zC n ((b::t).drop (Lib.decodeL (b::t)).2) by rw[zC,aSD hne],aSN];rfl
def XF (s:p7):pH:=zC s.length s
theorem aN5 (s:p7) (hs:sC s):J0 s=some (XF s):=by
  unfold sC at hs;unfold J0;rw[aHg s.length s [] (aSW _) (by simpa using hs)];rfl
theorem aHh: ∀(n:Nat) (s:p7),∀x∈zC n s,AB x
  |0,_,_,h=>by cases h
  | n+1,s,x,h=>by
    unfold zC at h;split at h
    .cases h
    rcases aSP.1 h with h|h
    .rw[h];exact aN4 s
    exact aHh n _ x h
def JI (l:pH):p7:=(l.map Lib.encodeRune).flatten
theorem a8K (n:Int):(Lib.encodeRune n).length≤4:=by
  unfold Lib.encodeRune;rw[aTw];exact aHc n
theorem aHi (l:pH) (hsc: ∀x∈l,AB x) (hl:sC l): ∀(n j:Nat) (s:p7),j+n=l.length→s.length+4*n≤10000000000000→rF (O9 l) (s,(j:Int))=some (s++JI (l.drop j))
  | 0,j,s,hj,_=>by
    have:j=l.length:=by omega
    subst this;rw[BL (r:=s) (by unfold O9;simp),aTu];simp [JI]
  | n+1,j,s,hj,hs=>by
    have hlt:j<l.length:=by omega
    unfold sC at hl;have hx:=hsc l[j] (aTL hlt);have h4:=a8K l[j]
    have hstep:O9 l (s,(j:Int))=some (.inl (s++Lib.encodeRune l[j],((j+1:Nat):Int))):=by
      unfold O9;dsimp only;rw[aSB (tV hlt),aSB (sT hlt),zA (t:= .int .i64) hlt];have hb:=(HC l[j]).2 hx;unfold wN at hb;rw[aSB hb,aSB (sT hlt),a8E hx];simp only[aSE];rw[aSB (by rw[aSH];omega),aSB (u7 pB)];rfl
    rw[NH hstep,aHi l hsc hl n (j+1) _ pB (by rw[aSH];omega),aS3 hlt,aSN];rfl
theorem aN6 (l:pH) (hsc: ∀x∈l,AB x) (hl:sC l):LQ l=some (JI l):=by
  have hl':=hl;unfold sC at hl';unfold LQ;rw[show ((0:Int))=((0:Nat):Int) from rfl,aHi l hsc hl l.length 0 [] pB pE];rfl
theorem aHj: ∀(n:Nat) (s:p7),s.length≤n→s.length≤(JI (zC n s)).length∧(JI (zC n s)=s↔Lib.validD s=true)
  | n,[],_=>by
    have:zC n []=[]:=by cases n<;>simp [zC]
    rw[this];simp [JI,Lib.validD_nil]
  |0,b::t,h=>by simp at h
  | n+1,b::t,h=>by
    have hne:(b::t)≠[]:=by simp
    have hle:=Lib.decodeL_le (b::t) hne;have hw:=Lib.decodeL_width (b::t);obtain⟨ih1,ih2⟩:=aHj n ((b::t).drop (Lib.decodeL (b::t)).2) (by rw[aS8];simp only[aSI] at h|-;omega)
    have hr:JI (zC (n+1) (b::t))=Lib.encodeRune ((Lib.decodeL (b::t)).1:Int)++JI (zC n ((b::t).drop (Lib.decodeL (b::t)).2)):=by
      rw[zC,aSD hne];rfl
    rw[hr,Lib.validD_step _ hne];rw[aS8] at ih1;by_cases hv:(Lib.decodeL (b::t)).1=65533∧(Lib.decodeL (b::t)).2=1
    · rw[aSB hv,hv.1]
      have e3:(Lib.encodeRune ((65533:Nat):Int)).length=3:=rfl;rw[hv.2] at ih1|-;refine⟨by rw[aSH,e3];omega,fun he=>?_,fun he=>by cases he⟩;have:=aS4 List.length he;rw[aSH,e3] at this;omega
    have he:=Lib.encode_decode (b::t) hne hv
    rw[aSD hv,he];refine⟨by rw[aSH,aTe];omega,?_⟩;rw[←ih2];constructor
    · intro h1
      exact List.append_cancel_left (h1.trans (aTQ _ _).symm)
    intro h1
    rw[h1,aTQ]
theorem aN7 (s:p7) (hs:sC s):E6 s=some (Lib.validD s):=by
  have hl:sC (XF s):=by
    have:=aHf s.length s;unfold sC XF at*;omega
  unfold E6;rw[aN5 s hs];simp only[aSE];rw[aN6 (XF s) (fun x hx=>aHh _ _ x hx) hl];simp only[aSE];congr 1;have:=(aHj s.length s (aSW _)).2;rw[aUf,aSL];exact this
def sR (s:p7):Bool:=decide ((s.length:Int)≤4000)&&Lib.validD s
theorem XG (s:p7) (hs:sC s):M1 s=some ()∧((decide ((s.length:Int)≤4000))&&val (E6 s))=sR s:=by
  unfold M1;rw[aN7 s hs];exact⟨aSB (fun _=>rfl),rfl⟩
theorem aHk (s:p7) (hs:sC s):LN s=some ():=by
  unfold sC at hs;unfold LN RA;rw[aSB (fun _=>by rw[aSB pB];rfl)]
theorem aN8 (a b:p7):(!Op.bytesLess a b)=(Op.bytesLess b a||decide (b=a)):=by
  rw[bytesLess_eq,bytesLess_eq,aUf];simp only[aTg,aTo,aUe,aSL];constructor
  · intro h
    exact(List.le_iff_lt_or_eq.1 (List.not_lt.1 h))
  rintro(h|h)
  .exact List.lt_asymm h
  rw[h];exact List.lt_irrefl _
def BP (l:p8):Bool:=decide ((l.length:Int)≤20)&& !(l.any fun x=> !sR x)
def aHl (l:p8) (i:Nat):Bool:=(!w5 (l.getD i []))||(decide (0<i)&& !Op.bytesLess (l.getD (i-1) []) (l.getD i []))
def XH (l:p8):Bool:= !((List.range l.length).any (aHl l))&&decide ((l.length:Int)≤20)
abbrev fD:tO:=([],([],()))
def a8L (l:List tO) (i:Nat):Bool:=((!w5 (l.getD i fD).1)||(!sR (l.getD i fD).2.1))||(decide (0<i)&& !Op.bytesLess (l.getD (i-1) fD).1 (l.getD i fD).1)
def zR (l:List tO):Bool:= !((List.range l.length).any (a8L l))&&decide ((l.length:Int)≤20)
abbrev S2:=sA
def XI (x:S2):Bool:=
  (((((((!decide (x.1=[]))&&decide ((x.1.length:Int)≤200))&&sR x.1)&&sR x.2.1)&&sR x.2.2.1)&&BP x.2.2.2.1)&&XH x.2.2.2.2.1)&&(decide (0≤x.2.2.2.2.2.1)&&decide (x.2.2.2.2.2.1≤4))&&zR x.2.2.2.2.2.2.1
theorem sib (l:p7) (b:UInt8):vU l (b.toNat:Int)=Lib.indexByte l b:=by
  unfold vU;rw[aTs];congr 1;simp
def uZ (d:UInt8):p7→pK
  |[]=>none
  |[b]=>if b=d then some 0 else none
  |b::c::t=>if b=d then some 0 else if b=92 then(uZ d t).map (· +2) else(uZ d (c::t)).map (· +1)
def JJ:pK→Int
  |some k=>k
  |none=> -1
theorem a8M {d:UInt8}:uZ d []=none:=by unfold uZ;rfl
theorem aHn {d b:UInt8}{t:p7}(h:b=d):uZ d (b::t)=some 0:=by
  subst h;cases t<;>(unfold uZ;simp)
theorem aHo {d b:UInt8}{t:p7}(h:b≠d) (hb:b=92):uZ d (b::t)=(uZ d (t.drop 1)).map (· +2):=by
  cases t with
  |nil=>unfold uZ;rw[aSD h];simp [uZ]
  |cons c t=>rw[uZ,aSD h,aSB hb];rfl
theorem aHp {d b:UInt8}{t:p7}(h:b≠d) (hb:b≠92):uZ d (b::t)=(uZ d t).map (· +1):=by
  cases t with
  |nil=>unfold uZ;rw[aSD h];simp [uZ]
  |cons c t=>rw[uZ,aSD h,aSD hb]
theorem OX {d:UInt8}: ∀(n:Nat) (l:p7) (k:Nat),l.length≤n→uZ d l=some k→k<l.length
  |_,[],_,_,h=>by rw[a8M] at h;cases h
  |0,_::_,_,hn,_=>by simp at hn
  | n+1,b::t,k,hn,h=>by
    simp only[aSI] at hn|-;by_cases h1:b=d
    .rw[aHn h1] at h;cases h;omega
    by_cases h2:b=92
    · rw[aHo h1 h2] at h
      cases h3:uZ d (t.drop 1) with
      |none=>rw[h3] at h;cases h
      | some j=>
        rw[h3] at h;obtain rfl:j+2=k:=aSG h;have:=OX n (t.drop 1) j (by rw[aS8];omega) h3;rw[aS8] at this;omega
    rw[aHp h1 h2] at h
    cases h3:uZ d t with
    |none=>rw[h3] at h;cases h
    | some j=>
      rw[h3] at h;obtain rfl:j+1=k:=aSG h;have:=OX n t j pB h3;omega
theorem S3 {a b:UInt8}:((a.toNat:Int)=(b.toNat:Int))↔a=b:=by
  rw[Int.ofNat_inj];exact UInt8.toNat_inj
theorem a8N (n:Int) (hn:n≠4) (s:p7) (d:UInt8) (hs:sC s): ∀(k i:Nat),s.length+1≤i+k→rF (LC n s (d.toNat:Int)) (i:Int)=some (xV (fun k=> .inr ((i+k:Nat):Int)) (.inl ()) (uZ d (s.drop i)))
  | 0,i,h=>by
    rw[List.drop_eq_nil_of_le pB,a8M,BL (r:= .inl ()) (by unfold LC;rw[aSD pE])];rfl
  | k+1,i,h=>by
    by_cases hlt:i<s.length
    · have hs':=hs
      unfold sC at hs'
      have hstep:LC n s (d.toNat:Int) (i:Int)=if s[i]=d then some (.inr (.inr (i:Int))) else if s[i]=92 then some (.inl ((i+2:Nat):Int)) else some (.inl ((i+1:Nat):Int)):=by
        unfold LC;rw[aSB (tV hlt),aSB (sT hlt),x9 hlt];by_cases h1:s[i]=d
        .rw[aSB (by simp [h1]),aSB h1]
        rw[aSD (by simpa[S3] using h1),aSD h1,aSB (fun _=>sT hlt)]
        have h92:((92:Int))=((92:UInt8).toNat:Int):=rfl;by_cases h2:s[i]=92
        · rw[aSB (by rw[h2];simp [hn]),aSB h2,aSB (u7 pB),aSB (by unfold pX;omega)]
          congr 3
        rw[aSD (fun h=>by
          simp only[aSV,aSL] at h;exact h2 (S3.1 (h.2.trans h92))),aSD h2,aSB (u7 pB)]
        rfl
      rw[tB,hstep,aS3 hlt];by_cases h1:s[i]=d
      .rw[aSB h1,aHn h1];rfl
      rw[aSD h1]
      by_cases h2:s[i]=92
      · rw[aSB h2,aHo h1 h2]
        show rF _ ((i+2:Nat):Int)=_;rw[a8N n hn s d hs k (i+2) pB,aUA];cases uZ d (s.drop (i+2)) with
        |none=>rfl
        | some j=>
          show some (Sum.inr ((i+2+j:Nat):Int))=some (Sum.inr ((i+(j+2):Nat):Int));rw[show i+2+j=i+(j+2) by omega]
      rw[aSD h2,aHp h1 h2]
      show rF _ ((i+1:Nat):Int)=_;rw[a8N n hn s d hs k (i+1) pB];cases uZ d (s.drop (i+1)) with
      |none=>rfl
      | some j=>
        show some (Sum.inr ((i+1+j:Nat):Int))=some (Sum.inr ((i+(j+1):Nat):Int));rw[show i+1+j=i+(j+1) by omega]
    rw[List.drop_eq_nil_of_le pB,a8M,BL (r:= .inl ()) (by unfold LC;rw[aSD pE])]
    rfl
theorem aHq {n:Int}(h1:1≤n) (h3:n≤3) (s:p7) (d:UInt8) (hs:sC s):GO n s (d.toNat:Int)=some (JJ (uZ d s)):=by
  unfold GO;have h:=a8N n pB s d hs (s.length+1) 0 pB;rw[aSD pE,show ((0:Int))=((0:Nat):Int) from rfl,h,aTM];cases uZ d s with
  |none=>rfl
  | some k=>
    show some (((0+k:Nat)):Int)=some (k:Int);rw[aTa]
theorem aN9 (n:Int) (s:p7) (c:Int):LB n s c=GO n s c:=by
  unfold LB GO;rfl
def B4 (c base:Int):Int:=
  let n:=if 48≤c∧c≤57 then c-48 else if 97≤c∧c≤102 then c-87 else if 65≤c∧c≤70 then c-55 else-1
  if base≤n then-1 else n
theorem aOa {c:Int}(base:Int) (h0:0≤c) (h1:c≤255):LF c base=some (B4 c base):=by
  unfold LF B4;by_cases a:48≤c∧c≤57
  · rw[aSB (by simpa using a),aSB a,show IntKind.i64.wrap (IntKind.u8.wrap (c-48))=c-48 by rw[aTY,aTT];omega]
    simp only[sN,aSE,aSL];split<;>rfl
  rw[aSD (by simpa using a),aSD a]
  by_cases b:97≤c∧c≤102
  · rw[aSB (by simpa using b),aSB b,show IntKind.i64.wrap (IntKind.u8.wrap (c-97))=c-97 by rw[aTY,aTT];omega,aSB (by unfold pX;omega),show c-97+10=c-87 by omega]
    simp only[sN,aSE,aSL];split<;>rfl
  rw[aSD (by simpa using b),aSD b]
  by_cases d:65≤c∧c≤70
  · rw[aSB (by simpa using d),aSB d,show IntKind.i64.wrap (IntKind.u8.wrap (c-65))=c-65 by rw[aTY,aTT];omega,aSB (by unfold pX;omega),show c-65+10=c-55 by omega]
    simp only[sN,aSE,aSL];split<;>rfl
  rw[aSD (by simpa using d),aSD d]
  simp only[sN,aSE,aSL];split<;>rfl
def XJ:p7:=[48,49,50,51,52,53,54,55,56,57,97,98,99,100,101,102]
theorem aOb: ∀n:Fin 256,Lib.indexByte XJ (UInt8.ofNat n)=if 48≤(n.val:Int)∧(n.val:Int)≤57 then(n.val:Int)-48 else if 97≤(n.val:Int)∧(n.val:Int)≤102 then(n.val:Int)-87 else-1:=by decide
theorem aOc (b:UInt8):Lib.indexByte XJ b=if 48≤(b.toNat:Int)∧(b.toNat:Int)≤57 then(b.toNat:Int)-48 else if 97≤(b.toNat:Int)∧(b.toNat:Int)≤102 then(b.toNat:Int)-87 else-1:=by
  have:=aOb ⟨b.toNat,b.toNat_lt⟩;simpa using this
def zD (base:Int):Int→p7→Option Int
  |acc,[]=>some acc
  |acc,b::t=>if B4 b.toNat base<0 then none else zD base (base*acc+B4 b.toNat base) t
theorem aHr {c base:Int}(hb:0<base): -1≤B4 c base∧B4 c base<base:=by
  unfold B4;dsimp only
  repeat' split
  all_goals omega
theorem aHs (s:p7) (base:Int) (hb:0<base) (hb16:base≤16) (hs:s.length≤8): ∀(k j:Nat) (acc:Int),j+k=s.length→0≤acc→acc<16^j→
    rF (OD s base) (acc,(j:Int))=some (match zD base acc (s.drop j) with|some n=> .inl n|none=> .inr (-1))
  | 0,j,acc,hj,_,_=>by
    have:j=s.length:=by omega
    subst this;rw[aTu,BL (r:= .inl acc) (by unfold OD;simp)];rfl
  | k+1,j,acc,hj,h0,h1=>by
    have hlt:j<s.length:=by omega
    have hc:=s[j].toNat_lt;have hd:=aHr (c:=(s[j].toNat:Int)) hb
    have hp:(16:Int) ^j≤16^8:=by
      have:(16:Nat) ^j≤16^8:=Nat.pow_le_pow_right pC pB
      exact_mod_cast this
    have h8:(16:Int) ^8=4294967296:=by decide
    have hm:base*acc≤16*acc:=Int.mul_le_mul_of_nonneg_right hb16 h0;have hm0:0≤base*acc:=Int.mul_nonneg pB h0
    have hstep:OD s base (acc,(j:Int))=if B4 s[j].toNat base<0 then some (.inr (.inr (-1))) else some (.inl (base*acc+B4 s[j].toNat base,((j+1:Nat):Int))):=by
      unfold OD;dsimp only;rw[aSB (tV hlt),aSB (sT hlt),x9 hlt,aOa base pB pB];simp only[aSE,aSL];by_cases hn:B4 s[j].toNat base<0
      .rw[aSB hn,aSB hn]
      rw[aSD hn,aSD hn,aSB (by unfold pX;omega),aSB (by unfold pX;omega),aSB (u7 pB)]
      rfl
    rw[tB,hstep,aS3 hlt,zD];by_cases hn:B4 s[j].toNat base<0
    .rw[aSB hn,aSB hn];rfl
    rw[aSD hn,aSD hn]
    show rF _ (_,((j+1:Nat):Int))=_;exact aHs s base hb hb16 hs k (j+1) _ pB pB (by rw[Int.pow_succ];omega)
theorem aHt (s:p7) (base:Int) (hb:0<base) (hb16:base≤16) (hs:s.length≤8):FC s base=some (if s=[] then-1 else(zD base 0 s).getD (-1)):=by
  unfold FC;rw[show ((0:Int),(0:Int))=((0:Int),((0:Nat):Int)) from rfl,aHs s base hb hb16 hs s.length 0 0 pB pB pC,aTM];cases h:zD base 0 s with
  | none=>
    have:s≠[]:=by intro hn;subst hn;simp [zD] at h
    rw[aSD this];rfl
  | some n=>
    show (if decide (s=[])=true then _ else _)=_;by_cases he:s=[]
    .rw[aSB (by simpa using he),aSB he]
    rw[aSD (by simpa using he),aSD he];rfl
theorem aHu (s:p7) (base:Int) (hb:0<base) (hb16:base≤16) (hs:s.length≤8): ∀(k j:Nat) (acc:Int),j+k=s.length→0≤acc→acc<16^j→
    rF (O2 s base) (acc,(j:Int))=some (match zD base acc (s.drop j) with|some n=> .inl n|none=> .inr (0,false))
  | 0,j,acc,hj,_,_=>by
    have:j=s.length:=by omega
    subst this;rw[aTu,BL (r:= .inl acc) (by unfold O2;simp)];rfl
  | k+1,j,acc,hj,h0,h1=>by
    have hlt:j<s.length:=by omega
    have hc:=s[j].toNat_lt;have hd:=aHr (c:=(s[j].toNat:Int)) hb
    have hp:(16:Int) ^j≤16^8:=by
      have:(16:Nat) ^j≤16^8:=Nat.pow_le_pow_right pC pB
      exact_mod_cast this
    have h8:(16:Int) ^8=4294967296:=by decide
    have hm:acc*base≤acc*16:=Int.mul_le_mul_of_nonneg_left hb16 h0;have hm0:0≤acc*base:=Int.mul_nonneg h0 pB;have hcm:acc*base=base*acc:=Int.mul_comm _ _
    have hstep:O2 s base (acc,(j:Int))=if B4 s[j].toNat base<0 then some (.inr (.inr (0,false))) else some (.inl (base*acc+B4 s[j].toNat base,((j+1:Nat):Int))):=by
      unfold O2;dsimp only;rw[aSB (tV hlt),aSB (sT hlt),aSB (sT hlt),aSB (fun _=>sT hlt),x9 hlt,aSB (sT hlt),sib];have hidx:=aOc s[j]
      have hval:(if ((decide ((65:Int)≤(s[j].toNat:Int)))&&(decide ((s[j].toNat:Int)≤(70:Int))))=true then(if pX ((IntKind.wrap .i64 (IntKind.wrap .u8 ((s[j].toNat:Int)- (65:Int))))+(10:Int)) then some (((IntKind.wrap .i64 (IntKind.wrap .u8 ((s[j].toNat:Int)- (65:Int))))+(10:Int))) else none) else some (Lib.indexByte XJ s[j]))=some (if 48≤(s[j].toNat:Int)∧(s[j].toNat:Int)≤57 then(s[j].toNat:Int)-48 else if 97≤(s[j].toNat:Int)∧(s[j].toNat:Int)≤102 then(s[j].toNat:Int)-87 else if 65≤(s[j].toNat:Int)∧(s[j].toNat:Int)≤70 then(s[j].toNat:Int)-55 else-1):=by
        by_cases c:65≤(s[j].toNat:Int)∧(s[j].toNat:Int)≤70
        · rw[aSB (by simpa using c),show IntKind.i64.wrap (IntKind.u8.wrap ((s[j].toNat:Int)-65))=(s[j].toNat:Int)-65 by rw[aTY,aTT];omega,aSB (by unfold pX;omega),aSD pB,aSD pB,aSB c]
          congr 1;omega
        rw[aSD (by simpa using c),hidx,aSD c]
      unfold sN;rw[show ([48,49,50,51,52,53,54,55,56,57,97,98,99,100,101,102]:p7)=XJ from rfl,hval];simp only[aSE];unfold B4;dsimp only;generalize (if 48≤(s[j].toNat:Int)∧(s[j].toNat:Int)≤57 then(s[j].toNat:Int)-48 else if 97≤(s[j].toNat:Int)∧(s[j].toNat:Int)≤102 then(s[j].toNat:Int)-87 else if 65≤(s[j].toNat:Int)∧(s[j].toNat:Int)≤70 then(s[j].toNat:Int)-55 else-1)=D;by_cases hn:D<0∨base≤D
      · rw[aSB (by simpa using hn)]
        by_cases hbD:base≤D
        .rw[aSB hbD,aSB pC]
        rw[aSD hbD,aSB pB]
      rw[aSD (by simpa using hn)]
      have hbD: ¬base≤D:=fun h=>hn (.inr h);have hD0: ¬D<0:=fun h=>hn (.inl h);rw[aSD hbD,aSD hD0,aSB (by unfold pX;omega),aSB (by unfold pX;omega),aSB (u7 pB),hcm];rfl
    rw[tB,hstep,aS3 hlt,zD];by_cases hn:B4 s[j].toNat base<0
    .rw[aSB hn,aSB hn];rfl
    rw[aSD hn,aSD hn]
    show rF _ (_,((j+1:Nat):Int))=_;exact aHu s base hb hb16 hs k (j+1) _ pB pB (by rw[Int.pow_succ];omega)
theorem aHv (s:p7) (base:Int) (hb:0<base) (hb16:base≤16) (hs:s.length≤8):F7 s base=some (match zD base 0 s with|some n=>(n,!decide (s=[])) |none=>(0,false)):=by
  unfold F7;rw[show ((0:Int),(0:Int))=((0:Int),((0:Nat):Int)) from rfl,aHu s base hb hb16 hs s.length 0 0 pB pB pC,aTM];cases h:zD base 0 s with
  |none=>rfl
  |some n=>rfl
theorem S4 {base:Int}(hb:0<base): ∀{s:p7}{acc n:Int},0≤acc→zD base acc s=some n→0≤n
  |[],acc,n,h0,h=>by cases h;exact h0
  | b::t,acc,n,h0,h=>by
    rw[zD] at h;split at h
    .cases h
    exact S4 hb (by have:=Int.mul_nonneg (Int.le_of_lt hb) h0;omega) h
theorem aOd (b:UInt8) (l:p7) (hl:sC l):GM (b.toNat:Int) l=some (l.contains b):=by
  unfold sC at hl
  have h:=FE (f:=RB (b.toNat:Int) l) (l:=l) (fun x=>decide (x=b)) (fun _=>true) (fun i h=>by
    unfold RB;rw[aSB (tV h),aSB (sT h),x9 h,aSB (u7 pB)];simp only[S3,aSL]) (by
    unfold RB;rw[aSD (xA _)])
  unfold GM;rw[h,H8,aNO];congr 1;rw[aUf];simp
def MF:p7:=[92,34,61,58,35,33,123,125,32]
def FF (l:p7) (k:Nat) (ok:Int→Bool) (f:Int→p7):p7×Nat:=
  match zD 16 0 l with
  |some n=>if ok n=true then(f n,k) else([],0)
  |none=>([],0)
def BQ (l:p7):p7×Nat:=
  match l with
  | _::c::t=>
    if c=110 then([10],2) else if c=114 then([13],2) else if c=116 then([9],2)
    else if MF.contains c=true then([c],2)
    else if c=120∧2≤t.length then FF (t.take 2) 4 (fun n=>decide (n≤127)) (fun n=>tP [n])
    else if c=117∧4≤t.length then FF (t.take 4) 6 wN Lib.encodeRune
    else([],0)
  |_=>([],0)
theorem v7 {a:UInt8}{n:Int}(b:UInt8) (hb:n=(b.toNat:Int)):decide ((a.toNat:Int)=n)=decide (a=b):=by
  rw[hb];simp only[S3]
theorem aHw (a c:UInt8) (t:p7):qR (a::c::t) 2 4=t.take 2:=rfl
theorem aHx (a c:UInt8) (t:p7):qR (a::c::t) 2 6=t.take 4:=rfl
theorem aHy (a c:UInt8) (t:p7):qR (a::c::t) 1 2=[c]:=rfl
theorem aOe (a:UInt8) (t:p7):GY (a::t)=some ((BQ (a::t)).1,((BQ (a::t)).2:Int)):=by
  cases t with
  |nil=>unfold GY;rw[aSB pD];rfl
  | cons c t=>
    have hy:rI (a::c::t) (1:Int)=(c.toNat:Int):=x9 (i:=1) pD;unfold GY;rw[aSD pE,aSB (⟨pC,by simp;omega⟩),hy,v7 (n:=110) 110 rfl,v7 (n:=114) 114 rfl,v7 (n:=116) 116 rfl,v7 (n:=120) 120 rfl,v7 (n:=117) 117 rfl,aOd c _ (by unfold sC;decide),aHw,aHx,aHy];show _=some ((if c=110 then(([10],2):p7×Nat) else _).1,((if c=110 then(([10],2):p7×Nat) else _).2:Int));by_cases h1:c=110
    .rw[aSB (by simpa using h1),aSB h1];rfl
    rw[aSD (by simpa using h1),aSD h1];by_cases h2:c=114
    .rw[aSB (by simpa using h2),aSB h2];rfl
    rw[aSD (by simpa using h2),aSD h2];by_cases h3:c=116
    .rw[aSB (by simpa using h3),aSB h3];rfl
    rw[aSD (by simpa using h3),aSD h3,aSE];show (if MF.contains c=true then _ else _)=_;by_cases h4:MF.contains c=true
    .rw[aSB h4,aSB h4,aSB ⟨pC,pC,by simp;omega⟩];rfl
    rw[aSD h4,aSD h4];have hlen:((a::c::t).length:Int)=(t.length:Int)+2:=by simp;omega
    rw[hlen];by_cases h5:c=120∧2≤t.length
    · rw[aSB (by simp [h5.1];omega),aSB h5,aSB ⟨pC,pC,pB⟩,aHt _ 16 pC pC (by rw[aTe];omega),aSD (by intro h;have:=aS4 List.length h;rw[aTe,aSY] at this;omega),aSE]
      unfold FF;cases hn:zD 16 0 (t.take 2) with
      |none=>rfl
      | some n=>
        have h0:=S4 pC (aTl 0) hn;simp only[aT1];by_cases h7:n≤127
        .rw[aSB pE,aSB (by simpa using h7),aTY,show n%256=n by omega];rfl
        rw[aSD pE,aSD (by simpa using h7)];rfl
    rw[aSD (by simp only[aSV,aSL];intro h;exact h5 ⟨h.1,pB⟩),aSD h5];by_cases h6:c=117∧4≤t.length
    · rw[aSB (by simp [h6.1];omega),aSB h6,aSB ⟨pC,pC,pB⟩,aHt _ 16 pC pC (by rw[aTe];omega),aSD (by intro h;have:=aS4 List.length h;rw[aTe,aSY] at this;omega),aSE]
      unfold FF;cases hn:zD 16 0 (t.take 4) with
      |none=>rfl
      | some n=>
        have h0:=S4 pC (aTl 0) hn;simp only[aT1];show (if (decide (0≤n)&&wN n)=true then _ else _)=_;by_cases h7:wN n=true
        .rw[aSB (by simp [h7,h0]),aSB h7,a8E ((HC n).1 h7)];rfl
        rw[aSD (by simp [h7]),aSD h7];rfl
    rw[aSD (by simp only[aSV,aSL];intro h;exact h6 ⟨h.1,pB⟩),aSD h6];rfl
theorem aOf (a:UInt8) (t:p7):GZ (a::t)=some ((BQ (a::t)).1,((BQ (a::t)).2:Int)):=by
  cases t with
  |nil=>unfold GZ;rw[aSB pD];rfl
  | cons c t=>
    have hy:rI (a::c::t) (1:Int)=(c.toNat:Int):=x9 (i:=1) pD;have hlen:((a::c::t).length:Int)=(t.length:Int)+2:=by simp;omega
    unfold GZ;rw[aSD pE,aSB (⟨pC,by simp;omega⟩),hy,v7 (n:=110) 110 rfl,v7 (n:=114) 114 rfl,v7 (n:=116) 116 rfl,v7 (n:=120) 120 rfl,v7 (n:=117) 117 rfl,sib,aHw,aHx,aHy,hlen,←Lib.contains_iff_indexByte];show _=some ((if c=110 then(([10],2):p7×Nat) else _).1,((if c=110 then(([10],2):p7×Nat) else _).2:Int));by_cases h1:c=110
    .rw[aSB (by simpa using h1),aSB h1];rfl
    rw[aSD (by simpa using h1),aSD h1];by_cases h2:c=114
    .rw[aSB (by simpa using h2),aSB h2];rfl
    rw[aSD (by simpa using h2),aSD h2];by_cases h3:c=116
    .rw[aSB (by simpa using h3),aSB h3];rfl
    rw[aSD (by simpa using h3),aSD h3];by_cases hx:c=120
    · subst hx
      rw[aSB (show decide ((120:UInt8)=120)=true from rfl),aSD (show¬MF.contains 120=true by decide)];by_cases h5:2≤t.length
      · rw[aSB pE,aSB ⟨pC,pC,pB⟩,aSB (show _∧_ from⟨rfl,h5⟩),aHv _ 16 pC pC (by rw[aTe];omega),aSE]
        unfold FF;cases hn:zD 16 0 (t.take 2) with
        |none=>rfl
        | some n=>
          have h0:=S4 pC (aTl 0) hn;have hne:t.take 2≠[]:=by intro h;have:=aS4 List.length h;rw[aTe,aSY] at this;omega
          simp only[hne,decide_false,Bool.not_false,Bool.true_and];by_cases h7:n≤127
          .rw[aSB (by simpa using h7),aSB (by simpa using h7),aTY,show n%256=n by omega];rfl
          rw[aSD (by simpa using h7),aSD (by simpa using h7)];rfl
      rw[aSD pE,aSD (fun h=>h5 h.2),aSD (show¬((120:UInt8)=117∧4≤t.length) from fun h=>by cases h.1)]
      rfl
    rw[aSD (by simpa using hx)];by_cases hu:c=117
    · subst hu
      rw[aSB (show decide ((117:UInt8)=117)=true from rfl),aSD (show¬MF.contains 117=true by decide),aSD (show¬((117:UInt8)=120∧2≤t.length) from fun h=>by cases h.1)];by_cases h5:4≤t.length
      · rw[aSB pE,aSB ⟨pC,pC,pB⟩,aSB (show _∧_ from⟨rfl,h5⟩),aHv _ 16 pC pC (by rw[aTe];omega),aSE]
        unfold FF;cases hn:zD 16 0 (t.take 4) with
        |none=>rfl
        | some n=>
          have h0:=S4 pC (aTl 0) hn;have hne:t.take 4≠[]:=by intro h;have:=aS4 List.length h;rw[aTe,aSY] at this;omega
          simp only[hne,decide_false,Bool.not_false];rw[aSB trivial,aNV,aSE]
          have hb:wN n=(decide (n≤1114111)&&(decide (n<55296)||decide (57343<n))):=by
            unfold wN;rw[show decide ((0:Int)≤n)=true by simpa using h0,Bool.true_and]
          rw[←hb];by_cases h7:wN n=true
          .rw[aSB h7,aSB h7,aSB h7];rfl
          rw[aSD h7,aSD h7];rfl
      rw[aSD pE,aSD (fun h=>h5 h.2)]
      rfl
    rw[aSD (by simpa using hu)];show (if MF.contains c=true then _ else _)=_;by_cases h4:MF.contains c=true
    .rw[aSB h4,aSB h4,aSB ⟨pC,pC,pB⟩];rfl
    rw[aSD h4,aSD h4,aSD (fun h=>hx h.1),aSD (fun h=>hu h.1)]
    rfl
def B5 (n:Int) (b:UInt8):Bool:=decide (b=10)||((decide (n=2)||decide (n=3))&&decide (b=34))
def uD (n:Int):p7→p7×Nat
  |[]=>([],0)
  |b::t=>if b=92 then BQ (b::t) else if B5 n b=true then([b],0) else([b],1)
theorem XK {l:p7}{k:Nat}{ok:Int→Bool}{f:Int→p7}(hf: ∀n,(f n).length≤4):(FF l k ok f).1.length≤4∧((FF l k ok f).2=0∨(FF l k ok f).2=k):=by
  unfold FF;cases zD 16 0 l with
  |none=>exact⟨by simp,.inl rfl⟩
  | some n=>
    dsimp only;split
    .exact⟨hf n,.inr rfl⟩
    exact⟨by simp,.inl rfl⟩
theorem aOg (l:p7):(BQ l).1.length≤4∧(BQ l).2≤l.length:=by
  unfold BQ;split
  · rename_i a c t
    have h1:=XK (l:=t.take 2) (k:=4) (ok:=fun n=>decide (n≤127)) (f:=fun n=>tP [n]) (fun n=>by simp [tP]);have h2:=XK (l:=t.take 4) (k:=6) (ok:=wN) (f:=Lib.encodeRune) a8K
    repeat' split
    all_goals first
      |exact⟨by simp,by simp⟩
      |(rename_i h;exact⟨h1.1,by rcases h1.2 with e|e<;>rw[e]<;>simp<;>omega⟩)
      |(rename_i h;exact⟨h2.1,by rcases h2.2 with e|e<;>rw[e]<;>simp<;>omega⟩)
  exact⟨by simp,by simp⟩
theorem XL {n:Int}{b:UInt8}{t:p7}(h:b=92):uD n (b::t)=BQ (b::t):=aSB h
theorem S5 {n:Int}{b:UInt8}{t:p7}(h:b≠92) (hb:B5 n b=true):uD n (b::t)=([b],0):=(aSD h).trans (aSB hb)
theorem XM {n:Int}{b:UInt8}{t:p7}(h:b≠92) (hb: ¬B5 n b=true):uD n (b::t)=([b],1):=(aSD h).trans (aSD hb)
theorem S6 (n:Int) (l:p7):(uD n l).1.length≤4∧(uD n l).2≤l.length:=by
  cases l with
  |nil=>exact⟨by simp [uD],by simp [uD]⟩
  | cons b t=>
    by_cases h:b=92
    .rw[XL h];exact aOg _
    by_cases hb:B5 n b=true
    .rw[S5 h hb];exact⟨by simp,by simp⟩
    rw[XM h hb];exact⟨by simp,by simp⟩
def yD (n:Int):Nat→p7→p7⊕Nat
  |0,_=> .inl []
  |_+1,[]=> .inl []
  | k+1,b::t=>if (uD n (b::t)).2=0 then .inr 0 else match yD n k ((b::t).drop (uD n (b::t)).2) with
    | .inl r=> .inl ((uD n (b::t)).1++r)
    | .inr e=> .inr ((uD n (b::t)).2+e)
def uE (n:Int) (s:p7):p7×Int×Int:=match yD n s.length s with
  | .inl r=>(r,0,0)
  | .inr e=>([],e,3)
theorem aHz (a b:p7):uK (a++b)=uK a++uK b:=by simp [uK]
theorem aHA (a:p7):tP (uK a)=a:=by
  unfold tP uK;rw[List.map_map]
  conv=>rhs;rw[←List.map_id a]
  congr 1;funext b;simp
theorem aOh {s:p7}{i:Nat}(h:i<s.length):qR s (i:Int) ((i:Int)+1)=[s[i]]:=by
  unfold qR;rw[aTs,show ((i:Int)+1).toNat-i=1 by omega,aS3 h];rfl
theorem aOi {n:Int}(h1:1≤n) (h3:n≤3) {s:p7}(hs:sC s) {x:pH}{i:Nat}(hi:i<s.length) (hx:x.length≤10000000000000):
    OK n s (x,(i:Int))=if (uD n (s.drop i)).2=0 then some (.inr (.inr ([],(i:Int),3))) else some (.inl (x++uK (uD n (s.drop i)).1,((i+(uD n (s.drop i)).2:Nat):Int))):=by
  have hs':=hs;unfold sC at hs';have hn4:decide (n=4)=false:=by simp;omega
  have hp:=S6 n (s.drop i);rw[aS8] at hp;unfold OK;dsimp only;rw[aSB (tV hi),aSB (sT hi),aSB (u7 pB),aSB ⟨pB,pB,pB⟩,x9 hi,aOh hi,CP,v7 (n:=92) 92 rfl,v7 (n:=38) 38 rfl,v7 (n:=10) 10 rfl,v7 (n:=34) 34 rfl,hn4]
  have hb: ∀v:p7×Nat,v.1.length≤4→v.2≤s.length-i→
      ((if decide ((v.2:Int)=0)=true then(some (.inr (.inr (([]:p7),(i:Int),(3:Int)))):Option ((pH×Int)⊕(pH⊕(p7×Int×Int)))) else if x.length+v.1.length≤140737488355328 then if pX ((i:Int)+(v.2:Int)) then some (.inl ((x++uK v.1),((i:Int)+(v.2:Int)))) else none else none)=if v.2=0 then some (.inr (.inr ([],(i:Int),3))) else some (.inl (x++uK v.1,((i+v.2:Nat):Int)))):=fun v hv1 hv2=>by
    by_cases h0:v.2=0
    .rw[aSB (by simp [h0]),aSB h0]
    rw[aSD (by simpa using h0),aSD h0,aSB pB,aSB (by unfold pX;omega)]
    rfl
  rw[aS3 hi] at hp|-;simp only[Bool.not_false,Bool.true_and,aUa,aTS,aUy];by_cases c1:s[i]=92
  · rw[XL c1] at hp|-
    rw[aSB (by simpa using c1),aSB ⟨pB,pB,aTl _⟩,aOe];unfold sN;simp only[aSE];exact hb _ hp.1 hp.2
  rw[aSD (by simpa using c1)]
  by_cases c2:s[i]=10
  · rw[aSB (by simpa using c2),aSB (by simpa using c2),S5 c1 (show B5 n s[i]=true by simp [B5,c2])]
    unfold sN;simp only[aSE];exact hb ([s[i]],0) pD pD
  rw[aSD (by simpa using c2)]
  by_cases c3:((decide (n=2)||decide (n=3))&&decide (s[i]=34))=true
  · rw[aSB c3,aSB c3,S5 c1 (show B5 n s[i]=true by unfold B5;rw[c3];simp)]
    unfold sN;simp only[aSE];exact hb ([s[i]],0) pD pD
  have hbad:B5 n s[i]=false:=by
    have c3':((decide (n=2)||decide (n=3))&&decide (s[i]=34))=false:=by simpa using c3
    unfold B5;rw[c3'];simp [c2]
  have hbad': ¬B5 n s[i]=true:=by simp [hbad]
  rw[XM c1 hbad'] at hp|-;rw[aSD c3,aSB (fun h=>by simp at h)];unfold sN;simp only[aSE];exact hb ([s[i]],1) pD hp.2
theorem aOj {n:Int}(h1:1≤n) (h3:n≤3) (b:UInt8):LD n (b.toNat:Int)=B5 n b:=by
  unfold LD B5 AP;rw[v7 (n:=10) 10 rfl,v7 (n:=34) 34 rfl];by_cases c1:n=1
  .subst c1;simp
  have h23:n=2∨n=3:=by omega
  rcases h23 with rfl|rfl<;>simp
theorem aOk {x:pH}{c:Int}(hx:x.length≤10000000000000):LE (x,()) c=some ():=by
  unfold LE;exact aSB (by simp only[aTI,aUs];omega)
theorem aOl {x:pH}{t:p7}(hx:x.length≤10000000000000) (ht:t.length≤4000000000):L6 (x,()) t=some ():=by
  unfold L6;exact aSB (by dsimp only;omega)
theorem aOm {n:Int}(h1:1≤n) (h3:n≤3) {s:p7}(hs:sC s) {x:pH}{i:Nat}(hi:i<s.length) (hx:x.length≤10000000000000):
    OM n s ((i:Int),x)=if (uD n (s.drop i)).2=0 then some (.inr (.inr ([],(i:Int),3))) else some (.inl (((i+(uD n (s.drop i)).2:Nat):Int),x++uK (uD n (s.drop i)).1)):=by
  have hs':=hs;unfold sC at hs';have hp:=S6 n (s.drop i);rw[aS8] at hp;unfold OM;dsimp only;rw[aSB (tV hi),aSB (sT hi),x9 hi,CP,v7 (n:=92) 92 rfl,aOj h1 h3];rw[aS3 hi] at hp|-;by_cases c1:s[i]=92
  · rw[XL c1] at hp|-
    rw[aSB (by simpa using c1),aSB ⟨pB,pB,aTl _⟩,aOf];simp only[aSE];by_cases h0:(BQ (s[i]::s.drop (i+1))).2=0
    .rw[aSB (by rw[h0];rfl),aSB h0]
    rw[aSD (by rw[aSL];omega),aSD h0,aOl hx pB]
    simp only[aSE];rw[aSB (by unfold pX;omega)];rfl
  rw[aSD (by simpa using c1),aSB (sT hi)]
  by_cases hb:B5 n s[i]=true
  .rw[aSB hb,S5 c1 hb];rfl
  rw[aSD hb,XM c1 hb,aSB (sT hi),aOk hx,aSE]
  rw[aSB (u7 pB)];rfl
theorem aHB {n:Int}(h1:1≤n) (h3:n≤3) {s:p7}(hs:sC s): ∀(k i:Nat) (x:pH),i≤s.length→s.length-i≤k→x.length+4*(s.length-i)≤5000000000000→
    rF (OK n s) (x,(i:Int))=some (match yD n k (s.drop i) with| .inl r=> .inl (x++uK r) | .inr e=> .inr ([],((i+e:Nat):Int),3))
  | k,i,x,hi,hk,hx=>by
    by_cases hlt:i<s.length
    · cases k with
      |zero=>omega
      | succ k=>
        have hp:=S6 n (s.drop i);rw[tB,aOi h1 h3 hs hlt pB];rw[aS8] at hp
        have hu:yD n (k+1) (s.drop i)=if (uD n (s.drop i)).2=0 then .inr 0 else match yD n k ((s.drop i).drop (uD n (s.drop i)).2) with
            | .inl r=> .inl ((uD n (s.drop i)).1++r)
            | .inr e=> .inr ((uD n (s.drop i)).2+e):=by
          rw[aS3 hlt,yD]
        rw[hu];by_cases h0:(uD n (s.drop i)).2=0
        .rw[aSB h0,aSB h0];rfl
        rw[aSD h0,aSD h0]
        show rF _ (_,((i+(uD n (s.drop i)).2:Nat):Int))=_;rw[aHB h1 h3 hs k _ _ pB pB (by rw[aSH];simp only[uK,aTw];omega),aUA];cases yD n k (s.drop (i+(uD n (s.drop i)).2)) with
        |inl r=>dsimp only;rw[aHz,aSN]
        |inr e=>dsimp only;rw[aTj]
    have:i=s.length:=by omega
    subst this;rw[BL (r:= .inl x) (by unfold OK;simp),aTu];cases k<;>simp [yD,uK]
theorem aHC {n:Int}(h1:1≤n) (h3:n≤3) {s:p7}(hs:sC s): ∀(k i:Nat) (x:pH),i≤s.length→s.length-i≤k→x.length+4*(s.length-i)≤5000000000000→
    rF (OM n s) ((i:Int),x)=some (match yD n k (s.drop i) with| .inl r=> .inl (x++uK r) | .inr e=> .inr ([],((i+e:Nat):Int),3))
  | k,i,x,hi,hk,hx=>by
    by_cases hlt:i<s.length
    · cases k with
      |zero=>omega
      | succ k=>
        have hp:=S6 n (s.drop i);rw[tB,aOm h1 h3 hs hlt pB];rw[aS8] at hp
        have hu:yD n (k+1) (s.drop i)=if (uD n (s.drop i)).2=0 then .inr 0 else match yD n k ((s.drop i).drop (uD n (s.drop i)).2) with
            | .inl r=> .inl ((uD n (s.drop i)).1++r)
            | .inr e=> .inr ((uD n (s.drop i)).2+e):=by
          rw[aS3 hlt,yD]
        rw[hu];by_cases h0:(uD n (s.drop i)).2=0
        .rw[aSB h0,aSB h0];rfl
        rw[aSD h0,aSD h0]
        show rF _ (((i+(uD n (s.drop i)).2:Nat):Int),_)=_;rw[aHC h1 h3 hs k _ _ pB pB (by rw[aSH];simp only[uK,aTw];omega),aUA];cases yD n k (s.drop (i+(uD n (s.drop i)).2)) with
        |inl r=>dsimp only;rw[aHz,aSN]
        |inr e=>dsimp only;rw[aTj]
    have:i=s.length:=by omega
    subst this;rw[BL (r:= .inl x) (by unfold OM;simp),aTu];cases k<;>simp [yD,uK]
theorem aOn {n:Int}(h1:1≤n) (h3:n≤3) {s:p7}(hs:sC s):M3 n s=some (uE n s):=by
  unfold M3;have hs':=hs;unfold sC at hs';rw[aSD pE,show (([]:pH),(0:Int))=(([]:pH),((0:Nat):Int)) from rfl,aHB h1 h3 hs s.length 0 [] pB pB pE,aTM];unfold uE;cases yD n s.length s with
  | inl r=>
    show some (tP ([]++uK r),(0:Int),(0:Int))=_;rw[List.nil_append,aHA]
  | inr e=>
    show some (([]:p7),((0+e:Nat):Int),(3:Int))=_;rw[aTa]
theorem aOo {n:Int}(h1:1≤n) (h3:n≤3) {s:p7}(hs:sC s):M7 n s=some (uE n s):=by
  unfold M7;have hs':=hs;unfold sC at hs';rw[aSD pE,aSD pE,show ((0:Int),([]:pH))=(((0:Nat):Int),([]:pH)) from rfl,aHC h1 h3 hs s.length 0 [] pB pB pE,aTM];unfold uE;cases yD n s.length s with
  | inl r=>
    show some (tP ([]++uK r),(0:Int),(0:Int))=_;rw[List.nil_append,aHA]
  | inr e=>
    show some (([]:p7),((0+e:Nat):Int),(3:Int))=_;rw[aTa]
theorem aOp (x y:UInt8):(x==y)=decide (y=x):=by
  by_cases h:y=x
  .subst h;rw[beq_self_eq_true,aS5 rfl]
  rw[decide_eq_false h,beq_eq_false_iff_ne];exact fun e=>h e.symm
theorem aOq {o:pK}:(if (JJ o== -1)=true then(-1:Int) else JJ o+1)=JJ (o.map (· +1)):=by
  cases o with
  |none=>rfl
  | some k=>
    show (if ((k:Int)== -1)=true then(-1:Int) else(k:Int)+1)=((k+1:Nat):Int);rw[aSD (by rw[aTU];omega)];rfl
theorem a8O: ∀(l:p7),Lib.indexByte l 10=JJ (l.findIdx? fun b=>decide (b=10))
  |[]=>rfl
  | b::t=>by
    rw[Lib.indexByte,aTZ,a8O t,aOp,aOq];by_cases h:b=10
    .subst h;rfl
    rw[aSD (by simpa using fun e=>h (Eq.symm e)),aSD (by simpa using h)]
theorem aOr (l:p7):(BQ l).2=0∨(BQ l).1.length≤(BQ l).2:=by
  unfold BQ;split
  · rename_i a c t
    have h1:=XK (l:=t.take 2) (k:=4) (ok:=fun n=>decide (n≤127)) (f:=fun n=>tP [n]) (fun n=>by simp [tP]);have h2:=XK (l:=t.take 4) (k:=6) (ok:=wN) (f:=Lib.encodeRune) a8K
    repeat' split
    all_goals first
      |exact .inl rfl
      |exact .inr pD
      | (rcases h1.2 with e|e
         .exact .inl e
         .exact .inr (by rw[e];exact h1.1))
      | (rcases h2.2 with e|e
         .exact .inl e
         exact .inr (by rw[e];have:=h2.1;omega))
  exact .inl rfl
theorem aOs (n:Int) (l:p7):(uD n l).2=0∨(uD n l).1.length≤(uD n l).2:=by
  cases l with
  |nil=>exact .inl rfl
  | cons b t=>
    by_cases h:b=92
    .rw[XL h];exact aOr _
    by_cases hb:B5 n b=true
    .rw[S5 h hb];exact .inl rfl
    rw[XM h hb];exact .inr pD
theorem aHD (n:Int): ∀(k:Nat) (l r:p7),yD n k l= .inl r→r.length≤l.length
  |0,_,_,h=>by cases h;simp
  |_+1,[],_,h=>by cases h;simp
  | k+1,b::t,r,h=>by
    rw[yD] at h;split at h
    .cases h
    rename_i hz
    have hp:=(aOs n (b::t)).resolve_left hz;have hq:=(S6 n (b::t)).2;cases hu:yD n k ((b::t).drop (uD n (b::t)).2) with
    | inl r'=>
      rw[hu] at h;cases h;have:=aHD n k _ r' hu;rw[aS8] at this;rw[aSH];omega
    |inr e=>rw[hu] at h;cases h
theorem a8P (n:Int) (s:p7):(uE n s).1.length≤s.length:=by
  unfold uE;cases h:yD n s.length s with
  |inl r=>exact aHD n _ _ _ h
  |inr e=>simp
abbrev C4:=p7×(p8×(List tO×(List sA×Unit)))
section
variable {s:p7}(hsm:s.length≤4000000000) {P:Nat}(hP:P≤s.length) {c:C4}{bad e:Int}{ends:pH}{kind:Int}{text:p7}
include hsm hP
def xX (l:p8) (x:p7):Nat:=(l.findIdx? fun y=> !Op.bytesLess y x).getD l.length
def OY (l:p8) (x:p7):p8:=l.take (xX l x)++[x]++l.drop (xX l x)
end
theorem xD {v:Ty}(a b:p7) (y:v.den): ∀l:List (p7×v.den),sD .str v (sS .str v a y l) b=if b=a then y else sD .str v l b
  | []=>by
    show (if decide (b=a)=true then y else v.zero)=if b=a then y else v.zero;by_cases h:b=a<;>simp [h]
  | (x,z)::r=>by
    have ih:=xD a b y r;show sD .str v (if decide (a=x)=true then(a,y)::r else(x,z)::sS .str v a y r) b=if b=a then y else(if decide (b=x)=true then z else sD .str v r b);by_cases h:a=x
    · rw[aSB (aS5 h)]
      show (if decide (b=a)=true then y else sD .str v r b)=_;by_cases hb:b=a
      .rw[aSB (aS5 hb),aSB hb]
      rw[aSD (by simpa using hb),aSD hb,aSD (by rw[←h];simpa using hb)]
    rw[aSD (by simpa using h)]
    show (if decide (b=x)=true then z else sD .str v (sS .str v a y r) b)=_;rw[ih];by_cases hb:b=a
    .rw[aSB hb,aSB hb,aSD (by rw[hb];simpa using h)]
    rw[aSD hb,aSD hb]
theorem CQ: ∀(x y:p7),Op.bytesLess x y=decide (x<y)
  |[],[]=>by simp [Op.bytesLess]
  |_::_,[]=>by simp [Op.bytesLess]
  |[],_::_=>by simp [Op.bytesLess]
  | a::x,b::y=>by
    rw[Op.bytesLess,CQ x y];simp only[List.cons_lt_cons_iff];by_cases h1:a<b<;>by_cases h2:a=b<;>by_cases h3:x<y<;>simp [h1,h2,h3]
theorem S7 (l:p8):(sH l).Pairwise (·≤·):=by
  have:=List.pairwise_mergeSort (le:=fun x y:p7=>decide (x≤y)) (fun a b c h1 h2=>aS5 (List.le_trans (aTn h1) (aTn h2))) (fun a b=>by simpa using List.le_total a b) l;exact this.imp (fun h=>aTn h)
theorem MG (l:p8):(sH l).Perm l:=List.mergeSort_perm l _
theorem JK (l:p8):(sH l).length=l.length:=(MG l).length_eq
theorem aOt (l:p8) (x:p7):(OY l x).Perm (l++[x]):=by
  unfold OY;have h:(l.take (xX l x)++l.drop (xX l x))=l:=aTQ _ _
  have h2:(l.take (xX l x)++[x]++l.drop (xX l x)).Perm (l.take (xX l x)++(l.drop (xX l x)++[x])):=by
    rw[aSN];exact List.Perm.append_left _ List.perm_append_comm
  have h3:l.take (xX l x)++(l.drop (xX l x)++[x])=l++[x]:=by rw[←aSN,h]
  rw[h3] at h2;exact h2
theorem aOu {l:p8}(x:p7) (h:l.Pairwise (·≤·)):(OY l x).Pairwise (·≤·):=by
  have ht: ∀y∈l.take (xX l x),y≤x:=by
    intro y hy;obtain⟨j,hj,rfl⟩:=List.mem_iff_getElem.1 hy;rw[aTe] at hj;rw[List.getElem_take]
    have:Op.bytesLess l[j] x=true:=by
      have hk:xX l x=(l.findIdx? fun y=> !Op.bytesLess y x).getD l.length:=rfl;cases hf:l.findIdx? fun y=> !Op.bytesLess y x with
      | none=>
        have:=aTH.1 hf l[j] (aTL _);simpa using this
      | some n=>
        rw[hf] at hk;have:=(aTm.1 hf).2.2 j (by rw[hk] at hj;simp only[aT1] at hj;omega);simpa using this
    rw[CQ] at this;exact List.le_of_lt (aTn this)
  have hd: ∀y∈l.drop (xX l x),x≤y:=by
    intro y hy;have hk:xX l x=(l.findIdx? fun y=> !Op.bytesLess y x).getD l.length:=rfl;cases hf:l.findIdx? fun y=> !Op.bytesLess y x with
    | none=>
      rw[hf] at hk;rw[hk] at hy;simp at hy
    | some n=>
      rw[hf] at hk;obtain⟨hn,h1,h2⟩:=aTm.1 hf
      have hx:x≤l[n]:=by
        rw[CQ] at h1;simp only[aTg,aTo] at h1;exact List.not_lt.1 h1
      rw[hk] at hy;simp only[aT1] at hy;rw[aS3 hn] at hy;rcases aSP.1 hy with rfl|hy
      .exact hx
      have hp:(l.drop n).Pairwise (·≤·):=h.sublist (List.drop_sublist _ _)
      rw[aS3 hn] at hp;exact List.le_trans hx ((aUk.1 hp).1 y hy)
  unfold OY;rw[aSN];refine aUo.2 ⟨h.sublist (List.take_sublist _ _),aUo.2 ⟨aUv _ _,h.sublist (List.drop_sublist _ _),?_⟩,?_⟩
  · intro a ha b hb
    rw[aST.1 ha];exact hd b hb
  intro a ha b hb
  have hax:=ht a ha;rcases aTR.1 hb with hb|hb
  .rw[aST.1 hb];exact hax
  exact List.le_trans hax (hd b hb)
theorem aOv (l:p8) (x:p7):OY (sH l) x=sH (l++[x]):=
  List.Perm.eq_of_pairwise (fun _ _ _ _ h1 h2=>List.le_antisymm h1 h2) (aOu x (S7 l)) (S7 _)
    ((aOt _ _).trans (((MG l).append_right _).trans (MG _).symm))
theorem aOw {σ ρ:Type}{f:σ→Option (σ⊕ρ)}{x y:σ}(h:f x=some (.inl y)):rF f x=rF f y:=by
  rw[tB,h];rfl
theorem aOx {σ ρ:Type}{f:σ→Option (σ⊕ρ)}{x:σ}{r:ρ}(h:f x=some (.inr r)):rF f x=some r:=by
  rw[tB,h];rfl
def a8Q (es:List sA) (x:p7):Int×Bool:=xV (fun k=>((k:Int),true)) ((0:Int),false) (es.findIdx? fun y=>decide (y.1=x))
theorem aOy (c:C4) (x:p7) (hl:c.2.2.2.1.length≤5000):II c x=some (a8Q c.2.2.2.1 x):=by
  have h:=FE (f:=R0 c x) (l:=c.2.2.2.1) (fun y=>decide (y.1=x)) (fun k=>((k:Int),true)) (fun i h=>by
    unfold R0;rw[aSB (tV h),aSB (sT h),zA (t:=DL) h,aSB (u7 pB)]) (by
    unfold R0;rw[aSD (xA _)])
  unfold II;rw[h,H8];rfl
theorem XN {σ ρ:Type}{f:σ→Option (σ⊕ρ)}{n:Nat}(st:Nat→σ) {r:ρ}(h: ∀i,i<n→f (st i)=some (.inl (st (i+1)))) (he:f (st n)=some (.inr r)): ∀(k i:Nat),i+k=n→rF f (st i)=some r
  | 0,i,hi=>by
    have:i=n:=by omega
    subst this;exact aOx he
  | k+1,i,hi=>by
    rw[aOw (h i pB)];exact XN st h he k (i+1) pB
abbrev pc (s:p7) (l:pL) (i:Nat):p7:=qR s ((if i=0 then 0 else l.getD (i-1) 0:Nat):Int) (l.getD i 0:Nat)
abbrev zS (s:p7) (l:pL):p8:=(List.range l.length).map (pc s l)
abbrev yN (l:pL):Nat:=l.getD (l.length-1) 0
section
variable {s:p7}(hsm:s.length≤4000000000) {l:pL}(hne:l≠[]) (hs:l.Pairwise (·≤·)) (hle: ∀x∈l,x≤s.length) (hl:l.length≤5000)
theorem S8 {i:Nat}(h:i<l.length):qE (.int .i64) (l.map (fun n:Nat=>(n:Int))) (i:Int)=(l.getD i 0:Nat):=by
  rw[zA (t:= .int .i64) (by simpa using h),List.getElem_map,aSZ,aSK h];rfl
include hle in
theorem S9 {i:Nat}(h:i<l.length):l.getD i 0≤s.length:=by
  rw[aSZ,aSK h];exact hle _ (aTL h)
include hs in
theorem aHE {i j:Nat}(hij:i<j) (h:j<l.length):l.getD i 0≤l.getD j 0:=by
  rw[aSZ,aSZ,aSK h,aSK pB];exact(aTh.1 hs) i j pB h hij
include hs in
theorem aOz {i:Nat}(h:i<l.length):(if i=0 then 0 else l.getD (i-1) 0)≤l.getD i 0:=by
  split
  .exact aTv _
  exact aHE hs pB h
include hsm hne hs hle hl in
theorem aOA:GU s (l.map (fun n:Nat=>(n:Int)))=some (pc s l 0,(zS s l).drop 1,qR s (yN l:Nat) (s.length:Int)):=by
  have hpos:0<l.length:=aTJ.2 hne
  have hloop:=XN (f:=RJ s (l.map (fun n:Nat=>(n:Int)))) (n:=l.length) (fun i=>((List.range i).map (pc s l),((if i=0 then 0 else l.getD (i-1) 0:Nat):Int),(i:Int))) (r:=(zS s l,(yN l:Int)))
    (fun i hi=>by
      have h1:=S9 hle hi;have h2:=aOz hs hi;unfold RJ;dsimp only;rw[aTw,aSB (tV hi),aSB (sT hi),S8 hi,aSB ⟨Int.natCast_nonneg _,Int.ofNat_le.2 h2,Int.ofNat_le.2 h1⟩,aSB (by rw[aTw,List.length_range,aTI];omega),aSB (sT hi),aSB (u7 pB)];rw[List.range_succ,List.map_append,aSD (Nat.succ_ne_zero i),Nat.add_sub_cancel];rfl)
    (by
      unfold RJ;dsimp only;rw[aTw,aSD (xA _),aSD pB]) l.length 0 pB
  have hlast:yN l≤s.length:=S9 hle (show l.length-1<l.length by omega);unfold GU;rw[show (([]:p8),(0:Int),(0:Int))=((List.range 0).map (pc s l),((if 0=0 then 0 else l.getD (0-1) 0:Nat):Int),((0:Nat):Int)) from rfl,hloop];unfold sN;rw[aSE];dsimp only;have hlen:(zS s l++[qR s (yN l:Nat) (s.length:Int)]).length=l.length+1:=by simp
  rw[aSB ⟨pB,pB,aTl _⟩,aSB pE]
  have hOf:NV (zS s l++[qR s (yN l:Nat) (s.length:Int)])=some ():=by
    unfold NV;rw[hlen,aSB (by unfold pX;omega),aSB ⟨pB,pB⟩,aSB ⟨pB,pB,pB⟩]
    rw[aSB (by
      have:(qR (zS s l++[qR s (yN l:Nat) (s.length:Int)]) 1 (((l.length+1:Nat):Int)-1)).length≤l.length+1:=by
        have h9:=hlen;unfold qR at h9|-;rw[aTe,aS8,h9];omega
      simp only[aSY];omega),aSB ⟨pB,pB⟩]
  rw[hOf,aSE]
  have e0:qE .str (zS s l++[qR s (yN l:Nat) (s.length:Int)]) (0:Int)=pc s l 0:=by
    have h:=zA (t:= .str) (l:=zS s l++[qR s (yN l:Nat) (s.length:Int)]) (i:=0) (by rw[hlen];omega);refine h.trans ?_;rw[List.getElem_append_left (by simpa using hpos),List.getElem_map,List.getElem_range]
  have e1:qE .str (zS s l++[qR s (yN l:Nat) (s.length:Int)]) (((l.length+1:Nat):Int)-1)=qR s (yN l:Nat) (s.length:Int):=by
    have h:=zA (t:= .str) (l:=zS s l++[qR s (yN l:Nat) (s.length:Int)]) (i:=l.length) (by rw[hlen];omega);rw[show (((l.length+1:Nat):Int)-1)=((l.length:Nat):Int) by omega];refine h.trans ?_;rw[List.getElem_append_right pD];simp
  have e2:qR (zS s l++[qR s (yN l:Nat) (s.length:Int)]) (1:Int) (((l.length+1:Nat):Int)-1)=(zS s l).drop 1:=by
    rw[show (((l.length+1:Nat):Int)-1)=((l.length:Nat):Int) by omega];generalize qR s (yN l:Nat) (s.length:Int)=z;unfold qR;rw[aTs,show (1:Int).toNat=1 from rfl,List.drop_append_of_le_length pE,List.take_left' pD]
  rw[hlen,e0,e1,e2];rfl
end
theorem aOB (d:wI) (h:d.2.1.length≤5000):LP d d=some ([],0):=by
  have hn:((([d.1]:p8)++d.2.1)++([d.2.2.1]:p8)).length=d.2.1.length+2:=by simp
  have hA:L7 d=some ():=by
    unfold L7;rw[aSB pE,aSB pE]
  have hloop:=XN (f:=RK d d) (n:=d.2.1.length+2) (fun i=>(([]:List (Int×p7×Unit)),(i:Int))) (r:=[])
    (fun i hi=>by
      unfold RK;dsimp only;rw[hn,aSB (tV hi),aSB (sT hi),aSB (sT hi),aSD pD,aSB (u7 pB)];rfl)
    (by
      unfold RK;dsimp only;rw[hn,aSD (xA _)]) (d.2.1.length+2) 0 pB
  unfold LP;rw[aSD pD,hA,aSE,aSE,show (([]:List (Int×p7×Unit)),(0:Int))=(([]:List (Int×p7×Unit)),((0:Nat):Int)) from rfl,hloop];rfl
theorem aOC (d:wI) (h:d.2.1.length≤5000):J9 d d=some true:=by
  unfold J9;rw[aOB d h];rfl
abbrev eD:S2:=([],([],([],([],([],(0,([],())))))))
def aHF (es:List S2) (i:Nat):Bool:=((es.take i).any fun y=>decide (y.1=(es.getD i eD).1))|| !XI (es.getD i eD)
def a8R (c:C4):Bool:=((yM c.1&&BP c.2.1)&&zR c.2.2.1)&&(decide ((c.2.2.2.1.length:Int)≤1000)&& !((List.range c.2.2.2.1.length).any (aHF c.2.2.2.1)))
theorem aOD {l:p7}(h: ∀b∈l,b.toNat<128):Lib.validD l=true:=by
  rw[Lib.validD_ascii l.length l (fun b hb=>h b (List.mem_of_mem_take hb)),aTu];rfl
theorem aOE {b:UInt8}(h:zB b.toNat=false):b.toNat<128:=by
  unfold zB at h;simp only[Bool.and_eq_false_iff,aUE,aSV,aSL] at h;omega
theorem aOF {x:p7}(h:w5 x=true):sR x=true:=by
  cases x with
  |nil=>cases h
  | cons b t=>
    unfold w5 at h;simp only[aSV,aTg,aTt,aT6,aTo] at h;obtain⟨⟨h0,h1⟩,h2⟩:=h;unfold sR;rw[aSV,aSL];refine⟨by simp only[aSI];omega,aOD fun c hc=>?_⟩;rcases aSP.1 hc with rfl|hc
    · unfold zQ at h1
      simp only[aSV,aSL] at h1;omega
    exact aOE (h2 c hc)
theorem XO {l:p8}(h:BP l=true):l.length≤20∧∀x∈l,sR x=true:=by
  unfold BP at h;simp only[aSV,aTg,aTt,aSL,aT6,aUE] at h;exact⟨pB,fun x hx=>by simpa using h.2 x hx⟩
theorem aHG {α:Type}{r:α→α→Prop}(tr: ∀a b c,r a b→r b c→r a c) {l:List α}(h: ∀(i:Nat) (hi:i+1<l.length),r l[i] l[i+1]):l.Pairwise r:=by
  rw[aTh];intro i j hi hj hij;obtain⟨k,rfl⟩: ∃k,j=i+1+k:=⟨j-i-1,pB⟩
  induction k with
  |zero=>exact h i hj
  |succ k ih=>exact tr _ _ _ (ih pB pB) (h (i+1+k) hj)
theorem OZ {α:Type}{l:List α}{i:Nat}{d:α}(h:i<l.length):l.getD i d=l[i]:=by
  rw[aSZ,aSK h];rfl
theorem XP {l:List tO}(h:zR l=true):l.length≤20∧(∀x∈l,w5 x.1=true∧sR x.1=true∧sR x.2.1=true)∧l.Pairwise (fun a b=>a.1<b.1):=by
  unfold zR at h;simp only[aSV,aTg,aTt,aSL,aUz,aT6] at h;obtain⟨h1,h2⟩:=h;unfold a8L at h1;simp only[aUp,Bool.and_eq_false_iff,aUE,aTo] at h1;refine⟨pB,fun x hx=>?_,aHG (r:=fun a b:tO=>a.1<b.1) (fun a b c=>List.lt_trans) fun i hi=>?_⟩
  · obtain⟨i,hi,rfl⟩:=aUC hx
    have:=(h1 i hi).1;rw[OZ hi] at this;exact⟨this.1,aOF this.1,this.2⟩
  have:=(h1 (i+1) hi).2
  rw[OZ hi,Nat.add_sub_cancel,OZ (show i<l.length by omega),CQ] at this;exact aTn (this.resolve_left pB)
theorem XQ {a b:p7}(h: ¬a<b) (hne:a≠b):b<a:=by
  have:=aN8 a b;rw[CQ,CQ] at this;have h1:decide (a<b)=false:=by simpa using h
  have h2:decide (b=a)=false:=by simpa using fun e=>hne e.symm
  rw[h1,h2] at this;simpa using this.symm
theorem a8S {α:Type}(f:α→p7) {x:α}{p:α→Bool}: ∀{l:List α},l.Pairwise (fun a b=>f a<f b)→(∀y∈l,f y≠f x)→(∀y∈l,p y= !decide (f y<f x))→
    (l.take ((l.findIdx? p).getD l.length)++[x]++l.drop ((l.findIdx? p).getD l.length)).Pairwise (fun a b=>f a<f b)
  |[],_,_,_=>by simp
  | a::t,hp,hne,hpp=>by
    rw[aUk] at hp;have hpa:=hpp a aS2;rw[aTZ];by_cases h:f a<f x
    · have hpf:p a=false:=by rw[hpa];simpa using h
      rw[hpf];have ih:=a8S f (x:=x) hp.2 (fun y hy=>hne y (aSQ _ hy)) (fun y hy=>hpp y (aSQ _ hy))
      have e:((if false=true then some 0 else(t.findIdx? p).map fun i=>i+1).getD (a::t).length)=(t.findIdx? p).getD t.length+1:=by
        cases t.findIdx? p<;>rfl
      rw[e,List.take_succ_cons,aUD,List.cons_append,List.cons_append,aUk];refine⟨fun y hy=>?_,ih⟩;rw[aSN] at hy;rcases aTR.1 hy with hy|hy
      .exact hp.1 y (List.mem_of_mem_take hy)
      rcases aSP.1 hy with rfl|hy
      .exact h
      exact hp.1 y (List.mem_of_mem_drop hy)
    have hpt:p a=true:=by rw[hpa];simpa using h
    rw[hpt];have hx:f x<f a:=XQ h (hne a aS2);show ([]++[x]++(a::t)).Pairwise _;rw[List.nil_append,List.singleton_append,aUk];refine⟨fun y hy=>?_,aUk.2 hp⟩;rcases aSP.1 hy with rfl|hy
    .exact hx
    exact List.lt_trans hx (hp.1 y hy)
theorem aOG {α:Type}{l:List α}{x y:α}{k:Nat}(h:y∈l.take k++[x]++l.drop k):y=x∨y∈l:=by
  rw[aSN] at h;rcases aTR.1 h with h|h
  .exact .inr (List.mem_of_mem_take h)
  rcases aSP.1 h with h|h
  .exact .inl h
  exact .inr (List.mem_of_mem_drop h)
theorem aOH {α:Type}{l:List α}{x:α}{k:Nat}:(l.take k++[x]++l.drop k).length=l.length+1:=by
  simp only[aSH,aTe,aS8,aTI];omega
theorem aOI {α:Type}{r:α→α→Prop}{l:List α}(h:l.Pairwise r) {i:Nat}(h0:0<i) (hi:i<l.length):r l[i-1] l[i]:=by
  rw[aTh] at h;exact h (i-1) i pB hi pB
theorem aHH {l:List tO}(h:l.length≤20) (hx: ∀x∈l,w5 x.1=true∧sR x.2.1=true) (hp:l.Pairwise (fun a b=>a.1<b.1)):zR l=true:=by
  unfold zR;simp only[aSV,aTg,aTt,aSL,aUz,aT6];refine⟨fun i hi=>?_,pB⟩;unfold a8L;obtain⟨a,b⟩:=hx _ (aTL hi);rw[OZ hi,a,b];by_cases h0:0<i
  · rw[OZ (show i-1<l.length by omega),CQ]
    simp [aOI hp h0 hi]
  simp [h0]
theorem aOJ {l:List tO}{n v:p7}(h:zR l=true) (hl: ¬20≤l.length) (hx:w5 n=true) (hv:sR v=true) (hn: ¬(l.any fun y=>decide (y.1=n))=true):zR (xC l n v)=true:=by
  obtain⟨h1,h2,h3⟩:=XP h;have hne: ∀y∈l,y.1≠n:=fun y hy e=>hn (List.any_eq_true.2 ⟨y,hy,by simp [e]⟩)
  have hk:xW l n=none:=by
    unfold xW;rw[aTH];intro y hy;simpa using hne y hy
  unfold xC;rw[hk];show zR (l.take (uH l n)++[(n,v,())]++l.drop (uH l n))=true;unfold uH;refine aHH (by rw[aOH];omega) (fun y hy=>?_) (a8S (fun y:tO=>y.1) (x:=(n,v,())) h3 hne fun y hy=>?_)
  · rcases aOG hy with rfl|hy
    .exact⟨hx,hv⟩
    exact⟨(h2 y hy).1,(h2 y hy).2.2⟩
  rw[CQ]
  have:decide (y.1=n)=false:=by simpa using hne y hy
  rw[this,Bool.or_false]
structure aHI (es:List S2):Prop where
  len:es.length≤1000
  ok: ∀x∈es,XI x=true
  pw:es.Pairwise (fun a b=>a.1≠b.1)
section
variable {s:p7}(hsm:s.length≤4000000000) {bad:Int}{ends:pH}{tag:p7}{cms:p8}{fds:List tO}{es:List S2}
include hsm
omit hsm in
theorem aOK {c:C4}(h1:yM c.1=true) (h2:BP c.2.1=true) (h3:zR c.2.2.1=true) (h4:aHI c.2.2.2.1):a8R c=true:=by
  unfold a8R;rw[h1,h2,h3,aS5 (show ((c.2.2.2.1.length:Int))≤1000 by have:=h4.len;omega)];simp only[Bool.true_and,aTg,aTt,aUz,aT6];intro i hi;unfold aHF;rw[OZ hi,h4.ok _ (aTL hi)];simp only[Bool.not_true,Bool.or_false,aTt,aSL];intro y hy;rw[List.mem_take_iff_getElem] at hy;obtain⟨j,hj,rfl⟩:=hy;exact aTh.1 h4.pw j i pB hi pB
end
theorem a8T {x:p7}(h:sR x=true):x.length≤4000:=by
  unfold sR at h;simp only[aSV,aSL] at h;omega
noncomputable section
abbrev Wd:=Bool×p7×Unit
def sO (b:UInt8):Bool:=([32,9]:p7).contains b
def tE (b:UInt8):Bool:= !([32,9,34]:p7).contains b
def aOL (s:p7):Lib.trimLeftS s ([32,9]:p7)=s.dropWhile sO:=rfl
def aOM (b:UInt8):sO b=true↔b=32\/b=9:=by simp [sO]
def aON (b:UInt8):tE b=true↔b≠32/\b≠9/\b≠34:=by simp [tE]
def SA {b:UInt8}(h:sO b=false) (h2:b≠34):tE b=true:=by
 rw[aON];have: ¬(b=32\/b=9):=fun e=>by rw[(aOM b).2 e] at h;cases h
 exact⟨fun e=>this (.inl e),fun e=>this (.inr e),h2⟩
def aHJ {b:UInt8}(h:tE b=false) (h2:b≠34):sO b=true:=by
 cases hg:sO b with
 |true=>rfl
 |false=>rw[SA hg h2] at h;cases h
def SB {α:Type}(p:α->Bool) (l:List α):(l.dropWhile p).length<=l.length:=(List.dropWhile_suffix p).length_le
def HE {α:Type}{p:α->Bool}: ∀{l:List α}{b:α}{t:List α},l.dropWhile p=b::t->p b=false
 |[],_,_,h=>by cases h
 |a::l,b,t,h=>by
  rw[List.dropWhile_cons] at h;cases ha:p a with
  |true=>rw[aSB ha] at h;exact HE h
  |false=>rw[aSD (by simp [ha])] at h;cases h;exact ha
def aHK {α:Type}{p:α->Bool}: ∀(l:List α),∀x∈l.takeWhile p,p x=true
 |[],_,h=>by cases h
 |a::l,x,h=>by
  rw[List.takeWhile_cons] at h;cases ha:p a with
  |true=>
   rw[aSB ha] at h;rcases aSP.1 h with rfl|h
   .exact ha
   .exact aHK l x h
  |false=>rw[aSD (by simp [ha])] at h;cases h
def B6:p7->Bool
 |[]=>true
 |b::_=>sO b
def AC (s:p7):Option (Wd×p7):=
 if s.head? =some 34 then
  match uZ 34 (s.drop 1) with
  |none=>none
  |some k=>if (uE 2 ((s.drop 1).take k)).2.2=0/\sR (uE 2 ((s.drop 1).take k)).1=true/\B6 (s.drop (k+2))=true then some ((true,(uE 2 ((s.drop 1).take k)).1,()),s.drop (k+2)) else none
 else if (s.dropWhile tE).head? =some 34 then none else some ((false,s.takeWhile tE,()),s.dropWhile tE)
def xY:Nat->p7->Option (List Wd)
 |0,_=>none
 |n+1,s=>if s.dropWhile sO=[] then some [] else match AC (s.dropWhile sO) with
  |none=>none
  |some w=>(xY n w.2).map (w.1:: ·)
def FG (s:p7):Option (List Wd):=xY (s.length+1) s
def a8U {b:UInt8}{t:p7}{w:Wd}{r:p7}(hg:sO b=false) (h:AC (b::t)=some (w,r)):r.length<(b::t).length:=by
 unfold AC at h;split at h
 .split at h
  .cases h
  rename_i k hk;split at h
  .cases h;rw[aS8];simp only[aSI];omega
  cases h
 rename_i h34;split at h
 .cases h
 cases h;have hb:tE b=true:=SA hg fun e=>h34 (by rw[e];rfl);rw[List.dropWhile_cons,aSB hb];have:=SB tE t;simp only[aSI];omega
def yO (n:Nat) (w:Wd):Prop:=if w.1=true then sR w.2.1=true else w.2.1.length<=n/\(∀b∈w.2.1,tE b=true)/\w.2.1≠[]
def aOO {b:UInt8}{t:p7}{w:Wd}{r:p7}(hg:sO b=false) (h:AC (b::t)=some (w,r)):yO (b::t).length w/\B6 r=true:=by
 unfold AC at h;split at h
 .split at h
  .cases h
  split at h
  .rename_i hc;cases h;exact⟨by unfold yO;rw[aSB rfl];exact hc.2.1,hc.2.2⟩
  cases h
 rename_i h34;split at h
 .cases h
 rename_i hd;cases h;have hb:tE b=true:=SA hg fun e=>h34 (by rw[e];rfl);refine⟨?_,?_⟩
 .unfold yO;rw[aSD pD];exact⟨(List.takeWhile_prefix _).length_le,fun x hx=>aHK _ x hx,by rw[List.takeWhile_cons,aSB hb];simp⟩
 cases hx:(b::t).dropWhile tE with
 |nil=>rfl
 |cons c u=>
  rw[hx] at hd;exact aHJ (HE hx) fun e=>hd (by rw[e];rfl)
def aHL: ∀t:p7,Lib.indexAny t [32,9,34]=if t.dropWhile tE=[] then-1 else((t.takeWhile tE).length:Int)
 |[]=>rfl
 |b::t=>by
  rw[Lib.indexAny,aHL t,List.dropWhile_cons,List.takeWhile_cons];cases hc:([32,9,34]:p7).contains b with
  |true=>
   have:tE b=false:=by unfold tE;rw[hc];rfl
   simp [this]
  |false=>
   have:tE b=true:=by unfold tE;rw[hc];rfl
   rw[aSD pD,aSB this,aSB this];by_cases he:t.dropWhile tE=[]
   .rw[aSB he,aSB he];rfl
   rw[aSD he,aSD he,aSD (by simp only[aTU];omega)];simp
def SC {t:p7}{p:UInt8->Bool}:t.take (t.takeWhile p).length=t.takeWhile p/\t.drop (t.takeWhile p).length=t.dropWhile p:=by
 have h:t.takeWhile p++t.dropWhile p=t:=List.takeWhile_append_dropWhile;exact⟨(aS4 (List.take _) h.symm).trans (List.take_left' rfl),(aS4 (List.drop _) h.symm).trans (List.drop_left' rfl)⟩
def aOP {t:p7}{p:UInt8->Bool}(h:t.dropWhile p=[]):t.takeWhile p=t:=by
 have:=List.takeWhile_append_dropWhile (p:=p) (l:=t);rw[h,List.append_nil] at this;exact this
def aOQ (x:p7):((decide ((([34]:p7).length:Int)<=(x.length:Int)))&&(decide ((qR x (0:Int) (([34]:p7).length:Int))=([34]:p7))))=decide (x.head? =some 34):=by
 cases x with
 |nil=>rfl
 |cons b t=>
  have h:qR (b::t) 0 (([34]:p7).length:Int)=[b]:=rfl;rw[h];have h2:decide ((([34]:p7).length:Int)<=((b::t).length:Int))=true:=aS5 (by simp only[aSI,aSY];omega);rw[h2,Bool.true_and];simp
def aOR (x p:p7):OB x p=some ():=by
 unfold OB O1;rw[aSB (fun h=>by simp only[aTU,aSL] at h;omega)];rfl
def aOS (r:p7):(((!decide (r=([]:p7)))&&(!decide ((rI r (0:Int))=(32:Int))))&&(!decide ((rI r (0:Int))=(9:Int))))= !B6 r:=by
 cases r with
 |nil=>rfl
 |cons b t=>
  have hb:rI (b::t) 0=(b.toNat:Int):=rfl;rw[hb,v7 (n:=32) 32 rfl,v7 (n:=9) 9 rfl];show ((!decide (b::t=[])&& !decide (b=32))&& !decide (b=9))= !sO b;rw[decide_eq_false pD];unfold sO;by_cases h1:b=32
  .subst h1;rfl
  by_cases h2:b=9
  .subst h2;rfl
  simp [h1,h2]
def a8V {s:p7}(hs:s.length<=1000000000): ∃v,H0 (s,(false,()))=some v/\
  (s.dropWhile sO=[]->v=(false,[],false,[],false))/\
  (s.dropWhile sO≠[]->match AC (s.dropWhile sO) with
   |some w=>v=(w.1.1,w.1.2.1,true,w.2,false)
   |none=>v.2.2.1=false/\v.2.2.2.2=true):=by
 have hl:=SB sO s;obtain⟨t,ht⟩: ∃t,s.dropWhile sO=t:=⟨_,rfl⟩;rw[ht] at hl;unfold H0;dsimp only;rw[show Lib.trimLeftS s ([32,9]:p7)=t from ht,ht];cases t with
 |nil=>exact⟨_,aSB rfl,fun _=>rfl,fun h=>absurd rfl h⟩
 |cons b u=>
  have hg:=HE ht;simp only[aSI] at hl;rw[aSD pD,aSB ⟨pB,by simp only[aSI];omega⟩];have hb:rI (b::u) 0=(b.toNat:Int):=rfl;by_cases h34:b=34
  .subst h34;rw[aSD (by rw[hb];simp),aSB ⟨pB,by simp only[aSI];omega,aTl _⟩];have hc1:qR ((34:UInt8)::u) 1 (((34:UInt8)::u).length:Int)=u:=by
    rw[show ((1:Int))=((1:Nat):Int) from rfl,CP];rfl
   have hfu:sC u:=by unfold sC;omega
   rw[hc1,aN9,show ((34:Int))=(((34:UInt8).toNat:Nat):Int) from rfl,aHq pC pC u 34 hfu,aSE];have hn:AC ((34:UInt8)::u)=match uZ 34 u with
    |none=>none
    |some k=>if (uE 2 (u.take k)).2.2=0/\sR (uE 2 (u.take k)).1=true/\B6 (u.drop (k+1))=true then some ((true,(uE 2 (u.take k)).1,()),u.drop (k+1)) else none:=by
    unfold AC;rw[aSB (show ((34:UInt8)::u).head? =some 34 from rfl)];rfl
   rw[hn];cases hk:uZ 34 u with
   |none=>
    rw[aSB pQ];exact⟨_,rfl,fun h=>(by cases h),fun _=>⟨rfl,rfl⟩⟩
   |some k=>
    have hku:=OX _ _ _ (aSW _) hk;have hfk:sC (u.take k):=by unfold sC;rw[aTe];omega
    have hc2:qR ((34:UInt8)::u) 1 ((k:Int)+1)=u.take k:=by
     unfold qR;rw[show ((k:Int)+1).toNat=k+1 by omega];rfl
    have hc3:qR ((34:UInt8)::u) ((k:Int)+2) (((34:UInt8)::u).length:Int)=u.drop (k+1):=by
     rw[show ((k:Int)+2)=((k+2:Nat):Int) by omega,CP];rfl
    rw[show JJ (some k)=(k:Int) from rfl,aSD pD,aSB (show pX ((k:Int)+1) by unfold pX;omega),aSB ⟨pB,pB,by simp only[aSI];omega⟩];rw[hc2,aOo pC pC hfk,aSE,aSB (show pX ((k:Int)+2) by unfold pX;omega),aSB ⟨pB,by simp only[aSI];omega,aTl _⟩];rw[hc3];have hft:sC (uE 2 (u.take k)).1:=by
     have:=a8P 2 (u.take k);unfold sC at hfk|-;omega
    rw[aSB (fun _=>by rw[aHk _ hft];rfl)];have hpos: ∀q:Bool,(q&&(!decide (u.drop (k+1)=([]:p7)))==true)=true->0<=(0:Int)/\(0:Int)<((u.drop (k+1)).length:Int):=fun q hq=>by
     simp only[aSV,aTU,aTg,aTo] at hq;have:=aTJ.2 hq.2;omega
    rw[aSB (hpos _),aSB (fun hq=>hpos true (by
     simp only[aSV,aTU,aTg,aTo] at hq|-;exact⟨trivial,hq.2.1⟩))]
    simp only[aOS];refine⟨_,rfl,fun h=>(by cases h),fun _=>?_⟩;have hto:((decide ((List.length (uE 2 (u.take k)).1:Int)<=(4000:Int)))&&(Lib.validD (uE 2 (u.take k)).1))=sR (uE 2 (u.take k)).1:=rfl;simp only[hto];by_cases hc:(uE 2 (u.take k)).2.2=0/\sR (uE 2 (u.take k)).1=true/\B6 (u.drop (k+1))=true
    .rw[aSB hc];obtain⟨h1,h2,h3⟩:=hc;simp [h1,h2,h3]
    rw[aSD hc];have:((!decide ((uE 2 (u.take k)).2.2=0))||(!sR (uE 2 (u.take k)).1)|| !B6 (u.drop (k+1)))=true:=by
     cases h1:decide ((uE 2 (u.take k)).2.2=0)<;>cases h2:sR (uE 2 (u.take k)).1<;>cases h3:B6 (u.drop (k+1))<;>first|rfl|exact absurd ⟨aTn h1,h2,h3⟩ hc
    exact⟨by simp only[this];rfl,this⟩
  have hp:tE b=true:=SA hg h34;rw[aSB (by rw[hb,v7 (n:=34) 34 rfl];simp [h34]),aSB (by simp only[aSI];omega)];have hn:AC (b::u)=if ((b::u).dropWhile tE).head? =some 34 then none else some ((false,(b::u).takeWhile tE,()),(b::u).dropWhile tE):=by
   unfold AC;rw[aSD (by simp [h34])]
  rw[hn];have hix:NP (b::u) ([32,9,34]:p7)=if (b::u).dropWhile tE=[] then-1 else(((b::u).takeWhile tE).length:Int):=aHL _;have hx:(if (decide (NP (b::u) ([32,9,34]:p7)<(0:Int)))=true then some (((b::u).length:Int)) else some (NP (b::u) ([32,9,34]:p7)))=(some (((b::u).takeWhile tE).length:Int)):=by
   rw[hix];by_cases he:(b::u).dropWhile tE=[]
   .rw[aSB he,aSB pQ,aOP he]
   rw[aSD he,aSD pD]
  have htl:((b::u).takeWhile tE).length<=(b::u).length:=(List.takeWhile_prefix _).length_le;rw[hx];unfold sN;rw[aSE,aSB ⟨aTl _,pB,pB⟩,aSB ⟨pB,pB,aTl _⟩,CP,OU,SC.1,SC.2,aOR,aSE];simp only[aOQ];refine⟨_,rfl,fun h=>(by cases h),fun _=>?_⟩;by_cases hh:((b::u).dropWhile tE).head? =some 34
  .rw[aSB hh];exact⟨by simp [hh],by simp [hh]⟩
  rw[aSD hh];simp [hh]
end
noncomputable section
def a8W {α:Type}{f:Int→Option (Int⊕Int)}{l:List α}(p:α→Bool)
    (hf: ∀(i:Nat) (h:i<l.length),f i=if p l[i]=true then some (.inl (i+1)) else some (.inr i)) (he:f l.length=some (.inr l.length)):
    ∀(n j:Nat),j+n=l.length→rF f j=some (((j+((l.drop j).takeWhile p).length:Nat)):Int)
  | 0,j,hj=>by
    have:j=l.length:=by omega
    subst this;rw[aTu,tB,he];rfl
  | n+1,j,hj=>by
    have hlt:j<l.length:=by omega
    rw[tB,hf j hlt,aS3 hlt,List.takeWhile_cons];by_cases hp:p l[j]=true
    · rw[aSB hp,aSB hp]
      show rF f ((j:Int)+1)=_;rw[show ((j:Int)+1)=((j+1:Nat):Int) by omega,a8W p hf he n (j+1) pB,aSI];rw[show j+1+((l.drop (j+1)).takeWhile p).length=j+(((l.drop (j+1)).takeWhile p).length+1) by omega]
    rw[aSD hp,aSD hp]
    rfl
def a8X (b:UInt8):((decide ((b.toNat:Int)=32))||(decide ((b.toNat:Int)=9)))=sO b:=by
  rw[v7 (n:=32) 32 rfl,v7 (n:=9) 9 rfl];unfold sO;simp
def aOT (b:UInt8):((!((decide ((b.toNat:Int)=32))||(decide ((b.toNat:Int)=9))))&& !decide ((b.toNat:Int)=34))=tE b:=by
  rw[v7 (n:=32) 32 rfl,v7 (n:=9) 9 rfl,v7 (n:=34) 34 rfl];unfold tE;simp [Bool.and_assoc]
def aHM {s:p7}(hs:s.length≤1000000000) {f:Int→Option (Int⊕Int)}(hf:f=RR s∨f=RU s) {j:Nat}(hj:j≤s.length):
    rF f (j:Int)=some (((j+((s.drop j).takeWhile sO).length:Nat)):Int):=by
  refine a8W sO (fun i h=>?_) ?_ (s.length-j) j pB
  · have e:f i=if sO s[i]=true then some (.inl ((i:Int)+1)) else some (.inr i):=by
      rcases hf with rfl|rfl
      · unfold RR
        rw[aSB (fun _=>sT h),x9 h,a8X,tV h,Bool.true_and,aSB (u7 pB)]
      unfold RU
      rw[aSB (fun _=>sT h),x9 h,a8X,tV h,Bool.true_and,aSB (u7 pB)]
    exact e
  have hF:decide (((s.length:Nat):Int)<(s.length:Int))=false:=by simp
  rcases hf with rfl|rfl
  · unfold RR
    rw[hF,aSB (fun h=>by simp at h),aUa,aSD pD]
  unfold RU
  rw[hF,aSB (fun h=>by simp at h),aUa,aSD pD]
def aOU {s:p7}(hs:s.length≤1000000000) {j:Nat}(hj:j≤s.length):
    rF (RS s) (j:Int)=some (((j+((s.drop j).takeWhile tE).length:Nat)):Int):=by
  refine a8W tE (fun i h=>?_) ?_ (s.length-j) j pB
  · unfold RS
    rw[aSB (fun _=>sT h),aSB (fun _=>sT h),x9 h,tV h,Bool.true_and,aOT,aSB (u7 pB)]
  unfold RS
  have hF:decide (((s.length:Nat):Int)<(s.length:Int))=false:=by simp
  rw[hF,aSB (fun h=>by simp at h),aUa,aSB (fun h=>by simp at h),aUa,aSD pD]
def aOV {u:p7}(hu:u.length≤1000000000): ∃v,M4 ((34:UInt8)::u)=some v∧match uZ 34 u with
    |none=>v.2.2=false
    |some k=>v=((uE 2 (u.take k)).1,((k+2:Nat):Int),decide ((uE 2 (u.take k)).2.2=0)&&sR (uE 2 (u.take k)).1):=by
  have hfu:sC u:=by unfold sC;omega
  have hc1:qR ((34:UInt8)::u) 1 (((34:UInt8)::u).length:Int)=u:=by
    rw[show ((1:Int))=((1:Nat):Int) from rfl,CP];rfl
  unfold M4;rw[aSB ⟨pB,by simp only[aSI];omega,aTl _⟩,hc1,show ((34:Int))=(((34:UInt8).toNat:Nat):Int) from rfl,aHq pC pC u 34 hfu,aSE];cases hk:uZ 34 u with
  | none=>
    rw[aSB pQ];exact⟨_,rfl,rfl⟩
  | some k=>
    have hku:=OX _ _ _ (aSW _) hk;have hfk:sC (u.take k):=by unfold sC;rw[aTe];omega
    have hft:sC (uE 2 (u.take k)).1:=by
      have:=a8P 2 (u.take k);unfold sC at hfk|-;omega
    have hc2:qR ((34:UInt8)::u) 1 ((1:Int)+(k:Int))=u.take k:=by
      unfold qR;rw[show ((1:Int)+(k:Int)).toNat=k+1 by omega];rfl
    rw[show JJ (some k)=(k:Int) from rfl,aSD pD,aSB (show pX ((1:Int)+(k:Int)) by unfold pX;omega),aSB ⟨pB,pB,by simp only[aSI];omega⟩];rw[hc2,aOn pC pC hfk,aSE,aSB (show pX ((k:Int)+2) by unfold pX;omega),aSB (fun _=>by rw[(XG _ hft).1];rfl),(XG _ hft).2];exact⟨_,rfl,rfl⟩
def aHN {s:p7}{p:UInt8→Bool}{i:Nat}:s.drop (i+((s.drop i).takeWhile p).length)=(s.drop i).dropWhile p:=by
  rw[←aUA];exact SC.2
def aHO {s:p7}{out:List Wd}{j:Nat}(hj:j≤s.length) {A:Option ((List Wd×Int)⊕(List Wd×Bool))}:
    (if (((decide ((j:Int)<(s.length:Int)))==true)=true→0≤(j:Int)∧(j:Int)<(s.length:Int)) then
      if ((decide ((j:Int)<(s.length:Int)))&&(!((decide ((rI s j)=(32:Int)))||(decide ((rI s j)=(9:Int))))))=true then A else some (.inl (out,(j:Int)))
     else none)=if B6 (s.drop j)=true then some (.inl (out,(j:Int))) else A:=by
  rw[aSB (fun h=>by simp only[aTU,aSL] at h;omega)];by_cases hl:j<s.length
  · rw[aS3 hl,x9 hl,a8X,tV hl,Bool.true_and]
    show _=if sO s[j]=true then _ else _;cases sO s[j]<;>rfl
  have:j=s.length:=by omega
  subst this;rw[aTu,aSD pD,aSB (show B6 []=true from rfl)]
def XR {s:p7}(hs:s.length≤1000000000): ∀(n i:Nat) (out:List Wd),i≤s.length→s.length<i+n→out.length≤i→
    rF (RT s) (out,(i:Int))=some (match xY n (s.drop i) with|some l=>(out++l,true) |none=>([],false))
  |0,i,out,hi,hn,_=>by omega
  | n+1,i,out,hi,hn,ho=>by
    have hlen:i+((s.drop i).takeWhile sO).length≤s.length:=by
      have:=(List.takeWhile_prefix sO (l:=s.drop i)).length_le;rw[aS8] at this;omega
    have hd:s.drop (i+((s.drop i).takeWhile sO).length)=(s.drop i).dropWhile sO:=aHN;rw[tB];generalize hF:rF (RT s)=F;unfold RT;dsimp only;rw[aHM hs (.inl rfl) hi];unfold sN;rw[aSE,xY];have hij:i≤i+((s.drop i).takeWhile sO).length:=by omega
    generalize i+((s.drop i).takeWhile sO).length=j at hlen hd hij;by_cases he:(s.drop i).dropWhile sO=[]
    · have hj:j=s.length:=by
        rw[he] at hd;have:=aS4 List.length hd;rw[aS8,aSY] at this;omega
      rw[aSB (by simp only[aSL];omega),aSB he,aSE];show some (out,true)=some (out++[],true);rw[List.append_nil]
    have hjl:j<s.length:=by
      rcases aTD j s.length with h|h
      .exact h
      rw[List.drop_eq_nil_of_le h] at hd;exact absurd hd.symm he
    rw[aSD pE,aSD he,aSB (sT hjl),x9 hjl,←hd];have hcons:=aS3 hjl;have hg:sO s[j]=false:=HE (hd.symm.trans hcons);generalize hb:s[j]=b at hcons hg;by_cases h34:b=34
    · subst h34
      rw[aSB pQ,aSB ⟨pB,pB,aTl _⟩,CP,hcons];have hul:(s.drop (j+1)).length≤1000000000:=by rw[aS8];omega
      obtain⟨v,hv,hm⟩:=aOV hul
      have hnx:AC ((34:UInt8)::s.drop (j+1))=match uZ 34 (s.drop (j+1)) with
        |none=>none
        |some k=>if (uE 2 ((s.drop (j+1)).take k)).2.2=0∧sR (uE 2 ((s.drop (j+1)).take k)).1=true∧B6 ((s.drop (j+1)).drop (k+1))=true then some ((true,(uE 2 ((s.drop (j+1)).take k)).1,()),(s.drop (j+1)).drop (k+1)) else none:=by
        unfold AC;rw[aSB (show ((34:UInt8)::s.drop (j+1)).head? =some 34 from rfl)];rfl
      rw[hv,aSE,hnx];cases hk:uZ 34 (s.drop (j+1)) with
      | none=>
        rw[hk] at hm;have hm:v.2.2=false:=hm;rw[aSB (by rw[hm];rfl)];rfl
      | some k=>
        rw[hk] at hm;have hm:v=((uE 2 ((s.drop (j+1)).take k)).1,((k+2:Nat):Int),decide ((uE 2 ((s.drop (j+1)).take k)).2.2=0)&&sR (uE 2 ((s.drop (j+1)).take k)).1):=hm;have hku:=OX _ _ _ (aSW _) hk;rw[aS8] at hku;subst hm;dsimp only;by_cases hc:(decide ((uE 2 ((s.drop (j+1)).take k)).2.2=0)&&sR (uE 2 ((s.drop (j+1)).take k)).1)=true
        · have hc':=hc
          simp only[aSV,aSL] at hc';rw[aSD (by rw[hc];simp),aSB (by simp only[aSI,aSY];omega),aSB (show pX ((j:Int)+((k+2:Nat):Int)) by unfold pX;omega)];unfold tI;rw[aSE];dsimp only;rw[show (j:Int)+((k+2:Nat):Int)=((j+(k+2):Nat):Int) by omega,aHO pB];have hdd:(s.drop (j+1)).drop (k+1)=s.drop (j+(k+2)):=by rw[aUA];congr 1;omega
          rw[hdd];cases hgh:B6 (s.drop (j+(k+2))) with
          | false=>
            rw[aSD pD,aSD pD];rfl
          | true=>
            rw[aSB rfl,aSB ⟨hc'.1,hc'.2,rfl⟩,aSE];dsimp only;rw[←hF,XR hs n (j+(k+2)) _ pB pB (by rw[aSH];simp only[aSI,aSY];omega)];cases xY n (s.drop (j+(k+2))) with
            |none=>rfl
            | some l=>
              show some ((out++[_])++l,true)=some (out++(_::l),true);rw[aSN];rfl
        rw[aSB (by rw[aT6] at hc;rw[hc];rfl)]
        rw[aSD (fun h=>hc (by rw[aS5 h.1,h.2.1];rfl))];rfl
    have hp:tE b=true:=SA hg h34
    rw[aSD (by rw[v7 (n:=34) 34 rfl];simp [h34]),aOU hs hlen]
    have hlen2:j+((s.drop j).takeWhile tE).length≤s.length:=by
      have:=(List.takeWhile_prefix tE (l:=s.drop j)).length_le;rw[aS8] at this;omega
    have hpos:0<((s.drop j).takeWhile tE).length:=by rw[hcons,List.takeWhile_cons,aSB hp];simp
    have hd2:s.drop (j+((s.drop j).takeWhile tE).length)=(s.drop j).dropWhile tE:=aHN
    have hcut:qR s (j:Int) ((j+((s.drop j).takeWhile tE).length:Nat):Int)=(s.drop j).takeWhile tE:=by
      unfold qR;rw[aTs,aTs,aTr];exact SC.1
    rw[aSE,aSB ⟨pB,pB,pB⟩,hcut,aSB (by simp only[aSI,aSY];omega)];unfold tI;rw[aSE];dsimp only;rw[aHO hlen2]
    have hnx:AC (s.drop j)=if ((s.drop j).dropWhile tE).head? =some 34 then none else some ((false,(s.drop j).takeWhile tE,()),(s.drop j).dropWhile tE):=by
      unfold AC;rw[aSD (by rw[hcons];simp [h34])]
    rw[hnx,hd2];cases hx:(s.drop j).dropWhile tE with
    | nil=>
      rw[aSB (show B6 []=true from rfl),aSD pD,aSE];dsimp only;rw[←hF,XR hs n _ _ hlen2 pB (by rw[aSH];simp only[aSI,aSY];omega),hd2,hx];cases xY n [] with
      |none=>rfl
      | some l=>
        show some ((out++[_])++l,true)=some (out++(_::l),true);rw[aSN];rfl
    | cons c t=>
      have hcp:=HE hx;by_cases hc34:c=34
      · subst hc34
        rw[aSD (show¬B6 ((34:UInt8)::t)=true by simp [B6,sO]),aSB (show ((34:UInt8)::t).head? =some 34 from rfl)];rfl
      have hgc:B6 (c::t)=true:=aHJ hcp hc34
      rw[aSB hgc,aSD (by simp [hc34]),aSE];dsimp only;rw[←hF,XR hs n _ _ hlen2 pB (by rw[aSH];simp only[aSI,aSY];omega),hd2,hx];cases xY n (c::t) with
      |none=>rfl
      | some l=>
        show some ((out++[_])++l,true)=some (out++(_::l),true);rw[aSN];rfl
def aOW {s:p7}(hs:s.length≤1000000000):M6 s=some (match FG s with|some l=>(l,true) |none=>([],false)):=by
  have h:=XR hs (s.length+1) 0 [] pB pB (aSW _);rw[aTM] at h;unfold M6 FG;exact h
def aHP: ∀(n:Nat) (s:p7) (out:List Wd) (v:Bool×p7×Bool×p7×Bool),s.length<n→s.length+out.length≤1000000000→H0 (s,(false,()))=some v→
    ∃ r,rF ON (out,v.2.2.1,v.2.2.2.1,v.2.2.2.2,v.1,v.2.1)=some r∧match xY n s with
      |some l=>r.1=out++l∧r.2.2=false
      |none=>r.2.2=true
  |0,s,out,v,h,_,_=>by omega
  | n+1,s,out,v,h,hl,hv=>by
    obtain⟨v',hv',h1,h2⟩:=a8V (s:=s) pB;rw[hv] at hv';cases hv';rw[xY];by_cases he:s.dropWhile sO=[]
    · rw[aSB he,h1 he,tB]
      refine⟨(out,[],false),?_,by simp,rfl⟩;unfold ON;dsimp only;rw[aSD pD,aSE]
    rw[aSD he]
    have hm:=h2 he;cases hw:AC (s.dropWhile sO) with
    | none=>
      rw[hw] at hm;obtain⟨h3,h4⟩:v.2.2.1=false∧v.2.2.2.2=true:=hm;rw[tB];refine⟨(out,v.2.2.2.1,v.2.2.2.2),?_,h4⟩;unfold ON;dsimp only;rw[h3,aSD pD,aSE]
    | some w=>
      rw[hw] at hm;have hm:v=(w.1.1,w.1.2.1,true,w.2,false):=hm;subst hm;cases ht:s.dropWhile sO with
      |nil=>exact absurd ht he
      | cons b t=>
        rw[ht] at hw;have hlt:=a8U (HE ht) hw;have hle:=SB sO s;rw[ht] at hle;obtain⟨v2,hv2,_,_⟩:=a8V (s:=w.2) pB;obtain⟨r,hr,hrm⟩:=aHP n w.2 (out++[w.1]) v2 pB (by rw[aSH];simp only[aSI,aSY];omega) hv2;refine⟨r,?_,?_⟩
        · rw[tB]
          unfold ON;dsimp only;rw[aSB rfl,aSB (by simp only[aSI,aSY];omega),hv2,aSE,aSE];exact hr
        show match (xY n w.2).map (w.1:: ·) with|some l=>r.1=out++l∧r.2.2=false|none=>r.2.2=true
        cases hwn:xY n w.2 with
        |none=>rw[hwn] at hrm;exact hrm
        | some l=>
          rw[hwn] at hrm;obtain⟨h3,h4⟩:r.1=(out++[w.1])++l∧r.2.2=false:=hrm;exact⟨by rw[h3,aSN];rfl,h4⟩
def aHQ {s:p7}(hs:s.length≤1000000000): ∃r,H3 s=some r∧match FG s with
    |some l=>r=(l,true)
    |none=>r.2=false:=by
  obtain⟨v,hv,_,_⟩:=a8V hs;obtain⟨r,hr,hm⟩:=aHP (s.length+1) s [] v pB (by simpa using hs) hv;refine⟨(r.1,!r.2.2),?_,?_⟩
  · unfold H3
    rw[hv,aSE];unfold sN;rw[hr,aSE]
  unfold FG
  cases hw:xY (s.length+1) s with
  | none=>
    rw[hw] at hm;have hm:r.2.2=true:=hm;show (!r.2.2)=false;rw[hm];rfl
  | some l=>
    rw[hw] at hm;obtain⟨h1,h2⟩:r.1=[]++l∧r.2.2=false:=hm;show (r.1,!r.2.2)=(l,true);rw[h1,h2];rfl
def SD: ∀(n:Nat) (s:p7) (l:List Wd),xY n s=some l→∀w∈l,yO s.length w
  |0,_,_,h=>by cases h
  | n+1,s,l,h=>by
    rw[xY] at h;split at h
    .cases h;intro w hw;cases hw
    split at h
    .cases h
    rename_i w hw
    cases ht:s.dropWhile sO with
    |nil=>rename_i h0 _;exact absurd ht h0
    | cons b t=>
      rw[ht] at hw;have hlt:=a8U (w:=w.1) (r:=w.2) (HE ht) hw;have hok:=(aOO (w:=w.1) (r:=w.2) (HE ht) hw).1;have hle:=SB sO s;rw[ht] at hle
      have mono: ∀{a b:Nat}{x:Wd},a≤b→yO a x→yO b x:=fun hab hx=>by
        unfold yO at hx|-;split
        .rename_i h1;rw[aSB h1] at hx;exact hx
        rename_i h1;rw[aSD h1] at hx;exact⟨pB,hx.2⟩
      cases hl:xY n w.2 with
      |none=>rw[hl] at h;cases h
      | some l'=>
        rw[hl] at h;cases h;intro x hx;rcases aSP.1 hx with rfl|hx
        .exact mono hle hok
        exact mono pB (SD n w.2 l' hl x hx)
def a8Y: ∀(n:Nat) (s:p7) (l:List Wd),xY n s=some l→s.dropWhile sO≠[]→l≠[]
  |0,_,_,h,_=>by cases h
  | n+1,s,l,h,hne=>by
    rw[xY,aSD hne] at h;split at h
    .cases h
    rename_i w hw
    cases hl:xY n w.2 with
    |none=>rw[hl] at h;cases h
    |some l'=>rw[hl] at h;cases h;simp
end
noncomputable section
abbrev tW:Ty:= .pair .bool (.pair .str .unit)
def wO:p7:=[99,97,116,97,108,111,103]
def yE:p7:=[101,110,116,114,121]
def uP:p7:=[99,111,109,109,101,110,116]
def tQ:p7:=[115,111,117,114,99,101]
def tR:p7:=[116,97,114,103,101,116]
def vW:p7:=[115,116,97,116,101]
def vP:p7:=[102,105,101,108,100]
def FH:p7:=[101,110,100]
def vK:p7:=[102,108,97,103,115]
inductive vX where
  |bad
  |cont (t:p7)
  |beg (head:Bool) (t:p7)
  |com (t:p7)
  |src (t:p7)
  |tgt (t:p7)
  |sta (v:Int)
  |fld (n v:p7)
  |flg (l:p8)
  |fin
def sY:List Wd→Option p7
  |[w]=>if w.1=true then some w.2.1 else none
  |_=>none
def BR:List Wd→Option Int
  |[w]=>if w.1=false∧0≤xB w.2.1 then some (xB w.2.1) else none
  |_=>none
def BS:List Wd→Option (p7×p7)
  |[a,b]=>if (a.1=true∧b.1=true)∧w5 a.2.1=true then some (a.2.1,b.2.1) else none
  |_=>none
def r7 (l:List Wd):p8:=l.map (·.2.1)
def AD (w:Wd):Bool:=w.1|| !w5 w.2.1
def uI (k:p7) (r:List Wd):vX:=
  if k=wO then((sY r).map (vX.beg true)).getD .bad
  else if k=yE then((sY r).map (vX.beg false)).getD .bad
  else if k=uP then((sY r).map vX.com).getD .bad
  else if k=tQ then((sY r).map vX.src).getD .bad
  else if k=tR then((sY r).map vX.tgt).getD .bad
  else if k=vW then((BR r).map vX.sta).getD .bad
  else if k=vP then((BS r).map fun q=>vX.fld q.1 q.2).getD .bad
  else if k=FH then(if r=[] then .fin else .bad)
  else if k=vK then(if r=[]∨(r.any AD)=true then .bad else .flg (r7 r))
  else .bad
def B7:List Wd→vX
  |[]=> .bad
  |w::r=>if w.1=true then(if (r.any fun x=> !x.1)=true then .bad else .cont (r7 (w::r)).flatten) else uI w.2.1 r
def FI {l:List Wd}{i:Nat}(h:i<l.length):qE tW l (i:Int)=l[i]:=zA h
def aOX {w:Wd}{r:List Wd}(hl:(w::r).length≤1000000000) (hw:w.1=true):z8 (w::r)=some ([],!(r.any fun x=> !x.1)):=by
  unfold z8;have h0:qE tW (w::r) (0:Int)=w:=rfl;rw[aSB ⟨aTl _,by simp only[aSI];omega⟩,h0,aSB hw]
  rw[FE (l:=w::r) (fun x=> !x.1) (fun _=>(([]:p7),false)) (fun i h=>by
    unfold X2;rw[aSB (tV h),aSB (sT h),FI h,aSB (u7 pB)]) (by
    unfold X2;rw[aSD (xA _)])]
  rw[H8,JH];rw[List.any_cons,hw,Bool.not_true,Bool.false_or];cases(r.any fun x=> !x.1)<;>rfl
def aHR (w:Wd) (r:List Wd):((decide (((w::r).length:Int)=(2:Int)))&&(qE tW (w::r) (1:Int)).1)=(sY r).isSome:=by
  match r with
  |[]=>rfl
  | [a]=>
    show (true&&a.1)=_;unfold sY;cases h:a.1<;>simp [h]
  | a::b::t=>
    have:decide (((w::a::b::t).length:Int)=2)=false:=decide_eq_false (by simp only[aSI];omega);rw[this];rfl
def aOY {w:Wd}{r:List Wd}(hw:w.1=false) (hk:w.2.1=wO∨w.2.1=yE∨w.2.1=uP∨w.2.1=tQ∨w.2.1=tR):z8 (w::r)=some (w.2.1,(sY r).isSome):=by
  unfold z8;have h0:qE tW (w::r) (0:Int)=w:=rfl;have hl:0≤(0:Int)∧(0:Int)<((w::r).length:Int):=⟨aTl _,by simp only[aSI];omega⟩;rw[aSB hl,h0,aSD (by rw[hw];simp),aSB hl]
  have hx: ∀X:Bool→Option (p7×Bool),sN (σ:=Bool) (
      if (decide (w.2.1=([99,97,116,97,108,111,103]:p7)))=true then
       some ((decide (w.2.1=([99,97,116,97,108,111,103]:p7))))
      else
       if (decide (w.2.1=([101,110,116,114,121]:p7)))=true then
        some ((decide (w.2.1=([101,110,116,114,121]:p7))))
       else
        if (decide (w.2.1=([99,111,109,109,101,110,116]:p7)))=true then
         some ((decide (w.2.1=([99,111,109,109,101,110,116]:p7))))
        else
         if (decide (w.2.1=([115,111,117,114,99,101]:p7)))=true then
          some ((decide (w.2.1=([115,111,117,114,99,101]:p7))))
         else
          some ((decide (w.2.1=([116,97,114,103,101,116]:p7))))) X=X true:=fun X=>by
    rcases hk with h|h|h|h|h<;>rw[h]<;>rfl
  rw[hx,aSB rfl,aSB (fun h=>⟨pB,by
    simp only[aTU,aSL] at h;omega⟩),aHR]
def aOZ {w:Wd}{r:List Wd}(hw:w.1=false) (hk: ¬(w.2.1=wO∨w.2.1=yE∨w.2.1=uP∨w.2.1=tQ∨w.2.1=tR)) (hf:r.length≤1000000000) (hx: ∀x∈r,sC x.2.1):
    z8 (w::r)=some (if w.2.1=vW then(vW,(BR r).isSome) else if w.2.1=vP then(vP,(BS r).isSome) else if w.2.1=FH then(FH,decide (r=[])) else if w.2.1=vK then(vK,!(decide (r=[])||r.any AD)) else([],false)):=by
  unfold z8;have h0:qE tW (w::r) (0:Int)=w:=rfl;have hl:0≤(0:Int)∧(0:Int)<((w::r).length:Int):=⟨aTl _,by simp only[aSI];omega⟩;rw[aSB hl,h0,aSD (by rw[hw];simp),aSB hl];simp only[not_or] at hk;obtain⟨h1,h2,h3,h4,h5⟩:=hk;unfold sN;have e1:decide (w.2.1=([99,97,116,97,108,111,103]:p7))=false:=decide_eq_false h1;have e2:decide (w.2.1=([101,110,116,114,121]:p7))=false:=decide_eq_false h2;have e3:decide (w.2.1=([99,111,109,109,101,110,116]:p7))=false:=decide_eq_false h3;have e4:decide (w.2.1=([115,111,117,114,99,101]:p7))=false:=decide_eq_false h4;have e5:decide (w.2.1=([116,97,114,103,101,116]:p7))=false:=decide_eq_false h5;rw[e1,e2,e3,e4,e5,aSD pD,aSD pD,aSD pD,aSD pD,aSE,aSD pD];by_cases h6:w.2.1=vW
  · rw[aSB h6,show decide (w.2.1=([115,116,97,116,101]:p7))=true from aS5 h6,aSB rfl,h6]
    match r with
    |[]=>rfl
    | [a]=>
      have hn:qE tW [w,a] (1:Int)=a:=rfl;rw[hn,aG3,aSB (fun _=>by simp),aSB (fun _=>by simp),aSB (fun _=>Option.isSome_some)];show some (vW,(true&& !a.1)&&decide (0≤xB a.2.1))=_;unfold BR;cases ha:a.1<;>by_cases hs:0≤xB a.2.1<;>simp [hs,ha]
    | a::b::t=>
      have:decide (((w::a::b::t).length:Int)=2)=false:=decide_eq_false (by simp only[aSI];omega);rw[this,aSB (fun h=>by simp at h),aSB (fun h=>by simp at h),aSB (fun h=>by simp at h)];rfl
  rw[aSD h6,show decide (w.2.1=([115,116,97,116,101]:p7))=false from decide_eq_false h6,aSD pD]
  by_cases h7:w.2.1=vP
  · rw[aSB h7,show decide (w.2.1=([102,105,101,108,100]:p7))=true from aS5 h7,aSB rfl,h7]
    match r with
    |[]=>rfl
    |[a]=>rfl
    | [a,b]=>
      have hn:qE tW [w,a,b] (1:Int)=a:=rfl;have hn2:qE tW [w,a,b] (2:Int)=b:=rfl;rw[hn,hn2,aG0 a.2.1 (hx a pD),aSB (fun _=>by simp),aSB (fun _=>by simp),aSB (fun _=>by simp),aSB (fun _=>Option.isSome_some)];show some (vP,((true&&a.1)&&b.1)&&w5 a.2.1)=_;unfold BS;cases ha:a.1<;>cases hb:b.1<;>cases hc:w5 a.2.1<;>simp [ha,hb,hc]
    | a::b::c::t=>
      have:decide (((w::a::b::c::t).length:Int)=3)=false:=decide_eq_false (by simp only[aSI];omega);rw[this,aSB (fun h=>by simp at h),aSB (fun h=>by simp at h),aSB (fun h=>by simp at h),aSB (fun h=>by simp at h)];rfl
  rw[aSD h7,show decide (w.2.1=([102,105,101,108,100]:p7))=false from decide_eq_false h7,aSD pD]
  by_cases h8:w.2.1=FH
  · rw[aSB h8,show decide (w.2.1=([101,110,100]:p7))=true from aS5 h8,aSB rfl,h8]
    cases r with
    |nil=>rfl
    | cons a t=>
      rw[decide_eq_false (show¬((w::a::t).length:Int)=1 by simp only[aSI];omega)];rfl
  rw[aSD h8,show decide (w.2.1=([101,110,100]:p7))=false from decide_eq_false h8,aSD pD]
  by_cases h9:w.2.1=vK
  · rw[aSB h9,show decide (w.2.1=([102,108,97,103,115]:p7))=true from aS5 h9,aSB rfl]
    have hs:=XB (l:=w::r) AD (fun _=>(w.2.1,false)) (f:=RO (w::r)) (fun i h=>by
      unfold RO
      have hfi:sC ((w::r)[i]).2.1:=by
        cases i with
        |zero=>rw[List.getElem_cons_zero,h9];unfold sC vK;simp
        |succ i=>rw[List.getElem_cons_succ];exact hx _ (aTL _)
      rw[aSB (tV h),aSB (sT h),aSB (fun _=>sT h),FI h,aG0 _ hfi,aSB (fun _=>Option.isSome_some),h0,aSB (u7 (by simp only[aSI] at h;omega))];rfl) (by
      unfold RO;rw[aSD (xA _)]) r.length 1 (by simp only[aSI];omega)
    rw[show ((1:Int))=((1:Nat):Int) from rfl,hs,H8,JH,h9];show some (if r.any AD=true then _ else _)=_;cases hr:r with
    |nil=>rfl
    | cons a t=>
      rw[aS5 (show ((1:Nat):Int)<((w::a::t).length:Int) by simp only[aSI];omega)];cases(a::t).any AD<;>rfl
  rw[aSD h9,show decide (w.2.1=([102,108,97,103,115]:p7))=false from decide_eq_false h9,aSD pD]
def zT (l:p8):Bool:=decide ((Lib.compact (sH l)).length<(sH l).length)
def aHS {l:p8}(h:zT l=false):(sH l).Pairwise (· < ·):=by
  unfold zT at h;have h1: ¬(Lib.compact (sH l)).length<(sH l).length:=of_decide_eq_false h;generalize hs:sH l=s at h1;have hpw:s.Pairwise (·≤·):=by rw[←hs];exact S7 l
  have h2:((List.range s.length).filter (Lib.keeps s.toArray)).length=(List.range s.length).length:=by
    have h3:(Lib.compact s).length=((List.range s.length).filter (Lib.keeps s.toArray)).length:=by
      unfold Lib.compact Lib.compactUpTo;rw[aTw]
    have h4:=List.length_filter_le (Lib.keeps s.toArray) (List.range s.length);rw[List.length_range] at h4|-;omega
  have h3:=List.length_filter_eq_length_iff.1 h2;refine aHG (r:=fun a b:p7=>a<b) (fun a b c=>List.lt_trans) fun i hi=>?_;have hk:=h3 (i+1) (aUz.2 hi)
  have hne:s[i+1]≠s[i]:=by
    intro e
    have:=Lib.keeps_neg (d:=s.toArray) (m:=i+1) pB (by
      rw[Nat.add_sub_cancel,getElem!_pos s.toArray (i+1) (by simpa using hi),getElem!_pos s.toArray i pE];simpa using e)
    rw[this] at hk;cases hk
  have hle:s[i]≤s[i+1]:=aTh.1 hpw i (i+1) pB hi pB;exact XQ (a:=s[i+1]) (b:=s[i]) (fun hlt=>hle hlt) hne
def aO0 {l:p8}(h:l.Pairwise (· < ·)):l.Nodup:=h.imp fun hab e=>by subst e;exact List.lt_irrefl _ hab
def aO1 {l:p8}(h:l.Nodup):(sH l).Pairwise (· < ·):=by
  have h1:(sH l).Nodup:=(MG l).nodup_iff.2 h;have h2:=S7 l;rw[aTh] at h2|-;intro i j hi hj hij
  exact XQ (fun hlt=>h2 i j hi hj hij hlt) fun e=>by
    have:=(List.nodup_iff_pairwise_ne.1 h1);rw[aTh] at this;exact this i j hi hj hij e.symm
def aHT (l:p8):zT l=false↔l.Nodup:=by
  constructor
  · intro h
    exact(MG l).nodup_iff.1 (aO0 (aHS h))
  intro h
  have h2:=aO1 h;unfold zT
  have:Lib.compact (sH l)=sH l:=Lib.compact_all (sH l) fun j hj=>by
    cases j with
    |zero=>simp [Lib.keeps]
    | succ j=>
      refine Lib.keeps_pos ?_;rw[Nat.add_sub_cancel,getElem!_pos (sH l).toArray (j+1) (by simpa using hj),getElem!_pos (sH l).toArray j pE];intro e;have h1:=aTh.1 h2 j (j+1) pB hj pB;simp only[List.getElem_toArray] at e;rw[e] at h1;exact List.lt_irrefl _ h1
  rw[this];exact decide_eq_false (aUg _)
def aO2 {l:p8}{x:p7}(hp:l.Pairwise (·≤·)):(x∈l)↔∃h:xX l x<l.length,l[xX l x]=x:=by
  constructor
  · intro hm
    unfold xX;cases hf:l.findIdx? fun y=> !Op.bytesLess y x with
    | none=>
      have:=aTH.1 hf x hm;rw[CQ] at this;simp [List.lt_irrefl] at this
    | some k=>
      obtain⟨hk,h1,h2⟩:=aTm.1 hf;refine⟨hk,?_⟩;show l[k]=x;rw[CQ] at h1;have h1: ¬l[k]<x:=by simpa using h1
      obtain⟨j,hj,rfl⟩:=aUC hm;rcases Nat.lt_trichotomy j k with h|h|h
      · have:=h2 j h
        rw[CQ] at this;simp [List.lt_irrefl] at this
      .subst h;rfl
      have:=aTh.1 hp k j hk hj h
      exact List.le_antisymm this (List.not_lt.1 h1)
  rintro⟨h,e⟩
  rw[←e];exact aTL _
def aHU {l:List Wd}(hl:l.length≤1000000000): ∀(n i:Nat),i+n=l.length→(r7 (l.take i)).Nodup→
    rF (NZ l) (sH (r7 (l.take i)),(i:Int))=some (if (r7 l).Nodup then .inl (sH (r7 l)) else .inr ([],false))
  | 0,i,hi,hn=>by
    have:i=l.length:=by omega
    subst this;rw[List.take_length] at hn|-;rw[aSB hn,tB];unfold NZ;dsimp only;rw[aSD (xA _)];rfl
  | n+1,i,hi,hn=>by
    have hlt:i<l.length:=by omega
    have hlen:(sH (r7 (l.take i))).length=i:=by rw[JK];unfold r7;rw[aTw,aTe];omega
    have htk:r7 (l.take (i+1))=r7 (l.take i)++[l[i].2.1]:=by
      unfold r7;rw[List.take_succ_eq_append_getElem hlt,List.map_append];rfl
    have hpw:=S7 (r7 (l.take i));have hins:=aOv (r7 (l.take i)) l[i].2.1;have hmem:l[i].2.1∈sH (r7 (l.take i))↔l[i].2.1∈r7 (l.take i):=(MG _).mem_iff;rw[tB];generalize hF:rF (NZ l)=F;unfold NZ;dsimp only;rw[aSB (tV hlt)]
    rw[aG9 (l:=sH (r7 (l.take i))) (fun y=>Op.bytesLess y l[i].2.1) (fun j hj=>by
      unfold WV;rw[aSB (fun _=>sT hj),aSB (fun _=>sT hlt),zA hj,FI hlt,tV hj,Bool.true_and,aSB (u7 pB)]) (by
      unfold WV;have hF:decide (((sH (r7 (l.take i))).length:Int)<((sH (r7 (l.take i))).length:Int))=false:=by simp
      rw[hF,aSB (fun h=>by simp at h),aSB (fun h=>by simp at h),aUa,aSD pD])]
    unfold sN;rw[aSE]
    have hins':xX (sH (r7 (l.take i))) l[i].2.1≤(sH (r7 (l.take i))).length:=by
      unfold xX;cases hf:(sH (r7 (l.take i))).findIdx? fun y=> !Op.bytesLess y l[i].2.1 with
      |none=>exact aSW _
      | some k=>
        have:=(aTm.1 hf).1;exact Nat.le_of_lt this
    rw[show ((sH (r7 (l.take i))).findIdx? fun x=> !Op.bytesLess x l[i].2.1).getD (sH (r7 (l.take i))).length=xX (sH (r7 (l.take i))) l[i].2.1 from rfl];have hat:=aO2 (x:=l[i].2.1) hpw;generalize hk:xX (sH (r7 (l.take i))) l[i].2.1=k at hins' hat
    have hinsE:(sH (r7 (l.take i))).take k++[l[i].2.1]++(sH (r7 (l.take i))).drop k=sH (r7 (l.take (i+1))):=by
      rw[htk,←hins];unfold OY;rw[hk]
    generalize hS:sH (r7 (l.take i))=S at*;rw[aSB (fun h=>by simp only[aTU,aSL] at h;omega),aSB (fun _=>sT hlt),FI hlt];by_cases hm:l[i].2.1∈r7 (l.take i)
    · obtain⟨h1,h2⟩:=hat.1 (hmem.2 hm)
      rw[zA h1,h2,aSB pE,aSE]
      have hno: ¬(r7 l).Nodup:=fun hnd=>by
        have h3:(r7 (l.take (i+1))).Nodup:=hnd.sublist (by unfold r7;exact(List.take_sublist _ _).map _);rw[htk,List.nodup_append] at h3;exact h3.2.2 _ hm _ pD rfl
      rw[aSD hno]
    have hnk:((decide ((k:Int)<(S.length:Int)))&&(decide ((qE .str S (k:Int))=l[i].2.1)))=false:=by
      by_cases h1:k<S.length
      · rw[zA h1]
        have: ¬S[k]=l[i].2.1:=fun e=>hm (hmem.1 (hat.2 ⟨h1,e⟩));simp only[this,decide_false,Bool.and_false]
      rw[decide_eq_false (by omega: ¬(k:Int)<(S.length:Int)),aUa]
    rw[hnk,aSD pD,aSB ⟨aTl _,pB,pB⟩,OU,CP];have hmin:(S.take k).length=k:=by rw[aTe];omega
    have hdrop:(S.drop k).length=i-k:=by rw[aS8];omega
    simp only[List.nil_append,aSH,aSI,aSY,hmin,hdrop];rw[aSB pB,aSB (sT hlt),aSB pB,aSB ⟨pB,pB,aTl _⟩,aSB pB,aSB (u7 pB),aSE,hinsE];dsimp only;rw[←hF,show ((i:Int)+1)=((i+1:Nat):Int) by omega]
    have hnd:(r7 (l.take (i+1))).Nodup:=by
      rw[htk,List.nodup_append];exact⟨hn,by simp,fun a ha b hb=>by rw[aST.1 hb];exact fun e=>hm (e▸ha)⟩
    exact aHU hl n (i+1) pB hnd
def aO3 {l:List Wd}(hl:l.length≤1000000000):LA l=some (if zT (r7 l)=true then([],false) else(sH (r7 l),true)):=by
  have h:=aHU hl l.length 0 pB (by unfold r7;simp);have h0:sH (r7 (l.take 0))=[]:=aS9 (by rw[JK];rfl);rw[h0] at h;unfold LA;rw[show ((0:Int))=((0:Nat):Int) from rfl,h];by_cases hd:(r7 l).Nodup
  · rw[aSB hd,aSD (by rw[(aHT _).2 hd];simp)]
    rfl
  have:zT (r7 l)=true:=by
    cases hq:zT (r7 l) with
    |true=>rfl
    |false=>exact absurd ((aHT _).1 hq) hd
  rw[aSD hd,aSB this];rfl
end
end Go.Proofs.YtcpbaddnmpeipaaGreatDoor
