/- Packed by a program of mine (wip/tools/pack.py): the same texts with short names and few blanks. -/
import Derived.KernelRfl
import Derived.Laws.BitsLemmas
import Derived.Lib.Index
import Derived.Lib.IndexAny
import Derived.Lib.MapLaws
import Derived.Lib.TrimAscii
import Derived.Lib.TrimUEq
import Derived.Lib.ValidLaws
import Derived.Sort.Walk0
import Derived.Test.YtcpbaddnmpeipaaGreatDoorJ03
set_option linter.defProp false
set_option linter.unusedVariables false
set_option linter.unusedSimpArgs false
set_option linter.unusedSectionVars false
set_option maxRecDepth 100000
set_option maxHeartbeats 4000000
namespace Go.Proofs.YtcpbaddnmpeipaaGreatDoor
open Vc
open Tryz
noncomputable section
def OL (O:Int) (Z:p8):(pI×Int)→Option ((pI×Int)⊕(pI⊕(p8×Int×Int))):=fun(aA,aB)=>if (decide (aB<(Z.length:Int)))=true then if 0≤aB∧aB<(Z.length:Int) then if pY (aB+(1:Int)) then if 0≤aB∧aB≤(aB+(1:Int))∧(aB+(1:Int))≤(Z.length:Int) then sR (σ:=(p8×Int)) (if ((!decide (O=(4:Int)))&&(decide ((rJ Z aB)=(92:Int))))=true then if 0≤aB∧aB≤(Z.length:Int)∧(Z.length:Int)≤(Z.length:Int) then (H6 (qU Z aB (Z.length:Int))).bind fun aC=>some ((aC.1,aC.2)) else none else if ((decide (O=(4:Int)))&&(decide ((rJ Z aB)=(38:Int))))=true then if 0≤aB∧aB≤(Z.length:Int)∧(Z.length:Int)≤(Z.length:Int) then (OH (qU Z aB (Z.length:Int))).bind fun aD=>some ((aD.1,aD.2)) else none else if ((!decide (O=(4:Int)))&&(decide ((rJ Z aB)=(10:Int))))=true then if ((!decide (O=(4:Int)))&&(decide ((rJ Z aB)=(10:Int))))=true then some (((qU Z aB (aB+(1:Int))),(0:Int))) else some (((qU Z aB (aB+(1:Int))),(1:Int))) else if (((decide (O=(2:Int)))||(decide (O=(3:Int))))&&(decide ((rJ Z aB)=(34:Int))))=true then if (((decide (O=(2:Int)))||(decide (O=(3:Int))))&&(decide ((rJ Z aB)=(34:Int))))=true then some (((qU Z aB (aB+(1:Int))),(0:Int))) else some (((qU Z aB (aB+(1:Int))),(1:Int))) else if (((decide (O=(4:Int)))==true)=true→((GT (rJ Z aB) ([60,34]:p8))).isSome=true) then if ((decide (O=(4:Int)))&&(val (GT (rJ Z aB) ([60,34]:p8))))=true then some (((qU Z aB (aB+(1:Int))),(0:Int))) else some (((qU Z aB (aB+(1:Int))),(1:Int))) else none ) fun(aE,aF)=>if (decide (aF=(0:Int)))=true then some (.inr (.inr ((([]:p8),aB,(3:Int))))) else if List.length aA+aE.length≤140737488355328 then if pY (aB+aF) then some (.inl ((aA++uN aE),(aB+aF))) else none else none else none else none else none else some (.inr (.inl aA))
def M5 (O:Int) (Z:p8):Option (p8×Int×Int):=if (!((decide ((1:Int)≤O))&&(decide (O≤(4:Int)))))=true then some ((([]:p8),(0:Int),(1:Int))) else tC (rG (OL O Z) (([]:pI),(0:Int))) fun aA=>some (((tQ aA),(0:Int),(0:Int)))
section
variable (O:Int) (Z:p8)
abbrev a7j:List pX:=[(.val (.int .i64) O,none),(.val .str Z,none)]
abbrev a7k:List pW:=[]
@[go_sem] def a7l:qI:=let q:=val (M5 O Z);⟨[((M5 O Z)).isSome=true],[(.val .str (q.1),none),(.val (.int .i64) (q.2.1),none),(.val (.int .i64) (q.2.2),none)],[]⟩
def aF4:List pX→List pW→Option qI:=rR (V:=(Int×p8)) (fun x=>a7j x.1 x.2) (fun x=>a7k) fun x=>a7l x.1 x.2
@[go_sem] def aRJ:aF4 (no_index (a7j O Z)) (no_index a7k)=some (a7l O Z):=rS (fun⟨a0,a1⟩ ⟨b0,b1⟩ h1 h2=>by cases h1;cases h2;rfl) (O,Z)
end
@[go_sem] abbrev aF5:Nat×r7:=(167,⟨[.v,.v],aF4,[],[],none⟩)
def wI:qW prog [DO,sB,DM] (qY [a3c,aFQ,aFT,a3N]):=⟨⟨GL,⟨sC,⟨GJ,trivial⟩⟩⟩,qK aDN (qK aM2 (qK aM3 (qK aD7 rM))),r5⟩
def aM7:rD prog aF5:=by
 refine rT wI func167 (c:=_) rfl (N:=89) pQ (ts:=[(4,none),(5,none),(6,none)]) rfl (fun _ _=>rfl) ?_;intro⟨O,Z⟩ hs hrow;dsimp only[a7j,a7k,a7l,rP,qQ,qV,r8,rQ,Nat.reduceAdd] at hs hrow|-;have hz:=hs;obtain⟨z0,g⟩:=aSn.1 hz
 try rw[rX g]
 clear hz hs;unfold M5 at g;refine pV wI ?_;refine qD (pV wI ?_);refine qE g ?_ ?_<;>intro g Y
 .refine pV wI ?_;refine qC (qP ?_);cases g;exact pA []
 refine qM (q9 (pV wI ?_));refine pV wI ?_;refine qD (rN ?_);obtain⟨y1,hy1,g⟩:=uM g;refine tN 0 (fun s=> ∃v,y1= .inl v∧s=(fun x=>⟨[(7,(.val (.list (.int .u8)) x,some 0))],[(0,.grow 5 1 (x.length))],1,89,0⟩) v) ?_ ?_
 .refine tD hy1 (fun x=>⟨[(0,.val (.int .i64) O,none),(1,.val .str Z,none),(7,(.val (.list (.int .u8)) x.1,some 0)),(8,(.val (.int .i64) x.2,none))],[(0,.grow 5 1 (x.1.length))],1,89,0⟩) ⟨[0,1,7,8],[(0,192)]⟩ pR ?_;intro x1 w1 n1 d i;obtain⟨aA,aB⟩:=x1;unfold OL at d;dsimp only at d|-;refine qD (pV wI ?_);refine qE d ?_ ?_<;>intro d Y
  .refine qM (q9 (rN ?_));obtain⟨X,d⟩:=q8 d;refine pV wI ?_ (hp:=by exact X);obtain⟨W,V,d⟩:=p7 d;refine pV wI ?_ (hp:=by exact⟨W,V⟩);refine qD ?_;obtain⟨y2,f,d⟩:=qR d;refine AR (fun s=>s=(fun x=>⟨[(0,.val (.int .i64) O,none),(1,.val .str Z,none),(7,(.val (.list (.int .u8)) aA,some 0)),(8,(.val (.int .i64) aB,none)),(10,.val .str x.1,none),(11,.val (.int .i64) x.2,none)],[(0,.grow 5 1 (aA.length))],1,89,0⟩) y2) ?_ ?_
   .refine rN (pV wI ?_ (hp:=by exact⟨id,rY⟩));refine qE f ?_ ?_<;>intro f Y
    .obtain⟨U,f⟩:=q8 f;obtain⟨aC,hv5,hw5,f⟩:=rI f
     try simp only[go_sem] at hw5
     refine qZ wI ?_ (hp:=by exact⟨U,(rH hv5)⟩) (h:=by simp only[go_sem,hw5];rfl);refine rL ?_;cases f;exact tE ⟨⟨[0,1,7,8,10,11],[(0,0)]⟩,by rfl⟩
    refine pV wI ?_ (hp:=by exact⟨id,rY⟩);refine qE f ?_ ?_<;>intro f Y
    .obtain⟨T,f⟩:=q8 f;obtain⟨aD,hv7,hw7,f⟩:=rI f
     try simp only[go_sem] at hw7
     refine qZ wI ?_ (hp:=by exact⟨T,(rH hv7)⟩) (h:=by simp only[go_sem,hw7];rfl);refine rL ?_;cases f;exact tE ⟨⟨[0,1,7,8,10,11],[(0,0)]⟩,by rfl⟩
    refine qD (pV wI ?_ (hp:=by exact⟨id,rY⟩));refine qE f ?_ ?_<;>intro f Y
    .refine qM (q9 (qE f (fun f Y=>?_) (fun f Y=>?_)))
     .refine qZ wI ?_;refine rL ?_;cases f;exact tE ⟨⟨[0,1,7,8,10,11],[(0,0)]⟩,by rfl⟩
     refine qM (rL ?_);cases f;exact tE ⟨⟨[0,1,7,8,10,11],[(0,0)]⟩,by rfl⟩
    refine pV wI ?_ (hp:=by exact⟨id,tP,id,rY⟩);refine qE f ?_ ?_<;>intro f Y
    .refine qM (q9 (qE f (fun f Y=>?_) (fun f Y=>?_)))
     .refine qZ wI ?_;refine rL ?_;cases f;exact tE ⟨⟨[0,1,7,8,10,11],[(0,0)]⟩,by rfl⟩
     refine qM (rL ?_);cases f;exact tE ⟨⟨[0,1,7,8,10,11],[(0,0)]⟩,by rfl⟩
    obtain⟨S,f⟩:=q8 f;refine qZ wI ?_ (hp:=by exact⟨id,S,rY⟩);refine q9 (qE f (fun f Y=>?_) (fun f Y=>?_))
    .refine qZ wI ?_;refine rL ?_;cases f;exact tE ⟨⟨[0,1,7,8,10,11],[(0,0)]⟩,by rfl⟩
    refine qM (rL ?_);cases f;exact tE ⟨⟨[0,1,7,8,10,11],[(0,0)]⟩,by rfl⟩
   rintro _ rfl;obtain⟨aE,aF⟩:=y2;dsimp only at d|-;refine q9 (qD (pV wI ?_));refine qE d ?_ ?_<;>intro d Y
   .refine pV wI ?_;refine qC (qP (r9 (tY (uR (r9 (qP ?_))))));cases d;cases i;dsimp only at g;cases g;exact pA []
   refine qM (q9 ?_);obtain⟨R,d⟩:=q8 d;refine pV wI ?_ (hp:=by exact⟨pP,R⟩)
   obtain⟨Q,d⟩:=q8 d;refine qZ wI ?_ (hp:=by exact Q);refine rL ?_;cases d;exact sN ⟨⟨[0,1,7,8],[(0,0)]⟩,_,by rfl,i⟩
  refine tA (t7 (tB ?_));cases d;cases i;exact tO ⟨⟨[7],[(0,0)]⟩,_,rfl,by rfl⟩
 rintro _ ⟨aG,rfl,rfl⟩;dsimp only at g|-;refine t8 (q9 ?_);refine pV wI ?_;refine qC ?_;cases g;exact pA []
def JE (O:A7) (Z:(List (Bool×(p8×Unit)))):Option (p8×p8×p9×(List qG)×Int):=if ((!O.2.2.2.1)||(decide (O.2.2.2.2.2.2.2.2.1=([]:p8))))=true then some ((O.2.2.1.2.1,O.2.2.1.2.2.1,O.2.2.1.2.2.2.1,O.2.2.1.2.2.2.2.2.2.1,(3:Int))) else sR (σ:=(Bool×p8×p8×p9×(List qG))) (if (decide (O.2.2.2.2.2.2.2.2.1=([99,111,109,109,101,110,116]:p8)))=true then if pY ((O.2.2.1.2.2.2.1.length:Int)- (1:Int)) then if 0≤((O.2.2.1.2.2.2.1.length:Int)- (1:Int))∧((O.2.2.1.2.2.2.1.length:Int)- (1:Int))<(O.2.2.1.2.2.2.1.length:Int) then (E8 (qH .str O.2.2.1.2.2.2.1 ((O.2.2.1.2.2.2.1.length:Int)- (1:Int))) Z).bind fun aA=>if 0≤(0:Int)∧(0:Int)≤((O.2.2.1.2.2.2.1.length:Int)- (1:Int))∧((O.2.2.1.2.2.2.1.length:Int)- (1:Int))≤(O.2.2.1.2.2.2.1.length:Int) then if (([]:p9).length+(qU O.2.2.1.2.2.2.1 (0:Int) ((O.2.2.1.2.2.2.1.length:Int)- (1:Int))).length)*16≤140737488355328 then if ((([]:p9)++(qU O.2.2.1.2.2.2.1 (0:Int) ((O.2.2.1.2.2.2.1.length:Int)- (1:Int)))).length+([aA.1]:p9).length)*16≤140737488355328 then some ((aA.2,O.2.2.1.2.1,O.2.2.1.2.2.1,((([]:p9)++(qU O.2.2.1.2.2.2.1 (0:Int) ((O.2.2.1.2.2.2.1.length:Int)- (1:Int))))++([aA.1]:p9)),O.2.2.1.2.2.2.2.2.2.1)) else none else none else none else none else none else if (decide (O.2.2.2.2.2.2.2.2.1=([115,111,117,114,99,101]:p8)))=true then (E8 O.2.2.1.2.1 Z).bind fun aB=>some ((aB.2,aB.1,O.2.2.1.2.2.1,O.2.2.1.2.2.2.1,O.2.2.1.2.2.2.2.2.2.1)) else if (decide (O.2.2.2.2.2.2.2.2.1=([116,97,114,103,101,116]:p8)))=true then (E8 O.2.2.1.2.2.1 Z).bind fun aC=>some ((aC.2,O.2.2.1.2.1,aC.1,O.2.2.1.2.2.2.1,O.2.2.1.2.2.2.2.2.2.1)) else if (decide (O.2.2.2.2.2.2.2.2.1=([102,105,101,108,100]:p8)))=true then (GR O.2.2.1.2.2.2.2.2.2.1 O.2.2.2.2.2.2.2.2.2.1).bind fun aD=>(E8 aD.1 Z).bind fun aE=>(GS O.2.2.1.2.2.2.2.2.2.1 O.2.2.2.2.2.2.2.2.2.1 aE.1).bind fun aF=>some ((aE.2,O.2.2.1.2.1,O.2.2.1.2.2.1,O.2.2.1.2.2.2.1,aF)) else some ((false,O.2.2.1.2.1,O.2.2.1.2.2.1,O.2.2.1.2.2.2.1,O.2.2.1.2.2.2.2.2.2.1)) ) fun(aG,aH,aI,aJ,aK)=>if (!aG)=true then some ((aH,aI,aJ,aK,(3:Int))) else some ((aH,aI,aJ,aK,(0:Int)))
section
variable (O:A7) (Z:(List (Bool×(p8×Unit))))
abbrev a7m:List pX:=[(.val wL O,none),(.val (.list qO) Z,none)]
abbrev a7n:List pW:=[]
@[go_sem] def a7o:qI:=let q:=val (JE O Z);⟨[((JE O Z)).isSome=true],[(.val wL ((O.1.1,(O.1.2.1,(O.1.2.2.1,(O.1.2.2.2.1,())))),(O.2.1,((O.2.2.1.1,(q.1,(q.2.1,(q.2.2.1,(O.2.2.1.2.2.2.2.1,(O.2.2.1.2.2.2.2.2.1,(q.2.2.2.1,()))))))),(O.2.2.2.1,(O.2.2.2.2.1,(O.2.2.2.2.2.1,(O.2.2.2.2.2.2.1,(O.2.2.2.2.2.2.2.1,(O.2.2.2.2.2.2.2.2.1,(O.2.2.2.2.2.2.2.2.2.1,())))))))))),none),(.val (.int .i64) (q.2.2.2.2),none)],[]⟩
def aF6:List pX→List pW→Option qI:=rR (V:=(A7×(List (Bool×(p8×Unit))))) (fun x=>a7m x.1 x.2) (fun x=>a7n) fun x=>a7o x.1 x.2
@[go_sem] def aRK:aF6 (no_index (a7m O Z)) (no_index a7n)=some (a7o O Z):=rS (fun⟨a0,a1⟩ ⟨b0,b1⟩ h1 h2=>by cases h1;cases h2;rfl) (O,Z)
end
@[go_sem] abbrev aF7:Nat×r7:=(89,⟨[.v,.v],aF6,[],[],none⟩)
def wO:qW prog [uY,sB,A8,yO,F4,IH] (qY [aF1,a3y,a3C]):=⟨⟨vI,⟨sC,⟨BQ,⟨AT,⟨IG,⟨NR,trivial⟩⟩⟩⟩⟩⟩,qK aM5 (qK aDZ (qK aD1 rM)),r5⟩
def aM8:rD prog aF7:=by
 refine rT wO func89 (c:=_) rfl (N:=108) pQ (ts:=[(4,some 95),(5,none)]) rfl (fun _ _=>rfl) ?_;intro⟨O,Z⟩ hs hrow;dsimp only[a7m,a7n,a7o,rP,qQ,qV,r8,rQ,Nat.reduceAdd] at hs hrow|-;have hz:=hs;obtain⟨z0,g⟩:=aSn.1 hz
 try rw[rX g]
 clear hz hs;unfold JE at g;refine pV wO ?_;refine qD (pV wO ?_ (hp:=by exact⟨id,id,tP⟩));refine qE g ?_ ?_<;>intro g Y
 .refine pV wO ?_;refine qC (qP ?_);cases g;exact pA []
 refine qM (q9 (pV wO ?_));refine qD (pV wO ?_);obtain⟨y1,d,g⟩:=qR g;refine AR (fun s=>s=(fun x=>⟨[(2,.val .ref (some (0,0)),none),(4,.val .ref (some (1,0)),none),(7,.val .bool x.1,none)],[(0,.cells wL ((O.1.1,(O.1.2.1,(O.1.2.2.1,(O.1.2.2.2.1,())))),(O.2.1,((O.2.2.1.1,(x.2.1,(x.2.2.1,(x.2.2.2.1,(O.2.2.1.2.2.2.2.1,(O.2.2.1.2.2.2.2.2.1,(x.2.2.2.2,()))))))),(O.2.2.2.1,(O.2.2.2.2.1,(O.2.2.2.2.2.1,(O.2.2.2.2.2.2.1,(O.2.2.2.2.2.2.2.1,(O.2.2.2.2.2.2.2.2.1,(O.2.2.2.2.2.2.2.2.2.1,())))))))))) []),(1,.cells wL ((([]:p8),(([]:p9),(([]:List qG),(([]:List rW),())))),(([]:pI),((([]:p8),(([]:p8),(([]:p8),(([]:p9),(([]:p9),((0:Int),(([]:List qG),()))))))),(false,(false,(false,(false,(false,(([]:p8),(([]:p8),())))))))))) [(1,2),(2,3),(3,4),(4,5),(8,6),(9,7),(11,8)]),(2,.grow 9 1 (([]:p9).length)),(3,.grow 110 2 (([]:List qG).length)),(4,.grow 45 7 (([]:List rW).length)),(5,.grow 3 1 (([]:pI).length)),(6,.grow 9 1 (([]:p9).length)),(7,.grow 9 1 (([]:p9).length)),(8,.grow 110 2 (([]:List qG).length))],9,108,0⟩) y1) ?_ ?_
 .refine rN (pV wO ?_);refine qE d ?_ ?_<;>intro d Y
  .obtain⟨X,d⟩:=q8 d;refine pV wO ?_ (hp:=by exact X);obtain⟨W,d⟩:=q8 d;obtain⟨aA,hv3,hw3,d⟩:=rI d
   try simp only[go_sem] at hw3
   refine pV wO ?_ (hp:=by exact⟨W,(rH hv3)⟩) (h:=by simp only[go_sem,hw3];rfl);obtain⟨V,U,d⟩:=p7 d;obtain⟨T,d⟩:=q8 d;refine qZ wO ?_ (hp:=by exact⟨V,pP,U,pP,T⟩)
   refine rL ?_;cases d;exact tE ⟨⟨[2,4,7],[(0,0),(1,32),(2,33),(3,34),(4,35),(5,36),(6,37),(7,38),(8,39)]⟩,by rfl⟩
  refine pV wO ?_;refine qE d ?_ ?_<;>intro d Y
  .obtain⟨aB,hv7,hw7,d⟩:=rI d
   try simp only[go_sem] at hw7
   refine pV wO ?_ (hp:=by exact(rH hv7)) (h:=by simp only[go_sem,hw7];rfl);refine qZ wO ?_;refine rL ?_;cases d;exact tE ⟨⟨[2,4,7],[(0,0),(1,32),(2,33),(3,34),(4,35),(5,36),(6,37),(7,38),(8,39)]⟩,by rfl⟩
  refine pV wO ?_;refine qE d ?_ ?_<;>intro d Y
  .obtain⟨aC,hv8,hw8,d⟩:=rI d
   try simp only[go_sem] at hw8
   refine pV wO ?_ (hp:=by exact(rH hv8)) (h:=by simp only[go_sem,hw8];rfl);refine qZ wO ?_;refine rL ?_;cases d;exact tE ⟨⟨[2,4,7],[(0,0),(1,32),(2,33),(3,34),(4,35),(5,36),(6,37),(7,38),(8,39)]⟩,by rfl⟩
  refine pV wO ?_;refine qE d ?_ ?_<;>intro d Y
  .obtain⟨aD,hv9,hw9,d⟩:=rI d
   try simp only[go_sem] at hw9
   refine pV wO ?_ (hp:=by exact(rH hv9)) (h:=by simp only[go_sem,hw9];rfl);obtain⟨aE,hv10,hw10,d⟩:=rI d
   try simp only[go_sem] at hw10
   refine pV wO ?_ (hp:=by exact(rH hv10)) (h:=by simp only[go_sem,hw10];rfl);obtain⟨aF,hv11,hw11,d⟩:=rI d
   try simp only[go_sem] at hw11
   refine qZ wO ?_ (hp:=by exact(rH hv11)) (h:=by simp only[go_sem,hw11];rfl);refine rL ?_;cases d;exact tE ⟨⟨[2,4,7],[(0,0),(1,32),(2,33),(3,34),(4,35),(5,36),(6,37),(7,38),(8,39)]⟩,by rfl⟩
  refine qM (rL ?_);cases d;exact tE ⟨⟨[2,4,7],[(0,0),(1,32),(2,33),(3,34),(4,35),(5,36),(6,37),(7,38),(8,39)]⟩,by rfl⟩
 rintro _ rfl;obtain⟨aG,aH,aI,aJ,aK⟩:=y1;dsimp only at g|-;refine q9 (qD (pV wO ?_));refine qE g ?_ ?_<;>intro g Y
 .refine pV wO ?_;refine qC (qP ?_);cases g;exact pA []
 refine qM (q9 (pV wO ?_));refine qC ?_;cases g;exact pA []
def JF (O:Int):Option p8:=(OK ([O]:pI)).bind fun Z=>some (Z)
section
variable (O:Int)
abbrev a7p:List pX:=[(.val (.int .i64) O,none)]
abbrev a7q:List pW:=[]
@[go_sem] def a7r:qI:=⟨[((JF O)).isSome=true],[(.val .str (val (JF O)),none),(.val .bool ((decide (O≤(1114111:Int)))&&((decide (O<(55296:Int)))||(decide ((57343:Int)<O)))),none)],[]⟩
def aF8:List pX→List pW→Option qI:=rR (V:=Int) (a7p) (fun x=>a7q) fun x=>a7r x
@[go_sem] def aRL:aF8 (no_index (a7p O)) (no_index a7q)=some (a7r O):=rS (fun a0 b0 h1 h2=>by cases h1;cases h2;rfl) O
end
@[go_sem] abbrev a7s:Nat×r7:=(201,⟨[.v],aF8,[],[],none⟩)
def WY:qW prog [DN] (qY [aF3]):=⟨⟨GK,trivial⟩,qK aM6 rM,r5⟩
def aF9:rD prog a7s:=by
 refine rT WY func201 (c:=_) rfl (N:=19) pQ (ts:=[(2,none),(3,none)]) rfl (fun _ _=>rfl) ?_;intro O hs hrow;dsimp only[a7p,a7q,a7r,rP,qQ,qV,r8,rQ,Nat.reduceAdd] at hs hrow|-;have hz:=hs;obtain⟨z0,g⟩:=aSn.1 hz
 try rw[rX g]
 clear hz hs;unfold JF at g;refine pV WY ?_;refine pV WY ?_ (hp:=by exact⟨id,id,id,id,fun hG e=>GF hG e,rY⟩);obtain⟨Z,hv1,hw1,g⟩:=rI g
 try simp only[go_sem] at hw1
 refine pV WY ?_ (hp:=by exact(rH hv1)) (h:=by simp only[go_sem,hw1];rfl);refine qC ?_;cases g;exact pA []
attribute [irreducible] M5 JE JF
end
noncomputable section
def M6 (O:p8):Option (p8×Int×Bool):=if 0≤(1:Int)∧(1:Int)≤(O.length:Int)∧(O.length:Int)≤(O.length:Int) then (GV (2:Int) (qU O (1:Int) (O.length:Int)) (34:Int)).bind fun Z=>if (decide (Z<(0:Int)))=true then some ((([]:p8),(0:Int),false)) else if pY ((1:Int)+Z) then if 0≤(1:Int)∧(1:Int)≤((1:Int)+Z)∧((1:Int)+Z)≤(O.length:Int) then (M5 (2:Int) (qU O (1:Int) ((1:Int)+Z))).bind fun aA=>if pY (Z+(2:Int)) then if (((decide (aA.2.2=(0:Int)))==true)=true→((M3 aA.1)).isSome=true) then some ((aA.1,(Z+(2:Int)),((decide (aA.2.2=(0:Int)))&&((decide ((aA.1.length:Int)≤(4000:Int)))&&(val (E6 aA.1)))))) else none else none else none else none else none
section
variable (O:p8)
abbrev a7t:List pX:=[(.val .str O,none)]
abbrev a7u:List pW:=[]
@[go_sem] def a7v:qI:=let q:=val (M6 O);⟨[((M6 O)).isSome=true],[(.val .str (q.1),none),(.val (.int .i64) (q.2.1),none),(.val .bool (q.2.2),none)],[]⟩
def aGa:List pX→List pW→Option qI:=rR (V:=p8) (a7t) (fun x=>a7u) fun x=>a7v x
@[go_sem] def aRM:aGa (no_index (a7t O)) (no_index a7u)=some (a7v O):=rS (fun a0 b0 h1 h2=>by cases h1;cases h2;rfl) O
end
@[go_sem] abbrev aGb:Nat×r7:=(123,⟨[.v],aGa,[],[],none⟩)
def M7:qW prog [sB] (qY [aEh,aF5,a7b]):=⟨⟨sC,trivial⟩,qK aMv (qK aM7 (qK aFZ rM)),r5⟩
def aM9:rD prog aGb:=by
 refine rT M7 func123 (c:=_) rfl (N:=32) pQ (ts:=[(2,none),(3,none),(4,none)]) rfl (fun _ _=>rfl) ?_;intro O hs hrow;dsimp only[a7t,a7u,a7v,rP,qQ,qV,r8,rQ,Nat.reduceAdd] at hs hrow|-;have hz:=hs;obtain⟨z0,d⟩:=aSn.1 hz
 try rw[rX d]
 clear hz hs;unfold M6 at d;refine pV M7 ?_;obtain⟨X,d⟩:=q8 d;obtain⟨Z,hv2,hw2,d⟩:=rI d
 try simp only[go_sem] at hw2
 refine pV M7 ?_ (hp:=by exact⟨X,(rH hv2)⟩) (h:=by simp only[go_sem,hw2];rfl);refine qD (pV M7 ?_);refine qE d ?_ ?_<;>intro d Y
 .refine pV M7 ?_;refine qC (qP ?_);cases d;exact pA []
 refine qM (q9 ?_);obtain⟨W,V,d⟩:=p7 d;obtain⟨aA,hv5,hw5,d⟩:=rI d
 try simp only[go_sem] at hw5
 refine pV M7 ?_ (hp:=by exact⟨W,V,(rH hv5)⟩) (h:=by simp only[go_sem,hw5];rfl);obtain⟨U,T,d⟩:=p7 d;refine pV M7 ?_ (hp:=by exact⟨U,id,T,rY⟩);refine qC ?_;cases d;exact pA []
def RP (O:p8):Int→Option (Int⊕Int):=fun Z=>if (((decide (Z<(O.length:Int)))==true)=true→0≤Z∧Z<(O.length:Int)) then if ((decide (Z<(O.length:Int)))&&((decide ((rJ O Z)=(32:Int)))||(decide ((rJ O Z)=(9:Int)))))=true then if pY (Z+(1:Int)) then some (.inl (Z+(1:Int))) else none else some (.inr Z) else none
def RQ (O:p8):Int→Option (Int⊕Int):=fun Z=>if (((decide (Z<(O.length:Int)))==true)=true→0≤Z∧Z<(O.length:Int)) then if ((((decide (Z<(O.length:Int)))&&(!((decide ((rJ O Z)=(32:Int)))||(decide ((rJ O Z)=(9:Int))))))==true)=true→0≤Z∧Z<(O.length:Int)) then if (((decide (Z<(O.length:Int)))&&(!((decide ((rJ O Z)=(32:Int)))||(decide ((rJ O Z)=(9:Int))))))&&(!decide ((rJ O Z)=(34:Int))))=true then if pY (Z+(1:Int)) then some (.inl (Z+(1:Int))) else none else some (.inr Z) else none else none
def RR (O:p8):((List (Bool×(p8×Unit)))×Int)→Option (((List (Bool×(p8×Unit)))×Int)⊕((List (Bool×(p8×Unit)))×Bool)):=fun(Z,aA)=>sR (rG (RP O) aA) fun aB=>if (decide (aB=(O.length:Int)))=true then some (.inr ((Z,true))) else if 0≤aB∧aB<(O.length:Int) then tC (σ:=((List (Bool×(p8×Unit)))×Int)) (if (decide ((rJ O aB)=(34:Int)))=true then if 0≤aB∧aB≤(O.length:Int)∧(O.length:Int)≤(O.length:Int) then (M6 (qU O aB (O.length:Int))).bind fun aC=>if (!aC.2.2)=true then some (.inr (.inr ((([]:List (Bool×(p8×Unit))),false)))) else if (Z.length+([(true,(aC.1,()))]:List (Bool×(p8×Unit))).length)*24≤140737488355328 then if pY (aB+aC.2.1) then some (.inl ((Z++([(true,(aC.1,()))]:List (Bool×(p8×Unit)))),(aB+aC.2.1))) else none else none else none else sR (rG (RQ O) aB) fun aD=>if 0≤aB∧aB≤aD∧aD≤(O.length:Int) then if (Z.length+([(false,((qU O aB aD),()))]:List (Bool×(p8×Unit))).length)*24≤140737488355328 then some (.inl ((Z++([(false,((qU O aB aD),()))]:List (Bool×(p8×Unit)))),aD)) else none else none ) fun(aE,aF)=>if (((decide (aF<(O.length:Int)))==true)=true→0≤aF∧aF<(O.length:Int)) then if ((decide (aF<(O.length:Int)))&&(!((decide ((rJ O aF)=(32:Int)))||(decide ((rJ O aF)=(9:Int))))))=true then some (.inr ((([]:List (Bool×(p8×Unit))),false))) else some (.inl (aE,aF)) else none else none
def M8 (O:p8):Option ((List (Bool×(p8×Unit)))×Bool):=rG (RR O) (([]:List (Bool×(p8×Unit))),(0:Int))
section
variable (O:p8)
abbrev a7w:List pX:=[(.val .str O,none)]
abbrev a7x:List pW:=[]
@[go_sem] def a7y:qI:=let q:=val (M8 O);⟨[((M8 O)).isSome=true],[(.val (.list qO) (q.1),some 0),(.val .bool (q.2),none)],[.grow 136 2 ((q.1).length)]⟩
def aGc:List pX→List pW→Option qI:=rR (V:=p8) (a7w) (fun x=>a7x) fun x=>a7y x
@[go_sem] def aRN:aGc (no_index (a7w O)) (no_index a7x)=some (a7y O):=rS (fun a0 b0 h1 h2=>by cases h1;cases h2;rfl) O
end
@[go_sem] abbrev aGd:Nat×r7:=(87,⟨[.v],aGc,[],[],none⟩)
def xW:qW prog [sB,II,IJ] (qY [a2L,aGb]):=⟨⟨sC,⟨NS,⟨NT,trivial⟩⟩⟩,qK aDA (qK aM9 rM),r5⟩
def aNa:rD prog aGd:=by
 refine rT xW func87 (c:=_) rfl (N:=89) pQ (ts:=[(2,none),(3,none)]) rfl (fun _ _=>rfl) ?_;intro O hs hrow;dsimp only[a7w,a7x,a7y,rP,qQ,qV,r8,rQ,Nat.reduceAdd] at hs hrow|-;have hz:=hs;obtain⟨z0,d⟩:=aSn.1 hz
 try rw[rX d]
 clear hz hs;unfold M8 at d;refine pV xW ?_;refine pV xW ?_;refine pV xW ?_;refine rN ?_;have hy1:=d;refine tD hy1 (fun x=>⟨[(0,.val .str O,none),(4,(.val (.list qO) x.1,some 0)),(5,(.val (.int .i64) x.2,none))],[(0,.grow 136 2 (x.1.length))],1,89,0⟩) ⟨[0,4,5],[(0,64)]⟩ pR ?_;intro x1 w1 n1 g j;obtain⟨Z,aA⟩:=x1;unfold RR at g;dsimp only at g|-;refine rN (qD (rN ?_));obtain⟨aB,hy2,g⟩:=qR g;refine tN 2 (fun s=>s=(fun x=>⟨[(0,.val .str O,none),(4,(.val (.list qO) Z,some 0)),(5,(.val (.int .i64) x,none))],[(0,.grow 136 2 (Z.length))],1,89,0⟩) aB) ?_ ?_
 .refine tD hy2 (fun x=>⟨[(0,.val .str O,none),(4,(.val (.list qO) Z,some 0)),(5,(.val (.int .i64) x,none))],[(0,.grow 136 2 (Z.length))],1,89,0⟩) ⟨[0,4,5],[(0,0)]⟩ pR ?_;intro aC w2 n2 f k;unfold RP at f;dsimp only at f|-;refine qD ?_;obtain⟨X,f⟩:=q8 f;refine pV xW ?_ (hp:=by exact⟨id,id,X,id,rY⟩);refine qE f ?_ ?_<;>intro f Y
  .refine qM (q9 (rN ?_));obtain⟨W,f⟩:=q8 f;refine qZ xW ?_ (hp:=by exact W);refine rL ?_;cases f;exact sN ⟨⟨[0,4,5],[(0,0)]⟩,_,by rfl,k⟩
  refine tA (t7 (tB ?_));cases f;cases k;exact tO ⟨⟨[0,4,5],[(0,0)]⟩,by rfl⟩
 rintro _ rfl;dsimp only at g|-;refine t8 (q9 (qD ?_));refine pV xW ?_;refine qE g ?_ ?_<;>intro g Y
 .refine pV xW ?_;refine qC (qP (r9 (tY (r9 ?_))));cases g;have d:=aSL some (show _=_ from j);cases d;exact pA [(0,0)]
 refine qM (q9 (qD ?_));obtain⟨V,g⟩:=q8 g;refine pV xW ?_ (hp:=by exact V);obtain⟨y2,f,g⟩:=uM g;refine AR (fun s=> ∃v,y2= .inl v∧s=(fun x=>⟨[(0,.val .str O,none),(4,(.val (.list qO) x.1,some 0)),(5,(.val (.int .i64) x.2,none))],[(0,.grow 136 2 (x.1.length))],1,89,0⟩) v) ?_ ?_
 .refine qE f ?_ ?_<;>intro f Y
  .obtain⟨U,f⟩:=q8 f;obtain⟨aD,hv5,hw5,f⟩:=rI f
   try simp only[go_sem] at hw5
   refine pV xW ?_ (hp:=by exact⟨U,(rH hv5)⟩) (h:=by simp only[go_sem,hw5];rfl);refine qD (pV xW ?_);refine qE f ?_ ?_<;>intro f Y
   .refine pV xW ?_;refine qC (qP (a1d (qP (r9 (tY (r9 ?_))))));cases f;dsimp only at g;cases g;have d:=aSL some (show _=_ from j);cases d;exact pA [(0,673)]
   refine qM (q9 ?_);obtain⟨T,f⟩:=q8 f;refine pV xW ?_ (hp:=by exact⟨pP,T⟩)
   obtain⟨S,f⟩:=q8 f;refine qZ xW ?_ (hp:=by exact S);cases f;exact tE ⟨⟨[0,4,5],[(0,0)]⟩,_,rfl,by rfl⟩
  refine pV xW ?_;refine qD (rN ?_);obtain⟨aE,hy3,f⟩:=qR f;refine tN 4 (fun s=>s=(fun x=>⟨[(0,.val .str O,none),(4,(.val (.list qO) Z,some 0)),(5,(.val (.int .i64) aB,none)),(9,.val (.int .i64) x,none)],[(0,.grow 136 2 (Z.length))],1,89,0⟩) aE) ?_ ?_
  .refine tD hy3 (fun x=>⟨[(0,.val .str O,none),(4,(.val (.list qO) Z,some 0)),(5,(.val (.int .i64) aB,none)),(9,.val (.int .i64) x,none)],[(0,.grow 136 2 (Z.length))],1,89,0⟩) ⟨[0,4,5,9],[(0,0)]⟩ pR ?_;intro aF w3 n3 i l;unfold RQ at i;dsimp only at i|-;refine qD ?_;obtain⟨R,Q,i⟩:=p7 i;refine pV xW ?_ (hp:=by exact⟨id,id,R,id,id,rY,id,id,Q,id,rY⟩);refine qE i ?_ ?_<;>intro i Y
   .refine qM (q9 (rN ?_));obtain⟨P,i⟩:=q8 i;refine qZ xW ?_ (hp:=by exact P);refine rL ?_;cases i;exact sN ⟨⟨[0,4,5,9],[(0,0)]⟩,_,by rfl,l⟩
   refine tA (t7 (tB ?_));cases i;cases l;exact tO ⟨⟨[0,4,5,9],[(0,0)]⟩,by rfl⟩
  rintro _ rfl;dsimp only at f|-;refine t8 (q9 ?_);obtain⟨M,L,f⟩:=p7 f;refine pV xW ?_ (hp:=by exact⟨M,pP,L⟩)
  refine qZ xW ?_;cases f;exact tE ⟨⟨[0,4,5],[(0,0)]⟩,_,rfl,by rfl⟩
 rintro _ ⟨v,rfl,rfl⟩;obtain⟨aG,aH⟩:=v;dsimp only at g|-;refine q9 ?_;obtain⟨K,g⟩:=q8 g;refine pV xW ?_ (hp:=by exact⟨id,id,K,id,id,rY⟩);refine qE g ?_ ?_<;>intro g Y
 .refine pV xW ?_;refine qC (r9 (tY (r9 ?_)));cases g;have d:=aSL some (show _=_ from j);cases d;exact pA [(0,353)]
 refine qM (rL ?_);cases g;exact sN ⟨⟨[0,4,5],[(0,0)]⟩,_,by rfl,j⟩
def H7 (O:p8):Option (p8×Int):=if (decide ((O.length:Int)<(2:Int)))=true then some ((([]:p8),(0:Int))) else if 0≤(1:Int)∧(1:Int)<(O.length:Int) then if (decide ((rJ O (1:Int))=(110:Int)))=true then some ((([10]:p8),(2:Int))) else if (decide ((rJ O (1:Int))=(114:Int)))=true then some ((([13]:p8),(2:Int))) else if (decide ((rJ O (1:Int))=(116:Int)))=true then some ((([9]:p8),(2:Int))) else if (decide ((rJ O (1:Int))=(120:Int)))=true then if (decide ((4:Int)≤(O.length:Int)))=true then if 0≤(2:Int)∧(2:Int)≤(4:Int)∧(4:Int)≤(O.length:Int) then (FA (qU O (2:Int) (4:Int)) (16:Int)).bind fun Z=>if (Z.2&&(decide (Z.1≤(127:Int))))=true then some (((tQ ([(IntKind.wrap .u8 Z.1)]:pI)),(4:Int))) else some ((([]:p8),(0:Int))) else none else some ((([]:p8),(0:Int))) else if (decide ((rJ O (1:Int))=(117:Int)))=true then if (decide ((6:Int)≤(O.length:Int)))=true then if 0≤(2:Int)∧(2:Int)≤(6:Int)∧(6:Int)≤(O.length:Int) then (FA (qU O (2:Int) (6:Int)) (16:Int)).bind fun aA=>if aA.2=true then (JF aA.1).bind fun aB=>if ((decide (aA.1≤(1114111:Int)))&&((decide (aA.1<(55296:Int)))||(decide ((57343:Int)<aA.1))))=true then some ((aB,(6:Int))) else some ((([]:p8),(0:Int))) else some ((([]:p8),(0:Int))) else none else some ((([]:p8),(0:Int))) else if (decide ((0:Int)≤(vV ([92,34,61,58,35,33,123,125,32]:p8) (rJ O (1:Int)))))=true then if 0≤(1:Int)∧(1:Int)≤(2:Int)∧(2:Int)≤(O.length:Int) then some (((qU O (1:Int) (2:Int)),(2:Int))) else none else some ((([]:p8),(0:Int))) else none
section
variable (O:p8)
abbrev a7z:List pX:=[(.val .str O,none)]
abbrev a7A:List pW:=[]
@[go_sem] def a7B:qI:=⟨[((H7 O)).isSome=true],[(.val .str ((val (H7 O)).1),none),(.val (.int .i64) ((val (H7 O)).2),none)],[]⟩
def aGe:List pX→List pW→Option qI:=rR (V:=p8) (a7z) (fun x=>a7A) fun x=>a7B x
@[go_sem] def aRO:aGe (no_index (a7z O)) (no_index a7A)=some (a7B O):=rS (fun a0 b0 h1 h2=>by cases h1;cases h2;rfl) O
end
@[go_sem] abbrev aGf:Nat×r7:=(180,⟨[.v],aGe,[],[],none⟩)
def uS:qW prog [v8,DO,sB,DM] (qY [a4t,a7s,NN]):=⟨⟨vM,⟨GL,⟨sC,⟨GJ,trivial⟩⟩⟩⟩,qK aEv (qK aF9 (qK W8 rM)),r5⟩
def aNb:rD prog aGf:=by
 refine rT uS func180 (c:=_) rfl (N:=67) pQ (ts:=[(2,none),(3,none)]) rfl (fun _ _=>rfl) ?_;intro O hs hrow;dsimp only[a7z,a7A,a7B,rP,qQ,qV,r8,rQ,Nat.reduceAdd] at hs hrow|-;have hz:=hs;obtain⟨z0,d⟩:=aSn.1 hz
 try rw[rX d]
 clear hz hs;unfold H7 at d;refine pV uS ?_;refine qD (pV uS ?_);refine qE d ?_ ?_<;>intro d Y
 .refine pV uS ?_;refine qC (qP ?_);cases d;exact pA []
 refine qM (q9 (qD ?_));obtain⟨X,d⟩:=q8 d;refine pV uS ?_ (hp:=by exact X);refine pV uS ?_;refine rN (pV uS ?_);refine qE d ?_ ?_<;>intro d Y
 .refine pV uS ?_;refine qC (r9 (qP ?_));cases d;exact pA []
 refine pV uS ?_;refine qE d ?_ ?_<;>intro d Y
 .refine pV uS ?_;refine qC (r9 (qP ?_));cases d;exact pA []
 refine pV uS ?_;refine qE d ?_ ?_<;>intro d Y
 .refine pV uS ?_;refine qC (r9 (qP ?_));cases d;exact pA []
 refine pV uS ?_;refine qE d ?_ ?_<;>intro d Y
 .refine pV uS ?_;refine qE d ?_ ?_<;>intro d Y
  .obtain⟨W,d⟩:=q8 d;obtain⟨Z,hv3,hw3,d⟩:=rI d
   try simp only[go_sem] at hw3
   refine pV uS ?_ (hp:=by exact⟨W,(rH hv3)⟩) (h:=by simp only[go_sem,hw3];rfl);refine pV uS ?_ (hp:=by exact⟨id,rY⟩);refine qE d ?_ ?_<;>intro d Y
   .refine pV uS ?_;refine qC (r9 (qP ?_));cases d;exact pA []
   refine qM (rL (q9 (pV uS ?_)));refine qC ?_;cases d;exact pA []
  refine qM (rL (q9 (pV uS ?_)));refine qC ?_;cases d;exact pA []
 refine pV uS ?_;refine qE d ?_ ?_<;>intro d Y
 .refine pV uS ?_;refine qE d ?_ ?_<;>intro d Y
  .obtain⟨V,d⟩:=q8 d;obtain⟨aA,hv5,hw5,d⟩:=rI d
   try simp only[go_sem] at hw5
   refine pV uS ?_ (hp:=by exact⟨V,(rH hv5)⟩) (h:=by simp only[go_sem,hw5];rfl);refine pV uS ?_;refine qE d ?_ ?_<;>intro d Y
   .obtain⟨aB,hv6,hw6,d⟩:=rI d
    try simp only[go_sem] at hw6
    refine pV uS ?_ (hp:=by exact(rH hv6)) (h:=by simp only[go_sem,hw6];rfl);refine pV uS ?_;refine qE d ?_ ?_<;>intro d Y
    .refine pV uS ?_;refine qC (r9 (qP ?_));cases d;exact pA []
    refine qM (rL (q9 (pV uS ?_)));refine qC ?_;cases d;exact pA []
   refine qM (rL (q9 (pV uS ?_)));refine qC ?_;cases d;exact pA []
  refine qM (rL (q9 (pV uS ?_)));refine qC ?_;cases d;exact pA []
 refine pV uS ?_;refine qE d ?_ ?_<;>intro d Y
 .obtain⟨U,d⟩:=q8 d;refine pV uS ?_ (hp:=by exact U);refine qC (r9 (qP ?_));cases d;exact pA []
 refine qM (rL (q9 (pV uS ?_)));refine qC ?_;cases d;exact pA []
attribute [irreducible] M6 M8 H7
end
noncomputable section
def OM (O:p8):Option (p8×Int):=if (decide ((vV O (59:Int))<(0:Int)))=true then some ((([]:p8),(0:Int))) else if 0≤(1:Int)∧(1:Int)≤(vV O (59:Int))∧(vV O (59:Int))≤(O.length:Int) then if (decide ((qU O (1:Int) (vV O (59:Int)))=([97,109,112]:p8)))=true then if pY ((vV O (59:Int))+(1:Int)) then some ((([38]:p8),((vV O (59:Int))+(1:Int)))) else none else if (decide ((qU O (1:Int) (vV O (59:Int)))=([108,116]:p8)))=true then if pY ((vV O (59:Int))+(1:Int)) then some ((([60]:p8),((vV O (59:Int))+(1:Int)))) else none else if (decide ((qU O (1:Int) (vV O (59:Int)))=([103,116]:p8)))=true then if pY ((vV O (59:Int))+(1:Int)) then some ((([62]:p8),((vV O (59:Int))+(1:Int)))) else none else if (decide ((qU O (1:Int) (vV O (59:Int)))=([113,117,111,116]:p8)))=true then if pY ((vV O (59:Int))+(1:Int)) then some ((([34]:p8),((vV O (59:Int))+(1:Int)))) else none else if (decide ((qU O (1:Int) (vV O (59:Int)))=([97,112,111,115]:p8)))=true then if pY ((vV O (59:Int))+(1:Int)) then some ((([39]:p8),((vV O (59:Int))+(1:Int)))) else none else (LX (qU O (1:Int) (vV O (59:Int))) ([35]:p8)).bind fun Z=>if (!Z.2)=true then some ((([]:p8),(0:Int))) else (LX Z.1 ([120]:p8)).bind fun aA=>sR (σ:=(p8×Int×Int)) (if aA.2=true then some ((aA.1,(16:Int),(6:Int))) else some ((Z.1,(10:Int),(7:Int))) ) fun(aB,aC,aD)=>(FA aB aC).bind fun aE=>if ((!aE.2)||(decide (aD<(aB.length:Int))))=true then some ((([]:p8),(0:Int))) else (JF aE.1).bind fun aF=>if (!((decide (aE.1≤(1114111:Int)))&&((decide (aE.1<(55296:Int)))||(decide ((57343:Int)<aE.1)))))=true then some ((([]:p8),(0:Int))) else if pY ((vV O (59:Int))+(1:Int)) then some ((aF,((vV O (59:Int))+(1:Int)))) else none else none
section
variable (O:p8)
abbrev a7C:List pX:=[(.val .str O,none)]
abbrev a7D:List pW:=[]
@[go_sem] def a7E:qI:=⟨[((OM O)).isSome=true],[(.val .str ((val (OM O)).1),none),(.val (.int .i64) ((val (OM O)).2),none)],[]⟩
def aGg:List pX→List pW→Option qI:=rR (V:=p8) (a7C) (fun x=>a7D) fun x=>a7E x
@[go_sem] def aRP:aGg (no_index (a7C O)) (no_index a7D)=some (a7E O):=rS (fun a0 b0 h1 h2=>by cases h1;cases h2;rfl) O
end
@[go_sem] abbrev aGh:Nat×r7:=(181,⟨[.v],aGg,[],[],none⟩)
def v6:qW prog [sB] (qY [NN,aFr,a4t,a7s]):=⟨⟨sC,trivial⟩,qK W8 (qK aMU (qK aEv (qK aF9 rM))),r5⟩
def aNc:rD prog aGh:=by
 refine rT v6 func181 (c:=_) rfl (N:=80) pQ (ts:=[(2,none),(3,none)]) rfl (fun _ _=>rfl) ?_;intro O hs hrow;dsimp only[a7C,a7D,a7E,rP,qQ,qV,r8,rQ,Nat.reduceAdd] at hs hrow|-;have hz:=hs;obtain⟨z0,d⟩:=aSn.1 hz
 try rw[rX d]
 clear hz hs;unfold OM at d;refine pV v6 ?_;refine pV v6 ?_;refine qD (pV v6 ?_);refine qE d ?_ ?_<;>intro d Y
 .refine pV v6 ?_;refine qC (qP ?_);cases d;exact pA []
 refine qM (q9 ?_);obtain⟨X,d⟩:=q8 d;refine pV v6 ?_ (hp:=by exact X);refine qD (pV v6 ?_);refine rN (pV v6 ?_);refine qE d ?_ ?_<;>intro d Y
 .obtain⟨W,d⟩:=q8 d;refine pV v6 ?_ (hp:=by exact W);refine qC (r9 (qP ?_));cases d;exact pA []
 refine pV v6 ?_;refine qE d ?_ ?_<;>intro d Y
 .obtain⟨V,d⟩:=q8 d;refine pV v6 ?_ (hp:=by exact V);refine qC (r9 (qP ?_));cases d;exact pA []
 refine pV v6 ?_;refine qE d ?_ ?_<;>intro d Y
 .obtain⟨U,d⟩:=q8 d;refine pV v6 ?_ (hp:=by exact U);refine qC (r9 (qP ?_));cases d;exact pA []
 refine pV v6 ?_;refine qE d ?_ ?_<;>intro d Y
 .obtain⟨T,d⟩:=q8 d;refine pV v6 ?_ (hp:=by exact T);refine qC (r9 (qP ?_));cases d;exact pA []
 refine pV v6 ?_;refine qE d ?_ ?_<;>intro d Y
 .obtain⟨S,d⟩:=q8 d;refine pV v6 ?_ (hp:=by exact S);refine qC (r9 (qP ?_));cases d;exact pA []
 refine qM (rL (q9 ?_));obtain⟨Z,hv7,hw7,d⟩:=rI d
 try simp only[go_sem] at hw7
 refine pV v6 ?_ (hp:=by exact(rH hv7)) (h:=by simp only[go_sem,hw7];rfl);refine qD (pV v6 ?_);refine qE d ?_ ?_<;>intro d Y
 .refine pV v6 ?_;refine qC (qP ?_);cases d;exact pA []
 refine qM (q9 (pV v6 ?_));refine qD ?_;obtain⟨aA,hv8,hw8,d⟩:=rI d
 try simp only[go_sem] at hw8
 refine pV v6 ?_ (hp:=by exact(rH hv8)) (h:=by simp only[go_sem,hw8];rfl);refine pV v6 ?_;obtain⟨y1,e,d⟩:=qR d;refine AR (fun s=>s=(fun x=>⟨[(4,.val (.int .i64) (vV O (59:Int)),none),(6,.val .str x.1,none),(8,.val (.int .i64) x.2.1,none),(9,.val (.int .i64) x.2.2,none)],[],0,80,0⟩) y1) ?_ ?_
 .refine qE e ?_ ?_<;>intro e Y
  .refine qZ v6 ?_;cases e;exact tE ⟨⟨[4,6,8,9],[]⟩,by rfl⟩
  refine qM ?_;cases e;exact tE ⟨⟨[4,6,8,9],[]⟩,by rfl⟩
 rintro _ rfl;obtain⟨aB,aC,aD⟩:=y1;dsimp only at d|-;refine q9 ?_;obtain⟨aE,hv9,hw9,d⟩:=rI d
 try simp only[go_sem] at hw9
 refine pV v6 ?_ (hp:=by exact(rH hv9)) (h:=by simp only[go_sem,hw9];rfl);refine qD (pV v6 ?_ (hp:=by exact⟨id,id,id,tP⟩));refine qE d ?_ ?_<;>intro d Y
 .refine pV v6 ?_;refine qC (qP ?_);cases d;exact pA []
 refine qM (q9 ?_);obtain⟨aF,hv10,hw10,d⟩:=rI d
 try simp only[go_sem] at hw10
 refine pV v6 ?_ (hp:=by exact(rH hv10)) (h:=by simp only[go_sem,hw10];rfl);refine qD (pV v6 ?_);refine qE d ?_ ?_<;>intro d Y
 .refine pV v6 ?_;refine qC (qP ?_);cases d;exact pA []
 refine qM (q9 ?_);obtain⟨R,d⟩:=q8 d;refine pV v6 ?_ (hp:=by exact R);refine qC ?_;cases d;exact pA []
def aGi (O:Int) (Z:p8):(Int×pI)→Option ((Int×pI)⊕(pI⊕(p8×Int×Int))):=fun(aA,aB)=>if (decide (aA<(Z.length:Int)))=true then if 0≤aA∧aA<(Z.length:Int) then if (decide ((rJ Z aA)=(38:Int)))=true then if 0≤aA∧aA≤(Z.length:Int)∧(Z.length:Int)≤(Z.length:Int) then (OM (qU Z aA (Z.length:Int))).bind fun aC=>if (decide (aC.2=(0:Int)))=true then some (.inr (.inr ((([]:p8),aA,(3:Int))))) else (LA (aB,()) aC.1).bind fun aD=>if pY (aA+aC.2) then some (.inl ((aA+aC.2),(aB++uN aC.1))) else none else none else if 0≤aA∧aA<(Z.length:Int) then if (LG O (rJ Z aA))=true then some (.inr (.inr ((([]:p8),aA,(3:Int))))) else if 0≤aA∧aA<(Z.length:Int) then (LH (aB,()) (rJ Z aA)).bind fun aE=>if pY (aA+(1:Int)) then some (.inl ((aA+(1:Int)),(aB++([(rJ Z aA)]:pI)))) else none else none else none else none else some (.inr (.inl aB))
def ON (O:Int) (Z:p8):(Int×pI)→Option ((Int×pI)⊕(pI⊕(p8×Int×Int))):=fun(aA,aB)=>if (decide (aA<(Z.length:Int)))=true then if 0≤aA∧aA<(Z.length:Int) then if (decide ((rJ Z aA)=(92:Int)))=true then if 0≤aA∧aA≤(Z.length:Int)∧(Z.length:Int)≤(Z.length:Int) then (H7 (qU Z aA (Z.length:Int))).bind fun aC=>if (decide (aC.2=(0:Int)))=true then some (.inr (.inr ((([]:p8),aA,(3:Int))))) else (LA (aB,()) aC.1).bind fun aD=>if pY (aA+aC.2) then some (.inl ((aA+aC.2),(aB++uN aC.1))) else none else none else if 0≤aA∧aA<(Z.length:Int) then if (LG O (rJ Z aA))=true then some (.inr (.inr ((([]:p8),aA,(3:Int))))) else if 0≤aA∧aA<(Z.length:Int) then (LH (aB,()) (rJ Z aA)).bind fun aE=>if pY (aA+(1:Int)) then some (.inl ((aA+(1:Int)),(aB++([(rJ Z aA)]:pI)))) else none else none else none else none else some (.inr (.inl aB))
def M9 (O:Int) (Z:p8):Option (p8×Int×Int):=if (!((decide ((1:Int)≤O))&&(decide (O≤(4:Int)))))=true then some ((([]:p8),(0:Int),(1:Int))) else if (decide (O=(4:Int)))=true then tC (rG (aGi O Z) ((0:Int),([]:pI))) fun aA=>some (((tQ aA),(0:Int),(0:Int))) else tC (rG (ON O Z) ((0:Int),([]:pI))) fun aB=>some (((tQ aB),(0:Int),(0:Int)))
section
variable (O:Int) (Z:p8)
abbrev a7F:List pX:=[(.val (.int .i64) O,none),(.val .str Z,none)]
abbrev a7G:List pW:=[]
@[go_sem] def a7H:qI:=let q:=val (M9 O Z);⟨[((M9 O Z)).isSome=true],[(.val .str (q.1),none),(.val (.int .i64) (q.2.1),none),(.val (.int .i64) (q.2.2),none)],[]⟩
def aGj:List pX→List pW→Option qI:=rR (V:=(Int×p8)) (fun x=>a7F x.1 x.2) (fun x=>a7G) fun x=>a7H x.1 x.2
@[go_sem] def aRQ:aGj (no_index (a7F O Z)) (no_index a7G)=some (a7H O Z):=rS (fun⟨a0,a1⟩ ⟨b0,b1⟩ h1 h2=>by cases h1;cases h2;rfl) (O,Z)
end
@[go_sem] abbrev aGk:Nat×r7:=(149,⟨[.v,.v],aGj,[],[],none⟩)
def uD:qW prog [sB,L8] (qY [a27,aGh,aDh,aEl,aEn,QS,aGf]):=⟨⟨sC,⟨QY,trivial⟩⟩,qK aDK (qK aNc (qK aMj (qK aMw (qK aMx (qK a1s (qK aNb rM)))))),r5⟩
def aNd:rD prog aGk:=by
 refine rT uD func149 (c:=_) rfl (N:=58) pQ (ts:=[(4,none),(5,none),(6,none)]) rfl (fun _ _=>rfl) ?_;intro⟨O,Z⟩ hs hrow;dsimp only[a7F,a7G,a7H,rP,qQ,qV,r8,rQ,Nat.reduceAdd] at hs hrow|-;have hz:=hs;obtain⟨z0,d⟩:=aSn.1 hz
 try rw[rX d]
 clear hz hs;unfold M9 at d;refine pV uD ?_;refine qD (pV uD ?_);refine qE d ?_ ?_<;>intro d Y
 .refine pV uD ?_;refine qC (qP ?_);cases d;exact pA []
 refine qM (q9 (pV uD ?_));refine qD (pV uD ?_);refine qE d ?_ ?_<;>intro d Y
 .refine qZ uD ?_;refine q9 (pV uD ?_);refine qD (pV uD ?_);refine rN ?_;obtain⟨y1,hy1,d⟩:=uM d;refine tN 0 (fun s=> ∃v,y1= .inl v∧s=(fun x=>⟨[(9,.val .ref (some (0,0)),none)],[(0,.cells xU ((some (0,0)),(x,())) [(1,1)]),(1,.grow 5 1 (x.length))],2,58,0⟩) v) ?_ ?_
  .refine tD hy1 (fun x=>⟨[(0,.val (.int .i64) O,none),(1,.val .str Z,none),(7,.val (.int .u8) (38:Int),none),(8,.val .clo (some (181,[])),none),(9,.val .ref (some (0,0)),none),(10,.val (.int .i64) x.1,none)],[(0,.cells xU ((some (0,0)),(x.2,())) [(1,1)]),(1,.grow 5 1 (x.2.length))],2,58,0⟩) ⟨[0,1,7,8,9,10],[(0,384),(1,385)]⟩ pR ?_;intro x1 w1 n1 e f;obtain⟨aA,aB⟩:=x1;unfold aGi at e;dsimp only at e|-;refine qD (pV uD ?_);refine qE e ?_ ?_<;>intro e Y
   .refine qM (q9 (rN (rN ?_)));obtain⟨X,e⟩:=q8 e;refine pV uD ?_ (hp:=by exact X);refine qE e ?_ ?_<;>intro e Y
    .obtain⟨W,e⟩:=q8 e;obtain⟨aC,hv3,hw3,e⟩:=rI e
     try simp only[go_sem] at hw3
     refine pV uD ?_ (hp:=by exact⟨W,(rH hv3)⟩) (h:=by simp only[go_sem,hw3];rfl);refine qD (pV uD ?_);refine qE e ?_ ?_<;>intro e Y
     .refine pV uD ?_;refine qC (qP (r9 (r9 (tY (uR (r9 (qP ?_)))))));cases e;cases f;dsimp only at d;cases d;exact pA []
     refine qM (q9 ?_);obtain⟨aD,hv4,hw4,e⟩:=rI e
     try simp only[go_sem] at hw4
     refine pV uD ?_ (hp:=by exact⟨pP,(rH hv4)⟩) (h:=by simp only[go_sem,hw4];rfl)
     obtain⟨V,e⟩:=q8 e;refine qZ uD ?_ (hp:=by exact V);refine rL (rL ?_);cases e;exact sN ⟨⟨[0,1,7,8,9,10],[(0,0),(1,1)]⟩,_,by rfl,f⟩
    obtain⟨U,e⟩:=q8 e;refine pV uD ?_ (hp:=by exact U);refine qE e ?_ ?_<;>intro e Y
    .refine pV uD ?_;refine qC (r9 (r9 (tY (uR (r9 (qP ?_))))));cases e;cases f;dsimp only at d;cases d;exact pA []
    obtain⟨T,e⟩:=q8 e;obtain⟨aE,hv8,hw8,e⟩:=rI e
    try simp only[go_sem] at hw8
    refine pV uD ?_ (hp:=by exact⟨T,pP,(rH hv8)⟩) (h:=by simp only[go_sem,hw8];rfl)
    obtain⟨S,e⟩:=q8 e;refine qZ uD ?_ (hp:=by exact S);refine rL (rL ?_);cases e;exact sN ⟨⟨[0,1,7,8,9,10],[(0,0),(1,1)]⟩,_,by rfl,f⟩
   refine tA (t7 (tB ?_));cases e;cases f;exact tO ⟨⟨[9],[(0,0),(1,1)]⟩,_,rfl,by rfl⟩
  rintro _ ⟨aF,rfl,rfl⟩;dsimp only at d|-;refine t8 (q9 ?_);refine pV uD ?_ (hp:=by first|rfl|trivial)
  refine qC ?_;cases d;exact pA []
 refine qM (q9 (pV uD ?_));refine qD (pV uD ?_);refine rN ?_;obtain⟨y1,hy1,d⟩:=uM d;refine tN 0 (fun s=> ∃v,y1= .inl v∧s=(fun x=>⟨[(9,.val .ref (some (0,0)),none)],[(0,.cells xU ((some (0,0)),(x,())) [(1,1)]),(1,.grow 5 1 (x.length))],2,58,0⟩) v) ?_ ?_
 .refine tD hy1 (fun x=>⟨[(0,.val (.int .i64) O,none),(1,.val .str Z,none),(7,.val (.int .u8) (92:Int),none),(8,.val .clo (some (180,[])),none),(9,.val .ref (some (0,0)),none),(10,.val (.int .i64) x.1,none)],[(0,.cells xU ((some (0,0)),(x.2,())) [(1,1)]),(1,.grow 5 1 (x.2.length))],2,58,0⟩) ⟨[0,1,7,8,9,10],[(0,320),(1,321)]⟩ pR ?_;intro x1 w1 n1 e f;obtain⟨aG,aH⟩:=x1;unfold ON at e;dsimp only at e|-;refine qD (pV uD ?_);refine qE e ?_ ?_<;>intro e Y
  .refine qM (q9 (rN (rN ?_)));obtain⟨R,e⟩:=q8 e;refine pV uD ?_ (hp:=by exact R);refine qE e ?_ ?_<;>intro e Y
   .obtain⟨Q,e⟩:=q8 e;obtain⟨aI,hv12,hw12,e⟩:=rI e
    try simp only[go_sem] at hw12
    refine pV uD ?_ (hp:=by exact⟨Q,(rH hv12)⟩) (h:=by simp only[go_sem,hw12];rfl);refine qD (pV uD ?_);refine qE e ?_ ?_<;>intro e Y
    .refine pV uD ?_;refine qC (qP (r9 (r9 (tY (uR (r9 (qP ?_)))))));cases e;cases f;dsimp only at d;cases d;exact pA []
    refine qM (q9 ?_);obtain⟨aJ,hv13,hw13,e⟩:=rI e
    try simp only[go_sem] at hw13
    refine pV uD ?_ (hp:=by exact⟨pP,(rH hv13)⟩) (h:=by simp only[go_sem,hw13];rfl)
    obtain⟨P,e⟩:=q8 e;refine qZ uD ?_ (hp:=by exact P);refine rL (rL ?_);cases e;exact sN ⟨⟨[0,1,7,8,9,10],[(0,0),(1,1)]⟩,_,by rfl,f⟩
   obtain⟨M,e⟩:=q8 e;refine pV uD ?_ (hp:=by exact M);refine qE e ?_ ?_<;>intro e Y
   .refine pV uD ?_;refine qC (r9 (r9 (tY (uR (r9 (qP ?_))))));cases e;cases f;dsimp only at d;cases d;exact pA []
   obtain⟨L,e⟩:=q8 e;obtain⟨aK,hv17,hw17,e⟩:=rI e
   try simp only[go_sem] at hw17
   refine pV uD ?_ (hp:=by exact⟨L,pP,(rH hv17)⟩) (h:=by simp only[go_sem,hw17];rfl)
   obtain⟨K,e⟩:=q8 e;refine qZ uD ?_ (hp:=by exact K);refine rL (rL ?_);cases e;exact sN ⟨⟨[0,1,7,8,9,10],[(0,0),(1,1)]⟩,_,by rfl,f⟩
  refine tA (t7 (tB ?_));cases e;cases f;exact tO ⟨⟨[9],[(0,0),(1,1)]⟩,_,rfl,by rfl⟩
 rintro _ ⟨aL,rfl,rfl⟩;dsimp only at d|-;refine t8 (q9 ?_);refine pV uD ?_ (hp:=by first|rfl|trivial)
 refine qC ?_;cases d;exact pA []
attribute [irreducible] OM M9
end
noncomputable section
def RS (O:p8):Int→Option (Int⊕Int):=fun Z=>if (((decide (Z<(O.length:Int)))==true)=true→0≤Z∧Z<(O.length:Int)) then if ((decide (Z<(O.length:Int)))&&((decide ((rJ O Z)=(32:Int)))||(decide ((rJ O Z)=(9:Int)))))=true then if pY (Z+(1:Int)) then some (.inl (Z+(1:Int))) else none else some (.inr Z) else none
def JG (O:A7) (Z:p8) (aA:Int):Option (p8×p9×(List qG)×(List rW)×pI×p8×p8×p8×p9×p9×Int×(List qG)×Bool×Bool×Bool×Bool×Bool×p8×p8×Int):=if (((decide ((0:Int)<(Z.length:Int)))==true)=true→pY ((Z.length:Int)- (1:Int))) then if (((decide ((0:Int)<(Z.length:Int)))==true)=true→0≤((Z.length:Int)- (1:Int))∧((Z.length:Int)- (1:Int))<(Z.length:Int)) then sR (σ:=p8) (if ((decide ((0:Int)<(Z.length:Int)))&&(decide ((rJ Z ((Z.length:Int)- (1:Int)))=(10:Int))))=true then if pY ((Z.length:Int)- (1:Int)) then if 0≤(0:Int)∧(0:Int)≤((Z.length:Int)- (1:Int))∧((Z.length:Int)- (1:Int))≤(Z.length:Int) then some ((qU Z (0:Int) ((Z.length:Int)- (1:Int)))) else none else none else some (Z) ) fun aB=>sR (rG (RS aB) (0:Int)) fun aC=>if (((decide (aC=(aB.length:Int)))==false)=true→0≤aC∧aC<(aB.length:Int)) then if ((decide (aC=(aB.length:Int)))||(decide ((rJ aB aC)=(35:Int))))=true then some ((O.1.1,O.1.2.1,O.1.2.2.1,O.1.2.2.2.1,O.2.1,O.2.2.1.1,O.2.2.1.2.1,O.2.2.1.2.2.1,O.2.2.1.2.2.2.1,O.2.2.1.2.2.2.2.1,O.2.2.1.2.2.2.2.2.1,O.2.2.1.2.2.2.2.2.2.1,O.2.2.2.1,O.2.2.2.2.1,O.2.2.2.2.2.1,O.2.2.2.2.2.2.1,O.2.2.2.2.2.2.2.1,O.2.2.2.2.2.2.2.2.1,O.2.2.2.2.2.2.2.2.2.1,(0:Int))) else (M8 aB).bind fun aD=>if (!aD.2)=true then some ((O.1.1,O.1.2.1,O.1.2.2.1,O.1.2.2.2.1,O.2.1,O.2.2.1.1,O.2.2.1.2.1,O.2.2.1.2.2.1,O.2.2.1.2.2.2.1,O.2.2.1.2.2.2.2.1,O.2.2.1.2.2.2.2.2.1,O.2.2.1.2.2.2.2.2.2.1,O.2.2.2.1,O.2.2.2.2.1,O.2.2.2.2.2.1,O.2.2.2.2.2.2.1,O.2.2.2.2.2.2.2.1,O.2.2.2.2.2.2.2.2.1,O.2.2.2.2.2.2.2.2.2.1,(3:Int))) else (zC aD.1).bind fun aE=>if (!aE.2)=true then some ((O.1.1,O.1.2.1,O.1.2.2.1,O.1.2.2.2.1,O.2.1,O.2.2.1.1,O.2.2.1.2.1,O.2.2.1.2.2.1,O.2.2.1.2.2.2.1,O.2.2.1.2.2.2.2.1,O.2.2.1.2.2.2.2.2.1,O.2.2.1.2.2.2.2.2.2.1,O.2.2.2.1,O.2.2.2.2.1,O.2.2.2.2.2.1,O.2.2.2.2.2.2.1,O.2.2.2.2.2.2.2.1,O.2.2.2.2.2.2.2.2.1,O.2.2.2.2.2.2.2.2.2.1,(3:Int))) else if (decide (aE.1=([]:p8)))=true then (JE O aD.1).bind fun aF=>some ((O.1.1,O.1.2.1,O.1.2.2.1,O.1.2.2.2.1,O.2.1,O.2.2.1.1,aF.1,aF.2.1,aF.2.2.1,O.2.2.1.2.2.2.2.1,O.2.2.1.2.2.2.2.2.1,aF.2.2.2.1,O.2.2.2.1,O.2.2.2.2.1,O.2.2.2.2.2.1,O.2.2.2.2.2.2.1,O.2.2.2.2.2.2.2.1,O.2.2.2.2.2.2.2.2.1,O.2.2.2.2.2.2.2.2.2.1,aF.2.2.2.2)) else sR (σ:=Bool) (if (decide (aE.1=([99,97,116,97,108,111,103]:p8)))=true then some ((decide (aE.1=([99,97,116,97,108,111,103]:p8)))) else some ((decide (aE.1=([101,110,116,114,121]:p8)))) ) fun aG=>if aG=true then if 0≤(1:Int)∧(1:Int)<(aD.1.length:Int) then (J5 O aE.1 ((qH qO aD.1 (1:Int)).2.1)).bind fun aH=>some ((aH.1,O.1.2.1,O.1.2.2.1,O.1.2.2.2.1,O.2.1,aH.2.1,aH.2.2.1,aH.2.2.2.1,aH.2.2.2.2.1,aH.2.2.2.2.2.1,aH.2.2.2.2.2.2.1,aH.2.2.2.2.2.2.2.1,aH.2.2.2.2.2.2.2.2.1,aH.2.2.2.2.2.2.2.2.2.1,aH.2.2.2.2.2.2.2.2.2.2.1,aH.2.2.2.2.2.2.2.2.2.2.2.1,aH.2.2.2.2.2.2.2.2.2.2.2.2.1,aH.2.2.2.2.2.2.2.2.2.2.2.2.2.1,aH.2.2.2.2.2.2.2.2.2.2.2.2.2.2.1,aH.2.2.2.2.2.2.2.2.2.2.2.2.2.2.2)) else none else if (decide (aE.1=([101,110,100]:p8)))=true then (IQ O aA).bind fun aI=>some ((O.1.1,aI.1,aI.2.1,aI.2.2.1,aI.2.2.2.1,aI.2.2.2.2.1,aI.2.2.2.2.2.1,aI.2.2.2.2.2.2.1,aI.2.2.2.2.2.2.2.1,aI.2.2.2.2.2.2.2.2.1,aI.2.2.2.2.2.2.2.2.2.1,aI.2.2.2.2.2.2.2.2.2.2.1,aI.2.2.2.2.2.2.2.2.2.2.2.1,aI.2.2.2.2.2.2.2.2.2.2.2.2.1,aI.2.2.2.2.2.2.2.2.2.2.2.2.2.1,aI.2.2.2.2.2.2.2.2.2.2.2.2.2.2.1,aI.2.2.2.2.2.2.2.2.2.2.2.2.2.2.2.1,aI.2.2.2.2.2.2.2.2.2.2.2.2.2.2.2.2.1,aI.2.2.2.2.2.2.2.2.2.2.2.2.2.2.2.2.2.1,aI.2.2.2.2.2.2.2.2.2.2.2.2.2.2.2.2.2.2)) else (J7 O aE.1 aD.1).bind fun aJ=>some ((O.1.1,O.1.2.1,O.1.2.2.1,O.1.2.2.2.1,O.2.1,O.2.2.1.1,aJ.1,aJ.2.1,aJ.2.2.1,aJ.2.2.2.1,aJ.2.2.2.2.1,aJ.2.2.2.2.2.1,O.2.2.2.1,aJ.2.2.2.2.2.2.1,aJ.2.2.2.2.2.2.2.1,aJ.2.2.2.2.2.2.2.2.1,aJ.2.2.2.2.2.2.2.2.2.1,aJ.2.2.2.2.2.2.2.2.2.2.1,aJ.2.2.2.2.2.2.2.2.2.2.2.1,aJ.2.2.2.2.2.2.2.2.2.2.2.2)) else none else none else none
section
variable (O:A7) (Z:p8) (aA:Int)
abbrev a7I:List pX:=[(.val wL O,none),(.val .str Z,none),(.val (.int .i64) aA,none)]
abbrev a7J:List pW:=[]
@[go_sem] def a7K:qI:=let q:=val (JG O Z aA);⟨[((JG O Z aA)).isSome=true],[(.val wL ((q.1,(q.2.1,(q.2.2.1,(q.2.2.2.1,())))),(q.2.2.2.2.1,((q.2.2.2.2.2.1,(q.2.2.2.2.2.2.1,(q.2.2.2.2.2.2.2.1,(q.2.2.2.2.2.2.2.2.1,(q.2.2.2.2.2.2.2.2.2.1,(q.2.2.2.2.2.2.2.2.2.2.1,(q.2.2.2.2.2.2.2.2.2.2.2.1,()))))))),(q.2.2.2.2.2.2.2.2.2.2.2.2.1,(q.2.2.2.2.2.2.2.2.2.2.2.2.2.1,(q.2.2.2.2.2.2.2.2.2.2.2.2.2.2.1,(q.2.2.2.2.2.2.2.2.2.2.2.2.2.2.2.1,(q.2.2.2.2.2.2.2.2.2.2.2.2.2.2.2.2.1,(q.2.2.2.2.2.2.2.2.2.2.2.2.2.2.2.2.2.1,(q.2.2.2.2.2.2.2.2.2.2.2.2.2.2.2.2.2.2.1,())))))))))),none),(.val (.int .i64) (q.2.2.2.2.2.2.2.2.2.2.2.2.2.2.2.2.2.2.2),none)],[]⟩
def aGl:List pX→List pW→Option qI:=rR (V:=(A7×p8×Int)) (fun x=>a7I x.1 x.2.1 x.2.2) (fun x=>a7J) fun x=>a7K x.1 x.2.1 x.2.2
@[go_sem] def aRR:aGl (no_index (a7I O Z aA)) (no_index a7J)=some (a7K O Z aA):=rS (fun⟨a0,a1,a2⟩ ⟨b0,b1,b2⟩ h1 h2=>by cases h1;cases h2;rfl) (O,Z,aA)
end
@[go_sem] abbrev aGm:Nat×r7:=(58,⟨[.v,.v,.v],aGl,[],[],none⟩)
def wJ:qW prog [sB,IH,II,IJ] (qY [a2L,aGd,aFt,aF7,aFm,aDE,aFz]):=⟨⟨sC,⟨NR,⟨NS,⟨NT,trivial⟩⟩⟩⟩,qK aDA (qK aNa (qK aMV (qK aM8 (qK aMR (qK aMp (qK aMX rM)))))),r5⟩
def aNe:rD prog aGm:=by
 refine rT wJ func58 (c:=_) rfl (N:=100) pQ (ts:=[(6,some 95),(7,none)]) rfl (fun _ _=>rfl) ?_;intro⟨O,Z,aA⟩ hs hrow;dsimp only[a7I,a7J,a7K,rP,qQ,qV,r8,rQ,Nat.reduceAdd] at hs hrow|-;have hz:=hs;obtain⟨z0,d⟩:=aSn.1 hz
 try rw[rX d]
 clear hz hs;unfold JG at d;refine pV wJ ?_;refine qD ?_;obtain⟨X,W,d⟩:=p7 d;refine pV wJ ?_ (hp:=by exact⟨id,id,X,id,id,W,id,rY⟩);obtain⟨aB,f,d⟩:=qR d;refine AR (fun s=>s=(fun x=>⟨[(1,.val .str x,none),(2,.val (.int .i64) aA,none),(3,.val .ref (some (0,0)),none),(6,.val .ref (some (1,0)),none)],[(0,.cells wL O []),(1,.cells wL ((([]:p8),(([]:p9),(([]:List qG),(([]:List rW),())))),(([]:pI),((([]:p8),(([]:p8),(([]:p8),(([]:p9),(([]:p9),((0:Int),(([]:List qG),()))))))),(false,(false,(false,(false,(false,(([]:p8),(([]:p8),())))))))))) [(1,2),(2,3),(3,4),(4,5),(8,6),(9,7),(11,8)]),(2,.grow 9 1 (([]:p9).length)),(3,.grow 110 2 (([]:List qG).length)),(4,.grow 45 7 (([]:List rW).length)),(5,.grow 3 1 (([]:pI).length)),(6,.grow 9 1 (([]:p9).length)),(7,.grow 9 1 (([]:p9).length)),(8,.grow 110 2 (([]:List qG).length))],9,100,0⟩) aB) ?_ ?_
 .refine qE f ?_ ?_<;>intro f Y
  .obtain⟨V,U,f⟩:=p7 f;refine qZ wJ ?_ (hp:=by exact⟨V,U⟩);cases f;exact tE ⟨⟨[1,2,3,6],[(0,0),(1,32),(2,33),(3,34),(4,35),(5,36),(6,37),(7,38),(8,39)]⟩,by rfl⟩
  refine qM ?_;cases f;exact tE ⟨⟨[1,2,3,6],[(0,0),(1,32),(2,33),(3,34),(4,35),(5,36),(6,37),(7,38),(8,39)]⟩,by rfl⟩
 rintro _ rfl;dsimp only at d|-;refine q9 (pV wJ ?_);refine qD (rN ?_);obtain⟨aC,hy1,d⟩:=qR d;refine tN 0 (fun s=>s=(fun x=>⟨[(1,.val .str aB,none),(2,.val (.int .i64) aA,none),(3,.val .ref (some (0,0)),none),(6,.val .ref (some (1,0)),none),(8,.val (.int .i64) x,none)],[(0,.cells wL O []),(1,.cells wL ((([]:p8),(([]:p9),(([]:List qG),(([]:List rW),())))),(([]:pI),((([]:p8),(([]:p8),(([]:p8),(([]:p9),(([]:p9),((0:Int),(([]:List qG),()))))))),(false,(false,(false,(false,(false,(([]:p8),(([]:p8),())))))))))) [(1,2),(2,3),(3,4),(4,5),(8,6),(9,7),(11,8)]),(2,.grow 9 1 (([]:p9).length)),(3,.grow 110 2 (([]:List qG).length)),(4,.grow 45 7 (([]:List rW).length)),(5,.grow 3 1 (([]:pI).length)),(6,.grow 9 1 (([]:p9).length)),(7,.grow 9 1 (([]:p9).length)),(8,.grow 110 2 (([]:List qG).length))],9,100,0⟩) aC) ?_ ?_
 .refine tD hy1 (fun x=>⟨[(1,.val .str aB,none),(2,.val (.int .i64) aA,none),(3,.val .ref (some (0,0)),none),(6,.val .ref (some (1,0)),none),(8,.val (.int .i64) x,none)],[(0,.cells wL O []),(1,.cells wL ((([]:p8),(([]:p9),(([]:List qG),(([]:List rW),())))),(([]:pI),((([]:p8),(([]:p8),(([]:p8),(([]:p9),(([]:p9),((0:Int),(([]:List qG),()))))))),(false,(false,(false,(false,(false,(([]:p8),(([]:p8),())))))))))) [(1,2),(2,3),(3,4),(4,5),(8,6),(9,7),(11,8)]),(2,.grow 9 1 (([]:p9).length)),(3,.grow 110 2 (([]:List qG).length)),(4,.grow 45 7 (([]:List rW).length)),(5,.grow 3 1 (([]:pI).length)),(6,.grow 9 1 (([]:p9).length)),(7,.grow 9 1 (([]:p9).length)),(8,.grow 110 2 (([]:List qG).length))],9,100,0⟩) ⟨[1,2,3,6,8],[(0,0),(1,1),(2,2),(3,3),(4,4),(5,5),(6,6),(7,7),(8,8)]⟩ pR ?_;intro aD w1 n1 f g;unfold RS at f;dsimp only at f|-;refine qD ?_;obtain⟨T,f⟩:=q8 f;refine pV wJ ?_ (hp:=by exact⟨id,id,T,id,rY⟩);refine qE f ?_ ?_<;>intro f Y
  .refine qM (q9 (rN ?_));obtain⟨S,f⟩:=q8 f;refine qZ wJ ?_ (hp:=by exact S);refine rL ?_;cases f;exact sN ⟨⟨[1,2,3,6,8],[(0,0),(1,1),(2,2),(3,3),(4,4),(5,5),(6,6),(7,7),(8,8)]⟩,_,by rfl,g⟩
  refine tA (t7 (tB ?_));cases f;cases g;exact tO ⟨⟨[1,2,3,6,8],[(0,0),(1,1),(2,2),(3,3),(4,4),(5,5),(6,6),(7,7),(8,8)]⟩,by rfl⟩
 rintro _ rfl;dsimp only at d|-;refine t8 (q9 (qD ?_));obtain⟨R,d⟩:=q8 d;refine pV wJ ?_ (hp:=by exact⟨id,id,R,id,tP⟩);refine qE d ?_ ?_<;>intro d Y
 .refine pV wJ ?_;refine qC (qP ?_);cases d;exact pA []
 refine qM (q9 ?_);obtain⟨aE,hv8,hw8,d⟩:=rI d
 try simp only[go_sem] at hw8
 refine pV wJ ?_ (hp:=by exact(rH hv8)) (h:=by simp only[go_sem,hw8];rfl);refine qD (pV wJ ?_);refine qE d ?_ ?_<;>intro d Y
 .refine pV wJ ?_;refine qC (qP ?_);cases d;exact pA []
 refine qM (q9 ?_);obtain⟨aF,hv9,hw9,d⟩:=rI d
 try simp only[go_sem] at hw9
 refine pV wJ ?_ (hp:=by exact(rH hv9)) (h:=by simp only[go_sem,hw9];rfl);refine qD (pV wJ ?_);refine qE d ?_ ?_<;>intro d Y
 .refine pV wJ ?_;refine qC (qP ?_);cases d;exact pA []
 refine qM (q9 (qD (pV wJ ?_)));refine rN (pV wJ ?_);refine qE d ?_ ?_<;>intro d Y
 .obtain⟨aG,hv10,hw10,d⟩:=rI d
  try simp only[go_sem] at hw10
  refine pV wJ ?_ (hp:=by exact(rH hv10)) (h:=by simp only[go_sem,hw10];rfl);refine qC (r9 (qP ?_));cases d;exact pA []
 refine qD (pV wJ ?_);obtain⟨aH,f,d⟩:=qR d;refine AR (fun s=>s=(fun x=>⟨[(2,.val (.int .i64) aA,none),(3,.val .ref (some (0,0)),none),(6,.val .ref (some (1,0)),none),(9,(.val (.list qO) aE.1,some 2)),(11,(.val .str aF.1,none)),(67,.val .str aF.1,none),(75,.val .bool x,none)],[(0,.cells wL O []),(1,.cells wL ((([]:p8),(([]:p9),(([]:List qG),(([]:List rW),())))),(([]:pI),((([]:p8),(([]:p8),(([]:p8),(([]:p9),(([]:p9),((0:Int),(([]:List qG),()))))))),(false,(false,(false,(false,(false,(([]:p8),(([]:p8),())))))))))) [(1,3),(2,4),(3,5),(4,6),(8,7),(9,8),(11,9)]),(2,.grow 136 2 (aE.1.length)),(3,.grow 9 1 (([]:p9).length)),(4,.grow 110 2 (([]:List qG).length)),(5,.grow 45 7 (([]:List rW).length)),(6,.grow 3 1 (([]:pI).length)),(7,.grow 9 1 (([]:p9).length)),(8,.grow 9 1 (([]:p9).length)),(9,.grow 110 2 (([]:List qG).length))],10,100,0⟩) aH) ?_ ?_
 .refine qE f ?_ ?_<;>intro f Y
  .refine qM ?_;cases f;exact tE ⟨⟨[2,3,6,9,11,67,75],[(0,0),(1,1),(2,361),(3,2),(4,3),(5,4),(6,5),(7,6),(8,7),(9,8)]⟩,by rfl⟩
  refine qZ wJ ?_;cases f;exact tE ⟨⟨[2,3,6,9,11,67,75],[(0,0),(1,1),(2,361),(3,2),(4,3),(5,4),(6,5),(7,6),(8,7),(9,8)]⟩,by rfl⟩
 rintro _ rfl;dsimp only at d|-;refine q9 (qE d (fun d Y=>?_) (fun d Y=>?_))
 .obtain⟨Q,d⟩:=q8 d;obtain⟨aI,hv12,hw12,d⟩:=rI d
  try simp only[go_sem] at hw12
  refine w6 wJ ?_ (hp:=by exact⟨Q,(rH hv12)⟩) (h:=by simp only[go_sem,hw12];rfl);refine qC (r9 (qP ?_));cases d;exact pA []
 refine pV wJ ?_;refine qE d ?_ ?_<;>intro d Y
 .obtain⟨aJ,hv13,hw13,d⟩:=rI d
  try simp only[go_sem] at hw13
  refine pV wJ ?_ (hp:=by exact(rH hv13)) (h:=by simp only[go_sem,hw13];rfl);refine qC (r9 (qP ?_));cases d;exact pA []
 refine qM (rL (q9 ?_));obtain⟨aK,hv14,hw14,d⟩:=rI d
 try simp only[go_sem] at hw14
 refine pV wJ ?_ (hp:=by exact(rH hv14)) (h:=by simp only[go_sem,hw14];rfl);refine qC ?_;cases d;exact pA []
attribute [irreducible] JG
end
noncomputable section
def H8 (O:(p8×(Bool×Unit))):Option (Bool×p8×Bool×p8×Bool):=if ((decide ((Lib.trimLeftS O.1 ([32,9]:p8))=([]:p8)))||O.2.1)=true then some ((false,([]:p8),false,(Lib.trimLeftS O.1 ([32,9]:p8)),O.2.1)) else if 0≤(0:Int)∧(0:Int)<((Lib.trimLeftS O.1 ([32,9]:p8)).length:Int) then if (!decide ((rJ (Lib.trimLeftS O.1 ([32,9]:p8)) (0:Int))=(34:Int)))=true then if List.length (Lib.trimLeftS O.1 ([32,9]:p8))<4294967281 then sR (σ:=Int) (if (decide ((NQ (Lib.trimLeftS O.1 ([32,9]:p8)) ([32,9,34]:p8))<(0:Int)))=true then some (((Lib.trimLeftS O.1 ([32,9]:p8)).length:Int)) else some ((NQ (Lib.trimLeftS O.1 ([32,9]:p8)) ([32,9,34]:p8))) ) fun Z=>if 0≤(0:Int)∧(0:Int)≤Z∧Z≤((Lib.trimLeftS O.1 ([32,9]:p8)).length:Int) then if 0≤Z∧Z≤((Lib.trimLeftS O.1 ([32,9]:p8)).length:Int)∧((Lib.trimLeftS O.1 ([32,9]:p8)).length:Int)≤((Lib.trimLeftS O.1 ([32,9]:p8)).length:Int) then (OC (qU (Lib.trimLeftS O.1 ([32,9]:p8)) Z ((Lib.trimLeftS O.1 ([32,9]:p8)).length:Int)) ([34]:p8)).bind fun aA=>some ((false,(qU (Lib.trimLeftS O.1 ([32,9]:p8)) (0:Int) Z),(!((decide ((([34]:p8).length:Int)≤((qU (Lib.trimLeftS O.1 ([32,9]:p8)) Z ((Lib.trimLeftS O.1 ([32,9]:p8)).length:Int)).length:Int)))&&(decide ((qU (qU (Lib.trimLeftS O.1 ([32,9]:p8)) Z ((Lib.trimLeftS O.1 ([32,9]:p8)).length:Int)) (0:Int) (([34]:p8).length:Int))=([34]:p8))))),(qU (Lib.trimLeftS O.1 ([32,9]:p8)) Z ((Lib.trimLeftS O.1 ([32,9]:p8)).length:Int)),((decide ((([34]:p8).length:Int)≤((qU (Lib.trimLeftS O.1 ([32,9]:p8)) Z ((Lib.trimLeftS O.1 ([32,9]:p8)).length:Int)).length:Int)))&&(decide ((qU (qU (Lib.trimLeftS O.1 ([32,9]:p8)) Z ((Lib.trimLeftS O.1 ([32,9]:p8)).length:Int)) (0:Int) (([34]:p8).length:Int))=([34]:p8)))))) else none else none else none else if 0≤(1:Int)∧(1:Int)≤((Lib.trimLeftS O.1 ([32,9]:p8)).length:Int)∧((Lib.trimLeftS O.1 ([32,9]:p8)).length:Int)≤((Lib.trimLeftS O.1 ([32,9]:p8)).length:Int) then (LE (2:Int) (qU (Lib.trimLeftS O.1 ([32,9]:p8)) (1:Int) ((Lib.trimLeftS O.1 ([32,9]:p8)).length:Int)) (34:Int)).bind fun aB=>if (decide (aB<(0:Int)))=true then some ((false,([]:p8),false,(Lib.trimLeftS O.1 ([32,9]:p8)),true)) else if pY (aB+(1:Int)) then if 0≤(1:Int)∧(1:Int)≤(aB+(1:Int))∧(aB+(1:Int))≤((Lib.trimLeftS O.1 ([32,9]:p8)).length:Int) then (M9 (2:Int) (qU (Lib.trimLeftS O.1 ([32,9]:p8)) (1:Int) (aB+(1:Int)))).bind fun aC=>if pY (aB+(2:Int)) then if 0≤(aB+(2:Int))∧(aB+(2:Int))≤((Lib.trimLeftS O.1 ([32,9]:p8)).length:Int)∧((Lib.trimLeftS O.1 ([32,9]:p8)).length:Int)≤((Lib.trimLeftS O.1 ([32,9]:p8)).length:Int) then if (((!decide (aC.2.2=(0:Int)))==false)=true→((LQ aC.1)).isSome=true) then if (((((!decide (aC.2.2=(0:Int)))||(!((decide ((aC.1.length:Int)≤(4000:Int)))&&(Lib.validD aC.1))))==false)&&((!decide ((qU (Lib.trimLeftS O.1 ([32,9]:p8)) (aB+(2:Int)) ((Lib.trimLeftS O.1 ([32,9]:p8)).length:Int))=([]:p8)))==true))=true→0≤(0:Int)∧(0:Int)<((qU (Lib.trimLeftS O.1 ([32,9]:p8)) (aB+(2:Int)) ((Lib.trimLeftS O.1 ([32,9]:p8)).length:Int)).length:Int)) then if (((((!decide (aC.2.2=(0:Int)))||(!((decide ((aC.1.length:Int)≤(4000:Int)))&&(Lib.validD aC.1))))==false)&&(((!decide ((qU (Lib.trimLeftS O.1 ([32,9]:p8)) (aB+(2:Int)) ((Lib.trimLeftS O.1 ([32,9]:p8)).length:Int))=([]:p8)))&&(!decide ((rJ (qU (Lib.trimLeftS O.1 ([32,9]:p8)) (aB+(2:Int)) ((Lib.trimLeftS O.1 ([32,9]:p8)).length:Int)) (0:Int))=(32:Int))))==true))=true→0≤(0:Int)∧(0:Int)<((qU (Lib.trimLeftS O.1 ([32,9]:p8)) (aB+(2:Int)) ((Lib.trimLeftS O.1 ([32,9]:p8)).length:Int)).length:Int)) then some ((true,aC.1,(!(((!decide (aC.2.2=(0:Int)))||(!((decide ((aC.1.length:Int)≤(4000:Int)))&&(Lib.validD aC.1))))||(((!decide ((qU (Lib.trimLeftS O.1 ([32,9]:p8)) (aB+(2:Int)) ((Lib.trimLeftS O.1 ([32,9]:p8)).length:Int))=([]:p8)))&&(!decide ((rJ (qU (Lib.trimLeftS O.1 ([32,9]:p8)) (aB+(2:Int)) ((Lib.trimLeftS O.1 ([32,9]:p8)).length:Int)) (0:Int))=(32:Int))))&&(!decide ((rJ (qU (Lib.trimLeftS O.1 ([32,9]:p8)) (aB+(2:Int)) ((Lib.trimLeftS O.1 ([32,9]:p8)).length:Int)) (0:Int))=(9:Int)))))),(qU (Lib.trimLeftS O.1 ([32,9]:p8)) (aB+(2:Int)) ((Lib.trimLeftS O.1 ([32,9]:p8)).length:Int)),(((!decide (aC.2.2=(0:Int)))||(!((decide ((aC.1.length:Int)≤(4000:Int)))&&(Lib.validD aC.1))))||(((!decide ((qU (Lib.trimLeftS O.1 ([32,9]:p8)) (aB+(2:Int)) ((Lib.trimLeftS O.1 ([32,9]:p8)).length:Int))=([]:p8)))&&(!decide ((rJ (qU (Lib.trimLeftS O.1 ([32,9]:p8)) (aB+(2:Int)) ((Lib.trimLeftS O.1 ([32,9]:p8)).length:Int)) (0:Int))=(32:Int))))&&(!decide ((rJ (qU (Lib.trimLeftS O.1 ([32,9]:p8)) (aB+(2:Int)) ((Lib.trimLeftS O.1 ([32,9]:p8)).length:Int)) (0:Int))=(9:Int))))))) else none else none else none else none else none else none else none else none else none
section
variable (O:(p8×(Bool×Unit)))
abbrev a7L:List pX:=[(.val .ref (some (0,0)),none)]
abbrev a7M:List pW:=[.cells (.pair .str (.pair .bool .unit)) O []]
@[go_sem] def a7N:qI:=let q:=val (H8 O);⟨[((H8 O)).isSome=true],[(.val qO (q.1,(q.2.1,())),none),(.val .bool (q.2.2.1),none)],[.cells (.pair .str (.pair .bool .unit)) (q.2.2.2.1,(q.2.2.2.2,())) []]⟩
def aGn:List pX→List pW→Option qI:=rR (V:=(p8×(Bool×Unit))) (fun x=>a7L) (a7M) fun x=>a7N x
@[go_sem] def aRS:aGn (no_index a7L) (no_index (a7M O))=some (a7N O):=rS (fun a0 b0 h1 h2=>by cases h1;cases h2;rfl) O
end
@[go_sem] abbrev aGo:Nat×r7:=(115,⟨[.p (.pair .str (.pair .bool .unit)) []],aGn,[],[],none⟩)
def xX:qW prog [uY,sB,wC,WH] (qY [QR,aDc,aFb,aEa,aGk,WV]):=⟨⟨vI,⟨sC,⟨wM,⟨aDb,trivial⟩⟩⟩⟩,qK a1r (qK aMg (qK aMO (qK aMt (qK aNd (qK aE1 rM))))),r5⟩
def aNf:rD prog aGo:=by
 refine rT xX func115 (c:=_) rfl (N:=152) pQ (ts:=[(2,some 121),(3,none)]) rfl (fun _ _=>rfl) ?_;intro O hs hrow;dsimp only[a7L,a7M,a7N,rP,qQ,qV,r8,rQ,Nat.reduceAdd] at hs hrow|-;have hz:=hs;obtain⟨z0,d⟩:=aSn.1 hz
 try rw[rX d]
 clear hz hs;unfold H8 at d;refine pV xX ?_;refine pV xX ?_ (hp:=by exact⟨pD,pD⟩);refine qD (pV xX ?_ (hp:=by exact⟨id,id,id,tP⟩));refine qE d ?_ ?_<;>intro d Y
 .refine pV xX ?_;refine qC (qP ?_);cases d;exact pA [(0,0)]
 refine qM (q9 (qD ?_));obtain⟨X,d⟩:=q8 d;refine pV xX ?_ (hp:=by exact X);refine qE d ?_ ?_<;>intro d Y
 .obtain⟨W,d⟩:=q8 d;refine pV xX ?_ (hp:=by exact W);refine qD (pV xX ?_);obtain⟨Z,f,d⟩:=qR d;refine AR (fun s=>s=(fun x=>⟨[(0,.val .ref (some (0,0)),none),(2,.val .ref (some (1,0)),none),(4,.val (.int .i64) x,none)],[(0,.cells (.pair .str (.pair .bool .unit)) ((Lib.trimLeftS O.1 ([32,9]:p8)),O.2) []),(1,.cells qO (false,(([]:p8),())) [])],2,152,1⟩) Z) ?_ ?_
  .refine qE f ?_ ?_<;>intro f Y
   .refine qZ xX ?_;cases f;exact tE ⟨⟨[0,2,4],[(0,0),(1,1)]⟩,by rfl⟩
   refine qM ?_;cases f;exact tE ⟨⟨[0,2,4],[(0,0),(1,1)]⟩,by rfl⟩
  rintro _ rfl;dsimp only at d|-;refine q9 ?_;obtain⟨V,d⟩:=q8 d;refine pV xX ?_ (hp:=by exact V);obtain⟨U,d⟩:=q8 d;refine pV xX ?_ (hp:=by exact U);obtain⟨aA,hv5,hw5,d⟩:=rI d
  try simp only[go_sem] at hw5
  refine pV xX ?_ (hp:=by exact(rH hv5)) (h:=by simp only[go_sem,hw5];rfl);refine w6 xX ?_;refine qC (qP ?_);cases d;exact pA [(0,0)]
 refine qM (q9 ?_);obtain⟨T,d⟩:=q8 d;obtain⟨aB,hv7,hw7,d⟩:=rI d
 try simp only[go_sem] at hw7
 refine pV xX ?_ (hp:=by exact⟨T,(rH hv7)⟩) (h:=by simp only[go_sem,hw7];rfl);refine qD (pV xX ?_);refine qE d ?_ ?_<;>intro d Y
 .refine pV xX ?_;refine pV xX ?_;refine qC (qP ?_);cases d;exact pA [(0,0)]
 refine qM (q9 ?_);obtain⟨S,R,d⟩:=p7 d;obtain⟨aC,hv10,hw10,d⟩:=rI d
 try simp only[go_sem] at hw10
 refine pV xX ?_ (hp:=by exact⟨S,R,(rH hv10)⟩) (h:=by simp only[go_sem,hw10];rfl);obtain⟨Q,P,d⟩:=p7 d;refine pV xX ?_ (hp:=by exact⟨Q,P⟩);obtain⟨M,L,d⟩:=p7 d;obtain⟨K,d⟩:=q8 d;refine pV xX ?_ (hp:=by exact⟨id,M,id,tP,id,id,id,id,id,id,id,id,id,L,id,id,fun hG e=>IB hG e,id,id,id,id,id,K,id,id,fun hG e=>IB hG e,tP⟩);refine w6 xX ?_;refine qC ?_;cases d;exact pA [(0,0)]
def MA (O:p9):(Int×Int×p8×p9×(List qG)×(List rW)×pI×p8×p8×p8×p9×p9×Int×(List qG)×Bool×Bool×Bool×Bool×Bool×p8×p8)→Option ((Int×Int×p8×p9×(List qG)×(List rW)×pI×p8×p8×p8×p9×p9×Int×(List qG)×Bool×Bool×Bool×Bool×Bool×p8×p8)⊕((p8×p9×(List qG)×(List rW)×pI×p8×p8×p8×p9×p9×Int×(List qG)×Bool×Bool×Bool×Bool×Bool×p8×p8)⊕(p8×p9×(List qG)×(List rW)×pI×Int×Int))):=fun(Z,aA,aB,aC,aD,aE,aF,aG,aH,aI,aJ,aK,aL,aM,aN,aO,aP,aQ,aR,aS,aT)=>if (decide (aA<(O.length:Int)))=true then if 0≤aA∧aA<(O.length:Int) then if pY (Z+((qH .str O aA).length:Int)) then if 0≤aA∧aA<(O.length:Int) then (JG ((aB,(aC,(aD,(aE,())))),(aF,((aG,(aH,(aI,(aJ,(aK,(aL,(aM,()))))))),(aN,(aO,(aP,(aQ,(aR,(aS,(aT,())))))))))) (qH .str O aA) (Z+((qH .str O aA).length:Int))).bind fun aU=>if (!decide (aU.2.2.2.2.2.2.2.2.2.2.2.2.2.2.2.2.2.2.2=(0:Int)))=true then some (.inr (.inr ((([]:p8),([]:p9),([]:List qG),([]:List rW),([]:pI),Z,aU.2.2.2.2.2.2.2.2.2.2.2.2.2.2.2.2.2.2.2)))) else if pY (aA+(1:Int)) then some (.inl ((Z+((qH .str O aA).length:Int)),(aA+(1:Int)),aU.1,aU.2.1,aU.2.2.1,aU.2.2.2.1,aU.2.2.2.2.1,aU.2.2.2.2.2.1,aU.2.2.2.2.2.2.1,aU.2.2.2.2.2.2.2.1,aU.2.2.2.2.2.2.2.2.1,aU.2.2.2.2.2.2.2.2.2.1,aU.2.2.2.2.2.2.2.2.2.2.1,aU.2.2.2.2.2.2.2.2.2.2.2.1,aU.2.2.2.2.2.2.2.2.2.2.2.2.1,aU.2.2.2.2.2.2.2.2.2.2.2.2.2.1,aU.2.2.2.2.2.2.2.2.2.2.2.2.2.2.1,aU.2.2.2.2.2.2.2.2.2.2.2.2.2.2.2.1,aU.2.2.2.2.2.2.2.2.2.2.2.2.2.2.2.2.1,aU.2.2.2.2.2.2.2.2.2.2.2.2.2.2.2.2.2.1,aU.2.2.2.2.2.2.2.2.2.2.2.2.2.2.2.2.2.2.1)) else none else none else none else none else some (.inr (.inl (aB,aC,aD,aE,aF,aG,aH,aI,aJ,aK,aL,aM,aN,aO,aP,aQ,aR,aS,aT)))
def MB (O:p8):Option (p8×p9×(List qG)×(List rW)×pI×Int×Int):=(IN O).bind fun Z=>tC (rG (MA Z) ((0:Int),(0:Int),([]:p8),([]:p9),([]:List qG),([]:List rW),([]:pI),([]:p8),([]:p8),([]:p8),([]:p9),([]:p9),(0:Int),([]:List qG),false,false,false,false,false,([]:p8),([]:p8))) fun(aA,aB,aC,aD,aE,aF,aG,aH,aI,aJ,aK,aL,aM,aN,aO,aP,aQ,aR,aS)=>if (aM||(decide ((aE.length:Int)=(0:Int))))=true then some ((([]:p8),([]:p9),([]:List qG),([]:List rW),([]:pI),(O.length:Int),(3:Int))) else some ((aA,aB,aC,aD,aE,(0:Int),(0:Int)))
section
variable (O:p8)
abbrev a7O:List pX:=[(.val .str O,none)]
abbrev a7P:List pW:=[]
@[go_sem] def a7Q:qI:=let q:=val (MB O);⟨[((MB O)).isSome=true],[(.val A3 (q.1,(q.2.1,(q.2.2.1,(q.2.2.2.1,())))),none),(.val (.list (.int .i64)) (q.2.2.2.2.1),none),(.val (.int .i64) (q.2.2.2.2.2.1),none),(.val (.int .i64) (q.2.2.2.2.2.2),none)],[]⟩
def aGp:List pX→List pW→Option qI:=rR (V:=p8) (a7O) (fun x=>a7P) fun x=>a7Q x
@[go_sem] def aRT:aGp (no_index (a7O O)) (no_index a7P)=some (a7Q O):=rS (fun a0 b0 h1 h2=>by cases h1;cases h2;rfl) O
end
@[go_sem] abbrev aGq:Nat×r7:=(30,⟨[.v],aGp,[],[],none⟩)
def AA:qW prog [uY,sB,A8,yZ,DN,IH] (qY [aDk,aGm]):=⟨⟨vI,⟨sC,⟨BQ,⟨A9,⟨GK,⟨NR,trivial⟩⟩⟩⟩⟩⟩,qK aMk (qK aNe rM),r5⟩
def aNg:rD prog aGq:=by
 refine rT AA func30 (c:=_) rfl (N:=60) pQ (ts:=[(2,some 27),(3,none),(4,none),(5,none)]) rfl (fun _ _=>rfl) ?_;intro O hs hrow;dsimp only[a7O,a7P,a7Q,rP,qQ,qV,r8,rQ,Nat.reduceAdd] at hs hrow|-;have hz:=hs;obtain⟨z0,d⟩:=aSn.1 hz
 try rw[rX d]
 clear hz hs;unfold MB at d;refine pV AA ?_;refine pV AA ?_;refine pV AA ?_;obtain⟨Z,hv1,hw1,d⟩:=rI d
 try simp only[go_sem] at hw1
 refine pV AA ?_ (hp:=by exact(rH hv1)) (h:=by simp only[go_sem,hw1];rfl);refine qD (pV AA ?_);refine rN ?_;obtain⟨y1,hy1,d⟩:=uM d;refine tN 0 (fun s=> ∃v,y1= .inl v∧s=(fun x=>⟨[(0,.val .str O,none),(2,.val .ref (some (0,0)),none),(6,.val .ref (some (1,0)),none)],[(0,.cells A3 (([]:p8),(([]:p9),(([]:List qG),(([]:List rW),())))) [(1,2),(2,3),(3,4)]),(1,.cells wL ((x.1,(x.2.1,(x.2.2.1,(x.2.2.2.1,())))),(x.2.2.2.2.1,((x.2.2.2.2.2.1,(x.2.2.2.2.2.2.1,(x.2.2.2.2.2.2.2.1,(x.2.2.2.2.2.2.2.2.1,(x.2.2.2.2.2.2.2.2.2.1,(x.2.2.2.2.2.2.2.2.2.2.1,(x.2.2.2.2.2.2.2.2.2.2.2.1,()))))))),(x.2.2.2.2.2.2.2.2.2.2.2.2.1,(x.2.2.2.2.2.2.2.2.2.2.2.2.2.1,(x.2.2.2.2.2.2.2.2.2.2.2.2.2.2.1,(x.2.2.2.2.2.2.2.2.2.2.2.2.2.2.2.1,(x.2.2.2.2.2.2.2.2.2.2.2.2.2.2.2.2.1,(x.2.2.2.2.2.2.2.2.2.2.2.2.2.2.2.2.2.1,(x.2.2.2.2.2.2.2.2.2.2.2.2.2.2.2.2.2.2,())))))))))) []),(2,.grow 9 1 (([]:p9).length)),(3,.grow 110 2 (([]:List qG).length)),(4,.grow 45 7 (([]:List rW).length))],5,60,0⟩) v) ?_ ?_
 .refine tD hy1 (fun x=>⟨[(0,.val .str O,none),(2,.val .ref (some (0,0)),none),(6,.val .ref (some (1,0)),none),(7,.val (.int .i64) x.1,none),(8,(.val (.list .str) Z,some 2)),(9,(.val (.int .i64) x.2.1,none))],[(0,.cells A3 (([]:p8),(([]:p9),(([]:List qG),(([]:List rW),())))) [(1,3),(2,4),(3,5)]),(1,.cells wL ((x.2.2.1,(x.2.2.2.1,(x.2.2.2.2.1,(x.2.2.2.2.2.1,())))),(x.2.2.2.2.2.2.1,((x.2.2.2.2.2.2.2.1,(x.2.2.2.2.2.2.2.2.1,(x.2.2.2.2.2.2.2.2.2.1,(x.2.2.2.2.2.2.2.2.2.2.1,(x.2.2.2.2.2.2.2.2.2.2.2.1,(x.2.2.2.2.2.2.2.2.2.2.2.2.1,(x.2.2.2.2.2.2.2.2.2.2.2.2.2.1,()))))))),(x.2.2.2.2.2.2.2.2.2.2.2.2.2.2.1,(x.2.2.2.2.2.2.2.2.2.2.2.2.2.2.2.1,(x.2.2.2.2.2.2.2.2.2.2.2.2.2.2.2.2.1,(x.2.2.2.2.2.2.2.2.2.2.2.2.2.2.2.2.2.1,(x.2.2.2.2.2.2.2.2.2.2.2.2.2.2.2.2.2.2.1,(x.2.2.2.2.2.2.2.2.2.2.2.2.2.2.2.2.2.2.2.1,(x.2.2.2.2.2.2.2.2.2.2.2.2.2.2.2.2.2.2.2.2,())))))))))) []),(2,.grow 9 1 (Z.length)),(3,.grow 9 1 (([]:p9).length)),(4,.grow 110 2 (([]:List qG).length)),(5,.grow 45 7 (([]:List rW).length))],6,60,0⟩) ⟨[0,2,6,7,8,9],[(0,0),(1,128),(2,224),(3,1),(4,2),(5,3)]⟩ pR ?_;intro x1 w1 n1 f g;obtain⟨aA,aB,aC,aD,aE,aF,aG,aH,aI,aJ,aK,aL,aM,aN,aO,aP,aQ,aR,aS,aT,aU⟩:=x1;unfold MA at f;dsimp only at f|-;refine qD (pV AA ?_);refine qE f ?_ ?_<;>intro f Y
  .refine qM (q9 (qD (rN ?_)));obtain⟨X,W,f⟩:=p7 f;refine pV AA ?_ (hp:=by exact⟨X,W⟩);obtain⟨V,f⟩:=q8 f;obtain⟨aV,hv5,hw5,f⟩:=rI f
   try simp only[go_sem] at hw5
   refine w6 AA ?_ (hp:=by exact⟨V,(rH hv5)⟩) (h:=by simp only[go_sem,hw5];rfl);refine qD (pV AA ?_);refine qE f ?_ ?_<;>intro f Y
   .refine pV AA ?_;refine qC (qP (r9 (qP (tY (uR (r9 (qP ?_)))))));cases f;cases g;dsimp only at d;cases d;exact pA []
   refine qM (q9 (qZ AA ?_));refine rL (q9 ?_);obtain⟨U,f⟩:=q8 f;refine qZ AA ?_ (hp:=by exact U);cases f;exact sN ⟨⟨[0,2,6,7,8,9],[(0,0),(1,1),(2,2),(3,3),(4,4),(5,5)]⟩,_,by rfl,g⟩
  refine tA (t7 (tB ?_));cases f;cases g;exact tO ⟨⟨[0,2,6],[(0,0),(1,1),(2,3),(3,4),(4,5)]⟩,_,rfl,by rfl⟩
 rintro _ ⟨v,rfl,rfl⟩;obtain⟨aW,aX,aY,aZ,bA,bB,bC,bD,bE,bF,bG,bH,bI,bJ,bK,bM,bN,bO,bP⟩:=v;dsimp only at d|-;refine t8 (q9 (qD ?_));refine pV AA ?_ (hp:=by exact⟨id,id,id,tP⟩);refine qE d ?_ ?_<;>intro d Y
 .refine pV AA ?_;refine qC (qP ?_);cases d;exact pA []
 refine qM (q9 (w6 AA ?_));refine qC ?_;cases d;exact pA []
attribute [irreducible] H8 MB
end
noncomputable section
def OO:((List (Bool×(p8×Unit)))×Bool×p8×Bool×Bool×p8)→Option (((List (Bool×(p8×Unit)))×Bool×p8×Bool×Bool×p8)⊕((List (Bool×(p8×Unit)))×p8×Bool)):=fun(O,Z,aA,aB,aC,aD)=>if Z=true then if (O.length+([(aC,(aD,()))]:List (Bool×(p8×Unit))).length)*24≤140737488355328 then (H8 (aA,(aB,()))).bind fun aE=>some (.inl ((O++([(aC,(aD,()))]:List (Bool×(p8×Unit)))),aE.2.2.1,aE.2.2.2.1,aE.2.2.2.2,aE.1,aE.2.1)) else none else some (.inr (O,aA,aB))
def H9 (O:p8):Option ((List (Bool×(p8×Unit)))×Bool):=(H8 (O,(false,()))).bind fun Z=>sR (rG OO (([]:List (Bool×(p8×Unit))),Z.2.2.1,Z.2.2.2.1,Z.2.2.2.2,Z.1,Z.2.1)) fun(aA,aB,aC)=>some ((aA,(!aC)))
section
variable (O:p8)
abbrev a7R:List pX:=[(.val .str O,none)]
abbrev a7S:List pW:=[]
@[go_sem] def a7T:qI:=let q:=val (H9 O);⟨[((H9 O)).isSome=true],[(.val (.list qO) (q.1),some 0),(.val .bool (q.2),none)],[.grow 121 2 ((q.1).length)]⟩
def aGr:List pX→List pW→Option qI:=rR (V:=p8) (a7R) (fun x=>a7S) fun x=>a7T x
@[go_sem] def aRU:aGr (no_index (a7R O)) (no_index a7S)=some (a7T O):=rS (fun a0 b0 h1 h2=>by cases h1;cases h2;rfl) O
end
@[go_sem] abbrev B5:Nat×r7:=(81,⟨[.v],aGr,[],[],none⟩)
def E9:qW prog [uY,wG,wC,WH] (qY [aGo]):=⟨⟨vI,⟨x9,⟨wM,⟨aDb,trivial⟩⟩⟩⟩,qK aNf rM,r5⟩
def MC:rD prog B5:=by
 refine rT E9 func81 (c:=_) rfl (N:=33) pQ (ts:=[(2,none),(3,none)]) rfl (fun _ _=>rfl) ?_;intro O hs hrow;dsimp only[a7R,a7S,a7T,rP,qQ,qV,r8,rQ,Nat.reduceAdd] at hs hrow|-;have hz:=hs;obtain⟨z0,d⟩:=aSn.1 hz
 try rw[rX d]
 clear hz hs;unfold H9 at d;refine pV E9 ?_;refine pV E9 ?_;refine pV E9 ?_;refine qD ?_;obtain⟨Z,hv1,hw1,d⟩:=rI d
 try simp only[go_sem] at hw1
 refine pV E9 ?_ (hp:=by exact(rH hv1)) (h:=by simp only[go_sem,hw1];rfl);refine rN ?_;obtain⟨y1,hy1,d⟩:=qR d;refine tN 0 (fun s=>s=(fun x=>⟨[(4,.val .ref (some (0,0)),none),(5,(.val (.list qO) x.1,some 1))],[(0,.cells (.pair .str (.pair .bool .unit)) (x.2.1,(x.2.2,())) []),(1,.grow 121 2 (x.1.length))],2,33,0⟩) y1) ?_ ?_
 .refine tD hy1 (fun x=>⟨[(4,.val .ref (some (0,0)),none),(5,(.val (.list qO) x.1,some 1)),(6,(.val .ref (some (2,0)),none)),(7,.val .bool x.2.1,none)],[(0,.cells (.pair .str (.pair .bool .unit)) (x.2.2.1,(x.2.2.2.1,())) []),(1,.grow 121 2 (x.1.length)),(2,.cells qO (x.2.2.2.2.1,(x.2.2.2.2.2,())) [])],3,33,0⟩) ⟨[4,5,6,7],[(0,128),(1,192),(2,384)]⟩ pR ?_;intro x1 w1 n1 e f;obtain⟨aA,aB,aC,aD,aE,aF⟩:=x1;unfold OO at e;dsimp only at e|-;refine qD (pV E9 ?_);refine qE e ?_ ?_<;>intro e Y
  .refine qM (q9 (qD (rN ?_)));obtain⟨X,e⟩:=q8 e;refine qZ E9 ?_ (hp:=by exact⟨pP,X⟩)
   refine rL (q9 (qD (pV E9 ?_)));refine qZ E9 ?_;refine q9 ?_;obtain⟨aG,hv3,hw3,e⟩:=rI e
   try simp only[go_sem] at hw3
   refine qZ E9 ?_ (hp:=by exact(rH hv3)) (h:=by simp only[go_sem,hw3];rfl);cases e;exact sN ⟨⟨[4,5,6,7],[(0,0),(1,1),(2,227)]⟩,_,by rfl,f⟩
  refine tA (t7 (tB ?_));cases e;cases f;exact tO ⟨⟨[4,5],[(0,0),(1,1)]⟩,by rfl⟩
 rintro _ rfl;obtain⟨aH,aI,aJ⟩:=y1;dsimp only at d|-;refine t8 (q9 ?_);refine w6 E9 ?_;refine qC ?_;cases d;exact pA [(0,1)]
def MD (O:p8):Option (p8×p9×(List qG)×(List rW)×Int×Int):=(MB O).bind fun Z=>some ((Z.1,Z.2.1,Z.2.2.1,Z.2.2.2.1,Z.2.2.2.2.2.1,Z.2.2.2.2.2.2))
section
variable (O:p8)
abbrev a7U:List pX:=[(.val .str O,none)]
abbrev a7V:List pW:=[]
@[go_sem] def a7W:qI:=let q:=val (MD O);⟨[((MD O)).isSome=true],[(.val A3 (q.1,(q.2.1,(q.2.2.1,(q.2.2.2.1,())))),none),(.val (.int .i64) (q.2.2.2.2.1),none),(.val (.int .i64) (q.2.2.2.2.2),none)],[]⟩
def aGs:List pX→List pW→Option qI:=rR (V:=p8) (a7U) (fun x=>a7V) fun x=>a7W x
@[go_sem] def aRV:aGs (no_index (a7U O)) (no_index a7V)=some (a7W O):=rS (fun a0 b0 h1 h2=>by cases h1;cases h2;rfl) O
end
@[go_sem] abbrev aGt:Nat×r7:=(12,⟨[.v],aGs,[],[],none⟩)
def WZ:qW prog [yZ] (qY [aGq]):=⟨⟨A9,trivial⟩,qK aNg rM,r5⟩
def aNh:rD prog aGt:=by
 refine rT WZ func12 (c:=_) rfl (N:=19) pQ (ts:=[(2,some 27),(3,none),(4,none)]) rfl (fun _ _=>rfl) ?_;intro O hs hrow;dsimp only[a7U,a7V,a7W,rP,qQ,qV,r8,rQ,Nat.reduceAdd] at hs hrow|-;have hz:=hs;obtain⟨z0,d⟩:=aSn.1 hz
 try rw[rX d]
 clear hz hs;unfold MD at d;refine pV WZ ?_;obtain⟨Z,hv1,hw1,d⟩:=rI d
 try simp only[go_sem] at hw1
 refine pV WZ ?_ (hp:=by exact(rH hv1)) (h:=by simp only[go_sem,hw1];rfl);refine pV WZ ?_;refine qC ?_;cases d;exact pA []
attribute [irreducible] H9 MD
end
noncomputable section
def HC (O:sE) (Z:Int) (aA:p8) (aB:p8) (aC:p8) (aD:p9) (aE:Int) (aF:Nat) (aG:(pI×Unit)) (aH:p8) (aI:Int) (aJ:(Option p9)) (aK:Nat) (aL:(Option (List qG))) (aM:Nat) (aN:pG) (aO:pG):Option (Int×p8×p9×(List qG)×(List rW)×Int×p8×p8×p8×p9×Int×Nat×pI×pG×(Option p9)×Nat×(Option (List qG))×Nat×pG):=(H9 aH).bind fun aP=>if (!aP.2)=true then some (((3:Int),O.1,O.2.1,O.2.2.1,O.2.2.2.1,Z,aA,aB,aC,aD,aE,aF,aG.1,aO,aJ,aK,aL,aM,aN)) else if 0≤(0:Int)∧(0:Int)<(aP.1.length:Int) then if (qH qO aP.1 (0:Int)).1=true then (M1 O Z aA aB aC aD aE aF aG aP.1 aJ aK aL aM aN aO).bind fun aQ=>some ((aQ.1,O.1,O.2.1,O.2.2.1,O.2.2.2.1,Z,aA,aQ.2.1,aQ.2.2.1,aD,aE,aF,aG.1,aO,aQ.2.2.2.1,aQ.2.2.2.2.1,aQ.2.2.2.2.2.1,aQ.2.2.2.2.2.2,aN)) else if ((decide (Z=(0:Int)))||(decide (Z=(2:Int))))=true then (LR O Z aA aB aC aD aE aG aP.1 aJ aK aL aM aN aO).bind fun aR=>some ((aR.1,aR.2.1,O.2.1,O.2.2.1,O.2.2.2.1,aR.2.2.1,aR.2.2.2.1,aR.2.2.2.2.1,aR.2.2.2.2.2.1,aR.2.2.2.2.2.2.1,aR.2.2.2.2.2.2.2.1,0,aG.1,aR.2.2.2.2.2.2.2.2.1,aR.2.2.2.2.2.2.2.2.2.1,aR.2.2.2.2.2.2.2.2.2.2.1,aR.2.2.2.2.2.2.2.2.2.2.2.1,aR.2.2.2.2.2.2.2.2.2.2.2.2.1,aR.2.2.2.2.2.2.2.2.2.2.2.2.2)) else if 0≤(0:Int)∧(0:Int)<(aP.1.length:Int) then if (decide ((qH qO aP.1 (0:Int)).2.1=([101,110,100]:p8)))=true then aJ.bind fun aS=>aL.bind fun aT=>if 0≤(1:Int)∧(1:Int)≤(aP.1.length:Int)∧(aP.1.length:Int)≤(aP.1.length:Int) then (LO O Z aA aB aC aD aE aG (qU aP.1 (1:Int) (aP.1.length:Int)) aI aS aT aN aO).bind fun aU=>some ((aU.1,O.1,aU.2.1,aU.2.2.1,aU.2.2.2.1,aU.2.2.2.2.1,aA,aB,aC,aD,aE,0,aU.2.2.2.2.2.1,aO,aU.2.2.2.2.2.2.1,(aS.length),aU.2.2.2.2.2.2.2.1,aU.2.2.2.2.2.2.2.2,aN)) else none else if 0≤(0:Int)∧(0:Int)<(aP.1.length:Int) then AS (FB ((qH qO aP.1 (0:Int)).2.1)) fun aV=>if ((yQ aV.1)||((decide (Z=(1:Int)))&&(!aV.2)))=true then some (((3:Int),O.1,O.2.1,O.2.2.1,O.2.2.2.1,Z,aA,aB,aC,aD,aE,0,aG.1,aO,aJ,aK,aL,aM,aN)) else AS aV.1 fun aW=>if aW=some 117 then aJ.bind fun aX=>aL.bind fun aY=>if 0≤(1:Int)∧(1:Int)≤(aP.1.length:Int)∧(aP.1.length:Int)≤(aP.1.length:Int) then (IX O Z aA aB aC aD aE aG (qU aP.1 (1:Int) (aP.1.length:Int)) aX aY aN aO).bind fun aZ=>some ((aZ.1,O.1,O.2.1,O.2.2.1,O.2.2.2.1,Z,aA,aB,aC,aD,aE,aZ.2.1,aG.1,aO,(some aZ.2.2),(aZ.2.2.length),(some aY),(aY.length),aN)) else none else if aW=some 118 then aJ.bind fun bA=>aL.bind fun bB=>if 0≤(1:Int)∧(1:Int)≤(aP.1.length:Int)∧(aP.1.length:Int)≤(aP.1.length:Int) then (JD O Z aA aB aC aD aE aG (qU aP.1 (1:Int) (aP.1.length:Int)) bA bB aN aO).bind fun bC=>some ((bC.1,O.1,O.2.1,O.2.2.1,O.2.2.2.1,Z,aA,aB,aC,aD,aE,bC.2.1,aG.1,aO,(some bA),(bA.length),(some bC.2.2),(bC.2.2.length),aN)) else none else if aW=some 119 then aJ.bind fun bD=>aL.bind fun bE=>if 0≤(1:Int)∧(1:Int)≤(aP.1.length:Int)∧(aP.1.length:Int)≤(aP.1.length:Int) then (J8 O Z aA aB aC aD aE aG (qU aP.1 (1:Int) (aP.1.length:Int)) bD bE aN aO).bind fun bF=>some ((bF.1,O.1,O.2.1,O.2.2.1,O.2.2.2.1,Z,aA,bF.2.1,aC,aD,aE,bF.2.2.1,aG.1,aO,(some bD),(bD.length),(some bE),(bE.length),bF.2.2.2)) else none else if aW=some 120 then aJ.bind fun bG=>aL.bind fun bH=>if 0≤(1:Int)∧(1:Int)≤(aP.1.length:Int)∧(aP.1.length:Int)≤(aP.1.length:Int) then (J9 O Z aA aB aC aD aE aG (qU aP.1 (1:Int) (aP.1.length:Int)) bG bH aN aO).bind fun bI=>some ((bI.1,O.1,O.2.1,O.2.2.1,O.2.2.2.1,Z,aA,aB,bI.2.1,aD,aE,bI.2.2.1,aG.1,aO,(some bG),(bG.length),(some bH),(bH.length),bI.2.2.2)) else none else if aW=some 121 then aJ.bind fun bJ=>aL.bind fun bK=>if 0≤(1:Int)∧(1:Int)≤(aP.1.length:Int)∧(aP.1.length:Int)≤(aP.1.length:Int) then (JA O Z aA aB aC aD aE aG (qU aP.1 (1:Int) (aP.1.length:Int)) bJ bK aN aO).bind fun bM=>some ((bM.1,O.1,O.2.1,O.2.2.1,O.2.2.2.1,Z,aA,aB,aC,aD,bM.2.1,0,aG.1,aO,(some bJ),(bJ.length),(some bK),(bK.length),bM.2.2)) else none else if aW=some 122 then aJ.bind fun bN=>aL.bind fun bO=>if 0≤(1:Int)∧(1:Int)≤(aP.1.length:Int)∧(aP.1.length:Int)≤(aP.1.length:Int) then (J0 O Z aA aB aC aD aE aG (qU aP.1 (1:Int) (aP.1.length:Int)) bN bO aN aO).bind fun bP=>some ((bP.1,O.1,O.2.1,O.2.2.1,O.2.2.2.1,Z,aA,aB,aC,bP.2.1,aE,0,aG.1,aO,(some bN),(bN.length),(some bO),(bO.length),bP.2.2)) else none else none else none else none else none
section
variable (O:p8) (Z:Int) (aA:sE) (aB:Int) (aC:p8) (aD:p8) (aE:p8) (aF:Nat) (aG:p9) (aH:Int) (aI:Nat) (aJ:Nat) (aK:Nat) (aL:Nat) (aM:(pI×Unit)) (aN:Nat) (aO:Nat) (aP:(Option p9)) (aQ:Nat) (aR:(Option (List qG))) (aS:Nat) (aT:pG) (aU:pG)
abbrev a7X:List pX:=[(.val .ref (some (0,0)),none),(.val .str O,none),(.val (.int .i64) Z,none)]
abbrev a7Y:List pW:=[.cells sG (aA,(aB,((aC,(aD,(aE,((some (3,aF)),(aG,(aH,((some (4,aI)),()))))))),((some 5),((some 6),((aJ,0,(3,aK),(4,aL)),aM)))))) [(3,1),(15,2)],.grow 45 7 aN,.grow 3 1 aO,s7 9 .str aP aQ,s7 110 rV aR aS,.map .str .bool aT,.map .str .bool aU]
@[go_sem] def a7Z:qI:=let q:=val (HC aA aB aC aD aE aG aH aJ aM O Z aP aQ aR aS aT aU);⟨[aN=(aA.2.2.2.1.length),aO=(aM.1.length),aF=aQ,aI=aS,aK=aQ,aL=aS,((HC aA aB aC aD aE aG aH aJ aM O Z aP aQ aR aS aT aU)).isSome=true],[(.val (.int .i64) (q.1),none)],[.cells sG ((q.2.1,(q.2.2.1,(q.2.2.2.1,(q.2.2.2.2.1,())))),(q.2.2.2.2.2.1,((q.2.2.2.2.2.2.1,(q.2.2.2.2.2.2.2.1,(q.2.2.2.2.2.2.2.2.1,((some (7,q.2.2.2.2.2.2.2.2.2.2.2.2.2.2.2.1)),(q.2.2.2.2.2.2.2.2.2.1,(q.2.2.2.2.2.2.2.2.2.2.1,((some (8,q.2.2.2.2.2.2.2.2.2.2.2.2.2.2.2.2.2.1)),()))))))),((some 9),((some 6),((q.2.2.2.2.2.2.2.2.2.2.2.1,0,(7,q.2.2.2.2.2.2.2.2.2.2.2.2.2.2.2.1),(8,q.2.2.2.2.2.2.2.2.2.2.2.2.2.2.2.2.2.1)),(q.2.2.2.2.2.2.2.2.2.2.2.2.1,()))))))) [(3,1),(15,2)],.grow 45 7 ((q.2.2.2.2.1).length),.grow 3 1 ((q.2.2.2.2.2.2.2.2.2.2.2.2.1).length),.dead,.dead,.dead,.map .str .bool (q.2.2.2.2.2.2.2.2.2.2.2.2.2.1),s7 9 .str (q.2.2.2.2.2.2.2.2.2.2.2.2.2.2.1) (q.2.2.2.2.2.2.2.2.2.2.2.2.2.2.2.1),s7 110 rV (q.2.2.2.2.2.2.2.2.2.2.2.2.2.2.2.2.1) (q.2.2.2.2.2.2.2.2.2.2.2.2.2.2.2.2.2.1),.map .str .bool (q.2.2.2.2.2.2.2.2.2.2.2.2.2.2.2.2.2.2)]⟩
def aGu:List pX→List pW→Option qI:=rR (V:=(p8×Int×sE×Int×p8×p8×p8×Nat×p9×Int×Nat×Nat×Nat×Nat×(pI×Unit)×Nat×Nat×(Option p9)×Nat×(Option (List qG))×Nat×pG×pG)) (fun⟨O,Z,_,_,_,_,_,_,_,_,_,_,_,_,_,_,_,_,_,_,_,_,_⟩=>a7X O Z) (fun⟨_,_,aA,aB,aC,aD,aE,aF,aG,aH,aI,aJ,aK,aL,aM,aN,aO,aP,aQ,aR,aS,aT,aU⟩=>a7Y aA aB aC aD aE aF aG aH aI aJ aK aL aM aN aO aP aQ aR aS aT aU) fun⟨O,Z,aA,aB,aC,aD,aE,aF,aG,aH,aI,aJ,aK,aL,aM,aN,aO,aP,aQ,aR,aS,aT,aU⟩=>a7Z O Z aA aB aC aD aE aF aG aH aI aJ aK aL aM aN aO aP aQ aR aS aT aU
@[go_sem] def aRW:aGu (no_index (a7X O Z)) (no_index (a7Y aA aB aC aD aE aF aG aH aI aJ aK aL aM aN aO aP aQ aR aS aT aU))=some (a7Z O Z aA aB aC aD aE aF aG aH aI aJ aK aL aM aN aO aP aQ aR aS aT aU):=rS (fun⟨a0,a1,a2,a3,a4,a5,a6,a7,a8,a9,a10,a11,a12,a13,a14,a15,a16,a17,a18,a19,a20,a21,a22⟩ ⟨b0,b1,b2,b3,b4,b5,b6,b7,b8,b9,b10,b11,b12,b13,b14,b15,b16,b17,b18,b19,b20,b21,b22⟩ h1 h2=>by cases h1;injection h2 with p0 h2;injection h2 with p1 h2;injection h2 with p2 h2;injection h2 with p3 h2;injection h2 with p4 h2;injection h2 with p5 h2;injection h2 with p6 h2;obtain⟨q3,r3⟩:=A4 p3;cases q3;cases r3;obtain⟨q4,r4⟩:=A4 p4;cases q4;cases r4;cases p0;cases p1;cases p2;cases p5;cases p6;rfl) (O,Z,aA,aB,aC,aD,aE,aF,aG,aH,aI,aJ,aK,aL,aM,aN,aO,aP,aQ,aR,aS,aT,aU)
end
@[go_sem] abbrev RT:Nat×r7:=(56,⟨[.p sG [3,15],.v,.v],aGu,[(0,8,.r),(0,11,.r),(0,12,.m),(0,13,.m)],[],none⟩)
def aGv:qW prog [] (qY [B5,a6M,a5z,AZ,AW,AX,B4,B0,B1,B2,AY]):=⟨trivial,qK MC (qK aMZ (qK aML (qK LP (qK LK (qK LL (qK M2 (qK LY (qK LZ (qK M0 (qK LN rM)))))))))),r5⟩
def yD:qW prog [v8,uY,sB,AU,vA,wG,wC,GN] (qY [B5,a6M,a5z,AZ,AW,AX,B4,B0,B1,B2,AY]):=⟨⟨vM,⟨vI,⟨sC,⟨CG,⟨vN,⟨x9,⟨wM,⟨L9,trivial⟩⟩⟩⟩⟩⟩⟩⟩,aGv.Γ,r5⟩
def aGw:rD prog RT:=by
 refine rT aGv func56 (c:=_) rfl (N:=81) pQ (ts:=[(6,none)]) rfl (fun _ _=>rfl) ?_ (h3:=by intro _;repeat (first|exact trivial|refine IF rfl ?_ |refine ⟨rfl,?_⟩))
 intro⟨O,Z,aA,aB,aC,aD,aE,aF,aG,aH,aI,aJ,aK,aL,aM,aN,aO,aP,aQ,aR,aS,aT,aU⟩ hs hrow;dsimp only[a7X,a7Y,a7Z,rP,qQ,qV,r8,rQ,Nat.reduceAdd] at hs hrow|-;obtain⟨rfl,rfl,hps2,hps3,hps4,hps5,hz⟩:=hs;obtain rfl:=hps2.symm;obtain rfl:=hps3.symm;obtain rfl:=hps4.symm;obtain rfl:=hps5.symm;obtain⟨z0,d⟩:=aSn.1 hz
 try rw[rX d]
 clear hz;unfold HC at d;refine pV yD ?_;obtain⟨aV,hv1,hw1,d⟩:=rI d
 try simp only[go_sem] at hw1
 refine pV yD ?_ (hp:=by exact(rH hv1)) (h:=by simp only[go_sem,hw1];rfl);refine qD (rN (pV yD ?_));refine qE d ?_ ?_<;>intro d Y
 .refine pV yD ?_;refine qC (r9 (qP ?_));cases d;exact pB [(0,0),(1,1),(2,2),(6,6),(7,3),(8,4),(9,5)]
 obtain⟨X,d⟩:=q8 d;refine pV yD ?_ (hp:=by exact X);refine qE d ?_ ?_<;>intro d Y
 .obtain⟨aW,hv3,hw3,d⟩:=rI d
  try simp only[go_sem] at hw3
  refine pV yD ?_ (hp:=by exact⟨pP,pP,pP,pP,pP,pP,pP,pP,pP,pP,(rH hv3)⟩) (h:=by simp only[go_sem,hw3];rfl)
  refine qC (r9 (qP ?_));cases d;exact pB [(0,0),(1,1),(2,2),(6,6),(7,3),(8,4),(9,5)]
 refine qM (rL (q9 (pV yD ?_)));refine qD (pV yD ?_ (hp:=by exact⟨id,id,id,id,tP⟩));refine qE d ?_ ?_<;>intro d Y
 .refine qD (yY 0 (0,(3,aQ),(4,aS)) (x2:=(aA,(aB,((aC,(aD,(aE,((some (3,aQ)),(aG,(aH,((some (4,aS)),()))))))),((some 5),((some 6),((0,0,(3,aQ),(4,aS)),aM))))))) rfl pS ?_)
  obtain⟨aX,hv4,hw4,d⟩:=rI d
  try simp only[go_sem] at hw4
  refine qZ yD ?_ (hp:=by exact⟨pP,pP,pP,pP,pP,pP,pP,pP,(rH hv4)⟩) (h:=by simp only[go_sem,hw4];rfl)
  refine q9 (qC (qP ?_));cases d;exact pB [(0,0),(1,1),(2,2),(6,6),(7,1102),(8,1103),(9,1104)]
 refine qM (q9 (qD ?_));obtain⟨W,d⟩:=q8 d;refine pV yD ?_ (hp:=by exact W);refine qE d ?_ ?_<;>intro d Y
 .refine qD (yY 0 (0,(3,aQ),(4,aS)) (x2:=(aA,(aB,((aC,(aD,(aE,((some (3,aQ)),(aG,(aH,((some (4,aS)),()))))))),((some 5),((some 6),((0,0,(3,aQ),(4,aS)),aM))))))) rfl pS ?_)
  obtain⟨aY,hal6,hAhal6⟩:=A5 d;subst hal6;obtain⟨aZ,hal7,hAhal7⟩:=A5 hAhal6;subst hal7;rw[show s7 9 .str (some aY:Option p9) aQ= .row 9 .str aY aQ from rfl];rw[show s7 110 rV (some aZ:Option (List qG)) aS= .row 110 rV aZ aS from rfl];refine A6 3 rfl fun hln=>?_;subst hln;refine A6 4 rfl fun hln=>?_;subst hln;have d:=hAhal7;obtain⟨V,d⟩:=q8 d;obtain⟨bA,hv9,hw9,d⟩:=rI d
  try simp only[go_sem] at hw9
  refine qZ yD ?_ (hp:=by exact⟨V,pP,pP,pP,pP,pP,pP,pP,pP,(rH hv9)⟩) (h:=by simp only[go_sem,hw9];rfl)
  refine q9 (qC (qP ?_));cases d;exact pB [(0,0),(1,1),(2,2),(6,6),(7,3),(8,1326),(9,5)]
 refine qM (q9 ?_);obtain⟨U,d⟩:=q8 d;obtain⟨bB,hw_89,d⟩:=QN d
 try simp only[go_sem] at hw_89
 refine pV yD ?_ (hp:=by exact U) (h:=by simp only[go_sem,hw_89];rfl);refine qD (pV yD ?_ (hp:=by exact⟨id,id,id,id,id,id,id,fun hG e=>IB hG e,tP⟩));refine qE d ?_ ?_<;>intro d Y
 .refine pV yD ?_;refine yY 0 (0,(3,aQ),(4,aS)) (x2:=(aA,(aB,((aC,(aD,(aE,((some (3,aQ)),(aG,(aH,((some (4,aS)),()))))))),((some 5),((some 6),((0,0,(3,aQ),(4,aS)),aM))))))) rfl pS ?_
  refine qC (qP ?_);cases d;exact pB [(0,0),(1,1),(2,2),(6,6),(7,3),(8,4),(9,5)]
 refine qM (q9 (qD ?_));replace d:=a1e d;generalize bB.1=bC at d|-;by_cases hfn:bC=some 117
 .subst hfn;rw[aSj rfl] at d;refine yY 0 (0,(3,aQ),(4,aS)) (x2:=(aA,(aB,((aC,(aD,(aE,((some (3,aQ)),(aG,(aH,((some (4,aS)),()))))))),((some 5),((some 6),((0,0,(3,aQ),(4,aS)),aM))))))) rfl pS ?_
  obtain⟨bD,hal11,hAhal11⟩:=A5 d;subst hal11;obtain⟨bE,hal12,hAhal12⟩:=A5 hAhal11;subst hal12;rw[show s7 9 .str (some bD:Option p9) aQ= .row 9 .str bD aQ from rfl];rw[show s7 110 rV (some bE:Option (List qG)) aS= .row 110 rV bE aS from rfl];refine A6 3 rfl fun hln=>?_;subst hln;refine A6 4 rfl fun hln=>?_;subst hln;have d:=hAhal12;obtain⟨T,d⟩:=q8 d;obtain⟨bF,hv14,hw14,d⟩:=rI d
  try simp only[go_sem] at hw14
  refine qZ yD ?_ (hp:=by exact⟨T,pP,pP,pP,pP,pP,pP,pP,pP,pP,pP,pP,(rH hv14)⟩) (h:=by simp only[go_sem,hw14];rfl)
  refine q9 (qC ?_);cases d;exact pB [(0,0),(1,1),(2,2),(6,6),(7,3),(8,4),(9,5)]
 rw[aSl hfn] at d;clear hfn;by_cases hfn:bC=some 118
 .subst hfn;rw[aSj rfl] at d;refine yY 0 (0,(3,aQ),(4,aS)) (x2:=(aA,(aB,((aC,(aD,(aE,((some (3,aQ)),(aG,(aH,((some (4,aS)),()))))))),((some 5),((some 6),((0,0,(3,aQ),(4,aS)),aM))))))) rfl pS ?_
  obtain⟨bG,hal15,hAhal15⟩:=A5 d;subst hal15;obtain⟨bH,hal16,hAhal16⟩:=A5 hAhal15;subst hal16;rw[show s7 9 .str (some bG:Option p9) aQ= .row 9 .str bG aQ from rfl];rw[show s7 110 rV (some bH:Option (List qG)) aS= .row 110 rV bH aS from rfl];refine A6 3 rfl fun hln=>?_;subst hln;refine A6 4 rfl fun hln=>?_;subst hln;have d:=hAhal16;obtain⟨S,d⟩:=q8 d;obtain⟨bI,hv18,hw18,d⟩:=rI d
  try simp only[go_sem] at hw18
  refine qZ yD ?_ (hp:=by exact⟨S,pP,pP,pP,pP,pP,pP,pP,pP,pP,pP,pP,(rH hv18)⟩) (h:=by simp only[go_sem,hw18];rfl)
  refine q9 (qC ?_);cases d;exact pB [(0,0),(1,1),(2,2),(6,6),(7,3),(8,4),(9,5)]
 rw[aSl hfn] at d;clear hfn;by_cases hfn:bC=some 119
 .subst hfn;rw[aSj rfl] at d;refine yY 0 (0,(3,aQ),(4,aS)) (x2:=(aA,(aB,((aC,(aD,(aE,((some (3,aQ)),(aG,(aH,((some (4,aS)),()))))))),((some 5),((some 6),((0,0,(3,aQ),(4,aS)),aM))))))) rfl pS ?_
  obtain⟨bJ,hal19,hAhal19⟩:=A5 d;subst hal19;obtain⟨bK,hal20,hAhal20⟩:=A5 hAhal19;subst hal20;rw[show s7 9 .str (some bJ:Option p9) aQ= .row 9 .str bJ aQ from rfl];rw[show s7 110 rV (some bK:Option (List qG)) aS= .row 110 rV bK aS from rfl];refine A6 3 rfl fun hln=>?_;subst hln;refine A6 4 rfl fun hln=>?_;subst hln;have d:=hAhal20;obtain⟨R,d⟩:=q8 d;obtain⟨bM,hv22,hw22,d⟩:=rI d
  try simp only[go_sem] at hw22
  refine qZ yD ?_ (hp:=by exact⟨R,pP,pP,pP,pP,pP,pP,pP,pP,pP,pP,pP,(rH hv22)⟩) (h:=by simp only[go_sem,hw22];rfl)
  refine q9 (qC ?_);cases d;exact pB [(0,0),(1,1),(2,2),(6,6),(7,3),(8,4),(9,5)]
 rw[aSl hfn] at d;clear hfn;by_cases hfn:bC=some 120
 .subst hfn;rw[aSj rfl] at d;refine yY 0 (0,(3,aQ),(4,aS)) (x2:=(aA,(aB,((aC,(aD,(aE,((some (3,aQ)),(aG,(aH,((some (4,aS)),()))))))),((some 5),((some 6),((0,0,(3,aQ),(4,aS)),aM))))))) rfl pS ?_
  obtain⟨bN,hal23,hAhal23⟩:=A5 d;subst hal23;obtain⟨bO,hal24,hAhal24⟩:=A5 hAhal23;subst hal24;rw[show s7 9 .str (some bN:Option p9) aQ= .row 9 .str bN aQ from rfl];rw[show s7 110 rV (some bO:Option (List qG)) aS= .row 110 rV bO aS from rfl];refine A6 3 rfl fun hln=>?_;subst hln;refine A6 4 rfl fun hln=>?_;subst hln;have d:=hAhal24;obtain⟨Q,d⟩:=q8 d;obtain⟨bP,hv26,hw26,d⟩:=rI d
  try simp only[go_sem] at hw26
  refine qZ yD ?_ (hp:=by exact⟨Q,pP,pP,pP,pP,pP,pP,pP,pP,pP,pP,pP,(rH hv26)⟩) (h:=by simp only[go_sem,hw26];rfl)
  refine q9 (qC ?_);cases d;exact pB [(0,0),(1,1),(2,2),(6,6),(7,3),(8,4),(9,5)]
 rw[aSl hfn] at d;clear hfn;by_cases hfn:bC=some 121
 .subst hfn;rw[aSj rfl] at d;refine yY 0 (0,(3,aQ),(4,aS)) (x2:=(aA,(aB,((aC,(aD,(aE,((some (3,aQ)),(aG,(aH,((some (4,aS)),()))))))),((some 5),((some 6),((0,0,(3,aQ),(4,aS)),aM))))))) rfl pS ?_
  obtain⟨bQ,hal27,hAhal27⟩:=A5 d;subst hal27;obtain⟨bR,hal28,hAhal28⟩:=A5 hAhal27;subst hal28;rw[show s7 9 .str (some bQ:Option p9) aQ= .row 9 .str bQ aQ from rfl];rw[show s7 110 rV (some bR:Option (List qG)) aS= .row 110 rV bR aS from rfl];refine A6 3 rfl fun hln=>?_;subst hln;refine A6 4 rfl fun hln=>?_;subst hln;have d:=hAhal28;obtain⟨P,d⟩:=q8 d;obtain⟨bS,hv30,hw30,d⟩:=rI d
  try simp only[go_sem] at hw30
  refine qZ yD ?_ (hp:=by exact⟨P,pP,pP,pP,pP,pP,pP,pP,pP,pP,pP,pP,(rH hv30)⟩) (h:=by simp only[go_sem,hw30];rfl)
  refine q9 (qC ?_);cases d;exact pB [(0,0),(1,1),(2,2),(6,6),(7,3),(8,4),(9,5)]
 rw[aSl hfn] at d;clear hfn;by_cases hfn:bC=some 122
 .subst hfn;rw[aSj rfl] at d;refine yY 0 (0,(3,aQ),(4,aS)) (x2:=(aA,(aB,((aC,(aD,(aE,((some (3,aQ)),(aG,(aH,((some (4,aS)),()))))))),((some 5),((some 6),((0,0,(3,aQ),(4,aS)),aM))))))) rfl pS ?_
  obtain⟨bT,hal31,hAhal31⟩:=A5 d;subst hal31;obtain⟨bU,hal32,hAhal32⟩:=A5 hAhal31;subst hal32;rw[show s7 9 .str (some bT:Option p9) aQ= .row 9 .str bT aQ from rfl];rw[show s7 110 rV (some bU:Option (List qG)) aS= .row 110 rV bU aS from rfl];refine A6 3 rfl fun hln=>?_;subst hln;refine A6 4 rfl fun hln=>?_;subst hln;have d:=hAhal32;obtain⟨M,d⟩:=q8 d;obtain⟨bV,hv34,hw34,d⟩:=rI d
  try simp only[go_sem] at hw34
  refine qZ yD ?_ (hp:=by exact⟨M,pP,pP,pP,pP,pP,pP,pP,pP,pP,pP,pP,(rH hv34)⟩) (h:=by simp only[go_sem,hw34];rfl)
  refine q9 (qC ?_);cases d;exact pB [(0,0),(1,1),(2,2),(6,6),(7,3),(8,4),(9,5)]
 rw[aSl hfn] at d;clear hfn;cases d
attribute [irreducible] HC
end
noncomputable section
def B6 (O:sE) (Z:Int) (aA:p8) (aB:p8) (aC:p8) (aD:p9) (aE:Int) (aF:(pI×Unit)) (aG:p8) (aH:Int) (aI:(Option p9)) (aJ:Nat) (aK:(Option (List qG))) (aL:Nat) (aM:pG):Option (p8×Int×p8×pG):=(H9 aG).bind fun aN=>if (!aN.2)=true then none else if 0≤(0:Int)∧(0:Int)<(aN.1.length:Int) then if (qH qO aN.1 (0:Int)).1=true then (LU O Z aA aB aC aD aE aF aN.1 aI aJ aK aL aM).bind fun aO=>none else if ((decide (Z=(0:Int)))||(decide (Z=(2:Int))))=true then if ((D6 O Z aA aB aC aD aE aF aN.1 aI aJ aK aL aM)).isSome=true then (D6 O Z aA aB aC aD aE aF aN.1 aI aJ aK aL aM).bind fun aP=>some ((aP.1,aP.2.1,aP.2.2.1,aP.2.2.2)) else (J4 O Z aA aB aC aD aE aF aN.1 aI aJ aK aL aM).bind fun aQ=>none else if 0≤(0:Int)∧(0:Int)<(aN.1.length:Int) then if (decide ((qH qO aN.1 (0:Int)).2.1=([101,110,100]:p8)))=true then none else if 0≤(0:Int)∧(0:Int)<(aN.1.length:Int) then AS (FB ((qH qO aN.1 (0:Int)).2.1)) fun aR=>if ((yQ aR.1)||((decide (Z=(1:Int)))&&(!aR.2)))=true then none else AS aR.1 fun aS=>if aS=some 117 then none else if aS=some 118 then none else if aS=some 119 then none else if aS=some 120 then none else if aS=some 121 then none else if aS=some 122 then none else none else none else none else none
section
variable (O:p8) (Z:Int) (aA:sE) (aB:Int) (aC:p8) (aD:p8) (aE:p8) (aF:Nat) (aG:p9) (aH:Int) (aI:Nat) (aJ:Nat) (aK:Nat) (aL:(pI×Unit)) (aM:Nat) (aN:Nat) (aO:(Option p9)) (aP:Nat) (aQ:(Option (List qG))) (aR:Nat) (aS:pG)
abbrev X0:List pX:=[(.val .ref (some (0,0)),none),(.val .str O,none),(.val (.int .i64) Z,none)]
abbrev a71:List pW:=[.cells sG (aA,(aB,((aC,(aD,(aE,((some (3,aF)),(aG,(aH,((some (4,aI)),()))))))),(none,((some 5),((0,0,(3,aJ),(4,aK)),aL)))))) [(3,1),(15,2)],.grow 45 7 aM,.grow 3 1 aN,s7 9 .str aO aP,s7 110 rV aQ aR,.map .str .bool aS]
@[go_sem] def X1:qI:=let q:=val (B6 aA aB aC aD aE aG aH aL O Z aO aP aQ aR aS);⟨[aM=(aA.2.2.2.1.length),aN=(aL.1.length),aF=aP,aI=aR,aJ=aP,aK=aR,((B6 aA aB aC aD aE aG aH aL O Z aO aP aQ aR aS)).isSome=true],[(.val (.int .i64) (0:Int),none)],[.cells sG ((q.1,(aA.2.1,(aA.2.2.1,(aA.2.2.2.1,())))),(q.2.1,((q.2.2.1,(([]:p8),(([]:p8),((some (6,0)),(([]:p9),((0:Int),((some (7,0)),()))))))),((some 8),((some 5),((0,0,(6,0),(7,0)),(aL.1,()))))))) [(3,1),(9,9),(15,2)],.grow 45 7 (aA.2.2.2.1.length),.grow 3 1 (aL.1.length),s7 9 .str aO aP,s7 110 rV aQ aR,.map .str .bool (q.2.2.2),.row 9 .str ([]:p9) 0,.row 110 rV ([]:List qG) 0,.map .str .bool ([]:pG),.grow 9 1 (([]:p9).length)]⟩
def a73:List pX→List pW→Option qI:=rR (V:=(p8×Int×sE×Int×p8×p8×p8×Nat×p9×Int×Nat×Nat×Nat×(pI×Unit)×Nat×Nat×(Option p9)×Nat×(Option (List qG))×Nat×pG)) (fun⟨O,Z,_,_,_,_,_,_,_,_,_,_,_,_,_,_,_,_,_,_,_⟩=>X0 O Z) (fun⟨_,_,aA,aB,aC,aD,aE,aF,aG,aH,aI,aJ,aK,aL,aM,aN,aO,aP,aQ,aR,aS⟩=>a71 aA aB aC aD aE aF aG aH aI aJ aK aL aM aN aO aP aQ aR aS) fun⟨O,Z,aA,aB,aC,aD,aE,aF,aG,aH,aI,aJ,aK,aL,aM,aN,aO,aP,aQ,aR,aS⟩=>X1 O Z aA aB aC aD aE aF aG aH aI aJ aK aL aM aN aO aP aQ aR aS
@[go_sem] def aNi:a73 (no_index (X0 O Z)) (no_index (a71 aA aB aC aD aE aF aG aH aI aJ aK aL aM aN aO aP aQ aR aS))=some (X1 O Z aA aB aC aD aE aF aG aH aI aJ aK aL aM aN aO aP aQ aR aS):=rS (fun⟨a0,a1,a2,a3,a4,a5,a6,a7,a8,a9,a10,a11,a12,a13,a14,a15,a16,a17,a18,a19,a20⟩ ⟨b0,b1,b2,b3,b4,b5,b6,b7,b8,b9,b10,b11,b12,b13,b14,b15,b16,b17,b18,b19,b20⟩ h1 h2=>by cases h1;injection h2 with p0 h2;injection h2 with p1 h2;injection h2 with p2 h2;injection h2 with p3 h2;injection h2 with p4 h2;injection h2 with p5 h2;obtain⟨q3,r3⟩:=A4 p3;cases q3;cases r3;obtain⟨q4,r4⟩:=A4 p4;cases q4;cases r4;cases p0;cases p1;cases p2;cases p5;rfl) (O,Z,aA,aB,aC,aD,aE,aF,aG,aH,aI,aJ,aK,aL,aM,aN,aO,aP,aQ,aR,aS)
end
@[go_sem] def aRX (O:p8) (Z:Int) (aA:sE) (aB:Int) (aC:p8) (aD:p8) (aE:p8) (aF:Nat) (aG:p9) (aH:Int) (aI:Nat) (aJ:Nat) (aK:Nat) (aL:(pI×Unit)) (aM:Nat) (aN:Nat) (aO:p9) (aP:Nat) (aQ:List qG) (aR:Nat) (aS:pG):a73 (no_index (X0 O Z)) (no_index ([.cells sG (aA,(aB,((aC,(aD,(aE,((some (3,aF)),(aG,(aH,((some (4,aI)),()))))))),(none,((some 5),((0,0,(3,aJ),(4,aK)),aL)))))) [(3,1),(15,2)],.grow 45 7 aM,.grow 3 1 aN,.row 9 .str aO aP,.row 110 rV aQ aR,.map .str .bool aS]:List pW))=some (X1 O Z aA aB aC aD aE aF aG aH aI aJ aK aL aM aN (some aO) aP (some aQ) aR aS):=aNi O Z aA aB aC aD aE aF aG aH aI aJ aK aL aM aN (some aO) aP (some aQ) aR aS
@[go_sem] abbrev RU:Nat×r7:=(56,⟨[.p sG [3,15],.v,.v],a73,[(0,8,.r),(0,11,.r),(0,13,.m)],[1,2,3,4],none⟩)
def aGx:qW prog [] (qY [B5,CO,H3,AZ,AW,AX,B4,B0,B1,B2,AY]):=⟨trivial,qK MC (qK OD (qK WW (qK LP (qK LK (qK LL (qK M2 (qK LY (qK LZ (qK M0 (qK LN rM)))))))))),r5⟩
def EA:qW prog [v8,uY,sB,AU,vA,wG,wC,GN] (qY [B5,CO,H3,AZ,AW,AX,B4,B0,B1,B2,AY]):=⟨⟨vM,⟨vI,⟨sC,⟨CG,⟨vN,⟨x9,⟨wM,⟨L9,trivial⟩⟩⟩⟩⟩⟩⟩⟩,aGx.Γ,r5⟩
def aR3:qW prog [] (qY [B5,CO,H3,AZ,AW,AX,B4,B0,B1,B2,AY]):=⟨trivial,qK MC (qK OD (qK WW (qK LP (qK LK (qK LL (qK M2 (qK LY (qK LZ (qK M0 (qK LN rM)))))))))),r5⟩
def aG7:qW prog [v8,uY,sB,AU,vA,wG,wC,GN] (qY [B5,CO,H3,AZ,AW,AX,B4,B0,B1,B2,AY]):=⟨⟨vM,⟨vI,⟨sC,⟨CG,⟨vN,⟨x9,⟨wM,⟨L9,trivial⟩⟩⟩⟩⟩⟩⟩⟩,aR3.Γ,r5⟩
def aR4:qW prog [] (qY [B5,CO,RJ,AZ,AW,AX,B4,B0,B1,B2,AY]):=⟨trivial,qK MC (qK OD (qK aFe (qK LP (qK LK (qK LL (qK M2 (qK LY (qK LZ (qK M0 (qK LN rM)))))))))),r5⟩
def aR5:qW prog [v8,uY,sB,AU,vA,wG,wC,GN] (qY [B5,CO,RJ,AZ,AW,AX,B4,B0,B1,B2,AY]):=⟨⟨vM,⟨vI,⟨sC,⟨CG,⟨vN,⟨x9,⟨wM,⟨L9,trivial⟩⟩⟩⟩⟩⟩⟩⟩,aR4.Γ,r5⟩
def aGy:rD prog RU:=by
 refine rT aGx func56 (c:=_) rfl (N:=81) pQ (ts:=[(6,none)]) rfl (fun _ _=>rfl) ?_ (h3:=by intro _;repeat (first|exact trivial|refine IF rfl ?_ |refine ⟨rfl,?_⟩))
 intro⟨O,Z,aA,aB,aC,aD,aE,aF,aG,aH,aI,aJ,aK,aL,aM,aN,aO,aP,aQ,aR,aS⟩ hs hrow;dsimp only[X0,a71,X1,rP,qQ,qV,r8,rQ,Nat.reduceAdd] at hs hrow|-;obtain⟨rfl,rfl,hps2,hps3,hps4,hps5,hz⟩:=hs;obtain rfl:=hps2.symm;obtain rfl:=hps3.symm;obtain rfl:=hps4.symm;obtain rfl:=hps5.symm;obtain⟨z0,d⟩:=aSn.1 hz
 try rw[rX d]
 clear hz;unfold B6 at d;refine pV EA ?_;obtain⟨aT,hv1,hw1,d⟩:=rI d
 try simp only[go_sem] at hw1
 refine pV EA ?_ (hp:=by exact(rH hv1)) (h:=by simp only[go_sem,hw1];rfl);refine qD (rN (pV EA ?_));refine qE d ?_ ?_<;>intro d Y
 .refine qD (qZ EA ?_);cases d
 obtain⟨X,d⟩:=q8 d;refine pV EA ?_ (hp:=by exact X);refine qE d ?_ ?_<;>intro d Y
 .refine qD ?_;obtain⟨aU,hv3,hw3,d⟩:=rI d
  try simp only[go_sem] at hw3
  refine qZ aG7 ?_ (hp:=by exact⟨pP,pP,pP,pP,pP,pP,pP,pP,pP,pP,pP,(rH hv3)⟩) (h:=by simp only[go_sem,hw3];rfl)
  cases d
 refine qM (rL (q9 (pV EA ?_)));refine qD (pV EA ?_ (hp:=by exact⟨id,id,id,id,tP⟩));refine qE d ?_ ?_<;>intro d Y
 .refine qD (yY 0 (0,(3,aP),(4,aR)) (x2:=(aA,(aB,((aC,(aD,(aE,((some (3,aP)),(aG,(aH,((some (4,aR)),()))))))),(none,((some 5),((0,0,(3,aP),(4,aR)),aL))))))) rfl pS ?_)
  by_cases hva4:((D6 aA aB aC aD aE aG aH aL aT.1 aO aP aQ aR aS)).isSome=true
  .rw[aSj hva4] at d;obtain⟨aV,hv4,hw4,d⟩:=rI d
   try simp only[go_sem] at hw4
   refine qZ aG7 ?_ (hp:=by exact⟨pP,pP,pP,pP,pP,pP,pP,pP,pP,pP,(rH hv4)⟩) (h:=by simp only[go_sem,hw4];rfl)
   refine q9 (qC (qP ?_));cases d;exact pB [(0,0),(1,1),(2,2),(3,3),(4,4),(5,5),(6,1100),(7,1101),(8,1102),(9,1103)]
  rw[aSl hva4] at d;obtain⟨aW,hv5,hw5,d⟩:=rI d
  try simp only[go_sem] at hw5
  refine qZ aR5 ?_ (hp:=by exact⟨pP,pP,pP,pP,pP,pP,pP,pP,pP,pP,pP,(rH hv5)⟩) (h:=by simp only[go_sem,hw5];rfl)
  cases d
 refine qM (q9 (qD ?_));obtain⟨W,d⟩:=q8 d;refine pV EA ?_ (hp:=by exact W);refine qE d ?_ ?_<;>intro d Y
 .cases d
 refine qM (q9 ?_);obtain⟨V,d⟩:=q8 d;obtain⟨aX,hw_46,d⟩:=QN d
 try simp only[go_sem] at hw_46
 refine pV EA ?_ (hp:=by exact V) (h:=by simp only[go_sem,hw_46];rfl);refine qD (pV EA ?_ (hp:=by exact⟨id,id,id,id,id,id,id,fun hG e=>IB hG e,tP⟩));refine qE d ?_ ?_<;>intro d Y
 .refine qD (qZ EA ?_);cases d
 refine qM (q9 (qD ?_));replace d:=a1e d;generalize aX.1=aY at d|-;by_cases hfn:aY=some 117
 .subst hfn;rw[aSj rfl] at d;cases d
 rw[aSl hfn] at d;clear hfn;by_cases hfn:aY=some 118
 .subst hfn;rw[aSj rfl] at d;cases d
 rw[aSl hfn] at d;clear hfn;by_cases hfn:aY=some 119
 .subst hfn;rw[aSj rfl] at d;cases d
 rw[aSl hfn] at d;clear hfn;by_cases hfn:aY=some 120
 .subst hfn;rw[aSj rfl] at d;cases d
 rw[aSl hfn] at d;clear hfn;by_cases hfn:aY=some 121
 .subst hfn;rw[aSj rfl] at d;cases d
 rw[aSl hfn] at d;clear hfn;by_cases hfn:aY=some 122
 .subst hfn;rw[aSj rfl] at d;cases d
 rw[aSl hfn] at d;clear hfn;cases d
attribute [irreducible] B6
end
noncomputable section
def FG (O:sE) (Z:Int) (aA:p8) (aB:p8) (aC:p8) (aD:p9) (aE:Int) (aF:(pI×Unit)) (aG:p8) (aH:Int) (aI:(Option p9)) (aJ:Nat) (aK:(Option (List qG))) (aL:Nat) (aM:pG):Option Int:=(H9 aG).bind fun aN=>if (!aN.2)=true then some ((3:Int)) else if 0≤(0:Int)∧(0:Int)<(aN.1.length:Int) then if (qH qO aN.1 (0:Int)).1=true then (LU O Z aA aB aC aD aE aF aN.1 aI aJ aK aL aM).bind fun aO=>some (aO) else if ((decide (Z=(0:Int)))||(decide (Z=(2:Int))))=true then if ((D6 O Z aA aB aC aD aE aF aN.1 aI aJ aK aL aM)).isSome=true then (D6 O Z aA aB aC aD aE aF aN.1 aI aJ aK aL aM).bind fun aP=>none else (J4 O Z aA aB aC aD aE aF aN.1 aI aJ aK aL aM).bind fun aQ=>some (aQ) else if 0≤(0:Int)∧(0:Int)<(aN.1.length:Int) then if (decide ((qH qO aN.1 (0:Int)).2.1=([101,110,100]:p8)))=true then none else if 0≤(0:Int)∧(0:Int)<(aN.1.length:Int) then AS (FB ((qH qO aN.1 (0:Int)).2.1)) fun aR=>if ((yQ aR.1)||((decide (Z=(1:Int)))&&(!aR.2)))=true then some ((3:Int)) else AS aR.1 fun aS=>if aS=some 117 then none else if aS=some 118 then none else if aS=some 119 then none else if aS=some 120 then none else if aS=some 121 then none else if aS=some 122 then none else none else none else none else none
section
variable (O:p8) (Z:Int) (aA:sE) (aB:Int) (aC:p8) (aD:p8) (aE:p8) (aF:Nat) (aG:p9) (aH:Int) (aI:Nat) (aJ:Nat) (aK:Nat) (aL:(pI×Unit)) (aM:Nat) (aN:Nat) (aO:(Option p9)) (aP:Nat) (aQ:(Option (List qG))) (aR:Nat) (aS:pG)
abbrev X2:List pX:=[(.val .ref (some (0,0)),none),(.val .str O,none),(.val (.int .i64) Z,none)]
abbrev a74:List pW:=[.cells sG (aA,(aB,((aC,(aD,(aE,((some (3,aF)),(aG,(aH,((some (4,aI)),()))))))),(none,((some 5),((0,0,(3,aJ),(4,aK)),aL)))))) [(3,1),(15,2)],.grow 45 7 aM,.grow 3 1 aN,s7 9 .str aO aP,s7 110 rV aQ aR,.map .str .bool aS]
@[go_sem] def X3:qI:=⟨[aM=(aA.2.2.2.1.length),aN=(aL.1.length),aF=aP,aI=aR,aJ=aP,aK=aR,((FG aA aB aC aD aE aG aH aL O Z aO aP aQ aR aS)).isSome=true],[(.val (.int .i64) (val (FG aA aB aC aD aE aG aH aL O Z aO aP aQ aR aS)),none)],[.cells sG ((aA.1,(aA.2.1,(aA.2.2.1,(aA.2.2.2.1,())))),(aB,((aC,(aD,(aE,((some (3,aP)),(aG,(aH,((some (4,aR)),()))))))),(none,((some 5),((0,0,(3,aP),(4,aR)),(aL.1,()))))))) [(3,1),(15,2)],.grow 45 7 (aA.2.2.2.1.length),.grow 3 1 (aL.1.length),s7 9 .str aO aP,s7 110 rV aQ aR,.map .str .bool aS]⟩
def a75:List pX→List pW→Option qI:=rR (V:=(p8×Int×sE×Int×p8×p8×p8×Nat×p9×Int×Nat×Nat×Nat×(pI×Unit)×Nat×Nat×(Option p9)×Nat×(Option (List qG))×Nat×pG)) (fun⟨O,Z,_,_,_,_,_,_,_,_,_,_,_,_,_,_,_,_,_,_,_⟩=>X2 O Z) (fun⟨_,_,aA,aB,aC,aD,aE,aF,aG,aH,aI,aJ,aK,aL,aM,aN,aO,aP,aQ,aR,aS⟩=>a74 aA aB aC aD aE aF aG aH aI aJ aK aL aM aN aO aP aQ aR aS) fun⟨O,Z,aA,aB,aC,aD,aE,aF,aG,aH,aI,aJ,aK,aL,aM,aN,aO,aP,aQ,aR,aS⟩=>X3 O Z aA aB aC aD aE aF aG aH aI aJ aK aL aM aN aO aP aQ aR aS
@[go_sem] def aNj:a75 (no_index (X2 O Z)) (no_index (a74 aA aB aC aD aE aF aG aH aI aJ aK aL aM aN aO aP aQ aR aS))=some (X3 O Z aA aB aC aD aE aF aG aH aI aJ aK aL aM aN aO aP aQ aR aS):=rS (fun⟨a0,a1,a2,a3,a4,a5,a6,a7,a8,a9,a10,a11,a12,a13,a14,a15,a16,a17,a18,a19,a20⟩ ⟨b0,b1,b2,b3,b4,b5,b6,b7,b8,b9,b10,b11,b12,b13,b14,b15,b16,b17,b18,b19,b20⟩ h1 h2=>by cases h1;injection h2 with p0 h2;injection h2 with p1 h2;injection h2 with p2 h2;injection h2 with p3 h2;injection h2 with p4 h2;injection h2 with p5 h2;obtain⟨q3,r3⟩:=A4 p3;cases q3;cases r3;obtain⟨q4,r4⟩:=A4 p4;cases q4;cases r4;cases p0;cases p1;cases p2;cases p5;rfl) (O,Z,aA,aB,aC,aD,aE,aF,aG,aH,aI,aJ,aK,aL,aM,aN,aO,aP,aQ,aR,aS)
end
@[go_sem] def aRY (O:p8) (Z:Int) (aA:sE) (aB:Int) (aC:p8) (aD:p8) (aE:p8) (aF:Nat) (aG:p9) (aH:Int) (aI:Nat) (aJ:Nat) (aK:Nat) (aL:(pI×Unit)) (aM:Nat) (aN:Nat) (aO:p9) (aP:Nat) (aQ:List qG) (aR:Nat) (aS:pG):a75 (no_index (X2 O Z)) (no_index ([.cells sG (aA,(aB,((aC,(aD,(aE,((some (3,aF)),(aG,(aH,((some (4,aI)),()))))))),(none,((some 5),((0,0,(3,aJ),(4,aK)),aL)))))) [(3,1),(15,2)],.grow 45 7 aM,.grow 3 1 aN,.row 9 .str aO aP,.row 110 rV aQ aR,.map .str .bool aS]:List pW))=some (X3 O Z aA aB aC aD aE aF aG aH aI aJ aK aL aM aN (some aO) aP (some aQ) aR aS):=aNj O Z aA aB aC aD aE aF aG aH aI aJ aK aL aM aN (some aO) aP (some aQ) aR aS
@[go_sem] abbrev RV:Nat×r7:=(56,⟨[.p sG [3,15],.v,.v],a75,[(0,8,.r),(0,11,.r),(0,13,.m)],[1,2,3,4,5],none⟩)
def aGz:qW prog [] (qY [B5,CO,H3,AZ,AW,AX,B4,B0,B1,B2,AY]):=⟨trivial,qK MC (qK OD (qK WW (qK LP (qK LK (qK LL (qK M2 (qK LY (qK LZ (qK M0 (qK LN rM)))))))))),r5⟩
def EB:qW prog [v8,uY,sB,AU,vA,wG,wC,GN] (qY [B5,CO,H3,AZ,AW,AX,B4,B0,B1,B2,AY]):=⟨⟨vM,⟨vI,⟨sC,⟨CG,⟨vN,⟨x9,⟨wM,⟨L9,trivial⟩⟩⟩⟩⟩⟩⟩⟩,aGz.Γ,r5⟩
def aR6:qW prog [] (qY [B5,CO,H3,AZ,AW,AX,B4,B0,B1,B2,AY]):=⟨trivial,qK MC (qK OD (qK WW (qK LP (qK LK (qK LL (qK M2 (qK LY (qK LZ (qK M0 (qK LN rM)))))))))),r5⟩
def aK8:qW prog [v8,uY,sB,AU,vA,wG,wC,GN] (qY [B5,CO,H3,AZ,AW,AX,B4,B0,B1,B2,AY]):=⟨⟨vM,⟨vI,⟨sC,⟨CG,⟨vN,⟨x9,⟨wM,⟨L9,trivial⟩⟩⟩⟩⟩⟩⟩⟩,aR6.Γ,r5⟩
def aR7:qW prog [] (qY [B5,CO,RJ,AZ,AW,AX,B4,B0,B1,B2,AY]):=⟨trivial,qK MC (qK OD (qK aFe (qK LP (qK LK (qK LL (qK M2 (qK LY (qK LZ (qK M0 (qK LN rM)))))))))),r5⟩
def aR8:qW prog [v8,uY,sB,AU,vA,wG,wC,GN] (qY [B5,CO,RJ,AZ,AW,AX,B4,B0,B1,B2,AY]):=⟨⟨vM,⟨vI,⟨sC,⟨CG,⟨vN,⟨x9,⟨wM,⟨L9,trivial⟩⟩⟩⟩⟩⟩⟩⟩,aR7.Γ,r5⟩
def aGA:rD prog RV:=by
 refine rT aGz func56 (c:=_) rfl (N:=81) pQ (ts:=[(6,none)]) rfl (fun _ _=>rfl) ?_ (h3:=by intro _;repeat (first|exact trivial|refine IF rfl ?_ |refine ⟨rfl,?_⟩))
 intro⟨O,Z,aA,aB,aC,aD,aE,aF,aG,aH,aI,aJ,aK,aL,aM,aN,aO,aP,aQ,aR,aS⟩ hs hrow;dsimp only[X2,a74,X3,rP,qQ,qV,r8,rQ,Nat.reduceAdd] at hs hrow|-;obtain⟨rfl,rfl,hps2,hps3,hps4,hps5,hz⟩:=hs;obtain rfl:=hps2.symm;obtain rfl:=hps3.symm;obtain rfl:=hps4.symm;obtain rfl:=hps5.symm;obtain⟨z0,d⟩:=aSn.1 hz
 try rw[rX d]
 clear hz;unfold FG at d;refine pV EB ?_;obtain⟨aT,hv1,hw1,d⟩:=rI d
 try simp only[go_sem] at hw1
 refine pV EB ?_ (hp:=by exact(rH hv1)) (h:=by simp only[go_sem,hw1];rfl);refine qD (rN (pV EB ?_));refine qE d ?_ ?_<;>intro d Y
 .refine pV EB ?_;refine qC (r9 (qP ?_));cases d;exact pB [(0,0),(1,1),(2,2),(3,3),(4,4),(5,5)]
 obtain⟨X,d⟩:=q8 d;refine pV EB ?_ (hp:=by exact X);refine qE d ?_ ?_<;>intro d Y
 .obtain⟨aU,hv3,hw3,d⟩:=rI d
  try simp only[go_sem] at hw3
  refine pV aK8 ?_ (hp:=by exact⟨pP,pP,pP,pP,pP,pP,pP,pP,pP,pP,pP,(rH hv3)⟩) (h:=by simp only[go_sem,hw3];rfl)
  refine qC (r9 (qP ?_));cases d;exact pB [(0,0),(1,1),(2,2),(3,3),(4,4),(5,5)]
 refine qM (rL (q9 (pV EB ?_)));refine qD (pV EB ?_ (hp:=by exact⟨id,id,id,id,tP⟩));refine qE d ?_ ?_<;>intro d Y
 .refine qD (yY 0 (0,(3,aP),(4,aR)) (x2:=(aA,(aB,((aC,(aD,(aE,((some (3,aP)),(aG,(aH,((some (4,aR)),()))))))),(none,((some 5),((0,0,(3,aP),(4,aR)),aL))))))) rfl pS ?_)
  by_cases hva4:((D6 aA aB aC aD aE aG aH aL aT.1 aO aP aQ aR aS)).isSome=true
  .rw[aSj hva4] at d;obtain⟨aV,hv4,hw4,d⟩:=rI d
   try simp only[go_sem] at hw4
   refine qZ aK8 ?_ (hp:=by exact⟨pP,pP,pP,pP,pP,pP,pP,pP,pP,pP,(rH hv4)⟩) (h:=by simp only[go_sem,hw4];rfl)
   cases d
  rw[aSl hva4] at d;obtain⟨aW,hv5,hw5,d⟩:=rI d
  try simp only[go_sem] at hw5
  refine qZ aR8 ?_ (hp:=by exact⟨pP,pP,pP,pP,pP,pP,pP,pP,pP,pP,pP,(rH hv5)⟩) (h:=by simp only[go_sem,hw5];rfl)
  refine q9 (qC (qP ?_));cases d;exact pB [(0,0),(1,1),(2,2),(3,3),(4,4),(5,5)]
 refine qM (q9 (qD ?_));obtain⟨W,d⟩:=q8 d;refine pV EB ?_ (hp:=by exact W);refine qE d ?_ ?_<;>intro d Y
 .cases d
 refine qM (q9 ?_);obtain⟨V,d⟩:=q8 d;obtain⟨aX,hw_43,d⟩:=QN d
 try simp only[go_sem] at hw_43
 refine pV EB ?_ (hp:=by exact V) (h:=by simp only[go_sem,hw_43];rfl);refine qD (pV EB ?_ (hp:=by exact⟨id,id,id,id,id,id,id,fun hG e=>IB hG e,tP⟩));refine qE d ?_ ?_<;>intro d Y
 .refine pV EB ?_;refine yY 0 (0,(3,aP),(4,aR)) (x2:=(aA,(aB,((aC,(aD,(aE,((some (3,aP)),(aG,(aH,((some (4,aR)),()))))))),(none,((some 5),((0,0,(3,aP),(4,aR)),aL))))))) rfl pS ?_
  refine qC (qP ?_);cases d;exact pB [(0,0),(1,1),(2,2),(3,3),(4,4),(5,5)]
 refine qM (q9 (qD ?_));replace d:=a1e d;generalize aX.1=aY at d|-;by_cases hfn:aY=some 117
 .subst hfn;rw[aSj rfl] at d;cases d
 rw[aSl hfn] at d;clear hfn;by_cases hfn:aY=some 118
 .subst hfn;rw[aSj rfl] at d;cases d
 rw[aSl hfn] at d;clear hfn;by_cases hfn:aY=some 119
 .subst hfn;rw[aSj rfl] at d;cases d
 rw[aSl hfn] at d;clear hfn;by_cases hfn:aY=some 120
 .subst hfn;rw[aSj rfl] at d;cases d
 rw[aSl hfn] at d;clear hfn;by_cases hfn:aY=some 121
 .subst hfn;rw[aSj rfl] at d;cases d
 rw[aSl hfn] at d;clear hfn;by_cases hfn:aY=some 122
 .subst hfn;rw[aSj rfl] at d;cases d
 rw[aSl hfn] at d;clear hfn;cases d
attribute [irreducible] FG
end
noncomputable section
def AB (O:p8):(Int⊕(Int×p8×p9×(List qG)×(List rW)×Int×p8×p8×p8×p9×Int×Nat×pI×(Option p9)×Nat×(Option (List qG))×Nat×pG×pG))→Option ((Int⊕(Int×p8×p9×(List qG)×(List rW)×Int×p8×p8×p8×p9×Int×Nat×pI×(Option p9)×Nat×(Option (List qG))×Nat×pG×pG))⊕(p8×p9×(List qG)×(List rW)×Int×p8×p8×p8×p9×Int×Nat×pI×(Option p9)×Nat×(Option (List qG))×Nat×pG×pG)):=fun x=>match x with
 | .inl Z=>
  if (decide (Z<(O.length:Int)))=true then
   if 0≤Z∧Z≤(O.length:Int)∧(O.length:Int)≤(O.length:Int) then
    (DX (qU O Z (O.length:Int)) ([10]:p8)).bind fun aA=>
    if pY (Z+(aA.1.length:Int)) then
     if pY ((Z+(aA.1.length:Int))+(1:Int)) then
      (GO aA.1).bind fun aB=>
      if (!((decide ((Lib.trimLeftS aA.1 ([32,9]:p8))=([]:p8)))||(decide ((rJ (Lib.trimLeftS aA.1 ([32,9]:p8)) (0:Int))=(35:Int)))))=true then
       if ((B6 (([]:p8),(([]:p9),(([]:List qG),(([]:List rW),())))) (0:Int) ([]:p8) ([]:p8) ([]:p8) ([]:p9) (0:Int) (([]:pI),()) aA.1 (min (O.length:Int) ((Z+(aA.1.length:Int))+(1:Int))) (some ([]:p9)) 0 (some ([]:List qG)) 0 ([]:pG))).isSome=true then
        (B6 (([]:p8),(([]:p9),(([]:List qG),(([]:List rW),())))) (0:Int) ([]:p8) ([]:p8) ([]:p8) ([]:p9) (0:Int) (([]:pI),()) aA.1 (min (O.length:Int) ((Z+(aA.1.length:Int))+(1:Int))) (some ([]:p9)) 0 (some ([]:List qG)) 0 ([]:pG)).bind fun aC=>
        if (!decide ((0:Int)=(0:Int)))=true then
         none
        else
         some (.inl (.inr ((min (O.length:Int) ((Z+(aA.1.length:Int))+(1:Int))),aC.1,([]:p9),([]:List qG),([]:List rW),aC.2.1,aC.2.2.1,([]:p8),([]:p8),([]:p9),(0:Int),0,([]:pI),(some ([]:p9)),0,(some ([]:List qG)),0,([]:pG),aC.2.2.2)))
       else
        (FG (([]:p8),(([]:p9),(([]:List qG),(([]:List rW),())))) (0:Int) ([]:p8) ([]:p8) ([]:p8) ([]:p9) (0:Int) (([]:pI),()) aA.1 (min (O.length:Int) ((Z+(aA.1.length:Int))+(1:Int))) (some ([]:p9)) 0 (some ([]:List qG)) 0 ([]:pG)).bind fun aD=>
        if (!decide (aD=(0:Int)))=true then
         none
        else
         some (.inl (.inl (min (O.length:Int) ((Z+(aA.1.length:Int))+(1:Int)))))
      else
       some (.inl (.inl (min (O.length:Int) ((Z+(aA.1.length:Int))+(1:Int)))))
     else none
    else none
   else none
  else
   if (!decide ((0:Int)=(2:Int)))=true then
    none
   else
    none
 | .inr (aE,aF,aG,aH,aI,aJ,aK,aL,aM,aN,aO,aP,aQ,aR,aS,aT,aU,aV,aW)=>
  if (decide (aE<(O.length:Int)))=true then
   if 0≤aE∧aE≤(O.length:Int)∧(O.length:Int)≤(O.length:Int) then
    (DX (qU O aE (O.length:Int)) ([10]:p8)).bind fun aX=>
    if pY (aE+(aX.1.length:Int)) then
     if pY ((aE+(aX.1.length:Int))+(1:Int)) then
      (GO aX.1).bind fun aY=>
      if (!((decide ((Lib.trimLeftS aX.1 ([32,9]:p8))=([]:p8)))||(decide ((rJ (Lib.trimLeftS aX.1 ([32,9]:p8)) (0:Int))=(35:Int)))))=true then
       (HC (aF,(aG,(aH,(aI,())))) aJ aK aL aM aN aO aP (aQ,()) aX.1 (min (O.length:Int) ((aE+(aX.1.length:Int))+(1:Int))) aR aS aT aU aV aW).bind fun aZ=>
       if (!decide (aZ.1=(0:Int)))=true then
        none
       else
        some (.inl (.inr ((min (O.length:Int) ((aE+(aX.1.length:Int))+(1:Int))),aZ.2.1,aZ.2.2.1,aZ.2.2.2.1,aZ.2.2.2.2.1,aZ.2.2.2.2.2.1,aZ.2.2.2.2.2.2.1,aZ.2.2.2.2.2.2.2.1,aZ.2.2.2.2.2.2.2.2.1,aZ.2.2.2.2.2.2.2.2.2.1,aZ.2.2.2.2.2.2.2.2.2.2.1,aZ.2.2.2.2.2.2.2.2.2.2.2.1,aZ.2.2.2.2.2.2.2.2.2.2.2.2.1,aZ.2.2.2.2.2.2.2.2.2.2.2.2.2.2.1,aZ.2.2.2.2.2.2.2.2.2.2.2.2.2.2.2.1,aZ.2.2.2.2.2.2.2.2.2.2.2.2.2.2.2.2.1,aZ.2.2.2.2.2.2.2.2.2.2.2.2.2.2.2.2.2.1,aZ.2.2.2.2.2.2.2.2.2.2.2.2.2.2.2.2.2.2,aZ.2.2.2.2.2.2.2.2.2.2.2.2.2.1)))
      else
       some (.inl (.inr ((min (O.length:Int) ((aE+(aX.1.length:Int))+(1:Int))),aF,aG,aH,aI,aJ,aK,aL,aM,aN,aO,aP,aQ,aR,aS,aT,aU,aV,aW)))
     else none
    else none
   else none
  else
   if (!decide (aJ=(2:Int)))=true then
    none
   else
    some (.inr ((aF,aG,aH,aI,aJ,aK,aL,aM,aN,aO,aP,aQ,aR,aS,aT,aU,aV,aW)))
def FH (O:p8):Option (p8×p9×(List qG)×(List rW)×Int×p8×p8×p8×p9×Int×Nat×pI×(Option p9)×Nat×(Option (List qG))×Nat×pG×pG):=rG (AB O) (.inl (0:Int))
section
variable (O:p8)
abbrev a78:List pX:=[(.val .str O,none)]
abbrev a79:List pW:=[]
@[go_sem] def a8a:qI:=let q:=val (FH O);⟨[((FH O)).isSome=true],[(.val .ref (some (0,0)),none),(.val (.int .i64) (0:Int),none),(.val (.int .i64) (0:Int),none)],[.cells sG ((q.1,(q.2.1,(q.2.2.1,(q.2.2.2.1,())))),(q.2.2.2.2.1,((q.2.2.2.2.2.1,(q.2.2.2.2.2.2.1,(q.2.2.2.2.2.2.2.1,((some (1,q.2.2.2.2.2.2.2.2.2.2.2.2.2.1)),(q.2.2.2.2.2.2.2.2.1,(q.2.2.2.2.2.2.2.2.2.1,((some (2,q.2.2.2.2.2.2.2.2.2.2.2.2.2.2.2.1)),()))))))),((some 3),((some 4),((q.2.2.2.2.2.2.2.2.2.2.1,0,(1,q.2.2.2.2.2.2.2.2.2.2.2.2.2.1),(2,q.2.2.2.2.2.2.2.2.2.2.2.2.2.2.2.1)),(q.2.2.2.2.2.2.2.2.2.2.2.1,()))))))) [(3,5),(15,6)],s7 9 .str (q.2.2.2.2.2.2.2.2.2.2.2.2.1) (q.2.2.2.2.2.2.2.2.2.2.2.2.2.1),s7 110 rV (q.2.2.2.2.2.2.2.2.2.2.2.2.2.2.1) (q.2.2.2.2.2.2.2.2.2.2.2.2.2.2.2.1),.map .str .bool (q.2.2.2.2.2.2.2.2.2.2.2.2.2.2.2.2.1),.map .str .bool (q.2.2.2.2.2.2.2.2.2.2.2.2.2.2.2.2.2),.grow 45 7 ((q.2.2.2.1).length),.grow 3 1 ((q.2.2.2.2.2.2.2.2.2.2.2.1).length)]⟩
def aGB:List pX→List pW→Option qI:=rR (V:=p8) (a78) (fun x=>a79) fun x=>a8a x
@[go_sem] def aRZ:aGB (no_index (a78 O)) (no_index a79)=some (a8a O):=rS (fun a0 b0 h1 h2=>by cases h1;cases h2;rfl) O
end
@[go_sem] abbrev a8b:Nat×r7:=(29,⟨[.v],aGB,[],[],none⟩)
def a8c:qW prog [] (qY [CN,CH,RT]):=⟨trivial,qK O9 (qK NU (qK aGw rM)),r5⟩
def vO:qW prog [v8,uY,sB,D3,vA] (qY [CN,CH,RT]):=⟨⟨vM,⟨vI,⟨sC,⟨F5,⟨vN,trivial⟩⟩⟩⟩⟩,a8c.Γ,r5⟩
def aR9:qW prog [] (qY [CN,CH,RU]):=⟨trivial,qK O9 (qK NU (qK aGy rM)),r5⟩
def aSa:qW prog [v8,uY,sB,D3,vA] (qY [CN,CH,RU]):=⟨⟨vM,⟨vI,⟨sC,⟨F5,⟨vN,trivial⟩⟩⟩⟩⟩,aR9.Γ,r5⟩
def aSb:qW prog [] (qY [CN,CH,RV]):=⟨trivial,qK O9 (qK NU (qK aGA rM)),r5⟩
def aSc:qW prog [v8,uY,sB,D3,vA] (qY [CN,CH,RV]):=⟨⟨vM,⟨vI,⟨sC,⟨F5,⟨vN,trivial⟩⟩⟩⟩⟩,aSb.Γ,r5⟩
def aNk:rD prog a8b:=by
 refine rT a8c func29 (c:=_) rfl (N:=55) pQ (ts:=[(2,none),(3,none),(4,none)]) rfl (fun _ _=>rfl) ?_;intro O hs hrow;dsimp only[a78,a79,a8a,rP,qQ,qV,r8,rQ,Nat.reduceAdd] at hs hrow|-;have hz:=hs;obtain⟨z0,f⟩:=aSn.1 hz
 try rw[rX f]
 clear hz hs;unfold FH at f;refine pV a8c ?_;refine pV vO ?_;refine qD (pV vO ?_);refine rN (yY 160 (160,(166,0),(167,0)) (x2:=((([]:p8),(([]:p9),(([]:List qG),(([]:List rW),())))),((0:Int),((([]:p8),(([]:p8),(([]:p8),((some (166,0)),(([]:p9),((0:Int),((some (167,0)),()))))))),(none,((some 96),((0,160,(166,0),(167,0)),(([]:pI),())))))))) rfl pS ?_)
 have hy1:=f;refine tD hy1 (fun x=>match x with| .inl x=>⟨[(0,.val .str O,none),(5,.val .ref (some (0,0)),none),(6,.val (.int .i64) x,none)],[(0,.cells sG ((([]:p8),(([]:p9),(([]:List qG),(([]:List rW),())))),((0:Int),((([]:p8),(([]:p8),(([]:p8),((some (1,0)),(([]:p9),((0:Int),((some (2,0)),()))))))),(none,((some 3),((0,0,(1,0),(2,0)),(([]:pI),()))))))) [(3,4),(15,5)]),(1,.row 9 .str ([]:p9) 0),(2,.row 110 rV ([]:List qG) 0),(3,.map .str .bool ([]:pG)),(4,.grow 45 7 (([]:List rW).length)),(5,.grow 3 1 (([]:pI).length))],6,55,0⟩ | .inr x=>⟨[(0,.val .str O,none),(5,.val .ref (some (0,0)),none),(6,.val (.int .i64) x.1,none)],[(0,.cells sG ((x.2.1,(x.2.2.1,(x.2.2.2.1,(x.2.2.2.2.1,())))),(x.2.2.2.2.2.1,((x.2.2.2.2.2.2.1,(x.2.2.2.2.2.2.2.1,(x.2.2.2.2.2.2.2.2.1,((some (1,x.2.2.2.2.2.2.2.2.2.2.2.2.2.2.1)),(x.2.2.2.2.2.2.2.2.2.1,(x.2.2.2.2.2.2.2.2.2.2.1,((some (2,x.2.2.2.2.2.2.2.2.2.2.2.2.2.2.2.2.1)),()))))))),((some 3),((some 4),((x.2.2.2.2.2.2.2.2.2.2.2.1,0,(1,x.2.2.2.2.2.2.2.2.2.2.2.2.2.2.1),(2,x.2.2.2.2.2.2.2.2.2.2.2.2.2.2.2.2.1)),(x.2.2.2.2.2.2.2.2.2.2.2.2.1,()))))))) [(3,5),(15,6)]),(1,s7 9 .str x.2.2.2.2.2.2.2.2.2.2.2.2.2.1 x.2.2.2.2.2.2.2.2.2.2.2.2.2.2.1),(2,s7 110 rV x.2.2.2.2.2.2.2.2.2.2.2.2.2.2.2.1 x.2.2.2.2.2.2.2.2.2.2.2.2.2.2.2.2.1),(3,.map .str .bool x.2.2.2.2.2.2.2.2.2.2.2.2.2.2.2.2.2.1),(4,.map .str .bool x.2.2.2.2.2.2.2.2.2.2.2.2.2.2.2.2.2.2),(5,.grow 45 7 (x.2.2.2.2.1.length)),(6,.grow 3 1 (x.2.2.2.2.2.2.2.2.2.2.2.2.1.length))],7,55,0⟩) ⟨[0,5,6],[(0,160),(1,166),(2,167),(3,96),(4,163),(5,165)]⟩ pS ?_
 intro x1 w1 n1 d e;rcases x1 with x1|x1
 .obtain⟨Z,hvx⟩: ∃v,v=x1:=⟨_,rfl⟩;subst hvx;unfold AB at d;dsimp only at d|-;refine qD (pV vO ?_);refine qE d ?_ ?_<;>intro d Y
  .refine qM (q9 (rN ?_));obtain⟨X,d⟩:=q8 d;obtain⟨aA,hv2,hw2,d⟩:=rI d
   try simp only[go_sem] at hw2
   refine pV vO ?_ (hp:=by exact⟨X,(rH hv2)⟩) (h:=by simp only[go_sem,hw2];rfl);obtain⟨W,V,d⟩:=p7 d;refine pV vO ?_ (hp:=by exact⟨W,V⟩);refine qD ?_;obtain⟨aB,hv5,hw5,d⟩:=rI d
   try simp only[go_sem] at hw5
   refine pV vO ?_ (hp:=by exact(rH hv5)) (h:=by simp only[go_sem,hw5];rfl);refine qE d ?_ ?_<;>intro d Y
   .refine qD ?_;by_cases hva3:((B6 (([]:p8),(([]:p9),(([]:List qG),(([]:List rW),())))) (0:Int) ([]:p8) ([]:p8) ([]:p8) ([]:p9) (0:Int) (([]:pI),()) aA.1 (min (O.length:Int) ((Z+(aA.1.length:Int))+(1:Int))) (some ([]:p9)) 0 (some ([]:List qG)) 0 ([]:pG))).isSome=true
    .rw[aSj hva3] at d;obtain⟨aC,hv6,hw6,d⟩:=rI d
     try simp only[go_sem] at hw6
     refine qZ aSa ?_ (hp:=by exact⟨pP,pP,pP,pP,pP,pP,pP,pP,pP,pP,(rH hv6)⟩) (h:=by simp only[go_sem,hw6];rfl)
     refine q9 (pV vO ?_);refine qE d ?_ ?_<;>intro d Y
     .refine qD (qZ vO ?_);cases d
     refine qM (q9 (qZ vO ?_));refine rL ?_;cases d;exact sN ⟨⟨[0,5,6],[(0,0),(1,972),(2,973),(3,974),(4,3),(5,4),(6,5)]⟩,_,pS,e⟩
    rw[aSl hva3] at d;obtain⟨aD,hv7,hw7,d⟩:=rI d
    try simp only[go_sem] at hw7
    refine qZ aSc ?_ (hp:=by exact⟨pP,pP,pP,pP,pP,pP,pP,pP,pP,pP,pP,(rH hv7)⟩) (h:=by simp only[go_sem,hw7];rfl)
    refine q9 (pV vO ?_);refine qE d ?_ ?_<;>intro d Y
    .refine qD (qZ vO ?_);cases d
    refine qM (q9 (qZ vO ?_));refine rL ?_;cases d;exact sN ⟨⟨[0,5,6],[(0,0),(1,1),(2,2),(3,3),(4,4),(5,5)]⟩,_,pS,e⟩
   refine qM (q9 (qZ vO ?_));refine rL ?_;cases d;exact sN ⟨⟨[0,5,6],[(0,0),(1,1),(2,2),(3,3),(4,4),(5,5)]⟩,_,pS,e⟩
  refine tA (t7 (tB (t8 (q9 (qD ?_)))));refine pV vO ?_;refine qE d ?_ ?_<;>intro d Y
  .refine qD (qZ vO ?_);cases d
  refine qM (q9 (qD (qZ vO ?_)));cases d
 obtain⟨aE,aF,aG,aH,aI,aJ,aK,aL,aM,aN,aO,aP,aQ,aR,aS,aT,aU,aV,aW⟩:=x1;unfold AB at d;dsimp only at d|-;refine qD (pV vO ?_);refine qE d ?_ ?_<;>intro d Y
 .refine qM (q9 (rN ?_));obtain⟨U,d⟩:=q8 d;obtain⟨aX,hv9,hw9,d⟩:=rI d
  try simp only[go_sem] at hw9
  refine pV vO ?_ (hp:=by exact⟨U,(rH hv9)⟩) (h:=by simp only[go_sem,hw9];rfl);obtain⟨T,S,d⟩:=p7 d;refine pV vO ?_ (hp:=by exact⟨T,S⟩);refine qD ?_;obtain⟨aY,hv12,hw12,d⟩:=rI d
  try simp only[go_sem] at hw12
  refine pV vO ?_ (hp:=by exact(rH hv12)) (h:=by simp only[go_sem,hw12];rfl);refine qE d ?_ ?_<;>intro d Y
  .obtain⟨aZ,hv13,hw13,d⟩:=rI d
   try simp only[go_sem] at hw13
   refine pV vO ?_ (hp:=by exact⟨pP,pP,pP,pP,pP,pP,(rH hv13)⟩) (h:=by simp only[go_sem,hw13];rfl)
   refine pV vO ?_;refine qE d ?_ ?_<;>intro d Y
   .refine qD (qZ vO ?_);cases d
   refine qM (q9 (qZ vO ?_));refine rL ?_;cases d;exact sN ⟨⟨[0,5,6],[(0,0),(1,974),(2,975),(3,976),(4,4),(5,5),(6,6)]⟩,_,pS,e⟩
  refine qM (q9 (qZ vO ?_));refine rL ?_;cases d;exact sN ⟨⟨[0,5,6],[(0,0),(1,1),(2,2),(3,3),(4,4),(5,5),(6,6)]⟩,_,pS,e⟩
 refine tA (t7 (tB (t8 (q9 (qD ?_)))));refine pV vO ?_;refine qE d ?_ ?_<;>intro d Y
 .refine qD (qZ vO ?_);cases d
 refine qM (q9 (pV vO ?_));refine qC ?_;cases d;have f:=aSL some (show _=_ from e);cases f;exact pB [(0,0),(1,1),(2,2),(3,3),(4,4),(5,5),(6,6)]
attribute [irreducible] FH
end
noncomputable section
def AC (O:p8):(Int⊕(Int×p8×p9×(List qG)×(List rW)×Int×p8×p8×p8×p9×Int×Nat×pI×(Option p9)×Nat×(Option (List qG))×Nat×pG×pG))→Option ((Int⊕(Int×p8×p9×(List qG)×(List rW)×Int×p8×p8×p8×p9×Int×Nat×pI×(Option p9)×Nat×(Option (List qG))×Nat×pG×pG))⊕(Int×Int)):=fun x=>match x with
 | .inl Z=>
  if (decide (Z<(O.length:Int)))=true then
   if 0≤Z∧Z≤(O.length:Int)∧(O.length:Int)≤(O.length:Int) then
    (DX (qU O Z (O.length:Int)) ([10]:p8)).bind fun aA=>
    if pY (Z+(aA.1.length:Int)) then
     if pY ((Z+(aA.1.length:Int))+(1:Int)) then
      (GO aA.1).bind fun aB=>
      if (!((decide ((Lib.trimLeftS aA.1 ([32,9]:p8))=([]:p8)))||(decide ((rJ (Lib.trimLeftS aA.1 ([32,9]:p8)) (0:Int))=(35:Int)))))=true then
       if ((B6 (([]:p8),(([]:p9),(([]:List qG),(([]:List rW),())))) (0:Int) ([]:p8) ([]:p8) ([]:p8) ([]:p9) (0:Int) (([]:pI),()) aA.1 (min (O.length:Int) ((Z+(aA.1.length:Int))+(1:Int))) (some ([]:p9)) 0 (some ([]:List qG)) 0 ([]:pG))).isSome=true then
        (B6 (([]:p8),(([]:p9),(([]:List qG),(([]:List rW),())))) (0:Int) ([]:p8) ([]:p8) ([]:p8) ([]:p9) (0:Int) (([]:pI),()) aA.1 (min (O.length:Int) ((Z+(aA.1.length:Int))+(1:Int))) (some ([]:p9)) 0 (some ([]:List qG)) 0 ([]:pG)).bind fun aC=>
        if (!decide ((0:Int)=(0:Int)))=true then
         some (.inr ((Z,(0:Int))))
        else
         some (.inl (.inr ((min (O.length:Int) ((Z+(aA.1.length:Int))+(1:Int))),aC.1,([]:p9),([]:List qG),([]:List rW),aC.2.1,aC.2.2.1,([]:p8),([]:p8),([]:p9),(0:Int),0,([]:pI),(some ([]:p9)),0,(some ([]:List qG)),0,([]:pG),aC.2.2.2)))
       else
        (FG (([]:p8),(([]:p9),(([]:List qG),(([]:List rW),())))) (0:Int) ([]:p8) ([]:p8) ([]:p8) ([]:p9) (0:Int) (([]:pI),()) aA.1 (min (O.length:Int) ((Z+(aA.1.length:Int))+(1:Int))) (some ([]:p9)) 0 (some ([]:List qG)) 0 ([]:pG)).bind fun aD=>
        if (!decide (aD=(0:Int)))=true then
         some (.inr ((Z,aD)))
        else
         some (.inl (.inl (min (O.length:Int) ((Z+(aA.1.length:Int))+(1:Int)))))
      else
       some (.inl (.inl (min (O.length:Int) ((Z+(aA.1.length:Int))+(1:Int)))))
     else none
    else none
   else none
  else
   if (!decide ((0:Int)=(2:Int)))=true then
    some (.inr (((O.length:Int),(3:Int))))
   else
    none
 | .inr (aE,aF,aG,aH,aI,aJ,aK,aL,aM,aN,aO,aP,aQ,aR,aS,aT,aU,aV,aW)=>
  if (decide (aE<(O.length:Int)))=true then
   if 0≤aE∧aE≤(O.length:Int)∧(O.length:Int)≤(O.length:Int) then
    (DX (qU O aE (O.length:Int)) ([10]:p8)).bind fun aX=>
    if pY (aE+(aX.1.length:Int)) then
     if pY ((aE+(aX.1.length:Int))+(1:Int)) then
      (GO aX.1).bind fun aY=>
      if (!((decide ((Lib.trimLeftS aX.1 ([32,9]:p8))=([]:p8)))||(decide ((rJ (Lib.trimLeftS aX.1 ([32,9]:p8)) (0:Int))=(35:Int)))))=true then
       (HC (aF,(aG,(aH,(aI,())))) aJ aK aL aM aN aO aP (aQ,()) aX.1 (min (O.length:Int) ((aE+(aX.1.length:Int))+(1:Int))) aR aS aT aU aV aW).bind fun aZ=>
       if (!decide (aZ.1=(0:Int)))=true then
        some (.inr ((aE,aZ.1)))
       else
        some (.inl (.inr ((min (O.length:Int) ((aE+(aX.1.length:Int))+(1:Int))),aZ.2.1,aZ.2.2.1,aZ.2.2.2.1,aZ.2.2.2.2.1,aZ.2.2.2.2.2.1,aZ.2.2.2.2.2.2.1,aZ.2.2.2.2.2.2.2.1,aZ.2.2.2.2.2.2.2.2.1,aZ.2.2.2.2.2.2.2.2.2.1,aZ.2.2.2.2.2.2.2.2.2.2.1,aZ.2.2.2.2.2.2.2.2.2.2.2.1,aZ.2.2.2.2.2.2.2.2.2.2.2.2.1,aZ.2.2.2.2.2.2.2.2.2.2.2.2.2.2.1,aZ.2.2.2.2.2.2.2.2.2.2.2.2.2.2.2.1,aZ.2.2.2.2.2.2.2.2.2.2.2.2.2.2.2.2.1,aZ.2.2.2.2.2.2.2.2.2.2.2.2.2.2.2.2.2.1,aZ.2.2.2.2.2.2.2.2.2.2.2.2.2.2.2.2.2.2,aZ.2.2.2.2.2.2.2.2.2.2.2.2.2.1)))
      else
       some (.inl (.inr ((min (O.length:Int) ((aE+(aX.1.length:Int))+(1:Int))),aF,aG,aH,aI,aJ,aK,aL,aM,aN,aO,aP,aQ,aR,aS,aT,aU,aV,aW)))
     else none
    else none
   else none
  else
   if (!decide (aJ=(2:Int)))=true then
    some (.inr (((O.length:Int),(3:Int))))
   else
    none
def JH (O:p8):Option (Int×Int):=rG (AC O) (.inl (0:Int))
section
variable (O:p8)
abbrev a8d:List pX:=[(.val .str O,none)]
abbrev a8e:List pW:=[]
@[go_sem] def a8f:qI:=⟨[((JH O)).isSome=true],[(.val .ref none,none),(.val (.int .i64) ((val (JH O)).1),none),(.val (.int .i64) ((val (JH O)).2),none)],[]⟩
def aGC:List pX→List pW→Option qI:=rR (V:=p8) (a8d) (fun x=>a8e) fun x=>a8f x
@[go_sem] def aR0:aGC (no_index (a8d O)) (no_index a8e)=some (a8f O):=rS (fun a0 b0 h1 h2=>by cases h1;cases h2;rfl) O
end
@[go_sem] abbrev aGD:Nat×r7:=(29,⟨[.v],aGC,[],[],none⟩)
def a8g:qW prog [] (qY [CN,CH,RT]):=⟨trivial,qK O9 (qK NU (qK aGw rM)),r5⟩
def vP:qW prog [v8,uY,sB,D3,vA] (qY [CN,CH,RT]):=⟨⟨vM,⟨vI,⟨sC,⟨F5,⟨vN,trivial⟩⟩⟩⟩⟩,a8g.Γ,r5⟩
def aSd:qW prog [] (qY [CN,CH,RU]):=⟨trivial,qK O9 (qK NU (qK aGy rM)),r5⟩
def aSe:qW prog [v8,uY,sB,D3,vA] (qY [CN,CH,RU]):=⟨⟨vM,⟨vI,⟨sC,⟨F5,⟨vN,trivial⟩⟩⟩⟩⟩,aSd.Γ,r5⟩
def aSf:qW prog [] (qY [CN,CH,RV]):=⟨trivial,qK O9 (qK NU (qK aGA rM)),r5⟩
def aSg:qW prog [v8,uY,sB,D3,vA] (qY [CN,CH,RV]):=⟨⟨vM,⟨vI,⟨sC,⟨F5,⟨vN,trivial⟩⟩⟩⟩⟩,aSf.Γ,r5⟩
def aNl:rD prog aGD:=by
 refine rT a8g func29 (c:=_) rfl (N:=55) pQ (ts:=[(2,none),(3,none),(4,none)]) rfl (fun _ _=>rfl) ?_;intro O hs hrow;dsimp only[a8d,a8e,a8f,rP,qQ,qV,r8,rQ,Nat.reduceAdd] at hs hrow|-;have hz:=hs;obtain⟨z0,e⟩:=aSn.1 hz
 try rw[rX e]
 clear hz hs;unfold JH at e;refine pV a8g ?_;refine pV vP ?_;refine qD (pV vP ?_);refine rN (yY 160 (160,(166,0),(167,0)) (x2:=((([]:p8),(([]:p9),(([]:List qG),(([]:List rW),())))),((0:Int),((([]:p8),(([]:p8),(([]:p8),((some (166,0)),(([]:p9),((0:Int),((some (167,0)),()))))))),(none,((some 96),((0,160,(166,0),(167,0)),(([]:pI),())))))))) rfl pS ?_)
 have hy1:=e;refine tD hy1 (fun x=>match x with| .inl x=>⟨[(0,.val .str O,none),(5,.val .ref (some (0,0)),none),(6,.val (.int .i64) x,none)],[(0,.cells sG ((([]:p8),(([]:p9),(([]:List qG),(([]:List rW),())))),((0:Int),((([]:p8),(([]:p8),(([]:p8),((some (1,0)),(([]:p9),((0:Int),((some (2,0)),()))))))),(none,((some 3),((0,0,(1,0),(2,0)),(([]:pI),()))))))) [(3,4),(15,5)]),(1,.row 9 .str ([]:p9) 0),(2,.row 110 rV ([]:List qG) 0),(3,.map .str .bool ([]:pG)),(4,.grow 45 7 (([]:List rW).length)),(5,.grow 3 1 (([]:pI).length))],6,55,0⟩ | .inr x=>⟨[(0,.val .str O,none),(5,.val .ref (some (0,0)),none),(6,.val (.int .i64) x.1,none)],[(0,.cells sG ((x.2.1,(x.2.2.1,(x.2.2.2.1,(x.2.2.2.2.1,())))),(x.2.2.2.2.2.1,((x.2.2.2.2.2.2.1,(x.2.2.2.2.2.2.2.1,(x.2.2.2.2.2.2.2.2.1,((some (1,x.2.2.2.2.2.2.2.2.2.2.2.2.2.2.1)),(x.2.2.2.2.2.2.2.2.2.1,(x.2.2.2.2.2.2.2.2.2.2.1,((some (2,x.2.2.2.2.2.2.2.2.2.2.2.2.2.2.2.2.1)),()))))))),((some 3),((some 4),((x.2.2.2.2.2.2.2.2.2.2.2.1,0,(1,x.2.2.2.2.2.2.2.2.2.2.2.2.2.2.1),(2,x.2.2.2.2.2.2.2.2.2.2.2.2.2.2.2.2.1)),(x.2.2.2.2.2.2.2.2.2.2.2.2.1,()))))))) [(3,5),(15,6)]),(1,s7 9 .str x.2.2.2.2.2.2.2.2.2.2.2.2.2.1 x.2.2.2.2.2.2.2.2.2.2.2.2.2.2.1),(2,s7 110 rV x.2.2.2.2.2.2.2.2.2.2.2.2.2.2.2.1 x.2.2.2.2.2.2.2.2.2.2.2.2.2.2.2.2.1),(3,.map .str .bool x.2.2.2.2.2.2.2.2.2.2.2.2.2.2.2.2.2.1),(4,.map .str .bool x.2.2.2.2.2.2.2.2.2.2.2.2.2.2.2.2.2.2),(5,.grow 45 7 (x.2.2.2.2.1.length)),(6,.grow 3 1 (x.2.2.2.2.2.2.2.2.2.2.2.2.1.length))],7,55,0⟩) ⟨[0,5,6],[(0,160),(1,166),(2,167),(3,96),(4,163),(5,165)]⟩ pS ?_
 intro x1 w1 n1 d f;rcases x1 with x1|x1
 .obtain⟨Z,hvx⟩: ∃v,v=x1:=⟨_,rfl⟩;subst hvx;unfold AC at d;dsimp only at d|-;refine qD (pV vP ?_);refine qE d ?_ ?_<;>intro d Y
  .refine qM (q9 (rN ?_));obtain⟨X,d⟩:=q8 d;obtain⟨aA,hv2,hw2,d⟩:=rI d
   try simp only[go_sem] at hw2
   refine pV vP ?_ (hp:=by exact⟨X,(rH hv2)⟩) (h:=by simp only[go_sem,hw2];rfl);obtain⟨W,V,d⟩:=p7 d;refine pV vP ?_ (hp:=by exact⟨W,V⟩);refine qD ?_;obtain⟨aB,hv5,hw5,d⟩:=rI d
   try simp only[go_sem] at hw5
   refine pV vP ?_ (hp:=by exact(rH hv5)) (h:=by simp only[go_sem,hw5];rfl);refine qE d ?_ ?_<;>intro d Y
   .refine qD ?_;by_cases hva3:((B6 (([]:p8),(([]:p9),(([]:List qG),(([]:List rW),())))) (0:Int) ([]:p8) ([]:p8) ([]:p8) ([]:p9) (0:Int) (([]:pI),()) aA.1 (min (O.length:Int) ((Z+(aA.1.length:Int))+(1:Int))) (some ([]:p9)) 0 (some ([]:List qG)) 0 ([]:pG))).isSome=true
    .rw[aSj hva3] at d;obtain⟨aC,hv6,hw6,d⟩:=rI d
     try simp only[go_sem] at hw6
     refine qZ aSe ?_ (hp:=by exact⟨pP,pP,pP,pP,pP,pP,pP,pP,pP,pP,(rH hv6)⟩) (h:=by simp only[go_sem,hw6];rfl)
     refine q9 (pV vP ?_);refine qE d ?_ ?_<;>intro d Y
     .refine pV vP ?_;refine qC (qP (r9 (tY (r9 (qP ?_)))));cases d;have e:=aSL some (show _=_ from f);cases e;exact pB []
     refine qM (q9 (qZ vP ?_));refine rL ?_;cases d;exact sN ⟨⟨[0,5,6],[(0,0),(1,972),(2,973),(3,974),(4,3),(5,4),(6,5)]⟩,_,pS,f⟩
    rw[aSl hva3] at d;obtain⟨aD,hv7,hw7,d⟩:=rI d
    try simp only[go_sem] at hw7
    refine qZ aSg ?_ (hp:=by exact⟨pP,pP,pP,pP,pP,pP,pP,pP,pP,pP,pP,(rH hv7)⟩) (h:=by simp only[go_sem,hw7];rfl)
    refine q9 (pV vP ?_);refine qE d ?_ ?_<;>intro d Y
    .refine pV vP ?_;refine qC (qP (r9 (tY (r9 (qP ?_)))));cases d;have e:=aSL some (show _=_ from f);cases e;exact pB []
    refine qM (q9 (qZ vP ?_));refine rL ?_;cases d;exact sN ⟨⟨[0,5,6],[(0,0),(1,1),(2,2),(3,3),(4,4),(5,5)]⟩,_,pS,f⟩
   refine qM (q9 (qZ vP ?_));refine rL ?_;cases d;exact sN ⟨⟨[0,5,6],[(0,0),(1,1),(2,2),(3,3),(4,4),(5,5)]⟩,_,pS,f⟩
  refine tA (t7 (tB (t8 (q9 (qD ?_)))));refine pV vP ?_;refine qE d ?_ ?_<;>intro d Y
  .refine pV vP ?_;refine qC (qP ?_);cases d;have e:=aSL some (show _=_ from f);cases e;exact pB []
  refine qM (q9 (qD (qZ vP ?_)));cases d
 obtain⟨aE,aF,aG,aH,aI,aJ,aK,aL,aM,aN,aO,aP,aQ,aR,aS,aT,aU,aV,aW⟩:=x1;unfold AC at d;dsimp only at d|-;refine qD (pV vP ?_);refine qE d ?_ ?_<;>intro d Y
 .refine qM (q9 (rN ?_));obtain⟨U,d⟩:=q8 d;obtain⟨aX,hv9,hw9,d⟩:=rI d
  try simp only[go_sem] at hw9
  refine pV vP ?_ (hp:=by exact⟨U,(rH hv9)⟩) (h:=by simp only[go_sem,hw9];rfl);obtain⟨T,S,d⟩:=p7 d;refine pV vP ?_ (hp:=by exact⟨T,S⟩);refine qD ?_;obtain⟨aY,hv12,hw12,d⟩:=rI d
  try simp only[go_sem] at hw12
  refine pV vP ?_ (hp:=by exact(rH hv12)) (h:=by simp only[go_sem,hw12];rfl);refine qE d ?_ ?_<;>intro d Y
  .obtain⟨aZ,hv13,hw13,d⟩:=rI d
   try simp only[go_sem] at hw13
   refine pV vP ?_ (hp:=by exact⟨pP,pP,pP,pP,pP,pP,(rH hv13)⟩) (h:=by simp only[go_sem,hw13];rfl)
   refine pV vP ?_;refine qE d ?_ ?_<;>intro d Y
   .refine pV vP ?_;refine qC (qP (r9 (tY (r9 (qP ?_)))));cases d;have e:=aSL some (show _=_ from f);cases e;exact pB []
   refine qM (q9 (qZ vP ?_));refine rL ?_;cases d;exact sN ⟨⟨[0,5,6],[(0,0),(1,974),(2,975),(3,976),(4,4),(5,5),(6,6)]⟩,_,pS,f⟩
  refine qM (q9 (qZ vP ?_));refine rL ?_;cases d;exact sN ⟨⟨[0,5,6],[(0,0),(1,1),(2,2),(3,3),(4,4),(5,5),(6,6)]⟩,_,pS,f⟩
 refine tA (t7 (tB (t8 (q9 (qD ?_)))));refine pV vP ?_;refine qE d ?_ ?_<;>intro d Y
 .refine pV vP ?_;refine qC (qP ?_);cases d;have e:=aSL some (show _=_ from f);cases e;exact pB []
 refine qM (q9 (qD (qZ vP ?_)));cases d
def JI (O:p8):Option (p8×p9×(List qG)×(List rW)×Int×Int):=if ((FH O)).isSome=true then (FH O).bind fun Z=>if (!decide ((0:Int)=(0:Int)))=true then some ((([]:p8),([]:p9),([]:List qG),([]:List rW),(0:Int),(0:Int))) else some ((Z.1,Z.2.1,Z.2.2.1,Z.2.2.2.1,(0:Int),(0:Int))) else (JH O).bind fun aA=>if (!decide (aA.2=(0:Int)))=true then some ((([]:p8),([]:p9),([]:List qG),([]:List rW),aA.1,aA.2)) else none
section
variable (O:p8)
abbrev a8h:List pX:=[(.val .str O,none)]
abbrev a8i:List pW:=[]
@[go_sem] def a8j:qI:=let q:=val (JI O);⟨[((JI O)).isSome=true],[(.val A3 (q.1,(q.2.1,(q.2.2.1,(q.2.2.2.1,())))),none),(.val (.int .i64) (q.2.2.2.2.1),none),(.val (.int .i64) (q.2.2.2.2.2),none)],[]⟩
def aGE:List pX→List pW→Option qI:=rR (V:=p8) (a8h) (fun x=>a8i) fun x=>a8j x
@[go_sem] def aR1:aGE (no_index (a8h O)) (no_index a8i)=some (a8j O):=rS (fun a0 b0 h1 h2=>by cases h1;cases h2;rfl) O
end
@[go_sem] abbrev a8k:Nat×r7:=(11,⟨[.v],aGE,[],[],none⟩)
def OP:qW prog [yZ] (qY [a8b]):=⟨⟨A9,trivial⟩,qK aNk rM,r5⟩
def a8l:qW prog [yZ,vA] (qY [a8b]):=⟨⟨A9,⟨vN,trivial⟩⟩,OP.Γ,r5⟩
def aNm:qW prog [yZ] (qY [aGD]):=⟨⟨A9,trivial⟩,qK aNl rM,r5⟩
def aGF:rD prog a8k:=by
 refine rT OP func11 (c:=_) rfl (N:=23) pQ (ts:=[(2,some 27),(3,none),(4,none)]) rfl (fun _ _=>rfl) ?_;intro O hs hrow;dsimp only[a8h,a8i,a8j,rP,qQ,qV,r8,rQ,Nat.reduceAdd] at hs hrow|-;have hz:=hs;obtain⟨z0,e⟩:=aSn.1 hz
 try rw[rX e]
 clear hz hs;unfold JI at e;refine pV OP ?_;refine qD ?_;by_cases hva1:((FH O)).isSome=true
 .rw[aSj hva1] at e;obtain⟨Z,hv1,hw1,e⟩:=rI e
  try simp only[go_sem] at hw1
  refine qZ OP ?_ (hp:=by exact(rH hv1)) (h:=by simp only[go_sem,hw1];rfl);refine q9 (qD (pV a8l ?_));refine qE e ?_ ?_<;>intro e Y
  .refine pV a8l ?_;refine qC (qP ?_);cases e;exact pA []
  refine qM (q9 (pV a8l ?_));refine qC ?_;cases e;exact pA []
 rw[aSl hva1] at e;obtain⟨aA,hv2,hw2,e⟩:=rI e
 try simp only[go_sem] at hw2
 refine qZ aNm ?_ (hp:=by exact(rH hv2)) (h:=by simp only[go_sem,hw2];rfl);refine q9 (qD (pV OP ?_));refine qE e ?_ ?_<;>intro e Y
 .refine pV OP ?_;refine qC (qP ?_);cases e;exact pA []
 cases e
attribute [irreducible] JH JI
end
noncomputable section
def OQ:Option Bool:=(JI ([99,97,116,97,108,111,103,32,34,100,101,34,10,99,111,109,109,101,110,116,32,34,97,98,34,10,34,99,100,34,10,101,110,100,10,10,101,110,116,114,121,32,34,97,34,10,101,110,100]:p8)).bind fun O=>if (((((decide (O.2.2.2.2.2=(0:Int)))&&(decide (O.1=([100,101]:p8))))&&(decide ((O.2.1.length:Int)=(1:Int))))==true)=true→0≤(0:Int)∧(0:Int)<(O.2.1.length:Int)) then if (((((((decide (O.2.2.2.2.2=(0:Int)))&&(decide (O.1=([100,101]:p8))))&&(decide ((O.2.1.length:Int)=(1:Int))))&&(decide ((qH .str O.2.1 (0:Int))=([97,98,99,100]:p8))))&&(decide ((O.2.2.2.1.length:Int)=(1:Int))))==true)=true→0≤(0:Int)∧(0:Int)<(O.2.2.2.1.length:Int)) then some (((((((decide (O.2.2.2.2.2=(0:Int)))&&(decide (O.1=([100,101]:p8))))&&(decide ((O.2.1.length:Int)=(1:Int))))&&(decide ((qH .str O.2.1 (0:Int))=([97,98,99,100]:p8))))&&(decide ((O.2.2.2.1.length:Int)=(1:Int))))&&(decide ((qH uI O.2.2.2.1 (0:Int)).1=([97]:p8))))) else none else none
section
abbrev a8m:List pX:=[]
abbrev a8n:List pW:=[]
@[go_sem] def a8o:qI:=⟨[(OQ).isSome=true],[(.val .bool (val OQ),none)],[]⟩
def aGG:List pX→List pW→Option qI:=rR (V:=Unit) (fun x=>a8m) (fun x=>a8n) fun x=>a8o
@[go_sem] def aR2:aGG (no_index a8m) (no_index a8n)=some a8o:=rS (fun _ _ h1 h2=>by cases h1;cases h2;rfl) ()
end
@[go_sem] abbrev aGH:Nat×r7:=(10,⟨[],aGG,[],[],none⟩)
def X4:qW prog [sB,A8,D2,yZ,F4] (qY [a8k]):=⟨⟨sC,⟨BQ,⟨F3,⟨A9,⟨IG,trivial⟩⟩⟩⟩⟩,qK aGF rM,r5⟩
def aNn:rD prog aGH:=by
 refine rT X4 func10 (c:=_) rfl (N:=43) pQ (ts:=[(0,none)]) rfl (fun _ _=>rfl) ?_;intro⟨⟩ hs hrow;dsimp only[a8m,a8n,a8o,rP,qQ,qV,r8,rQ,Nat.reduceAdd] at hs hrow|-;have hz:=hs;obtain⟨z0,e⟩:=aSn.1 hz
 try rw[rX e]
 clear hz hs;unfold OQ at e;refine pV X4 ?_;obtain⟨O,hv1,hw1,e⟩:=rI e
 try simp only[go_sem] at hw1
 refine pV X4 ?_ (hp:=by exact(rH hv1)) (h:=by simp only[go_sem,hw1];rfl);obtain⟨Y,X,e⟩:=p7 e;refine pV X4 ?_ (hp:=by exact⟨id,id,rY,id,id,id,rY,id,id,Y,id,id,rY,id,id,id,rY,id,id,X,id,id,id,rY⟩);refine qC ?_;cases e;exact pA []
def ME (O:p8):Option Bool:=OQ.bind fun Z=>if (!Z)=true then some (false) else if (decide ((4000:Int)<(O.length:Int)))=true then some (true) else (JI O).bind fun aA=>(MD O).bind fun aB=>if ((((decide (aA.2.2.2.2.2=aB.2.2.2.2.2))&&(decide (aA.2.2.2.2.1=aB.2.2.2.2.1)))==true)=true→((E5 (aA.1,(aA.2.1,(aA.2.2.1,(aA.2.2.2.1,())))) (aB.1,(aB.2.1,(aB.2.2.1,(aB.2.2.2.1,())))))).isSome=true) then some ((((decide (aA.2.2.2.2.2=aB.2.2.2.2.2))&&(decide (aA.2.2.2.2.1=aB.2.2.2.2.1)))&&((((decide (aA.1=aB.1))&&(val (wD aA.2.1 aB.2.1)))&&(val (z6 aA.2.2.1 aB.2.2.1)))&&(val (CM aA.2.2.2.1 aB.2.2.2.1))))) else none
section
variable (O:p8)
abbrev RW:List pX:=[(.val .str O,none)]
abbrev X5:List pW:=[]
@[go_sem] def OR:qI:=⟨[((ME O)).isSome=true],[(.val .bool (val (ME O)),none)],[]⟩
def a8p:List pX→List pW→Option qI:=rR (V:=p8) (RW) (fun x=>X5) fun x=>OR x
@[go_sem] def aNo:a8p (no_index (RW O)) (no_index X5)=some (OR O):=rS (fun a0 b0 h1 h2=>by cases h1;cases h2;rfl) O
end
@[go_sem] abbrev aNp:Nat×r7:=(3,⟨[.v],a8p,[],[],none⟩)
def HD:qW prog [sB,yZ] (qY [aGH,a8k,aGt,aFJ]):=⟨⟨sC,⟨A9,trivial⟩⟩,qK aNn (qK aGF (qK aNh (qK aMY rM))),r5⟩
def aNq:rD prog aNp:=by
 refine rT HD func3 (c:=_) rfl (N:=39) pQ (ts:=[(2,none)]) rfl (fun _ _=>rfl) ?_;intro O hs hrow;dsimp only[RW,X5,OR,rP,qQ,qV,r8,rQ,Nat.reduceAdd] at hs hrow|-;have hz:=hs;obtain⟨z0,e⟩:=aSn.1 hz
 try rw[rX e]
 clear hz hs;unfold ME at e;refine pV HD ?_;refine qD ?_;obtain⟨Z,hv1,hw1,e⟩:=rI e
 try simp only[go_sem] at hw1
 refine pV HD ?_ (hp:=by exact(rH hv1)) (h:=by simp only[go_sem,hw1];rfl);refine qE e ?_ ?_<;>intro e Y
 .refine pV HD ?_;refine qC (qP ?_);cases e;exact pA []
 refine qM (q9 (qD (pV HD ?_)));refine qE e ?_ ?_<;>intro e Y
 .refine pV HD ?_;refine qC (qP ?_);cases e;exact pA []
 refine qM (q9 ?_);obtain⟨aA,hv2,hw2,e⟩:=rI e
 try simp only[go_sem] at hw2
 refine pV HD ?_ (hp:=by exact(rH hv2)) (h:=by simp only[go_sem,hw2];rfl);obtain⟨aB,hv3,hw3,e⟩:=rI e
 try simp only[go_sem] at hw3
 refine pV HD ?_ (hp:=by exact(rH hv3)) (h:=by simp only[go_sem,hw3];rfl);obtain⟨X,e⟩:=q8 e;refine pV HD ?_ (hp:=by exact⟨id,id,rY,id,id,X,rY⟩);refine qC ?_;cases e;exact pA []
attribute [irreducible] OQ ME
end
end Go.Proofs.YtcpbaddnmpeipaaGreatDoor
section
end
namespace Go.Proofs.YtcpbaddnmpeipaaGreatDoor
open Vc
theorem tI {σ ρ:Type}(f:σ→Option (σ⊕ρ)) (x:σ):rG f x=(f x).bind fun w=>match w with
    | .inl y=>rG f y
    | .inr r=>some r:=by
  cases h:f x with
  | none=>
    cases h2:rG f x with
    |none=>rfl
    | some r=>
      obtain⟨n,hn⟩:=VQ h2;cases n with
      |zero=>cases hn
      |succ n=>unfold iter at hn;rw[h] at hn;cases hn
  | some w=>
    cases w with
    |inl y=>exact NJ h
    |inr r=>exact BP h
theorem AD {t:Ty}{l:List t.den}{i:Nat}(h:i<l.length):qH t l (i:Int)=l[i]:=by
  unfold qH;rw[aTb,aSM,aSu h];rfl
theorem xB {l:p8}{i:Nat}(h:i<l.length):rJ l (i:Int)=(l[i].toNat:Int):=by
  unfold rJ;rw[aTb,aSM,aSu h];rfl
def xY {β:Type}(f:Nat→β) (b:β):pL→β
  |some k=>f k
  |none=>b
theorem X6 {α ρ:Type}{f:Int→Option (Int⊕(Unit⊕ρ))}{l:List α}(p:α→Bool) (g:Nat→ρ)
    (hf: ∀(i:Nat) (h:i<l.length),f i=if p l[i]=true then some (.inr (.inr (g i))) else some (.inl (i+1)))
    (he:f l.length=some (.inr (.inl ()))): ∀(n j:Nat),j+n=l.length→rG f j=some (xY (fun k=> .inr (g (j+k))) (.inl ()) ((l.drop j).findIdx? p))
  | 0,j,hj=>by
    have:j=l.length:=by omega
    subst this;rw[aTc,tI,he];rfl
  | n+1,j,hj=>by
    have hlt:j<l.length:=by omega
    rw[tI,hf j hlt,aSK hlt,aTH];by_cases hp:p l[j]=true
    · rw[aSj hp,aSj hp]
      rfl
    rw[aSl hp,aSl hp]
    show rG f ((j:Int)+1)=_;have:=X6 p g hf he n (j+1) pC;rw[show ((j:Int)+1)=((j+1:Nat):Int) by omega,this];cases(l.drop (j+1)).findIdx? p with
    |none=>rfl
    | some k=>
      show some (Sum.inr (g (j+1+k)))=some (Sum.inr (g (j+(k+1))));rw[show j+1+k=j+(k+1) by omega]
theorem EC {α ρ:Type}{f:Int→Option (Int⊕(Unit⊕ρ))}{l:List α}(p:α→Bool) (g:Nat→ρ)
    (hf: ∀(i:Nat) (h:i<l.length),f i=if p l[i]=true then some (.inr (.inr (g i))) else some (.inl (i+1)))
    (he:f l.length=some (.inr (.inl ()))):rG f 0=some (xY (fun k=> .inr (g k)) (.inl ()) (l.findIdx? p)):=by
  have:=X6 p g hf he l.length 0 pC;simpa using this
theorem aGI {s:p8}{i:Nat}(h:i<s.length) (ha:s[i].toNat<128):wU s i=(s[i].toNat:Int)∧AN s i=i+1:=by
  have h1:=Lib.decodeL_drop ⟨s.toArray⟩ i
  have h2:(⟨s.toArray⟩:ByteArray).data.toList.drop i=s[i]::s.drop (i+1):=by
    show s.drop i=_;rw[aSK h]
  rw[h2,Lib.decodeL_ascii _ _ ha] at h1;unfold wU AN ZH;rw[←h1,aSj h];exact⟨rfl,rfl⟩
theorem aNr {n b0 b1 b2 b3:Nat}(h:128≤b0):128≤(Lib.decodeN n b0 b1 b2 b3).1:=by
  unfold Lib.decodeN
  repeat' split
  all_goals first|omega|(dsimp only;omega)
theorem aGJ {s:p8}{i:Nat}(h:i<s.length) (ha:128≤s[i].toNat):128≤wU s i:=by
  unfold wU;rw[Lib.decode_at]
  have:(⟨s.toArray⟩:ByteArray).get! i=s[i]:=by
    show s.toArray[i]! =_;simp [h]
  rw[this];exact Int.ofNat_le.2 (aNr ha)
theorem aGK {ρ:Type}{f:Nat→Option (Nat⊕(Unit⊕ρ))}{s:p8}(p:Int→Bool) (g:Nat→ρ) (hb: ∀c,128≤c→p c=true)
    (hf: ∀(i:Nat) (h:i<s.length),f i=if p (wU s i)=true then some (.inr (.inr (g i))) else some (.inl (AN s i)))
    (he:f s.length=some (.inr (.inl ()))): ∀(n j:Nat),j+n=s.length→rG f j=some (xY (fun k=> .inr (g (j+k))) (.inl ()) ((s.drop j).findIdx? (fun b=>p b.toNat)))
  | 0,j,hj=>by
    have:j=s.length:=by omega
    subst this;rw[aTc,tI,he];rfl
  | n+1,j,hj=>by
    have hlt:j<s.length:=by omega
    rw[tI,hf j hlt,aSK hlt,aTH];by_cases ha:s[j].toNat<128
    · obtain⟨e1,e2⟩:=aGI hlt ha
      rw[e1,e2];by_cases hp:p (s[j].toNat:Int)=true
      · rw[aSj hp,aSj hp]
        rfl
      rw[aSl hp,aSl hp]
      show rG f (j+1)=_;rw[aGK p g hb hf he n (j+1) pC];cases(s.drop (j+1)).findIdx? (fun b=>p b.toNat) with
      |none=>rfl
      | some k=>
        show some (Sum.inr (g (j+1+k)))=some (Sum.inr (g (j+(k+1))));rw[show j+1+k=j+(k+1) by omega]
    rw[aSj (hb _ (aGJ hlt pC)),aSj (hb _ pC)]
    rfl
theorem aNs {ρ:Type}{f:Nat→Option (Nat⊕(Unit⊕ρ))}{s:p8}(p:Int→Bool) (g:Nat→ρ) (hb: ∀c,128≤c→p c=true)
    (hf: ∀(i:Nat) (h:i<s.length),f i=if p (wU s i)=true then some (.inr (.inr (g i))) else some (.inl (AN s i)))
    (he:f s.length=some (.inr (.inl ()))):rG f 0=some (xY (fun k=> .inr (g k)) (.inl ()) (s.findIdx? (fun b=>p b.toNat))):=by
  have:=aGK p g hb hf he s.length 0 pC;simpa using this
def rZ {α:Type}(l:List α):Prop:=l.length≤4000000000
theorem uB {i:Nat}(h:i≤4000000000):pY ((i:Int)+1):=by unfold pY;omega
theorem sU {i n:Nat}(h:i<n):0≤(i:Int)∧(i:Int)<(n:Int):=⟨pC,pC⟩
theorem tX {i n:Nat}(h:i<n):decide ((i:Int)<(n:Int))=true:=by simpa using h
theorem xC (n:Nat): ¬decide ((n:Int)<(n:Int))=true:=by simp
theorem a8q {α:Type}{p:α→Bool}: ∀{l:List α},(l.findIdx? p).isSome=l.any p
  |[]=>rfl
  | x::l=>by
    rw[aTH,List.any_cons];cases p x with
    |true=>rfl
    |false=>simp [a8q (l:=l)]
theorem JJ {α β:Type}{p:α→Bool}{l:List α}{f:Nat→β}{b:β}:xY f b (l.findIdx? p)=if l.any p=true then f ((l.findIdx? p).getD 0) else b:=by
  rw[←a8q];cases l.findIdx? p with
  |none=>rfl
  |some k=>rfl
def OS (c:Int):Bool:=(((!((decide ((97:Int)≤c))&&(decide (c≤(122:Int)))))&&(!((decide ((48:Int)≤c))&&(decide (c≤(57:Int))))))&&(!decide (c=(45:Int))))&&((decide (c<(65:Int)))||(decide ((90:Int)<c)))
def yE (s:p8):Bool:= !(s.any fun b=>OS b.toNat)&&((decide ((1:Int)≤(s.length:Int)))&&(decide ((s.length:Int)≤(40:Int))))
theorem aNt (s:p8) (hs:rZ s):LV s=some (yE s):=by
  unfold rZ at hs
  have h:=EC (f:=RK s) (l:=s) (fun b=>OS b.toNat) (fun _=>false) (fun i h=>by
    unfold RK;rw[aSj (tX h),aSj (sU h),xB h,aSj (uB pC)];rfl) (by
    unfold RK;rw[aSl (xC _)])
  unfold LV;rw[h,JJ];unfold yE;cases s.any fun b=>OS b.toNat<;>rfl
def X7 (c:Int):Bool:=((((decide (c<(97:Int)))||(decide ((122:Int)<c)))&&((decide (c<(65:Int)))||(decide ((90:Int)<c))))&&((decide (c<(48:Int)))||(decide ((57:Int)<c))))&&(!decide (c=(45:Int)))
theorem aNu (c:Int):X7 c=OS c:=by
  unfold X7 OS;rw[aTZ];simp;omega
theorem aGL (s:p8):D4 s=some (yE s):=by
  have h:=aNs (f:=R2 s) (s:=s) (fun c=>X7 c) (fun _=>false) (fun c h=>by unfold X7;simp;omega) (fun i h=>by
    unfold R2;rw[aSj (by simpa using h),aSj (by simpa using h)];rfl) (by
    unfold R2;rw[aSl pE])
  unfold D4;rw[h,JJ];simp only[aNu];unfold yE;cases s.any fun b=>OS b.toNat<;>rfl
def zD (c:Int):Bool:=((((!((decide ((97:Int)≤c))&&(decide (c≤(122:Int)))))&&(!((decide ((48:Int)≤c))&&(decide (c≤(57:Int))))))&&(!decide (c=(45:Int))))&&(!decide (c=(95:Int))))&&(!decide (c=(46:Int)))
def zS (c:Int):Bool:=(decide ((97:Int)≤c))&&(decide (c≤(122:Int)))
def vX:p8→Bool
  |[]=>false
  |b::t=>(!decide (40<t.length+1)&&zS b.toNat)&& !(t.any fun b=>zD b.toNat)
theorem aGM (s:p8) (hs:rZ s):FE s=some (vX s):=by
  unfold rZ at hs;unfold FE;cases s with
  |nil=>simp [vX]
  | cons b t=>
    have hb0:rJ (b::t) (0:Int)=(b.toNat:Int):=xB (i:=0) pE;rw[aSj (fun _=>⟨aTa 0,by simp only[aSq];omega⟩),hb0];unfold vX;by_cases hl:(40:Int)<((b::t).length:Int)
    · have hl2:40<t.length+1:=by simp only[aSq] at hl;omega
      rw[aSj (by simp only[hl,decide_true,Bool.or_true,Bool.true_or])];simp [hl2]
    have hl2: ¬40<t.length+1:=by simp only[aSq] at hl;omega
    have hl3: ¬((b::t).length:Int)<1:=by simp;omega
    by_cases hb:zS b.toNat=true
    · rw[aSl (by unfold zS at hb;simp only[hl,hl3,hb];simp)]
      have h:=X6 (f:=RL (b::t)) (l:=b::t) (fun b=>zD b.toNat) (fun _=>false) (fun i h=>by
        unfold RL;rw[aSj (tX h),aSj (sU h),xB h,aSj (uB pC)];rfl) (by
        unfold RL;rw[aSl (xC _)]) t.length 1 pF
      rw[show ((1:Nat):Int)=1 from rfl] at h;rw[h,JJ];simp only[aUn,aTr,hb,hl2,decide_false,Bool.not_false,Bool.true_and];cases t.any fun b=>zD b.toNat<;>rfl
    rw[aSj (by unfold zS at hb;simp only[hb];simp)]
    simp [hb]
theorem aGN (s:p8): ∀(n j:Nat),j+n=s.length→rG (NY s) j=some (if (s.drop j).any (fun b=>zD b.toNat)=true∨(j=0∧s≠[]∧zS (s.getD 0 0).toNat=false) then .inr false else .inl ())
  | 0,j,hj=>by
    have:j=s.length:=by omega
    subst this;rw[aTc,tI];unfold NY;rw[aSl pE];by_cases h0:s=[]
    .subst h0;simp
    · have:s.length≠0:=by simpa using h0
      simp [this]
  | n+1,j,hj=>by
    have hlt:j<s.length:=by omega
    have ih:=aGN s n (j+1) pC;rw[tI,aSK hlt,List.any_cons]
    have hstep:NY s j=if (zD (s[j].toNat:Int)=true∨(j=0∧zS (s[j].toNat:Int)=false)) then some (.inr (.inr false)) else some (.inl (j+1)):=by
      unfold NY;rw[aSj (by simpa using hlt),aSj (by simpa using hlt),aSj (by simpa using hlt)];by_cases ha:s[j].toNat<128
      · obtain⟨e1,e2⟩:=aGI hlt ha
        rw[e1,e2];by_cases h1:zS (s[j].toNat:Int)=true
        · rw[aSj (by unfold zS at h1;exact h1),aSl]
          unfold zS at h1;simp only[aSB,aSs] at h1;simp [zD,zS];omega
        have h1':zS (s[j].toNat:Int)=false:=by simpa using h1
        rw[aSl (by unfold zS at h1;exact h1)]
        have h2: ¬(97≤(s[j].toNat:Int)∧(s[j].toNat:Int)≤122):=by
          unfold zS at h1;simpa using h1
        by_cases h3:zD (s[j].toNat:Int)=true∨j=0
        · rw[aSl,aSj]
          · rcases h3 with h3|h3
            .exact .inl h3
            exact .inr ⟨h3,h1'⟩
          simp [zD] at h3|-
          omega
        rw[aSj,aSl]
        · intro h
          rcases h with h|⟨h,_⟩
          .exact h3 (.inl h)
          exact h3 (.inr h)
        simp [zD] at h3|-
        omega
      have hb:=aGJ hlt pC
      rw[aSl pF,aSl pF,aSj (.inl (by simp [zD];omega))]
    rw[hstep];have hd:s.getD 0 0=s[0]'pC:=by simp [aSM,aSu (show 0<s.length by omega)]
    have hne:s≠[]:=by intro h;subst h;simp at hlt
    by_cases hp:zD (s[j].toNat:Int)=true∨(j=0∧zS (s[j].toNat:Int)=false)
    · rw[aSj hp,aSj]
      .rfl
      rcases hp with hp|⟨rfl,hp⟩
      .left;simp [hp]
      right;exact⟨rfl,hne,by rw[hd];exact hp⟩
    rw[aSl hp]
    show rG _ (j+1)=_;rw[ih]
    have hnb:zD (s[j].toNat:Int)=false:=by
      cases h:zD (s[j].toNat:Int) with
      |true=>exact absurd (.inl h) hp
      |false=>rfl
    simp only[hnb,Bool.false_or];congr 2;apply propext;constructor
    · rintro(h|⟨h,_⟩)
      .exact .inl h
      omega
    rintro(h|⟨rfl,_,h⟩)
    .exact .inl h
    rw[hd] at h
    exact absurd (.inr ⟨rfl,h⟩) hp
theorem aGO (s:p8):DR s=some (vX s):=by
  have h:=aGN s s.length 0 pC;unfold DR;rw[h,aTr];cases s with
  |nil=>simp [vX,tC]
  | cons b t=>
    simp only[List.any_cons,List.getD_cons_zero,ne_eq,reduceCtorEq,not_false_eq_true,true_and,vX];cases hs:zS b.toNat with
    |false=>simp [tC]
    | true=>
      have hn:zD b.toNat=false:=by
        unfold zS at hs;simp only[aSB,aSs] at hs;simp [zD];omega
      simp only[hn,Bool.false_or];cases t.any (fun b=>zD b.toNat) with
      |true=>simp [tC]
      | false=>
        simp only[aTy,false_or,and_false,aUj];show some (decide ((1:Int)≤((b::t).length:Int))&&decide (((b::t).length:Int)≤40))=_;congr 1;rw[aTZ];simp only[aSq,aSB,aSs,aSV,aS2,Bool.not_false,and_true];omega
theorem aNv {α:Type}{p:α→Bool}{l:List α}:xY (fun _=>true) false (l.findIdx? p)=l.any p:=by
  rw[JJ];cases l.any p<;>rfl
theorem HE {β:Type}{f:Nat→β}{b:β}{o:pL}:tC (some (xY (fun k=> .inr (f k)) (.inl ()) o)) (fun _=>some b)=some (xY f b o):=by
  cases o<;>rfl
theorem aNw (l:p9) (s:p8) (hl:rZ l):DU l s=some (xY (fun k=>(k:Int)) (-1) (l.findIdx? fun x=>decide (s=x))):=by
  unfold rZ at hl
  have h:=EC (f:=RD l s) (l:=l) (fun x=>decide (s=x)) (fun k=>(k:Int)) (fun i h=>by
    unfold RD;rw[aSj (tX h),aSj (sU h),AD (t:= .str) h,aSj (uB pC)]) (by
    unfold RD;rw[aSl (xC _)])
  unfold DU;rw[h,HE]
theorem aNx {α:Type}{p:α→Bool}{l:List α}:decide ((0:Int)≤xY (fun k=>(k:Int)) (-1) (l.findIdx? p))=l.any p:=by
  rw[JJ];cases l.any p
  .rfl
  simp only[aTQ,aSs];omega
def HF:p9:=[[110,101,119],[102,117,122,122,121],[116,114,97,110,115,108,97,116,101,100],[114,101,118,105,101,119,101,100],[111,98,115,111,108,101,116,101]]
def xD (s:p8):Int:=xY (fun k=>(k:Int)) (-1) (HF.findIdx? fun x=>decide (x=s))
theorem aGP (s:p8):GQ s=some (xD s):=by
  have h:=EC (f:=R6 s) (l:=HF) (fun x=>decide (x=s)) (fun k=>(k:Int)) (fun i h=>by
    have h5:i<5:=h;unfold R6 R3;rw[aSj pF,aSj (⟨pC,by simp;omega⟩)];show (if decide (qH .str HF (i:Int)=s)=true then _ else _)=_;rw[AD (t:= .str) h,aSj (uB pC)]) (by
    unfold R6;rw[aSl (by simp [HF])])
  unfold GQ;rw[h,HE];rfl
abbrev tM:=p8×p8×Unit
abbrev tF:Ty:= .pair .str (.pair .str .unit)
def xZ (l:List tM) (n:p8):pL:=l.findIdx? fun x=>decide (x.1=n)
def ED (l:List tM) (n:p8):p8×Bool:=xY (fun k=>((l.getD k ([],[],())).2.1,true)) ([],false) (xZ l n)
theorem aGQ (l:List tM) (n:p8):(ED l n).2=l.any fun x=>decide (x.1=n):=by
  unfold ED xZ;rw[JJ];cases l.any fun x=>decide (x.1=n)<;>rfl
theorem aGR (l:List tM) (n:p8) (hl:rZ l):GR l n=some (ED l n):=by
  unfold rZ at hl
  have h:=EC (f:=R8 l n) (l:=l) (fun x=>decide (x.1=n)) (fun k=>((l.getD k ([],[],())).2.1,true)) (fun i h=>by
    unfold R8;rw[aSj (tX h),aSj (sU h),AD (t:=tF) h,aSj (sU h),aSj (uB pC),aSM,aSu h];rfl) (by
    unfold R8;rw[aSl (xC _)])
  unfold GR;rw[h,HE];rfl
theorem aNy (l:List tM) (n:p8) (hl:rZ l):LW l n=some (xY (fun k=>(k:Int)) (-1) (xZ l n)):=by
  unfold rZ at hl
  have h:=EC (f:=RI l n) (l:=l) (fun x=>decide (x.1=n)) (fun k=>(k:Int)) (fun i h=>by
    unfold RI;rw[aSj (tX h),aSj (sU h),AD (t:=tF) h,aSj (uB pC)]) (by
    unfold RI;rw[aSl (xC _)])
  unfold LW O4;rw[h,HE];rfl
theorem RX {l:List tM}{n:p8}{k:Nat}(h:xZ l n=some k):k<l.length:=by
  unfold xZ at h;exact(aS5.1 h).1
theorem aNz (l:List tM) (n:p8) (hl:rZ l):JB l n=some (ED l n):=by
  unfold JB;rw[aNy l n hl];unfold ED;cases h:xZ l n with
  |none=>rfl
  | some k=>
    have hk:=RX h;simp only[xY,aSm];rw[aSl pE,aSj (sU hk),AD (t:=tF) hk];simp only[xY,aSM,aSu hk];rfl
def uJ (l:List tM) (n:p8):Nat:=(l.findIdx? fun x=> !(Op.bytesLess x.1 n||decide (x.1=n))).getD l.length
def xE (l:List tM) (n v:p8):List tM:=xY (fun k=>l.set k (n,v,())) (l.take (uJ l n)++[(n,v,())]++l.drop (uJ l n)) (xZ l n)
theorem aGS (l:List tM) (n:p8):uJ l n≤l.length:=by
  unfold uJ;cases h:l.findIdx? fun x=> !(Op.bytesLess x.1 n||decide (x.1=n)) with
  |none=>exact aSE _
  |some k=>exact Nat.le_of_lt (aS5.1 h).1
theorem aGT {l:List tM}{n:p8}{k:Nat}(h:xZ l n=some k) (hk:k<l.length):l[k].1=n:=by
  unfold xZ at h;have:=(aS5.1 h).2.1;simpa using this
theorem aGU {α:Type}{f:Int→Option (Int⊕Int)}{l:List α}(p:α→Bool)
    (hf: ∀(i:Nat) (h:i<l.length),f i=if p l[i]=true then some (.inl (i+1)) else some (.inr i)) (he:f l.length=some (.inr l.length)):
    ∀(n j:Nat),j+n=l.length→rG f j=some (((j+((l.drop j).findIdx? fun x=> !p x).getD n:Nat)):Int)
  | 0,j,hj=>by
    have:j=l.length:=by omega
    subst this;rw[aTc,tI,he];simp
  | n+1,j,hj=>by
    have hlt:j<l.length:=by omega
    rw[tI,hf j hlt,aSK hlt,aTH];by_cases hp:p l[j]=true
    · rw[aSj hp,aSl (by simp [hp])]
      show rG f ((j:Int)+1)=_;rw[show ((j:Int)+1)=((j+1:Nat):Int) by omega,aGU p hf he n (j+1) pC];cases(l.drop (j+1)).findIdx? fun x=> !p x with
      |none=>simp;omega
      |some k=>simp;omega
    rw[aSl hp,aSj (by simpa using hp)]
    simp
theorem aGV {α:Type}{f:Int→Option (Int⊕Int)}{l:List α}(p:α→Bool)
    (hf: ∀(i:Nat) (h:i<l.length),f i=if p l[i]=true then some (.inl (i+1)) else some (.inr i)) (he:f l.length=some (.inr l.length)):
    rG f 0=some (((l.findIdx? fun x=> !p x).getD l.length:Nat):Int):=by
  have:=aGU p hf he l.length 0 pC;simpa using this
theorem OT {α:Type}{l:List α}{k:Nat}:qU l 0 (k:Int)=l.take k:=by unfold qU;simp
theorem CS {α:Type}{l:List α}{k:Nat}:qU l (k:Int) (l.length:Int)=l.drop k:=by
  unfold qU;rw[aTb,aTb,List.take_of_length_le];rw[aSR];exact aSE _
theorem aGW (l:List tM) (n v:p8) (hl:rZ l):GS l n v=some (xE l n v):=by
  have hl':=hl;unfold rZ at hl';unfold GS;rw[aSj pC]
  have h1:=EC (f:=R9 l n v) (l:=l) (fun x=>decide (x.1=n)) (fun k=>l.set k ((l.getD k ([],[],())).1,(v,(l.getD k ([],[],())).2.2))) (fun i h=>by
    unfold R9;rw[List.nil_append,aSj (tX h),aSj (sU h),AD (t:=tF) h,aSj (sU h),aSj (uB pC),aSM,aSu h,aTb];rfl) (by
    unfold R9;rw[List.nil_append,aSl (xC _)])
  rw[h1];unfold xE;show tC (some (xY _ _ (xZ l n))) _=_;cases h:xZ l n with
  | some k=>
    have hk:=RX h;simp only[xY,aSM,aSu hk];show some (l.set k _)=_;congr 2;exact Prod.ext (aGT h hk) rfl
  | none=>
    show sR (rG (LC l n) 0) _=_
    have h2:=aGV (f:=LC l n) (l:=l) (fun x=>Op.bytesLess x.1 n||decide (x.1=n)) (fun i h=>by
      unfold LC;rw[aSj (fun _=>sU h),AD (t:=tF) h,tX h,Bool.true_and,aSj (uB pC)]) (by
      unfold LC;have hF:decide ((l.length:Int)<(l.length:Int))=false:=by simp
      rw[hF,aSj (fun h=>by simp at h),aTV,aSl pD])
    rw[show rG (LC l n) 0=some ((uJ l n:Nat):Int) from h2];have hk:=aGS l n;unfold sR;rw[aSm,aSj ⟨aTa _,pC,pC⟩,OT,CS,aSj pF,aSj pF,aSj ⟨pC,pC,aTa _⟩,aSj pF];simp [xY]
def AE (n:Int):Prop:=0≤n∧n≤1114111∧(n<55296∨57343<n)
def wP (n:Int):Bool:=(((decide ((0:Int)≤n))&&(decide (n≤(1114111:Int))))&&((decide (n<(55296:Int)))||(decide ((57343:Int)<n))))
theorem HG (n:Int):wP n=true↔AE n:=by
  unfold wP AE;simp;omega
theorem X8 {n:Int}(h0:0≤n) (h1:n≤127):Lib.encodeRune n=tQ [n]:=by
  unfold Lib.encodeRune;rw[Lib.encodeRuneZ_one h0 h1];rfl
theorem X9 {n:Int}(h0:128≤n) (h1:n≤2047):Lib.encodeRune n=tQ [192+n/64,128+n%64]:=by
  unfold Lib.encodeRune;rw[Lib.encodeRuneZ_two h0 h1];rfl
theorem a8r {n:Int}(h:(2048≤n∧n<55296)∨(57343<n∧n≤65535)):Lib.encodeRune n=tQ [224+n/4096,128+n/64%64,128+n%64]:=by
  unfold Lib.encodeRune;rw[Lib.encodeRuneZ_three h];rfl
theorem aGX {n:Int}(h0:65536≤n) (h1:n≤1114111):Lib.encodeRune n=tQ [240+n/262144,128+n/4096%64,128+n/64%64,128+n%64]:=by
  unfold Lib.encodeRune;rw[Lib.encodeRuneZ_four h0 h1];rfl
theorem a8s {n:Int}(h:AE n):BR n=some (Lib.encodeRune n):=by
  obtain⟨h0,h1,hs⟩:=h;have w1:IntKind.i64.wrap (n/64)=n/64:=by rw[aTz];omega
  have w2:IntKind.i64.wrap (n/4096)=n/4096:=by rw[aTz];omega
  have w3:IntKind.i64.wrap (n/262144)=n/262144:=by rw[aTz];omega
  have m1:Int.tmod n 64=n%64:=aT8 h0;have m2:Int.tmod (n/64) 64=n/64%64:=aT8 pC;have m3:Int.tmod (n/4096) 64=n/4096%64:=aT8 pC;unfold BR;simp only[Int.tdiv_eq_ediv_of_nonneg h0,w1,w2,w3,m1,m2,m3,aTG];by_cases c1:n<128
  .rw[aSj (by simpa using c1),X8 h0 pC,show n%256=n by omega]
  rw[aSl (by simpa using c1)]
  by_cases c2:n<2048
  .rw[aSj (by simpa using c2),aSj (by unfold pY;omega),aSj (by unfold pY;omega),X9 pC pC,show (192+n/64) %256=192+n/64 by omega,show (128+n%64) %256=128+n%64 by omega]
  rw[aSl (by simpa using c2)]
  by_cases c3:n<65536
  .rw[aSj (by simpa using c3),aSj (by unfold pY;omega),aSj (by unfold pY;omega),aSj (by unfold pY;omega),a8r pC,show (224+n/4096) %256=224+n/4096 by omega,show (128+n/64%64) %256=128+n/64%64 by omega,show (128+n%64) %256=128+n%64 by omega]
  rw[aSl (by simpa using c3),aSj (by unfold pY;omega),aSj (by unfold pY;omega),aSj (by unfold pY;omega),aSj (by unfold pY;omega),aGX pC pC,show (240+n/262144) %256=240+n/262144 by omega,show (128+n/4096%64) %256=128+n/4096%64 by omega,show (128+n/64%64) %256=128+n/64%64 by omega,show (128+n%64) %256=128+n%64 by omega]
theorem a8t {n:Int}{k:Int}{j:Nat}(hj:k.toNat=j) (h32:j≤32):y7 .i32 n k=n/2^j:=by
  unfold y7;rw[hj,show min j IntKind.i32.bits=j from Nat.min_eq_left h32,Int.fdiv_eq_ediv_of_nonneg];exact Int.pow_nonneg pD
theorem aNA {n:Int}(p:pI) (h:AE n) (hp:rZ p):J6 p n=some (p++Lib.encodeRuneZ n):=by
  obtain⟨h0,h1,hs⟩:=h;unfold rZ at hp;have u:IntKind.u32.wrap n=n:=by rw[IntKind.wrap_u32];omega
  have s6:y7 .i32 n 6=n/64:=a8t (j:=6) rfl pD;have s12:y7 .i32 n 12=n/4096:=a8t (j:=12) rfl pD;have s18:y7 .i32 n 18=n/262144:=a8t (j:=18) rfl pD
  have b0:bits .or .u8 128 (bits .and .u8 (n%256) 63)=128+n%64:=by
    rw[u8_and63 (x:=n%256) pC pC,show n%256%64=n%64 by omega,u8_or128 (y:=n%64) pC pC]
  have b1:bits .or .u8 128 (bits .and .u8 (n/64%256) 63)=128+n/64%64:=by
    rw[u8_and63 (x:=n/64%256) pC pC,show n/64%256%64=n/64%64 by omega,u8_or128 (y:=n/64%64) pC pC]
  have b2:bits .or .u8 128 (bits .and .u8 (n/4096%256) 63)=128+n/4096%64:=by
    rw[u8_and63 (x:=n/4096%256) pC pC,show n/4096%256%64=n/4096%64 by omega,u8_or128 (y:=n/4096%64) pC pC]
  unfold J6;rw[u];by_cases c1:n≤127
  .rw[aSj (by simpa using c1),aSj pF,Lib.encodeRuneZ_one h0 c1,aTG,show n%256=n by omega]
  rw[aSl (by simpa using c1)]
  unfold LJ;simp only[u,s6,s12,s18,aTG,b0,b1,b2];by_cases c2:n≤2047
  · rw[aSj (by simpa using c2),aSj pF,Lib.encodeRuneZ_two pC c2,show n/64%256=n/64 by omega,u8_or192 (y:=n/64) pC pC]
    rfl
  rw[aSl (by simpa using c2)]
  by_cases c3:n≤65535
  · have hx:(if decide (n<55296)=true then some (decide (n<55296)) else some ((decide (57343<n))&&(decide (n≤65535))))=some true:=by
      by_cases c:n<55296
      .rw[aSj (by simpa using c)];simp [c]
      rw[aSl (by simpa using c)];simp;omega
    rw[hx];simp only[sR,aSm];rw[aSj trivial,aSj pF,Lib.encodeRuneZ_three pC,show n/4096%256=n/4096 by omega,u8_or224 (y:=n/4096) pC pC];rfl
  have hx:(if decide (n<55296)=true then some (decide (n<55296)) else some ((decide (57343<n))&&(decide (n≤65535))))=some false:=by
    rw[aSl pF];simp;omega
  rw[hx];simp only[sR,aSm];rw[aSl pD,aSj pF,aSj pF,Lib.encodeRuneZ_four pC h1,show n/262144%256=n/262144 by omega,u8_or240 (y:=n/262144) pC pC];rfl
theorem aGY (n:Int):(Lib.encodeRuneZ n).length≤4:=by
  unfold Lib.encodeRuneZ
  repeat' split
  all_goals simp
theorem aGZ {n:Int}(p:pI) (h:AE n) (hp:rZ p): ∃k,JC (p,()) n=some (k,p++Lib.encodeRuneZ n):=by
  have h4:=aGY n;unfold rZ at hp;unfold JC;rw[aNA p h hp];simp only[aSm];rw[aSj (by unfold pY;simp;omega)];exact⟨_,rfl⟩
theorem aNB (n:Int):RO [n] (0,[])=some (.inl (1,if wP n=true then Lib.encodeRuneZ n else Lib.encodeRuneZ 65533)):=by
  unfold RO;have hn:qH (.int .i64) [n] 0=n:=rfl;dsimp only;rw[aSj pE,aSj ⟨aTa _,by simp⟩];simp only[hn];by_cases hs:wP n=true
  · have hsc:=(HG n).1 hs
    obtain⟨k,hk⟩:=aGZ (n:=n) [] hsc (by unfold rZ;simp)
    have wn:IntKind.i32.wrap n=n:=by
      obtain⟨a,b,c⟩:=hsc;rw[IntKind.wrap_i32];omega
    rw[aSj hs];unfold wP at hs;rw[aSl (by rw[hs];decide),wn,hk];simp only[aSm,List.nil_append];rw[aSj (by unfold pY;omega)];rfl
  rw[aSl hs]
  unfold wP at hs;obtain⟨k,hk⟩:=aGZ (n:=65533) [] (by unfold AE;omega) (by unfold rZ;simp);rw[aSj (by simp only[aSV] at hs|-;simpa using hs),show IntKind.i32.wrap 65533=65533 from rfl,hk];simp only[aSm,List.nil_append];rw[aSj (by unfold pY;omega)];rfl
theorem aNC (n:Int):JF n=some (if wP n=true then Lib.encodeRune n else Lib.encodeRune 65533):=by
  unfold JF OK;rw[NJ (aNB n),BP (r:=if wP n=true then Lib.encodeRuneZ n else Lib.encodeRuneZ 65533) (by unfold RO;simp)];simp only[sR,aSm];by_cases hs:wP n=true
  .rw[aSj hs,aSj hs];rfl
  rw[aSl hs,aSl hs];rfl
theorem aG0 {l:p8}{i:Nat}(h:i<l.length):rJ l (i:Int)=((l.getD i 0).toNat:Int):=by
  rw[xB h,aSM,aSu h];rfl
theorem aND {s:p8}{x n:Int}{i:Nat}(h:i<s.length) (hn:(i:Int)<n) (hx:0≤x) (hx1:x≤1000000) (hi:i≤10):DQ s n (x,(i:Int))=
    if (s.getD i 0).toNat/64=2 then some (.inl (64*x+(s.getD i 0).toNat-128,((i+1:Nat):Int))) else some (.inr (.inr (65533,1))):=by
  have hb:=(s.getD i 0).toNat_lt;have hy:=aG0 h;generalize (s.getD i 0).toNat=B at hb hy|-;unfold DQ;dsimp only;rw[aSj (by simpa using hn),aSj (sU h),aSj (fun _=>sU h),hy];by_cases hc:B/64=2
  · rw[aSl pF,aSj hc,aSj (by unfold pY;omega),aSj (sU h),show IntKind.i64.wrap (B:Int)=(B:Int) by rw[aTz];omega,
      aSj (by unfold pY;omega),aSj (by unfold pY;omega),aSj (by unfold pY;omega)]
    rfl
  rw[aSj pF,aSl hc]
theorem a8u {s:p8}{x n i:Int}(h:n≤i):DQ s n (x,i)=some (.inr (.inl x)):=by
  unfold DQ;dsimp only;rw[aSl (by simpa using h)]
def cont (s:p8) (i:Nat):Bool:=decide ((s.getD i 0).toNat/64=2)
def yF (s:p8) (i:Nat) (x:Int):Int:=64*x+(s.getD i 0).toNat-128
theorem a8v {s:p8}{i:Nat}{x m:Int}(h0:0≤x) (hm:x≤m) (hc:cont s i=true):0≤yF s i x∧yF s i x≤64*m+63:=by
  have hb:=(s.getD i 0).toNat_lt;unfold cont at hc;unfold yF;simp only[aSs] at hc;omega
theorem OU {s:p8}{x n:Int}{i:Nat}(h:i<s.length) (hn:(i:Int)<n) (hx:0≤x) (hx1:x≤1000000) (hi:i≤10):
    rG (DQ s n) (x,(i:Int))=if cont s i=true then rG (DQ s n) (yF s i x,((i+1:Nat):Int)) else some (.inr (65533,1)):=by
  rw[tI,aND h hn hx hx1 hi];unfold cont yF;simp only[aSs];by_cases hc:(s.getD i 0).toNat/64=2
  .rw[aSj hc,aSj hc];rfl
  rw[aSl hc,aSl hc];rfl
theorem aNE {s:p8}{x:Int}(h:1<s.length) (hx:0≤x) (hx1:x≤31):rG (DQ s 2) (x,1)=some (if cont s 1=true then .inl (yF s 1 x) else .inr (65533,1)):=by
  show rG _ (x,((1:Nat):Int))=_;rw[OU h pD hx pC pD];by_cases c1:cont s 1=true
  .rw[aSj c1,aSj c1,BP (a8u pD)]
  rw[aSl c1,aSl c1]
theorem aNF {s:p8}{x:Int}(h:2<s.length) (hx:0≤x) (hx1:x≤15):rG (DQ s 3) (x,1)=some (if (cont s 1&&cont s 2)=true then .inl (yF s 2 (yF s 1 x)) else .inr (65533,1)):=by
  show rG _ (x,((1:Nat):Int))=_;rw[OU pC pD hx pC pD];by_cases c1:cont s 1=true
  · have b1:=a8v hx hx1 c1
    rw[aSj c1,OU h pD b1.1 pC pD,c1,Bool.true_and];by_cases c2:cont s 2=true
    .rw[aSj c2,aSj c2,BP (a8u pD)]
    rw[aSl c2,aSl c2]
  rw[aSl c1,aSl (by simp [c1])]
theorem aNG {s:p8}{x:Int}(h:3<s.length) (hx:0≤x) (hx1:x≤7):rG (DQ s 4) (x,1)=some (if (cont s 1&&cont s 2&&cont s 3)=true then .inl (yF s 3 (yF s 2 (yF s 1 x))) else .inr (65533,1)):=by
  show rG _ (x,((1:Nat):Int))=_;rw[OU pC pD hx pC pD];by_cases c1:cont s 1=true
  · have b1:=a8v hx hx1 c1
    rw[aSj c1,OU pC pD b1.1 pC pD,c1,Bool.true_and];by_cases c2:cont s 2=true
    · have b2:=a8v b1.1 b1.2 c2
      rw[aSj c2,OU h pD b2.1 pC pD,c2,Bool.true_and];by_cases c3:cont s 3=true
      .rw[aSj c3,aSj c3,BP (a8u pD)]
      rw[aSl c3,aSl c3]
    rw[aSl c2,aSl (by simp [c2])]
  rw[aSl c1,aSl (by simp [c1])]
def fin (s:p8) (x:Int) (n:Nat):Int×Int:=if wP x=true∧Lib.encodeRune x=s.take n then(x,n) else(65533,1)
theorem a8w {s:p8}{x:Int}{n:Nat}(hn:n≤s.length):
    (if (((!(((decide ((0:Int)≤x))&&(decide (x≤(1114111:Int))))&&((decide (x<(55296:Int)))||(decide ((57343:Int)<x)))))==false)=true→((BR x)).isSome=true) then
    if (((!(((decide ((0:Int)≤x))&&(decide (x≤(1114111:Int))))&&((decide (x<(55296:Int)))||(decide ((57343:Int)<x)))))==false)=true→0≤(0:Int)∧(0:Int)≤(n:Int)∧(n:Int)≤(s.length:Int)) then
     if ((!(((decide ((0:Int)≤x))&&(decide (x≤(1114111:Int))))&&((decide (x<(55296:Int)))||(decide ((57343:Int)<x)))))||(!decide ((val (BR x))=(qU s (0:Int) (n:Int)))))=true then
      some (((65533:Int),(1:Int)))
     else
      some ((x,(n:Int)))
    else none
   else none)=some (fin s x n):=by
  rw[OT];simp only[show (((decide ((0:Int)≤x))&&(decide (x≤(1114111:Int))))&&((decide (x<(55296:Int)))||(decide ((57343:Int)<x))))=wP x from rfl]
  unfold fin;by_cases hs:wP x=true
  · have ho:=a8s ((HG x).1 hs)
    rw[aSj (fun _=>by rw[ho];rfl),aSj (fun _=>⟨aTa _,pC,pC⟩),ho,hs];by_cases he:Lib.encodeRune x=s.take n
    .rw[aSl (by simp [val,he]),aSj ⟨rfl,he⟩]
    rw[aSj (by simp [val,he]),aSl (fun h=>he h.2)]
  have hs':wP x=false:=by simpa using hs
  rw[aSj (fun h=>by simp [hs'] at h),aSj (fun h=>by simp [hs'] at h),aSj (by simp [hs']),aSl (fun h=>hs h.1)]
theorem HH (z:Int) (l:pI) (x:UInt8) (h:z=(x.toNat:Int)):tQ (z::l)=x::tQ l:=by
  show UInt8.ofNat z.toNat::tQ l=_;rw[h];simp
theorem a8x:tQ []=[]:=rfl
theorem OV (l:pI):(tQ l).length=l.length:=by simp [tQ]
theorem aNH {s:p8}(hl:1<s.length) (h0:192≤(s.getD 0 0).toNat) (h0':(s.getD 0 0).toNat<224) (hc:cont s 1=true):
    fin s (yF s 1 ((s.getD 0 0).toNat-192)) 2=(((Lib.decodeL s).1:Int),((Lib.decodeL s).2:Int)):=by
  unfold cont at hc;simp only[aSs] at hc;have k0:=(s.getD 0 0).toNat_lt;have k1:=(s.getD 1 0).toNat_lt
  have hd:Lib.decodeL s=if (s.getD 0 0).toNat%32*64+(s.getD 1 0).toNat%64≥128 then((s.getD 0 0).toNat%32*64+(s.getD 1 0).toNat%64,2) else(65533,1):=by
    rw[Lib.decodeL_N];unfold Lib.decodeN;rw[aSl pC,aSj ⟨pC,pC,hc⟩]
  rw[hd];unfold fin yF;rw[Lib.takeB s hl];have hx:wP (64*((s.getD 0 0).toNat-192)+(s.getD 1 0).toNat-128)=true:=(HG _).2 (by unfold AE;omega);rw[hx];by_cases hv:(s.getD 0 0).toNat%32*64+(s.getD 1 0).toNat%64≥128
  · rw[aSj hv,aSj ⟨rfl,by
      rw[X9 pC pC,HH _ _ (s.getD 0 0) pC,HH _ _ (s.getD 1 0) pC,a8x]⟩]
    exact Prod.ext (by show _=(((_:Nat)):Int);omega) rfl
  rw[aSl hv,aSl (fun h=>by
    have h2:=aSL List.length h.2;rw[X8 pC pC,OV] at h2;simp at h2)]
  rfl
theorem aNI {s:p8}(hl:2<s.length) (h0:224≤(s.getD 0 0).toNat) (h0':(s.getD 0 0).toNat<240) (hc:cont s 1=true) (hc2:cont s 2=true):
    fin s (yF s 2 (yF s 1 ((s.getD 0 0).toNat-224))) 3=(((Lib.decodeL s).1:Int),((Lib.decodeL s).2:Int)):=by
  unfold cont at hc hc2;simp only[aSs] at hc hc2;have k0:=(s.getD 0 0).toNat_lt;have k1:=(s.getD 1 0).toNat_lt;have k2:=(s.getD 2 0).toNat_lt;obtain⟨V,hV⟩: ∃V,(s.getD 0 0).toNat%16*4096+(s.getD 1 0).toNat%64*64+(s.getD 2 0).toNat%64=V:=⟨_,rfl⟩
  have hd:Lib.decodeL s=if V≥2048∧(V<55296∨(57344≤V∧V≤1114111)) then(V,3) else(65533,1):=by
    rw[Lib.decodeL_N];unfold Lib.decodeN;rw[aSl pC,aSl pC,aSj ⟨pC,⟨pC,hc⟩,pC,hc2⟩,hV]
  rw[hd];unfold fin yF;rw[Lib.takeC s hl];generalize hX:64*(64*(((s.getD 0 0).toNat:Int)-224)+(s.getD 1 0).toNat-128)+(s.getD 2 0).toNat-128=X;have hXV:X=(V:Int):=by omega
  by_cases hv:V≥2048∧(V<55296∨(57344≤V∧V≤1114111))
  · rw[aSj hv,aSj ⟨(HG _).2 (by unfold AE;omega),by
      rw[a8r pC,HH _ _ (s.getD 0 0) pC,HH _ _ (s.getD 1 0) pC,HH _ _ (s.getD 2 0) pC,a8x]⟩]
    exact Prod.ext hXV rfl
  rw[aSl hv,aSl (fun h=>by
    have hs:=(HG _).1 h.1;unfold AE at hs;have hlt:X<2048:=by omega
    have h2:=aSL List.length h.2;by_cases h7:X≤127
    .rw[X8 pC h7,OV] at h2;simp at h2
    rw[X9 pC pC,OV] at h2;simp at h2)]
  rfl
theorem aNJ {s:p8}(hl:3<s.length) (h0:240≤(s.getD 0 0).toNat) (h0':(s.getD 0 0).toNat<248) (hc:cont s 1=true) (hc2:cont s 2=true) (hc3:cont s 3=true):
    fin s (yF s 3 (yF s 2 (yF s 1 ((s.getD 0 0).toNat-240)))) 4=(((Lib.decodeL s).1:Int),((Lib.decodeL s).2:Int)):=by
  unfold cont at hc hc2 hc3;simp only[aSs] at hc hc2 hc3;have k0:=(s.getD 0 0).toNat_lt;have k1:=(s.getD 1 0).toNat_lt;have k2:=(s.getD 2 0).toNat_lt;have k3:=(s.getD 3 0).toNat_lt;obtain⟨V,hV⟩: ∃V,(s.getD 0 0).toNat%8*262144+(s.getD 1 0).toNat%64*4096+(s.getD 2 0).toNat%64*64+(s.getD 3 0).toNat%64=V:=⟨_,rfl⟩
  have hd:Lib.decodeL s=if V≥65536∧(V<55296∨(57344≤V∧V≤1114111)) then(V,4) else(65533,1):=by
    rw[Lib.decodeL_N];unfold Lib.decodeN;rw[aSl pC,aSl pC,aSl pC,aSj ⟨pC,⟨pC,hc⟩,⟨pC,hc2⟩,pC,hc3⟩,hV]
  rw[hd];unfold fin yF;rw[Lib.takeD s hl];generalize hX:64*(64*(64*(((s.getD 0 0).toNat:Int)-240)+(s.getD 1 0).toNat-128)+(s.getD 2 0).toNat-128)+(s.getD 3 0).toNat-128=X;have hXV:X=(V:Int):=by omega
  by_cases hv:V≥65536∧(V<55296∨(57344≤V∧V≤1114111))
  · rw[aSj hv,aSj ⟨(HG _).2 (by unfold AE;omega),by
      rw[aGX pC pC,HH _ _ (s.getD 0 0) pC,HH _ _ (s.getD 1 0) pC,HH _ _ (s.getD 2 0) pC,HH _ _ (s.getD 3 0) pC,a8x]⟩]
    exact Prod.ext hXV rfl
  rw[aSl hv,aSl (fun h=>by
    have hs:=(HG _).1 h.1;unfold AE at hs;have hlt:X<65536:=by omega
    have h2:=aSL List.length h.2;by_cases h7:X≤127
    .rw[X8 pC h7,OV] at h2;simp at h2
    by_cases h8:X≤2047
    .rw[X9 pC pC,OV] at h2;simp at h2
    rw[a8r pC,OV] at h2;simp at h2)]
  rfl
theorem MF {s:p8}(h: ¬(s.getD 0 0).toNat<128) (h2: ¬((s.getD 0 0).toNat/32=6∧1<s.length∧cont s 1=true)) (h3: ¬((s.getD 0 0).toNat/16=14∧2<s.length∧(cont s 1&&cont s 2)=true))
    (h4: ¬((s.getD 0 0).toNat/8=30∧3<s.length∧(cont s 1&&cont s 2&&cont s 3)=true)):Lib.decodeL s=(65533,1):=by
  unfold cont at h2 h3 h4;simp only[aSB,aSs] at h2 h3 h4;rw[Lib.decodeL_N];unfold Lib.decodeN;rw[aSl h,aSl (fun⟨a,b,c⟩=>h2 ⟨a,b,c⟩),aSl (fun⟨a,⟨b,c⟩,d,e⟩=>h3 ⟨a,d,c,e⟩),aSl (fun⟨a,⟨b,c⟩,⟨d,e⟩,f,g⟩=>h4 ⟨a,f,⟨c,e⟩,g⟩)]
theorem aNK {s:p8}(hne:s≠[]):IR s=some (((Lib.decodeL s).1:Int),((Lib.decodeL s).2:Int)):=by
  have hl:0<s.length:=aTO.2 hne;have hy:rJ s 0=((s.getD 0 0).toNat:Int):=aG0 (i:=0) hl;have k0:=(s.getD 0 0).toNat_lt;have hw:IntKind.i64.wrap ((s.getD 0 0).toNat:Int)=((s.getD 0 0).toNat:Int):=by rw[aTz];omega
  unfold IR;rw[aSj ⟨aTa _,pC⟩,hy,hw];by_cases c1:(s.getD 0 0).toNat<128
  · rw[aSj (by simp only[aSs];omega)]
    rw[Lib.decodeL_N];unfold Lib.decodeN;rw[aSj c1];rfl
  rw[aSl (by simp only[aSs];omega)]
  by_cases c2:192≤(s.getD 0 0).toNat∧(s.getD 0 0).toNat<224
  · rw[aSj (by simp only[aSB,aSs];omega),aSj (by unfold pY;omega)]
    show (if decide ((s.length:Int)<2)=true then _ else _)=_;by_cases l2:1<s.length
    · rw[aSl (by simp only[aSs];omega),aNE l2 pC pC]
      by_cases hc:cont s 1=true
      · rw[aSj hc,←aNH l2 c2.1 c2.2 hc,←a8w (s:=s) (n:=2) pC]
        rfl
      rw[aSl hc,MF c1 (fun h=>hc h.2.2) (fun h=>by omega) (fun h=>by omega)]
      rfl
    rw[aSj (by simp only[aSs];omega),MF c1 (fun h=>l2 h.2.1) (fun h=>by omega) (fun h=>by omega)]
    rfl
  rw[aSl (by simp only[aSB,aSs];omega)]
  by_cases c3:224≤(s.getD 0 0).toNat∧(s.getD 0 0).toNat<240
  · rw[aSj (by simp only[aSB,aSs];omega),aSj (by unfold pY;omega)]
    show (if decide ((s.length:Int)<3)=true then _ else _)=_;by_cases l2:2<s.length
    · rw[aSl (by simp only[aSs];omega),aNF l2 pC pC]
      by_cases hc:(cont s 1&&cont s 2)=true
      · have hc':=aSB _ _▸hc
        rw[aSj hc,←aNI l2 c3.1 c3.2 hc'.1 hc'.2,←a8w (s:=s) (n:=3) pC];rfl
      rw[aSl hc,MF c1 (fun h=>by omega) (fun h=>hc h.2.2) (fun h=>by omega)]
      rfl
    rw[aSj (by simp only[aSs];omega),MF c1 (fun h=>by omega) (fun h=>l2 h.2.1) (fun h=>by omega)]
    rfl
  rw[aSl (by simp only[aSB,aSs];omega)]
  by_cases c4:240≤(s.getD 0 0).toNat∧(s.getD 0 0).toNat<248
  · rw[aSj (by simp only[aSB,aSs];omega),aSj (by unfold pY;omega)]
    show (if decide ((s.length:Int)<4)=true then _ else _)=_;by_cases l2:3<s.length
    · rw[aSl (by simp only[aSs];omega),aNG l2 pC pC]
      by_cases hc:(cont s 1&&cont s 2&&cont s 3)=true
      · have hc':=aSB _ _▸hc
        have hc'':=aSB _ _▸hc'.1;rw[aSj hc,←aNJ l2 c4.1 c4.2 hc''.1 hc''.2 hc'.2,←a8w (s:=s) (n:=4) pC];rfl
      rw[aSl hc,MF c1 (fun h=>by omega) (fun h=>by omega) (fun h=>hc h.2.2)]
      rfl
    rw[aSj (by simp only[aSs];omega),MF c1 (fun h=>by omega) (fun h=>by omega) (fun h=>l2 h.2.1)]
    rfl
  rw[aSl (by simp only[aSB,aSs];omega),MF c1 (fun h=>by omega) (fun h=>by omega) (fun h=>by omega)]
  rfl
def zE:Nat→p8→pI
  |0,_=>[]
  |n+1,s=>if s=[] then[] else((Lib.decodeL s).1:Int)::zE n (s.drop (Lib.decodeL s).2)
theorem aG1: ∀(n:Nat) (s:p8),(zE n s).length≤n
  |0,_=>aSE _
  | n+1,s=>by
    unfold zE;split
    .simp
    simp only[aSq]
    have:=aG1 n (s.drop (Lib.decodeL s).2);omega
theorem aNL (s:p8):AE ((Lib.decodeL s).1:Int):=by
  have k0:=(s.getD 0 0).toNat_lt;rw[Lib.decodeL_N];rcases Lib.decodeN_shape s.length (s.getD 0 0).toNat (s.getD 1 0).toNat (s.getD 2 0).toNat (s.getD 3 0).toNat with⟨c,e⟩ |⟨c1,c2,c3,cv,e⟩ |⟨c1,c2,c3,c4,cv,cs,e⟩ |⟨c1,c2,c3,c4,c5,cv,cw,e⟩ |e
  all_goals (rw[e];unfold AE;dsimp only;omega)
theorem aG2: ∀(n:Nat) (s:p8) (out:pI),s.length≤n→out.length+s.length≤4000000000→rG OB (s,out)=some (out++zE n s)
  | n,[],out,_,_=>by
    rw[BP (r:=out) (by unfold OB;simp)];cases n<;>simp [zE]
  |0,b::t,_,h,_=>by simp at h
  | n+1,b::t,out,h,ho=>by
    have hne:(b::t)≠[]:=by simp
    have hle:=Lib.decodeL_le (b::t) hne;have hw:=Lib.decodeL_width (b::t)
    have hstep:OB (b::t,out)=some (.inl ((b::t).drop (Lib.decodeL (b::t)).2,out++[((Lib.decodeL (b::t)).1:Int)])):=by
      unfold OB;dsimp only;rw[aSj pE,aNK hne];simp only[aSm];rw[aSj (by simp only[aSq,aSG] at ho|-;omega),aSj ⟨pC,pC,aTa _⟩,CS]
    rw[NJ hstep,aG2 n _ _ (by rw[aSR];simp only[aSq] at h hle|-;omega) (by rw[aSR,aSp];simp only[aSq,aSG] at ho hle|-;omega)];rw[show zE (n+1) (b::t)=((Lib.decodeL (b::t)).1:Int)::zE n ((b::t).drop (Lib.decodeL (b::t)).2) by rw[zE,aSl hne],aSv];rfl
def XA (s:p8):pI:=zE s.length s
theorem aNM (s:p8) (hs:rZ s):J2 s=some (XA s):=by
  unfold rZ at hs;unfold J2;rw[aG2 s.length s [] (aSE _) (by simpa using hs)];rfl
theorem aG3: ∀(n:Nat) (s:p8),∀x∈zE n s,AE x
  |0,_,_,h=>by cases h
  | n+1,s,x,h=>by
    unfold zE at h;split at h
    .cases h
    rcases aSx.1 h with h|h
    .rw[h];exact aNL s
    exact aG3 n _ x h
def JK (l:pI):p8:=(l.map Lib.encodeRune).flatten
theorem a8y (n:Int):(Lib.encodeRune n).length≤4:=by
  unfold Lib.encodeRune;rw[aTE];exact aGY n
theorem aG4 (l:pI) (hsc: ∀x∈l,AE x) (hl:rZ l): ∀(n j:Nat) (s:p8),j+n=l.length→s.length+4*n≤10000000000000→rG (OA l) (s,(j:Int))=some (s++JK (l.drop j))
  | 0,j,s,hj,_=>by
    have:j=l.length:=by omega
    subst this;rw[BP (r:=s) (by unfold OA;simp),aTc];simp [JK]
  | n+1,j,s,hj,hs=>by
    have hlt:j<l.length:=by omega
    unfold rZ at hl;have hx:=hsc l[j] (aTq hlt);have h4:=a8y l[j]
    have hstep:OA l (s,(j:Int))=some (.inl (s++Lib.encodeRune l[j],((j+1:Nat):Int))):=by
      unfold OA;dsimp only;rw[aSj (tX hlt),aSj (sU hlt),AD (t:= .int .i64) hlt];have hb:=(HG l[j]).2 hx;unfold wP at hb;rw[aSj hb,aSj (sU hlt),a8s hx];simp only[aSm];rw[aSj (by rw[aSp];omega),aSj (uB pC)];rfl
    rw[NJ hstep,aG4 l hsc hl n (j+1) _ pC (by rw[aSp];omega),aSK hlt,aSv];rfl
theorem aNN (l:pI) (hsc: ∀x∈l,AE x) (hl:rZ l):LS l=some (JK l):=by
  have hl':=hl;unfold rZ at hl';unfold LS;rw[show ((0:Int))=((0:Nat):Int) from rfl,aG4 l hsc hl l.length 0 [] pC pF];rfl
theorem aG5: ∀(n:Nat) (s:p8),s.length≤n→s.length≤(JK (zE n s)).length∧(JK (zE n s)=s↔Lib.validD s=true)
  | n,[],_=>by
    have:zE n []=[]:=by cases n<;>simp [zE]
    rw[this];simp [JK,Lib.validD_nil]
  |0,b::t,h=>by simp at h
  | n+1,b::t,h=>by
    have hne:(b::t)≠[]:=by simp
    have hle:=Lib.decodeL_le (b::t) hne;have hw:=Lib.decodeL_width (b::t);obtain⟨ih1,ih2⟩:=aG5 n ((b::t).drop (Lib.decodeL (b::t)).2) (by rw[aSR];simp only[aSq] at h|-;omega)
    have hr:JK (zE (n+1) (b::t))=Lib.encodeRune ((Lib.decodeL (b::t)).1:Int)++JK (zE n ((b::t).drop (Lib.decodeL (b::t)).2)):=by
      rw[zE,aSl hne];rfl
    rw[hr,Lib.validD_step _ hne];rw[aSR] at ih1;by_cases hv:(Lib.decodeL (b::t)).1=65533∧(Lib.decodeL (b::t)).2=1
    · rw[aSj hv,hv.1]
      have e3:(Lib.encodeRune ((65533:Nat):Int)).length=3:=rfl;rw[hv.2] at ih1|-;refine⟨by rw[aSp,e3];omega,fun he=>?_,fun he=>by cases he⟩;have:=aSL List.length he;rw[aSp,e3] at this;omega
    have he:=Lib.encode_decode (b::t) hne hv
    rw[aSl hv,he];refine⟨by rw[aSp,aSX];omega,?_⟩;rw[←ih2];constructor
    · intro h1
      exact List.append_cancel_left (h1.trans (aTv _ _).symm)
    intro h1
    rw[h1,aTv]
theorem aNO (s:p8) (hs:rZ s):E6 s=some (Lib.validD s):=by
  have hl:rZ (XA s):=by
    have:=aG1 s.length s;unfold rZ XA at*;omega
  unfold E6;rw[aNM s hs];simp only[aSm];rw[aNN (XA s) (fun x hx=>aG3 _ _ x hx) hl];simp only[aSm];congr 1;have:=(aG5 s.length s (aSE _)).2;rw[aTZ,aSs];exact this
def sS (s:p8):Bool:=decide ((s.length:Int)≤4000)&&Lib.validD s
theorem XB (s:p8) (hs:rZ s):M3 s=some ()∧((decide ((s.length:Int)≤4000))&&val (E6 s))=sS s:=by
  unfold M3;rw[aNO s hs];exact⟨aSj (fun _=>rfl),rfl⟩
theorem aG6 (s:p8) (hs:rZ s):LQ s=some ():=by
  unfold rZ at hs;unfold LQ RA;rw[aSj (fun _=>by rw[aSj pC];rfl)]
theorem aNP (a b:p8):(!Op.bytesLess a b)=(Op.bytesLess b a||decide (b=a)):=by
  rw[bytesLess_eq,bytesLess_eq,aTZ];simp only[aSV,aS2,aTP,aSs];constructor
  · intro h
    exact(List.le_iff_lt_or_eq.1 (List.not_lt.1 h))
  rintro(h|h)
  .exact List.lt_asymm h
  rw[h];exact List.lt_irrefl _
def B7 (l:p9):Bool:=decide ((l.length:Int)≤20)&& !(l.any fun x=> !sS x)
def a8z (l:p9) (i:Nat):Bool:=(!vX (l.getD i []))||(decide (0<i)&& !Op.bytesLess (l.getD (i-1) []) (l.getD i []))
def OW (l:p9):Bool:= !((List.range l.length).any (a8z l))&&decide ((l.length:Int)≤20)
abbrev fD:tM:=([],([],()))
def a8A (l:List tM) (i:Nat):Bool:=((!vX (l.getD i fD).1)||(!sS (l.getD i fD).2.1))||(decide (0<i)&& !Op.bytesLess (l.getD (i-1) fD).1 (l.getD i fD).1)
def zF (l:List tM):Bool:= !((List.range l.length).any (a8A l))&&decide ((l.length:Int)≤20)
abbrev JL:=rW
def JM (x:JL):Bool:=
  (((((((!decide (x.1=[]))&&decide ((x.1.length:Int)≤200))&&sS x.1)&&sS x.2.1)&&sS x.2.2.1)&&B7 x.2.2.2.1)&&OW x.2.2.2.2.1)&&(decide (0≤x.2.2.2.2.2.1)&&decide (x.2.2.2.2.2.1≤4))&&zF x.2.2.2.2.2.2.1
theorem sib (l:p8) (b:UInt8):vV l (b.toNat:Int)=Lib.indexByte l b:=by
  unfold vV;rw[aTb];congr 1;simp
def v7 (d:UInt8):p8→pL
  |[]=>none
  |[b]=>if b=d then some 0 else none
  |b::c::t=>if b=d then some 0 else if b=92 then(v7 d t).map (· +2) else(v7 d (c::t)).map (· +1)
def JN:pL→Int
  |some k=>k
  |none=> -1
theorem a8B {d:UInt8}:v7 d []=none:=by unfold v7;rfl
theorem aG8 {d b:UInt8}{t:p8}(h:b=d):v7 d (b::t)=some 0:=by
  subst h;cases t<;>(unfold v7;simp)
theorem aG9 {d b:UInt8}{t:p8}(h:b≠d) (hb:b=92):v7 d (b::t)=(v7 d (t.drop 1)).map (· +2):=by
  cases t with
  |nil=>unfold v7;rw[aSl h];simp [v7]
  |cons c t=>rw[v7,aSl h,aSj hb];rfl
theorem aHa {d b:UInt8}{t:p8}(h:b≠d) (hb:b≠92):v7 d (b::t)=(v7 d t).map (· +1):=by
  cases t with
  |nil=>unfold v7;rw[aSl h];simp [v7]
  |cons c t=>rw[v7,aSl h,aSl hb]
theorem OX {d:UInt8}: ∀(n:Nat) (l:p8) (k:Nat),l.length≤n→v7 d l=some k→k<l.length
  |_,[],_,_,h=>by rw[a8B] at h;cases h
  |0,_::_,_,hn,_=>by simp at hn
  | n+1,b::t,k,hn,h=>by
    simp only[aSq] at hn|-;by_cases h1:b=d
    .rw[aG8 h1] at h;cases h;omega
    by_cases h2:b=92
    · rw[aG9 h1 h2] at h
      cases h3:v7 d (t.drop 1) with
      |none=>rw[h3] at h;cases h
      | some j=>
        rw[h3] at h;obtain rfl:j+2=k:=aSo h;have:=OX n (t.drop 1) j (by rw[aSR];omega) h3;rw[aSR] at this;omega
    rw[aHa h1 h2] at h
    cases h3:v7 d t with
    |none=>rw[h3] at h;cases h
    | some j=>
      rw[h3] at h;obtain rfl:j+1=k:=aSo h;have:=OX n t j pC h3;omega
theorem RY {a b:UInt8}:((a.toNat:Int)=(b.toNat:Int))↔a=b:=by
  rw[Int.ofNat_inj];exact UInt8.toNat_inj
theorem a8C (n:Int) (hn:n≠4) (s:p8) (d:UInt8) (hs:rZ s): ∀(k i:Nat),s.length+1≤i+k→rG (LF n s (d.toNat:Int)) (i:Int)=some (xY (fun k=> .inr ((i+k:Nat):Int)) (.inl ()) (v7 d (s.drop i)))
  | 0,i,h=>by
    rw[List.drop_eq_nil_of_le pC,a8B,BP (r:= .inl ()) (by unfold LF;rw[aSl pF])];rfl
  | k+1,i,h=>by
    by_cases hlt:i<s.length
    · have hs':=hs
      unfold rZ at hs'
      have hstep:LF n s (d.toNat:Int) (i:Int)=if s[i]=d then some (.inr (.inr (i:Int))) else if s[i]=92 then some (.inl ((i+2:Nat):Int)) else some (.inl ((i+1:Nat):Int)):=by
        unfold LF;rw[aSj (tX hlt),aSj (sU hlt),xB hlt];by_cases h1:s[i]=d
        .rw[aSj (by simp [h1]),aSj h1]
        rw[aSl (by simpa[RY] using h1),aSl h1,aSj (fun _=>sU hlt)]
        have h92:((92:Int))=((92:UInt8).toNat:Int):=rfl;by_cases h2:s[i]=92
        · rw[aSj (by rw[h2];simp [hn]),aSj h2,aSj (uB pC),aSj (by unfold pY;omega)]
          congr 3
        rw[aSl (fun h=>by
          simp only[aSB,aSs] at h;exact h2 (RY.1 (h.2.trans h92))),aSl h2,aSj (uB pC)]
        rfl
      rw[tI,hstep,aSK hlt];by_cases h1:s[i]=d
      .rw[aSj h1,aG8 h1];rfl
      rw[aSl h1]
      by_cases h2:s[i]=92
      · rw[aSj h2,aG9 h1 h2]
        show rG _ ((i+2:Nat):Int)=_;rw[a8C n hn s d hs k (i+2) pC,aUk];cases v7 d (s.drop (i+2)) with
        |none=>rfl
        | some j=>
          show some (Sum.inr ((i+2+j:Nat):Int))=some (Sum.inr ((i+(j+2):Nat):Int));rw[show i+2+j=i+(j+2) by omega]
      rw[aSl h2,aHa h1 h2]
      show rG _ ((i+1:Nat):Int)=_;rw[a8C n hn s d hs k (i+1) pC];cases v7 d (s.drop (i+1)) with
      |none=>rfl
      | some j=>
        show some (Sum.inr ((i+1+j:Nat):Int))=some (Sum.inr ((i+(j+1):Nat):Int));rw[show i+1+j=i+(j+1) by omega]
    rw[List.drop_eq_nil_of_le pC,a8B,BP (r:= .inl ()) (by unfold LF;rw[aSl pF])]
    rfl
theorem aHb {n:Int}(h1:1≤n) (h3:n≤3) (s:p8) (d:UInt8) (hs:rZ s):GV n s (d.toNat:Int)=some (JN (v7 d s)):=by
  unfold GV;have h:=a8C n pC s d hs (s.length+1) 0 pC;rw[aSl pF,show ((0:Int))=((0:Nat):Int) from rfl,h,aTr];cases v7 d s with
  |none=>rfl
  | some k=>
    show some (((0+k:Nat)):Int)=some (k:Int);rw[aSS]
theorem aNQ (n:Int) (s:p8) (c:Int):LE n s c=GV n s c:=by
  unfold LE GV;rfl
def B8 (c base:Int):Int:=
  let n:=if 48≤c∧c≤57 then c-48 else if 97≤c∧c≤102 then c-87 else if 65≤c∧c≤70 then c-55 else-1
  if base≤n then-1 else n
theorem aNR {c:Int}(base:Int) (h0:0≤c) (h1:c≤255):LI c base=some (B8 c base):=by
  unfold LI B8;by_cases a:48≤c∧c≤57
  · rw[aSj (by simpa using a),aSj a,show IntKind.i64.wrap (IntKind.u8.wrap (c-48))=c-48 by rw[aTG,aTz];omega]
    simp only[sR,aSm,aSs];split<;>rfl
  rw[aSl (by simpa using a),aSl a]
  by_cases b:97≤c∧c≤102
  · rw[aSj (by simpa using b),aSj b,show IntKind.i64.wrap (IntKind.u8.wrap (c-97))=c-97 by rw[aTG,aTz];omega,aSj (by unfold pY;omega),show c-97+10=c-87 by omega]
    simp only[sR,aSm,aSs];split<;>rfl
  rw[aSl (by simpa using b),aSl b]
  by_cases d:65≤c∧c≤70
  · rw[aSj (by simpa using d),aSj d,show IntKind.i64.wrap (IntKind.u8.wrap (c-65))=c-65 by rw[aTG,aTz];omega,aSj (by unfold pY;omega),show c-65+10=c-55 by omega]
    simp only[sR,aSm,aSs];split<;>rfl
  rw[aSl (by simpa using d),aSl d]
  simp only[sR,aSm,aSs];split<;>rfl
def XC:p8:=[48,49,50,51,52,53,54,55,56,57,97,98,99,100,101,102]
theorem aNS: ∀n:Fin 256,Lib.indexByte XC (UInt8.ofNat n)=if 48≤(n.val:Int)∧(n.val:Int)≤57 then(n.val:Int)-48 else if 97≤(n.val:Int)∧(n.val:Int)≤102 then(n.val:Int)-87 else-1:=by decide
theorem aNT (b:UInt8):Lib.indexByte XC b=if 48≤(b.toNat:Int)∧(b.toNat:Int)≤57 then(b.toNat:Int)-48 else if 97≤(b.toNat:Int)∧(b.toNat:Int)≤102 then(b.toNat:Int)-87 else-1:=by
  have:=aNS ⟨b.toNat,b.toNat_lt⟩;simpa using this
def zG (base:Int):Int→p8→Option Int
  |acc,[]=>some acc
  |acc,b::t=>if B8 b.toNat base<0 then none else zG base (base*acc+B8 b.toNat base) t
theorem aHc {c base:Int}(hb:0<base): -1≤B8 c base∧B8 c base<base:=by
  unfold B8;dsimp only
  repeat' split
  all_goals omega
theorem aHd (s:p8) (base:Int) (hb:0<base) (hb16:base≤16) (hs:s.length≤8): ∀(k j:Nat) (acc:Int),j+k=s.length→0≤acc→acc<16^j→
    rG (OE s base) (acc,(j:Int))=some (match zG base acc (s.drop j) with|some n=> .inl n|none=> .inr (-1))
  | 0,j,acc,hj,_,_=>by
    have:j=s.length:=by omega
    subst this;rw[aTc,BP (r:= .inl acc) (by unfold OE;simp)];rfl
  | k+1,j,acc,hj,h0,h1=>by
    have hlt:j<s.length:=by omega
    have hc:=s[j].toNat_lt;have hd:=aHc (c:=(s[j].toNat:Int)) hb
    have hp:(16:Int) ^j≤16^8:=by
      have:(16:Nat) ^j≤16^8:=Nat.pow_le_pow_right pD pC
      exact_mod_cast this
    have h8:(16:Int) ^8=4294967296:=by decide
    have hm:base*acc≤16*acc:=Int.mul_le_mul_of_nonneg_right hb16 h0;have hm0:0≤base*acc:=Int.mul_nonneg pC h0
    have hstep:OE s base (acc,(j:Int))=if B8 s[j].toNat base<0 then some (.inr (.inr (-1))) else some (.inl (base*acc+B8 s[j].toNat base,((j+1:Nat):Int))):=by
      unfold OE;dsimp only;rw[aSj (tX hlt),aSj (sU hlt),xB hlt,aNR base pC pC];simp only[aSm,aSs];by_cases hn:B8 s[j].toNat base<0
      .rw[aSj hn,aSj hn]
      rw[aSl hn,aSl hn,aSj (by unfold pY;omega),aSj (by unfold pY;omega),aSj (uB pC)]
      rfl
    rw[tI,hstep,aSK hlt,zG];by_cases hn:B8 s[j].toNat base<0
    .rw[aSj hn,aSj hn];rfl
    rw[aSl hn,aSl hn]
    show rG _ (_,((j+1:Nat):Int))=_;exact aHd s base hb hb16 hs k (j+1) _ pC pC (by rw[Int.pow_succ];omega)
theorem aHe (s:p8) (base:Int) (hb:0<base) (hb16:base≤16) (hs:s.length≤8):FF s base=some (if s=[] then-1 else(zG base 0 s).getD (-1)):=by
  unfold FF;rw[show ((0:Int),(0:Int))=((0:Int),((0:Nat):Int)) from rfl,aHd s base hb hb16 hs s.length 0 0 pC pC pD,aTr];cases h:zG base 0 s with
  | none=>
    have:s≠[]:=by intro hn;subst hn;simp [zG] at h
    rw[aSl this];rfl
  | some n=>
    show (if decide (s=[])=true then _ else _)=_;by_cases he:s=[]
    .rw[aSj (by simpa using he),aSj he]
    rw[aSl (by simpa using he),aSl he];rfl
theorem aHf (s:p8) (base:Int) (hb:0<base) (hb16:base≤16) (hs:s.length≤8): ∀(k j:Nat) (acc:Int),j+k=s.length→0≤acc→acc<16^j→
    rG (O2 s base) (acc,(j:Int))=some (match zG base acc (s.drop j) with|some n=> .inl n|none=> .inr (0,false))
  | 0,j,acc,hj,_,_=>by
    have:j=s.length:=by omega
    subst this;rw[aTc,BP (r:= .inl acc) (by unfold O2;simp)];rfl
  | k+1,j,acc,hj,h0,h1=>by
    have hlt:j<s.length:=by omega
    have hc:=s[j].toNat_lt;have hd:=aHc (c:=(s[j].toNat:Int)) hb
    have hp:(16:Int) ^j≤16^8:=by
      have:(16:Nat) ^j≤16^8:=Nat.pow_le_pow_right pD pC
      exact_mod_cast this
    have h8:(16:Int) ^8=4294967296:=by decide
    have hm:acc*base≤acc*16:=Int.mul_le_mul_of_nonneg_left hb16 h0;have hm0:0≤acc*base:=Int.mul_nonneg h0 pC;have hcm:acc*base=base*acc:=Int.mul_comm _ _
    have hstep:O2 s base (acc,(j:Int))=if B8 s[j].toNat base<0 then some (.inr (.inr (0,false))) else some (.inl (base*acc+B8 s[j].toNat base,((j+1:Nat):Int))):=by
      unfold O2;dsimp only;rw[aSj (tX hlt),aSj (sU hlt),aSj (sU hlt),aSj (fun _=>sU hlt),xB hlt,aSj (sU hlt),sib];have hidx:=aNT s[j]
      have hval:(if ((decide ((65:Int)≤(s[j].toNat:Int)))&&(decide ((s[j].toNat:Int)≤(70:Int))))=true then(if pY ((IntKind.wrap .i64 (IntKind.wrap .u8 ((s[j].toNat:Int)- (65:Int))))+(10:Int)) then some (((IntKind.wrap .i64 (IntKind.wrap .u8 ((s[j].toNat:Int)- (65:Int))))+(10:Int))) else none) else some (Lib.indexByte XC s[j]))=some (if 48≤(s[j].toNat:Int)∧(s[j].toNat:Int)≤57 then(s[j].toNat:Int)-48 else if 97≤(s[j].toNat:Int)∧(s[j].toNat:Int)≤102 then(s[j].toNat:Int)-87 else if 65≤(s[j].toNat:Int)∧(s[j].toNat:Int)≤70 then(s[j].toNat:Int)-55 else-1):=by
        by_cases c:65≤(s[j].toNat:Int)∧(s[j].toNat:Int)≤70
        · rw[aSj (by simpa using c),show IntKind.i64.wrap (IntKind.u8.wrap ((s[j].toNat:Int)-65))=(s[j].toNat:Int)-65 by rw[aTG,aTz];omega,aSj (by unfold pY;omega),aSl pC,aSl pC,aSj c]
          congr 1;omega
        rw[aSl (by simpa using c),hidx,aSl c]
      unfold sR;rw[show ([48,49,50,51,52,53,54,55,56,57,97,98,99,100,101,102]:p8)=XC from rfl,hval];simp only[aSm];unfold B8;dsimp only;generalize (if 48≤(s[j].toNat:Int)∧(s[j].toNat:Int)≤57 then(s[j].toNat:Int)-48 else if 97≤(s[j].toNat:Int)∧(s[j].toNat:Int)≤102 then(s[j].toNat:Int)-87 else if 65≤(s[j].toNat:Int)∧(s[j].toNat:Int)≤70 then(s[j].toNat:Int)-55 else-1)=D;by_cases hn:D<0∨base≤D
      · rw[aSj (by simpa using hn)]
        by_cases hbD:base≤D
        .rw[aSj hbD,aSj pD]
        rw[aSl hbD,aSj pC]
      rw[aSl (by simpa using hn)]
      have hbD: ¬base≤D:=fun h=>hn (.inr h);have hD0: ¬D<0:=fun h=>hn (.inl h);rw[aSl hbD,aSl hD0,aSj (by unfold pY;omega),aSj (by unfold pY;omega),aSj (uB pC),hcm];rfl
    rw[tI,hstep,aSK hlt,zG];by_cases hn:B8 s[j].toNat base<0
    .rw[aSj hn,aSj hn];rfl
    rw[aSl hn,aSl hn]
    show rG _ (_,((j+1:Nat):Int))=_;exact aHf s base hb hb16 hs k (j+1) _ pC pC (by rw[Int.pow_succ];omega)
theorem aHg (s:p8) (base:Int) (hb:0<base) (hb16:base≤16) (hs:s.length≤8):FA s base=some (match zG base 0 s with|some n=>(n,!decide (s=[])) |none=>(0,false)):=by
  unfold FA;rw[show ((0:Int),(0:Int))=((0:Int),((0:Nat):Int)) from rfl,aHf s base hb hb16 hs s.length 0 0 pC pC pD,aTr];cases h:zG base 0 s with
  |none=>rfl
  |some n=>rfl
theorem RZ {base:Int}(hb:0<base): ∀{s:p8}{acc n:Int},0≤acc→zG base acc s=some n→0≤n
  |[],acc,n,h0,h=>by cases h;exact h0
  | b::t,acc,n,h0,h=>by
    rw[zG] at h;split at h
    .cases h
    exact RZ hb (by have:=Int.mul_nonneg (Int.le_of_lt hb) h0;omega) h
theorem aNU (b:UInt8) (l:p8) (hl:rZ l):GT (b.toNat:Int) l=some (l.contains b):=by
  unfold rZ at hl
  have h:=EC (f:=RB (b.toNat:Int) l) (l:=l) (fun x=>decide (x=b)) (fun _=>true) (fun i h=>by
    unfold RB;rw[aSj (tX h),aSj (sU h),xB h,aSj (uB pC)];simp only[RY,aSs]) (by
    unfold RB;rw[aSl (xC _)])
  unfold GT;rw[h,HE,aNv];congr 1;rw[aTZ];simp
def MG:p8:=[92,34,61,58,35,33,123,125,32]
def FI (l:p8) (k:Nat) (ok:Int→Bool) (f:Int→p8):p8×Nat:=
  match zG 16 0 l with
  |some n=>if ok n=true then(f n,k) else([],0)
  |none=>([],0)
def BT (l:p8):p8×Nat:=
  match l with
  | _::c::t=>
    if c=110 then([10],2) else if c=114 then([13],2) else if c=116 then([9],2)
    else if MG.contains c=true then([c],2)
    else if c=120∧2≤t.length then FI (t.take 2) 4 (fun n=>decide (n≤127)) (fun n=>tQ [n])
    else if c=117∧4≤t.length then FI (t.take 4) 6 wP Lib.encodeRune
    else([],0)
  |_=>([],0)
theorem vB {a:UInt8}{n:Int}(b:UInt8) (hb:n=(b.toNat:Int)):decide ((a.toNat:Int)=n)=decide (a=b):=by
  rw[hb];simp only[RY]
theorem aHh (a c:UInt8) (t:p8):qU (a::c::t) 2 4=t.take 2:=rfl
theorem aHi (a c:UInt8) (t:p8):qU (a::c::t) 2 6=t.take 4:=rfl
theorem aHj (a c:UInt8) (t:p8):qU (a::c::t) 1 2=[c]:=rfl
theorem aNV (a:UInt8) (t:p8):H6 (a::t)=some ((BT (a::t)).1,((BT (a::t)).2:Int)):=by
  cases t with
  |nil=>unfold H6;rw[aSj pE];rfl
  | cons c t=>
    have hy:rJ (a::c::t) (1:Int)=(c.toNat:Int):=xB (i:=1) pE;unfold H6;rw[aSl pF,aSj (⟨pD,by simp;omega⟩),hy,vB (n:=110) 110 rfl,vB (n:=114) 114 rfl,vB (n:=116) 116 rfl,vB (n:=120) 120 rfl,vB (n:=117) 117 rfl,aNU c _ (by unfold rZ;decide),aHh,aHi,aHj];show _=some ((if c=110 then(([10],2):p8×Nat) else _).1,((if c=110 then(([10],2):p8×Nat) else _).2:Int));by_cases h1:c=110
    .rw[aSj (by simpa using h1),aSj h1];rfl
    rw[aSl (by simpa using h1),aSl h1];by_cases h2:c=114
    .rw[aSj (by simpa using h2),aSj h2];rfl
    rw[aSl (by simpa using h2),aSl h2];by_cases h3:c=116
    .rw[aSj (by simpa using h3),aSj h3];rfl
    rw[aSl (by simpa using h3),aSl h3,aSm];show (if MG.contains c=true then _ else _)=_;by_cases h4:MG.contains c=true
    .rw[aSj h4,aSj h4,aSj ⟨pD,pD,by simp;omega⟩];rfl
    rw[aSl h4,aSl h4];have hlen:((a::c::t).length:Int)=(t.length:Int)+2:=by simp;omega
    rw[hlen];by_cases h5:c=120∧2≤t.length
    · rw[aSj (by simp [h5.1];omega),aSj h5,aSj ⟨pD,pD,pC⟩,aHe _ 16 pD pD (by rw[aSX];omega),aSl (by intro h;have:=aSL List.length h;rw[aSX,aSG] at this;omega),aSm]
      unfold FI;cases hn:zG 16 0 (t.take 2) with
      |none=>rfl
      | some n=>
        have h0:=RZ pD (aTa 0) hn;simp only[aTJ];by_cases h7:n≤127
        .rw[aSj pF,aSj (by simpa using h7),aTG,show n%256=n by omega];rfl
        rw[aSl pF,aSl (by simpa using h7)];rfl
    rw[aSl (by simp only[aSB,aSs];intro h;exact h5 ⟨h.1,pC⟩),aSl h5];by_cases h6:c=117∧4≤t.length
    · rw[aSj (by simp [h6.1];omega),aSj h6,aSj ⟨pD,pD,pC⟩,aHe _ 16 pD pD (by rw[aSX];omega),aSl (by intro h;have:=aSL List.length h;rw[aSX,aSG] at this;omega),aSm]
      unfold FI;cases hn:zG 16 0 (t.take 4) with
      |none=>rfl
      | some n=>
        have h0:=RZ pD (aTa 0) hn;simp only[aTJ];show (if (decide (0≤n)&&wP n)=true then _ else _)=_;by_cases h7:wP n=true
        .rw[aSj (by simp [h7,h0]),aSj h7,a8s ((HG n).1 h7)];rfl
        rw[aSl (by simp [h7]),aSl h7];rfl
    rw[aSl (by simp only[aSB,aSs];intro h;exact h6 ⟨h.1,pC⟩),aSl h6];rfl
theorem aNW (a:UInt8) (t:p8):H7 (a::t)=some ((BT (a::t)).1,((BT (a::t)).2:Int)):=by
  cases t with
  |nil=>unfold H7;rw[aSj pE];rfl
  | cons c t=>
    have hy:rJ (a::c::t) (1:Int)=(c.toNat:Int):=xB (i:=1) pE;have hlen:((a::c::t).length:Int)=(t.length:Int)+2:=by simp;omega
    unfold H7;rw[aSl pF,aSj (⟨pD,by simp;omega⟩),hy,vB (n:=110) 110 rfl,vB (n:=114) 114 rfl,vB (n:=116) 116 rfl,vB (n:=120) 120 rfl,vB (n:=117) 117 rfl,sib,aHh,aHi,aHj,hlen,←Lib.contains_iff_indexByte];show _=some ((if c=110 then(([10],2):p8×Nat) else _).1,((if c=110 then(([10],2):p8×Nat) else _).2:Int));by_cases h1:c=110
    .rw[aSj (by simpa using h1),aSj h1];rfl
    rw[aSl (by simpa using h1),aSl h1];by_cases h2:c=114
    .rw[aSj (by simpa using h2),aSj h2];rfl
    rw[aSl (by simpa using h2),aSl h2];by_cases h3:c=116
    .rw[aSj (by simpa using h3),aSj h3];rfl
    rw[aSl (by simpa using h3),aSl h3];by_cases hx:c=120
    · subst hx
      rw[aSj (show decide ((120:UInt8)=120)=true from rfl),aSl (show¬MG.contains 120=true by decide)];by_cases h5:2≤t.length
      · rw[aSj pF,aSj ⟨pD,pD,pC⟩,aSj (show _∧_ from⟨rfl,h5⟩),aHg _ 16 pD pD (by rw[aSX];omega),aSm]
        unfold FI;cases hn:zG 16 0 (t.take 2) with
        |none=>rfl
        | some n=>
          have h0:=RZ pD (aTa 0) hn;have hne:t.take 2≠[]:=by intro h;have:=aSL List.length h;rw[aSX,aSG] at this;omega
          simp only[hne,decide_false,Bool.not_false,Bool.true_and];by_cases h7:n≤127
          .rw[aSj (by simpa using h7),aSj (by simpa using h7),aTG,show n%256=n by omega];rfl
          rw[aSl (by simpa using h7),aSl (by simpa using h7)];rfl
      rw[aSl pF,aSl (fun h=>h5 h.2),aSl (show¬((120:UInt8)=117∧4≤t.length) from fun h=>by cases h.1)]
      rfl
    rw[aSl (by simpa using hx)];by_cases hu:c=117
    · subst hu
      rw[aSj (show decide ((117:UInt8)=117)=true from rfl),aSl (show¬MG.contains 117=true by decide),aSl (show¬((117:UInt8)=120∧2≤t.length) from fun h=>by cases h.1)];by_cases h5:4≤t.length
      · rw[aSj pF,aSj ⟨pD,pD,pC⟩,aSj (show _∧_ from⟨rfl,h5⟩),aHg _ 16 pD pD (by rw[aSX];omega),aSm]
        unfold FI;cases hn:zG 16 0 (t.take 4) with
        |none=>rfl
        | some n=>
          have h0:=RZ pD (aTa 0) hn;have hne:t.take 4≠[]:=by intro h;have:=aSL List.length h;rw[aSX,aSG] at this;omega
          simp only[hne,decide_false,Bool.not_false];rw[aSj trivial,aNC,aSm]
          have hb:wP n=(decide (n≤1114111)&&(decide (n<55296)||decide (57343<n))):=by
            unfold wP;rw[show decide ((0:Int)≤n)=true by simpa using h0,Bool.true_and]
          rw[←hb];by_cases h7:wP n=true
          .rw[aSj h7,aSj h7,aSj h7];rfl
          rw[aSl h7,aSl h7];rfl
      rw[aSl pF,aSl (fun h=>h5 h.2)]
      rfl
    rw[aSl (by simpa using hu)];show (if MG.contains c=true then _ else _)=_;by_cases h4:MG.contains c=true
    .rw[aSj h4,aSj h4,aSj ⟨pD,pD,pC⟩];rfl
    rw[aSl h4,aSl h4,aSl (fun h=>hx h.1),aSl (fun h=>hu h.1)]
    rfl
def B9 (n:Int) (b:UInt8):Bool:=decide (b=10)||((decide (n=2)||decide (n=3))&&decide (b=34))
def uE (n:Int):p8→p8×Nat
  |[]=>([],0)
  |b::t=>if b=92 then BT (b::t) else if B9 n b=true then([b],0) else([b],1)
theorem XD {l:p8}{k:Nat}{ok:Int→Bool}{f:Int→p8}(hf: ∀n,(f n).length≤4):(FI l k ok f).1.length≤4∧((FI l k ok f).2=0∨(FI l k ok f).2=k):=by
  unfold FI;cases zG 16 0 l with
  |none=>exact⟨by simp,.inl rfl⟩
  | some n=>
    dsimp only;split
    .exact⟨hf n,.inr rfl⟩
    exact⟨by simp,.inl rfl⟩
theorem aNX (l:p8):(BT l).1.length≤4∧(BT l).2≤l.length:=by
  unfold BT;split
  · rename_i a c t
    have h1:=XD (l:=t.take 2) (k:=4) (ok:=fun n=>decide (n≤127)) (f:=fun n=>tQ [n]) (fun n=>by simp [tQ]);have h2:=XD (l:=t.take 4) (k:=6) (ok:=wP) (f:=Lib.encodeRune) a8y
    repeat' split
    all_goals first
      |exact⟨by simp,by simp⟩
      |(rename_i h;exact⟨h1.1,by rcases h1.2 with e|e<;>rw[e]<;>simp<;>omega⟩)
      |(rename_i h;exact⟨h2.1,by rcases h2.2 with e|e<;>rw[e]<;>simp<;>omega⟩)
  exact⟨by simp,by simp⟩
theorem XE {n:Int}{b:UInt8}{t:p8}(h:b=92):uE n (b::t)=BT (b::t):=aSj h
theorem S0 {n:Int}{b:UInt8}{t:p8}(h:b≠92) (hb:B9 n b=true):uE n (b::t)=([b],0):=(aSl h).trans (aSj hb)
theorem XF {n:Int}{b:UInt8}{t:p8}(h:b≠92) (hb: ¬B9 n b=true):uE n (b::t)=([b],1):=(aSl h).trans (aSl hb)
theorem S1 (n:Int) (l:p8):(uE n l).1.length≤4∧(uE n l).2≤l.length:=by
  cases l with
  |nil=>exact⟨by simp [uE],by simp [uE]⟩
  | cons b t=>
    by_cases h:b=92
    .rw[XE h];exact aNX _
    by_cases hb:B9 n b=true
    .rw[S0 h hb];exact⟨by simp,by simp⟩
    rw[XF h hb];exact⟨by simp,by simp⟩
def yG (n:Int):Nat→p8→p8⊕Nat
  |0,_=> .inl []
  |_+1,[]=> .inl []
  | k+1,b::t=>if (uE n (b::t)).2=0 then .inr 0 else match yG n k ((b::t).drop (uE n (b::t)).2) with
    | .inl r=> .inl ((uE n (b::t)).1++r)
    | .inr e=> .inr ((uE n (b::t)).2+e)
def uF (n:Int) (s:p8):p8×Int×Int:=match yG n s.length s with
  | .inl r=>(r,0,0)
  | .inr e=>([],e,3)
theorem aHk (a b:p8):uN (a++b)=uN a++uN b:=by simp [uN]
theorem aHl (a:p8):tQ (uN a)=a:=by
  unfold tQ uN;rw[List.map_map]
  conv=>rhs;rw[←List.map_id a]
  congr 1;funext b;simp
theorem aNY {s:p8}{i:Nat}(h:i<s.length):qU s (i:Int) ((i:Int)+1)=[s[i]]:=by
  unfold qU;rw[aTb,show ((i:Int)+1).toNat-i=1 by omega,aSK h];rfl
theorem aNZ {n:Int}(h1:1≤n) (h3:n≤3) {s:p8}(hs:rZ s) {x:pI}{i:Nat}(hi:i<s.length) (hx:x.length≤10000000000000):
    OL n s (x,(i:Int))=if (uE n (s.drop i)).2=0 then some (.inr (.inr ([],(i:Int),3))) else some (.inl (x++uN (uE n (s.drop i)).1,((i+(uE n (s.drop i)).2:Nat):Int))):=by
  have hs':=hs;unfold rZ at hs';have hn4:decide (n=4)=false:=by simp;omega
  have hp:=S1 n (s.drop i);rw[aSR] at hp;unfold OL;dsimp only;rw[aSj (tX hi),aSj (sU hi),aSj (uB pC),aSj ⟨pC,pC,pC⟩,xB hi,aNY hi,CS,vB (n:=92) 92 rfl,vB (n:=38) 38 rfl,vB (n:=10) 10 rfl,vB (n:=34) 34 rfl,hn4]
  have hb: ∀v:p8×Nat,v.1.length≤4→v.2≤s.length-i→
      ((if decide ((v.2:Int)=0)=true then(some (.inr (.inr (([]:p8),(i:Int),(3:Int)))):Option ((pI×Int)⊕(pI⊕(p8×Int×Int)))) else if x.length+v.1.length≤140737488355328 then if pY ((i:Int)+(v.2:Int)) then some (.inl ((x++uN v.1),((i:Int)+(v.2:Int)))) else none else none)=if v.2=0 then some (.inr (.inr ([],(i:Int),3))) else some (.inl (x++uN v.1,((i+v.2:Nat):Int)))):=fun v hv1 hv2=>by
    by_cases h0:v.2=0
    .rw[aSj (by simp [h0]),aSj h0]
    rw[aSl (by simpa using h0),aSl h0,aSj pC,aSj (by unfold pY;omega)]
    rfl
  rw[aSK hi] at hp|-;simp only[Bool.not_false,Bool.true_and,aTV,aTy,aUj];by_cases c1:s[i]=92
  · rw[XE c1] at hp|-
    rw[aSj (by simpa using c1),aSj ⟨pC,pC,aTa _⟩,aNV];unfold sR;simp only[aSm];exact hb _ hp.1 hp.2
  rw[aSl (by simpa using c1)]
  by_cases c2:s[i]=10
  · rw[aSj (by simpa using c2),aSj (by simpa using c2),S0 c1 (show B9 n s[i]=true by simp [B9,c2])]
    unfold sR;simp only[aSm];exact hb ([s[i]],0) pE pE
  rw[aSl (by simpa using c2)]
  by_cases c3:((decide (n=2)||decide (n=3))&&decide (s[i]=34))=true
  · rw[aSj c3,aSj c3,S0 c1 (show B9 n s[i]=true by unfold B9;rw[c3];simp)]
    unfold sR;simp only[aSm];exact hb ([s[i]],0) pE pE
  have hbad:B9 n s[i]=false:=by
    have c3':((decide (n=2)||decide (n=3))&&decide (s[i]=34))=false:=by simpa using c3
    unfold B9;rw[c3'];simp [c2]
  have hbad': ¬B9 n s[i]=true:=by simp [hbad]
  rw[XF c1 hbad'] at hp|-;rw[aSl c3,aSj (fun h=>by simp at h)];unfold sR;simp only[aSm];exact hb ([s[i]],1) pE hp.2
theorem aN0 {n:Int}(h1:1≤n) (h3:n≤3) (b:UInt8):LG n (b.toNat:Int)=B9 n b:=by
  unfold LG B9 AS;rw[vB (n:=10) 10 rfl,vB (n:=34) 34 rfl];by_cases c1:n=1
  .subst c1;simp
  have h23:n=2∨n=3:=by omega
  rcases h23 with rfl|rfl<;>simp
theorem aN1 {x:pI}{c:Int}(hx:x.length≤10000000000000):LH (x,()) c=some ():=by
  unfold LH;exact aSj (by simp only[aTw,aUc];omega)
theorem aN2 {x:pI}{t:p8}(hx:x.length≤10000000000000) (ht:t.length≤4000000000):LA (x,()) t=some ():=by
  unfold LA;exact aSj (by dsimp only;omega)
theorem aN3 {n:Int}(h1:1≤n) (h3:n≤3) {s:p8}(hs:rZ s) {x:pI}{i:Nat}(hi:i<s.length) (hx:x.length≤10000000000000):
    ON n s ((i:Int),x)=if (uE n (s.drop i)).2=0 then some (.inr (.inr ([],(i:Int),3))) else some (.inl (((i+(uE n (s.drop i)).2:Nat):Int),x++uN (uE n (s.drop i)).1)):=by
  have hs':=hs;unfold rZ at hs';have hp:=S1 n (s.drop i);rw[aSR] at hp;unfold ON;dsimp only;rw[aSj (tX hi),aSj (sU hi),xB hi,CS,vB (n:=92) 92 rfl,aN0 h1 h3];rw[aSK hi] at hp|-;by_cases c1:s[i]=92
  · rw[XE c1] at hp|-
    rw[aSj (by simpa using c1),aSj ⟨pC,pC,aTa _⟩,aNW];simp only[aSm];by_cases h0:(BT (s[i]::s.drop (i+1))).2=0
    .rw[aSj (by rw[h0];rfl),aSj h0]
    rw[aSl (by rw[aSs];omega),aSl h0,aN2 hx pC]
    simp only[aSm];rw[aSj (by unfold pY;omega)];rfl
  rw[aSl (by simpa using c1),aSj (sU hi)]
  by_cases hb:B9 n s[i]=true
  .rw[aSj hb,S0 c1 hb];rfl
  rw[aSl hb,XF c1 hb,aSj (sU hi),aN1 hx,aSm]
  rw[aSj (uB pC)];rfl
theorem aHm {n:Int}(h1:1≤n) (h3:n≤3) {s:p8}(hs:rZ s): ∀(k i:Nat) (x:pI),i≤s.length→s.length-i≤k→x.length+4*(s.length-i)≤5000000000000→
    rG (OL n s) (x,(i:Int))=some (match yG n k (s.drop i) with| .inl r=> .inl (x++uN r) | .inr e=> .inr ([],((i+e:Nat):Int),3))
  | k,i,x,hi,hk,hx=>by
    by_cases hlt:i<s.length
    · cases k with
      |zero=>omega
      | succ k=>
        have hp:=S1 n (s.drop i);rw[tI,aNZ h1 h3 hs hlt pC];rw[aSR] at hp
        have hu:yG n (k+1) (s.drop i)=if (uE n (s.drop i)).2=0 then .inr 0 else match yG n k ((s.drop i).drop (uE n (s.drop i)).2) with
            | .inl r=> .inl ((uE n (s.drop i)).1++r)
            | .inr e=> .inr ((uE n (s.drop i)).2+e):=by
          rw[aSK hlt,yG]
        rw[hu];by_cases h0:(uE n (s.drop i)).2=0
        .rw[aSj h0,aSj h0];rfl
        rw[aSl h0,aSl h0]
        show rG _ (_,((i+(uE n (s.drop i)).2:Nat):Int))=_;rw[aHm h1 h3 hs k _ _ pC pC (by rw[aSp];simp only[uN,aTE];omega),aUk];cases yG n k (s.drop (i+(uE n (s.drop i)).2)) with
        |inl r=>dsimp only;rw[aHk,aSv]
        |inr e=>dsimp only;rw[aS3]
    have:i=s.length:=by omega
    subst this;rw[BP (r:= .inl x) (by unfold OL;simp),aTc];cases k<;>simp [yG,uN]
theorem aHn {n:Int}(h1:1≤n) (h3:n≤3) {s:p8}(hs:rZ s): ∀(k i:Nat) (x:pI),i≤s.length→s.length-i≤k→x.length+4*(s.length-i)≤5000000000000→
    rG (ON n s) ((i:Int),x)=some (match yG n k (s.drop i) with| .inl r=> .inl (x++uN r) | .inr e=> .inr ([],((i+e:Nat):Int),3))
  | k,i,x,hi,hk,hx=>by
    by_cases hlt:i<s.length
    · cases k with
      |zero=>omega
      | succ k=>
        have hp:=S1 n (s.drop i);rw[tI,aN3 h1 h3 hs hlt pC];rw[aSR] at hp
        have hu:yG n (k+1) (s.drop i)=if (uE n (s.drop i)).2=0 then .inr 0 else match yG n k ((s.drop i).drop (uE n (s.drop i)).2) with
            | .inl r=> .inl ((uE n (s.drop i)).1++r)
            | .inr e=> .inr ((uE n (s.drop i)).2+e):=by
          rw[aSK hlt,yG]
        rw[hu];by_cases h0:(uE n (s.drop i)).2=0
        .rw[aSj h0,aSj h0];rfl
        rw[aSl h0,aSl h0]
        show rG _ (((i+(uE n (s.drop i)).2:Nat):Int),_)=_;rw[aHn h1 h3 hs k _ _ pC pC (by rw[aSp];simp only[uN,aTE];omega),aUk];cases yG n k (s.drop (i+(uE n (s.drop i)).2)) with
        |inl r=>dsimp only;rw[aHk,aSv]
        |inr e=>dsimp only;rw[aS3]
    have:i=s.length:=by omega
    subst this;rw[BP (r:= .inl x) (by unfold ON;simp),aTc];cases k<;>simp [yG,uN]
theorem aN4 {n:Int}(h1:1≤n) (h3:n≤3) {s:p8}(hs:rZ s):M5 n s=some (uF n s):=by
  unfold M5;have hs':=hs;unfold rZ at hs';rw[aSl pF,show (([]:pI),(0:Int))=(([]:pI),((0:Nat):Int)) from rfl,aHm h1 h3 hs s.length 0 [] pC pC pF,aTr];unfold uF;cases yG n s.length s with
  | inl r=>
    show some (tQ ([]++uN r),(0:Int),(0:Int))=_;rw[List.nil_append,aHl]
  | inr e=>
    show some (([]:p8),((0+e:Nat):Int),(3:Int))=_;rw[aSS]
theorem aN5 {n:Int}(h1:1≤n) (h3:n≤3) {s:p8}(hs:rZ s):M9 n s=some (uF n s):=by
  unfold M9;have hs':=hs;unfold rZ at hs';rw[aSl pF,aSl pF,show ((0:Int),([]:pI))=(((0:Nat):Int),([]:pI)) from rfl,aHn h1 h3 hs s.length 0 [] pC pC pF,aTr];unfold uF;cases yG n s.length s with
  | inl r=>
    show some (tQ ([]++uN r),(0:Int),(0:Int))=_;rw[List.nil_append,aHl]
  | inr e=>
    show some (([]:p8),((0+e:Nat):Int),(3:Int))=_;rw[aSS]
theorem aN6 (x y:UInt8):(x==y)=decide (y=x):=by
  by_cases h:y=x
  .subst h;rw[beq_self_eq_true,aSN rfl]
  rw[decide_eq_false h,beq_eq_false_iff_ne];exact fun e=>h e.symm
theorem aN7 {o:pL}:(if (JN o== -1)=true then(-1:Int) else JN o+1)=JN (o.map (· +1)):=by
  cases o with
  |none=>rfl
  | some k=>
    show (if ((k:Int)== -1)=true then(-1:Int) else(k:Int)+1)=((k+1:Nat):Int);rw[aSl (by rw[aTB];omega)];rfl
theorem a8D: ∀(l:p8),Lib.indexByte l 10=JN (l.findIdx? fun b=>decide (b=10))
  |[]=>rfl
  | b::t=>by
    rw[Lib.indexByte,aTH,a8D t,aN6,aN7];by_cases h:b=10
    .subst h;rfl
    rw[aSl (by simpa using fun e=>h (Eq.symm e)),aSl (by simpa using h)]
theorem aN8 (l:p8):(BT l).2=0∨(BT l).1.length≤(BT l).2:=by
  unfold BT;split
  · rename_i a c t
    have h1:=XD (l:=t.take 2) (k:=4) (ok:=fun n=>decide (n≤127)) (f:=fun n=>tQ [n]) (fun n=>by simp [tQ]);have h2:=XD (l:=t.take 4) (k:=6) (ok:=wP) (f:=Lib.encodeRune) a8y
    repeat' split
    all_goals first
      |exact .inl rfl
      |exact .inr pE
      | (rcases h1.2 with e|e
         .exact .inl e
         .exact .inr (by rw[e];exact h1.1))
      | (rcases h2.2 with e|e
         .exact .inl e
         exact .inr (by rw[e];have:=h2.1;omega))
  exact .inl rfl
theorem aN9 (n:Int) (l:p8):(uE n l).2=0∨(uE n l).1.length≤(uE n l).2:=by
  cases l with
  |nil=>exact .inl rfl
  | cons b t=>
    by_cases h:b=92
    .rw[XE h];exact aN8 _
    by_cases hb:B9 n b=true
    .rw[S0 h hb];exact .inl rfl
    rw[XF h hb];exact .inr pE
theorem aHo (n:Int): ∀(k:Nat) (l r:p8),yG n k l= .inl r→r.length≤l.length
  |0,_,_,h=>by cases h;simp
  |_+1,[],_,h=>by cases h;simp
  | k+1,b::t,r,h=>by
    rw[yG] at h;split at h
    .cases h
    rename_i hz
    have hp:=(aN9 n (b::t)).resolve_left hz;have hq:=(S1 n (b::t)).2;cases hu:yG n k ((b::t).drop (uE n (b::t)).2) with
    | inl r'=>
      rw[hu] at h;cases h;have:=aHo n k _ r' hu;rw[aSR] at this;rw[aSp];omega
    |inr e=>rw[hu] at h;cases h
theorem a8E (n:Int) (s:p8):(uF n s).1.length≤s.length:=by
  unfold uF;cases h:yG n s.length s with
  |inl r=>exact aHo n _ _ _ h
  |inr e=>simp
theorem HI {p:Prop}{α:Type}{v:α}:p→(some v).isSome=true:=fun _=>rfl
abbrev C4:=p8×(p9×(List tM×(List rW×Unit)))
section
variable {s:p8}(hsm:s.length≤4000000000) {P:Nat}(hP:P≤s.length) {c:C4}{bad e:Int}{ends:pI}{kind:Int}{text:p8}
include hsm hP
def y5 (l:p9) (x:p8):Nat:=(l.findIdx? fun y=> !Op.bytesLess y x).getD l.length
def OY (l:p9) (x:p8):p9:=l.take (y5 l x)++[x]++l.drop (y5 l x)
end
theorem xF {v:Ty}(a b:p8) (y:v.den): ∀l:List (p8×v.den),sF .str v (sT .str v a y l) b=if b=a then y else sF .str v l b
  | []=>by
    show (if decide (b=a)=true then y else v.zero)=if b=a then y else v.zero;by_cases h:b=a<;>simp [h]
  | (x,z)::r=>by
    have ih:=xF a b y r;show sF .str v (if decide (a=x)=true then(a,y)::r else(x,z)::sT .str v a y r) b=if b=a then y else(if decide (b=x)=true then z else sF .str v r b);by_cases h:a=x
    · rw[aSj (aSN h)]
      show (if decide (b=a)=true then y else sF .str v r b)=_;by_cases hb:b=a
      .rw[aSj (aSN hb),aSj hb]
      rw[aSl (by simpa using hb),aSl hb,aSl (by rw[←h];simpa using hb)]
    rw[aSl (by simpa using h)]
    show (if decide (b=x)=true then z else sF .str v (sT .str v a y r) b)=_;rw[ih];by_cases hb:b=a
    .rw[aSj hb,aSj hb,aSl (by rw[hb];simpa using h)]
    rw[aSl hb,aSl hb]
theorem BU: ∀(x y:p8),Op.bytesLess x y=decide (x<y)
  |[],[]=>by simp [Op.bytesLess]
  |_::_,[]=>by simp [Op.bytesLess]
  |[],_::_=>by simp [Op.bytesLess]
  | a::x,b::y=>by
    rw[Op.bytesLess,BU x y];simp only[List.cons_lt_cons_iff];by_cases h1:a<b<;>by_cases h2:a=b<;>by_cases h3:x<y<;>simp [h1,h2,h3]
theorem S2 (l:p9):(sJ l).Pairwise (·≤·):=by
  have:=List.pairwise_mergeSort (le:=fun x y:p8=>decide (x≤y)) (fun a b c h1 h2=>aSN (List.le_trans (aS1 h1) (aS1 h2))) (fun a b=>by simpa using List.le_total a b) l;exact this.imp (fun h=>aS1 h)
theorem MH (l:p9):(sJ l).Perm l:=List.mergeSort_perm l _
theorem JO (l:p9):(sJ l).length=l.length:=(MH l).length_eq
theorem aOa (l:p9) (x:p8):(OY l x).Perm (l++[x]):=by
  unfold OY;have h:(l.take (y5 l x)++l.drop (y5 l x))=l:=aTv _ _
  have h2:(l.take (y5 l x)++[x]++l.drop (y5 l x)).Perm (l.take (y5 l x)++(l.drop (y5 l x)++[x])):=by
    rw[aSv];exact List.Perm.append_left _ List.perm_append_comm
  have h3:l.take (y5 l x)++(l.drop (y5 l x)++[x])=l++[x]:=by rw[←aSv,h]
  rw[h3] at h2;exact h2
theorem aOb {l:p9}(x:p8) (h:l.Pairwise (·≤·)):(OY l x).Pairwise (·≤·):=by
  have ht: ∀y∈l.take (y5 l x),y≤x:=by
    intro y hy;obtain⟨j,hj,rfl⟩:=List.mem_iff_getElem.1 hy;rw[aSX] at hj;rw[List.getElem_take]
    have:Op.bytesLess l[j] x=true:=by
      have hk:y5 l x=(l.findIdx? fun y=> !Op.bytesLess y x).getD l.length:=rfl;cases hf:l.findIdx? fun y=> !Op.bytesLess y x with
      | none=>
        have:=aTk.1 hf l[j] (aTq _);simpa using this
      | some n=>
        rw[hf] at hk;have:=(aS5.1 hf).2.2 j (by rw[hk] at hj;simp only[aTJ] at hj;omega);simpa using this
    rw[BU] at this;exact List.le_of_lt (aS1 this)
  have hd: ∀y∈l.drop (y5 l x),x≤y:=by
    intro y hy;have hk:y5 l x=(l.findIdx? fun y=> !Op.bytesLess y x).getD l.length:=rfl;cases hf:l.findIdx? fun y=> !Op.bytesLess y x with
    | none=>
      rw[hf] at hk;rw[hk] at hy;simp at hy
    | some n=>
      rw[hf] at hk;obtain⟨hn,h1,h2⟩:=aS5.1 hf
      have hx:x≤l[n]:=by
        rw[BU] at h1;simp only[aSV,aS2] at h1;exact List.not_lt.1 h1
      rw[hk] at hy;simp only[aTJ] at hy;rw[aSK hn] at hy;rcases aSx.1 hy with rfl|hy
      .exact hx
      have hp:(l.drop n).Pairwise (·≤·):=h.sublist (List.drop_sublist _ _)
      rw[aSK hn] at hp;exact List.le_trans hx ((aT5.1 hp).1 y hy)
  unfold OY;rw[aSv];refine aT9.2 ⟨h.sublist (List.take_sublist _ _),aT9.2 ⟨aUf _ _,h.sublist (List.drop_sublist _ _),?_⟩,?_⟩
  · intro a ha b hb
    rw[aSC.1 ha];exact hd b hb
  intro a ha b hb
  have hax:=ht a ha;rcases aTx.1 hb with hb|hb
  .rw[aSC.1 hb];exact hax
  exact List.le_trans hax (hd b hb)
theorem aOc (l:p9) (x:p8):OY (sJ l) x=sJ (l++[x]):=
  List.Perm.eq_of_pairwise (fun _ _ _ _ h1 h2=>List.le_antisymm h1 h2) (aOb x (S2 l)) (S2 _)
    ((aOa _ _).trans (((MH l).append_right _).trans (MH _).symm))
abbrev a8F (y:rW):Prop:=rZ y.2.2.2.1∧rZ y.2.2.2.2.1∧rZ y.2.2.2.2.2.2.1
def a8G (es:List rW) (x:p8):Int×Bool:=xY (fun k=>((k:Int),true)) ((0:Int),false) (es.findIdx? fun y=>decide (y.1=x))
theorem aOd (c:C4) (x:p8) (hl:c.2.2.2.1.length≤5000):IK c x=some (a8G c.2.2.2.1 x):=by
  have h:=EC (f:=R0 c x) (l:=c.2.2.2.1) (fun y=>decide (y.1=x)) (fun k=>((k:Int),true)) (fun i h=>by
    unfold R0;rw[aSj (tX h),aSj (sU h),AD (t:=uI) h,aSj (uB pC)]) (by
    unfold R0;rw[aSl (xC _)])
  unfold IK;rw[h,HE];rfl
theorem a8H {α:Type}:rZ ([]:List α):=by unfold rZ;exact aTg _
theorem a8I {α:Type}{f:Int→Option (Int⊕(Unit⊕Bool))}(l:List α) (hf: ∀(i:Nat) (h:i<l.length),f i=some (.inl (i+1))) (he:f l.length=some (.inr (.inl ()))):
    rG f 0=some (.inl ()):=by
  have h:=EC (f:=f) (l:=l) (fun _=>false) (fun _=>false) (fun i h=>by rw[aSl Bool.false_ne_true];exact hf i h) he;rw[h];have:l.findIdx? (fun _=>false)=none:=aTk.2 (fun _ _=>rfl);rw[this];rfl
theorem MI (l:p9) (hl:rZ l):wD l l=some true:=by
  unfold rZ at hl;unfold wD
  rw[aSl pE,a8I l (fun i h=>by
    unfold WJ;rw[aSj (tX h),aSj (sU h),aSj (sU h),aSl pE,aSj (uB pC)]) (by
    unfold WJ;rw[aSl (xC _)])]
  rfl
theorem S3 (l:List tM) (hl:rZ l):z6 l l=some true:=by
  unfold rZ at hl;unfold z6
  rw[aSl pE,a8I l (fun i h=>by
    unfold WK;rw[aSj (tX h),aSj (sU h),aSj (sU h),aSl pE,aSj (uB pC)]) (by
    unfold WK;rw[aSl (xC _)])]
  rfl
theorem aOe (y:rW) (h:a8F y):NV y y=some ():=by
  unfold NV;rw[MI _ h.1,MI _ h.2.1,S3 _ h.2.2,aSj HI,aSj HI,aSj HI]
theorem a8J (l:List rW) (hl:rZ l) (h: ∀y∈l,a8F y):CM l l=some true:=by
  unfold rZ at hl;unfold CM
  rw[aSl pE,a8I l (fun i hi=>by
    have hy:=h l[i] (aTq hi);unfold WU;rw[aSj (tX hi),aSj (sU hi),aSj (sU hi),AD (t:=uI) hi];rw[aOe _ hy,aSm,MI _ hy.1,MI _ hy.2.1,S3 _ hy.2.2,aSl (by simp [val]),aSj (uB pC)]) (by
    unfold WU;rw[aSl (xC _)])]
  rfl
abbrev eD:JL:=([],([],([],([],([],(0,([],())))))))
def S4 (es:List JL) (i:Nat):Bool:=((es.take i).any fun y=>decide (y.1=(es.getD i eD).1))|| !JM (es.getD i eD)
def JP (c:C4):Bool:=((yE c.1&&B7 c.2.1)&&zF c.2.2.1)&&(decide ((c.2.2.2.1.length:Int)≤1000)&& !((List.range c.2.2.2.1.length).any (S4 c.2.2.2.1)))
theorem aOf {c:C4}(hok:JP c=true) {i:Nat}(hi:i<c.2.2.2.1.length):JM (c.2.2.2.1.getD i eD)=true:=by
  unfold JP at hok;simp only[aSB,aSV,aS6,aTU] at hok;have:=hok.2.2 i hi;unfold S4 at this;simp only[aTP,aSV,not_or,Bool.not_eq_false] at this;exact this.2
theorem aOg {l:p8}(h: ∀b∈l,b.toNat<128):Lib.validD l=true:=by
  rw[Lib.validD_ascii l.length l (fun b hb=>h b (List.mem_of_mem_take hb)),aTc];rfl
theorem aOh {b:UInt8}(h:zD b.toNat=false):b.toNat<128:=by
  unfold zD at h;simp only[aUm,aUg,aSB,aSs] at h;omega
theorem aHp {x:p8}(h:vX x=true):sS x=true:=by
  cases x with
  |nil=>cases h
  | cons b t=>
    unfold vX at h;simp only[aSB,aSV,aS6,aTA,aS2] at h;obtain⟨⟨h0,h1⟩,h2⟩:=h;unfold sS;rw[aSB,aSs];refine⟨by simp only[aSq];omega,aOg fun c hc=>?_⟩;rcases aSx.1 hc with rfl|hc
    · unfold zS at h1
      simp only[aSB,aSs] at h1;omega
    exact aOh (h2 c hc)
theorem OZ {l:p9}(h:B7 l=true):l.length≤20∧∀x∈l,sS x=true:=by
  unfold B7 at h;simp only[aSB,aSV,aS6,aSs,aTA,aUg] at h;exact⟨pC,fun x hx=>by simpa using h.2 x hx⟩
theorem a8K {α:Type}{r:α→α→Prop}(tr: ∀a b c,r a b→r b c→r a c) {l:List α}(h: ∀(i:Nat) (hi:i+1<l.length),r l[i] l[i+1]):l.Pairwise r:=by
  rw[aSZ];intro i j hi hj hij;obtain⟨k,rfl⟩: ∃k,j=i+1+k:=⟨j-i-1,pC⟩
  induction k with
  |zero=>exact h i hj
  |succ k ih=>exact tr _ _ _ (ih pC pC) (h (i+1+k) hj)
theorem EE {α:Type}{l:List α}{i:Nat}{d:α}(h:i<l.length):l.getD i d=l[i]:=by
  rw[aSM,aSu h];rfl
theorem aOi {l:p9}(h:OW l=true):l.length≤20∧(∀x∈l,vX x=true)∧l.Pairwise (· < ·):=by
  unfold OW at h;simp only[aSB,aSV,aS6,aSs,aTU,aTA] at h;obtain⟨h1,h2⟩:=h;unfold a8z at h1;simp only[aTL,aUm,aUg,aS2] at h1;refine⟨pC,fun x hx=>?_,a8K (r:=fun a b:p8=>a<b) (fun a b c=>List.lt_trans) fun i hi=>?_⟩
  · obtain⟨i,hi,rfl⟩:=aT1 hx
    have:=(h1 i hi).1;rwa [EE hi] at this
  have:=(h1 (i+1) hi).2
  rw[EE hi,Nat.add_sub_cancel,EE (show i<l.length by omega),BU] at this;exact aS1 (this.resolve_left pC)
theorem P0 {l:List tM}(h:zF l=true):l.length≤20∧(∀x∈l,vX x.1=true∧sS x.1=true∧sS x.2.1=true)∧l.Pairwise (fun a b=>a.1<b.1):=by
  unfold zF at h;simp only[aSB,aSV,aS6,aSs,aTU,aTA] at h;obtain⟨h1,h2⟩:=h;unfold a8A at h1;simp only[aTL,aUm,aUg,aS2] at h1;refine⟨pC,fun x hx=>?_,a8K (r:=fun a b:tM=>a.1<b.1) (fun a b c=>List.lt_trans) fun i hi=>?_⟩
  · obtain⟨i,hi,rfl⟩:=aT1 hx
    have:=(h1 i hi).1;rw[EE hi] at this;exact⟨this.1,aHp this.1,this.2⟩
  have:=(h1 (i+1) hi).2
  rw[EE hi,Nat.add_sub_cancel,EE (show i<l.length by omega),BU] at this;exact aS1 (this.resolve_left pC)
theorem aOj {es:List JL}(h: ∀i,i<es.length→S4 es i=false):es.Pairwise (fun a b=>a.1≠b.1):=by
  rw[aSZ];intro i j hi hj hij he;have h1:=h j hj;unfold S4 at h1;simp only[aTL,aS6,aSs] at h1;rw[EE hj] at h1;exact h1.1 es[i] (by rw[List.mem_take_iff_getElem];exact⟨i,pC,rfl⟩) he
theorem aOk {c:C4}(h:JP c=true):yE c.1=true∧B7 c.2.1=true∧zF c.2.2.1=true∧c.2.2.2.1.length≤1000∧(∀x∈c.2.2.2.1,JM x=true)∧c.2.2.2.1.Pairwise (fun a b=>a.1≠b.1):=by
  have h':=h;unfold JP at h';simp only[aSB,aSV,aS6,aTU,aSs,aTA] at h';obtain⟨⟨⟨h1,h2⟩,h3⟩,h4,h5⟩:=h';refine⟨h1,h2,h3,pC,fun x hx=>?_,aOj h5⟩;obtain⟨i,hi,rfl⟩:=aT1 hx;have:=aOf h hi;rwa [EE hi] at this
theorem XG {a b:p8}(h: ¬a<b) (hne:a≠b):b<a:=by
  have:=aNP a b;rw[BU,BU] at this;have h1:decide (a<b)=false:=by simpa using h
  have h2:decide (b=a)=false:=by simpa using fun e=>hne e.symm
  rw[h1,h2] at this;simpa using this.symm
theorem a8L {α:Type}(f:α→p8) {x:α}{p:α→Bool}: ∀{l:List α},l.Pairwise (fun a b=>f a<f b)→(∀y∈l,f y≠f x)→(∀y∈l,p y= !decide (f y<f x))→
    (l.take ((l.findIdx? p).getD l.length)++[x]++l.drop ((l.findIdx? p).getD l.length)).Pairwise (fun a b=>f a<f b)
  |[],_,_,_=>by simp
  | a::t,hp,hne,hpp=>by
    rw[aT5] at hp;have hpa:=hpp a aSJ;rw[aTH];by_cases h:f a<f x
    · have hpf:p a=false:=by rw[hpa];simpa using h
      rw[hpf];have ih:=a8L f (x:=x) hp.2 (fun y hy=>hne y (aSy _ hy)) (fun y hy=>hpp y (aSy _ hy))
      have e:((if false=true then some 0 else(t.findIdx? p).map fun i=>i+1).getD (a::t).length)=(t.findIdx? p).getD t.length+1:=by
        cases t.findIdx? p<;>rfl
      rw[e,List.take_succ_cons,aUn,List.cons_append,List.cons_append,aT5];refine⟨fun y hy=>?_,ih⟩;rw[aSv] at hy;rcases aTx.1 hy with hy|hy
      .exact hp.1 y (List.mem_of_mem_take hy)
      rcases aSx.1 hy with rfl|hy
      .exact h
      exact hp.1 y (List.mem_of_mem_drop hy)
    have hpt:p a=true:=by rw[hpa];simpa using h
    rw[hpt];have hx:f x<f a:=XG h (hne a aSJ);show ([]++[x]++(a::t)).Pairwise _;rw[List.nil_append,List.singleton_append,aT5];refine⟨fun y hy=>?_,aT5.2 hp⟩;rcases aSx.1 hy with rfl|hy
    .exact hx
    exact List.lt_trans hx (hp.1 y hy)
theorem aOl {α:Type}{l:List α}{x y:α}{k:Nat}(h:y∈l.take k++[x]++l.drop k):y=x∨y∈l:=by
  rw[aSv] at h;rcases aTx.1 h with h|h
  .exact .inr (List.mem_of_mem_take h)
  rcases aSx.1 h with h|h
  .exact .inl h
  exact .inr (List.mem_of_mem_drop h)
theorem aOm {α:Type}{l:List α}{x:α}{k:Nat}:(l.take k++[x]++l.drop k).length=l.length+1:=by
  simp only[aSp,aSX,aSR,aTw];omega
theorem aOn {α:Type}{r:α→α→Prop}{l:List α}(h:l.Pairwise r) {i:Nat}(h0:0<i) (hi:i<l.length):r l[i-1] l[i]:=by
  rw[aSZ] at h;exact h (i-1) i pC hi pC
theorem aHq {l:List tM}(h:l.length≤20) (hx: ∀x∈l,vX x.1=true∧sS x.2.1=true) (hp:l.Pairwise (fun a b=>a.1<b.1)):zF l=true:=by
  unfold zF;simp only[aSB,aSV,aS6,aSs,aTU,aTA];refine⟨fun i hi=>?_,pC⟩;unfold a8A;obtain⟨a,b⟩:=hx _ (aTq hi);rw[EE hi,a,b];by_cases h0:0<i
  · rw[EE (show i-1<l.length by omega),BU]
    simp [aOn hp h0 hi]
  simp [h0]
theorem aOo {l:List tM}{n v:p8}(h:zF l=true) (hl: ¬20≤l.length) (hx:vX n=true) (hv:sS v=true) (hn: ¬(l.any fun y=>decide (y.1=n))=true):zF (xE l n v)=true:=by
  obtain⟨h1,h2,h3⟩:=P0 h;have hne: ∀y∈l,y.1≠n:=fun y hy e=>hn (List.any_eq_true.2 ⟨y,hy,by simp [e]⟩)
  have hk:xZ l n=none:=by
    unfold xZ;rw[aTk];intro y hy;simpa using hne y hy
  unfold xE;rw[hk];show zF (l.take (uJ l n)++[(n,v,())]++l.drop (uJ l n))=true;unfold uJ;refine aHq (by rw[aOm];omega) (fun y hy=>?_) (a8L (fun y:tM=>y.1) (x:=(n,v,())) h3 hne fun y hy=>?_)
  · rcases aOl hy with rfl|hy
    .exact⟨hx,hv⟩
    exact⟨(h2 y hy).1,(h2 y hy).2.2⟩
  rw[BU]
  have:decide (y.1=n)=false:=by simpa using hne y hy
  rw[this,Bool.or_false]
structure aHr (es:List JL):Prop where
  len:es.length≤1000
  ok: ∀x∈es,JM x=true
  pw:es.Pairwise (fun a b=>a.1≠b.1)
section
variable {s:p8}(hsm:s.length≤4000000000) {bad:Int}{ends:pI}{tag:p8}{cms:p9}{fds:List tM}{es:List JL}
include hsm
omit hsm in
theorem aOp {c:C4}(h1:yE c.1=true) (h2:B7 c.2.1=true) (h3:zF c.2.2.1=true) (h4:aHr c.2.2.2.1):JP c=true:=by
  unfold JP;rw[h1,h2,h3,aSN (show ((c.2.2.2.1.length:Int))≤1000 by have:=h4.len;omega)];simp only[Bool.true_and,aSV,aS6,aTU,aTA];intro i hi;unfold S4;rw[EE hi,h4.ok _ (aTq hi)];simp only[Bool.not_true,Bool.or_false,aS6,aSs];intro y hy;rw[List.mem_take_iff_getElem] at hy;obtain⟨j,hj,rfl⟩:=hy;exact aSZ.1 h4.pw j i pC hi pC
end
theorem FJ {x:p8}(h:sS x=true):x.length≤4000:=by
  unfold sS at h;simp only[aSB,aSs] at h;omega
structure aOq (x:JL):Prop where
  id:x.1.length≤4000
  src:x.2.1.length≤4000
  tgt:x.2.2.1.length≤4000
  com:x.2.2.2.1.length≤20∧∀y∈x.2.2.2.1,y.length≤4000
  flg:x.2.2.2.2.1.length≤20∧∀y∈x.2.2.2.2.1,y.length≤4000
  fld:x.2.2.2.2.2.2.1.length≤20∧∀y∈x.2.2.2.2.2.2.1,y.1.length≤4000∧y.2.1.length≤4000
theorem aOr {x:JL}(h:JM x=true):aOq x:=by
  have h':=h;unfold JM at h';simp only[aSB] at h';obtain⟨⟨⟨⟨⟨⟨⟨⟨hne,h200⟩,hid⟩,hsrc⟩,htgt⟩,hcom⟩,hflg⟩,_⟩,hfld⟩:=h';obtain⟨c1,c2⟩:=OZ hcom;obtain⟨f1,f2,f3⟩:=aOi hflg;obtain⟨g1,g2,g3⟩:=P0 hfld;exact⟨FJ hid,FJ hsrc,FJ htgt,⟨c1,fun y hy=>FJ (c2 y hy)⟩,⟨f1,fun y hy=>FJ (aHp (f2 y hy))⟩,⟨g1,fun y hy=>⟨FJ (g2 y hy).2.1,FJ (g2 y hy).2.2⟩⟩⟩
theorem aOs {c:C4}(h:JP c=true):E5 c c=some ()∧((((decide (c.1=c.1))&&(val (wD c.2.1 c.2.1)))&&(val (z6 c.2.2.1 c.2.2.1)))&&(val (CM c.2.2.2.1 c.2.2.2.1)))=true:=by
  obtain⟨h1,h2,h3,h4,h5,_⟩:=aOk h;have f2:rZ c.2.1:=by have:=(OZ h2).1;unfold rZ;omega
  have f3:rZ c.2.2.1:=by have:=(P0 h3).1;unfold rZ;omega
  have f4:rZ c.2.2.2.1:=by unfold rZ;omega
  have f5: ∀y∈c.2.2.2.1,a8F y:=fun y hy=>by
    have hs:=aOr (h5 y hy);exact⟨by have:=hs.com.1;unfold rZ;omega,by have:=hs.flg.1;unfold rZ;omega,by have:=hs.fld.1;unfold rZ;omega⟩
  constructor
  · unfold E5 O7
    rw[MI _ f2,S3 _ f3,a8J _ f4 f5];rw[aSj HI,aSj HI,aSm,aSj HI]
  rw[MI _ f2,S3 _ f3,a8J _ f4 f5]
  simp [val]
theorem aOt:E5 (([]:p8),(([]:p9),(([]:List qG),(([]:List rW),())))) (([]:p8),(([]:p9),(([]:List qG),(([]:List rW),()))))=some ():=by
  unfold E5 O7;dsimp only;rw[MI _ a8H,S3 _ a8H,a8J _ a8H (fun _ h=>by cases h)];rw[aSj HI,aSj HI,aSm,aSj HI]
noncomputable section
abbrev Wd:=Bool×p8×Unit
def sO (b:UInt8):Bool:=([32,9]:p8).contains b
def tG (b:UInt8):Bool:= !([32,9,34]:p8).contains b
def aOu (s:p8):Lib.trimLeftS s ([32,9]:p8)=s.dropWhile sO:=rfl
def aOv (b:UInt8):sO b=true↔b=32\/b=9:=by simp [sO]
def aOw (b:UInt8):tG b=true↔b≠32/\b≠9/\b≠34:=by simp [tG]
def S5 {b:UInt8}(h:sO b=false) (h2:b≠34):tG b=true:=by
 rw[aOw];have: ¬(b=32\/b=9):=fun e=>by rw[(aOv b).2 e] at h;cases h
 exact⟨fun e=>this (.inl e),fun e=>this (.inr e),h2⟩
def aHs {b:UInt8}(h:tG b=false) (h2:b≠34):sO b=true:=by
 cases hg:sO b with
 |true=>rfl
 |false=>rw[S5 hg h2] at h;cases h
def S6 {α:Type}(p:α->Bool) (l:List α):(l.dropWhile p).length<=l.length:=(List.dropWhile_suffix p).length_le
def HJ {α:Type}{p:α->Bool}: ∀{l:List α}{b:α}{t:List α},l.dropWhile p=b::t->p b=false
 |[],_,_,h=>by cases h
 |a::l,b,t,h=>by
  rw[List.dropWhile_cons] at h;cases ha:p a with
  |true=>rw[aSj ha] at h;exact HJ h
  |false=>rw[aSl (by simp [ha])] at h;cases h;exact ha
def aHt {α:Type}{p:α->Bool}: ∀(l:List α),∀x∈l.takeWhile p,p x=true
 |[],_,h=>by cases h
 |a::l,x,h=>by
  rw[List.takeWhile_cons] at h;cases ha:p a with
  |true=>
   rw[aSj ha] at h;rcases aSx.1 h with rfl|h
   .exact ha
   .exact aHt l x h
  |false=>rw[aSl (by simp [ha])] at h;cases h
def BA:p8->Bool
 |[]=>true
 |b::_=>sO b
def AF (s:p8):Option (Wd×p8):=
 if s.head? =some 34 then
  match v7 34 (s.drop 1) with
  |none=>none
  |some k=>if (uF 2 ((s.drop 1).take k)).2.2=0/\sS (uF 2 ((s.drop 1).take k)).1=true/\BA (s.drop (k+2))=true then some ((true,(uF 2 ((s.drop 1).take k)).1,()),s.drop (k+2)) else none
 else if (s.dropWhile tG).head? =some 34 then none else some ((false,s.takeWhile tG,()),s.dropWhile tG)
def y6:Nat->p8->Option (List Wd)
 |0,_=>none
 |n+1,s=>if s.dropWhile sO=[] then some [] else match AF (s.dropWhile sO) with
  |none=>none
  |some w=>(y6 n w.2).map (w.1:: ·)
def FK (s:p8):Option (List Wd):=y6 (s.length+1) s
def a8M {b:UInt8}{t:p8}{w:Wd}{r:p8}(hg:sO b=false) (h:AF (b::t)=some (w,r)):r.length<(b::t).length:=by
 unfold AF at h;split at h
 .split at h
  .cases h
  rename_i k hk;split at h
  .cases h;rw[aSR];simp only[aSq];omega
  cases h
 rename_i h34;split at h
 .cases h
 cases h;have hb:tG b=true:=S5 hg fun e=>h34 (by rw[e];rfl);rw[List.dropWhile_cons,aSj hb];have:=S6 tG t;simp only[aSq];omega
def yP (n:Nat) (w:Wd):Prop:=if w.1=true then sS w.2.1=true else w.2.1.length<=n/\(∀b∈w.2.1,tG b=true)/\w.2.1≠[]
def aOx {b:UInt8}{t:p8}{w:Wd}{r:p8}(hg:sO b=false) (h:AF (b::t)=some (w,r)):yP (b::t).length w/\BA r=true:=by
 unfold AF at h;split at h
 .split at h
  .cases h
  split at h
  .rename_i hc;cases h;exact⟨by unfold yP;rw[aSj rfl];exact hc.2.1,hc.2.2⟩
  cases h
 rename_i h34;split at h
 .cases h
 rename_i hd;cases h;have hb:tG b=true:=S5 hg fun e=>h34 (by rw[e];rfl);refine⟨?_,?_⟩
 .unfold yP;rw[aSl pE];exact⟨(List.takeWhile_prefix _).length_le,fun x hx=>aHt _ x hx,by rw[List.takeWhile_cons,aSj hb];simp⟩
 cases hx:(b::t).dropWhile tG with
 |nil=>rfl
 |cons c u=>
  rw[hx] at hd;exact aHs (HJ hx) fun e=>hd (by rw[e];rfl)
def aHu: ∀t:p8,Lib.indexAny t [32,9,34]=if t.dropWhile tG=[] then-1 else((t.takeWhile tG).length:Int)
 |[]=>rfl
 |b::t=>by
  rw[Lib.indexAny,aHu t,List.dropWhile_cons,List.takeWhile_cons];cases hc:([32,9,34]:p8).contains b with
  |true=>
   have:tG b=false:=by unfold tG;rw[hc];rfl
   simp [this]
  |false=>
   have:tG b=true:=by unfold tG;rw[hc];rfl
   rw[aSl pE,aSj this,aSj this];by_cases he:t.dropWhile tG=[]
   .rw[aSj he,aSj he];rfl
   rw[aSl he,aSl he,aSl (by simp only[aTB];omega)];simp
def S7 {t:p8}{p:UInt8->Bool}:t.take (t.takeWhile p).length=t.takeWhile p/\t.drop (t.takeWhile p).length=t.dropWhile p:=by
 have h:t.takeWhile p++t.dropWhile p=t:=List.takeWhile_append_dropWhile;exact⟨(aSL (List.take _) h.symm).trans (List.take_left' rfl),(aSL (List.drop _) h.symm).trans (List.drop_left' rfl)⟩
def aOy {t:p8}{p:UInt8->Bool}(h:t.dropWhile p=[]):t.takeWhile p=t:=by
 have:=List.takeWhile_append_dropWhile (p:=p) (l:=t);rw[h,List.append_nil] at this;exact this
def aOz (x:p8):((decide ((([34]:p8).length:Int)<=(x.length:Int)))&&(decide ((qU x (0:Int) (([34]:p8).length:Int))=([34]:p8))))=decide (x.head? =some 34):=by
 cases x with
 |nil=>rfl
 |cons b t=>
  have h:qU (b::t) 0 (([34]:p8).length:Int)=[b]:=rfl;rw[h];have h2:decide ((([34]:p8).length:Int)<=((b::t).length:Int))=true:=aSN (by simp only[aSq,aSG];omega);rw[h2,Bool.true_and];simp
def aOA (x p:p8):OC x p=some ():=by
 unfold OC O1;rw[aSj (fun h=>by simp only[aTB,aSs] at h;omega)];rfl
def aOB (r:p8):(((!decide (r=([]:p8)))&&(!decide ((rJ r (0:Int))=(32:Int))))&&(!decide ((rJ r (0:Int))=(9:Int))))= !BA r:=by
 cases r with
 |nil=>rfl
 |cons b t=>
  have hb:rJ (b::t) 0=(b.toNat:Int):=rfl;rw[hb,vB (n:=32) 32 rfl,vB (n:=9) 9 rfl];show ((!decide (b::t=[])&& !decide (b=32))&& !decide (b=9))= !sO b;rw[decide_eq_false pE];unfold sO;by_cases h1:b=32
  .subst h1;rfl
  by_cases h2:b=9
  .subst h2;rfl
  simp [h1,h2]
def a8N {s:p8}(hs:s.length<=1000000000): ∃v,H8 (s,(false,()))=some v/\
  (s.dropWhile sO=[]->v=(false,[],false,[],false))/\
  (s.dropWhile sO≠[]->match AF (s.dropWhile sO) with
   |some w=>v=(w.1.1,w.1.2.1,true,w.2,false)
   |none=>v.2.2.1=false/\v.2.2.2.2=true):=by
 have hl:=S6 sO s;obtain⟨t,ht⟩: ∃t,s.dropWhile sO=t:=⟨_,rfl⟩;rw[ht] at hl;unfold H8;dsimp only;rw[show Lib.trimLeftS s ([32,9]:p8)=t from ht,ht];cases t with
 |nil=>exact⟨_,aSj rfl,fun _=>rfl,fun h=>absurd rfl h⟩
 |cons b u=>
  have hg:=HJ ht;simp only[aSq] at hl;rw[aSl pE,aSj ⟨pC,by simp only[aSq];omega⟩];have hb:rJ (b::u) 0=(b.toNat:Int):=rfl;by_cases h34:b=34
  .subst h34;rw[aSl (by rw[hb];simp),aSj ⟨pC,by simp only[aSq];omega,aTa _⟩];have hc1:qU ((34:UInt8)::u) 1 (((34:UInt8)::u).length:Int)=u:=by
    rw[show ((1:Int))=((1:Nat):Int) from rfl,CS];rfl
   have hfu:rZ u:=by unfold rZ;omega
   rw[hc1,aNQ,show ((34:Int))=(((34:UInt8).toNat:Nat):Int) from rfl,aHb pD pD u 34 hfu,aSm];have hn:AF ((34:UInt8)::u)=match v7 34 u with
    |none=>none
    |some k=>if (uF 2 (u.take k)).2.2=0/\sS (uF 2 (u.take k)).1=true/\BA (u.drop (k+1))=true then some ((true,(uF 2 (u.take k)).1,()),u.drop (k+1)) else none:=by
    unfold AF;rw[aSj (show ((34:UInt8)::u).head? =some 34 from rfl)];rfl
   rw[hn];cases hk:v7 34 u with
   |none=>
    rw[aSj pR];exact⟨_,rfl,fun h=>(by cases h),fun _=>⟨rfl,rfl⟩⟩
   |some k=>
    have hku:=OX _ _ _ (aSE _) hk;have hfk:rZ (u.take k):=by unfold rZ;rw[aSX];omega
    have hc2:qU ((34:UInt8)::u) 1 ((k:Int)+1)=u.take k:=by
     unfold qU;rw[show ((k:Int)+1).toNat=k+1 by omega];rfl
    have hc3:qU ((34:UInt8)::u) ((k:Int)+2) (((34:UInt8)::u).length:Int)=u.drop (k+1):=by
     rw[show ((k:Int)+2)=((k+2:Nat):Int) by omega,CS];rfl
    rw[show JN (some k)=(k:Int) from rfl,aSl pE,aSj (show pY ((k:Int)+1) by unfold pY;omega),aSj ⟨pC,pC,by simp only[aSq];omega⟩];rw[hc2,aN5 pD pD hfk,aSm,aSj (show pY ((k:Int)+2) by unfold pY;omega),aSj ⟨pC,by simp only[aSq];omega,aTa _⟩];rw[hc3];have hft:rZ (uF 2 (u.take k)).1:=by
     have:=a8E 2 (u.take k);unfold rZ at hfk|-;omega
    rw[aSj (fun _=>by rw[aG6 _ hft];rfl)];have hpos: ∀q:Bool,(q&&(!decide (u.drop (k+1)=([]:p8)))==true)=true->0<=(0:Int)/\(0:Int)<((u.drop (k+1)).length:Int):=fun q hq=>by
     simp only[aSB,aTB,aSV,aS2] at hq;have:=aTO.2 hq.2;omega
    rw[aSj (hpos _),aSj (fun hq=>hpos true (by
     simp only[aSB,aTB,aSV,aS2] at hq|-;exact⟨trivial,hq.2.1⟩))]
    simp only[aOB];refine⟨_,rfl,fun h=>(by cases h),fun _=>?_⟩;have hto:((decide ((List.length (uF 2 (u.take k)).1:Int)<=(4000:Int)))&&(Lib.validD (uF 2 (u.take k)).1))=sS (uF 2 (u.take k)).1:=rfl;simp only[hto];by_cases hc:(uF 2 (u.take k)).2.2=0/\sS (uF 2 (u.take k)).1=true/\BA (u.drop (k+1))=true
    .rw[aSj hc];obtain⟨h1,h2,h3⟩:=hc;simp [h1,h2,h3]
    rw[aSl hc];have:((!decide ((uF 2 (u.take k)).2.2=0))||(!sS (uF 2 (u.take k)).1)|| !BA (u.drop (k+1)))=true:=by
     cases h1:decide ((uF 2 (u.take k)).2.2=0)<;>cases h2:sS (uF 2 (u.take k)).1<;>cases h3:BA (u.drop (k+1))<;>first|rfl|exact absurd ⟨aS1 h1,h2,h3⟩ hc
    exact⟨by simp only[this];rfl,this⟩
  have hp:tG b=true:=S5 hg h34;rw[aSj (by rw[hb,vB (n:=34) 34 rfl];simp [h34]),aSj (by simp only[aSq];omega)];have hn:AF (b::u)=if ((b::u).dropWhile tG).head? =some 34 then none else some ((false,(b::u).takeWhile tG,()),(b::u).dropWhile tG):=by
   unfold AF;rw[aSl (by simp [h34])]
  rw[hn];have hix:NQ (b::u) ([32,9,34]:p8)=if (b::u).dropWhile tG=[] then-1 else(((b::u).takeWhile tG).length:Int):=aHu _;have hx:(if (decide (NQ (b::u) ([32,9,34]:p8)<(0:Int)))=true then some (((b::u).length:Int)) else some (NQ (b::u) ([32,9,34]:p8)))=(some (((b::u).takeWhile tG).length:Int)):=by
   rw[hix];by_cases he:(b::u).dropWhile tG=[]
   .rw[aSj he,aSj pR,aOy he]
   rw[aSl he,aSl pE]
  have htl:((b::u).takeWhile tG).length<=(b::u).length:=(List.takeWhile_prefix _).length_le;rw[hx];unfold sR;rw[aSm,aSj ⟨aTa _,pC,pC⟩,aSj ⟨pC,pC,aTa _⟩,CS,OT,S7.1,S7.2,aOA,aSm];simp only[aOz];refine⟨_,rfl,fun h=>(by cases h),fun _=>?_⟩;by_cases hh:((b::u).dropWhile tG).head? =some 34
  .rw[aSj hh];exact⟨by simp [hh],by simp [hh]⟩
  rw[aSl hh];simp [hh]
end
noncomputable section
def a8O {α:Type}{f:Int→Option (Int⊕Int)}{l:List α}(p:α→Bool)
    (hf: ∀(i:Nat) (h:i<l.length),f i=if p l[i]=true then some (.inl (i+1)) else some (.inr i)) (he:f l.length=some (.inr l.length)):
    ∀(n j:Nat),j+n=l.length→rG f j=some (((j+((l.drop j).takeWhile p).length:Nat)):Int)
  | 0,j,hj=>by
    have:j=l.length:=by omega
    subst this;rw[aTc,tI,he];rfl
  | n+1,j,hj=>by
    have hlt:j<l.length:=by omega
    rw[tI,hf j hlt,aSK hlt,List.takeWhile_cons];by_cases hp:p l[j]=true
    · rw[aSj hp,aSj hp]
      show rG f ((j:Int)+1)=_;rw[show ((j:Int)+1)=((j+1:Nat):Int) by omega,a8O p hf he n (j+1) pC,aSq];rw[show j+1+((l.drop (j+1)).takeWhile p).length=j+(((l.drop (j+1)).takeWhile p).length+1) by omega]
    rw[aSl hp,aSl hp]
    rfl
def a8P (b:UInt8):((decide ((b.toNat:Int)=32))||(decide ((b.toNat:Int)=9)))=sO b:=by
  rw[vB (n:=32) 32 rfl,vB (n:=9) 9 rfl];unfold sO;simp
def aOC (b:UInt8):((!((decide ((b.toNat:Int)=32))||(decide ((b.toNat:Int)=9))))&& !decide ((b.toNat:Int)=34))=tG b:=by
  rw[vB (n:=32) 32 rfl,vB (n:=9) 9 rfl,vB (n:=34) 34 rfl];unfold tG;simp [Bool.and_assoc]
def aHv {s:p8}(hs:s.length≤1000000000) {f:Int→Option (Int⊕Int)}(hf:f=RP s∨f=RS s) {j:Nat}(hj:j≤s.length):
    rG f (j:Int)=some (((j+((s.drop j).takeWhile sO).length:Nat)):Int):=by
  refine a8O sO (fun i h=>?_) ?_ (s.length-j) j pC
  · have e:f i=if sO s[i]=true then some (.inl ((i:Int)+1)) else some (.inr i):=by
      rcases hf with rfl|rfl
      · unfold RP
        rw[aSj (fun _=>sU h),xB h,a8P,tX h,Bool.true_and,aSj (uB pC)]
      unfold RS
      rw[aSj (fun _=>sU h),xB h,a8P,tX h,Bool.true_and,aSj (uB pC)]
    exact e
  have hF:decide (((s.length:Nat):Int)<(s.length:Int))=false:=by simp
  rcases hf with rfl|rfl
  · unfold RP
    rw[hF,aSj (fun h=>by simp at h),aTV,aSl pE]
  unfold RS
  rw[hF,aSj (fun h=>by simp at h),aTV,aSl pE]
def aOD {s:p8}(hs:s.length≤1000000000) {j:Nat}(hj:j≤s.length):
    rG (RQ s) (j:Int)=some (((j+((s.drop j).takeWhile tG).length:Nat)):Int):=by
  refine a8O tG (fun i h=>?_) ?_ (s.length-j) j pC
  · unfold RQ
    rw[aSj (fun _=>sU h),aSj (fun _=>sU h),xB h,tX h,Bool.true_and,aOC,aSj (uB pC)]
  unfold RQ
  have hF:decide (((s.length:Nat):Int)<(s.length:Int))=false:=by simp
  rw[hF,aSj (fun h=>by simp at h),aTV,aSj (fun h=>by simp at h),aTV,aSl pE]
def aOE {u:p8}(hu:u.length≤1000000000): ∃v,M6 ((34:UInt8)::u)=some v∧match v7 34 u with
    |none=>v.2.2=false
    |some k=>v=((uF 2 (u.take k)).1,((k+2:Nat):Int),decide ((uF 2 (u.take k)).2.2=0)&&sS (uF 2 (u.take k)).1):=by
  have hfu:rZ u:=by unfold rZ;omega
  have hc1:qU ((34:UInt8)::u) 1 (((34:UInt8)::u).length:Int)=u:=by
    rw[show ((1:Int))=((1:Nat):Int) from rfl,CS];rfl
  unfold M6;rw[aSj ⟨pC,by simp only[aSq];omega,aTa _⟩,hc1,show ((34:Int))=(((34:UInt8).toNat:Nat):Int) from rfl,aHb pD pD u 34 hfu,aSm];cases hk:v7 34 u with
  | none=>
    rw[aSj pR];exact⟨_,rfl,rfl⟩
  | some k=>
    have hku:=OX _ _ _ (aSE _) hk;have hfk:rZ (u.take k):=by unfold rZ;rw[aSX];omega
    have hft:rZ (uF 2 (u.take k)).1:=by
      have:=a8E 2 (u.take k);unfold rZ at hfk|-;omega
    have hc2:qU ((34:UInt8)::u) 1 ((1:Int)+(k:Int))=u.take k:=by
      unfold qU;rw[show ((1:Int)+(k:Int)).toNat=k+1 by omega];rfl
    rw[show JN (some k)=(k:Int) from rfl,aSl pE,aSj (show pY ((1:Int)+(k:Int)) by unfold pY;omega),aSj ⟨pC,pC,by simp only[aSq];omega⟩];rw[hc2,aN4 pD pD hfk,aSm,aSj (show pY ((k:Int)+2) by unfold pY;omega),aSj (fun _=>by rw[(XB _ hft).1];rfl),(XB _ hft).2];exact⟨_,rfl,rfl⟩
def aHw {s:p8}{p:UInt8→Bool}{i:Nat}:s.drop (i+((s.drop i).takeWhile p).length)=(s.drop i).dropWhile p:=by
  rw[←aUk];exact S7.2
def aHx {s:p8}{out:List Wd}{j:Nat}(hj:j≤s.length) {A:Option ((List Wd×Int)⊕(List Wd×Bool))}:
    (if (((decide ((j:Int)<(s.length:Int)))==true)=true→0≤(j:Int)∧(j:Int)<(s.length:Int)) then
      if ((decide ((j:Int)<(s.length:Int)))&&(!((decide ((rJ s j)=(32:Int)))||(decide ((rJ s j)=(9:Int))))))=true then A else some (.inl (out,(j:Int)))
     else none)=if BA (s.drop j)=true then some (.inl (out,(j:Int))) else A:=by
  rw[aSj (fun h=>by simp only[aTB,aSs] at h;omega)];by_cases hl:j<s.length
  · rw[aSK hl,xB hl,a8P,tX hl,Bool.true_and]
    show _=if sO s[j]=true then _ else _;cases sO s[j]<;>rfl
  have:j=s.length:=by omega
  subst this;rw[aTc,aSl pE,aSj (show BA []=true from rfl)]
def XH {s:p8}(hs:s.length≤1000000000): ∀(n i:Nat) (out:List Wd),i≤s.length→s.length<i+n→out.length≤i→
    rG (RR s) (out,(i:Int))=some (match y6 n (s.drop i) with|some l=>(out++l,true) |none=>([],false))
  |0,i,out,hi,hn,_=>by omega
  | n+1,i,out,hi,hn,ho=>by
    have hlen:i+((s.drop i).takeWhile sO).length≤s.length:=by
      have:=(List.takeWhile_prefix sO (l:=s.drop i)).length_le;rw[aSR] at this;omega
    have hd:s.drop (i+((s.drop i).takeWhile sO).length)=(s.drop i).dropWhile sO:=aHw;rw[tI];generalize hF:rG (RR s)=F;unfold RR;dsimp only;rw[aHv hs (.inl rfl) hi];unfold sR;rw[aSm,y6];have hij:i≤i+((s.drop i).takeWhile sO).length:=by omega
    generalize i+((s.drop i).takeWhile sO).length=j at hlen hd hij;by_cases he:(s.drop i).dropWhile sO=[]
    · have hj:j=s.length:=by
        rw[he] at hd;have:=aSL List.length hd;rw[aSR,aSG] at this;omega
      rw[aSj (by simp only[aSs];omega),aSj he,aSm];show some (out,true)=some (out++[],true);rw[List.append_nil]
    have hjl:j<s.length:=by
      rcases aTl j s.length with h|h
      .exact h
      rw[List.drop_eq_nil_of_le h] at hd;exact absurd hd.symm he
    rw[aSl pF,aSl he,aSj (sU hjl),xB hjl,←hd];have hcons:=aSK hjl;have hg:sO s[j]=false:=HJ (hd.symm.trans hcons);generalize hb:s[j]=b at hcons hg;by_cases h34:b=34
    · subst h34
      rw[aSj pR,aSj ⟨pC,pC,aTa _⟩,CS,hcons];have hul:(s.drop (j+1)).length≤1000000000:=by rw[aSR];omega
      obtain⟨v,hv,hm⟩:=aOE hul
      have hnx:AF ((34:UInt8)::s.drop (j+1))=match v7 34 (s.drop (j+1)) with
        |none=>none
        |some k=>if (uF 2 ((s.drop (j+1)).take k)).2.2=0∧sS (uF 2 ((s.drop (j+1)).take k)).1=true∧BA ((s.drop (j+1)).drop (k+1))=true then some ((true,(uF 2 ((s.drop (j+1)).take k)).1,()),(s.drop (j+1)).drop (k+1)) else none:=by
        unfold AF;rw[aSj (show ((34:UInt8)::s.drop (j+1)).head? =some 34 from rfl)];rfl
      rw[hv,aSm,hnx];cases hk:v7 34 (s.drop (j+1)) with
      | none=>
        rw[hk] at hm;have hm:v.2.2=false:=hm;rw[aSj (by rw[hm];rfl)];rfl
      | some k=>
        rw[hk] at hm;have hm:v=((uF 2 ((s.drop (j+1)).take k)).1,((k+2:Nat):Int),decide ((uF 2 ((s.drop (j+1)).take k)).2.2=0)&&sS (uF 2 ((s.drop (j+1)).take k)).1):=hm;have hku:=OX _ _ _ (aSE _) hk;rw[aSR] at hku;subst hm;dsimp only;by_cases hc:(decide ((uF 2 ((s.drop (j+1)).take k)).2.2=0)&&sS (uF 2 ((s.drop (j+1)).take k)).1)=true
        · have hc':=hc
          simp only[aSB,aSs] at hc';rw[aSl (by rw[hc];simp),aSj (by simp only[aSq,aSG];omega),aSj (show pY ((j:Int)+((k+2:Nat):Int)) by unfold pY;omega)];unfold tC;rw[aSm];dsimp only;rw[show (j:Int)+((k+2:Nat):Int)=((j+(k+2):Nat):Int) by omega,aHx pC];have hdd:(s.drop (j+1)).drop (k+1)=s.drop (j+(k+2)):=by rw[aUk];congr 1;omega
          rw[hdd];cases hgh:BA (s.drop (j+(k+2))) with
          | false=>
            rw[aSl pE,aSl pE];rfl
          | true=>
            rw[aSj rfl,aSj ⟨hc'.1,hc'.2,rfl⟩,aSm];dsimp only;rw[←hF,XH hs n (j+(k+2)) _ pC pC (by rw[aSp];simp only[aSq,aSG];omega)];cases y6 n (s.drop (j+(k+2))) with
            |none=>rfl
            | some l=>
              show some ((out++[_])++l,true)=some (out++(_::l),true);rw[aSv];rfl
        rw[aSj (by rw[aTA] at hc;rw[hc];rfl)]
        rw[aSl (fun h=>hc (by rw[aSN h.1,h.2.1];rfl))];rfl
    have hp:tG b=true:=S5 hg h34
    rw[aSl (by rw[vB (n:=34) 34 rfl];simp [h34]),aOD hs hlen]
    have hlen2:j+((s.drop j).takeWhile tG).length≤s.length:=by
      have:=(List.takeWhile_prefix tG (l:=s.drop j)).length_le;rw[aSR] at this;omega
    have hpos:0<((s.drop j).takeWhile tG).length:=by rw[hcons,List.takeWhile_cons,aSj hp];simp
    have hd2:s.drop (j+((s.drop j).takeWhile tG).length)=(s.drop j).dropWhile tG:=aHw
    have hcut:qU s (j:Int) ((j+((s.drop j).takeWhile tG).length:Nat):Int)=(s.drop j).takeWhile tG:=by
      unfold qU;rw[aTb,aTb,aS9];exact S7.1
    rw[aSm,aSj ⟨pC,pC,pC⟩,hcut,aSj (by simp only[aSq,aSG];omega)];unfold tC;rw[aSm];dsimp only;rw[aHx hlen2]
    have hnx:AF (s.drop j)=if ((s.drop j).dropWhile tG).head? =some 34 then none else some ((false,(s.drop j).takeWhile tG,()),(s.drop j).dropWhile tG):=by
      unfold AF;rw[aSl (by rw[hcons];simp [h34])]
    rw[hnx,hd2];cases hx:(s.drop j).dropWhile tG with
    | nil=>
      rw[aSj (show BA []=true from rfl),aSl pE,aSm];dsimp only;rw[←hF,XH hs n _ _ hlen2 pC (by rw[aSp];simp only[aSq,aSG];omega),hd2,hx];cases y6 n [] with
      |none=>rfl
      | some l=>
        show some ((out++[_])++l,true)=some (out++(_::l),true);rw[aSv];rfl
    | cons c t=>
      have hcp:=HJ hx;by_cases hc34:c=34
      · subst hc34
        rw[aSl (show¬BA ((34:UInt8)::t)=true by simp [BA,sO]),aSj (show ((34:UInt8)::t).head? =some 34 from rfl)];rfl
      have hgc:BA (c::t)=true:=aHs hcp hc34
      rw[aSj hgc,aSl (by simp [hc34]),aSm];dsimp only;rw[←hF,XH hs n _ _ hlen2 pC (by rw[aSp];simp only[aSq,aSG];omega),hd2,hx];cases y6 n (c::t) with
      |none=>rfl
      | some l=>
        show some ((out++[_])++l,true)=some (out++(_::l),true);rw[aSv];rfl
def aOF {s:p8}(hs:s.length≤1000000000):M8 s=some (match FK s with|some l=>(l,true) |none=>([],false)):=by
  have h:=XH hs (s.length+1) 0 [] pC pC (aSE _);rw[aTr] at h;unfold M8 FK;exact h
def aHy: ∀(n:Nat) (s:p8) (out:List Wd) (v:Bool×p8×Bool×p8×Bool),s.length<n→s.length+out.length≤1000000000→H8 (s,(false,()))=some v→
    ∃ r,rG OO (out,v.2.2.1,v.2.2.2.1,v.2.2.2.2,v.1,v.2.1)=some r∧match y6 n s with
      |some l=>r.1=out++l∧r.2.2=false
      |none=>r.2.2=true
  |0,s,out,v,h,_,_=>by omega
  | n+1,s,out,v,h,hl,hv=>by
    obtain⟨v',hv',h1,h2⟩:=a8N (s:=s) pC;rw[hv] at hv';cases hv';rw[y6];by_cases he:s.dropWhile sO=[]
    · rw[aSj he,h1 he,tI]
      refine⟨(out,[],false),?_,by simp,rfl⟩;unfold OO;dsimp only;rw[aSl pE,aSm]
    rw[aSl he]
    have hm:=h2 he;cases hw:AF (s.dropWhile sO) with
    | none=>
      rw[hw] at hm;obtain⟨h3,h4⟩:v.2.2.1=false∧v.2.2.2.2=true:=hm;rw[tI];refine⟨(out,v.2.2.2.1,v.2.2.2.2),?_,h4⟩;unfold OO;dsimp only;rw[h3,aSl pE,aSm]
    | some w=>
      rw[hw] at hm;have hm:v=(w.1.1,w.1.2.1,true,w.2,false):=hm;subst hm;cases ht:s.dropWhile sO with
      |nil=>exact absurd ht he
      | cons b t=>
        rw[ht] at hw;have hlt:=a8M (HJ ht) hw;have hle:=S6 sO s;rw[ht] at hle;obtain⟨v2,hv2,_,_⟩:=a8N (s:=w.2) pC;obtain⟨r,hr,hrm⟩:=aHy n w.2 (out++[w.1]) v2 pC (by rw[aSp];simp only[aSq,aSG];omega) hv2;refine⟨r,?_,?_⟩
        · rw[tI]
          unfold OO;dsimp only;rw[aSj rfl,aSj (by simp only[aSq,aSG];omega),hv2,aSm,aSm];exact hr
        show match (y6 n w.2).map (w.1:: ·) with|some l=>r.1=out++l∧r.2.2=false|none=>r.2.2=true
        cases hwn:y6 n w.2 with
        |none=>rw[hwn] at hrm;exact hrm
        | some l=>
          rw[hwn] at hrm;obtain⟨h3,h4⟩:r.1=(out++[w.1])++l∧r.2.2=false:=hrm;exact⟨by rw[h3,aSv];rfl,h4⟩
def aHz {s:p8}(hs:s.length≤1000000000): ∃r,H9 s=some r∧match FK s with
    |some l=>r=(l,true)
    |none=>r.2=false:=by
  obtain⟨v,hv,_,_⟩:=a8N hs;obtain⟨r,hr,hm⟩:=aHy (s.length+1) s [] v pC (by simpa using hs) hv;refine⟨(r.1,!r.2.2),?_,?_⟩
  · unfold H9
    rw[hv,aSm];unfold sR;rw[hr,aSm]
  unfold FK
  cases hw:y6 (s.length+1) s with
  | none=>
    rw[hw] at hm;have hm:r.2.2=true:=hm;show (!r.2.2)=false;rw[hm];rfl
  | some l=>
    rw[hw] at hm;obtain⟨h1,h2⟩:r.1=[]++l∧r.2.2=false:=hm;show (r.1,!r.2.2)=(l,true);rw[h1,h2];rfl
def S8: ∀(n:Nat) (s:p8) (l:List Wd),y6 n s=some l→∀w∈l,yP s.length w
  |0,_,_,h=>by cases h
  | n+1,s,l,h=>by
    rw[y6] at h;split at h
    .cases h;intro w hw;cases hw
    split at h
    .cases h
    rename_i w hw
    cases ht:s.dropWhile sO with
    |nil=>rename_i h0 _;exact absurd ht h0
    | cons b t=>
      rw[ht] at hw;have hlt:=a8M (w:=w.1) (r:=w.2) (HJ ht) hw;have hok:=(aOx (w:=w.1) (r:=w.2) (HJ ht) hw).1;have hle:=S6 sO s;rw[ht] at hle
      have mono: ∀{a b:Nat}{x:Wd},a≤b→yP a x→yP b x:=fun hab hx=>by
        unfold yP at hx|-;split
        .rename_i h1;rw[aSj h1] at hx;exact hx
        rename_i h1;rw[aSl h1] at hx;exact⟨pC,hx.2⟩
      cases hl:y6 n w.2 with
      |none=>rw[hl] at h;cases h
      | some l'=>
        rw[hl] at h;cases h;intro x hx;rcases aSx.1 hx with rfl|hx
        .exact mono hle hok
        exact mono pC (S8 n w.2 l' hl x hx)
def a8Q: ∀(n:Nat) (s:p8) (l:List Wd),y6 n s=some l→s.dropWhile sO≠[]→l≠[]
  |0,_,_,h,_=>by cases h
  | n+1,s,l,h,hne=>by
    rw[y6,aSl hne] at h;split at h
    .cases h
    rename_i w hw
    cases hl:y6 n w.2 with
    |none=>rw[hl] at h;cases h
    |some l'=>rw[hl] at h;cases h;simp
end
noncomputable section
abbrev tW:Ty:= .pair .bool (.pair .str .unit)
def wQ:p8:=[99,97,116,97,108,111,103]
def yH:p8:=[101,110,116,114,121]
def uU:p8:=[99,111,109,109,101,110,116]
def tR:p8:=[115,111,117,114,99,101]
def tS:p8:=[116,97,114,103,101,116]
def vY:p8:=[115,116,97,116,101]
def vQ:p8:=[102,105,101,108,100]
def FL:p8:=[101,110,100]
def vJ:p8:=[102,108,97,103,115]
inductive vZ where
  |bad
  |cont (t:p8)
  |beg (head:Bool) (t:p8)
  |com (t:p8)
  |src (t:p8)
  |tgt (t:p8)
  |sta (v:Int)
  |fld (n v:p8)
  |flg (l:p9)
  |fin
def sZ:List Wd→Option p8
  |[w]=>if w.1=true then some w.2.1 else none
  |_=>none
def BV:List Wd→Option Int
  |[w]=>if w.1=false∧0≤xD w.2.1 then some (xD w.2.1) else none
  |_=>none
def BW:List Wd→Option (p8×p8)
  |[a,b]=>if (a.1=true∧b.1=true)∧vX a.2.1=true then some (a.2.1,b.2.1) else none
  |_=>none
def r6 (l:List Wd):p9:=l.map (·.2.1)
def AG (w:Wd):Bool:=w.1|| !vX w.2.1
def uK (k:p8) (r:List Wd):vZ:=
  if k=wQ then((sZ r).map (vZ.beg true)).getD .bad
  else if k=yH then((sZ r).map (vZ.beg false)).getD .bad
  else if k=uU then((sZ r).map vZ.com).getD .bad
  else if k=tR then((sZ r).map vZ.src).getD .bad
  else if k=tS then((sZ r).map vZ.tgt).getD .bad
  else if k=vY then((BV r).map vZ.sta).getD .bad
  else if k=vQ then((BW r).map fun q=>vZ.fld q.1 q.2).getD .bad
  else if k=FL then(if r=[] then .fin else .bad)
  else if k=vJ then(if r=[]∨(r.any AG)=true then .bad else .flg (r6 r))
  else .bad
def BB:List Wd→vZ
  |[]=> .bad
  |w::r=>if w.1=true then(if (r.any fun x=> !x.1)=true then .bad else .cont (r6 (w::r)).flatten) else uK w.2.1 r
def FM {l:List Wd}{i:Nat}(h:i<l.length):qH tW l (i:Int)=l[i]:=AD h
def aOG {w:Wd}{r:List Wd}(hl:(w::r).length≤1000000000) (hw:w.1=true):zC (w::r)=some ([],!(r.any fun x=> !x.1)):=by
  unfold zC;have h0:qH tW (w::r) (0:Int)=w:=rfl;rw[aSj ⟨aTa _,by simp only[aSq];omega⟩,h0,aSj hw]
  rw[EC (l:=w::r) (fun x=> !x.1) (fun _=>(([]:p8),false)) (fun i h=>by
    unfold WX;rw[aSj (tX h),aSj (sU h),FM h,aSj (uB pC)]) (by
    unfold WX;rw[aSl (xC _)])]
  rw[HE,JJ];rw[List.any_cons,hw,Bool.not_true,Bool.false_or];cases(r.any fun x=> !x.1)<;>rfl
def aHA (w:Wd) (r:List Wd):((decide (((w::r).length:Int)=(2:Int)))&&(qH tW (w::r) (1:Int)).1)=(sZ r).isSome:=by
  match r with
  |[]=>rfl
  | [a]=>
    show (true&&a.1)=_;unfold sZ;cases h:a.1<;>simp [h]
  | a::b::t=>
    have:decide (((w::a::b::t).length:Int)=2)=false:=decide_eq_false (by simp only[aSq];omega);rw[this];rfl
def aOH {w:Wd}{r:List Wd}(hw:w.1=false) (hk:w.2.1=wQ∨w.2.1=yH∨w.2.1=uU∨w.2.1=tR∨w.2.1=tS):zC (w::r)=some (w.2.1,(sZ r).isSome):=by
  unfold zC;have h0:qH tW (w::r) (0:Int)=w:=rfl;have hl:0≤(0:Int)∧(0:Int)<((w::r).length:Int):=⟨aTa _,by simp only[aSq];omega⟩;rw[aSj hl,h0,aSl (by rw[hw];simp),aSj hl]
  have hx: ∀X:Bool→Option (p8×Bool),sR (σ:=Bool) (
      if (decide (w.2.1=([99,97,116,97,108,111,103]:p8)))=true then
       some ((decide (w.2.1=([99,97,116,97,108,111,103]:p8))))
      else
       if (decide (w.2.1=([101,110,116,114,121]:p8)))=true then
        some ((decide (w.2.1=([101,110,116,114,121]:p8))))
       else
        if (decide (w.2.1=([99,111,109,109,101,110,116]:p8)))=true then
         some ((decide (w.2.1=([99,111,109,109,101,110,116]:p8))))
        else
         if (decide (w.2.1=([115,111,117,114,99,101]:p8)))=true then
          some ((decide (w.2.1=([115,111,117,114,99,101]:p8))))
         else
          some ((decide (w.2.1=([116,97,114,103,101,116]:p8))))) X=X true:=fun X=>by
    rcases hk with h|h|h|h|h<;>rw[h]<;>rfl
  rw[hx,aSj rfl,aSj (fun h=>⟨pC,by
    simp only[aTB,aSs] at h;omega⟩),aHA]
def aOI {w:Wd}{r:List Wd}(hw:w.1=false) (hk: ¬(w.2.1=wQ∨w.2.1=yH∨w.2.1=uU∨w.2.1=tR∨w.2.1=tS)) (hf:r.length≤1000000000) (hx: ∀x∈r,rZ x.2.1):
    zC (w::r)=some (if w.2.1=vY then(vY,(BV r).isSome) else if w.2.1=vQ then(vQ,(BW r).isSome) else if w.2.1=FL then(FL,decide (r=[])) else if w.2.1=vJ then(vJ,!(decide (r=[])||r.any AG)) else([],false)):=by
  unfold zC;have h0:qH tW (w::r) (0:Int)=w:=rfl;have hl:0≤(0:Int)∧(0:Int)<((w::r).length:Int):=⟨aTa _,by simp only[aSq];omega⟩;rw[aSj hl,h0,aSl (by rw[hw];simp),aSj hl];simp only[not_or] at hk;obtain⟨h1,h2,h3,h4,h5⟩:=hk;unfold sR;have e1:decide (w.2.1=([99,97,116,97,108,111,103]:p8))=false:=decide_eq_false h1;have e2:decide (w.2.1=([101,110,116,114,121]:p8))=false:=decide_eq_false h2;have e3:decide (w.2.1=([99,111,109,109,101,110,116]:p8))=false:=decide_eq_false h3;have e4:decide (w.2.1=([115,111,117,114,99,101]:p8))=false:=decide_eq_false h4;have e5:decide (w.2.1=([116,97,114,103,101,116]:p8))=false:=decide_eq_false h5;rw[e1,e2,e3,e4,e5,aSl pE,aSl pE,aSl pE,aSl pE,aSm,aSl pE];by_cases h6:w.2.1=vY
  · rw[aSj h6,show decide (w.2.1=([115,116,97,116,101]:p8))=true from aSN h6,aSj rfl,h6]
    match r with
    |[]=>rfl
    | [a]=>
      have hn:qH tW [w,a] (1:Int)=a:=rfl;rw[hn,aGP,aSj (fun _=>by simp),aSj (fun _=>by simp),aSj (fun _=>Option.isSome_some)];show some (vY,(true&& !a.1)&&decide (0≤xD a.2.1))=_;unfold BV;cases ha:a.1<;>by_cases hs:0≤xD a.2.1<;>simp [hs,ha]
    | a::b::t=>
      have:decide (((w::a::b::t).length:Int)=2)=false:=decide_eq_false (by simp only[aSq];omega);rw[this,aSj (fun h=>by simp at h),aSj (fun h=>by simp at h),aSj (fun h=>by simp at h)];rfl
  rw[aSl h6,show decide (w.2.1=([115,116,97,116,101]:p8))=false from decide_eq_false h6,aSl pE]
  by_cases h7:w.2.1=vQ
  · rw[aSj h7,show decide (w.2.1=([102,105,101,108,100]:p8))=true from aSN h7,aSj rfl,h7]
    match r with
    |[]=>rfl
    |[a]=>rfl
    | [a,b]=>
      have hn:qH tW [w,a,b] (1:Int)=a:=rfl;have hn2:qH tW [w,a,b] (2:Int)=b:=rfl;rw[hn,hn2,aGM a.2.1 (hx a pE),aSj (fun _=>by simp),aSj (fun _=>by simp),aSj (fun _=>by simp),aSj (fun _=>Option.isSome_some)];show some (vQ,((true&&a.1)&&b.1)&&vX a.2.1)=_;unfold BW;cases ha:a.1<;>cases hb:b.1<;>cases hc:vX a.2.1<;>simp [ha,hb,hc]
    | a::b::c::t=>
      have:decide (((w::a::b::c::t).length:Int)=3)=false:=decide_eq_false (by simp only[aSq];omega);rw[this,aSj (fun h=>by simp at h),aSj (fun h=>by simp at h),aSj (fun h=>by simp at h),aSj (fun h=>by simp at h)];rfl
  rw[aSl h7,show decide (w.2.1=([102,105,101,108,100]:p8))=false from decide_eq_false h7,aSl pE]
  by_cases h8:w.2.1=FL
  · rw[aSj h8,show decide (w.2.1=([101,110,100]:p8))=true from aSN h8,aSj rfl,h8]
    cases r with
    |nil=>rfl
    | cons a t=>
      rw[decide_eq_false (show¬((w::a::t).length:Int)=1 by simp only[aSq];omega)];rfl
  rw[aSl h8,show decide (w.2.1=([101,110,100]:p8))=false from decide_eq_false h8,aSl pE]
  by_cases h9:w.2.1=vJ
  · rw[aSj h9,show decide (w.2.1=([102,108,97,103,115]:p8))=true from aSN h9,aSj rfl]
    have hs:=X6 (l:=w::r) AG (fun _=>(w.2.1,false)) (f:=RM (w::r)) (fun i h=>by
      unfold RM
      have hfi:rZ ((w::r)[i]).2.1:=by
        cases i with
        |zero=>rw[List.getElem_cons_zero,h9];unfold rZ vJ;simp
        |succ i=>rw[List.getElem_cons_succ];exact hx _ (aTq _)
      rw[aSj (tX h),aSj (sU h),aSj (fun _=>sU h),FM h,aGM _ hfi,aSj (fun _=>Option.isSome_some),h0,aSj (uB (by simp only[aSq] at h;omega))];rfl) (by
      unfold RM;rw[aSl (xC _)]) r.length 1 (by simp only[aSq];omega)
    rw[show ((1:Int))=((1:Nat):Int) from rfl,hs,HE,JJ,h9];show some (if r.any AG=true then _ else _)=_;cases hr:r with
    |nil=>rfl
    | cons a t=>
      rw[aSN (show ((1:Nat):Int)<((w::a::t).length:Int) by simp only[aSq];omega)];cases(a::t).any AG<;>rfl
  rw[aSl h9,show decide (w.2.1=([102,108,97,103,115]:p8))=false from decide_eq_false h9,aSl pE]
def zT (l:p9):Bool:=decide ((Lib.compact (sJ l)).length<(sJ l).length)
def aHB {l:p9}(h:zT l=false):(sJ l).Pairwise (· < ·):=by
  unfold zT at h;have h1: ¬(Lib.compact (sJ l)).length<(sJ l).length:=of_decide_eq_false h;generalize hs:sJ l=s at h1;have hpw:s.Pairwise (·≤·):=by rw[←hs];exact S2 l
  have h2:((List.range s.length).filter (Lib.keeps s.toArray)).length=(List.range s.length).length:=by
    have h3:(Lib.compact s).length=((List.range s.length).filter (Lib.keeps s.toArray)).length:=by
      unfold Lib.compact Lib.compactUpTo;rw[aTE]
    have h4:=List.length_filter_le (Lib.keeps s.toArray) (List.range s.length);rw[List.length_range] at h4|-;omega
  have h3:=List.length_filter_eq_length_iff.1 h2;refine a8K (r:=fun a b:p8=>a<b) (fun a b c=>List.lt_trans) fun i hi=>?_;have hk:=h3 (i+1) (aTU.2 hi)
  have hne:s[i+1]≠s[i]:=by
    intro e
    have:=Lib.keeps_neg (d:=s.toArray) (m:=i+1) pC (by
      rw[Nat.add_sub_cancel,getElem!_pos s.toArray (i+1) (by simpa using hi),getElem!_pos s.toArray i pF];simpa using e)
    rw[this] at hk;cases hk
  have hle:s[i]≤s[i+1]:=aSZ.1 hpw i (i+1) pC hi pC;exact XG (a:=s[i+1]) (b:=s[i]) (fun hlt=>hle hlt) hne
def aOJ {l:p9}(h:l.Pairwise (· < ·)):l.Nodup:=h.imp fun hab e=>by subst e;exact List.lt_irrefl _ hab
def aOK {l:p9}(h:l.Nodup):(sJ l).Pairwise (· < ·):=by
  have h1:(sJ l).Nodup:=(MH l).nodup_iff.2 h;have h2:=S2 l;rw[aSZ] at h2|-;intro i j hi hj hij
  exact XG (fun hlt=>h2 i j hi hj hij hlt) fun e=>by
    have:=(List.nodup_iff_pairwise_ne.1 h1);rw[aSZ] at this;exact this i j hi hj hij e.symm
def aHC (l:p9):zT l=false↔l.Nodup:=by
  constructor
  · intro h
    exact(MH l).nodup_iff.1 (aOJ (aHB h))
  intro h
  have h2:=aOK h;unfold zT
  have:Lib.compact (sJ l)=sJ l:=Lib.compact_all (sJ l) fun j hj=>by
    cases j with
    |zero=>simp [Lib.keeps]
    | succ j=>
      refine Lib.keeps_pos ?_;rw[Nat.add_sub_cancel,getElem!_pos (sJ l).toArray (j+1) (by simpa using hj),getElem!_pos (sJ l).toArray j pF];intro e;have h1:=aSZ.1 h2 j (j+1) pC hj pC;simp only[List.getElem_toArray] at e;rw[e] at h1;exact List.lt_irrefl _ h1
  rw[this];exact decide_eq_false (aT0 _)
def aOL {l:p9}{x:p8}(hp:l.Pairwise (·≤·)):(x∈l)↔∃h:y5 l x<l.length,l[y5 l x]=x:=by
  constructor
  · intro hm
    unfold y5;cases hf:l.findIdx? fun y=> !Op.bytesLess y x with
    | none=>
      have:=aTk.1 hf x hm;rw[BU] at this;simp [List.lt_irrefl] at this
    | some k=>
      obtain⟨hk,h1,h2⟩:=aS5.1 hf;refine⟨hk,?_⟩;show l[k]=x;rw[BU] at h1;have h1: ¬l[k]<x:=by simpa using h1
      obtain⟨j,hj,rfl⟩:=aT1 hm;rcases Nat.lt_trichotomy j k with h|h|h
      · have:=h2 j h
        rw[BU] at this;simp [List.lt_irrefl] at this
      .subst h;rfl
      have:=aSZ.1 hp k j hk hj h
      exact List.le_antisymm this (List.not_lt.1 h1)
  rintro⟨h,e⟩
  rw[←e];exact aTq _
def aHD {l:List Wd}(hl:l.length≤1000000000): ∀(n i:Nat),i+n=l.length→(r6 (l.take i)).Nodup→
    rG (NZ l) (sJ (r6 (l.take i)),(i:Int))=some (if (r6 l).Nodup then .inl (sJ (r6 l)) else .inr ([],false))
  | 0,i,hi,hn=>by
    have:i=l.length:=by omega
    subst this;rw[List.take_length] at hn|-;rw[aSj hn,tI];unfold NZ;dsimp only;rw[aSl (xC _)];rfl
  | n+1,i,hi,hn=>by
    have hlt:i<l.length:=by omega
    have hlen:(sJ (r6 (l.take i))).length=i:=by rw[JO];unfold r6;rw[aTE,aSX];omega
    have htk:r6 (l.take (i+1))=r6 (l.take i)++[l[i].2.1]:=by
      unfold r6;rw[List.take_succ_eq_append_getElem hlt,List.map_append];rfl
    have hpw:=S2 (r6 (l.take i));have hins:=aOc (r6 (l.take i)) l[i].2.1;have hmem:l[i].2.1∈sJ (r6 (l.take i))↔l[i].2.1∈r6 (l.take i):=(MH _).mem_iff;rw[tI];generalize hF:rG (NZ l)=F;unfold NZ;dsimp only;rw[aSj (tX hlt)]
    rw[aGV (l:=sJ (r6 (l.take i))) (fun y=>Op.bytesLess y l[i].2.1) (fun j hj=>by
      unfold WP;rw[aSj (fun _=>sU hj),aSj (fun _=>sU hlt),AD hj,FM hlt,tX hj,Bool.true_and,aSj (uB pC)]) (by
      unfold WP;have hF:decide (((sJ (r6 (l.take i))).length:Int)<((sJ (r6 (l.take i))).length:Int))=false:=by simp
      rw[hF,aSj (fun h=>by simp at h),aSj (fun h=>by simp at h),aTV,aSl pE])]
    unfold sR;rw[aSm]
    have hins':y5 (sJ (r6 (l.take i))) l[i].2.1≤(sJ (r6 (l.take i))).length:=by
      unfold y5;cases hf:(sJ (r6 (l.take i))).findIdx? fun y=> !Op.bytesLess y l[i].2.1 with
      |none=>exact aSE _
      | some k=>
        have:=(aS5.1 hf).1;exact Nat.le_of_lt this
    rw[show ((sJ (r6 (l.take i))).findIdx? fun x=> !Op.bytesLess x l[i].2.1).getD (sJ (r6 (l.take i))).length=y5 (sJ (r6 (l.take i))) l[i].2.1 from rfl];have hat:=aOL (x:=l[i].2.1) hpw;generalize hk:y5 (sJ (r6 (l.take i))) l[i].2.1=k at hins' hat
    have hinsE:(sJ (r6 (l.take i))).take k++[l[i].2.1]++(sJ (r6 (l.take i))).drop k=sJ (r6 (l.take (i+1))):=by
      rw[htk,←hins];unfold OY;rw[hk]
    generalize hS:sJ (r6 (l.take i))=S at*;rw[aSj (fun h=>by simp only[aTB,aSs] at h;omega),aSj (fun _=>sU hlt),FM hlt];by_cases hm:l[i].2.1∈r6 (l.take i)
    · obtain⟨h1,h2⟩:=hat.1 (hmem.2 hm)
      rw[AD h1,h2,aSj pF,aSm]
      have hno: ¬(r6 l).Nodup:=fun hnd=>by
        have h3:(r6 (l.take (i+1))).Nodup:=hnd.sublist (by unfold r6;exact(List.take_sublist _ _).map _);rw[htk,List.nodup_append] at h3;exact h3.2.2 _ hm _ pE rfl
      rw[aSl hno]
    have hnk:((decide ((k:Int)<(S.length:Int)))&&(decide ((qH .str S (k:Int))=l[i].2.1)))=false:=by
      by_cases h1:k<S.length
      · rw[AD h1]
        have: ¬S[k]=l[i].2.1:=fun e=>hm (hmem.1 (hat.2 ⟨h1,e⟩));simp only[this,decide_false,Bool.and_false]
      rw[decide_eq_false (by omega: ¬(k:Int)<(S.length:Int)),aTV]
    rw[hnk,aSl pE,aSj ⟨aTa _,pC,pC⟩,OT,CS];have hmin:(S.take k).length=k:=by rw[aSX];omega
    have hdrop:(S.drop k).length=i-k:=by rw[aSR];omega
    simp only[List.nil_append,aSp,aSq,aSG,hmin,hdrop];rw[aSj pC,aSj (sU hlt),aSj pC,aSj ⟨pC,pC,aTa _⟩,aSj pC,aSj (uB pC),aSm,hinsE];dsimp only;rw[←hF,show ((i:Int)+1)=((i+1:Nat):Int) by omega]
    have hnd:(r6 (l.take (i+1))).Nodup:=by
      rw[htk,List.nodup_append];exact⟨hn,by simp,fun a ha b hb=>by rw[aSC.1 hb];exact fun e=>hm (e▸ha)⟩
    exact aHD hl n (i+1) pC hnd
def aOM {l:List Wd}(hl:l.length≤1000000000):LD l=some (if zT (r6 l)=true then([],false) else(sJ (r6 l),true)):=by
  have h:=aHD hl l.length 0 pC (by unfold r6;simp);have h0:sJ (r6 (l.take 0))=[]:=aSQ (by rw[JO];rfl);rw[h0] at h;unfold LD;rw[show ((0:Int))=((0:Nat):Int) from rfl,h];by_cases hd:(r6 l).Nodup
  · rw[aSj hd,aSl (by rw[(aHC _).2 hd];simp)]
    rfl
  have:zT (r6 l)=true:=by
    cases hq:zT (r6 l) with
    |true=>rfl
    |false=>exact absurd ((aHC _).1 hq) hd
  rw[aSl hd,aSj this];rfl
end
noncomputable section
structure St where
 c:C4
 ends:pI
 id:p8
 sc:p8
 tg:p8
 cm:p9
 fg:p9
 sv:Int
 fd:List tM
 op:Bool
 bs:Bool
 bt:Bool
 bh:Bool
 bf:Bool
 last:p8
 name:p8
abbrev St.x (s:St):rW:=(s.id,(s.sc,(s.tg,(s.cm,(s.fg,(s.sv,(s.fd,())))))))
abbrev St.tup (s:St):A7:=(s.c,(s.ends,(s.x,(s.op,(s.bs,(s.bt,(s.bh,(s.bf,(s.last,(s.name,()))))))))))
abbrev BX:=p8×p9×(List qG)×(List rW)×pI×p8×p8×p8×p9×p9×Int×(List qG)×Bool×Bool×Bool×Bool×Bool×p8×p8×Int
abbrev BX.err (r:BX):Int:=r.2.2.2.2.2.2.2.2.2.2.2.2.2.2.2.2.2.2.2
abbrev St.flat (s:St) (e:Int):BX:=(s.c.1,s.c.2.1,s.c.2.2.1,s.c.2.2.2.1,s.ends,s.id,s.sc,s.tg,s.cm,s.fg,s.sv,s.fd,s.op,s.bs,s.bt,s.bh,s.bf,s.last,s.name,e)
def FN (s:St) (c:C4) (t:p8):St:=⟨c,s.ends,t,[],[],[],[],0,[],true,false,false,false,false,[],[]⟩
def JQ (c:C4) (ends:pI):St:=⟨c,ends,[],[],[],[],[],0,[],false,false,false,false,false,[],[]⟩
def tH (s:St):p8:=if s.last=uU then s.cm.getLastD [] else if s.last=tR then s.sc else if s.last=tS then s.tg else(ED s.fd s.name).1
def uC (s:St) (z:p8):St:=
 if s.last=uU then {s with cm:=s.cm.dropLast++[z]} else if s.last=tR then {s with sc:=z} else if s.last=tS then {s with tg:=z} else {s with fd:=xE s.fd s.name z}
def rU (s:St) (next:Int):vZ->Int×St
 | .bad=>(3,s)
 | .cont t=>if s.op=false\/s.last=[] then(3,s) else if sS (tH s++t)=true then(0,uC s (tH s++t)) else(3,s)
 | .beg true t=>if s.op=true\/s.ends≠[] then(3,s) else if yE t=true then(0,FN s (t,s.c.2) t) else(3,s)
 | .beg false t=>if s.op=true\/s.ends=[] then(3,s) else if t=[]\/200<t.length then(3,s) else if (s.c.2.2.2.1.any fun y=>decide (y.1=t))=true then(9,s) else if 1000<=s.c.2.2.2.1.length then(6,s) else(0,FN s s.c t)
 | .com t=>if s.op=false then(3,s) else if 20<=s.cm.length then(6,s) else(0,{s with cm:=s.cm++[t],last:=uU,name:=[]})
 | .src t=>if s.op=false\/s.ends=[] then(3,s) else if s.bs=true then(9,s) else(0,{s with sc:=t,bs:=true,last:=tR,name:=[]})
 | .tgt t=>if s.op=false\/s.ends=[] then(3,s) else if s.bt=true then(9,s) else(0,{s with tg:=t,bt:=true,last:=tS,name:=[]})
 | .sta v=>if s.op=false\/s.ends=[] then(3,s) else if s.bh=true then(9,s) else(0,{s with sv:=v,bh:=true,last:=[],name:=[]})
 | .flg l=>if s.op=false\/s.ends=[] then(3,s) else if s.bf=true\/zT l=true then(9,s) else if 20<l.length then(6,s) else(0,{s with fg:=sJ l,bf:=true,last:=[],name:=[]})
 | .fld n v=>if s.op=false then(3,s) else if (s.fd.any fun y=>decide (y.1=n))=true then(9,s) else if 20<=s.fd.length then(6,s) else(0,{s with fd:=xE s.fd n v,last:=vQ,name:=n})
 | .fin=>if s.op=false then(3,s) else(0,JQ (if s.ends=[] then(s.c.1,(s.cm,(s.fd,s.c.2.2.2))) else(s.c.1,(s.c.2.1,(s.c.2.2.1,(s.c.2.2.2.1++[s.x],()))))) (s.ends++[next]))
def CT (s:p8):Bool:=decide (s.dropWhile sO=[])||decide ((s.dropWhile sO).head? =some 35)
def wE (s:St) (line:p8) (next:Int):Int×St:=
 if CT line=true then(0,s) else match FK line with
  |none=>(3,s)
  |some l=>rU s next (BB l)
structure uV (s:St):Prop where
 tag:s.ends≠[]\/s.op=true->yE s.c.1=true
 hcm:B7 s.c.2.1=true
 hfd:zF s.c.2.2.1=true
 es:aHr s.c.2.2.2.1
 e0:s.ends=[]->s.c.2.2.2.1=[]
 en:s.ends≠[]->s.ends.length=s.c.2.2.2.1.length+1
 room:s.op=true->s.ends≠[]->s.c.2.2.2.1.length<1000
 sc:sS s.sc=true
 tg:sS s.tg=true
 cm:B7 s.cm=true
 fg:OW s.fg=true
 sv:0<=s.sv/\s.sv<=4
 fd:zF s.fd=true
 id:s.op=true->s.ends≠[]->s.id≠[]/\s.id.length<=200/\sS s.id=true/\∀y∈s.c.2.2.2.1,y.1≠s.id
 lcm:s.last=uU->s.cm≠[]
 lfd:s.last=vQ->(s.fd.any fun y=>decide (y.1=s.name))=true
 lst:s.last=[]\/s.last=uU\/s.last=tR\/s.last=tS\/s.last=vQ
 off:s.op=false->s.last=[]
def XI (n:Nat):vZ->Prop
 | .cont t=>t.length<=n
 | .beg _ t=>sS t=true
 | .com t=>sS t=true
 | .src t=>sS t=true
 | .tgt t=>sS t=true
 | .sta v=>0<=v/\v<=4
 | .fld n v=>vX n=true/\sS v=true
 | .flg l=>l≠[]/\l.length<=n/\∀x∈l,vX x=true
 |_=>True
def aON (s:p8):xD s<=4:=by
 unfold xD;cases h:HF.findIdx? fun x=>decide (x=s) with
 |none=>show (-1:Int)<=4;decide
 |some k=>
  have:=(aS5.1 h).1;show (k:Int)<=4;unfold HF at this;simp only[aSq,aSG] at this;omega
def P1: ∀(n:Nat) (s:p8) (l:List Wd),y6 n s=some l->(r6 l).flatten.length<=s.length/\l.length<=s.length
 |0,_,_,h=>by cases h
 |n+1,s,l,h=>by
  rw[y6] at h;split at h
  .cases h;exact⟨aTg _,aTg _⟩
  split at h
  .cases h
  rename_i h0 _ w hw;cases ht:s.dropWhile sO with
  |nil=>exact absurd ht h0
  |cons b t=>
   rw[ht] at hw;have hg:=HJ ht;have hle:=S6 sO s;rw[ht] at hle;have hlt:=a8M (w:=w.1) (r:=w.2) hg hw;have hs:w.1.2.1.length+w.2.length<=(b::t).length:=by
    unfold AF at hw;split at hw
    .split at hw
     .cases hw
     rename_i k hk;split at hw
     .cases hw;have h1:=a8E 2 (((b::t).drop 1).take k);have h2:=OX _ _ _ (aSE _) hk;show (uF 2 (((b::t).drop 1).take k)).1.length+((b::t).drop (k+2)).length<=(b::t).length;simp only[aSX,aSR,aSq] at h1 h2|-;omega
     cases hw
    split at hw
    .cases hw
    cases hw;have:=aSL List.length (List.takeWhile_append_dropWhile (p:=tG) (l:=b::t));rw[aSp] at this;exact aTN this
   cases hl:y6 n w.2 with
   |none=>rw[hl] at h;cases h
   |some l'=>
    rw[hl] at h;cases h;have ih:=P1 n w.2 l' hl;constructor
    .show (w.1.2.1++(r6 l').flatten).length<=_;rw[aSp];omega
    rw[aSq];omega
def a8R {n:Nat}{r:List Wd}{t:p8}(h: ∀w∈r,yP n w) (ho:sZ r=some t):sS t=true:=by
 unfold sZ at ho;split at ho
 .rename_i w;split at ho
  .rename_i hw;cases ho;have:=h w pE;unfold yP at this;rw[aSj hw] at this;exact this
  cases ho
 cases ho
def aOO {n:Nat}{l:List Wd}(h: ∀w∈l,yP n w) (h1:(r6 l).flatten.length<=n) (h2:l.length<=n):XI n (BB l):=by
 cases l with
 |nil=>exact trivial
 |cons w r=>
  have hr: ∀w∈r,yP n w:=fun x hx=>h x (aSy _ hx);unfold BB;dsimp only;split
  .split
   .exact trivial
   exact h1
  unfold uK;have one: ∀(f:p8->vZ),(∀t,sS t=true->XI n (f t))->XI n (((sZ r).map f).getD .bad):=fun f hf=>by
   cases ho:sZ r with
   |none=>exact trivial
   |some t=>exact hf t (a8R hr ho)
  split
  .exact one _ fun t ht=>ht
  split
  .exact one _ fun t ht=>ht
  split
  .exact one _ fun t ht=>ht
  split
  .exact one _ fun t ht=>ht
  split
  .exact one _ fun t ht=>ht
  split
  .cases ho:BV r with
   |none=>exact trivial
   |some v=>
    unfold BV at ho;split at ho
    .split at ho
     .rename_i hv;cases ho;exact⟨hv.2,aON _⟩
     cases ho
    cases ho
  split
  .cases ho:BW r with
   |none=>exact trivial
   |some q=>
    unfold BW at ho;split at ho
    .rename_i a b;split at ho
     .rename_i hv;cases ho;have hb:=hr b pE;unfold yP at hb;rw[aSj hv.1.2] at hb;exact⟨hv.2,hb⟩
     cases ho
    cases ho
  split
  .split<;>exact trivial
  split
  .split
   .exact trivial
   rename_i hn;simp only[not_or,aTA] at hn;refine⟨by unfold r6;simpa using hn.1,by unfold r6;rw[aTE];simp only[aSq] at h2;omega,fun x hx=>?_⟩;unfold r6 at hx;obtain⟨w',hw',rfl⟩:=List.mem_map.1 hx;have:=aS6.1 hn.2 w' hw';unfold AG at this;simpa using(fun h=>this (by rw[h];simp): ¬(!vX w'.2.1)=true)
  exact trivial
end
end Go.Proofs.YtcpbaddnmpeipaaGreatDoor
