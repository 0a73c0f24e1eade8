/- TreeSplit returns true for every body (Split gives the pieces that the document gives): the tied card of the statement, over the row's statement. No condition. -/
/- Packed by a program of mine (wip/tools/pack.py): the same texts with short names and few blanks. -/
import Derived.Deep.CondSized
import Derived.Deep.DeepHandedRow
import Derived.Deep.DeepWitnessRowRef
import Derived.KernelRfl
import Derived.Laws.BitsLemmas
import Derived.Lib.Index
import Derived.Lib.IndexAny
import Derived.Lib.LaidIn
import Derived.Lib.LaidU8T
import Derived.OpenShut
import Derived.ProofKit
import Derived.SevenTiedAt
import Derived.SizedLaws
import Derived.Test.YtfchbnahjcdiiaaGreatDoorCards
import Derived.Test.YtfchbnahjcdiiaaGreatDoorRows
import Derived.Test.YtfchbnahjcdiiaaGreatDoorTie
import Derived.WalkKit
import Derived.Test.YtfchbnahjcdiiaaGreatDoorY03
set_option linter.unusedVariables false
set_option linter.unusedSimpArgs false
set_option linter.unusedSectionVars false
namespace Go.Proofs.YtfchbnahjcdiiaaGreatDoor
open Vc
set_option maxRecDepth 100000
set_option maxHeartbeats 4000000
set_option linter.unusedSimpArgs false
set_option linter.unusedVariables false
noncomputable section
def v7 (O:((List UInt8)×(Int×Unit))) (Z:qA) (aA:Int) (aB:Int) (aC:qB) (aD:((List Int)×(Int×Unit))) (aE:(List ((List UInt8)×Bool))):Option (Int×Int×(List UInt8)×Int×Int×Int×Int×(List UInt8)×(List (List UInt8))×(List p9)×(List Int)×Int):=
 (v6 O Z aA aB aC aD (2:Int) ([99,97,116,97,108,111,103]:List UInt8) aE).bind fun aF=>
 (wV (O.1,(aF.1,())) (aF.2.1,(aF.2.2.1,(aF.2.2.2.1,(aF.2.2.2.2.1,())))) aF.2.2.2.2.2.1 aF.2.2.2.2.2.2.1 (aC.1,(aC.2.1,(aC.2.2.1,(aC.2.2.2.1,())))) (aD.1,(aF.2.2.2.2.2.2.2,())) (1:Int) false aE).bind fun aG=>
 (tE (O.1,(aG.1,())) (aG.2.1,(aG.2.2.1,(aG.2.2.2.1,(aG.2.2.2.2.1,())))) aG.2.2.2.2.2.1 aG.2.2.2.2.2.2.1 (aF.2.2.1,(aC.2.1,(aC.2.2.1,(aC.2.2.2.1,())))) (aD.1,(aG.2.2.2.2.2.2.2,())) false aE).bind fun aH=>
 some ((aH.2.2.2.2.2.2.1,aH.2.2.2.2.2.2.2.1,aH.2.2.2.2.2.2.2.2.1,aH.2.2.2.2.2.2.2.2.2.1,aH.2.2.2.2.2.2.2.2.2.2.1,aH.2.2.2.2.2.2.2.2.2.2.2.1,aH.2.2.2.2.2.2.2.2.2.2.2.2.1,aF.2.2.1,aH.2.2.1,aH.2.2.2.2.2.1,aH.2.2.2.2.2.2.2.2.2.2.2.2.2.1,aH.2.2.2.2.2.2.2.2.2.2.2.2.2.2))
section
variable (O:((List UInt8)×(Int×Unit))) (Z:qA) (aA:Int) (aB:Int) (aC:qB) (aD:((List Int)×(Int×Unit))) (aE:Nat) (aF:Nat) (aG:(List ((List UInt8)×Bool)))
@[reducible] def a3u:List Slot:=[(.val .ref (some (0,0)),none)]
@[reducible] def a3v:List Blk:=[.cells q8 (O,(Z,(aA,(aB,(aC,((some 3),aD)))))) [(11,1),(13,2)],.grow 52 7 aE,.grow 3 1 aF,.map .str .bool aG]
@[go_sem] def a3w:Ret:=⟨[aE=(List.length aC.2.2.2.1),aF=(List.length aD.1),((v7 O Z aA aB aC aD aG)).isSome=true],[],[.cells q8 ((O.1,((val (v7 O Z aA aB aC aD aG)).1,())),(((val (v7 O Z aA aB aC aD aG)).2.1,((val (v7 O Z aA aB aC aD aG)).2.2.1,((val (v7 O Z aA aB aC aD aG)).2.2.2.1,((val (v7 O Z aA aB aC aD aG)).2.2.2.2.1,())))),((val (v7 O Z aA aB aC aD aG)).2.2.2.2.2.1,((val (v7 O Z aA aB aC aD aG)).2.2.2.2.2.2.1,(((val (v7 O Z aA aB aC aD aG)).2.2.2.2.2.2.2.1,((val (v7 O Z aA aB aC aD aG)).2.2.2.2.2.2.2.2.1,((val (v7 O Z aA aB aC aD aG)).2.2.2.2.2.2.2.2.2.1,(aC.2.2.2.1,())))),((some 3),((val (v7 O Z aA aB aC aD aG)).2.2.2.2.2.2.2.2.2.2.1,((val (v7 O Z aA aB aC aD aG)).2.2.2.2.2.2.2.2.2.2.2,())))))))) [(11,1),(13,2)],.grow 52 7 (List.length aC.2.2.2.1),.grow 3 1 (List.length ((val (v7 O Z aA aB aC aD aG)).2.2.2.2.2.2.2.2.2.2.1)),.map .str .bool aG]⟩
def aBv:List Slot→List Blk→Option Ret:=pM (V:=(((List UInt8)×(Int×Unit))×qA×Int×Int×qB×((List Int)×(Int×Unit))×Nat×Nat×(List ((List UInt8)×Bool)))) (fun x=>a3u) (fun x=>a3v x.1 x.2.1 x.2.2.1 x.2.2.2.1 x.2.2.2.2.1 x.2.2.2.2.2.1 x.2.2.2.2.2.2.1 x.2.2.2.2.2.2.2.1 x.2.2.2.2.2.2.2.2) fun x=>a3w x.1 x.2.1 x.2.2.1 x.2.2.2.1 x.2.2.2.2.1 x.2.2.2.2.2.1 x.2.2.2.2.2.2.1 x.2.2.2.2.2.2.2.1 x.2.2.2.2.2.2.2.2
@[go_sem] theorem aMC:aBv (no_index a3u) (no_index (a3v O Z aA aB aC aD aE aF aG))=some (a3w O Z aA aB aC aD aE aF aG):=pN (fun⟨a0,a1,a2,a3,a4,a5,a6,a7,a8⟩ ⟨b0,b1,b2,b3,b4,b5,b6,b7,b8⟩ h1 h2=>by cases h1;cases h2;rfl) (O,Z,aA,aB,aC,aD,aE,aF,aG)
end
@[reducible,go_sem] def aBw:Nat×Sig:=(41,⟨[.p q8 [11,13]],aBv,[(0,12,.m)],[1,3],none⟩)
theorem LO:Env Tryz.prog [q7,uK,AJ,AH,yU,uV] (pE [LL,aAZ,a3t]):=⟨⟨q9,⟨vG,⟨CO,⟨CN,⟨AI,⟨w6,trivial⟩⟩⟩⟩⟩⟩,p5 a2J (p5 aGX (p5 aBu pP)),pH⟩
theorem aHb:pI Tryz.prog aBw:=by
 refine pO LO Tryz.func41 (c:=_) rfl (N:=25) (by kernel_rfl) (ts:=[]) rfl (fun _ _=>rfl) ?_
 intro⟨O,Z,aA,aB,aC,aD,aE,aF,aG⟩ hs hrow
 dsimp only[a3u,a3v,a3w,pJ,enumH,pD,pG,pL,Nat.reduceAdd] at hs hrow⊢
 obtain⟨rfl,rfl,hz⟩:=hs
 obtain⟨z0,hC0⟩:=Option.isSome_iff_exists.1 hz
 try rw[pW hC0]
 clear hz
 unfold v7 at hC0
 obtain⟨aH,hv1,hw1,hC0⟩:=p8 hC0
 try simp only[go_sem] at hw1
 refine oS LO ?_ (hp:=by exact And.intro (by first|exact rfl|exact trivial) (And.intro (by first|exact rfl|exact trivial) (And.intro (by first|exact rfl|exact trivial) (And.intro (by first|exact rfl|exact trivial) (And.intro (by first|exact rfl|exact trivial) ((p7 hv1))))))) (h:=by simp only[go_sem,hw1];rfl)
 obtain⟨aI,hv2,hw2,hC0⟩:=p8 hC0
 try simp only[go_sem] at hw2
 refine oS LO ?_ (hp:=by exact And.intro (by first|exact rfl|exact trivial) (And.intro (by first|exact rfl|exact trivial) (And.intro (by first|exact rfl|exact trivial) (And.intro (by first|exact rfl|exact trivial) (And.intro (by first|exact rfl|exact trivial) ((p7 hv2))))))) (h:=by simp only[go_sem,hw2];rfl)
 obtain⟨aJ,hv3,hw3,hC0⟩:=p8 hC0
 try simp only[go_sem] at hw3
 refine oS LO ?_ (hp:=by exact And.intro (by first|exact rfl|exact trivial) (And.intro (by first|exact rfl|exact trivial) (And.intro (by first|exact rfl|exact trivial) (And.intro (by first|exact rfl|exact trivial) ((p7 hv3)))))) (h:=by simp only[go_sem,hw3];rfl)
 refine E1 LO ?_
 cases hC0
 exact⟨[(0,0),(1,1),(2,2),(3,3)],by rfl,by rfl,by rfl⟩
attribute [irreducible] v7
def v8 (O:((List UInt8)×(Int×Unit))) (Z:qA) (aA:Int) (aB:Int) (aC:qB) (aD:((List Int)×(Int×Unit))) (aE:(List ((List UInt8)×Bool))):Option (Int×Int×(List UInt8)×Int×Int×Int×Int×(List pX)×(List Int)×Int×(List ((List UInt8)×Bool))):=
 (v6 O Z aA aB aC aD (2:Int) ([101,110,116,114,121]:List UInt8) aE).bind fun aF=>
 (xB (O.1,(aF.1,())) (aF.2.1,(aF.2.2.1,(aF.2.2.2.1,(aF.2.2.2.2.1,())))) aF.2.2.2.2.2.1 aF.2.2.2.2.2.2.1 (aC.1,(aC.2.1,(aC.2.2.1,(aC.2.2.2.1,())))) (aD.1,(aF.2.2.2.2.2.2.2,())) (1:Int) (decide ((List.length aC.2.2.2.1:Int)=(1000:Int))) aE).bind fun aG=>
 (tE (O.1,(aG.1,())) (aG.2.1,(aG.2.2.1,(aG.2.2.2.1,(aG.2.2.2.2.1,())))) aG.2.2.2.2.2.1 aG.2.2.2.2.2.2.1 (aC.1,(aC.2.1,(aC.2.2.1,(aC.2.2.2.1,())))) (aD.1,(aG.2.2.2.2.2.2.2,())) true (rB .str .bool aF.2.2.1 true aE)).bind fun aH=>
 if (List.length aC.2.2.2.1+List.length ([(aF.2.2.1,(aH.1,(aH.2.1,(aH.2.2.1,(aH.2.2.2.1,(aH.2.2.2.2.1,(aH.2.2.2.2.2.1,())))))))]:List pX))*128≤140737488355328 then
  some ((aH.2.2.2.2.2.2.1,aH.2.2.2.2.2.2.2.1,aH.2.2.2.2.2.2.2.2.1,aH.2.2.2.2.2.2.2.2.2.1,aH.2.2.2.2.2.2.2.2.2.2.1,aH.2.2.2.2.2.2.2.2.2.2.2.1,aH.2.2.2.2.2.2.2.2.2.2.2.2.1,(aC.2.2.2.1++([(aF.2.2.1,(aH.1,(aH.2.1,(aH.2.2.1,(aH.2.2.2.1,(aH.2.2.2.2.1,(aH.2.2.2.2.2.1,())))))))]:List pX)),aH.2.2.2.2.2.2.2.2.2.2.2.2.2.1,aH.2.2.2.2.2.2.2.2.2.2.2.2.2.2,(rB .str .bool aF.2.2.1 true aE)))
 else none
section
variable (O:((List UInt8)×(Int×Unit))) (Z:qA) (aA:Int) (aB:Int) (aC:qB) (aD:((List Int)×(Int×Unit))) (aE:Nat) (aF:Nat) (aG:(List ((List UInt8)×Bool)))
@[reducible] def a3x:List Slot:=[(.val .ref (some (0,0)),none)]
@[reducible] def a3y:List Blk:=[.cells q8 (O,(Z,(aA,(aB,(aC,((some 3),aD)))))) [(11,1),(13,2)],.grow 52 7 aE,.grow 3 1 aF,.map .str .bool aG]
@[go_sem] def a3z:Ret:=⟨[aE=(List.length aC.2.2.2.1),aF=(List.length aD.1),((v8 O Z aA aB aC aD aG)).isSome=true],[],[.cells q8 ((O.1,((val (v8 O Z aA aB aC aD aG)).1,())),(((val (v8 O Z aA aB aC aD aG)).2.1,((val (v8 O Z aA aB aC aD aG)).2.2.1,((val (v8 O Z aA aB aC aD aG)).2.2.2.1,((val (v8 O Z aA aB aC aD aG)).2.2.2.2.1,())))),((val (v8 O Z aA aB aC aD aG)).2.2.2.2.2.1,((val (v8 O Z aA aB aC aD aG)).2.2.2.2.2.2.1,((aC.1,(aC.2.1,(aC.2.2.1,((val (v8 O Z aA aB aC aD aG)).2.2.2.2.2.2.2.1,())))),((some 3),((val (v8 O Z aA aB aC aD aG)).2.2.2.2.2.2.2.2.1,((val (v8 O Z aA aB aC aD aG)).2.2.2.2.2.2.2.2.2.1,())))))))) [(11,1),(13,2)],.grow 52 7 (List.length ((val (v8 O Z aA aB aC aD aG)).2.2.2.2.2.2.2.1)),.grow 3 1 (List.length ((val (v8 O Z aA aB aC aD aG)).2.2.2.2.2.2.2.2.1)),.map .str .bool ((val (v8 O Z aA aB aC aD aG)).2.2.2.2.2.2.2.2.2.2)]⟩
def aBx:List Slot→List Blk→Option Ret:=pM (V:=(((List UInt8)×(Int×Unit))×qA×Int×Int×qB×((List Int)×(Int×Unit))×Nat×Nat×(List ((List UInt8)×Bool)))) (fun x=>a3x) (fun x=>a3y x.1 x.2.1 x.2.2.1 x.2.2.2.1 x.2.2.2.2.1 x.2.2.2.2.2.1 x.2.2.2.2.2.2.1 x.2.2.2.2.2.2.2.1 x.2.2.2.2.2.2.2.2) fun x=>a3z x.1 x.2.1 x.2.2.1 x.2.2.2.1 x.2.2.2.2.1 x.2.2.2.2.2.1 x.2.2.2.2.2.2.1 x.2.2.2.2.2.2.2.1 x.2.2.2.2.2.2.2.2
@[go_sem] theorem aMD:aBx (no_index a3x) (no_index (a3y O Z aA aB aC aD aE aF aG))=some (a3z O Z aA aB aC aD aE aF aG):=pN (fun⟨a0,a1,a2,a3,a4,a5,a6,a7,a8⟩ ⟨b0,b1,b2,b3,b4,b5,b6,b7,b8⟩ h1 h2=>by cases h1;cases h2;rfl) (O,Z,aA,aB,aC,aD,aE,aF,aG)
end
@[reducible,go_sem] def aBy:Nat×Sig:=(42,⟨[.p q8 [11,13]],aBx,[(0,12,.m)],[],none⟩)
theorem DD:Env Tryz.prog [BH,q7,HS,AH,yU,OL,G1,uV] (pE [LL,aBc,a3t]):=⟨⟨E4,⟨q9,⟨OM,⟨CN,⟨AI,⟨a7p,⟨KP,⟨w6,trivial⟩⟩⟩⟩⟩⟩⟩⟩,p5 a2J (p5 aG3 (p5 aBu pP)),pH⟩
theorem aHc:pI Tryz.prog aBy:=by
 refine pO DD Tryz.func42 (c:=_) rfl (N:=39) (by kernel_rfl) (ts:=[]) rfl (fun _ _=>rfl) ?_
 intro⟨O,Z,aA,aB,aC,aD,aE,aF,aG⟩ hs hrow
 dsimp only[a3x,a3y,a3z,pJ,enumH,pD,pG,pL,Nat.reduceAdd] at hs hrow⊢
 obtain⟨rfl,rfl,hz⟩:=hs
 obtain⟨z0,hC0⟩:=Option.isSome_iff_exists.1 hz
 try rw[pW hC0]
 clear hz
 unfold v8 at hC0
 refine oS DD ?_
 obtain⟨aH,hv1,hw1,hC0⟩:=p8 hC0
 try simp only[go_sem] at hw1
 refine oS DD ?_ (hp:=by exact And.intro (by first|exact rfl|exact trivial) (And.intro (by first|exact rfl|exact trivial) (And.intro (by first|exact rfl|exact trivial) (And.intro (by first|exact rfl|exact trivial) (And.intro (by first|exact rfl|exact trivial) ((p7 hv1))))))) (h:=by simp only[go_sem,hw1];rfl)
 refine oS DD ?_
 obtain⟨aI,hv2,hw2,hC0⟩:=p8 hC0
 try simp only[go_sem] at hw2
 refine qK DD ?_ (hp:=by exact And.intro (by first|exact rfl|exact trivial) (And.intro (by first|exact rfl|exact trivial) (And.intro (by first|exact rfl|exact trivial) (And.intro (by first|exact rfl|exact trivial) (And.intro (by first|exact rfl|exact trivial) (And.intro (by first|exact rfl|exact trivial) ((p7 hv2)))))))) (h:=by simp only[go_sem,hw2];rfl)
 refine oS DD ?_
 obtain⟨aJ,hv3,hw3,hC0⟩:=p8 hC0
 try simp only[go_sem] at hw3
 refine oS DD ?_ (hp:=by exact And.intro (by first|exact rfl|exact trivial) (And.intro (by first|exact rfl|exact trivial) (And.intro (by first|exact rfl|exact trivial) (And.intro (by first|exact rfl|exact trivial) ((p7 hv3)))))) (h:=by simp only[go_sem,hw3];rfl)
 refine oS DD ?_
 obtain⟨hg4,hC0⟩:=oU hC0
 refine E1 DD ?_ (hp:=by exact And.intro (by first|exact rfl|exact trivial) (hg4))
 cases hC0
 exact⟨[(0,0),(1,1),(2,2),(3,3)],by rfl,by rfl,by rfl⟩
attribute [irreducible] v8
def AU (O:(List UInt8)) (Z:(Int×Int×(List UInt8)×Int×Int×Int×Int×(List UInt8)×(List (List UInt8))×(List p9)×(List Int)×Int)):(Int×Int×(List UInt8)×Int×Int×Int×Int×(List pX)×(List Int)×Int×(List ((List UInt8)×Bool)))→Option ((Int×Int×(List UInt8)×Int×Int×Int×Int×(List pX)×(List Int)×Int×(List ((List UInt8)×Bool)))⊕(Int×Int×(List UInt8)×Int×Int×Int×Int×(List pX)×(List Int)×Int×(List ((List UInt8)×Bool)))):=fun(aA,aB,aC,aD,aE,aF,aG,aH,aI,aJ,aK)=>
 if ((decide (aG=(0:Int)))&&(!decide (aB=(4:Int))))=true then
  (v8 (O,(aA,())) (aB,(aC,(aD,(aE,())))) aF aG (Z.2.2.2.2.2.2.2.1,(Z.2.2.2.2.2.2.2.2.1,(Z.2.2.2.2.2.2.2.2.2.1,(aH,())))) (aI,(aJ,())) aK).bind fun aL=>
  some (.inl (aL.1,aL.2.1,aL.2.2.1,aL.2.2.2.1,aL.2.2.2.2.1,aL.2.2.2.2.2.1,aL.2.2.2.2.2.2.1,aL.2.2.2.2.2.2.2.1,aL.2.2.2.2.2.2.2.2.1,aL.2.2.2.2.2.2.2.2.2.1,aL.2.2.2.2.2.2.2.2.2.2))
 else
  some (.inr (aA,aB,aC,aD,aE,aF,aG,aH,aI,aJ,aK))
def tM (O:(List UInt8)):Option (Int×Int×(List UInt8)×Int×Int×Int×Int×(List UInt8)×(List (List UInt8))×(List p9)×(List pX)×(List Int)×Int×(List ((List UInt8)×Bool))):=
 (zA (O,((0:Int),()))).bind fun Z=>
 (v7 (O,(Z.2.2.2.2,())) (Z.1,(Z.2.1,(Z.2.2.1,(Z.2.2.2.1,())))) (0:Int) (0:Int) (([]:List UInt8),(([]:List (List UInt8)),(([]:List p9),(([]:List pX),())))) (([]:List Int),((0:Int),())) ([]:List ((List UInt8)×Bool))).bind fun aA=>
 qD (pR (AU O aA) (aA.1,aA.2.1,aA.2.2.1,aA.2.2.2.1,aA.2.2.2.2.1,aA.2.2.2.2.2.1,aA.2.2.2.2.2.2.1,([]:List pX),aA.2.2.2.2.2.2.2.2.2.2.1,aA.2.2.2.2.2.2.2.2.2.2.2,([]:List ((List UInt8)×Bool)))) fun(aB,aC,aD,aE,aF,aG,aH,aI,aJ,aK,aL)=>
 some ((aB,aC,aD,aE,aF,aG,aH,aA.2.2.2.2.2.2.2.1,aA.2.2.2.2.2.2.2.2.1,aA.2.2.2.2.2.2.2.2.2.1,aI,aJ,aK,aL))
section
variable (O:(List UInt8))
@[reducible] def a3A:List Slot:=[(.val .str O,none)]
@[reducible] def a3B:List Blk:=[]
@[go_sem] def a3C:Ret:=⟨[((tM O)).isSome=true],[(.val .ref (some (0,0)),none)],[.cells q8 ((O,((val (tM O)).1,())),(((val (tM O)).2.1,((val (tM O)).2.2.1,((val (tM O)).2.2.2.1,((val (tM O)).2.2.2.2.1,())))),((val (tM O)).2.2.2.2.2.1,((val (tM O)).2.2.2.2.2.2.1,(((val (tM O)).2.2.2.2.2.2.2.1,((val (tM O)).2.2.2.2.2.2.2.2.1,((val (tM O)).2.2.2.2.2.2.2.2.2.1,((val (tM O)).2.2.2.2.2.2.2.2.2.2.1,())))),((some 1),((val (tM O)).2.2.2.2.2.2.2.2.2.2.2.1,((val (tM O)).2.2.2.2.2.2.2.2.2.2.2.2.1,())))))))) [(11,2),(13,3)],.map .str .bool ((val (tM O)).2.2.2.2.2.2.2.2.2.2.2.2.2),.grow 52 7 (List.length ((val (tM O)).2.2.2.2.2.2.2.2.2.2.1)),.grow 3 1 (List.length ((val (tM O)).2.2.2.2.2.2.2.2.2.2.2.1))]⟩
def aBz:List Slot→List Blk→Option Ret:=pM (V:=(List UInt8)) (fun x=>a3A x) (fun x=>a3B) fun x=>a3C x
@[go_sem] theorem aME:aBz (no_index (a3A O)) (no_index a3B)=some (a3C O):=pN (fun a0 b0 h1 h2=>by cases h1;cases h2;rfl) O
end
@[reducible,go_sem] def a3D:Nat×Sig:=(27,⟨[.v],aBz,[],[],none⟩)
theorem F0:Env Tryz.prog [s5,BH,q7,vH,KR,wR,G1,uV] (pE [a1W,aBw,aBy]):=⟨⟨sG,⟨E4,⟨q9,⟨wQ,⟨TT,⟨yB,⟨KP,⟨w6,trivial⟩⟩⟩⟩⟩⟩⟩⟩,p5 aAO (p5 aHb (p5 aHc pP)),pH⟩
theorem aBA:pI Tryz.prog a3D:=by
 refine pO F0 Tryz.func27 (c:=_) rfl (N:=34) (by kernel_rfl) (ts:=[(2,none)]) rfl (fun _ _=>rfl) ?_
 intro O hs hrow
 dsimp only[a3A,a3B,a3C,pJ,enumH,pD,pG,pL,Nat.reduceAdd] at hs hrow⊢
 have hz:=hs
 obtain⟨z0,hC0⟩:=Option.isSome_iff_exists.1 hz
 try rw[pW hC0]
 clear hz hs
 unfold tM at hC0
 refine oS F0 ?_
 refine oS F0 ?_
 obtain⟨Z,hv1,hw1,hC0⟩:=p8 hC0
 try simp only[go_sem] at hw1
 refine oS F0 ?_ (hp:=by exact(p7 hv1)) (h:=by simp only[go_sem,hw1];rfl)
 obtain⟨aA,hv2,hw2,hC0⟩:=p8 hC0
 try simp only[go_sem] at hw2
 refine oS F0 ?_ (hp:=by exact And.intro (by first|exact rfl|exact trivial) (And.intro (by first|exact rfl|exact trivial) (And.intro (by first|exact rfl|exact trivial) (And.intro (by first|exact rfl|exact trivial) ((p7 hv2)))))) (h:=by simp only[go_sem,hw2];rfl)
 refine p4 (pT ?_)
 obtain⟨y1,hy1,hC0⟩:=oY hC0
 refine rH 0 (fun s=>s=(fun x=>⟨[(3,(.val .ref (some (0,0)),none))],[(0,.cells q8 ((O,(x.1,())),((x.2.1,(x.2.2.1,(x.2.2.2.1,(x.2.2.2.2.1,())))),(x.2.2.2.2.2.1,(x.2.2.2.2.2.2.1,((aA.2.2.2.2.2.2.2.1,(aA.2.2.2.2.2.2.2.2.1,(aA.2.2.2.2.2.2.2.2.2.1,(x.2.2.2.2.2.2.2.1,())))),((some 1),(x.2.2.2.2.2.2.2.2.1,(x.2.2.2.2.2.2.2.2.2.1,())))))))) [(11,2),(13,3)]),(1,.map .str .bool x.2.2.2.2.2.2.2.2.2.2),(2,.grow 52 7 (List.length x.2.2.2.2.2.2.2.1)),(3,.grow 3 1 (List.length x.2.2.2.2.2.2.2.2.1))],4,34,0⟩) y1) ?_ ?_
 ·refine rG hy1 (fun x=>⟨[(3,(.val .ref (some (0,0)),none))],[(0,.cells q8 ((O,(x.1,())),((x.2.1,(x.2.2.1,(x.2.2.2.1,(x.2.2.2.2.1,())))),(x.2.2.2.2.2.1,(x.2.2.2.2.2.2.1,((aA.2.2.2.2.2.2.2.1,(aA.2.2.2.2.2.2.2.2.1,(aA.2.2.2.2.2.2.2.2.2.1,(x.2.2.2.2.2.2.2.1,())))),((some 1),(x.2.2.2.2.2.2.2.2.1,(x.2.2.2.2.2.2.2.2.2.1,())))))))) [(11,2),(13,3)]),(1,.map .str .bool x.2.2.2.2.2.2.2.2.2.2),(2,.grow 52 7 (List.length x.2.2.2.2.2.2.2.1)),(3,.grow 3 1 (List.length x.2.2.2.2.2.2.2.2.1))],4,34,0⟩) ⟨[3],[(0,80),(1,48),(2,83),(3,84)]⟩ (by rfl) ?_
  intro x1 w1 n1 hC1 hN1
  obtain⟨aB,aC,aD,aE,aF,aG,aH,aI,aJ,aK,aL⟩:=x1
  unfold AU at hC1
  dsimp only at hC1⊢
  refine p4 ?_
  refine oS F0 ?_ (hp:=by exact And.intro (fun hh=>hh) (And.intro (fun hh=>hh) (And.intro (fun hh=>hh) (And.intro (fun hh=>hh) (And.intro (fun hh=>hh) ((fun hh=>pZ hh)))))))
  refine oX hC1 (fun hC1 hc1=> ?_) (fun hC1 hc1=> ?_)
  ·refine p6 (oW (pT ?_))
   obtain⟨aM,hv3,hw3,hC1⟩:=p8 hC1
   try simp only[go_sem] at hw3
   refine pF F0 ?_ (hp:=by exact And.intro (by first|exact rfl|exact trivial) (And.intro (by first|exact rfl|exact trivial) ((p7 hv3)))) (h:=by simp only[go_sem,hw3];rfl)
   refine pB ?_
   cases hC1
   exact qG ⟨⟨[3],[(0,0),(1,1),(2,2),(3,3)]⟩,_,by rfl,hN1⟩
  ·refine qW (r7 (qZ ?_))
   cases hC1
   cases hN1
   exact qY ⟨⟨[3],[(0,0),(1,1),(2,2),(3,3)]⟩,by rfl⟩
 ·rintro _ rfl
  obtain⟨aN,aO,aP,aQ,aR,aS,aT,aU,aV,aW,aX⟩:=y1
  dsimp only at hC0⊢
  refine rE (oW ?_)
  refine oS F0 ?_
  refine oV ?_
  cases hC0
  exact⟨[(0,0),(1,1),(2,2),(3,3)],by rfl,by rfl,by rfl⟩
attribute [irreducible] tM
end
end Go.Proofs.YtfchbnahjcdiiaaGreatDoor
namespace Go.Proofs.YtfchbnahjcdiiaaGreatDoor
open Vc
set_option maxRecDepth 100000
set_option maxHeartbeats 4000000
set_option linter.unusedSimpArgs false
set_option linter.unusedVariables false
noncomputable section
def BW (O:(List UInt8)):Option ((List UInt8)×(List (List UInt8))×(List p9)×(List pX)×Int×Int):=
 (tM O).bind fun Z=>
 if (!decide (Z.2.2.2.2.2.2.1=(0:Int)))=true then
  some ((([]:List UInt8),([]:List (List UInt8)),([]:List p9),([]:List pX),Z.2.2.2.2.2.1,Z.2.2.2.2.2.2.1))
 else
  some ((Z.2.2.2.2.2.2.2.1,Z.2.2.2.2.2.2.2.2.1,Z.2.2.2.2.2.2.2.2.2.1,Z.2.2.2.2.2.2.2.2.2.2.1,(0:Int),(0:Int)))
section
variable (O:(List UInt8))
@[reducible] def a3E:List Slot:=[(.val .str O,none)]
@[reducible] def a3F:List Blk:=[]
@[go_sem] def a3G:Ret:=⟨[((BW O)).isSome=true],[(.val vF ((val (BW O)).1,((val (BW O)).2.1,((val (BW O)).2.2.1,((val (BW O)).2.2.2.1,())))),none),(.val (.int .i64) ((val (BW O)).2.2.2.2.1),none),(.val (.int .i64) ((val (BW O)).2.2.2.2.2),none)],[]⟩
def aBB:List Slot→List Blk→Option Ret:=pM (V:=(List UInt8)) (fun x=>a3E x) (fun x=>a3F) fun x=>a3G x
@[go_sem] theorem aMF:aBB (no_index (a3E O)) (no_index a3F)=some (a3G O):=pN (fun a0 b0 h1 h2=>by cases h1;cases h2;rfl) O
end
@[reducible,go_sem] def aBC:Nat×Sig:=(10,⟨[.v],aBB,[],[],none⟩)
theorem IL:Env Tryz.prog [s5,AH,vH,uV] (pE [a3D]):=⟨⟨sG,⟨CN,⟨wQ,⟨w6,trivial⟩⟩⟩⟩,p5 aBA pP,pH⟩
theorem aHd:pI Tryz.prog aBC:=by
 refine pO IL Tryz.func10 (c:=_) rfl (N:=26) (by kernel_rfl) (ts:=[(2,some 27),(3,none),(4,none)]) rfl (fun _ _=>rfl) ?_
 intro O hs hrow
 dsimp only[a3E,a3F,a3G,pJ,enumH,pD,pG,pL,Nat.reduceAdd] at hs hrow⊢
 have hz:=hs
 obtain⟨z0,hC0⟩:=Option.isSome_iff_exists.1 hz
 try rw[pW hC0]
 clear hz hs
 unfold BW at hC0
 refine oS IL ?_
 obtain⟨Z,hv1,hw1,hC0⟩:=p8 hC0
 try simp only[go_sem] at hw1
 refine oS IL ?_ (hp:=by exact(p7 hv1)) (h:=by simp only[go_sem,hw1];rfl)
 refine p4 ?_
 refine oS IL ?_
 refine oX hC0 (fun hC0 hc1=> ?_) (fun hC0 hc1=> ?_)
 ·refine qK IL ?_
  refine oV (pC ?_)
  cases hC0
  exact⟨[],by rfl,by rfl,by rfl⟩
 ·refine p6 (oW ?_)
  refine oS IL ?_
  refine oV ?_
  cases hC0
  exact⟨[],by rfl,by rfl,by rfl⟩
attribute [irreducible] BW
def IM (O:(List UInt8)) (Z:(Int×Int×(List UInt8)×Int×Int×Int×Int×(List UInt8)×(List (List UInt8))×(List p9)×(List pX)×(List Int)×Int×(List ((List UInt8)×Bool)))):(Int×(List (List UInt8)))→Option ((Int×(List (List UInt8)))⊕(List (List UInt8))):=fun(aA,aB)=>
 if (decide (aA<(List.length Z.2.2.2.2.2.2.2.2.2.2.2.1:Int)))=true then
  if oT (aA- (1:Int)) then
   if 0≤(aA- (1:Int))∧(aA- (1:Int))<(List.length Z.2.2.2.2.2.2.2.2.2.2.2.1:Int) then
    if 0≤aA∧aA<(List.length Z.2.2.2.2.2.2.2.2.2.2.2.1:Int) then
     if 0≤(pY (.int .i64) Z.2.2.2.2.2.2.2.2.2.2.2.1 (aA- (1:Int)))∧(pY (.int .i64) Z.2.2.2.2.2.2.2.2.2.2.2.1 (aA- (1:Int)))≤(pY (.int .i64) Z.2.2.2.2.2.2.2.2.2.2.2.1 aA)∧(pY (.int .i64) Z.2.2.2.2.2.2.2.2.2.2.2.1 aA)≤(List.length O:Int) then
      if (List.length aB+List.length ([(oZ O (pY (.int .i64) Z.2.2.2.2.2.2.2.2.2.2.2.1 (aA- (1:Int))) (pY (.int .i64) Z.2.2.2.2.2.2.2.2.2.2.2.1 aA))]:List (List UInt8)))*16≤140737488355328 then
       if oT (aA+(1:Int)) then
        some (.inl ((aA+(1:Int)),(aB++([(oZ O (pY (.int .i64) Z.2.2.2.2.2.2.2.2.2.2.2.1 (aA- (1:Int))) (pY (.int .i64) Z.2.2.2.2.2.2.2.2.2.2.2.1 aA))]:List (List UInt8)))))
       else none
      else none
     else none
    else none
   else none
  else none
 else
  some (.inr aB)
def zV (O:(List UInt8)):Option ((List UInt8)×(List (List UInt8))×(List UInt8)×Int):=
 (tM O).bind fun Z=>
 if (!decide (Z.2.2.2.2.2.2.1=(0:Int)))=true then
  some ((([]:List UInt8),([]:List (List UInt8)),([]:List UInt8),Z.2.2.2.2.2.2.1))
 else
  if 0≤(0:Int)∧(0:Int)<(List.length Z.2.2.2.2.2.2.2.2.2.2.2.1:Int) then
   if 0≤(0:Int)∧(0:Int)≤(pY (.int .i64) Z.2.2.2.2.2.2.2.2.2.2.2.1 (0:Int))∧(pY (.int .i64) Z.2.2.2.2.2.2.2.2.2.2.2.1 (0:Int))≤(List.length O:Int) then
    if oT ((List.length Z.2.2.2.2.2.2.2.2.2.2.2.1:Int)- (1:Int)) then
     if 0≤((List.length Z.2.2.2.2.2.2.2.2.2.2.2.1:Int)- (1:Int))∧((List.length Z.2.2.2.2.2.2.2.2.2.2.2.1:Int)- (1:Int))<(List.length Z.2.2.2.2.2.2.2.2.2.2.2.1:Int) then
      if 0≤(pY (.int .i64) Z.2.2.2.2.2.2.2.2.2.2.2.1 ((List.length Z.2.2.2.2.2.2.2.2.2.2.2.1:Int)- (1:Int)))∧(pY (.int .i64) Z.2.2.2.2.2.2.2.2.2.2.2.1 ((List.length Z.2.2.2.2.2.2.2.2.2.2.2.1:Int)- (1:Int)))≤(List.length O:Int)∧(List.length O:Int)≤(List.length O:Int) then
       qD (pR (IM O Z) ((1:Int),([]:List (List UInt8)))) fun aA=>
       some (((oZ O (0:Int) (pY (.int .i64) Z.2.2.2.2.2.2.2.2.2.2.2.1 (0:Int))),aA,(oZ O (pY (.int .i64) Z.2.2.2.2.2.2.2.2.2.2.2.1 ((List.length Z.2.2.2.2.2.2.2.2.2.2.2.1:Int)- (1:Int))) (List.length O:Int)),(0:Int)))
      else none
     else none
    else none
   else none
  else none
section
variable (O:(List UInt8))
@[reducible] def a3H:List Slot:=[(.val .str O,none)]
@[reducible] def a3I:List Blk:=[]
@[go_sem] def a3J:Ret:=⟨[((zV O)).isSome=true],[(.val AD ((val (zV O)).1,((val (zV O)).2.1,((val (zV O)).2.2.1,()))),none),(.val (.int .i64) ((val (zV O)).2.2.2),none)],[]⟩
def aBD:List Slot→List Blk→Option Ret:=pM (V:=(List UInt8)) (fun x=>a3H x) (fun x=>a3I) fun x=>a3J x
@[go_sem] theorem aMG:aBD (no_index (a3H O)) (no_index a3I)=some (a3J O):=pN (fun a0 b0 h1 h2=>by cases h1;cases h2;rfl) O
end
@[reducible,go_sem] def aBE:Nat×Sig:=(13,⟨[.v],aBD,[],[],none⟩)
theorem AV:Env Tryz.prog [s5,q7,uK,vH,KN,AL,uV] (pE [a3D]):=⟨⟨sG,⟨q9,⟨vG,⟨wQ,⟨TQ,⟨CP,⟨w6,trivial⟩⟩⟩⟩⟩⟩⟩,p5 aBA pP,pH⟩
theorem aHe:pI Tryz.prog aBE:=by
 refine pO AV Tryz.func13 (c:=_) rfl (N:=74) (by kernel_rfl) (ts:=[(2,some 34),(3,none)]) rfl (fun _ _=>rfl) ?_
 intro O hs hrow
 dsimp only[a3H,a3I,a3J,pJ,enumH,pD,pG,pL,Nat.reduceAdd] at hs hrow⊢
 have hz:=hs
 obtain⟨z0,hC0⟩:=Option.isSome_iff_exists.1 hz
 try rw[pW hC0]
 clear hz hs
 unfold zV at hC0
 refine oS AV ?_
 obtain⟨Z,hv1,hw1,hC0⟩:=p8 hC0
 try simp only[go_sem] at hw1
 refine oS AV ?_ (hp:=by exact(p7 hv1)) (h:=by simp only[go_sem,hw1];rfl)
 refine p4 ?_
 refine oS AV ?_
 refine oX hC0 (fun hC0 hc1=> ?_) (fun hC0 hc1=> ?_)
 ·refine qK AV ?_
  refine oV (pC ?_)
  cases hC0
  exact⟨[],by rfl,by rfl,by rfl⟩
 ·refine p6 (oW ?_)
  obtain⟨hg2,hC0⟩:=oU hC0
  obtain⟨hg3,hC0⟩:=oU hC0
  obtain⟨hg4,hC0⟩:=oU hC0
  obtain⟨hg5,hC0⟩:=oU hC0
  obtain⟨hg6,hC0⟩:=oU hC0
  refine qK AV ?_ (hp:=by exact And.intro hg2 (And.intro hg3 (And.intro hg4 (And.intro hg5 (hg6)))))
  refine p4 ?_
  refine oS AV ?_
  refine pT ?_
  obtain⟨aA,hy1,hC0⟩:=oY hC0
  refine rH 0 (fun s=>s=(fun x=>⟨[(2,(.val .ref (some (0,0)),none)),(5,(.val .ref (some (1,0)),none))],[(0,.cells AD (([]:List UInt8),(([]:List (List UInt8)),(([]:List UInt8),()))) [(1,2)]),(1,.cells AD ((oZ O (0:Int) (pY (.int .i64) Z.2.2.2.2.2.2.2.2.2.2.2.1 (0:Int))),(x,((oZ O (pY (.int .i64) Z.2.2.2.2.2.2.2.2.2.2.2.1 ((List.length Z.2.2.2.2.2.2.2.2.2.2.2.1:Int)- (1:Int))) (List.length O:Int)),()))) [(1,3)]),(2,.grow 9 1 (List.length ([]:List (List UInt8)))),(3,.grow 9 1 (List.length x))],4,74,0⟩) aA) ?_ ?_
  ·refine rG hy1 (fun x=>⟨[(0,(.val .str O,none)),(2,(.val .ref (some (0,0)),none)),(4,(.val .ref (some (1,0)),none)),(5,(.val .ref (some (2,0)),none)),(6,(.val (.int .i64) x.1,none))],[(0,.cells AD (([]:List UInt8),(([]:List (List UInt8)),(([]:List UInt8),()))) [(1,3)]),(1,.cells q8 ((O,(Z.1,())),((Z.2.1,(Z.2.2.1,(Z.2.2.2.1,(Z.2.2.2.2.1,())))),(Z.2.2.2.2.2.1,(Z.2.2.2.2.2.2.1,((Z.2.2.2.2.2.2.2.1,(Z.2.2.2.2.2.2.2.2.1,(Z.2.2.2.2.2.2.2.2.2.1,(Z.2.2.2.2.2.2.2.2.2.2.1,())))),((some 4),(Z.2.2.2.2.2.2.2.2.2.2.2.1,(Z.2.2.2.2.2.2.2.2.2.2.2.2.1,())))))))) [(11,5),(13,6)]),(2,.cells AD ((oZ O (0:Int) (pY (.int .i64) Z.2.2.2.2.2.2.2.2.2.2.2.1 (0:Int))),(x.2,((oZ O (pY (.int .i64) Z.2.2.2.2.2.2.2.2.2.2.2.1 ((List.length Z.2.2.2.2.2.2.2.2.2.2.2.1:Int)- (1:Int))) (List.length O:Int)),()))) [(1,7)]),(3,.grow 9 1 (List.length ([]:List (List UInt8)))),(4,.map .str .bool Z.2.2.2.2.2.2.2.2.2.2.2.2.2),(5,.grow 52 7 (List.length Z.2.2.2.2.2.2.2.2.2.2.1)),(6,.grow 3 1 (List.length Z.2.2.2.2.2.2.2.2.2.2.2.1)),(7,.grow 9 1 (List.length x.2))],8,74,0⟩) ⟨[0,2,4,5,6],[(0,0),(1,48),(2,528),(3,1),(4,49),(5,50),(6,51),(7,544)]⟩ (by rfl) ?_
   intro x1 w1 n1 hC1 hN1
   obtain⟨aB,aC⟩:=x1
   unfold IM at hC1
   dsimp only at hC1⊢
   refine p4 ?_
   refine oS AV ?_
   refine oX hC1 (fun hC1 hc2=> ?_) (fun hC1 hc2=> ?_)
   ·refine p6 (oW (p4 (pT ?_)))
    obtain⟨hg7,hC1⟩:=oU hC1
    obtain⟨hg8,hC1⟩:=oU hC1
    obtain⟨hg9,hC1⟩:=oU hC1
    obtain⟨hg10,hC1⟩:=oU hC1
    obtain⟨hg11,hC1⟩:=oU hC1
    refine E1 AV ?_ (hp:=by exact And.intro hg7 (And.intro hg8 (And.intro hg9 (And.intro hg10 (And.intro (by first|exact rfl|exact trivial) (hg11))))))
    refine pB (oW ?_)
    obtain⟨hg12,hC1⟩:=oU hC1
    refine pF AV ?_ (hp:=by exact hg12)
    cases hC1
    exact qG ⟨⟨[0,2,4,5,6],[(0,0),(1,1),(2,2),(3,3),(4,4),(5,5),(6,6),(7,7)]⟩,_,by rfl,hN1⟩
   ·refine qW (r7 (qZ ?_))
    cases hC1
    cases hN1
    exact qY ⟨⟨[2,5],[(0,0),(1,2),(2,3),(3,7)]⟩,by rfl⟩
  ·rintro _ rfl
   dsimp only at hC0⊢
   refine rE (oW ?_)
   refine oS AV ?_
   refine oV ?_
   cases hC0
   exact⟨[],by rfl,by rfl,by rfl⟩
attribute [irreducible] zV
def IN:Option Bool:=
 (BW ([99,97,116,97,108,111,103,34,100,101,34,123,125,47,42,32,120,32,42,47,101,110,116,114,121,34,97,34,123,116,97,114,103,101,116,34,120,34,125,47,47]:List UInt8)).bind fun O=>
 if (((((decide (O.2.2.2.2.2=(0:Int)))&&(decide (O.1=([100,101]:List UInt8))))&&(decide ((List.length O.2.2.2.1:Int)=(1:Int))))==true)=true→0≤(0:Int)∧(0:Int)<(List.length O.2.2.2.1:Int)) then
  if ((((((decide (O.2.2.2.2.2=(0:Int)))&&(decide (O.1=([100,101]:List UInt8))))&&(decide ((List.length O.2.2.2.1:Int)=(1:Int))))&&(decide ((pY uJ O.2.2.2.1 (0:Int)).1=([97]:List UInt8))))==true)=true→0≤(0:Int)∧(0:Int)<(List.length O.2.2.2.1:Int)) then
   some ((((((decide (O.2.2.2.2.2=(0:Int)))&&(decide (O.1=([100,101]:List UInt8))))&&(decide ((List.length O.2.2.2.1:Int)=(1:Int))))&&(decide ((pY uJ O.2.2.2.1 (0:Int)).1=([97]:List UInt8))))&&(decide ((pY uJ O.2.2.2.1 (0:Int)).2.2.1=([120]:List UInt8)))))
  else none
 else none
section
@[reducible] def a3K:List Slot:=[]
@[reducible] def a3L:List Blk:=[]
@[go_sem] def a3M:Ret:=⟨[(IN).isSome=true],[(.val .bool (val IN),none)],[]⟩
def aBF:List Slot→List Blk→Option Ret:=pM (V:=Unit) (fun x=>a3K) (fun x=>a3L) fun x=>a3M
@[go_sem] theorem aMH:aBF (no_index a3K) (no_index a3L)=some a3M:=pN (fun _ _ h1 h2=>by cases h1;cases h2;rfl) ()
end
@[reducible,go_sem] def aBG:Nat×Sig:=(9,⟨[],aBF,[],[],none⟩)
theorem PB:Env Tryz.prog [q7,HS,AH,yU] (pE [aBC]):=⟨⟨q9,⟨OM,⟨CN,⟨AI,trivial⟩⟩⟩⟩,p5 aHd pP,pH⟩
theorem aHf:pI Tryz.prog aBG:=by
 refine pO PB Tryz.func9 (c:=_) rfl (N:=38) (by kernel_rfl) (ts:=[(0,none)]) rfl (fun _ _=>rfl) ?_
 intro⟨⟩ hs hrow
 dsimp only[a3K,a3L,a3M,pJ,enumH,pD,pG,pL,Nat.reduceAdd] at hs hrow⊢
 have hz:=hs
 obtain⟨z0,hC0⟩:=Option.isSome_iff_exists.1 hz
 try rw[pW hC0]
 clear hz hs
 unfold IN at hC0
 refine oS PB ?_
 obtain⟨O,hv1,hw1,hC0⟩:=p8 hC0
 try simp only[go_sem] at hw1
 refine oS PB ?_ (hp:=by exact(p7 hv1)) (h:=by simp only[go_sem,hw1];rfl)
 obtain⟨hg2,hC0⟩:=oU hC0
 obtain⟨hg3,hC0⟩:=oU hC0
 refine oS PB ?_ (hp:=by exact And.intro (fun hh=>hh) (And.intro (fun hh=>hh) (And.intro (fun hh=>pZ hh) (And.intro (fun hh=>hh) (And.intro (fun hh=>hh) (And.intro (fun hh=>hh) (And.intro (fun hh=>pZ hh) (And.intro (fun hh=>hh) (And.intro (fun hh=>hh) (And.intro hg2 (And.intro (fun hh=>hh) (And.intro (fun hh=>hh) (And.intro (fun hh=>hh) (And.intro (fun hh=>pZ hh) (And.intro (fun hh=>hh) (And.intro (fun hh=>hh) (And.intro hg3 (And.intro (fun hh=>hh) (And.intro (fun hh=>hh) (And.intro (fun hh=>hh) ((fun hh=>pZ hh))))))))))))))))))))))
 refine oV ?_
 cases hC0
 exact⟨[],by rfl,by rfl,by rfl⟩
attribute [irreducible] IN
def GL (O:(List UInt8)):Option Bool:=
 IN.bind fun Z=>
 if (!Z)=true then
  some (false)
 else
  if (decide ((4000:Int)<(List.length O:Int)))=true then
   some (true)
  else
   (zV O).bind fun aA=>
   (zU O).bind fun aB=>
   if (((decide (aA.2.2.2=aB.2.2.2))==true)=true→((ES (aA.1,(aA.2.1,(aA.2.2.1,()))) (aB.1,(aB.2.1,(aB.2.2.1,()))))).isSome=true) then
    some (((decide (aA.2.2.2=aB.2.2.2))&&(val (ES (aA.1,(aA.2.1,(aA.2.2.1,()))) (aB.1,(aB.2.1,(aB.2.2.1,())))))))
   else none
section
variable (O:(List UInt8))
@[reducible] def LP:List Slot:=[(.val .str O,none)]
@[reducible] def PC:List Blk:=[]
@[go_sem] def IP:Ret:=⟨[((GL O)).isSome=true],[(.val .bool (val (GL O)),none)],[]⟩
def a3N:List Slot→List Blk→Option Ret:=pM (V:=(List UInt8)) (fun x=>LP x) (fun x=>PC) fun x=>IP x
@[go_sem] theorem aHg:a3N (no_index (LP O)) (no_index PC)=some (IP O):=pN (fun a0 b0 h1 h2=>by cases h1;cases h2;rfl) O
end
@[reducible,go_sem] def aHh:Nat×Sig:=(4,⟨[.v],a3N,[],[],none⟩)
theorem DE:Env Tryz.prog [q7,KN,BF] (pE [aBG,aBE,aBk,a7F,a92]):=⟨⟨q9,⟨TQ,⟨E3,trivial⟩⟩⟩,p5 aHf (p5 aHe (p5 aG7 (p5 aFR (p5 aGB pP)))),pH⟩
theorem aHi:pI Tryz.prog aHh:=by
 refine pO DE Tryz.func4 (c:=_) rfl (N:=31) (by kernel_rfl) (ts:=[(2,none)]) rfl (fun _ _=>rfl) ?_
 intro O hs hrow
 dsimp only[LP,PC,IP,pJ,enumH,pD,pG,pL,Nat.reduceAdd] at hs hrow⊢
 have hz:=hs
 obtain⟨z0,hC0⟩:=Option.isSome_iff_exists.1 hz
 try rw[pW hC0]
 clear hz hs
 unfold GL at hC0
 refine oS DE ?_
 refine p4 ?_
 obtain⟨Z,hv1,hw1,hC0⟩:=p8 hC0
 try simp only[go_sem] at hw1
 refine oS DE ?_ (hp:=by exact(p7 hv1)) (h:=by simp only[go_sem,hw1];rfl)
 refine oX hC0 (fun hC0 hc1=> ?_) (fun hC0 hc1=> ?_)
 ·refine oS DE ?_
  refine oV (pC ?_)
  cases hC0
  exact⟨[],by rfl,by rfl,by rfl⟩
 ·refine p6 (oW (p4 ?_))
  refine oS DE ?_
  refine oX hC0 (fun hC0 hc2=> ?_) (fun hC0 hc2=> ?_)
  ·refine oS DE ?_
   refine oV (pC ?_)
   cases hC0
   exact⟨[],by rfl,by rfl,by rfl⟩
  ·refine p6 (oW ?_)
   obtain⟨aA,hv2,hw2,hC0⟩:=p8 hC0
   try simp only[go_sem] at hw2
   refine oS DE ?_ (hp:=by exact(p7 hv2)) (h:=by simp only[go_sem,hw2];rfl)
   obtain⟨aB,hv3,hw3,hC0⟩:=p8 hC0
   try simp only[go_sem] at hw3
   refine oS DE ?_ (hp:=by exact(p7 hv3)) (h:=by simp only[go_sem,hw3];rfl)
   obtain⟨hg4,hC0⟩:=oU hC0
   refine qK DE ?_ (hp:=by exact And.intro (fun hh=>hh) (And.intro (fun hh=>hh) (And.intro (fun hh=>hh) (And.intro hg4 ((fun hh=>pZ hh))))))
   refine oV ?_
   cases hC0
   exact⟨[],by rfl,by rfl,by rfl⟩
attribute [irreducible] GL
end
end Go.Proofs.YtfchbnahjcdiiaaGreatDoor
section
end
namespace Go.Proofs.YtfchbnahjcdiiaaGreatDoor
open Vc
set_option maxRecDepth 100000
theorem rR {i:Nat}(h:i≤1000000):oT ((i:Int)+1):=by unfold oT;omega
theorem qJ {i n:Nat}(h:i<n):0≤(i:Int)∧(i:Int)<(n:Int):=⟨by omega,by omega⟩
theorem sY {i n:Nat}(h:i<n):decide ((i:Int)<(n:Int))=true:=by simpa using h
theorem xT (n:Nat): ¬decide ((n:Int)<(n:Int))=true:=by simp
theorem aBH {α:Type}{p:α→Bool}: ∀{l:List α},(l.findIdx? p).isSome=l.any p
 |[]=>rfl
 |x::l=>by
  rw[List.findIdx?_cons,List.any_cons]
  cases p x with
  |true=>rfl
  |false=>simp [aBH (l:=l)]
theorem IQ {α β:Type}{p:α→Bool}{l:List α}{f:Nat→β}{b:β}:sL f b (l.findIdx? p)=if l.any p=true then f ((l.findIdx? p).getD 0) else b:=by
 rw[←aBH]
 cases l.findIdx? p with
 |none=>rfl
 |some k=>rfl
def IR (c:Int):Bool:=(((!((decide ((97:Int)≤c))&&(decide (c≤(122:Int)))))&&(!((decide ((48:Int)≤c))&&(decide (c≤(57:Int))))))&&(!decide (c=(45:Int))))&&((decide (c<(65:Int)))||(decide ((90:Int)<c)))
def wD (s:List UInt8):Bool:= !(s.any fun b=>IR b.toNat)&&((decide ((1:Int)≤(s.length:Int)))&&(decide ((s.length:Int)≤(40:Int))))
theorem a3O (s:List UInt8) (hs:pU s):EM s=some (wD s):=by
 unfold pU at hs
 have h:=BJ (f:=LF s) (l:=s) (fun b=>IR b.toNat) (fun _=>false) (fun i h=>by
  unfold LF
  rw[if_pos (sY h),if_pos (qJ h),vI h,if_pos (rR (by omega))];rfl) (by
  unfold LF
  rw[if_neg (xT _)])
 unfold EM
 rw[h,IQ]
 unfold wD
 cases s.any fun b=>IR b.toNat<;>rfl
def PD (c:Int):Bool:=((((decide (c<(97:Int)))||(decide ((122:Int)<c)))&&((decide (c<(65:Int)))||(decide ((90:Int)<c))))&&((decide (c<(48:Int)))||(decide ((57:Int)<c))))&&(!decide (c=(45:Int)))
theorem aHj (c:Int):PD c=IR c:=by
 unfold PD IR
 rw[Bool.eq_iff_iff]
 simp
 omega
theorem aBI (s:List UInt8):E8 s=some (wD s):=by
 have h:=a7C (f:=KU s) (s:=s) (fun c=>PD c) (fun _=>false) (fun c h=>by unfold PD;simp;omega) (fun i h=>by
  unfold KU
  rw[if_pos (by simpa using h),if_pos (by simpa using h)];rfl) (by
  unfold KU
  rw[if_neg (by simp)])
 unfold E8
 rw[h,IQ]
 simp only[aHj]
 unfold wD
 cases s.any fun b=>IR b.toNat<;>rfl
def xD (c:Int):Bool:=((((!((decide ((97:Int)≤c))&&(decide (c≤(122:Int)))))&&(!((decide ((48:Int)≤c))&&(decide (c≤(57:Int))))))&&(!decide (c=(45:Int))))&&(!decide (c=(95:Int))))&&(!decide (c=(46:Int)))
def xE (c:Int):Bool:=(decide ((97:Int)≤c))&&(decide (c≤(122:Int)))
def qU:List UInt8→Bool
 |[]=>false
 |b::t=>(!decide (40<t.length+1)&&xE b.toNat)&& !(t.any fun b=>xD b.toNat)
theorem aBJ (s:List UInt8) (hs:pU s):EP s=some (qU s):=by
 unfold pU at hs
 unfold EP
 cases s with
 |nil=>simp [qU]
 |cons b t=>
  have hb0:pA (b::t) (0:Int)=(b.toNat:Int):=vI (i:=0) (by simp)
  rw[if_pos (fun _=>⟨Int.le_refl 0,by simp only[List.length_cons];omega⟩),hb0]
  unfold qU
  by_cases hl:(40:Int)<((b::t).length:Int)
  ·have hl2:40<t.length+1:=by simp only[List.length_cons] at hl;omega
   rw[if_pos (by simp only[hl,decide_true,Bool.or_true,Bool.true_or])]
   simp [hl2]
  ·have hl2: ¬40<t.length+1:=by simp only[List.length_cons] at hl;omega
   have hl3: ¬((b::t).length:Int)<1:=by simp;omega
   by_cases hb:xE b.toNat=true
   ·rw[if_neg (by unfold xE at hb;simp only[hl,hl3,hb];simp)]
    have h:=TY (f:=LH (b::t)) (l:=b::t) (fun b=>xD b.toNat) (fun _=>false) (fun i h=>by
     unfold LH
     rw[if_pos (sY h),if_pos (qJ h),vI h,if_pos (rR (by omega))];rfl) (by
     unfold LH
     rw[if_neg (xT _)]) t.length 1 (by simp;omega)
    rw[show ((1:Nat):Int)=1 from rfl] at h
    rw[h,IQ]
    simp only[List.drop_succ_cons,List.drop_zero,hb,hl2,decide_false,Bool.not_false,Bool.true_and]
    cases t.any fun b=>xD b.toNat<;>rfl
   ·rw[if_pos (by unfold xE at hb;simp only[hb];simp)]
    simp [hb]
theorem aBK (s:List UInt8): ∀(n j:Nat),j+n=s.length→pR (HZ s) j=some (if (s.drop j).any (fun b=>xD b.toNat)=true∨(j=0∧s≠[]∧xE (s.getD 0 0).toNat=false) then .inr false else .inl ())
 |0,j,hj=>by
  have:j=s.length:=by omega
  subst this
  rw[List.drop_length,uW]
  unfold HZ
  rw[if_neg (by simp)]
  by_cases h0:s=[]
  ·subst h0;simp
  ·have:s.length≠0:=by simpa using h0
   simp [this]
 |n+1,j,hj=>by
  have hlt:j<s.length:=by omega
  have ih:=aBK s n (j+1) (by omega)
  rw[uW,List.drop_eq_getElem_cons hlt,List.any_cons]
  have hstep:HZ s j=if (xD (s[j].toNat:Int)=true∨(j=0∧xE (s[j].toNat:Int)=false)) then some (.inr (.inr false)) else some (.inl (j+1)):=by
   unfold HZ
   rw[if_pos (by simpa using hlt),if_pos (by simpa using hlt),if_pos (by simpa using hlt)]
   by_cases ha:s[j].toNat<128
   ·obtain⟨e1,e2⟩:=a7z hlt ha
    rw[e1,e2]
    by_cases h1:xE (s[j].toNat:Int)=true
    ·rw[if_pos (by unfold xE at h1;exact h1),if_neg]
     unfold xE at h1
     simp only[Bool.and_eq_true,decide_eq_true_eq] at h1
     simp [xD,xE]
     omega
    ·have h1':xE (s[j].toNat:Int)=false:=by simpa using h1
     rw[if_neg (by unfold xE at h1;exact h1)]
     have h2: ¬(97≤(s[j].toNat:Int)∧(s[j].toNat:Int)≤122):=by
      unfold xE at h1;simpa using h1
     by_cases h3:xD (s[j].toNat:Int)=true∨j=0
     ·rw[if_neg,if_pos]
      ·rcases h3 with h3|h3
       ·exact .inl h3
       ·exact .inr ⟨h3,h1'⟩
      ·simp [xD] at h3⊢
       omega
     ·rw[if_pos,if_neg]
      ·intro h
       rcases h with h|⟨h,_⟩
       ·exact h3 (.inl h)
       ·exact h3 (.inr h)
      ·simp [xD] at h3⊢
       omega
   ·have hb:=a7A hlt (by omega)
    rw[if_neg (by simp;omega),if_neg (by simp;omega),if_pos (.inl (by simp [xD];omega))]
  rw[hstep]
  have hd:s.getD 0 0=s[0]'(by omega):=by simp [List.getD_eq_getElem?_getD,List.getElem?_eq_getElem (show 0<s.length by omega)]
  have hne:s≠[]:=by intro h;subst h;simp at hlt
  by_cases hp:xD (s[j].toNat:Int)=true∨(j=0∧xE (s[j].toNat:Int)=false)
  ·rw[if_pos hp,if_pos]
   ·rfl
   ·rcases hp with hp|⟨rfl,hp⟩
    ·left;simp [hp]
    ·right;exact⟨rfl,hne,by rw[hd];exact hp⟩
  ·rw[if_neg hp]
   show pR _ (j+1)=_
   rw[ih]
   have hnb:xD (s[j].toNat:Int)=false:=by
    cases h:xD (s[j].toNat:Int) with
    |true=>exact absurd (.inl h) hp
    |false=>rfl
   simp only[hnb,Bool.false_or]
   congr 2
   apply propext
   constructor
   ·rintro(h|⟨h,_⟩)
    ·exact .inl h
    ·omega
   ·rintro(h|⟨rfl,_,h⟩)
    ·exact .inl h
    ·rw[hd] at h
     exact absurd (.inr ⟨rfl,h⟩) hp
theorem PE (s:List UInt8):BL s=some (qU s):=by
 have h:=aBK s s.length 0 (by omega)
 unfold BL
 rw[h,List.drop_zero]
 cases s with
 |nil=>simp [qU,qT]
 |cons b t=>
  simp only[List.any_cons,List.getD_cons_zero,ne_eq,reduceCtorEq,not_false_eq_true,true_and,qU]
  cases hs:xE b.toNat with
  |false=>simp [qT]
  |true=>
   have hn:xD b.toNat=false:=by
    unfold xE at hs
    simp only[Bool.and_eq_true,decide_eq_true_eq] at hs
    simp [xD];omega
   simp only[hn,Bool.false_or]
   cases t.any (fun b=>xD b.toNat) with
   |true=>simp [qT]
   |false=>
    simp only[Bool.false_eq_true,false_or,and_false,if_false]
    show some (decide ((1:Int)≤((b::t).length:Int))&&decide (((b::t).length:Int)≤40))=_
    congr 1
    rw[Bool.eq_iff_iff]
    simp only[List.length_cons,Bool.and_eq_true,decide_eq_true_eq,Bool.not_eq_true',decide_eq_false_iff_not,Bool.not_false,and_true]
    omega
end Go.Proofs.YtfchbnahjcdiiaaGreatDoor
namespace Go.Proofs.YtfchbnahjcdiiaaGreatDoor
open Vc
set_option maxRecDepth 100000
theorem a3P {α:Type}{p:α→Bool}{l:List α}:sL (fun _=>true) false (l.findIdx? p)=l.any p:=by
 rw[IQ]
 cases l.any p<;>rfl
theorem DF {β:Type}{f:Nat→β}{b:β}{o:Option Nat}:qT (some (sL (fun k=> .inr (f k)) (.inl ()) o)) (fun _=>some b)=some (sL f b o):=by
 cases o<;>rfl
theorem aHk (l:List (List UInt8)) (s:List UInt8) (hl:pU l):G8 l s=some (l.any fun x=>decide (x=s)):=by
 unfold pU at hl
 have h:=BJ (f:=L6 l s) (l:=l) (fun x=>decide (x=s)) (fun _=>true) (fun i h=>by
  unfold L6
  rw[if_pos (sY h),if_pos (qJ h),wS (t:= .str) h,if_pos (rR (by omega))]) (by
  unfold L6
  rw[if_neg (xT _)])
 unfold G8
 rw[h,DF,a3P]
theorem aBL (l:List (List UInt8)) (s:List UInt8) (hl:pU l):yX l s=some (sL (fun k=>(k:Int)) (-1) (l.findIdx? fun x=>decide (s=x))):=by
 unfold pU at hl
 have h:=BJ (f:=L2 l s) (l:=l) (fun x=>decide (s=x)) (fun k=>(k:Int)) (fun i h=>by
  unfold L2
  rw[if_pos (sY h),if_pos (qJ h),wS (t:= .str) h,if_pos (rR (by omega))]) (by
  unfold L2
  rw[if_neg (xT _)])
 unfold yX
 rw[h,DF]
theorem aHl {α:Type}{p:α→Bool}{l:List α}:decide ((0:Int)≤sL (fun k=>(k:Int)) (-1) (l.findIdx? p))=l.any p:=by
 rw[IQ]
 cases l.any p
 ·rfl
 ·simp only[if_true,decide_eq_true_eq];omega
theorem aBM (l:List (List UInt8)) (s:List UInt8) (hl:pU l):D2 l s=some (l.any fun x=>decide (x=s)):=by
 unfold D2
 rw[aBL l s hl]
 show some (decide _)=_
 rw[aHl]
 simp only[eq_comm]
def BX:List (List UInt8):=[[110,101,119],[102,117,122,122,121],[116,114,97,110,115,108,97,116,101,100],[114,101,118,105,101,119,101,100],[111,98,115,111,108,101,116,101]]
def sH (s:List UInt8):Int:=sL (fun k=>(k:Int)) (-1) (BX.findIdx? fun x=>decide (x=s))
theorem aBN (s:List UInt8):D1 s=some (sH s):=by
 have h:=BJ (f:=LG s) (l:=BX) (fun x=>decide (x=s)) (fun k=>(k:Int)) (fun i h=>by
  have h5:i<5:=h
  unfold LG L3
  rw[if_pos (by simp;omega),if_pos (⟨by omega,by simp;omega⟩)]
  show (if decide (pY .str BX (i:Int)=s)=true then _ else _)=_
  rw[wS (t:= .str) h,if_pos (rR (by omega))]) (by
  unfold LG
  rw[if_neg (by simp [BX])])
 unfold D1
 rw[h,DF]
 rfl
theorem PF (s:List UInt8):ER s=some (decide (0≤sH s))∧yX BX s=some (sH s):=by
 have hi:yX BX s=some (sH s):=by
  rw[aBL BX s (by unfold pU;decide)]
  unfold sH
  simp only[eq_comm]
 refine⟨?_,hi⟩
 unfold ER D2
 show ((yX BX s).bind _).bind _=_
 rw[hi]
 rfl
abbrev qQ:=List UInt8×List UInt8×Unit
abbrev tF:Ty:= .pair .str (.pair .str .unit)
def zC (l:List qQ) (n:List UInt8):Option Nat:=l.findIdx? fun x=>decide (x.1=n)
def IS (l:List qQ) (n:List UInt8):List UInt8×Bool:=sL (fun k=>((l.getD k ([],[],())).2.1,true)) ([],false) (zC l n)
theorem aBO (l:List qQ) (n:List UInt8):(IS l n).2=l.any fun x=>decide (x.1=n):=by
 unfold IS zC
 rw[IQ]
 cases l.any fun x=>decide (x.1=n)<;>rfl
theorem aHm (l:List qQ) (n:List UInt8) (hl:pU l):EE l n=some (IS l n):=by
 unfold pU at hl
 have h:=BJ (f:=KW l n) (l:=l) (fun x=>decide (x.1=n)) (fun k=>((l.getD k ([],[],())).2.1,true)) (fun i h=>by
  unfold KW
  rw[if_pos (sY h),if_pos (qJ h),wS (t:=tF) h,if_pos (qJ h),if_pos (rR (by omega)),List.getD_eq_getElem?_getD,List.getElem?_eq_getElem h]
  rfl) (by
  unfold KW
  rw[if_neg (xT _)])
 unfold EE
 rw[h,DF]
 rfl
theorem aBP (l:List qQ) (n:List UInt8) (hl:pU l):D4 l n=some (sL (fun k=>(k:Int)) (-1) (zC l n)):=by
 unfold pU at hl
 have h:=BJ (f:=LA l n) (l:=l) (fun x=>decide (x.1=n)) (fun k=>(k:Int)) (fun i h=>by
  unfold LA
  rw[if_pos (sY h),if_pos (qJ h),wS (t:=tF) h,if_pos (rR (by omega))]) (by
  unfold LA
  rw[if_neg (xT _)])
 unfold D4 I2
 rw[h,DF]
 rfl
theorem a3Q {l:List qQ}{n:List UInt8}{k:Nat}(h:zC l n=some k):k<l.length:=by
 unfold zC at h
 exact(List.findIdx?_eq_some_iff_getElem.1 h).1
theorem aBQ (l:List qQ) (n:List UInt8) (hl:pU l):EQ l n=some (IS l n):=by
 unfold EQ
 rw[aBP l n hl]
 unfold IS
 cases h:zC l n with
 |none=>rfl
 |some k=>
  have hk:=a3Q h
  simp only[sL,Option.bind_some]
  rw[if_neg (by simp),if_pos (qJ hk),wS (t:=tF) hk]
  simp only[sL,List.getD_eq_getElem?_getD,List.getElem?_eq_getElem hk]
  rfl
def IT (l:List qQ) (n:List UInt8):Nat:=(l.findIdx? fun x=> !(Op.bytesLess x.1 n||decide (x.1=n))).getD l.length
def AW (l:List qQ) (n v:List UInt8):List qQ:=sL (fun k=>l.set k (n,v,())) (l.take (IT l n)++[(n,v,())]++l.drop (IT l n)) (zC l n)
theorem aBR (l:List qQ) (n:List UInt8):IT l n≤l.length:=by
 unfold IT
 cases h:l.findIdx? fun x=> !(Op.bytesLess x.1 n||decide (x.1=n)) with
 |none=>exact Nat.le_refl _
 |some k=>exact Nat.le_of_lt (List.findIdx?_eq_some_iff_getElem.1 h).1
theorem aHn (l:List qQ) (n v:List UInt8):(AW l n v).length≤l.length+1:=by
 have:=aBR l n
 unfold AW
 cases zC l n with
 |none=>simp [sL];omega
 |some k=>simp [sL]
theorem aBS {l:List qQ}{n:List UInt8}{k:Nat}(h:zC l n=some k) (hk:k<l.length):l[k].1=n:=by
 unfold zC at h
 have:=(List.findIdx?_eq_some_iff_getElem.1 h).2.1
 simpa using this
theorem aBT (l:List qQ) (n v:List UInt8) (hl:pU l):EW l n v=some (AW l n v):=by
 have hl':=hl
 unfold pU at hl'
 unfold EW EK
 rw[if_pos (by omega)]
 show (D4 ([]++l) n).bind _=_
 rw[List.nil_append,aBP l n hl]
 unfold AW
 cases h:zC l n with
 |some k=>
  have hk:=a3Q h
  simp only[sL,Option.bind_some]
  rw[if_pos (by simp),if_pos (qJ hk),wS (t:=tF) hk,Int.toNat_natCast]
  congr 2
  exact Prod.ext (aBS h hk) rfl
 |none=>
  simp only[sL,Option.bind_some]
  rw[if_neg (by decide)]
  have h2:=BJ (f:=LB l n) (l:=l) (fun x=> !(Op.bytesLess x.1 n||decide (x.1=n))) (fun k=>(k:Int)) (fun i h=>by
   unfold LB
   rw[if_pos (sY h),if_pos (qJ h),wS (t:=tF) h,if_pos (rR (by omega))]) (by
   unfold LB
   rw[if_neg (xT _)])
  unfold I3
  rw[h2,DF]
  unfold IT
  cases h3:l.findIdx? fun x=> !(Op.bytesLess x.1 n||decide (x.1=n)) with
  |none=>
   simp only[sL,Option.bind_some]
   rw[if_pos (by decide),if_pos ⟨by omega,Int.le_refl _⟩,if_pos (by simp;omega)]
   simp [yA,sL]
  |some k=>
   have hk:k<l.length:=(List.findIdx?_eq_some_iff_getElem.1 h3).1
   simp only[sL,Option.bind_some]
   rw[if_neg (by simp),if_pos ⟨by omega,by omega⟩,if_pos (by simp;omega)]
   simp [yA,sL]
theorem PG {α:Type}{f:Int→Option (Int⊕Int)}{l:List α}(p:α→Bool)
  (hf: ∀(i:Nat) (h:i<l.length),f i=if p l[i]=true then some (.inl (i+1)) else some (.inr i)) (he:f l.length=some (.inr l.length)):
  ∀(n j:Nat),j+n=l.length→pR f j=some (((j+((l.drop j).findIdx? fun x=> !p x).getD n:Nat)):Int)
 |0,j,hj=>by
  have:j=l.length:=by omega
  subst this
  rw[List.drop_length,uW,he]
  simp
 |n+1,j,hj=>by
  have hlt:j<l.length:=by omega
  rw[uW,hf j hlt,List.drop_eq_getElem_cons hlt,List.findIdx?_cons]
  by_cases hp:p l[j]=true
  ·rw[if_pos hp,if_neg (by simp [hp])]
   show pR f ((j:Int)+1)=_
   rw[show ((j:Int)+1)=((j+1:Nat):Int) by omega,PG p hf he n (j+1) (by omega)]
   cases(l.drop (j+1)).findIdx? fun x=> !p x with
   |none=>simp;omega
   |some k=>simp;omega
  ·rw[if_neg hp,if_pos (by simpa using hp)]
   simp
theorem aBU {α:Type}{f:Int→Option (Int⊕Int)}{l:List α}(p:α→Bool)
  (hf: ∀(i:Nat) (h:i<l.length),f i=if p l[i]=true then some (.inl (i+1)) else some (.inr i)) (he:f l.length=some (.inr l.length)):
  pR f 0=some (((l.findIdx? fun x=> !p x).getD l.length:Nat):Int):=by
 have:=PG p hf he l.length 0 (by omega)
 simpa using this
theorem PH {α:Type}{l:List α}{k:Nat}:oZ l 0 (k:Int)=l.take k:=by unfold oZ;simp
theorem BY {α:Type}{l:List α}{k:Nat}:oZ l (k:Int) (l.length:Int)=l.drop k:=by
 unfold oZ
 rw[Int.toNat_natCast,Int.toNat_natCast,List.take_of_length_le]
 rw[List.length_drop]
 exact Nat.le_refl _
theorem aBV (l:List qQ) (n v:List UInt8) (hl:pU l):EG l n v=some (AW l n v):=by
 have hl':=hl
 unfold pU at hl'
 unfold EG
 rw[if_pos (by omega)]
 have h1:=BJ (f:=KX l n v) (l:=l) (fun x=>decide (x.1=n)) (fun k=>l.set k ((l.getD k ([],[],())).1,(v,(l.getD k ([],[],())).2.2))) (fun i h=>by
  unfold KX
  rw[List.nil_append,if_pos (sY h),if_pos (qJ h),wS (t:=tF) h,if_pos (qJ h),if_pos (rR (by omega)),List.getD_eq_getElem?_getD,List.getElem?_eq_getElem h,Int.toNat_natCast]
  rfl) (by
  unfold KX
  rw[List.nil_append,if_neg (xT _)])
 rw[h1]
 unfold AW
 show qT (some (sL _ _ (zC l n))) _=_
 cases h:zC l n with
 |some k=>
  have hk:=a3Q h
  simp only[sL,List.getD_eq_getElem?_getD,List.getElem?_eq_getElem hk]
  show some (l.set k _)=_
  congr 2
  exact Prod.ext (aBS h hk) rfl
 |none=>
  show qD (pR (G5 l n) 0) _=_
  have h2:=aBU (f:=G5 l n) (l:=l) (fun x=>Op.bytesLess x.1 n||decide (x.1=n)) (fun i h=>by
   unfold G5
   rw[if_pos (fun _=>qJ h),wS (t:=tF) h,sY h,Bool.true_and,if_pos (rR (by omega))]) (by
   unfold G5
   have hF:decide ((l.length:Int)<(l.length:Int))=false:=by simp
   rw[hF,if_pos (fun h=>by simp at h),Bool.false_and,if_neg (by decide)])
  rw[show pR (G5 l n) 0=some ((IT l n:Nat):Int) from h2]
  have hk:=aBR l n
  unfold qD
  rw[Option.bind_some,if_pos ⟨Int.le_refl _,by omega,by omega⟩,PH,BY,if_pos (by simp;omega),if_pos (by simp;omega),if_pos ⟨by omega,by omega,Int.le_refl _⟩,if_pos (by simp;omega)]
  simp [sL]
end Go.Proofs.YtfchbnahjcdiiaaGreatDoor
namespace Go.Proofs.YtfchbnahjcdiiaaGreatDoor
open Vc
set_option maxRecDepth 100000
def xF (n:Int):Prop:=0≤n∧n≤1114111∧(n<55296∨57343<n)
def u1 (n:Int):Bool:=(((decide ((0:Int)≤n))&&(decide (n≤(1114111:Int))))&&((decide (n<(55296:Int)))||(decide ((57343:Int)<n))))
theorem DG (n:Int):u1 n=true↔xF n:=by
 unfold u1 xF
 simp
 omega
theorem PI {n:Int}(h0:0≤n) (h1:n≤127):Lib.encodeRune n=rA [n]:=by
 unfold Lib.encodeRune;rw[Lib.encodeRuneZ_one h0 h1];rfl
theorem PJ {n:Int}(h0:128≤n) (h1:n≤2047):Lib.encodeRune n=rA [192+n/64,128+n%64]:=by
 unfold Lib.encodeRune;rw[Lib.encodeRuneZ_two h0 h1];rfl
theorem a3R {n:Int}(h:(2048≤n∧n<55296)∨(57343<n∧n≤65535)):Lib.encodeRune n=rA [224+n/4096,128+n/64%64,128+n%64]:=by
 unfold Lib.encodeRune;rw[Lib.encodeRuneZ_three h];rfl
theorem aBW {n:Int}(h0:65536≤n) (h1:n≤1114111):Lib.encodeRune n=rA [240+n/262144,128+n/4096%64,128+n/64%64,128+n%64]:=by
 unfold Lib.encodeRune;rw[Lib.encodeRuneZ_four h0 h1];rfl
theorem a3S {n:Int}(h:xF n):yD n=some (Lib.encodeRune n):=by
 obtain⟨h0,h1,hs⟩:=h
 have w1:IntKind.i64.wrap (n/64)=n/64:=by rw[IntKind.wrap_i64];omega
 have w2:IntKind.i64.wrap (n/4096)=n/4096:=by rw[IntKind.wrap_i64];omega
 have w3:IntKind.i64.wrap (n/262144)=n/262144:=by rw[IntKind.wrap_i64];omega
 have m1:Int.tmod n 64=n%64:=Int.tmod_eq_emod_of_nonneg h0
 have m2:Int.tmod (n/64) 64=n/64%64:=Int.tmod_eq_emod_of_nonneg (by omega)
 have m3:Int.tmod (n/4096) 64=n/4096%64:=Int.tmod_eq_emod_of_nonneg (by omega)
 unfold yD
 simp only[Int.tdiv_eq_ediv_of_nonneg h0,w1,w2,w3,m1,m2,m3,IntKind.wrap_u8]
 by_cases c1:n<128
 ·rw[if_pos (by simpa using c1),PI h0 (by omega),show n%256=n by omega]
 ·rw[if_neg (by simpa using c1)]
  by_cases c2:n<2048
  ·rw[if_pos (by simpa using c2),if_pos (by unfold oT;omega),if_pos (by unfold oT;omega),PJ (by omega) (by omega),show (192+n/64) %256=192+n/64 by omega,show (128+n%64) %256=128+n%64 by omega]
  ·rw[if_neg (by simpa using c2)]
   by_cases c3:n<65536
   ·rw[if_pos (by simpa using c3),if_pos (by unfold oT;omega),if_pos (by unfold oT;omega),if_pos (by unfold oT;omega),a3R (by omega),show (224+n/4096) %256=224+n/4096 by omega,show (128+n/64%64) %256=128+n/64%64 by omega,show (128+n%64) %256=128+n%64 by omega]
   ·rw[if_neg (by simpa using c3),if_pos (by unfold oT;omega),if_pos (by unfold oT;omega),if_pos (by unfold oT;omega),if_pos (by unfold oT;omega),aBW (by omega) (by omega),show (240+n/262144) %256=240+n/262144 by omega,show (128+n/4096%64) %256=128+n/4096%64 by omega,show (128+n/64%64) %256=128+n/64%64 by omega,show (128+n%64) %256=128+n%64 by omega]
theorem a3T {n:Int}{k:Int}{j:Nat}(hj:k.toNat=j) (h32:j≤32):uF .i32 n k=n/2^j:=by
 unfold uF
 rw[hj,show min j IntKind.i32.bits=j from Nat.min_eq_left h32,Int.fdiv_eq_ediv_of_nonneg]
 exact Int.pow_nonneg (by decide)
theorem aHo {n:Int}(p:List Int) (h:xF n) (hp:pU p):EV p n=some (p++Lib.encodeRuneZ n):=by
 obtain⟨h0,h1,hs⟩:=h
 unfold pU at hp
 have u:IntKind.u32.wrap n=n:=by rw[IntKind.wrap_u32];omega
 have s6:uF .i32 n 6=n/64:=a3T (j:=6) rfl (by decide)
 have s12:uF .i32 n 12=n/4096:=a3T (j:=12) rfl (by decide)
 have s18:uF .i32 n 18=n/262144:=a3T (j:=18) rfl (by decide)
 have b0:bits .or .u8 128 (bits .and .u8 (n%256) 63)=128+n%64:=by
  rw[u8_and63 (x:=n%256) (by omega) (by omega),show n%256%64=n%64 by omega,u8_or128 (y:=n%64) (by omega) (by omega)]
 have b1:bits .or .u8 128 (bits .and .u8 (n/64%256) 63)=128+n/64%64:=by
  rw[u8_and63 (x:=n/64%256) (by omega) (by omega),show n/64%256%64=n/64%64 by omega,u8_or128 (y:=n/64%64) (by omega) (by omega)]
 have b2:bits .or .u8 128 (bits .and .u8 (n/4096%256) 63)=128+n/4096%64:=by
  rw[u8_and63 (x:=n/4096%256) (by omega) (by omega),show n/4096%256%64=n/4096%64 by omega,u8_or128 (y:=n/4096%64) (by omega) (by omega)]
 unfold EV
 rw[u]
 by_cases c1:n≤127
 ·rw[if_pos (by simpa using c1),if_pos (by simp;omega),Lib.encodeRuneZ_one h0 c1,IntKind.wrap_u8,show n%256=n by omega]
 ·rw[if_neg (by simpa using c1)]
  unfold GB
  simp only[u,s6,s12,s18,IntKind.wrap_u8,b0,b1,b2]
  by_cases c2:n≤2047
  ·rw[if_pos (by simpa using c2),if_pos (by simp;omega),Lib.encodeRuneZ_two (by omega) c2,show n/64%256=n/64 by omega,u8_or192 (y:=n/64) (by omega) (by omega)]
   rfl
  ·rw[if_neg (by simpa using c2)]
   by_cases c3:n≤65535
   ·have hx:(if decide (n<55296)=true then some (decide (n<55296)) else some ((decide (57343<n))&&(decide (n≤65535))))=some true:=by
     by_cases c:n<55296
     ·rw[if_pos (by simpa using c)];simp [c]
     ·rw[if_neg (by simpa using c)];simp;omega
    rw[hx]
    simp only[qD,Option.bind_some]
    rw[if_pos trivial,if_pos (by simp;omega),Lib.encodeRuneZ_three (by omega),show n/4096%256=n/4096 by omega,u8_or224 (y:=n/4096) (by omega) (by omega)]
    rfl
   ·have hx:(if decide (n<55296)=true then some (decide (n<55296)) else some ((decide (57343<n))&&(decide (n≤65535))))=some false:=by
     rw[if_neg (by simp;omega)];simp;omega
    rw[hx]
    simp only[qD,Option.bind_some]
    rw[if_neg (by decide),if_pos (by simp;omega),if_pos (by simp;omega),Lib.encodeRuneZ_four (by omega) h1,show n/262144%256=n/262144 by omega,u8_or240 (y:=n/262144) (by omega) (by omega)]
    rfl
theorem aBX (n:Int):(Lib.encodeRuneZ n).length≤4:=by
 unfold Lib.encodeRuneZ
 repeat' split
 all_goals simp
theorem aBY {n:Int}(p:List Int) (h:xF n) (hp:pU p): ∃k,BR (p,()) n=some (k,p++Lib.encodeRuneZ n):=by
 have h4:=aBX n
 unfold pU at hp
 unfold BR
 rw[aHo p h hp]
 simp only[Option.bind_some]
 rw[if_pos (by unfold oT;simp;omega)]
 exact⟨_,rfl⟩
theorem aHp (n:Int):LJ [n] (0,[])=some (.inl (1,if u1 n=true then Lib.encodeRuneZ n else Lib.encodeRuneZ 65533)):=by
 unfold LJ
 have hn:pY (.int .i64) [n] 0=n:=rfl
 dsimp only
 rw[if_pos (by simp),if_pos ⟨Int.le_refl _,by simp⟩]
 simp only[hn]
 by_cases hs:u1 n=true
 ·have hsc:=(DG n).1 hs
  obtain⟨k,hk⟩:=aBY (n:=n) [] hsc (by unfold pU;simp)
  have wn:IntKind.i32.wrap n=n:=by
   obtain⟨a,b,c⟩:=hsc
   rw[IntKind.wrap_i32];omega
  rw[if_pos hs]
  unfold u1 at hs
  rw[if_neg (by rw[hs];decide),wn,hk]
  simp only[Option.bind_some,List.nil_append]
  rw[if_pos (by unfold oT;omega)]
  rfl
 ·rw[if_neg hs]
  unfold u1 at hs
  obtain⟨k,hk⟩:=aBY (n:=65533) [] (by unfold xF;omega) (by unfold pU;simp)
  rw[if_pos (by simp only[Bool.not_eq_true'] at hs⊢;simpa using hs),show IntKind.i32.wrap 65533=65533 from rfl,hk]
  simp only[Option.bind_some,List.nil_append]
  rw[if_pos (by unfold oT;omega)]
  rfl
theorem aHq (n:Int):EY n=some (if u1 n=true then Lib.encodeRune n else Lib.encodeRune 65533):=by
 unfold EY IF
 rw[KJ (aHp n),w5 (r:=if u1 n=true then Lib.encodeRuneZ n else Lib.encodeRuneZ 65533) (by unfold LJ;simp)]
 simp only[qD,Option.bind_some]
 by_cases hs:u1 n=true
 ·rw[if_pos hs,if_pos hs];rfl
 ·rw[if_neg hs,if_neg hs];rfl
theorem aBZ {l:List UInt8}{i:Nat}(h:i<l.length):pA l (i:Int)=((l.getD i 0).toNat:Int):=by
 rw[vI h,List.getD_eq_getElem?_getD,List.getElem?_eq_getElem h];rfl
theorem aHr {s:List UInt8}{x n:Int}{i:Nat}(h:i<s.length) (hn:(i:Int)<n) (hx:0≤x) (hx1:x≤1000000) (hi:i≤10):AO s n (x,(i:Int))=
  if (s.getD i 0).toNat/64=2 then some (.inl (64*x+(s.getD i 0).toNat-128,((i+1:Nat):Int))) else some (.inr (.inr (65533,1))):=by
 have hb:=(s.getD i 0).toNat_lt
 have hy:=aBZ h
 generalize (s.getD i 0).toNat=B at hb hy⊢
 unfold AO
 dsimp only
 rw[if_pos (by simpa using hn),if_pos (qJ h),if_pos (fun _=>qJ h),hy]
 by_cases hc:B/64=2
 ·rw[if_neg (by simp;omega),if_pos hc,if_pos (by unfold oT;omega),if_pos (qJ h),show IntKind.i64.wrap (B:Int)=(B:Int) by rw[IntKind.wrap_i64];omega,
   if_pos (by unfold oT;omega),if_pos (by unfold oT;omega),if_pos (by unfold oT;omega)]
  rfl
 ·rw[if_pos (by simp;omega),if_neg hc]
theorem a3U {s:List UInt8}{x n i:Int}(h:n≤i):AO s n (x,i)=some (.inr (.inl x)):=by
 unfold AO
 dsimp only
 rw[if_neg (by simpa using h)]
def rM (s:List UInt8) (i:Nat):Bool:=decide ((s.getD i 0).toNat/64=2)
def uL (s:List UInt8) (i:Nat) (x:Int):Int:=64*x+(s.getD i 0).toNat-128
theorem a3V {s:List UInt8}{i:Nat}{x m:Int}(h0:0≤x) (hm:x≤m) (hc:rM s i=true):0≤uL s i x∧uL s i x≤64*m+63:=by
 have hb:=(s.getD i 0).toNat_lt
 unfold rM at hc
 unfold uL
 simp only[decide_eq_true_eq] at hc
 omega
theorem IU {s:List UInt8}{x n:Int}{i:Nat}(h:i<s.length) (hn:(i:Int)<n) (hx:0≤x) (hx1:x≤1000000) (hi:i≤10):
  pR (AO s n) (x,(i:Int))=if rM s i=true then pR (AO s n) (uL s i x,((i+1:Nat):Int)) else some (.inr (65533,1)):=by
 rw[uW,aHr h hn hx hx1 hi]
 unfold rM uL
 simp only[decide_eq_true_eq]
 by_cases hc:(s.getD i 0).toNat/64=2
 ·rw[if_pos hc,if_pos hc];rfl
 ·rw[if_neg hc,if_neg hc];rfl
theorem aHs {s:List UInt8}{x:Int}(h:1<s.length) (hx:0≤x) (hx1:x≤31):pR (AO s 2) (x,1)=some (if rM s 1=true then .inl (uL s 1 x) else .inr (65533,1)):=by
 show pR _ (x,((1:Nat):Int))=_
 rw[IU h (by decide) hx (by omega) (by decide)]
 by_cases c1:rM s 1=true
 ·rw[if_pos c1,if_pos c1,w5 (a3U (by decide))]
 ·rw[if_neg c1,if_neg c1]
theorem aHt {s:List UInt8}{x:Int}(h:2<s.length) (hx:0≤x) (hx1:x≤15):pR (AO s 3) (x,1)=some (if (rM s 1&&rM s 2)=true then .inl (uL s 2 (uL s 1 x)) else .inr (65533,1)):=by
 show pR _ (x,((1:Nat):Int))=_
 rw[IU (by omega) (by decide) hx (by omega) (by decide)]
 by_cases c1:rM s 1=true
 ·have b1:=a3V hx hx1 c1
  rw[if_pos c1,IU h (by decide) b1.1 (by omega) (by decide),c1,Bool.true_and]
  by_cases c2:rM s 2=true
  ·rw[if_pos c2,if_pos c2,w5 (a3U (by decide))]
  ·rw[if_neg c2,if_neg c2]
 ·rw[if_neg c1,if_neg (by simp [c1])]
theorem aHu {s:List UInt8}{x:Int}(h:3<s.length) (hx:0≤x) (hx1:x≤7):pR (AO s 4) (x,1)=some (if (rM s 1&&rM s 2&&rM s 3)=true then .inl (uL s 3 (uL s 2 (uL s 1 x))) else .inr (65533,1)):=by
 show pR _ (x,((1:Nat):Int))=_
 rw[IU (by omega) (by decide) hx (by omega) (by decide)]
 by_cases c1:rM s 1=true
 ·have b1:=a3V hx hx1 c1
  rw[if_pos c1,IU (by omega) (by decide) b1.1 (by omega) (by decide),c1,Bool.true_and]
  by_cases c2:rM s 2=true
  ·have b2:=a3V b1.1 b1.2 c2
   rw[if_pos c2,IU h (by decide) b2.1 (by omega) (by decide),c2,Bool.true_and]
   by_cases c3:rM s 3=true
   ·rw[if_pos c3,if_pos c3,w5 (a3U (by decide))]
   ·rw[if_neg c3,if_neg c3]
  ·rw[if_neg c2,if_neg (by simp [c2])]
 ·rw[if_neg c1,if_neg (by simp [c1])]
def sP (s:List UInt8) (x:Int) (n:Nat):Int×Int:=if u1 x=true∧Lib.encodeRune x=s.take n then(x,n) else(65533,1)
theorem a3W {s:List UInt8}{x:Int}{n:Nat}(hn:n≤s.length):
  (if (((!(((decide ((0:Int)≤x))&&(decide (x≤(1114111:Int))))&&((decide (x<(55296:Int)))||(decide ((57343:Int)<x)))))==false)=true→((yD x)).isSome=true) then
  if (((!(((decide ((0:Int)≤x))&&(decide (x≤(1114111:Int))))&&((decide (x<(55296:Int)))||(decide ((57343:Int)<x)))))==false)=true→0≤(0:Int)∧(0:Int)≤(n:Int)∧(n:Int)≤(List.length s:Int)) then
   if ((!(((decide ((0:Int)≤x))&&(decide (x≤(1114111:Int))))&&((decide (x<(55296:Int)))||(decide ((57343:Int)<x)))))||(!decide ((val (yD x))=(oZ s (0:Int) (n:Int)))))=true then
   some (((65533:Int),(1:Int)))
   else
   some ((x,(n:Int)))
  else none
  else none)=some (sP s x n):=by
 rw[PH]
 simp only[show (((decide ((0:Int)≤x))&&(decide (x≤(1114111:Int))))&&((decide (x<(55296:Int)))||(decide ((57343:Int)<x))))=u1 x from rfl]
 unfold sP
 by_cases hs:u1 x=true
 ·have ho:=a3S ((DG x).1 hs)
  rw[if_pos (fun _=>by rw[ho];rfl),if_pos (fun _=>⟨Int.le_refl _,by omega,by omega⟩),ho,hs]
  by_cases he:Lib.encodeRune x=s.take n
  ·rw[if_neg (by simp [val,he]),if_pos ⟨rfl,he⟩]
  ·rw[if_pos (by simp [val,he]),if_neg (fun h=>he h.2)]
 ·have hs':u1 x=false:=by simpa using hs
  rw[if_pos (fun h=>by simp [hs'] at h),if_pos (fun h=>by simp [hs'] at h),if_pos (by simp [hs']),if_neg (fun h=>hs h.1)]
theorem DH (z:Int) (l:List Int) (x:UInt8) (h:z=(x.toNat:Int)):rA (z::l)=x::rA l:=by
 show UInt8.ofNat z.toNat::rA l=_
 rw[h];simp
theorem a3X:rA []=[]:=rfl
theorem IV (l:List Int):(rA l).length=l.length:=by simp [rA]
set_option maxHeartbeats 1000000 in
theorem aHv {s:List UInt8}(hl:1<s.length) (h0:192≤(s.getD 0 0).toNat) (h0':(s.getD 0 0).toNat<224) (hc:rM s 1=true):
  sP s (uL s 1 ((s.getD 0 0).toNat-192)) 2=(((Lib.decodeL s).1:Int),((Lib.decodeL s).2:Int)):=by
 unfold rM at hc
 simp only[decide_eq_true_eq] at hc
 have k0:=(s.getD 0 0).toNat_lt
 have k1:=(s.getD 1 0).toNat_lt
 have hd:Lib.decodeL s=if (s.getD 0 0).toNat%32*64+(s.getD 1 0).toNat%64≥128 then((s.getD 0 0).toNat%32*64+(s.getD 1 0).toNat%64,2) else(65533,1):=by
  rw[Lib.decodeL_N]
  unfold Lib.decodeN
  rw[if_neg (by omega),if_pos ⟨by omega,by omega,hc⟩]
 rw[hd]
 unfold sP uL
 rw[Lib.takeB s hl]
 have hx:u1 (64*((s.getD 0 0).toNat-192)+(s.getD 1 0).toNat-128)=true:=(DG _).2 (by unfold xF;omega)
 rw[hx]
 by_cases hv:(s.getD 0 0).toNat%32*64+(s.getD 1 0).toNat%64≥128
 ·rw[if_pos hv,if_pos ⟨rfl,by
   rw[PJ (by omega) (by omega),DH _ _ (s.getD 0 0) (by omega),DH _ _ (s.getD 1 0) (by omega),a3X]⟩]
  exact Prod.ext (by show _=(((_:Nat)):Int);omega) rfl
 ·rw[if_neg hv,if_neg (fun h=>by
   have h2:=congrArg List.length h.2
   rw[PI (by omega) (by omega),IV] at h2
   simp at h2)]
  rfl
set_option maxHeartbeats 1000000 in
theorem aHw {s:List UInt8}(hl:2<s.length) (h0:224≤(s.getD 0 0).toNat) (h0':(s.getD 0 0).toNat<240) (hc:rM s 1=true) (hc2:rM s 2=true):
  sP s (uL s 2 (uL s 1 ((s.getD 0 0).toNat-224))) 3=(((Lib.decodeL s).1:Int),((Lib.decodeL s).2:Int)):=by
 unfold rM at hc hc2
 simp only[decide_eq_true_eq] at hc hc2
 have k0:=(s.getD 0 0).toNat_lt
 have k1:=(s.getD 1 0).toNat_lt
 have k2:=(s.getD 2 0).toNat_lt
 obtain⟨V,hV⟩: ∃V,(s.getD 0 0).toNat%16*4096+(s.getD 1 0).toNat%64*64+(s.getD 2 0).toNat%64=V:=⟨_,rfl⟩
 have hd:Lib.decodeL s=if V≥2048∧(V<55296∨(57344≤V∧V≤1114111)) then(V,3) else(65533,1):=by
  rw[Lib.decodeL_N]
  unfold Lib.decodeN
  rw[if_neg (by omega),if_neg (by omega),if_pos ⟨by omega,⟨by omega,hc⟩,by omega,hc2⟩,hV]
 rw[hd]
 unfold sP uL
 rw[Lib.takeC s hl]
 generalize hX:64*(64*(((s.getD 0 0).toNat:Int)-224)+(s.getD 1 0).toNat-128)+(s.getD 2 0).toNat-128=X
 have hXV:X=(V:Int):=by omega
 by_cases hv:V≥2048∧(V<55296∨(57344≤V∧V≤1114111))
 ·rw[if_pos hv,if_pos ⟨(DG _).2 (by unfold xF;omega),by
   rw[a3R (by omega),DH _ _ (s.getD 0 0) (by omega),DH _ _ (s.getD 1 0) (by omega),DH _ _ (s.getD 2 0) (by omega),a3X]⟩]
  exact Prod.ext hXV rfl
 ·rw[if_neg hv,if_neg (fun h=>by
   have hs:=(DG _).1 h.1
   unfold xF at hs
   have hlt:X<2048:=by omega
   have h2:=congrArg List.length h.2
   by_cases h7:X≤127
   ·rw[PI (by omega) h7,IV] at h2;simp at h2
   ·rw[PJ (by omega) (by omega),IV] at h2;simp at h2)]
  rfl
set_option maxHeartbeats 1000000 in
theorem aHx {s:List UInt8}(hl:3<s.length) (h0:240≤(s.getD 0 0).toNat) (h0':(s.getD 0 0).toNat<248) (hc:rM s 1=true) (hc2:rM s 2=true) (hc3:rM s 3=true):
  sP s (uL s 3 (uL s 2 (uL s 1 ((s.getD 0 0).toNat-240)))) 4=(((Lib.decodeL s).1:Int),((Lib.decodeL s).2:Int)):=by
 unfold rM at hc hc2 hc3
 simp only[decide_eq_true_eq] at hc hc2 hc3
 have k0:=(s.getD 0 0).toNat_lt
 have k1:=(s.getD 1 0).toNat_lt
 have k2:=(s.getD 2 0).toNat_lt
 have k3:=(s.getD 3 0).toNat_lt
 obtain⟨V,hV⟩: ∃V,(s.getD 0 0).toNat%8*262144+(s.getD 1 0).toNat%64*4096+(s.getD 2 0).toNat%64*64+(s.getD 3 0).toNat%64=V:=⟨_,rfl⟩
 have hd:Lib.decodeL s=if V≥65536∧(V<55296∨(57344≤V∧V≤1114111)) then(V,4) else(65533,1):=by
  rw[Lib.decodeL_N]
  unfold Lib.decodeN
  rw[if_neg (by omega),if_neg (by omega),if_neg (by omega),if_pos ⟨by omega,⟨by omega,hc⟩,⟨by omega,hc2⟩,by omega,hc3⟩,hV]
 rw[hd]
 unfold sP uL
 rw[Lib.takeD s hl]
 generalize hX:64*(64*(64*(((s.getD 0 0).toNat:Int)-240)+(s.getD 1 0).toNat-128)+(s.getD 2 0).toNat-128)+(s.getD 3 0).toNat-128=X
 have hXV:X=(V:Int):=by omega
 by_cases hv:V≥65536∧(V<55296∨(57344≤V∧V≤1114111))
 ·rw[if_pos hv,if_pos ⟨(DG _).2 (by unfold xF;omega),by
   rw[aBW (by omega) (by omega),DH _ _ (s.getD 0 0) (by omega),DH _ _ (s.getD 1 0) (by omega),DH _ _ (s.getD 2 0) (by omega),DH _ _ (s.getD 3 0) (by omega),a3X]⟩]
  exact Prod.ext hXV rfl
 ·rw[if_neg hv,if_neg (fun h=>by
   have hs:=(DG _).1 h.1
   unfold xF at hs
   have hlt:X<65536:=by omega
   have h2:=congrArg List.length h.2
   by_cases h7:X≤127
   ·rw[PI (by omega) h7,IV] at h2;simp at h2
   ·by_cases h8:X≤2047
    ·rw[PJ (by omega) (by omega),IV] at h2;simp at h2
    ·rw[a3R (by omega),IV] at h2;simp at h2)]
  rfl
theorem GM {s:List UInt8}(h: ¬(s.getD 0 0).toNat<128) (h2: ¬((s.getD 0 0).toNat/32=6∧1<s.length∧rM s 1=true)) (h3: ¬((s.getD 0 0).toNat/16=14∧2<s.length∧(rM s 1&&rM s 2)=true))
  (h4: ¬((s.getD 0 0).toNat/8=30∧3<s.length∧(rM s 1&&rM s 2&&rM s 3)=true)):Lib.decodeL s=(65533,1):=by
 unfold rM at h2 h3 h4
 simp only[Bool.and_eq_true,decide_eq_true_eq] at h2 h3 h4
 rw[Lib.decodeL_N]
 unfold Lib.decodeN
 rw[if_neg h,if_neg (fun⟨a,b,c⟩=>h2 ⟨a,b,c⟩),if_neg (fun⟨a,⟨b,c⟩,d,e⟩=>h3 ⟨a,d,c,e⟩),if_neg (fun⟨a,⟨b,c⟩,⟨d,e⟩,f,g⟩=>h4 ⟨a,f,⟨c,e⟩,g⟩)]
set_option maxHeartbeats 1000000 in
theorem aHy {s:List UInt8}(hne:s≠[]):EJ s=some (((Lib.decodeL s).1:Int),((Lib.decodeL s).2:Int)):=by
 have hl:0<s.length:=List.length_pos_iff.2 hne
 have hy:pA s 0=((s.getD 0 0).toNat:Int):=aBZ (i:=0) hl
 have k0:=(s.getD 0 0).toNat_lt
 have hw:IntKind.i64.wrap ((s.getD 0 0).toNat:Int)=((s.getD 0 0).toNat:Int):=by rw[IntKind.wrap_i64];omega
 unfold EJ
 rw[if_pos ⟨Int.le_refl _,by omega⟩,hy,hw]
 by_cases c1:(s.getD 0 0).toNat<128
 ·rw[if_pos (by simp only[decide_eq_true_eq];omega)]
  rw[Lib.decodeL_N]
  unfold Lib.decodeN
  rw[if_pos c1]
  rfl
 ·rw[if_neg (by simp only[decide_eq_true_eq];omega)]
  by_cases c2:192≤(s.getD 0 0).toNat∧(s.getD 0 0).toNat<224
  ·rw[if_pos (by simp only[Bool.and_eq_true,decide_eq_true_eq];omega),if_pos (by unfold oT;omega)]
   show (if decide ((s.length:Int)<2)=true then _ else _)=_
   by_cases l2:1<s.length
   ·rw[if_neg (by simp only[decide_eq_true_eq];omega),aHs l2 (by omega) (by omega)]
    by_cases hc:rM s 1=true
    ·rw[if_pos hc,←aHv l2 c2.1 c2.2 hc,←a3W (s:=s) (n:=2) (by omega)]
     rfl
    ·rw[if_neg hc,GM c1 (fun h=>hc h.2.2) (fun h=>by omega) (fun h=>by omega)]
     rfl
   ·rw[if_pos (by simp only[decide_eq_true_eq];omega),GM c1 (fun h=>l2 h.2.1) (fun h=>by omega) (fun h=>by omega)]
    rfl
  ·rw[if_neg (by simp only[Bool.and_eq_true,decide_eq_true_eq];omega)]
   by_cases c3:224≤(s.getD 0 0).toNat∧(s.getD 0 0).toNat<240
   ·rw[if_pos (by simp only[Bool.and_eq_true,decide_eq_true_eq];omega),if_pos (by unfold oT;omega)]
    show (if decide ((s.length:Int)<3)=true then _ else _)=_
    by_cases l2:2<s.length
    ·rw[if_neg (by simp only[decide_eq_true_eq];omega),aHt l2 (by omega) (by omega)]
     by_cases hc:(rM s 1&&rM s 2)=true
     ·have hc':=Bool.and_eq_true _ _▸hc
      rw[if_pos hc,←aHw l2 c3.1 c3.2 hc'.1 hc'.2,←a3W (s:=s) (n:=3) (by omega)]
      rfl
     ·rw[if_neg hc,GM c1 (fun h=>by omega) (fun h=>hc h.2.2) (fun h=>by omega)]
      rfl
    ·rw[if_pos (by simp only[decide_eq_true_eq];omega),GM c1 (fun h=>by omega) (fun h=>l2 h.2.1) (fun h=>by omega)]
     rfl
   ·rw[if_neg (by simp only[Bool.and_eq_true,decide_eq_true_eq];omega)]
    by_cases c4:240≤(s.getD 0 0).toNat∧(s.getD 0 0).toNat<248
    ·rw[if_pos (by simp only[Bool.and_eq_true,decide_eq_true_eq];omega),if_pos (by unfold oT;omega)]
     show (if decide ((s.length:Int)<4)=true then _ else _)=_
     by_cases l2:3<s.length
     ·rw[if_neg (by simp only[decide_eq_true_eq];omega),aHu l2 (by omega) (by omega)]
      by_cases hc:(rM s 1&&rM s 2&&rM s 3)=true
      ·have hc':=Bool.and_eq_true _ _▸hc
       have hc'':=Bool.and_eq_true _ _▸hc'.1
       rw[if_pos hc,←aHx l2 c4.1 c4.2 hc''.1 hc''.2 hc'.2,←a3W (s:=s) (n:=4) (by omega)]
       rfl
      ·rw[if_neg hc,GM c1 (fun h=>by omega) (fun h=>by omega) (fun h=>hc h.2.2)]
       rfl
     ·rw[if_pos (by simp only[decide_eq_true_eq];omega),GM c1 (fun h=>by omega) (fun h=>by omega) (fun h=>l2 h.2.1)]
      rfl
    ·rw[if_neg (by simp only[Bool.and_eq_true,decide_eq_true_eq];omega),GM c1 (fun h=>by omega) (fun h=>by omega) (fun h=>by omega)]
     rfl
end Go.Proofs.YtfchbnahjcdiiaaGreatDoor
namespace Go.Proofs.YtfchbnahjcdiiaaGreatDoor
open Vc
set_option maxRecDepth 100000
def vN:Nat→List UInt8→List Int
 |0,_=>[]
 |n+1,s=>if s=[] then[] else((Lib.decodeL s).1:Int)::vN n (s.drop (Lib.decodeL s).2)
theorem aB0: ∀(n:Nat) (s:List UInt8),(vN n s).length≤n
 |0,_=>Nat.le_refl _
 |n+1,s=>by
  unfold vN
  split
  ·simp
  ·simp only[List.length_cons]
   have:=aB0 n (s.drop (Lib.decodeL s).2)
   omega
theorem aHz (s:List UInt8):xF ((Lib.decodeL s).1:Int):=by
 have k0:=(s.getD 0 0).toNat_lt
 rw[Lib.decodeL_N]
 rcases Lib.decodeN_shape s.length (s.getD 0 0).toNat (s.getD 1 0).toNat (s.getD 2 0).toNat (s.getD 3 0).toNat with⟨c,e⟩ |⟨c1,c2,c3,cv,e⟩ |⟨c1,c2,c3,c4,cv,cs,e⟩ |⟨c1,c2,c3,c4,c5,cv,cw,e⟩ |e
 all_goals (rw[e];unfold xF;dsimp only;omega)
theorem aB1: ∀(n:Nat) (s:List UInt8) (out:List Int),s.length≤n→out.length+s.length≤1000000→pR IA (s,out)=some (out++vN n s)
 |n,[],out,_,_=>by
  rw[w5 (r:=out) (by unfold IA;simp)]
  cases n<;>simp [vN]
 |0,b::t,_,h,_=>by simp at h
 |n+1,b::t,out,h,ho=>by
  have hne:(b::t)≠[]:=by simp
  have hle:=Lib.decodeL_le (b::t) hne
  have hw:=Lib.decodeL_width (b::t)
  have hstep:IA (b::t,out)=some (.inl ((b::t).drop (Lib.decodeL (b::t)).2,out++[((Lib.decodeL (b::t)).1:Int)])):=by
   unfold IA
   dsimp only
   rw[if_pos (by simp),aHy hne]
   simp only[Option.bind_some]
   rw[if_pos (by simp only[List.length_cons,List.length_nil] at ho⊢;omega),if_pos ⟨by omega,by omega,Int.le_refl _⟩,BY]
  rw[KJ hstep,aB1 n _ _ (by rw[List.length_drop];simp only[List.length_cons] at h hle⊢;omega) (by rw[List.length_drop,List.length_append];simp only[List.length_cons,List.length_nil] at ho hle⊢;omega)]
  rw[show vN (n+1) (b::t)=((Lib.decodeL (b::t)).1:Int)::vN n ((b::t).drop (Lib.decodeL (b::t)).2) by rw[vN,if_neg hne],List.append_assoc]
  rfl
def PL (s:List UInt8):List Int:=vN s.length s
theorem aHA (s:List UInt8) (hs:pU s):ET s=some (PL s):=by
 unfold pU at hs
 unfold ET
 rw[aB1 s.length s [] (Nat.le_refl _) (by simpa using hs)]
 rfl
theorem aB2: ∀(n:Nat) (s:List UInt8),∀x∈vN n s,xF x
 |0,_,_,h=>by cases h
 |n+1,s,x,h=>by
  unfold vN at h
  split at h
  ·cases h
  ·rcases List.mem_cons.1 h with h|h
   ·rw[h];exact aHz s
   ·exact aB2 n _ x h
def F1 (l:List Int):List UInt8:=(l.map Lib.encodeRune).flatten
theorem aB3 (n:Int):(Lib.encodeRune n).length≤4:=by
 unfold Lib.encodeRune
 rw[List.length_map]
 exact aBX n
theorem aB4 (l:List Int) (hsc: ∀x∈l,xF x) (hl:pU l): ∀(n j:Nat) (s:List UInt8),j+n=l.length→s.length+4*n≤10000000→pR (I1 l) (s,(j:Int))=some (s++F1 (l.drop j))
 |0,j,s,hj,_=>by
  have:j=l.length:=by omega
  subst this
  rw[w5 (r:=s) (by unfold I1;simp),List.drop_length]
  simp [F1]
 |n+1,j,s,hj,hs=>by
  have hlt:j<l.length:=by omega
  unfold pU at hl
  have hx:=hsc l[j] (List.getElem_mem hlt)
  have h4:=aB3 l[j]
  have hstep:I1 l (s,(j:Int))=some (.inl (s++Lib.encodeRune l[j],((j+1:Nat):Int))):=by
   unfold I1
   dsimp only
   rw[if_pos (sY hlt),if_pos (qJ hlt),wS (t:= .int .i64) hlt]
   have hb:=(DG l[j]).2 hx
   unfold u1 at hb
   rw[if_pos hb,if_pos (qJ hlt),a3S hx]
   simp only[Option.bind_some]
   rw[if_pos (by rw[List.length_append];omega),if_pos (rR (by omega))]
   rfl
  rw[KJ hstep,aB4 l hsc hl n (j+1) _ (by omega) (by rw[List.length_append];omega),List.drop_eq_getElem_cons hlt,List.append_assoc]
  rfl
theorem aHB (l:List Int) (hsc: ∀x∈l,xF x) (hl:pU l):G9 l=some (F1 l):=by
 have hl':=hl
 unfold pU at hl'
 unfold G9
 rw[show ((0:Int))=((0:Nat):Int) from rfl,aB4 l hsc hl l.length 0 [] (by omega) (by simp;omega)]
 rfl
theorem aB5: ∀(n:Nat) (s:List UInt8),s.length≤n→s.length≤(F1 (vN n s)).length∧(F1 (vN n s)=s↔Lib.validD s=true)
 |n,[],_=>by
  have:vN n []=[]:=by cases n<;>simp [vN]
  rw[this]
  simp [F1,Lib.validD_nil]
 |0,b::t,h=>by simp at h
 |n+1,b::t,h=>by
  have hne:(b::t)≠[]:=by simp
  have hle:=Lib.decodeL_le (b::t) hne
  have hw:=Lib.decodeL_width (b::t)
  obtain⟨ih1,ih2⟩:=aB5 n ((b::t).drop (Lib.decodeL (b::t)).2) (by rw[List.length_drop];simp only[List.length_cons] at h⊢;omega)
  have hr:F1 (vN (n+1) (b::t))=Lib.encodeRune ((Lib.decodeL (b::t)).1:Int)++F1 (vN n ((b::t).drop (Lib.decodeL (b::t)).2)):=by
   rw[vN,if_neg hne]
   rfl
  rw[hr,Lib.validD_step _ hne]
  rw[List.length_drop] at ih1
  by_cases hv:(Lib.decodeL (b::t)).1=65533∧(Lib.decodeL (b::t)).2=1
  ·rw[if_pos hv,hv.1]
   have e3:(Lib.encodeRune ((65533:Nat):Int)).length=3:=rfl
   rw[hv.2] at ih1⊢
   refine⟨by rw[List.length_append,e3];omega,fun he=> ?_,fun he=>by cases he⟩
   have:=congrArg List.length he
   rw[List.length_append,e3] at this
   omega
  ·have he:=Lib.encode_decode (b::t) hne hv
   rw[if_neg hv,he]
   refine⟨by rw[List.length_append,List.length_take];omega,?_⟩
   rw[←ih2]
   constructor
   ·intro h1
    exact List.append_cancel_left (h1.trans (List.take_append_drop _ _).symm)
   ·intro h1
    rw[h1,List.take_append_drop]
theorem aHC (s:List UInt8) (hs:pU s):BQ s=some (Lib.validD s):=by
 have hl:pU (PL s):=by
  have:=aB0 s.length s
  unfold pU PL at*
  omega
 unfold BQ
 rw[aHA s hs]
 simp only[Option.bind_some]
 rw[aHB (PL s) (fun x hx=>aB2 _ _ x hx) hl]
 simp only[Option.bind_some]
 congr 1
 have:=(aB5 s.length s (Nat.le_refl _)).2
 rw[Bool.eq_iff_iff,decide_eq_true_eq]
 exact this
def DI (s:List UInt8):Bool:=decide ((s.length:Int)≤4000)&&Lib.validD s
theorem aHD (s:List UInt8) (hs:pU s):IC s=some ()∧((decide ((s.length:Int)≤4000))&&val (BQ s))=DI s:=by
 unfold IC
 rw[aHC s hs]
 exact⟨if_pos (fun _=>rfl),rfl⟩
theorem aHE (s:List UInt8) (hs:pU s):I5 s=some ():=by
 unfold pU at hs
 unfold I5 KZ
 rw[if_pos (fun _=>by rw[if_pos (by omega)];rfl)]
end Go.Proofs.YtfchbnahjcdiiaaGreatDoor
namespace Go.Proofs.YtfchbnahjcdiiaaGreatDoor
open Vc
set_option maxRecDepth 100000
theorem f0 (l:List UInt8) (b:UInt8):rV l (b.toNat:Int)=Lib.indexByte l b:=by
 unfold rV
 rw[Int.toNat_natCast]
 congr 1
 simp
def sE (d:UInt8):List UInt8→Option Nat
 |[]=>none
 |[b]=>if b=d then some 0 else none
 |b::c::t=>if b=d then some 0 else if b=92 then(sE d t).map (· +2) else(sE d (c::t)).map (· +1)
def AX:Option Nat→Int
 |some k=>k
 |none=> -1
theorem a3Z {d:UInt8}:sE d []=none:=by unfold sE;rfl
theorem aB6 {d b:UInt8}{t:List UInt8}(h:b=d):sE d (b::t)=some 0:=by
 subst h
 cases t<;>(unfold sE;simp)
theorem aB7 {d b:UInt8}{t:List UInt8}(h:b≠d) (hb:b=92):sE d (b::t)=(sE d (t.drop 1)).map (· +2):=by
 cases t with
 |nil=>unfold sE;rw[if_neg h];simp [sE]
 |cons c t=>rw[sE,if_neg h,if_pos hb];rfl
theorem aB8 {d b:UInt8}{t:List UInt8}(h:b≠d) (hb:b≠92):sE d (b::t)=(sE d t).map (· +1):=by
 cases t with
 |nil=>unfold sE;rw[if_neg h];simp [sE]
 |cons c t=>rw[sE,if_neg h,if_neg hb]
theorem LQ {d:UInt8}: ∀(n:Nat) (l:List UInt8) (k:Nat),l.length≤n→sE d l=some k→k<l.length
 |_,[],_,_,h=>by rw[a3Z] at h;cases h
 |0,_::_,_,hn,_=>by simp at hn
 |n+1,b::t,k,hn,h=>by
  simp only[List.length_cons] at hn⊢
  by_cases h1:b=d
  ·rw[aB6 h1] at h;cases h;omega
  ·by_cases h2:b=92
   ·rw[aB7 h1 h2] at h
    cases h3:sE d (t.drop 1) with
    |none=>rw[h3] at h;cases h
    |some j=>
     rw[h3] at h
     obtain rfl:j+2=k:=Option.some.inj h
     have:=LQ n (t.drop 1) j (by rw[List.length_drop];omega) h3
     rw[List.length_drop] at this
     omega
   ·rw[aB8 h1 h2] at h
    cases h3:sE d t with
    |none=>rw[h3] at h;cases h
    |some j=>
     rw[h3] at h
     obtain rfl:j+1=k:=Option.some.inj h
     have:=LQ n t j (by omega) h3
     omega
theorem PM {a b:UInt8}:((a.toNat:Int)=(b.toNat:Int))↔a=b:=by
 rw[Int.ofNat_inj]
 exact UInt8.toNat_inj
theorem a30 (n:Int) (hn:n≠4) (s:List UInt8) (d:UInt8) (hs:pU s): ∀(k i:Nat),s.length+1≤i+k→pR (GG n s (d.toNat:Int)) (i:Int)=some (sL (fun k=> .inr ((i+k:Nat):Int)) (.inl ()) (sE d (s.drop i)))
 |0,i,h=>by
  rw[List.drop_eq_nil_of_le (by omega),a3Z,w5 (r:= .inl ()) (by unfold GG;rw[if_neg (by simp;omega)])]
  rfl
 |k+1,i,h=>by
  by_cases hlt:i<s.length
  ·have hs':=hs
   unfold pU at hs'
   have hstep:GG n s (d.toNat:Int) (i:Int)=if s[i]=d then some (.inr (.inr (i:Int))) else if s[i]=92 then some (.inl ((i+2:Nat):Int)) else some (.inl ((i+1:Nat):Int)):=by
    unfold GG
    rw[if_pos (sY hlt),if_pos (qJ hlt),vI hlt]
    by_cases h1:s[i]=d
    ·rw[if_pos (by simp [h1]),if_pos h1]
    ·rw[if_neg (by simpa[PM] using h1),if_neg h1,if_pos (fun _=>qJ hlt)]
     have h92:((92:Int))=((92:UInt8).toNat:Int):=rfl
     by_cases h2:s[i]=92
     ·rw[if_pos (by rw[h2];simp [hn]),if_pos h2,if_pos (rR (by omega)),if_pos (by unfold oT;omega)]
      congr 3
     ·rw[if_neg (fun h=>by
       simp only[Bool.and_eq_true,decide_eq_true_eq] at h
       exact h2 (PM.1 (h.2.trans h92))),if_neg h2,if_pos (rR (by omega))]
      rfl
   rw[uW,hstep,List.drop_eq_getElem_cons hlt]
   by_cases h1:s[i]=d
   ·rw[if_pos h1,aB6 h1];rfl
   ·rw[if_neg h1]
    by_cases h2:s[i]=92
    ·rw[if_pos h2,aB7 h1 h2]
     show pR _ ((i+2:Nat):Int)=_
     rw[a30 n hn s d hs k (i+2) (by omega),List.drop_drop]
     cases sE d (s.drop (i+2)) with
     |none=>rfl
     |some j=>
      show some (Sum.inr ((i+2+j:Nat):Int))=some (Sum.inr ((i+(j+2):Nat):Int))
      rw[show i+2+j=i+(j+2) by omega]
    ·rw[if_neg h2,aB8 h1 h2]
     show pR _ ((i+1:Nat):Int)=_
     rw[a30 n hn s d hs k (i+1) (by omega)]
     cases sE d (s.drop (i+1)) with
     |none=>rfl
     |some j=>
      show some (Sum.inr ((i+1+j:Nat):Int))=some (Sum.inr ((i+(j+1):Nat):Int))
      rw[show i+1+j=i+(j+1) by omega]
  ·rw[List.drop_eq_nil_of_le (by omega),a3Z,w5 (r:= .inl ()) (by unfold GG;rw[if_neg (by simp;omega)])]
   rfl
theorem aB9 {n:Int}(h1:1≤n) (h3:n≤3) (s:List UInt8) (d:UInt8) (hs:pU s):D3 n s (d.toNat:Int)=some (AX (sE d s)):=by
 unfold D3
 have h:=a30 n (by omega) s d hs (s.length+1) 0 (by omega)
 rw[if_neg (by simp;omega),show ((0:Int))=((0:Nat):Int) from rfl,h,List.drop_zero]
 cases sE d s with
 |none=>rfl
 |some k=>
  show some (((0+k:Nat)):Int)=some (k:Int)
  rw[Nat.zero_add]
theorem aHF (n:Int) (s:List UInt8) (c:Int):GF n s c=D3 n s c:=by
 unfold GF D3
 rfl
def xU (c base:Int):Int:=
 let n:=if 48≤c∧c≤57 then c-48 else if 97≤c∧c≤102 then c-87 else if 65≤c∧c≤70 then c-55 else-1
 if base≤n then-1 else n
theorem aHG {c:Int}(base:Int) (h0:0≤c) (h1:c≤255):GA c base=some (xU c base):=by
 unfold GA xU
 by_cases a:48≤c∧c≤57
 ·rw[if_pos (by simpa using a),if_pos a,show IntKind.i64.wrap (IntKind.u8.wrap (c-48))=c-48 by rw[IntKind.wrap_u8,IntKind.wrap_i64];omega]
  simp only[qD,Option.bind_some,decide_eq_true_eq]
  split<;>rfl
 ·rw[if_neg (by simpa using a),if_neg a]
  by_cases b:97≤c∧c≤102
  ·rw[if_pos (by simpa using b),if_pos b,show IntKind.i64.wrap (IntKind.u8.wrap (c-97))=c-97 by rw[IntKind.wrap_u8,IntKind.wrap_i64];omega,if_pos (by unfold oT;omega),show c-97+10=c-87 by omega]
   simp only[qD,Option.bind_some,decide_eq_true_eq]
   split<;>rfl
  ·rw[if_neg (by simpa using b),if_neg b]
   by_cases d:65≤c∧c≤70
   ·rw[if_pos (by simpa using d),if_pos d,show IntKind.i64.wrap (IntKind.u8.wrap (c-65))=c-65 by rw[IntKind.wrap_u8,IntKind.wrap_i64];omega,if_pos (by unfold oT;omega),show c-65+10=c-55 by omega]
    simp only[qD,Option.bind_some,decide_eq_true_eq]
    split<;>rfl
   ·rw[if_neg (by simpa using d),if_neg d]
    simp only[qD,Option.bind_some,decide_eq_true_eq]
    split<;>rfl
def PN:List UInt8:=[48,49,50,51,52,53,54,55,56,57,97,98,99,100,101,102]
theorem aHH: ∀n:Fin 256,Lib.indexByte PN (UInt8.ofNat n)=if 48≤(n.val:Int)∧(n.val:Int)≤57 then(n.val:Int)-48 else if 97≤(n.val:Int)∧(n.val:Int)≤102 then(n.val:Int)-87 else-1:=by decide
theorem aHI (b:UInt8):Lib.indexByte PN b=if 48≤(b.toNat:Int)∧(b.toNat:Int)≤57 then(b.toNat:Int)-48 else if 97≤(b.toNat:Int)∧(b.toNat:Int)≤102 then(b.toNat:Int)-87 else-1:=by
 have:=aHH ⟨b.toNat,b.toNat_lt⟩
 simpa using this
def vO (base:Int):Int→List UInt8→Option Int
 |acc,[]=>some acc
 |acc,b::t=>if xU b.toNat base<0 then none else vO base (base*acc+xU b.toNat base) t
theorem aCa {c base:Int}(hb:0<base): -1≤xU c base∧xU c base<base:=by
 unfold xU
 dsimp only
 repeat' split
 all_goals omega
theorem aCb (s:List UInt8) (base:Int) (hb:0<base) (hb16:base≤16) (hs:s.length≤8): ∀(k j:Nat) (acc:Int),j+k=s.length→0≤acc→acc<16^j→
  pR (I9 s base) (acc,(j:Int))=some (match vO base acc (s.drop j) with|some n=> .inl n|none=> .inr (-1))
 |0,j,acc,hj,_,_=>by
  have:j=s.length:=by omega
  subst this
  rw[List.drop_length,w5 (r:= .inl acc) (by unfold I9;simp)]
  rfl
 |k+1,j,acc,hj,h0,h1=>by
  have hlt:j<s.length:=by omega
  have hc:=s[j].toNat_lt
  have hd:=aCa (c:=(s[j].toNat:Int)) hb
  have hp:(16:Int) ^j≤16^8:=by
   have:(16:Nat) ^j≤16^8:=Nat.pow_le_pow_right (by decide) (by omega)
   exact_mod_cast this
  have h8:(16:Int) ^8=4294967296:=by decide
  have hm:base*acc≤16*acc:=Int.mul_le_mul_of_nonneg_right hb16 h0
  have hm0:0≤base*acc:=Int.mul_nonneg (by omega) h0
  have hstep:I9 s base (acc,(j:Int))=if xU s[j].toNat base<0 then some (.inr (.inr (-1))) else some (.inl (base*acc+xU s[j].toNat base,((j+1:Nat):Int))):=by
   unfold I9
   dsimp only
   rw[if_pos (sY hlt),if_pos (qJ hlt),vI hlt,aHG base (by omega) (by omega)]
   simp only[Option.bind_some,decide_eq_true_eq]
   by_cases hn:xU s[j].toNat base<0
   ·rw[if_pos hn,if_pos hn]
   ·rw[if_neg hn,if_neg hn,if_pos (by unfold oT;omega),if_pos (by unfold oT;omega),if_pos (rR (by omega))]
    rfl
  rw[uW,hstep,List.drop_eq_getElem_cons hlt,vO]
  by_cases hn:xU s[j].toNat base<0
  ·rw[if_pos hn,if_pos hn];rfl
  ·rw[if_neg hn,if_neg hn]
   show pR _ (_,((j+1:Nat):Int))=_
   exact aCb s base hb hb16 hs k (j+1) _ (by omega) (by omega) (by rw[Int.pow_succ];omega)
theorem aCc (s:List UInt8) (base:Int) (hb:0<base) (hb16:base≤16) (hs:s.length≤8):BP s base=some (if s=[] then-1 else(vO base 0 s).getD (-1)):=by
 unfold BP
 rw[show ((0:Int),(0:Int))=((0:Int),((0:Nat):Int)) from rfl,aCb s base hb hb16 hs s.length 0 0 (by omega) (by omega) (by decide),List.drop_zero]
 cases h:vO base 0 s with
 |none=>
  have:s≠[]:=by intro hn;subst hn;simp [vO] at h
  rw[if_neg this];rfl
 |some n=>
  show (if decide (s=[])=true then _ else _)=_
  by_cases he:s=[]
  ·rw[if_pos (by simpa using he),if_pos he]
  ·rw[if_neg (by simpa using he),if_neg he];rfl
theorem aCd (s:List UInt8) (base:Int) (hb:0<base) (hb16:base≤16) (hs:s.length≤8): ∀(k j:Nat) (acc:Int),j+k=s.length→0≤acc→acc<16^j→
  pR (I0 s base) (acc,(j:Int))=some (match vO base acc (s.drop j) with|some n=> .inl n|none=> .inr (0,false))
 |0,j,acc,hj,_,_=>by
  have:j=s.length:=by omega
  subst this
  rw[List.drop_length,w5 (r:= .inl acc) (by unfold I0;simp)]
  rfl
 |k+1,j,acc,hj,h0,h1=>by
  have hlt:j<s.length:=by omega
  have hc:=s[j].toNat_lt
  have hd:=aCa (c:=(s[j].toNat:Int)) hb
  have hp:(16:Int) ^j≤16^8:=by
   have:(16:Nat) ^j≤16^8:=Nat.pow_le_pow_right (by decide) (by omega)
   exact_mod_cast this
  have h8:(16:Int) ^8=4294967296:=by decide
  have hm:acc*base≤acc*16:=Int.mul_le_mul_of_nonneg_left hb16 h0
  have hm0:0≤acc*base:=Int.mul_nonneg h0 (by omega)
  have hcm:acc*base=base*acc:=Int.mul_comm _ _
  have hstep:I0 s base (acc,(j:Int))=if xU s[j].toNat base<0 then some (.inr (.inr (0,false))) else some (.inl (base*acc+xU s[j].toNat base,((j+1:Nat):Int))):=by
   unfold I0
   dsimp only
   rw[if_pos (sY hlt),if_pos (qJ hlt),if_pos (qJ hlt),if_pos (fun _=>qJ hlt),vI hlt,if_pos (qJ hlt),f0]
   have hidx:=aHI s[j]
   have hval:(if ((decide ((65:Int)≤(s[j].toNat:Int)))&&(decide ((s[j].toNat:Int)≤(70:Int))))=true then(if oT ((IntKind.wrap .i64 (IntKind.wrap .u8 ((s[j].toNat:Int)- (65:Int))))+(10:Int)) then some (((IntKind.wrap .i64 (IntKind.wrap .u8 ((s[j].toNat:Int)- (65:Int))))+(10:Int))) else none) else some (Lib.indexByte PN s[j]))=some (if 48≤(s[j].toNat:Int)∧(s[j].toNat:Int)≤57 then(s[j].toNat:Int)-48 else if 97≤(s[j].toNat:Int)∧(s[j].toNat:Int)≤102 then(s[j].toNat:Int)-87 else if 65≤(s[j].toNat:Int)∧(s[j].toNat:Int)≤70 then(s[j].toNat:Int)-55 else-1):=by
    by_cases c:65≤(s[j].toNat:Int)∧(s[j].toNat:Int)≤70
    ·rw[if_pos (by simpa using c),show IntKind.i64.wrap (IntKind.u8.wrap ((s[j].toNat:Int)-65))=(s[j].toNat:Int)-65 by rw[IntKind.wrap_u8,IntKind.wrap_i64];omega,if_pos (by unfold oT;omega),if_neg (by omega),if_neg (by omega),if_pos c]
     congr 1;omega
    ·rw[if_neg (by simpa using c),hidx,if_neg c]
   unfold qD
   rw[show ([48,49,50,51,52,53,54,55,56,57,97,98,99,100,101,102]:List UInt8)=PN from rfl,hval]
   simp only[Option.bind_some]
   unfold xU
   dsimp only
   generalize (if 48≤(s[j].toNat:Int)∧(s[j].toNat:Int)≤57 then(s[j].toNat:Int)-48 else if 97≤(s[j].toNat:Int)∧(s[j].toNat:Int)≤102 then(s[j].toNat:Int)-87 else if 65≤(s[j].toNat:Int)∧(s[j].toNat:Int)≤70 then(s[j].toNat:Int)-55 else-1)=D
   by_cases hn:D<0∨base≤D
   ·rw[if_pos (by simpa using hn)]
    by_cases hbD:base≤D
    ·rw[if_pos hbD,if_pos (by decide)]
    ·rw[if_neg hbD,if_pos (by omega)]
   ·rw[if_neg (by simpa using hn)]
    have hbD: ¬base≤D:=fun h=>hn (.inr h)
    have hD0: ¬D<0:=fun h=>hn (.inl h)
    rw[if_neg hbD,if_neg hD0,if_pos (by unfold oT;omega),if_pos (by unfold oT;omega),if_pos (rR (by omega)),hcm]
    rfl
  rw[uW,hstep,List.drop_eq_getElem_cons hlt,vO]
  by_cases hn:xU s[j].toNat base<0
  ·rw[if_pos hn,if_pos hn];rfl
  ·rw[if_neg hn,if_neg hn]
   show pR _ (_,((j+1:Nat):Int))=_
   exact aCd s base hb hb16 hs k (j+1) _ (by omega) (by omega) (by rw[Int.pow_succ];omega)
theorem aCe (s:List UInt8) (base:Int) (hb:0<base) (hb16:base≤16) (hs:s.length≤8):BN s base=some (match vO base 0 s with|some n=>(n,!decide (s=[])) |none=>(0,false)):=by
 unfold BN
 rw[show ((0:Int),(0:Int))=((0:Int),((0:Nat):Int)) from rfl,aCd s base hb hb16 hs s.length 0 0 (by omega) (by omega) (by decide),List.drop_zero]
 cases h:vO base 0 s with
 |none=>rfl
 |some n=>rfl
theorem LR {base:Int}(hb:0<base): ∀{s:List UInt8}{acc n:Int},0≤acc→vO base acc s=some n→0≤n
 |[],acc,n,h0,h=>by cases h;exact h0
 |b::t,acc,n,h0,h=>by
  rw[vO] at h
  split at h
  ·cases h
  ·exact LR hb (by have:=Int.mul_nonneg (Int.le_of_lt hb) h0;omega) h
end Go.Proofs.YtfchbnahjcdiiaaGreatDoor
namespace Go.Proofs.YtfchbnahjcdiiaaGreatDoor
open Vc
set_option maxRecDepth 100000
theorem aHJ (b:UInt8) (l:List UInt8) (hl:pU l):CT (b.toNat:Int) l=some (l.contains b):=by
 unfold pU at hl
 have h:=BJ (f:=L5 (b.toNat:Int) l) (l:=l) (fun x=>decide (x=b)) (fun _=>true) (fun i h=>by
  unfold L5
  rw[if_pos (sY h),if_pos (qJ h),vI h,if_pos (rR (by omega))]
  simp only[PM,decide_eq_true_eq]) (by
  unfold L5
  rw[if_neg (xT _)])
 unfold CT
 rw[h,DF,a3P]
 congr 1
 rw[Bool.eq_iff_iff]
 simp
def GN:List UInt8:=[92,34,61,58,35,33,123,125,32]
def BZ (l:List UInt8) (k:Nat) (ok:Int→Bool) (f:Int→List UInt8):List UInt8×Nat:=
 match vO 16 0 l with
 |some n=>if ok n=true then(f n,k) else([],0)
 |none=>([],0)
def C0 (l:List UInt8):List UInt8×Nat:=
 match l with
 |_::c::t=>
  if c=110 then([10],2) else if c=114 then([13],2) else if c=116 then([9],2)
  else if GN.contains c=true then([c],2)
  else if c=120∧2≤t.length then BZ (t.take 2) 4 (fun n=>decide (n≤127)) (fun n=>rA [n])
  else if c=117∧4≤t.length then BZ (t.take 4) 6 u1 Lib.encodeRune
  else([],0)
 |_=>([],0)
theorem sQ {a:UInt8}{n:Int}(b:UInt8) (hb:n=(b.toNat:Int)):decide ((a.toNat:Int)=n)=decide (a=b):=by
 rw[hb]
 simp only[PM]
theorem aCf (a c:UInt8) (t:List UInt8):oZ (a::c::t) 2 4=t.take 2:=rfl
theorem aCg (a c:UInt8) (t:List UInt8):oZ (a::c::t) 2 6=t.take 4:=rfl
theorem aCh (a c:UInt8) (t:List UInt8):oZ (a::c::t) 1 2=[c]:=rfl
theorem aHK (a:UInt8) (t:List UInt8):D6 (a::t)=some ((C0 (a::t)).1,((C0 (a::t)).2:Int)):=by
 cases t with
 |nil=>unfold D6;rw[if_pos (by simp)];rfl
 |cons c t=>
  have hy:pA (a::c::t) (1:Int)=(c.toNat:Int):=vI (i:=1) (by simp)
  unfold D6
  rw[if_neg (by simp;omega),if_pos (⟨by decide,by simp;omega⟩),hy,sQ (n:=110) 110 rfl,sQ (n:=114) 114 rfl,sQ (n:=116) 116 rfl,sQ (n:=120) 120 rfl,sQ (n:=117) 117 rfl,aHJ c _ (by unfold pU;decide),aCf,aCg,aCh]
  show _=some ((if c=110 then(([10],2):List UInt8×Nat) else _).1,((if c=110 then(([10],2):List UInt8×Nat) else _).2:Int))
  by_cases h1:c=110
  ·rw[if_pos (by simpa using h1),if_pos h1];rfl
  rw[if_neg (by simpa using h1),if_neg h1]
  by_cases h2:c=114
  ·rw[if_pos (by simpa using h2),if_pos h2];rfl
  rw[if_neg (by simpa using h2),if_neg h2]
  by_cases h3:c=116
  ·rw[if_pos (by simpa using h3),if_pos h3];rfl
  rw[if_neg (by simpa using h3),if_neg h3,Option.bind_some]
  show (if GN.contains c=true then _ else _)=_
  by_cases h4:GN.contains c=true
  ·rw[if_pos h4,if_pos h4,if_pos ⟨by decide,by decide,by simp;omega⟩];rfl
  rw[if_neg h4,if_neg h4]
  have hlen:((a::c::t).length:Int)=(t.length:Int)+2:=by simp;omega
  rw[hlen]
  by_cases h5:c=120∧2≤t.length
  ·rw[if_pos (by simp [h5.1];omega),if_pos h5,if_pos ⟨by decide,by decide,by omega⟩,aCc _ 16 (by decide) (by decide) (by rw[List.length_take];omega),if_neg (by intro h;have:=congrArg List.length h;rw[List.length_take,List.length_nil] at this;omega),Option.bind_some]
   unfold BZ
   cases hn:vO 16 0 (t.take 2) with
   |none=>rfl
   |some n=>
    have h0:=LR (by decide) (Int.le_refl 0) hn
    simp only[Option.getD_some]
    by_cases h7:n≤127
    ·rw[if_pos (by simp;omega),if_pos (by simpa using h7),IntKind.wrap_u8,show n%256=n by omega];rfl
    ·rw[if_neg (by simp;omega),if_neg (by simpa using h7)];rfl
  rw[if_neg (by simp only[Bool.and_eq_true,decide_eq_true_eq];intro h;exact h5 ⟨h.1,by omega⟩),if_neg h5]
  by_cases h6:c=117∧4≤t.length
  ·rw[if_pos (by simp [h6.1];omega),if_pos h6,if_pos ⟨by decide,by decide,by omega⟩,aCc _ 16 (by decide) (by decide) (by rw[List.length_take];omega),if_neg (by intro h;have:=congrArg List.length h;rw[List.length_take,List.length_nil] at this;omega),Option.bind_some]
   unfold BZ
   cases hn:vO 16 0 (t.take 4) with
   |none=>rfl
   |some n=>
    have h0:=LR (by decide) (Int.le_refl 0) hn
    simp only[Option.getD_some]
    show (if (decide (0≤n)&&u1 n)=true then _ else _)=_
    by_cases h7:u1 n=true
    ·rw[if_pos (by simp [h7,h0]),if_pos h7,a3S ((DG n).1 h7)];rfl
    ·rw[if_neg (by simp [h7]),if_neg h7];rfl
  rw[if_neg (by simp only[Bool.and_eq_true,decide_eq_true_eq];intro h;exact h6 ⟨h.1,by omega⟩),if_neg h6]
  rfl
theorem aHL (a:UInt8) (t:List UInt8):D8 (a::t)=some ((C0 (a::t)).1,((C0 (a::t)).2:Int)):=by
 cases t with
 |nil=>unfold D8;rw[if_pos (by simp)];rfl
 |cons c t=>
  have hy:pA (a::c::t) (1:Int)=(c.toNat:Int):=vI (i:=1) (by simp)
  have hlen:((a::c::t).length:Int)=(t.length:Int)+2:=by simp;omega
  unfold D8
  rw[if_neg (by simp;omega),if_pos (⟨by decide,by simp;omega⟩),hy,sQ (n:=110) 110 rfl,sQ (n:=114) 114 rfl,sQ (n:=116) 116 rfl,sQ (n:=120) 120 rfl,sQ (n:=117) 117 rfl,f0,aCf,aCg,aCh,hlen,←Lib.contains_iff_indexByte]
  show _=some ((if c=110 then(([10],2):List UInt8×Nat) else _).1,((if c=110 then(([10],2):List UInt8×Nat) else _).2:Int))
  by_cases h1:c=110
  ·rw[if_pos (by simpa using h1),if_pos h1];rfl
  rw[if_neg (by simpa using h1),if_neg h1]
  by_cases h2:c=114
  ·rw[if_pos (by simpa using h2),if_pos h2];rfl
  rw[if_neg (by simpa using h2),if_neg h2]
  by_cases h3:c=116
  ·rw[if_pos (by simpa using h3),if_pos h3];rfl
  rw[if_neg (by simpa using h3),if_neg h3]
  by_cases hx:c=120
  ·subst hx
   rw[if_pos (show decide ((120:UInt8)=120)=true from rfl),if_neg (show¬GN.contains 120=true by decide)]
   by_cases h5:2≤t.length
   ·rw[if_pos (by simp;omega),if_pos ⟨by decide,by decide,by omega⟩,if_pos (show _∧_ from⟨rfl,h5⟩),aCe _ 16 (by decide) (by decide) (by rw[List.length_take];omega),Option.bind_some]
    unfold BZ
    cases hn:vO 16 0 (t.take 2) with
    |none=>rfl
    |some n=>
     have h0:=LR (by decide) (Int.le_refl 0) hn
     have hne:t.take 2≠[]:=by intro h;have:=congrArg List.length h;rw[List.length_take,List.length_nil] at this;omega
     simp only[hne,decide_false,Bool.not_false,Bool.true_and]
     by_cases h7:n≤127
     ·rw[if_pos (by simpa using h7),if_pos (by simpa using h7),IntKind.wrap_u8,show n%256=n by omega];rfl
     ·rw[if_neg (by simpa using h7),if_neg (by simpa using h7)];rfl
   ·rw[if_neg (by simp;omega),if_neg (fun h=>h5 h.2),if_neg (show¬((120:UInt8)=117∧4≤t.length) from fun h=>by cases h.1)]
    rfl
  rw[if_neg (by simpa using hx)]
  by_cases hu:c=117
  ·subst hu
   rw[if_pos (show decide ((117:UInt8)=117)=true from rfl),if_neg (show¬GN.contains 117=true by decide),if_neg (show¬((117:UInt8)=120∧2≤t.length) from fun h=>by cases h.1)]
   by_cases h5:4≤t.length
   ·rw[if_pos (by simp;omega),if_pos ⟨by decide,by decide,by omega⟩,if_pos (show _∧_ from⟨rfl,h5⟩),aCe _ 16 (by decide) (by decide) (by rw[List.length_take];omega),Option.bind_some]
    unfold BZ
    cases hn:vO 16 0 (t.take 4) with
    |none=>rfl
    |some n=>
     have h0:=LR (by decide) (Int.le_refl 0) hn
     have hne:t.take 4≠[]:=by intro h;have:=congrArg List.length h;rw[List.length_take,List.length_nil] at this;omega
     simp only[hne,decide_false,Bool.not_false]
     rw[if_pos trivial,aHq,Option.bind_some]
     have hb:u1 n=(decide (n≤1114111)&&(decide (n<55296)||decide (57343<n))):=by
      unfold u1
      rw[show decide ((0:Int)≤n)=true by simpa using h0,Bool.true_and]
     rw[←hb]
     by_cases h7:u1 n=true
     ·rw[if_pos h7,if_pos h7,if_pos h7];rfl
     ·rw[if_neg h7,if_neg h7];rfl
   ·rw[if_neg (by simp;omega),if_neg (fun h=>h5 h.2)]
    rfl
  rw[if_neg (by simpa using hu)]
  show (if GN.contains c=true then _ else _)=_
  by_cases h4:GN.contains c=true
  ·rw[if_pos h4,if_pos h4,if_pos ⟨by decide,by decide,by omega⟩];rfl
  ·rw[if_neg h4,if_neg h4,if_neg (fun h=>hx h.1),if_neg (fun h=>hu h.1)]
   rfl
end Go.Proofs.YtfchbnahjcdiiaaGreatDoor
namespace Go.Proofs.YtfchbnahjcdiiaaGreatDoor
open Vc
set_option maxRecDepth 100000
def yF (n:Int) (b:UInt8):Bool:=decide (b=10)||((decide (n=2)||decide (n=3))&&decide (b=34))
def s9 (n:Int):List UInt8→List UInt8×Nat
 |[]=>([],0)
 |b::t=>if b=92 then C0 (b::t) else if yF n b=true then([b],0) else([b],1)
theorem aCi {l:List UInt8}{k:Nat}{ok:Int→Bool}{f:Int→List UInt8}(hf: ∀n,(f n).length≤4):(BZ l k ok f).1.length≤4∧((BZ l k ok f).2=0∨(BZ l k ok f).2=k):=by
 unfold BZ
 cases vO 16 0 l with
 |none=>exact⟨by simp,.inl rfl⟩
 |some n=>
  dsimp only
  split
  ·exact⟨hf n,.inr rfl⟩
  ·exact⟨by simp,.inl rfl⟩
theorem aHM (l:List UInt8):(C0 l).1.length≤4∧(C0 l).2≤l.length:=by
 unfold C0
 split
 ·rename_i a c t
  have h1:=aCi (l:=t.take 2) (k:=4) (ok:=fun n=>decide (n≤127)) (f:=fun n=>rA [n]) (fun n=>by simp [rA])
  have h2:=aCi (l:=t.take 4) (k:=6) (ok:=u1) (f:=Lib.encodeRune) aB3
  repeat' split
  all_goals first
   |exact⟨by simp,by simp⟩
   |(rename_i h;exact⟨h1.1,by rcases h1.2 with e|e<;>rw[e]<;>simp<;>omega⟩)
   |(rename_i h;exact⟨h2.1,by rcases h2.2 with e|e<;>rw[e]<;>simp<;>omega⟩)
 ·exact⟨by simp,by simp⟩
theorem a32 {n:Int}{b:UInt8}{t:List UInt8}(h:b=92):s9 n (b::t)=C0 (b::t):=if_pos h
theorem PO {n:Int}{b:UInt8}{t:List UInt8}(h:b≠92) (hb:yF n b=true):s9 n (b::t)=([b],0):=(if_neg h).trans (if_pos hb)
theorem a33 {n:Int}{b:UInt8}{t:List UInt8}(h:b≠92) (hb: ¬yF n b=true):s9 n (b::t)=([b],1):=(if_neg h).trans (if_neg hb)
theorem LS (n:Int) (l:List UInt8):(s9 n l).1.length≤4∧(s9 n l).2≤l.length:=by
 cases l with
 |nil=>exact⟨by simp [s9],by simp [s9]⟩
 |cons b t=>
  by_cases h:b=92
  ·rw[a32 h];exact aHM _
  ·by_cases hb:yF n b=true
   ·rw[PO h hb];exact⟨by simp,by simp⟩
   ·rw[a33 h hb];exact⟨by simp,by simp⟩
def uM (n:Int):Nat→List UInt8→List UInt8⊕Nat
 |0,_=> .inl []
 |_+1,[]=> .inl []
 |k+1,b::t=>if (s9 n (b::t)).2=0 then .inr 0 else match uM n k ((b::t).drop (s9 n (b::t)).2) with
  | .inl r=> .inl ((s9 n (b::t)).1++r)
  | .inr e=> .inr ((s9 n (b::t)).2+e)
def zW (n:Int) (s:List UInt8):List UInt8×Int×Int:=match uM n s.length s with
 | .inl r=>(r,0,0)
 | .inr e=>([],e,3)
theorem aCj (a b:List UInt8):s3 (a++b)=s3 a++s3 b:=by simp [s3]
theorem aCk (a:List UInt8):rA (s3 a)=a:=by
 unfold rA s3
 rw[List.map_map]
 conv=>rhs;rw[←List.map_id a]
 congr 1
 funext b
 simp
theorem aCl {s:List UInt8}{i:Nat}(h:i<s.length):oZ s (i:Int) ((i:Int)+1)=[s[i]]:=by
 unfold oZ
 rw[Int.toNat_natCast,show ((i:Int)+1).toNat-i=1 by omega,List.drop_eq_getElem_cons h]
 rfl
theorem aHN {n:Int}(h1:1≤n) (h3:n≤3) {s:List UInt8}(hs:pU s) {x:List Int}{i:Nat}(hi:i<s.length) (hx:x.length≤10000000):
  IE n s (x,(i:Int))=if (s9 n (s.drop i)).2=0 then some (.inr (.inr ([],(i:Int),3))) else some (.inl (x++s3 (s9 n (s.drop i)).1,((i+(s9 n (s.drop i)).2:Nat):Int))):=by
 have hs':=hs
 unfold pU at hs'
 have hn4:decide (n=4)=false:=by simp;omega
 have hp:=LS n (s.drop i)
 rw[List.length_drop] at hp
 unfold IE
 dsimp only
 rw[if_pos (sY hi),if_pos (qJ hi),if_pos (rR (by omega)),if_pos ⟨by omega,by omega,by omega⟩,vI hi,aCl hi,BY,sQ (n:=92) 92 rfl,sQ (n:=38) 38 rfl,sQ (n:=10) 10 rfl,sQ (n:=34) 34 rfl,hn4]
 have hb: ∀v:List UInt8×Nat,v.1.length≤4→v.2≤s.length-i→
   ((if decide ((v.2:Int)=0)=true then(some (.inr (.inr (([]:List UInt8),(i:Int),(3:Int)))):Option ((List Int×Int)⊕(List Int⊕(List UInt8×Int×Int)))) else if x.length+v.1.length≤140737488355328 then if oT ((i:Int)+(v.2:Int)) then some (.inl ((x++s3 v.1),((i:Int)+(v.2:Int)))) else none else none)=if v.2=0 then some (.inr (.inr ([],(i:Int),3))) else some (.inl (x++s3 v.1,((i+v.2:Nat):Int)))):=fun v hv1 hv2=>by
  by_cases h0:v.2=0
  ·rw[if_pos (by simp [h0]),if_pos h0]
  ·rw[if_neg (by simpa using h0),if_neg h0,if_pos (by omega),if_pos (by unfold oT;omega)]
   rfl
 rw[List.drop_eq_getElem_cons hi] at hp⊢
 simp only[Bool.not_false,Bool.true_and,Bool.false_and,Bool.false_eq_true,if_false]
 by_cases c1:s[i]=92
 ·rw[a32 c1] at hp⊢
  rw[if_pos (by simpa using c1),if_pos ⟨by omega,by omega,Int.le_refl _⟩,aHK]
  unfold qD
  simp only[Option.bind_some]
  exact hb _ hp.1 hp.2
 ·rw[if_neg (by simpa using c1)]
  by_cases c2:s[i]=10
  ·rw[if_pos (by simpa using c2),if_pos (by simpa using c2),PO c1 (show yF n s[i]=true by simp [yF,c2])]
   unfold qD
   simp only[Option.bind_some]
   exact hb ([s[i]],0) (by simp) (by simp)
  ·rw[if_neg (by simpa using c2)]
   by_cases c3:((decide (n=2)||decide (n=3))&&decide (s[i]=34))=true
   ·rw[if_pos c3,if_pos c3,PO c1 (show yF n s[i]=true by unfold yF;rw[c3];simp)]
    unfold qD
    simp only[Option.bind_some]
    exact hb ([s[i]],0) (by simp) (by simp)
   ·have hbad:yF n s[i]=false:=by
     have c3':((decide (n=2)||decide (n=3))&&decide (s[i]=34))=false:=by simpa using c3
     unfold yF
     rw[c3'];simp [c2]
    have hbad': ¬yF n s[i]=true:=by simp [hbad]
    rw[a33 c1 hbad'] at hp⊢
    rw[if_neg c3,if_pos (fun h=>by simp at h)]
    unfold qD
    simp only[Option.bind_some]
    exact hb ([s[i]],1) (by simp) hp.2
theorem aHO {n:Int}(h1:1≤n) (h3:n≤3) (b:UInt8):G6 n (b.toNat:Int)=yF n b:=by
 unfold G6 yF q6
 rw[sQ (n:=10) 10 rfl,sQ (n:=34) 34 rfl]
 by_cases c1:n=1
 ·subst c1;simp
 ·have h23:n=2∨n=3:=by omega
  rcases h23 with rfl|rfl<;>simp
theorem aHP {x:List Int}{c:Int}(hx:x.length≤10000000):G7 (x,()) c=some ():=by
 unfold G7
 exact if_pos (by simp only[List.length_singleton,Nat.mul_one];omega)
theorem aHQ {x:List Int}{t:List UInt8}(hx:x.length≤10000000) (ht:t.length≤1000000):G2 (x,()) t=some ():=by
 unfold G2
 exact if_pos (by dsimp only;omega)
theorem aHR {n:Int}(h1:1≤n) (h3:n≤3) {s:List UInt8}(hs:pU s) {x:List Int}{i:Nat}(hi:i<s.length) (hx:x.length≤10000000):
  IJ n s ((i:Int),x)=if (s9 n (s.drop i)).2=0 then some (.inr (.inr ([],(i:Int),3))) else some (.inl (((i+(s9 n (s.drop i)).2:Nat):Int),x++s3 (s9 n (s.drop i)).1)):=by
 have hs':=hs
 unfold pU at hs'
 have hp:=LS n (s.drop i)
 rw[List.length_drop] at hp
 unfold IJ
 dsimp only
 rw[if_pos (sY hi),if_pos (qJ hi),vI hi,BY,sQ (n:=92) 92 rfl,aHO h1 h3]
 rw[List.drop_eq_getElem_cons hi] at hp⊢
 by_cases c1:s[i]=92
 ·rw[a32 c1] at hp⊢
  rw[if_pos (by simpa using c1),if_pos ⟨by omega,by omega,Int.le_refl _⟩,aHL]
  simp only[Option.bind_some]
  by_cases h0:(C0 (s[i]::s.drop (i+1))).2=0
  ·rw[if_pos (by rw[h0];rfl),if_pos h0]
  ·rw[if_neg (by rw[decide_eq_true_eq];omega),if_neg h0,aHQ hx (by omega)]
   simp only[Option.bind_some]
   rw[if_pos (by unfold oT;omega)]
   rfl
 ·rw[if_neg (by simpa using c1),if_pos (qJ hi)]
  by_cases hb:yF n s[i]=true
  ·rw[if_pos hb,PO c1 hb];rfl
  ·rw[if_neg hb,a33 c1 hb,if_pos (qJ hi),aHP hx,Option.bind_some]
   rw[if_pos (rR (by omega))]
   rfl
theorem aCm {n:Int}(h1:1≤n) (h3:n≤3) {s:List UInt8}(hs:pU s): ∀(k i:Nat) (x:List Int),i≤s.length→s.length-i≤k→x.length+4*(s.length-i)≤5000000→
  pR (IE n s) (x,(i:Int))=some (match uM n k (s.drop i) with| .inl r=> .inl (x++s3 r) | .inr e=> .inr ([],((i+e:Nat):Int),3))
 |k,i,x,hi,hk,hx=>by
  by_cases hlt:i<s.length
  ·cases k with
   |zero=>omega
   |succ k=>
    have hp:=LS n (s.drop i)
    rw[uW,aHN h1 h3 hs hlt (by omega)]
    rw[List.length_drop] at hp
    have hu:uM n (k+1) (s.drop i)=if (s9 n (s.drop i)).2=0 then .inr 0 else match uM n k ((s.drop i).drop (s9 n (s.drop i)).2) with
      | .inl r=> .inl ((s9 n (s.drop i)).1++r)
      | .inr e=> .inr ((s9 n (s.drop i)).2+e):=by
     rw[List.drop_eq_getElem_cons hlt,uM]
    rw[hu]
    by_cases h0:(s9 n (s.drop i)).2=0
    ·rw[if_pos h0,if_pos h0];rfl
    ·rw[if_neg h0,if_neg h0]
     show pR _ (_,((i+(s9 n (s.drop i)).2:Nat):Int))=_
     rw[aCm h1 h3 hs k _ _ (by omega) (by omega) (by rw[List.length_append];simp only[s3,List.length_map];omega),List.drop_drop]
     cases uM n k (s.drop (i+(s9 n (s.drop i)).2)) with
     |inl r=>dsimp only;rw[aCj,List.append_assoc]
     |inr e=>dsimp only;rw[Nat.add_assoc]
  ·have:i=s.length:=by omega
   subst this
   rw[w5 (r:= .inl x) (by unfold IE;simp),List.drop_length]
   cases k<;>simp [uM,s3]
theorem aCn {n:Int}(h1:1≤n) (h3:n≤3) {s:List UInt8}(hs:pU s): ∀(k i:Nat) (x:List Int),i≤s.length→s.length-i≤k→x.length+4*(s.length-i)≤5000000→
  pR (IJ n s) ((i:Int),x)=some (match uM n k (s.drop i) with| .inl r=> .inl (x++s3 r) | .inr e=> .inr ([],((i+e:Nat):Int),3))
 |k,i,x,hi,hk,hx=>by
  by_cases hlt:i<s.length
  ·cases k with
   |zero=>omega
   |succ k=>
    have hp:=LS n (s.drop i)
    rw[uW,aHR h1 h3 hs hlt (by omega)]
    rw[List.length_drop] at hp
    have hu:uM n (k+1) (s.drop i)=if (s9 n (s.drop i)).2=0 then .inr 0 else match uM n k ((s.drop i).drop (s9 n (s.drop i)).2) with
      | .inl r=> .inl ((s9 n (s.drop i)).1++r)
      | .inr e=> .inr ((s9 n (s.drop i)).2+e):=by
     rw[List.drop_eq_getElem_cons hlt,uM]
    rw[hu]
    by_cases h0:(s9 n (s.drop i)).2=0
    ·rw[if_pos h0,if_pos h0];rfl
    ·rw[if_neg h0,if_neg h0]
     show pR _ (((i+(s9 n (s.drop i)).2:Nat):Int),_)=_
     rw[aCn h1 h3 hs k _ _ (by omega) (by omega) (by rw[List.length_append];simp only[s3,List.length_map];omega),List.drop_drop]
     cases uM n k (s.drop (i+(s9 n (s.drop i)).2)) with
     |inl r=>dsimp only;rw[aCj,List.append_assoc]
     |inr e=>dsimp only;rw[Nat.add_assoc]
  ·have:i=s.length:=by omega
   subst this
   rw[w5 (r:= .inl x) (by unfold IJ;simp),List.drop_length]
   cases k<;>simp [uM,s3]
theorem aHS {n:Int}(h1:1≤n) (h3:n≤3) {s:List UInt8}(hs:pU s):BS n s=some (zW n s):=by
 unfold BS
 have hs':=hs
 unfold pU at hs'
 rw[if_neg (by simp;omega),show (([]:List Int),(0:Int))=(([]:List Int),((0:Nat):Int)) from rfl,aCm h1 h3 hs s.length 0 [] (by omega) (by omega) (by simp;omega),List.drop_zero]
 unfold zW
 cases uM n s.length s with
 |inl r=>
  show some (rA ([]++s3 r),(0:Int),(0:Int))=_
  rw[List.nil_append,aCk]
 |inr e=>
  show some (([]:List UInt8),((0+e:Nat):Int),(3:Int))=_
  rw[Nat.zero_add]
theorem aHT {n:Int}(h1:1≤n) (h3:n≤3) {s:List UInt8}(hs:pU s):BV n s=some (zW n s):=by
 unfold BV
 have hs':=hs
 unfold pU at hs'
 rw[if_neg (by simp;omega),if_neg (by simp;omega),show ((0:Int),([]:List Int))=(((0:Nat):Int),([]:List Int)) from rfl,aCn h1 h3 hs s.length 0 [] (by omega) (by omega) (by simp;omega),List.drop_zero]
 unfold zW
 cases uM n s.length s with
 |inl r=>
  show some (rA ([]++s3 r),(0:Int),(0:Int))=_
  rw[List.nil_append,aCk]
 |inr e=>
  show some (([]:List UInt8),((0+e:Nat):Int),(3:Int))=_
  rw[Nat.zero_add]
theorem aCo (n:Int): ∀(k:Nat) (l r:List UInt8),uM n k l= .inl r→r.length≤4*k
 |0,_,_,h=>by cases h;simp
 |_+1,[],_,h=>by cases h;simp
 |k+1,b::t,r,h=>by
  rw[uM] at h
  split at h
  ·cases h
  ·have hp:=(LS n (b::t)).1
   cases hu:uM n k ((b::t).drop (s9 n (b::t)).2) with
   |inl r'=>
    rw[hu] at h
    cases h
    have:=aCo n k _ r' hu
    rw[List.length_append];omega
   |inr e=>rw[hu] at h;cases h
theorem a34 (n:Int) (s:List UInt8):(zW n s).1.length≤4*s.length:=by
 unfold zW
 cases h:uM n s.length s with
 |inl r=>exact aCo n _ _ _ h
 |inr e=>simp
end Go.Proofs.YtfchbnahjcdiiaaGreatDoor
namespace Go.Proofs.YtfchbnahjcdiiaaGreatDoor
open Vc
set_option maxRecDepth 100000
def zD (b:UInt8):Bool:=((decide (b=32)||decide (b=9))||decide (b=10))||decide (b=13)
def s0 (x y:UInt8):List UInt8→Bool
 |b::c::_=>decide (b=x)&&decide (c=y)
 |_=>false
def tN (l:List UInt8):Nat:=(l.findIdx? fun b=>decide (b=10)).getD l.length
def uN:List UInt8→Option Nat
 |[]=>none
 |b::t=>if s0 42 47 (b::t)=true then some 0 else(uN t).map (· +1)
def AY (n:Nat) (g:Nat×Bool):Nat×Bool:=(n+g.1,g.2)
def vP:Nat→List UInt8→Nat×Bool
 |0,_=>(0,true)
 |_+1,[]=>(0,true)
 |k+1,b::t=>
  if zD b=true then AY 1 (vP k t)
  else if s0 47 47 (b::t)=true then AY (tN (b::t)) (vP k ((b::t).drop (tN (b::t))))
  else if s0 47 42 (b::t)=true then match uN ((b::t).drop 2) with
   |none=>(0,false)
   |some e=>AY (e+4) (vP k ((b::t).drop (e+4)))
  else(0,true)
def G (l:List UInt8):Nat×Bool:=vP l.length l
theorem LT {l:List UInt8}(h:s0 47 47 l=true):2≤tN l∧tN l≤l.length:=by
 unfold s0 at h
 split at h
 ·rename_i b c t
  simp only[Bool.and_eq_true,decide_eq_true_eq] at h
  obtain⟨rfl,rfl⟩:=h
  unfold tN
  rw[List.findIdx?_cons,if_neg (by decide),List.findIdx?_cons,if_neg (by decide)]
  cases h:t.findIdx? fun b=>decide (b=10) with
  |none=>simp
  |some k=>
   have:=(List.findIdx?_eq_some_iff_getElem.1 h).1
   simp;omega
 ·cases h
theorem PP: ∀{l:List UInt8}{e:Nat},uN l=some e→e+2≤l.length
 |[],_,h=>by cases h
 |b::t,e,h=>by
  unfold uN at h
  split at h
  ·rename_i hb
   cases h
   cases t with
   |nil=>simp [s0] at hb
   |cons c t=>simp
  ·cases hc:uN t with
   |none=>rw[hc] at h;cases h
   |some e'=>
    rw[hc] at h
    obtain rfl:e'+1=e:=Option.some.inj h
    have:=PP hc
    simp only[List.length_cons];omega
theorem PQ: ∀(n k k':Nat) (l:List UInt8),l.length≤n→l.length≤k→l.length≤k'→vP k l=vP k' l
 |n,k,k',[],_,_,_=>by cases k<;>cases k'<;>rfl
 |0,_,_,b::t,h,_,_=>by simp at h
 |n+1,0,_,b::t,_,h,_=>by simp at h
 |n+1,_,0,b::t,_,_,h=>by simp at h
 |n+1,k+1,k'+1,b::t,h,h1,h2=>by
  simp only[List.length_cons] at h h1 h2
  unfold vP
  split
  ·rw[PQ n k k' t (by omega) (by omega) (by omega)]
  ·split
   ·rename_i hb
    have:=LT hb
    rw[PQ n k k' _ (by rw[List.length_drop];simp only[List.length_cons];omega) (by rw[List.length_drop];simp only[List.length_cons];omega) (by rw[List.length_drop];simp only[List.length_cons];omega)]
   ·split
    ·cases hc:uN ((b::t).drop 2) with
     |none=>rfl
     |some e=>
      dsimp only
      rw[PQ n k k' _ (by rw[List.length_drop];simp only[List.length_cons];omega) (by rw[List.length_drop];simp only[List.length_cons];omega) (by rw[List.length_drop];simp only[List.length_cons];omega)]
    ·rfl
theorem aCp {k:Nat}{l:List UInt8}(h:l.length≤k):vP k l=G l:=PQ l.length k l.length l (Nat.le_refl _) h (Nat.le_refl _)
theorem LU {b:UInt8}{t:List UInt8}(h:zD b=true):G (b::t)=AY 1 (G t):=by
 show vP (t.length+1) (b::t)=_
 unfold vP
 rw[if_pos h];rfl
theorem PR {b:UInt8}{t:List UInt8}(h: ¬zD b=true) (h1:s0 47 47 (b::t)=true):G (b::t)=AY (tN (b::t)) (G ((b::t).drop (tN (b::t)))):=by
 have:=LT h1
 show vP (t.length+1) (b::t)=_
 unfold vP
 rw[if_neg h,if_pos h1,aCp (by rw[List.length_drop];simp only[List.length_cons];omega)]
theorem PS {b:UInt8}{t:List UInt8}(h: ¬zD b=true) (h1: ¬s0 47 47 (b::t)=true) (h2:s0 47 42 (b::t)=true) (hc:uN ((b::t).drop 2)=none):G (b::t)=(0,false):=by
 show vP (t.length+1) (b::t)=_
 unfold vP
 rw[if_neg h,if_neg h1,if_pos h2,hc]
theorem PT {b:UInt8}{t:List UInt8}{e:Nat}(h: ¬zD b=true) (h1: ¬s0 47 47 (b::t)=true) (h2:s0 47 42 (b::t)=true) (hc:uN ((b::t).drop 2)=some e):G (b::t)=AY (e+4) (G ((b::t).drop (e+4))):=by
 show vP (t.length+1) (b::t)=_
 unfold vP
 rw[if_neg h,if_neg h1,if_pos h2,hc]
 dsimp only
 rw[aCp (by rw[List.length_drop];simp only[List.length_cons];omega)]
theorem PU {b:UInt8}{t:List UInt8}(h: ¬zD b=true) (h1: ¬s0 47 47 (b::t)=true) (h2: ¬s0 47 42 (b::t)=true):G (b::t)=(0,true):=by
 show vP (t.length+1) (b::t)=_
 unfold vP
 rw[if_neg h,if_neg h1,if_neg h2]
theorem IW: ∀(n:Nat) (l:List UInt8),l.length≤n→(G l).1≤l.length
 |_,[],_=>Nat.le_refl _
 |0,_::_,h=>by simp at h
 |n+1,b::t,h=>by
  simp only[List.length_cons] at h⊢
  by_cases h0:zD b=true
  ·rw[LU h0]
   have:=IW n t (by omega)
   show 1+_≤_;omega
  ·by_cases h1:s0 47 47 (b::t)=true
   ·rw[PR h0 h1]
    have hl:=LT h1
    have:=IW n ((b::t).drop (tN (b::t))) (by rw[List.length_drop];simp only[List.length_cons] at hl⊢;omega)
    rw[List.length_drop] at this
    simp only[List.length_cons] at this hl
    show tN _+_≤_;omega
   ·by_cases h2:s0 47 42 (b::t)=true
    ·cases hc:uN ((b::t).drop 2) with
     |none=>rw[PS h0 h1 h2 hc];exact Nat.zero_le _
     |some e=>
      rw[PT h0 h1 h2 hc]
      have he:=PP hc
      have:=IW n ((b::t).drop (e+4)) (by rw[List.length_drop];simp only[List.length_cons];omega)
      rw[List.length_drop] at this he
      simp only[List.length_cons] at this he
      show e+4+_≤_;omega
    ·rw[PU h0 h1 h2];exact Nat.zero_le _
theorem PV {s:List UInt8}{i:Nat}(hi:i≤s.length) (x y:UInt8):((decide ((List.length ([x,y]:List UInt8):Int)≤((List.length s:Int)- (i:Int))))&&(decide ((oZ s (i:Int) ((i:Int)+(List.length ([x,y]:List UInt8):Int)))=([x,y]:List UInt8))))=s0 x y (s.drop i):=by
 have hc:oZ s (i:Int) ((i:Int)+(List.length ([x,y]:List UInt8):Int))=(s.drop i).take 2:=by
  unfold oZ
  rw[Int.toNat_natCast]
  congr 1
  show ((i:Int)+2).toNat-i=2
  omega
 have hl:(s.drop i).length=s.length-i:=List.length_drop
 rw[hc]
 generalize s.drop i=r at hl
 match r,hl with
 |[],hl=>simp only[List.length_nil] at hl;rw[show decide ((List.length ([x,y]:List UInt8):Int)≤((List.length s:Int)- (i:Int)))=false by simp only[List.length_cons,List.length_nil,decide_eq_false_iff_not];omega];rfl
 |[b],hl=>simp only[List.length_cons,List.length_nil] at hl;rw[show decide ((List.length ([x,y]:List UInt8):Int)≤((List.length s:Int)- (i:Int)))=false by simp only[List.length_cons,List.length_nil,decide_eq_false_iff_not];omega];rfl
 |b::c::t,hl=>
  simp only[List.length_cons] at hl
  rw[show decide ((List.length ([x,y]:List UInt8):Int)≤((List.length s:Int)- (i:Int)))=true by simp;omega,Bool.true_and]
  show decide ([b,c]=[x,y])=_
  unfold s0
  rw[Bool.eq_iff_iff]
  simp
theorem a35 {s:List UInt8}(hs:pU s) {i:Nat}(hi:i≤s.length) (x y:UInt8):EB s (i:Int) [x,y]=some ():=by
 unfold pU at hs
 have h2:((List.length ([x,y]:List UInt8):Nat):Int)=2:=rfl
 unfold EB
 rw[h2,if_pos (by unfold oT;omega),if_pos (fun _=>by unfold oT;omega),if_pos]
 intro h
 simp only[beq_iff_eq,decide_eq_true_eq] at h
 omega
theorem aCq (r:List UInt8) (x y:UInt8):((decide ((List.length ([x,y]:List UInt8):Int)≤(List.length r:Int)))&&(decide ((oZ r (0:Int) (List.length ([x,y]:List UInt8):Int))=([x,y]:List UInt8))))=s0 x y r:=by
 have:=PV (s:=r) (i:=0) (Nat.zero_le _) x y
 rw[List.drop_zero,show ((0:Nat):Int)=0 from rfl,Int.sub_zero,Int.zero_add] at this
 exact this
theorem aCr (r:List UInt8) (x y:UInt8):GD r [x,y]=some ():=by
 have h2:((List.length ([x,y]:List UInt8):Nat):Int)=2:=rfl
 unfold GD HX
 rw[h2,if_pos]
 ·rfl
 ·intro h
  simp only[beq_iff_eq,decide_eq_true_eq] at h
  exact⟨Int.le_refl _,by decide,h⟩
theorem aCs (x y:UInt8):(x==y)=decide (y=x):=by
 by_cases h:y=x
 ·subst h;rw[beq_self_eq_true,decide_eq_true rfl]
 ·rw[decide_eq_false h,beq_eq_false_iff_ne];exact fun e=>h e.symm
theorem aCt {o:Option Nat}:(if (AX o== -1)=true then(-1:Int) else AX o+1)=AX (o.map (· +1)):=by
 cases o with
 |none=>rfl
 |some k=>
  show (if ((k:Int)== -1)=true then(-1:Int) else(k:Int)+1)=((k+1:Nat):Int)
  rw[if_neg (by rw[beq_iff_eq];omega)]
  rfl
theorem aCu: ∀(l:List UInt8),Lib.indexByte l 10=AX (l.findIdx? fun b=>decide (b=10))
 |[]=>rfl
 |b::t=>by
  rw[Lib.indexByte,List.findIdx?_cons,aCu t,aCs,aCt]
  by_cases h:b=10
  ·subst h;rfl
  ·rw[if_neg (by simpa using fun e=>h (Eq.symm e)),if_neg (by simpa using h)]
theorem aCv: ∀(l:List UInt8),Lib.index l [42,47]=AX (uN l)
 |[]=>rfl
 |b::t=>by
  rw[Lib.index,uN,aCv t,aCt]
  have hp:([42,47]:List UInt8).isPrefixOf (b::t)=s0 42 47 (b::t):=by
   cases t with
   |nil=>simp only[List.isPrefixOf,Bool.and_false,s0]
   |cons c t=>simp only[List.isPrefixOf,Bool.and_true,s0,aCs]
  rw[hp]
  by_cases h:s0 42 47 (b::t)=true
  ·rw[if_pos h,if_pos h];rfl
  ·rw[if_neg h,if_neg h]
end Go.Proofs.YtfchbnahjcdiiaaGreatDoor
namespace Go.Proofs.YtfchbnahjcdiiaaGreatDoor
open Vc
set_option maxRecDepth 100000
theorem aHU {s:List UInt8}(hs:pU s) {i:Nat}(hi:i≤s.length):pR (I6 s) (i:Int)=some ((i+tN (s.drop i):Nat):Int):=by
 have hs':=hs
 unfold pU at hs'
 have h:=PG (f:=I6 s) (l:=s) (fun b=> !decide (b=10)) (fun i h=>by
  unfold I6
  rw[if_pos (fun _=>qJ h),sY h,Bool.true_and,vI h,sQ (n:=10) 10 rfl,if_pos (rR (by omega))]) (by
  unfold I6
  have hF:decide ((s.length:Int)<(s.length:Int))=false:=by simp
  rw[hF,if_pos (fun h=>by simp at h),Bool.false_and,if_neg (by decide)]) (s.length-i) i (by omega)
 rw[h]
 unfold tN
 simp only[Bool.not_not,List.length_drop]
theorem aHV {s:List UInt8}{i:Nat}(h:i<s.length):uN (s.drop i)=if s0 42 47 (s.drop i)=true then some 0 else(uN (s.drop (i+1))).map (· +1):=by
 rw[List.drop_eq_getElem_cons h,uN]
def a36 (i n:Nat):Option Nat→Int
 |some e=>(i:Int)+(e:Int)
 |none=>(n:Int)
theorem aCw {s:List UInt8}(hs:pU s): ∀(n i:Nat),i+n=s.length→pR (I7 s) (i:Int)=some (a36 i s.length (uN (s.drop i)))
 |0,i,h=>by
  have:i=s.length:=by omega
  subst this
  have hF:decide ((s.length:Int)<(s.length:Int))=false:=by simp
  rw[w5 (r:=(s.length:Int)) (by unfold I7;rw[hF,if_pos (fun h=>by simp at h),Bool.false_and,if_neg (by decide)]),List.drop_length]
  rfl
 |n+1,i,h=>by
  have hlt:i<s.length:=by omega
  have hs':=hs
  unfold pU at hs'
  rw[uW,aHV hlt]
  unfold I7
  rw[a35 hs (by omega),PV (by omega),sY hlt,Bool.true_and,if_pos (show ((true==true)=true→(some ()).isSome=true) from fun _=>rfl)]
  by_cases hb:s0 42 47 (s.drop i)=true
  ·rw[if_neg (by rw[hb];decide),if_pos hb]
   show some ((i:Int))=some ((i:Int)+((0:Nat):Int))
   rw[show ((i:Int)+((0:Nat):Int))=(i:Int) by omega]
  ·rw[if_pos (by simpa using hb),if_pos (rR (by omega)),if_neg hb]
   show pR (I7 s) ((i+1:Nat):Int)=_
   rw[aCw hs n (i+1) (by omega)]
   cases uN (s.drop (i+1)) with
   |none=>rfl
   |some e=>
    show some ((((i+1:Nat)):Int)+(e:Int))=some ((i:Int)+(((e+1:Nat)):Int))
    rw[show (((i+1:Nat)):Int)+(e:Int)=(i:Int)+(((e+1:Nat)):Int) by omega]
theorem wsE (b:UInt8):((((decide ((b.toNat:Int)=(32:Int)))||(decide ((b.toNat:Int)=(9:Int))))||(decide ((b.toNat:Int)=(10:Int))))||(decide ((b.toNat:Int)=(13:Int))))=zD b:=by
 rw[sQ (n:=32) 32 rfl,sQ (n:=9) 9 rfl,sQ (n:=10) 10 rfl,sQ (n:=13) 13 rfl]
 rfl
theorem aCx {s:List UInt8}{i:Nat}(h:s0 47 42 (s.drop i)=true):i+2≤s.length:=by
 have hl:(s.drop i).length=s.length-i:=List.length_drop
 unfold s0 at h
 split at h
 ·rename_i b c t he
  rw[he] at hl
  simp only[List.length_cons] at hl
  omega
 ·cases h
theorem PW {s:List UInt8}(hs:pU s): ∀(n i:Nat),i≤s.length→s.length-i≤n→qT (pR (EN s) (i:Int)) (fun x=>some x)=some ((i+(G (s.drop i)).1:Nat):Int)
 |n,i,hi,hn=>by
  have hs':=hs
  unfold pU at hs'
  by_cases hlt:i<s.length
  ·cases n with
   |zero=>omega
   |succ n=>
    have hd:=List.drop_eq_getElem_cons hlt
    rw[uW]
    unfold EN
    rw[if_pos (sY hlt),if_pos (qJ hlt),if_pos (fun _=>qJ hlt),if_pos (fun _=>qJ hlt),if_pos (fun _=>qJ hlt),vI hlt,wsE]
    by_cases h0:zD s[i]=true
    ·rw[if_pos h0,if_pos (rR (by omega)),hd,LU h0]
     show qT (pR (EN s) ((i+1:Nat):Int)) _=_
     rw[PW hs n (i+1) (by omega) (by omega)]
     show _=some (((i+(1+(G (s.drop (i+1))).1):Nat)):Int)
     rw[show i+1+(G (s.drop (i+1))).1=i+(1+(G (s.drop (i+1))).1) by omega]
    ·rw[if_neg h0,a35 hs hi,Option.bind_some,PV hi]
     by_cases h1:s0 47 47 (s.drop i)=true
     ·have hl:=LT h1
      rw[List.length_drop] at hl
      rw[if_pos h1,aHU hs hi]
      unfold qD
      rw[Option.bind_some]
      show qT (pR (EN s) ((i+tN (s.drop i):Nat):Int)) _=_
      rw[PW hs n (i+tN (s.drop i)) (by omega) (by omega)]
      have hg:G (s.drop i)=AY (tN (s.drop i)) (G ((s.drop i).drop (tN (s.drop i)))):=by
       rw[hd] at h1⊢;exact PR h0 h1
      rw[hg,List.drop_drop]
      show _=some (((i+(tN (s.drop i)+(G (s.drop (i+tN (s.drop i)))).1):Nat)):Int)
      rw[Nat.add_assoc]
     ·rw[if_neg h1,a35 hs hi,Option.bind_some,PV hi]
      by_cases h2:s0 47 42 (s.drop i)=true
      ·have h2l:=aCx h2
       rw[if_pos h2,if_pos (by unfold oT;omega),show ((i:Int)+2)=((i+2:Nat):Int) by omega,aCw hs (s.length- (i+2)) (i+2) (by omega)]
       unfold qD
       rw[Option.bind_some]
       cases hc:uN (s.drop (i+2)) with
       |none=>
        rw[show a36 (i+2) s.length none=(s.length:Int) from rfl,if_pos (by simp)]
        have hg:G (s.drop i)=(0,false):=by
         rw[hd] at h1 h2⊢
         exact PS h0 h1 h2 (by rw[←hd,List.drop_drop];exact hc)
        rw[hg];rfl
       |some e=>
        have he:=PP hc
        rw[List.length_drop] at he
        have hz:a36 (i+2) s.length (some e)=(i:Int)+2+(e:Int):=by
         show (((i+2:Nat)):Int)+(e:Int)=_
         omega
        rw[hz,if_neg (by rw[decide_eq_true_eq];omega),if_pos (by unfold oT;omega)]
        have hg:G (s.drop i)=AY (e+4) (G ((s.drop i).drop (e+4))):=by
         rw[hd] at h1 h2⊢
         exact PT h0 h1 h2 (by rw[←hd,List.drop_drop];exact hc)
        show qT (pR (EN s) ((i:Int)+2+(e:Int)+2)) _=_
        rw[show ((i:Int)+2+(e:Int)+2)=((i+(e+4):Nat):Int) by omega,PW hs n (i+(e+4)) (by omega) (by omega),hg,List.drop_drop]
        show _=some (((i+(e+4+(G (s.drop (i+(e+4)))).1):Nat)):Int)
        rw[show i+(e+4+(G (s.drop (i+(e+4)))).1)=i+(e+4)+(G (s.drop (i+(e+4)))).1 by omega]
      ·rw[if_neg h2]
       have hg:G (s.drop i)=(0,true):=by
        rw[hd] at h1 h2⊢;exact PU h0 h1 h2
       rw[hg];rfl
  ·have:i=s.length:=by omega
   subst this
   rw[w5 (r:= .inl (s.length:Int)) (by unfold EN;rw[if_neg (xT _)]),List.drop_length]
   rfl
theorem aCy {s:List UInt8}(hs:pU s) {i:Nat}(hi:i≤s.length):D0 s (i:Int)=some ((i+(G (s.drop i)).1:Nat):Int):=by
 unfold D0
 exact PW hs (s.length-i) i hi (Nat.le_refl _)
theorem wsI (b:UInt8):decide ((0:Int)≤rV ([32,9,10,13]:List UInt8) (b.toNat:Int))=zD b:=by
 rw[f0,←Lib.contains_iff_indexByte]
 unfold zD
 rw[Bool.eq_iff_iff]
 simp [or_assoc]
theorem aHY {t:List UInt8}:G (10::t)=AY 1 (G t):=LU rfl
theorem aHZ {l:List UInt8}{k:Nat}(h:l.findIdx? (fun b=>decide (b=10))=some k):tN l=k∧k<l.length∧l.drop k=10::l.drop (k+1):=by
 obtain⟨hk,hp,_⟩:=List.findIdx?_eq_some_iff_getElem.1 h
 refine⟨by unfold tN;rw[h];rfl,hk,?_⟩
 rw[List.drop_eq_getElem_cons hk]
 simp only[decide_eq_true_eq] at hp
 rw[hp]
theorem aH0 {l:List UInt8}(h:l.findIdx? (fun b=>decide (b=10))=none):tN l=l.length:=by unfold tN;rw[h];rfl
theorem LV {s:List UInt8}(hs:pU s) (j0:Int): ∀(n i:Nat),i≤s.length→s.length-i≤n→qT (pR (D5 (s,(j0,()))) (i:Int)) (fun x=>some (true,x))=some ((G (s.drop i)).2,((i+(G (s.drop i)).1:Nat):Int))
 |n,i,hi,hn=>by
  have hs':=hs
  unfold pU at hs'
  by_cases hlt:i<s.length
  ·cases n with
   |zero=>omega
   |succ n=>
    have hd:=List.drop_eq_getElem_cons hlt
    have hl:(s.drop i).length=s.length-i:=List.length_drop
    rw[uW]
    unfold D5
    dsimp only
    rw[if_pos (sY hlt),if_pos ⟨by omega,by omega,Int.le_refl _⟩,BY,if_pos ⟨Int.le_refl _,by omega⟩]
    have hb:pA (s.drop i) 0=(s[i].toNat:Int):=by
     rw[hd];exact vI (i:=0) (by simp only[List.length_cons];omega)
    rw[hb,wsI]
    by_cases h0:zD s[i]=true
    ·rw[if_pos h0,if_pos (rR (by omega)),hd,LU h0]
     show qT (pR (D5 (s,(j0,()))) ((i+1:Nat):Int)) _=_
     rw[LV hs j0 n (i+1) (by omega) (by omega)]
     show _=some ((G (s.drop (i+1))).2,(((i+(1+(G (s.drop (i+1))).1):Nat)):Int))
     rw[show i+1+(G (s.drop (i+1))).1=i+(1+(G (s.drop (i+1))).1) by omega]
    ·rw[if_neg h0,aCr,Option.bind_some,aCq]
     by_cases h1:s0 47 47 (s.drop i)=true
     ·have hg:G (s.drop i)=AY (tN (s.drop i)) (G ((s.drop i).drop (tN (s.drop i)))):=by
       rw[hd] at h1⊢;exact PR h0 h1
      have hx:rV (s.drop i) 10=AX ((s.drop i).findIdx? fun b=>decide (b=10)):=aCu _
      rw[if_pos h1,hx]
      cases hf:(s.drop i).findIdx? fun b=>decide (b=10) with
      |none=>
       have hln:=aH0 hf
       rw[if_pos (by decide),if_pos (by unfold oT;omega),if_pos (by unfold oT;omega),if_pos (by unfold oT;omega),hl]
       show qT (pR (D5 (s,(j0,()))) _) _=_
       rw[show ((i:Int)+(((s.length-i:Nat):Int)-1+1))=((s.length:Nat):Int) by omega,LV hs j0 n s.length (Nat.le_refl _) (by omega),hg,hln,List.drop_length,List.drop_length,hl]
       show some (true,((s.length+0:Nat):Int))=some (true,((i+(s.length-i+0):Nat):Int))
       rw[show s.length+0=i+(s.length-i+0) by omega]
      |some k=>
       obtain⟨hln,hk,hdk⟩:=aHZ hf
       rw[hl] at hk
       show qT (Option.bind (if decide ((k:Int)<0)=true then _ else if oT ((k:Int)+1) then if oT ((i:Int)+((k:Int)+1)) then _ else _ else _) _) _=_
       rw[if_neg (by simp),if_pos (rR (by omega)),if_pos (by unfold oT;omega)]
       show qT (pR (D5 (s,(j0,()))) ((i:Int)+((k:Int)+1))) _=_
       rw[show ((i:Int)+((k:Int)+1))=((i+(k+1):Nat):Int) by omega,LV hs j0 n (i+(k+1)) (by omega) (by omega),hg,hln,hdk,aHY,List.drop_drop]
       show some ((G (s.drop (i+(k+1)))).2,_)=some ((G (s.drop (i+(k+1)))).2,(((i+(k+(1+(G (s.drop (i+(k+1)))).1)):Nat)):Int))
       rw[show i+(k+(1+(G (s.drop (i+(k+1)))).1))=i+(k+1)+(G (s.drop (i+(k+1)))).1 by omega]
     ·rw[if_neg h1,aCr,Option.bind_some,aCq]
      by_cases h2:s0 47 42 (s.drop i)=true
      ·have h2l:=aCx h2
       have hcut:oZ (s.drop i) 2 ((s.drop i).length:Int)=s.drop (i+2):=by
        rw[show ((2:Int))=((2:Nat):Int) from rfl,BY,List.drop_drop]
       rw[if_pos h2,if_pos ⟨by decide,by omega,Int.le_refl _⟩,hcut,if_pos (by rw[List.length_drop];omega),show HQ (s.drop (i+2)) [42,47]=AX (uN (s.drop (i+2))) from aCv _]
       cases hc:uN (s.drop (i+2)) with
       |none=>
        rw[if_pos (by decide)]
        have hg:G (s.drop i)=(0,false):=by
         rw[hd] at h1 h2⊢
         exact PS h0 h1 h2 (by rw[←hd,List.drop_drop];exact hc)
        rw[hg];rfl
       |some e=>
        have he:=PP hc
        rw[List.length_drop] at he
        have hg:G (s.drop i)=AY (e+4) (G ((s.drop i).drop (e+4))):=by
         rw[hd] at h1 h2⊢
         exact PT h0 h1 h2 (by rw[←hd,List.drop_drop];exact hc)
        show qT (Option.bind (if decide ((e:Int)<0)=true then _ else if oT ((e:Int)+4) then if oT ((i:Int)+((e:Int)+4)) then _ else _ else _) _) _=_
        rw[if_neg (by simp),if_pos (by unfold oT;omega),if_pos (by unfold oT;omega)]
        show qT (pR (D5 (s,(j0,()))) ((i:Int)+((e:Int)+4))) _=_
        rw[show ((i:Int)+((e:Int)+4))=((i+(e+4):Nat):Int) by omega,LV hs j0 n (i+(e+4)) (by omega) (by omega),hg,List.drop_drop]
        show _=some ((G (s.drop (i+(e+4)))).2,(((i+(e+4+(G (s.drop (i+(e+4)))).1):Nat)):Int))
        rw[show i+(e+4+(G (s.drop (i+(e+4)))).1)=i+(e+4)+(G (s.drop (i+(e+4)))).1 by omega]
      ·rw[if_neg h2]
       have hg:G (s.drop i)=(0,true):=by
        rw[hd] at h1 h2⊢;exact PU h0 h1 h2
       rw[hg];rfl
  ·have:i=s.length:=by omega
   subst this
   rw[w5 (r:= .inl (s.length:Int)) (by unfold D5;rw[if_neg (xT _)]),List.drop_length]
   rfl
theorem aH1 {s:List UInt8}(hs:pU s) {i:Nat}(hi:i≤s.length):EX (s,((i:Int),()))=some ((G (s.drop i)).2,((i+(G (s.drop i)).1:Nat):Int)):=by
 unfold EX
 exact LV hs _ (s.length-i) i hi (Nat.le_refl _)
end Go.Proofs.YtfchbnahjcdiiaaGreatDoor
namespace Go.Proofs.YtfchbnahjcdiiaaGreatDoor
open Vc
set_option maxRecDepth 100000
def zX (c:Int):Bool:=((decide ((97:Int)≤c))&&(decide (c≤(122:Int))))||((decide ((65:Int)≤c))&&(decide (c≤(90:Int))))
def a38 (c:Int):Bool:=((((zX c)||((decide ((48:Int)≤c))&&(decide (c≤(57:Int)))))||(decide (c=(45:Int))))||(decide (c=(95:Int))))||(decide (c=(46:Int)))
def yG (b:UInt8):Bool:=a38 b.toNat
def vQ (l:List UInt8):Nat:=(l.findIdx? fun b=> !yG b).getD l.length
theorem a39 (l:List UInt8):vQ l≤l.length:=by
 unfold vQ
 cases h:l.findIdx? fun b=> !yG b with
 |none=>exact Nat.le_refl _
 |some k=>exact Nat.le_of_lt (List.findIdx?_eq_some_iff_getElem.1 h).1
def wE (t:List UInt8):Int×List UInt8×Nat:=
 match sE 34 t with
 |none=>(0,[],0)
 |some n=>if (zW 3 (t.take n)).2.2≠0∨DI (zW 3 (t.take n)).1=false then(0,[],0) else(1,(zW 3 (t.take n)).1,n+2)
def vA (r:List UInt8):Int×List UInt8×Nat:=
 match r with
 |[]=>(4,[],0)
 |b::t=>if b=123∨b=125 then(3,[b],1) else if b=34 then wE t else if zX b.toNat=true then(2,(b::t).take (vQ (b::t)),vQ (b::t)) else(0,[],0)
theorem PX {b:UInt8}{t:List UInt8}(h:b=123∨b=125):vA (b::t)=(3,[b],1):=if_pos h
theorem PY {b:UInt8}{t:List UInt8}(h: ¬(b=123∨b=125)) (h2:b=34):vA (b::t)=wE t:=(if_neg h).trans (if_pos h2)
theorem PZ {b:UInt8}{t:List UInt8}(h: ¬(b=123∨b=125)) (h2: ¬b=34) (h3:zX b.toNat=true):vA (b::t)=(2,(b::t).take (vQ (b::t)),vQ (b::t)):=(if_neg h).trans ((if_neg h2).trans (if_pos h3))
theorem LW {b:UInt8}{t:List UInt8}(h: ¬(b=123∨b=125)) (h2: ¬b=34) (h3: ¬zX b.toNat=true):vA (b::t)=(0,[],0):=(if_neg h).trans ((if_neg h2).trans (if_neg h3))
def sA (l:List UInt8):Int×List UInt8×Nat×Nat:=
 if (G l).2=true then((vA (l.drop (G l).1)).1,(vA (l.drop (G l).1)).2.1,(G l).1,(G l).1+(vA (l.drop (G l).1)).2.2) else(0,[],(G l).1,(G l).1)
theorem LX: ∀(n:Nat) (l:List UInt8),l.length≤n→(G l).2=false→∃t,l.drop (G l).1=47::t
 |_,[],_,h=>by cases h
 |0,_::_,h,_=>by simp at h
 |n+1,b::t,hl,h=>by
  simp only[List.length_cons] at hl
  by_cases h0:zD b=true
  ·rw[LU h0] at h⊢
   obtain⟨u,hu⟩:=LX n t (by omega) h
   refine⟨u,?_⟩
   show (b::t).drop (1+(G t).1)=_
   rw[Nat.add_comm,List.drop_succ_cons];exact hu
  ·by_cases h1:s0 47 47 (b::t)=true
   ·rw[PR h0 h1] at h⊢
    have hp:=LT h1
    obtain⟨u,hu⟩:=LX n ((b::t).drop (tN (b::t))) (by rw[List.length_drop];simp only[List.length_cons] at hp⊢;omega) h
    refine⟨u,?_⟩
    rw[List.drop_drop] at hu;exact hu
   ·by_cases h2:s0 47 42 (b::t)=true
    ·cases hc:uN ((b::t).drop 2) with
     |none=>
      rw[PS h0 h1 h2 hc]
      unfold s0 at h2
      split at h2
      ·rename_i b' c' t' he
       simp only[Bool.and_eq_true,decide_eq_true_eq] at h2
       exact⟨c'::t',by rw[he,h2.1];rfl⟩
      ·cases h2
     |some e=>
      rw[PT h0 h1 h2 hc] at h⊢
      obtain⟨u,hu⟩:=LX n ((b::t).drop (e+4)) (by rw[List.length_drop];simp only[List.length_cons];omega) h
      refine⟨u,?_⟩
      rw[List.drop_drop] at hu;exact hu
    ·rw[PU h0 h1 h2] at h;cases h
theorem aH2 (t:List UInt8):vA (47::t)=(0,[],0):=by
 exact LW (by decide) (by decide) (by decide)
theorem aH3 (t:List UInt8):(wE t).2.2≤t.length+1:=by
 unfold wE
 cases h:sE 34 t with
 |none=>exact Nat.zero_le _
 |some n=>
  have:=LQ t.length t n (Nat.le_refl _) h
  dsimp only
  split
  ·exact Nat.zero_le _
  ·show n+2≤_;omega
theorem aH4 (r:List UInt8):(vA r).2.2≤r.length:=by
 unfold vA
 split
 ·exact Nat.zero_le _
 ·rename_i b t
  split
  ·simp
  ·split
   ·exact aH3 t
   ·split
    ·exact a39 _
    ·exact Nat.zero_le _
theorem aH5 (l:List UInt8):(sA l).2.2.1≤(sA l).2.2.2∧(sA l).2.2.2≤l.length:=by
 have h1:=IW l.length l (Nat.le_refl _)
 have h2:=aH4 (l.drop (G l).1)
 rw[List.length_drop] at h2
 unfold sA
 split
 ·dsimp only;omega
 ·dsimp only;omega
theorem aCz {s:List UInt8}(hs:pU s) (n:Nat):pU (s.drop n):=by unfold pU at*;rw[List.length_drop];omega
theorem aCA {s:List UInt8}(hs:pU s) (n:Nat):pU (s.take n):=by unfold pU at*;rw[List.length_take];omega
def kR (k:Int):Int:=if k=4 then 0 else k
theorem aCB {α:Type}{l:List α}{a n:Nat}:oZ l (a:Int) ((a:Int)+(n:Int))=(l.drop a).take n:=by
 unfold oZ
 rw[Int.toNat_natCast]
 congr 1
 omega
theorem aH6 {s:List UInt8}(hs:pU s) {p:Nat}(hp:p≤s.length):pR (IG s) (p:Int)=some ((p+vQ (s.drop p):Nat):Int):=by
 have hs':=hs
 unfold pU at hs'
 have h:=PG (f:=IG s) (l:=s) (fun b=>yG b) (fun i h=>by
  unfold IG
  rw[if_pos (fun _=>qJ h),if_pos (fun _=>qJ h),if_pos (fun _=>qJ h),if_pos (fun _=>qJ h),if_pos (fun _=>qJ h),if_pos (fun _=>qJ h),sY h,Bool.true_and,vI h,if_pos (rR (by omega))]
  rfl) (by
  unfold IG
  have hF:decide ((s.length:Int)<(s.length:Int))=false:=by simp
  rw[hF]
  simp only[Bool.false_and,show (false==true)=false from rfl,Bool.false_eq_true,false_implies,if_true,if_false]) (s.length-p) p (by omega)
 rw[h]
 unfold vQ
 rw[List.length_drop]
theorem Q0 {s:List UInt8}(h:s.length≤5000):pU s:=by unfold pU;omega
theorem aH7 {s:List UInt8}(hsm:s.length≤5000) {i:Nat}(hi:i≤s.length):
  zS s (i:Int)=some (kR (sA (s.drop i)).1,(sA (s.drop i)).2.1,((i+(sA (s.drop i)).2.2.1:Nat):Int),((i+(sA (s.drop i)).2.2.2:Nat):Int)):=by
 have hs:=Q0 hsm
 have hgl:=IW (s.drop i).length (s.drop i) (Nat.le_refl _)
 rw[List.length_drop] at hgl
 unfold zS
 rw[aCy hs hi,Option.bind_some]
 obtain⟨p,hp⟩: ∃p,i+(G (s.drop i)).1=p:=⟨_,rfl⟩
 have hdp:(s.drop i).drop (G (s.drop i)).1=s.drop p:=by rw[List.drop_drop,hp]
 have hpl:p≤s.length:=by omega
 have hspec: ∀k t n,vA (s.drop p)=(k,t,n)→(kR (sA (s.drop i)).1,(sA (s.drop i)).2.1,((i+(sA (s.drop i)).2.2.1:Nat):Int),((i+(sA (s.drop i)).2.2.2:Nat):Int))=(kR k,t,(p:Int),((p+n:Nat):Int)):=by
  intro k t n hk
  unfold sA
  by_cases hg:(G (s.drop i)).2=true
  ·rw[if_pos hg,hdp,hk]
   dsimp only
   rw[←Nat.add_assoc,hp]
  ·rw[if_neg hg]
   obtain⟨u,hu⟩:=LX _ (s.drop i) (Nat.le_refl _) (by simpa using hg)
   rw[hdp] at hu
   rw[hu,aH2] at hk
   cases hk
   dsimp only
   rw[hp];rfl
 rw[hp]
 by_cases hend:p=s.length
 ·have hnil:s.drop p=[]:=by rw[hend,List.drop_length]
  rw[if_pos (by rw[hend];simp),hspec 4 [] 0 (by rw[hnil];rfl)]
  rfl
 ·have hlt:p<s.length:=by omega
  have hd:=List.drop_eq_getElem_cons hlt
  rw[if_neg (by simp;omega),if_pos (qJ hlt),vI hlt,sQ (n:=123) 123 rfl,sQ (n:=125) 125 rfl,sQ (n:=34) 34 rfl]
  by_cases h1:s[p]=123∨s[p]=125
  ·have hz:oZ s (p:Int) ((p:Int)+1)=[s[p]]:=aCl hlt
   rw[if_pos (by simpa using h1),if_pos (rR (by omega)),if_pos ⟨by omega,by omega,by omega⟩,if_pos (rR (by omega)),hz,hspec 3 [s[p]] 1 (by rw[hd];exact PX h1)]
   rfl
  ·rw[if_neg (by simpa using h1)]
   by_cases h2:s[p]=34
   ·have hct:oZ s ((p:Int)+1) (s.length:Int)=s.drop (p+1):=by
     rw[show ((p:Int)+1)=((p+1:Nat):Int) by omega,BY]
    have hA:vA (s.drop p)=wE (s.drop (p+1)):=by rw[hd];exact PY h1 h2
    rw[if_pos (by simpa using h2),if_pos (rR (by omega)),if_pos ⟨by omega,by omega,Int.le_refl _⟩,hct,show ((34:Int))=((34:UInt8).toNat:Int) from rfl,aB9 (by decide) (by decide) _ _ (aCz hs _),Option.bind_some]
    unfold wE at hA
    cases he:sE 34 (s.drop (p+1)) with
    |none=>
     rw[he] at hA
     rw[if_pos (by decide),hspec 0 [] 0 hA]
     rfl
    |some k=>
     rw[he] at hA
     dsimp only at hA
     have hk:=LQ _ _ _ (Nat.le_refl _) he
     rw[List.length_drop] at hk
     have hcm:oZ s ((p:Int)+1) ((p:Int)+1+(k:Int))=(s.drop (p+1)).take k:=by
      rw[show ((p:Int)+1)=((p+1:Nat):Int) by omega,aCB]
     have hft:pU ((s.drop (p+1)).take k):=aCA (aCz hs _) _
     show (if decide ((k:Int)<0)=true then _ else if oT ((p:Int)+1) then if oT ((p:Int)+1) then if oT ((p:Int)+1+(k:Int)) then if 0≤(p:Int)+1∧(p:Int)+1≤(p:Int)+1+(k:Int)∧(p:Int)+1+(k:Int)≤(s.length:Int) then(BS 3 (oZ s ((p:Int)+1) ((p:Int)+1+(k:Int)))).bind _ else _ else _ else _ else _)=_
     rw[if_neg (by simp),if_pos (rR (by omega)),if_pos (rR (by omega)),if_pos (by unfold oT;omega),if_pos ⟨by omega,by omega,by omega⟩,hcm,aHS (by decide) (by decide) hft,Option.bind_some]
     generalize hu:zW 3 ((s.drop (p+1)).take k)=u at hA⊢
     have hul:pU u.1:=by
      have:=a34 3 ((s.drop (p+1)).take k)
      rw[hu,List.length_take,List.length_drop] at this
      unfold pU
      omega
     obtain⟨ht1,ht2⟩:=aHD u.1 hul
     rw[if_pos (fun _=>by rw[ht1];rfl),ht2]
     by_cases hb:u.2.2≠0∨DI u.1=false
     ·rw[if_pos hb] at hA
      rw[if_pos (by
       rcases hb with hb|hb
       ·simp [hb]
       ·simp [hb]),hspec 0 [] 0 hA]
      rfl
     ·rw[if_neg hb] at hA
      have hb1:u.2.2=0:=by
       by_cases h:u.2.2=0
       ·exact h
       ·exact absurd (.inl h) hb
      have hb2:DI u.1=true:=by
       cases h:DI u.1 with
       |true=>rfl
       |false=>exact absurd (.inr h) hb
      rw[if_neg (by simp [hb1,hb2])]
      show (if oT ((p:Int)+(k:Int)) then if oT ((p:Int)+(k:Int)+2) then _ else _ else _)=_
      rw[if_pos (by unfold oT;omega),if_pos (by unfold oT;omega),hspec 1 u.1 (k+2) hA]
      show some ((1:Int),u.1,(p:Int),(p:Int)+(k:Int)+2)=some (kR 1,u.1,(p:Int),((p+(k+2):Nat):Int))
      rw[show (p:Int)+(k:Int)+2=((p+(k+2):Nat):Int) by omega]
      rfl
   ·rw[if_neg (by simpa using h2)]
    show (if zX (s[p].toNat:Int)=true then _ else _)=_
    by_cases h3:zX (s[p].toNat:Int)=true
    ·have hw:=a39 (s.drop p)
     rw[List.length_drop] at hw
     rw[if_pos h3,aH6 hs hpl]
     unfold qD
     rw[Option.bind_some,if_pos ⟨by omega,by omega,by omega⟩,hspec 2 ((s.drop p).take (vQ (s.drop p))) (vQ (s.drop p)) (by rw[hd];exact PZ h1 h2 h3)]
     rw[show ((p+vQ (s.drop p):Nat):Int)=(p:Int)+(vQ (s.drop p):Int) by omega,aCB]
     rfl
    ·rw[if_neg h3,hspec 0 [] 0 (by rw[hd];exact LW h1 h2 h3)]
     rfl
end Go.Proofs.YtfchbnahjcdiiaaGreatDoor
namespace Go.Proofs.YtfchbnahjcdiiaaGreatDoor
open Vc
set_option maxRecDepth 100000
def LY (c:Int):Bool:=(((decide ((127:Int)<c))||(((((!(((decide ((97:Int)≤(IntKind.wrap .u8 c)))&&(decide ((IntKind.wrap .u8 c)≤(122:Int))))||((decide ((65:Int)≤(IntKind.wrap .u8 c)))&&(decide ((IntKind.wrap .u8 c)≤(90:Int))))))&&((decide (c<(48:Int)))||(decide ((57:Int)<c))))&&(!decide (c=(45:Int))))&&(!decide (c=(95:Int))))&&(!decide (c=(46:Int)))))==true)
theorem aH8 (b:UInt8):LY b.toNat= !yG b:=by
 have hb:=b.toNat_lt
 unfold LY yG a38 zX
 rw[show IntKind.wrap .u8 (b.toNat:Int)=(b.toNat:Int) by rw[IntKind.wrap_u8];omega]
 generalize (b.toNat:Int)=c at*
 rw[Bool.eq_iff_iff]
 simp
 omega
theorem aH9 (s:List UInt8):GC s=some (AX (s.findIdx? fun b=> !yG b)):=by
 have h:=a7C (f:=LC s true) (s:=s) (fun c=>LY c) (fun k=>(k:Int)) (fun c h=>by unfold LY;rw[show decide ((127:Int)<c)=true by simp;omega];rfl) (fun i h=>by
  unfold LC
  rw[if_pos (by simpa using h),if_pos (by simpa using h),if_pos (by simpa using h)];rfl) (by
  unfold LC
  rw[if_neg (by simp)])
 unfold GC I4
 rw[h,DF,Option.bind_some]
 congr 1
 rw[show (fun b:UInt8=>LY b.toNat)=fun b=> !yG b from funext aH8]
 cases s.findIdx? fun b=> !yG b<;>rfl
theorem aIa {t:List UInt8}(hsm:t.length≤5000) (b:UInt8) (p:Nat) (hp:p≤5000):D9 (b::t) (p:Int)=some ((wE t).1,(wE t).2.1,((p+(wE t).2.2:Nat):Int)):=by
 have hs:=Q0 hsm
 have hct:oZ (b::t) 1 ((b::t).length:Int)=t:=by
  rw[show ((1:Int))=((1:Nat):Int) from rfl,BY];rfl
 unfold D9
 rw[if_pos ⟨by decide,by simp only[List.length_cons];omega,Int.le_refl _⟩,hct,aHF,show ((34:Int))=((34:UInt8).toNat:Int) from rfl,aB9 (by decide) (by decide) _ _ hs,Option.bind_some]
 unfold wE
 cases he:sE 34 t with
 |none=>
  rw[if_pos (by decide)]
  rfl
 |some k=>
  have hk:=LQ _ _ _ (Nat.le_refl _) he
  have hcm:oZ (b::t) 1 ((k:Int)+1)=t.take k:=by
   unfold oZ
   rw[show ((k:Int)+1).toNat- (1:Int).toNat=k by omega]
   rfl
  have hft:pU (t.take k):=aCA hs _
  show (if decide ((k:Int)<0)=true then _ else if oT ((k:Int)+1) then if 0≤(1:Int)∧(1:Int)≤(k:Int)+1∧(k:Int)+1≤((b::t).length:Int) then(BV 3 (oZ (b::t) 1 ((k:Int)+1))).bind _ else _ else _)=_
  rw[if_neg (by simp),if_pos (rR (by omega)),if_pos ⟨by decide,by omega,by simp only[List.length_cons];omega⟩,hcm,aHT (by decide) (by decide) hft,Option.bind_some]
  dsimp only
  generalize hu:zW 3 (t.take k)=u
  have hul:pU u.1:=by
   have:=a34 3 (t.take k)
   rw[hu,List.length_take] at this
   unfold pU
   omega
  have ht1:=aHE u.1 hul
  rw[if_pos (fun _=>by rw[ht1];rfl)]
  show (if (!decide (u.2.2=0)|| !DI u.1)=true then _ else _)=_
  by_cases hb:u.2.2≠0∨DI u.1=false
  ·rw[if_pos hb,if_pos (by
    rcases hb with hb|hb
    ·simp [hb]
    ·simp [hb])]
   rfl
  ·have hb1:u.2.2=0:=by
    by_cases h:u.2.2=0
    ·exact h
    ·exact absurd (.inl h) hb
   have hb2:DI u.1=true:=by
    cases h:DI u.1 with
    |true=>rfl
    |false=>exact absurd (.inr h) hb
   rw[if_neg hb,if_neg (by simp [hb1,hb2])]
   show (if oT ((p:Int)+(k:Int)) then if oT ((p:Int)+(k:Int)+2) then _ else _ else _)=_
   rw[if_pos (by unfold oT;omega),if_pos (by unfold oT;omega)]
   show some ((1:Int),u.1,(p:Int)+(k:Int)+2)=some ((1:Int),u.1,((p+(k+2):Nat):Int))
   rw[show (p:Int)+(k:Int)+2=((p+(k+2):Nat):Int) by omega]
theorem aCC {s:List UInt8}(hsm:s.length≤5000) {i:Nat}(hi:i≤s.length):
  zA (s,((i:Int),()))=some ((sA (s.drop i)).1,(sA (s.drop i)).2.1,((i+(sA (s.drop i)).2.2.1:Nat):Int),((i+(sA (s.drop i)).2.2.2:Nat):Int),((i+(sA (s.drop i)).2.2.2:Nat):Int)):=by
 have hs:=Q0 hsm
 have hgl:=IW (s.drop i).length (s.drop i) (Nat.le_refl _)
 rw[List.length_drop] at hgl
 unfold zA
 rw[aH1 hs hi,Option.bind_some]
 dsimp only
 obtain⟨p,hp⟩: ∃p,i+(G (s.drop i)).1=p:=⟨_,rfl⟩
 have hdp:(s.drop i).drop (G (s.drop i)).1=s.drop p:=by rw[List.drop_drop,hp]
 have hpl:p≤s.length:=by omega
 rw[hp]
 by_cases hg:(G (s.drop i)).2=true
 ·rw[if_neg (by rw[hg];decide)]
  have hspec: ∀k t n,vA (s.drop p)=(k,t,n)→((sA (s.drop i)).1,(sA (s.drop i)).2.1,((i+(sA (s.drop i)).2.2.1:Nat):Int),((i+(sA (s.drop i)).2.2.2:Nat):Int),((i+(sA (s.drop i)).2.2.2:Nat):Int))=(k,t,(p:Int),((p+n:Nat):Int),((p+n:Nat):Int)):=by
   intro k t n hk
   unfold sA
   rw[if_pos hg,hdp,hk]
   dsimp only
   rw[←Nat.add_assoc,hp]
  by_cases hend:p=s.length
  ·have hnil:s.drop p=[]:=by rw[hend,List.drop_length]
   rw[if_pos (by rw[hend];simp),hspec 4 [] 0 (by rw[hnil];rfl)]
   rfl
  ·have hlt:p<s.length:=by omega
   have hd:=List.drop_eq_getElem_cons hlt
   have hdl:(s.drop p).length=s.length-p:=List.length_drop
   have hb:pA (s.drop p) 0=(s[p].toNat:Int):=by
    rw[hd];exact vI (i:=0) (by simp only[List.length_cons];omega)
   rw[if_neg (by simp;omega),BY,if_pos ⟨by omega,by omega,Int.le_refl _⟩,if_pos ⟨Int.le_refl _,by omega⟩,hb,sQ (n:=123) 123 rfl,sQ (n:=125) 125 rfl,sQ (n:=34) 34 rfl]
   by_cases h1:s[p]=123∨s[p]=125
   ·have hz:oZ (s.drop p) 0 1=[s[p]]:=by rw[hd];rfl
    rw[if_pos (by simpa using h1),if_pos ⟨Int.le_refl _,by decide,by omega⟩,if_pos (rR (by omega)),hz,hspec 3 [s[p]] 1 (by rw[hd];exact PX h1)]
    rfl
   ·rw[if_neg (by simpa using h1)]
    by_cases h2:s[p]=34
    ·have hA:vA (s.drop p)=wE (s.drop (p+1)):=by rw[hd];exact PY h1 h2
     rw[if_pos (by simpa using h2)]
     have hq:=aIa (t:=s.drop (p+1)) (by rw[List.length_drop];omega) s[p] p (by omega)
     rw[←hd] at hq
     rw[hq,Option.bind_some,hspec (wE (s.drop (p+1))).1 (wE (s.drop (p+1))).2.1 (wE (s.drop (p+1))).2.2 hA]
    ·rw[if_neg (by simpa using h2)]
     show (if zX (s[p].toNat:Int)=true then _ else _)=_
     by_cases h3:zX (s[p].toNat:Int)=true
     ·have hw:=a39 (s.drop p)
      rw[hdl] at hw
      rw[if_pos h3,aH9,Option.bind_some,hspec 2 ((s.drop p).take (vQ (s.drop p))) (vQ (s.drop p)) (by rw[hd];exact PZ h1 h2 h3)]
      have hx:(if decide (AX ((s.drop p).findIdx? fun b=> !yG b)<0)=true then some ((s.drop p).length:Int) else some (AX ((s.drop p).findIdx? fun b=> !yG b)))=some (vQ (s.drop p):Int):=by
       unfold vQ
       cases(s.drop p).findIdx? fun b=> !yG b with
       |none=>rw[if_pos (by decide)];rfl
       |some k=>rw[if_neg (by show¬decide ((k:Int)<0)=true;simp)];rfl
      rw[hx]
      unfold qD
      rw[Option.bind_some,if_pos ⟨Int.le_refl _,by omega,by omega⟩,if_pos (by unfold oT;omega),PH]
      rfl
     ·rw[if_neg h3,hspec 0 [] 0 (by rw[hd];exact LW h1 h2 h3)]
      rfl
 ·have hg':(G (s.drop i)).2=false:=by simpa using hg
  rw[if_pos (by rw[hg'];rfl)]
  unfold sA
  rw[if_neg hg]
  dsimp only
  rw[hp]
end Go.Proofs.YtfchbnahjcdiiaaGreatDoor
namespace Go.Proofs.YtfchbnahjcdiiaaGreatDoor
open Vc
set_option maxRecDepth 100000
def kS (s:List UInt8) (P:Nat):Int:=(sA (s.drop P)).1
def xS (s:List UInt8) (P:Nat):List UInt8:=(sA (s.drop P)).2.1
def fS (s:List UInt8) (P:Nat):Nat:=P+(sA (s.drop P)).2.2.1
def nS (s:List UInt8) (P:Nat):Nat:=P+(sA (s.drop P)).2.2.2
theorem rN {s:List UInt8}{P:Nat}(h:P≤s.length):P≤nS s P∧nS s P≤s.length:=by
 have:=aH5 (s.drop P)
 rw[List.length_drop] at this
 unfold nS
 omega
theorem wF {p:Prop}{α:Type}{v:α}:p→(some v).isSome=true:=fun _=>rfl
abbrev C4:=List UInt8×(List (List UInt8)×(List qQ×(List pX×Unit)))
abbrev R8:=Int×Int×List UInt8×Int×Int×Int×Int×Int
def rO (s:List UInt8) (P:Nat) (a:Int):R8:=((nS s P:Int),kS s P,xS s P,(fS s P:Int),(nS s P:Int),a,0,(P:Int))
section
variable {s:List UInt8}(hsm:s.length≤5000) {P:Nat}(hP:P≤s.length) {c:C4}{a e en at0 f t:Int}{k:Int}{x:List UInt8}{ends:List Int}{ids:List (List UInt8×Bool)}
include hsm hP
theorem LZ:qP (s,(((P:Nat):Int),())) (k,(x,(f,(t,())))) a 0 c (ends,(en,())) ids=some ((nS s P:Int),kS s P,xS s P,(fS s P:Int),(nS s P:Int),t):=by
 unfold qP
 dsimp only
 rw[if_pos (by decide),aCC hsm hP]
 rfl
omit hsm hP in
theorem GO (he:e≠0):qP (s,(at0,())) (k,(x,(f,(t,())))) a e c (ends,(en,())) ids=some (at0,k,x,f,t,en):=by
 unfold qP
 dsimp only
 rw[if_neg (by simpa using he)]
omit hsm hP in
theorem Q1 {r1:List UInt8×(Int×Unit)}{code:Int}{r6:List Int×(Int×Unit)}:s7 r1 (k,(x,(f,(t,())))) a 0 c r6 code ids=(f,code):=by
 unfold s7
 rw[if_pos (by decide)]
omit hsm hP in
theorem aCD {r1:List UInt8×(Int×Unit)}{code:Int}{r6:List Int×(Int×Unit)}(he:e≠0):s7 r1 (k,(x,(f,(t,())))) a e c r6 code ids=(a,e):=by
 unfold s7
 rw[if_neg (by simpa using he)]
omit hsm hP in
theorem zE {c':C4}{code:Int}(hc:code≠0):(q6 (s7 (s,(at0,())) (k,(x,(f,(t,())))) a 0 c (ends,(en,())) code ids) fun r=>
  (qP (s,(at0,())) (k,(x,(f,(t,())))) r.1 r.2 c' (ends,(en,())) ids).bind fun r'=>some ((r'.1,r'.2.1,r'.2.2.1,r'.2.2.2.1,r'.2.2.2.2.1,r.1,r.2,r'.2.2.2.2.2):R8))=some (at0,k,x,f,t,f,code,en):=by
 unfold q6
 rw[Q1]
 dsimp only
 rw[GO hc]
 rfl
omit hsm hP in
theorem zF {c':C4}{code:Int}(he:e≠0):(q6 (s7 (s,(at0,())) (k,(x,(f,(t,())))) a e c (ends,(en,())) code ids) fun r=>
  (qP (s,(at0,())) (k,(x,(f,(t,())))) r.1 r.2 c' (ends,(en,())) ids).bind fun r'=>some ((r'.1,r'.2.1,r'.2.2.1,r'.2.2.2.1,r'.2.2.2.2.1,r.1,r.2,r'.2.2.2.2.2):R8))=some (at0,k,x,f,t,a,e,en):=by
 unfold q6
 rw[aCD he]
 dsimp only
 rw[GO he]
 rfl
theorem GP {c':C4}:((qP (s,(((P:Nat):Int),())) (k,(x,(f,(((P:Nat):Int),())))) a 0 c' (ends,(en,())) ids).bind fun r'=>some ((r'.1,r'.2.1,r'.2.2.1,r'.2.2.2.1,r'.2.2.2.2.1,a,0,r'.2.2.2.2.2):R8))=some (rO s P a):=by
 rw[LZ hsm hP]
 rfl
omit hsm hP in
theorem IX {c':C4}(he:e≠0):((qP (s,(at0,())) (k,(x,(f,(t,())))) a e c' (ends,(en,())) ids).bind fun r'=>some ((r'.1,r'.2.1,r'.2.2.1,r'.2.2.2.1,r'.2.2.2.2.1,a,e,r'.2.2.2.2.2):R8))=some (at0,k,x,f,t,a,e,en):=by
 rw[GO he]
 rfl
def rP (bad dup much:Bool):Int:=if bad=true then 3 else if dup=true then 9 else if much=true then 6 else 0
def rU (s:List UInt8) (P:Nat) (a at0 k:Int) (x:List UInt8) (f t en:Int) (code:Int):R8:=if code=0 then rO s P a else(at0,k,x,f,t,f,code,en)
theorem M0 {kind:Int}{text:List UInt8}:v6 (s,(((P:Nat):Int),())) (k,(x,(f,(((P:Nat):Int),())))) a 0 c (ends,(en,())) kind text ids=some (rU s P a P k x f P en (if k=kind∧x=text then 0 else 3)):=by
 unfold v6 rU
 dsimp only
 by_cases h:k=kind∧x=text
 ·rw[if_neg (by simp [h.1,h.2]),GP hsm hP,if_pos h,if_pos rfl]
 ·rw[if_pos (by simp only[decide_true,Bool.true_and,Bool.not_eq_true',Bool.and_eq_false_iff,decide_eq_false_iff_not];exact Decidable.not_and_iff_or_not.1 h),zE (by decide),if_neg h,if_neg (by decide)]
omit hsm hP in
theorem Q2 {kind:Int}{text:List UInt8}(he:e≠0):v6 (s,(at0,())) (k,(x,(f,(t,())))) a e c (ends,(en,())) kind text ids=some (at0,k,x,f,t,a,e,en):=by
 unfold v6
 dsimp only
 rw[if_pos (by simp [he]),zF he]
theorem aIb {kind:Int}:wU (s,(((P:Nat):Int),())) (k,(x,(f,(((P:Nat):Int),())))) a 0 c (ends,(en,())) kind false ids=some (rU s P a P k x f P en (rP (decide (k≠kind)) false false)):=by
 unfold wU rU rP
 dsimp only
 by_cases h:k=kind
 ·rw[if_neg (by simp [h]),if_neg (by decide),if_neg (by decide),GP hsm hP]
  simp [h]
 ·rw[if_pos (by simp [h]),zE (by decide)]
  simp [h]
omit hsm hP in
theorem aIc {kind:Int}(he:e≠0):wU (s,(at0,())) (k,(x,(f,(t,())))) a e c (ends,(en,())) kind false ids=some (at0,k,x,f,t,a,e,en):=by
 unfold wU
 dsimp only
 by_cases h:k=kind
 ·rw[if_neg (by simp [h]),if_neg (by decide),if_neg (by decide),IX he]
 ·rw[if_pos (by simp [h]),zF he]
theorem aId {kind:Int}:wV (s,(((P:Nat):Int),())) (k,(x,(f,(((P:Nat):Int),())))) a 0 c (ends,(en,())) kind false ids=some (rU s P a P k x f P en (rP (decide (k≠kind)|| !wD x) false false)):=by
 unfold wV rU rP
 dsimp only
 rw[aBI,if_pos wF]
 by_cases h:k=kind∧wD x=true
 ·rw[if_neg (by simp [h.1,h.2,val]),if_neg (by decide),if_neg (by decide),GP hsm hP]
  simp [h.1,h.2]
 ·have hb:(!decide (k=kind)|| !val (some (wD x)))=true:=by
   by_cases h1:k=kind
   ·have h2:wD x=false:=by cases h2:wD x with|true=>exact absurd ⟨h1,h2⟩ h|false=>rfl
    simp [h2,val]
   ·simp [h1]
  have hb2:(decide (k≠kind)|| !wD x)=true:=by simpa[val] using hb
  rw[if_pos hb,zE (by decide),hb2]
  simp
omit hsm hP in
theorem aIe {kind:Int}(he:e≠0):wV (s,(at0,())) (k,(x,(f,(t,())))) a e c (ends,(en,())) kind false ids=some (at0,k,x,f,t,a,e,en):=by
 unfold wV
 dsimp only
 rw[aBI,if_pos wF]
 by_cases h:(!decide (k=kind)|| !val (some (wD x)))=true
 ·rw[if_pos h,zF he]
 ·rw[if_neg h,if_neg (by decide),if_neg (by decide),IX he]
theorem aIf {kind:Int}:wW (s,(((P:Nat):Int),())) (k,(x,(f,(((P:Nat):Int),())))) a 0 c (ends,(en,())) kind false ids=some (rU s P a P k x f P en (rP (decide (k≠kind)|| !decide (0≤sH x)) false false)):=by
 unfold wW rU rP
 dsimp only
 rw[(PF x).1,if_pos wF]
 have hb2:(!decide (k=kind)|| !val (some (decide (0≤sH x))))=(decide (k≠kind)|| !decide (0≤sH x)):=by simp [val]
 rw[hb2]
 by_cases h:(decide (k≠kind)|| !decide (0≤sH x))=true
 ·rw[if_pos h,zE (by decide),if_pos h,if_neg (by decide)]
 ·rw[if_neg h,if_neg (by decide),if_neg (by decide),GP hsm hP,if_neg h]
  simp
omit hsm hP in
theorem aIg {kind:Int}(he:e≠0):wW (s,(at0,())) (k,(x,(f,(t,())))) a e c (ends,(en,())) kind false ids=some (at0,k,x,f,t,a,e,en):=by
 unfold wW
 dsimp only
 rw[(PF x).1,if_pos wF]
 by_cases h:(!decide (k=kind)|| !val (some (decide (0≤sH x))))=true
 ·rw[if_pos h,zF he]
 ·rw[if_neg h,if_neg (by decide),if_neg (by decide),IX he]
end
end Go.Proofs.YtfchbnahjcdiiaaGreatDoor
namespace Go.Proofs.YtfchbnahjcdiiaaGreatDoor
open Vc
set_option maxRecDepth 100000
theorem wG {b:Bool}{d m:Bool}(h:b=true):rP b d m=3:=by unfold rP;rw[if_pos h]
theorem IY {b:Bool}{d m:Bool}(h: ¬b=true) (h2:d=true):rP b d m=9:=by unfold rP;rw[if_neg h,if_pos h2]
theorem IZ {b:Bool}{d m:Bool}(h: ¬b=true) (h2: ¬d=true) (h3:m=true):rP b d m=6:=by unfold rP;rw[if_neg h,if_neg h2,if_pos h3]
theorem zY {b:Bool}{d m:Bool}(h: ¬b=true) (h2: ¬d=true) (h3: ¬m=true):rP b d m=0:=by unfold rP;rw[if_neg h,if_neg h2,if_neg h3]
section
variable {s:List UInt8}(hsm:s.length≤5000) {P:Nat}(hP:P≤s.length) {c:C4}{a e en at0 f t:Int}{k:Int}{x:List UInt8}{ends:List Int}{ids:List (List UInt8×Bool)}
 {b9 b10 b11:List UInt8}{b12 b18:List (List UInt8)}{b13:Int×(List qQ×Unit)}{b14:Bool}{b21:List (List UInt8×Bool)}
include hsm hP
theorem aIh {kind:Int}{much:Bool}(hfl:pU b13.2.1):wY (s,(((P:Nat):Int),())) (k,(x,(f,(((P:Nat):Int),())))) a 0 c (ends,(en,())) kind much ids b9 b10 b11 b12 b13 b14 b18 b21=
  some (rU s P a P k x f P en (rP (decide (k≠kind)|| !qU x) (b13.2.1.any fun y=>decide (y.1=x)) much)):=by
 unfold wY GI rU
 dsimp only
 rw[PE,if_pos wF]
 have hb2:(!decide (k=kind)|| !val (some (qU x)))=(decide (k≠kind)|| !qU x):=by simp [val]
 rw[hb2]
 by_cases h:(decide (k≠kind)|| !qU x)=true
 ·rw[if_pos h,zE (by decide),wG h,if_neg (by decide)]
 ·rw[if_neg h,aBQ _ _ hfl,Option.bind_some,Option.bind_some,aBO]
  by_cases h2:(b13.2.1.any fun y=>decide (y.1=x))=true
  ·rw[if_pos h2,zE (by decide),IY h h2,if_neg (by decide)]
  ·rw[if_neg h2]
   by_cases h3:much=true
   ·rw[if_pos h3,zE (by decide),IZ h h2 h3,if_neg (by decide)]
   ·rw[if_neg h3,GP hsm hP,zY h h2 h3,if_pos rfl]
theorem aIi {kind:Int}{much:Bool}(hfl:pU b18):x9 (s,(((P:Nat):Int),())) (k,(x,(f,(((P:Nat):Int),())))) a 0 c (ends,(en,())) kind much ids b9 b10 b11 b12 b13 b14 b18 b21=
  some (rU s P a P k x f P en (rP (decide (k≠kind)|| !qU x) (b18.any fun y=>decide (y=x)) much)):=by
 unfold x9 GH rU
 dsimp only
 rw[PE,if_pos wF]
 have hb2:(!decide (k=kind)|| !val (some (qU x)))=(decide (k≠kind)|| !qU x):=by simp [val]
 rw[hb2]
 by_cases h:(decide (k≠kind)|| !qU x)=true
 ·rw[if_pos h,zE (by decide),wG h,if_neg (by decide)]
 ·rw[if_neg h,aBM _ _ hfl,Option.bind_some,Option.bind_some]
  by_cases h2:(b18.any fun y=>decide (y=x))=true
  ·rw[if_pos h2,zE (by decide),IY h h2,if_neg (by decide)]
  ·rw[if_neg h2]
   by_cases h3:much=true
   ·rw[if_pos h3,zE (by decide),IZ h h2 h3,if_neg (by decide)]
   ·rw[if_neg h3,GP hsm hP,zY h h2 h3,if_pos rfl]
def F2 (x:List UInt8):Bool:= !decide (x=[])&&decide ((x.length:Int)≤200)
theorem aIj {kind:Int}{much:Bool}:xB (s,(((P:Nat):Int),())) (k,(x,(f,(((P:Nat):Int),())))) a 0 c (ends,(en,())) kind much ids=
  some (rU s P a P k x f P en (rP (decide (k≠kind)|| !F2 x) (qE .str .bool ids x) much)):=by
 unfold xB rU
 dsimp only
 have hb2:(!decide (k=kind)|| !(!decide (x=[])&&decide ((x.length:Int)≤200)))=(decide (k≠kind)|| !F2 x):=by simp [F2]
 rw[hb2]
 by_cases h:(decide (k≠kind)|| !F2 x)=true
 ·rw[if_pos h,zE (by decide),wG h,if_neg (by decide)]
 ·rw[if_neg h]
  by_cases h2:qE .str .bool ids x=true
  ·rw[if_pos h2,zE (by decide),IY h h2,if_neg (by decide)]
  ·rw[if_neg h2]
   by_cases h3:much=true
   ·rw[if_pos h3,zE (by decide),IZ h h2 h3,if_neg (by decide)]
   ·rw[if_neg h3,GP hsm hP,zY h h2 h3,if_pos rfl]
omit hsm hP in
theorem aIk {kind:Int}{much:Bool}(he:e≠0):xB (s,(at0,())) (k,(x,(f,(t,())))) a e c (ends,(en,())) kind much ids=some (at0,k,x,f,t,a,e,en):=by
 unfold xB
 dsimp only
 by_cases h:(!decide (k=kind)|| !(!decide (x=[])&&decide ((x.length:Int)≤200)))=true
 ·rw[if_pos h,zF he]
 ·rw[if_neg h]
  by_cases h2:qE .str .bool ids x=true
  ·rw[if_pos h2,zF he]
  ·rw[if_neg h2]
   by_cases h3:much=true
   ·rw[if_pos h3,zF he]
   ·rw[if_neg h3,IX he]
theorem a4a:vL (s,(((P:Nat):Int),())) (k,(x,(f,(((P:Nat):Int),())))) a 0 c (ends,(en,())) b9 b10 b11 b12 b13 b14 ids b18 b21=
  some (rU s P a P k x f P en (if qE .str .bool b21 x=true then 9 else 0)):=by
 unfold vL rU
 dsimp only
 by_cases h:qE .str .bool b21 x=true
 ·rw[if_pos h,if_pos h,if_neg (by decide)]
  unfold q6 qD
  rw[Q1,Option.bind_some]
  dsimp only
  rw[GO (by decide)]
  rfl
 ·rw[if_neg h,if_neg h,if_pos rfl]
  unfold qD
  rw[Option.bind_some]
  dsimp only
  rw[LZ hsm hP]
  rfl
theorem Q3:uZ (s,(((P:Nat):Int),())) (k,(x,(f,(((P:Nat):Int),())))) a 0 c (ends,(en,())) ids=some (rU s P a P k x f P en (rP (decide (k≠1)) false false)):=by
 unfold uZ
 rw[aIb hsm hP]
 rfl
omit hsm hP in
theorem Q4 (he:e≠0):uZ (s,(at0,())) (k,(x,(f,(t,())))) a e c (ends,(en,())) ids=some (at0,k,x,f,t,a,e,en):=by
 unfold uZ
 rw[aIc he]
 rfl
end
end Go.Proofs.YtfchbnahjcdiiaaGreatDoor
namespace Go.Proofs.YtfchbnahjcdiiaaGreatDoor
open Vc
set_option maxRecDepth 100000
def ext {V:Type}(r:R8) (v:V):Int×Int×List UInt8×Int×Int×Int×Int×Int×V:=(r.1,r.2.1,r.2.2.1,r.2.2.2.1,r.2.2.2.2.1,r.2.2.2.2.2.1,r.2.2.2.2.2.2.1,r.2.2.2.2.2.2.2,v)
section
variable {s:List UInt8}(hsm:s.length≤5000) {P:Nat}(hP:P≤s.length) {c:C4}{a e en at0 f t:Int}{k:Int}{x:List UInt8}{ends:List Int}{ids:List (List UInt8×Bool)}
 {b9 b10 b11:List UInt8}{b12 b18:List (List UInt8)}{b13:Int×(List qQ×Unit)}{b14:Bool}{b21:List (List UInt8×Bool)}
include hsm hP
theorem aIl (hl:b12.length≤1000) (h20:b12.length≠20):vM (s,(((P:Nat):Int),())) (k,(x,(f,(((P:Nat):Int),())))) a 0 c (ends,(en,())) b9 b10 b11 b12 b13 b14 ids b18 b21=
  some (ext (rU s (nS s P) a (nS s P) (kS s P) (xS s P) (fS s P) (nS s P) P (rP (decide (kS s P≠1)) false false)) (b12++[xS s P])):=by
 unfold vM
 dsimp only
 rw[if_neg (by simp;omega)]
 unfold qD
 rw[Option.bind_some]
 dsimp only
 rw[LZ hsm hP,Option.bind_some]
 dsimp only
 rw[Q3 hsm (rN hP).2,Option.bind_some,if_pos (by simp;omega)]
 rfl
omit hsm hP in
theorem aIm (h20:b12.length=20): ∃y,vM (s,(at0,())) (k,(x,(f,(t,())))) a 0 c (ends,(en,())) b9 b10 b11 b12 b13 b14 ids b18 b21=some (ext (at0,k,x,f,t,f,6,en) (b12++[y])):=by
 refine⟨x,?_⟩
 unfold vM
 dsimp only
 rw[if_pos (by simp;omega)]
 unfold qD q6
 rw[Q1,Option.bind_some]
 dsimp only
 rw[GO (by decide),Option.bind_some]
 dsimp only
 rw[Q4 (by decide),Option.bind_some,if_pos (by simp;omega)]
 rfl
theorem aIn (hl:b13.2.1.length≤1000): ∃v,xC (s,(((P:Nat):Int),())) (k,(x,(f,(((P:Nat):Int),())))) a 0 c (ends,(en,())) b9 b10 b11 b12 b13 b14 ids b18 b21=
  some (ext (if rP (decide (kS s P≠1)|| !qU (xS s P)) (b13.2.1.any fun y=>decide (y.1=xS s P)) (decide (b13.2.1.length=20))=0 then rU s (nS s (nS s P)) a (nS s (nS s P)) (kS s (nS s P)) (xS s (nS s P)) (fS s (nS s P)) (nS s (nS s P)) (nS s P) (rP (decide (kS s (nS s P)≠1)) false false)
   else((nS s P:Int),kS s P,xS s P,(fS s P:Int),(nS s P:Int),(fS s P:Int),rP (decide (kS s P≠1)|| !qU (xS s P)) (b13.2.1.any fun y=>decide (y.1=xS s P)) (decide (b13.2.1.length=20)),(P:Int))) (AW b13.2.1 (xS s P) v))∧
  (rP (decide (kS s P≠1)|| !qU (xS s P)) (b13.2.1.any fun y=>decide (y.1=xS s P)) (decide (b13.2.1.length=20))=0→v=xS s (nS s P)):=by
 have hfit:pU b13.2.1:=by unfold pU;omega
 have hQ:=(rN hP).2
 have hR:=(rN hQ).2
 have hd:decide ((List.length b13.2.1:Int)=(20:Int))=decide (b13.2.1.length=20):=by
  rw[Bool.eq_iff_iff];simp;omega
 unfold xC
 rw[LZ hsm hP,Option.bind_some]
 dsimp only
 rw[hd,aIh hsm hQ hfit,Option.bind_some]
 generalize rP (decide (kS s P≠1)|| !qU (xS s P)) (b13.2.1.any fun y=>decide (y.1=xS s P)) (decide (b13.2.1.length=20))=code
 unfold rU
 by_cases hc:code=0
 ·refine⟨xS s (nS s P),?_,fun _=>rfl⟩
  rw[if_pos hc,if_pos hc]
  unfold rO
  dsimp only
  rw[Q3 hsm hR,Option.bind_some,aBT _ _ _ hfit]
  rfl
 ·refine⟨xS s P,?_,fun h=>absurd h hc⟩
  rw[if_neg hc,if_neg hc]
  dsimp only
  rw[Q4 hc,Option.bind_some,aBT _ _ _ hfit]
  rfl
theorem aIo: ∃v,xP (s,(((P:Nat):Int),())) (k,(x,(f,(((P:Nat):Int),())))) a 0 c (ends,(en,())) b9 b10 b11 b12 b13 b14 ids b18 b21=
  some (ext (if qE .str .bool b21 x=true then((P:Int),k,x,f,(P:Int),f,9,en) else rU s (nS s P) a (nS s P) (kS s P) (xS s P) (fS s P) (nS s P) P (rP (decide (kS s P≠1)) false false)) v)∧(¬qE .str .bool b21 x=true→v=xS s P):=by
 have hQ:=(rN hP).2
 unfold xP
 rw[a4a hsm hP,Option.bind_some]
 unfold rU
 by_cases h:qE .str .bool b21 x=true
 ·refine⟨x,?_,fun h'=>absurd h h'⟩
  rw[if_pos h,if_neg (by decide),if_pos h]
  dsimp only
  rw[Q4 (by decide),Option.bind_some]
  rfl
 ·refine⟨xS s P,?_,fun _=>rfl⟩
  rw[if_neg h,if_pos rfl,if_neg h]
  unfold rO
  dsimp only
  rw[Q3 hsm hQ,Option.bind_some]
  rfl
theorem aIp: ∃v,xQ (s,(((P:Nat):Int),())) (k,(x,(f,(((P:Nat):Int),())))) a 0 c (ends,(en,())) b9 b10 b11 b12 b13 b14 ids b18 b21=
  some (ext (if qE .str .bool b21 x=true then((P:Int),k,x,f,(P:Int),f,9,en) else rU s (nS s P) a (nS s P) (kS s P) (xS s P) (fS s P) (nS s P) P (rP (decide (kS s P≠1)) false false)) v)∧(¬qE .str .bool b21 x=true→v=xS s P):=by
 have hQ:=(rN hP).2
 unfold xQ
 rw[a4a hsm hP,Option.bind_some]
 unfold rU
 by_cases h:qE .str .bool b21 x=true
 ·refine⟨x,?_,fun h'=>absurd h h'⟩
  rw[if_pos h,if_neg (by decide),if_pos h]
  dsimp only
  rw[Q4 (by decide),Option.bind_some]
  rfl
 ·refine⟨xS s P,?_,fun _=>rfl⟩
  rw[if_neg h,if_pos rfl,if_neg h]
  unfold rO
  dsimp only
  rw[Q3 hsm hQ,Option.bind_some]
  rfl
theorem aIq: ∃v,xO (s,(((P:Nat):Int),())) (k,(x,(f,(((P:Nat):Int),())))) a 0 c (ends,(en,())) b9 b10 b11 b12 b13 b14 ids b18 b21=
  some (ext (if qE .str .bool b21 x=true then((P:Int),k,x,f,(P:Int),f,9,en) else rU s (nS s P) a (nS s P) (kS s P) (xS s P) (fS s P) (nS s P) P (rP (decide (kS s P≠2)|| !decide (0≤sH (xS s P))) false false)) v)∧(¬qE .str .bool b21 x=true→v=max 0 (sH (xS s P))):=by
 have hQ:=(rN hP).2
 unfold xO
 rw[a4a hsm hP,Option.bind_some]
 unfold rU
 by_cases h:qE .str .bool b21 x=true
 ·refine⟨max 0 (sH x),?_,fun h'=>absurd h h'⟩
  rw[if_pos h,if_neg (by decide),if_pos h]
  dsimp only
  rw[aIg (by decide),Option.bind_some]
  show (yX BX x).bind _=_
  rw[(PF x).2]
  rfl
 ·refine⟨max 0 (sH (xS s P)),?_,fun _=>rfl⟩
  rw[if_neg h,if_pos rfl,if_neg h]
  unfold rO
  dsimp only
  rw[aIf hsm hQ,Option.bind_some]
  show (yX BX (xS s P)).bind _=_
  rw[(PF (xS s P)).2]
  rfl
theorem NQ (hl:b18.length≤1000):wC (s,(((P:Nat):Int),())) (k,(x,(f,(((P:Nat):Int),())))) a 0 c (ends,(en,())) b9 b10 b11 b12 b13 b14 ids b18 b21=
  some (ext (rU s (nS s P) a (nS s P) (kS s P) (xS s P) (fS s P) (nS s P) P (rP (decide (kS s P≠2)|| !qU (xS s P)) (b18.any fun y=>decide (y=xS s P)) (decide (b18.length=20)))) (b18++[xS s P])):=by
 have hfit:pU b18:=by unfold pU;omega
 have hQ:=(rN hP).2
 have hd:decide ((((List.length b18):Nat):Int)=(20:Int))=decide (b18.length=20):=by
  rw[Bool.eq_iff_iff];simp;omega
 unfold wC
 rw[LZ hsm hP,Option.bind_some]
 dsimp only
 rw[hd,aIi hsm hQ hfit,Option.bind_some,if_pos (by simp;omega)]
 rfl
end
end Go.Proofs.YtfchbnahjcdiiaaGreatDoor
namespace Go.Proofs.YtfchbnahjcdiiaaGreatDoor
open Vc
set_option maxRecDepth 100000
theorem AZ {k j:Int}(h0:j≠0) (h4:j≠4):kR k=j↔k=j:=by
 unfold kR
 split
 ·rename_i h;subst h;constructor
  ·intro h;exact absurd h.symm h0
  ·intro h;exact absurd h.symm h4
 ·rfl
abbrev E7:=Int×Int×Int×Int×List UInt8×Int×Int
def M1 (s:List UInt8) (P:Nat) (bad:Int) (ok:Bool):E7:=
 if ok=true then((nS s P:Int),bad,0,kR (kS s P),xS s P,(fS s P:Int),(nS s P:Int)) else((P:Int),(fS s P:Int),3,kR (kS s P),xS s P,(fS s P:Int),(nS s P:Int))
theorem zZ {s:List UInt8}{P:Nat}{bad:Int}{ok:Bool}(h:ok=true):M1 s P bad ok=((nS s P:Int),bad,0,kR (kS s P),xS s P,(fS s P:Int),(nS s P:Int)):=if_pos h
theorem A0 {s:List UInt8}{P:Nat}{bad:Int}{ok:Bool}(h: ¬ok=true):M1 s P bad ok=((P:Int),(fS s P:Int),3,kR (kS s P),xS s P,(fS s P:Int),(nS s P:Int)):=if_neg h
section
variable {s:List UInt8}(hsm:s.length≤5000) {P:Nat}(hP:P≤s.length) {c:C4}{bad e:Int}{ends:List Int}{kind:Int}{text:List UInt8}
include hsm hP
theorem M2:zS s (P:Int)=some (kR (kS s P),xS s P,(fS s P:Int),(nS s P:Int)):=aH7 hsm hP
omit hsm hP in
theorem wH {k:Int}{x:List UInt8}{f t:Int}{a:Int}{code:Int}:tQ (s,(a,(bad,(0,(c,(ends,())))))) (k,(x,(f,(t,())))) code=(f,code):=by
 unfold tQ
 exact if_pos (show decide ((0:Int)=0)=true from rfl)
theorem Q5:sU (s,((P:Int),(bad,(0,(c,(ends,())))))) kind text=some (M1 s P bad (decide (kR (kS s P)=kind)&&(decide (text=[])||decide (xS s P=text)))):=by
 unfold sU M1
 dsimp only
 rw[M2 hsm hP,Option.bind_some]
 dsimp only
 rw[if_neg (show¬(!decide ((0:Int)=0))=true from by decide)]
 by_cases h:(decide (kR (kS s P)=kind)&&(decide (text=[])||decide (xS s P=text)))=true
 ·rw[if_pos h,if_neg]
  simp only[Bool.and_eq_true,Bool.or_eq_true,decide_eq_true_eq] at h
  simp only[Bool.or_eq_true,Bool.and_eq_true,Bool.not_eq_true',decide_eq_false_iff_not,not_or,not_and,Decidable.not_not]
  refine⟨h.1,fun ht=> ?_⟩
  rcases h.2 with h2|h2
  ·exact absurd h2 ht
  ·exact h2
 ·rw[if_neg h,if_pos]
  ·unfold q6
   rw[wH]
  ·simp only[Bool.and_eq_true,Bool.or_eq_true,decide_eq_true_eq,not_and,not_or] at h
   simp only[Bool.or_eq_true,Bool.and_eq_true,Bool.not_eq_true',decide_eq_false_iff_not]
   by_cases hk:kR (kS s P)=kind
   ·exact .inr (h hk)
   ·exact .inl hk
theorem a4b (he:e≠0):sU (s,((P:Int),(bad,(e,(c,(ends,())))))) kind text=some ((P:Int),bad,e,kR (kS s P),xS s P,(fS s P:Int),(nS s P:Int)):=by
 unfold sU
 dsimp only
 rw[M2 hsm hP,Option.bind_some]
 dsimp only
 rw[if_pos (by simpa using he)]
theorem DJ {j:Int}(h0:j≠0) (h4:j≠4):sU (s,((P:Int),(bad,(0,(c,(ends,())))))) j []=some (M1 s P bad (decide (kS s P=j))):=by
 rw[Q5 hsm hP]
 congr 2
 rw[Bool.eq_iff_iff]
 simp [AZ h0 h4]
def GQ (s:List UInt8) (P:Nat) (bad:Int) (fl:List qQ):Int×Int×Int×List qQ:=
 if kS s P≠1 then((P:Int),(fS s P:Int),3,fl)
 else if qU (xS s P)=false then((nS s P:Int),(fS s P:Int),3,fl)
 else if (fl.any fun y=>decide (y.1=xS s P))=true then((nS s P:Int),(fS s P:Int),9,fl)
 else if 20≤fl.length then((nS s P:Int),(fS s P:Int),6,fl)
 else if kS s (nS s P)≠1 then((nS s P:Int),(fS s (nS s P):Int),3,AW fl (xS s P) (xS s (nS s P)))
 else((nS s (nS s P):Int),bad,0,AW fl (xS s P) (xS s (nS s P)))
theorem M3:pU (xS s P):=by
 have h1:=hsm
 have:(xS s P).length≤20000:=by
  unfold xS sA
  split
  ·dsimp only
   generalize hr:(s.drop P).drop (G (s.drop P)).1=r
   have hrl:r.length≤s.length:=by rw[←hr,List.length_drop,List.length_drop];omega
   unfold vA
   split
   ·simp
   ·rename_i b t
    simp only[List.length_cons] at hrl
    split
    ·simp
    ·split
     ·unfold wE
      cases he:sE 34 t with
      |none=>simp
      |some n=>
       dsimp only
       split
       ·simp
       ·have:=a34 3 (t.take n)
        rw[List.length_take] at this
        show (zW 3 (t.take n)).1.length≤_
        omega
     ·split
      ·show ((b::t).take _).length≤_
       rw[List.length_take];simp only[List.length_cons];omega
      ·simp
  ·simp
 unfold pU;omega
theorem aIr {i:pX}(hl:i.2.2.2.2.2.2.1.length≤1000):BT (s,((P:Int),(bad,(0,(c,(ends,())))))) i=some (GQ s P bad i.2.2.2.2.2.2.1):=by
 have hfit:pU i.2.2.2.2.2.2.1:=by unfold pU;omega
 have hQ:=(rN hP).2
 unfold BT GQ
 rw[DJ hsm hP (by decide) (by decide),Option.bind_some]
 by_cases h1:kS s P=1
 ·rw[zZ (by simpa using h1),if_neg (show¬kS s P≠1 from by simpa using h1)]
  dsimp only
  rw[if_neg (show¬(!decide ((0:Int)=0))=true from by decide),aHm _ _ hfit,Option.bind_some,aBJ _ (M3 hsm hP),Option.bind_some]
  by_cases h2:qU (xS s P)=true
  ·rw[if_neg (show¬(!qU (xS s P))=true from by simp [h2]),if_neg (show¬qU (xS s P)=false from by simp [h2]),aBO]
   by_cases h3:(i.2.2.2.2.2.2.1.any fun y=>decide (y.1=xS s P))=true
   ·rw[if_pos h3,if_pos h3]
    unfold q6
    rw[wH]
   ·rw[if_neg h3,if_neg h3]
    by_cases h4:20≤i.2.2.2.2.2.2.1.length
    ·rw[if_pos (show decide ((20:Int)≤(i.2.2.2.2.2.2.1.length:Int))=true from by simp;omega),if_pos h4]
     unfold q6
     rw[wH]
    ·rw[if_neg (show¬decide ((20:Int)≤(i.2.2.2.2.2.2.1.length:Int))=true from by simp;omega),if_neg h4,DJ hsm hQ (by decide) (by decide),Option.bind_some]
     by_cases h5:kS s (nS s P)=1
     ·rw[zZ (by simpa using h5),if_neg (show¬kS s (nS s P)≠1 from by simpa using h5)]
      dsimp only
      rw[aBV _ _ _ hfit,Option.bind_some]
     ·rw[A0 (by simpa using h5),if_pos h5]
      dsimp only
      rw[aBV _ _ _ hfit,Option.bind_some]
  ·have h2':qU (xS s P)=false:=by simpa using h2
   rw[if_pos (by simp [h2']),if_pos h2']
   unfold q6
   rw[wH]
 ·rw[A0 (by simpa using h1),if_pos h1]
  dsimp only
  rw[if_pos (show (!decide ((3:Int)=0))=true from by decide)]
def wI (l:List (List UInt8)) (x:List UInt8):Nat:=(l.findIdx? fun y=> !Op.bytesLess y x).getD l.length
def GR (l:List (List UInt8)) (x:List UInt8):List (List UInt8):=l.take (wI l x)++[x]++l.drop (wI l x)
omit hsm hP in
theorem aIs (l:List (List UInt8)) (x:List UInt8):wI l x≤l.length:=by
 unfold wI
 cases h:l.findIdx? fun y=> !Op.bytesLess y x with
 |none=>exact Nat.le_refl _
 |some k=>exact Nat.le_of_lt (List.findIdx?_eq_some_iff_getElem.1 h).1
def GS (s:List UInt8) (P:Nat) (bad:Int) (fl:List (List UInt8)):Int×Int×Int×List (List UInt8):=
 if kS s P≠2 then((P:Int),(fS s P:Int),3,fl)
 else if qU (xS s P)=false then((nS s P:Int),(fS s P:Int),3,fl)
 else if (fl.any fun y=>decide (y=xS s P))=true then((nS s P:Int),(fS s P:Int),9,fl)
 else if 20≤fl.length then((nS s P:Int),(fS s P:Int),6,fl)
 else((nS s P:Int),bad,0,GR fl (xS s P))
theorem aIt {i:pX}(hl:i.2.2.2.2.1.length≤1000):BU (s,((P:Int),(bad,(0,(c,(ends,())))))) i=some (GS s P bad i.2.2.2.2.1):=by
 have hfit:pU i.2.2.2.2.1:=by unfold pU;omega
 unfold BU GS
 rw[DJ hsm hP (by decide) (by decide),Option.bind_some]
 by_cases h1:kS s P=2
 ·rw[zZ (by simpa using h1),if_neg (show¬kS s P≠2 from by simpa using h1)]
  dsimp only
  rw[if_neg (show¬(!decide ((0:Int)=0))=true from by decide),aBJ _ (M3 hsm hP),Option.bind_some]
  by_cases h2:qU (xS s P)=true
  ·rw[if_neg (show¬(!qU (xS s P))=true from by simp [h2]),if_neg (show¬qU (xS s P)=false from by simp [h2]),aHk _ _ hfit,Option.bind_some]
   by_cases h3:(i.2.2.2.2.1.any fun y=>decide (y=xS s P))=true
   ·rw[if_pos h3,if_pos h3]
    unfold q6
    rw[wH]
   ·rw[if_neg h3,if_neg h3]
    by_cases h4:20≤i.2.2.2.2.1.length
    ·rw[if_pos (show decide ((20:Int)≤(i.2.2.2.2.1.length:Int))=true from by simp;omega),if_pos h4]
     unfold q6
     rw[wH]
    ·rw[if_neg (show¬decide ((20:Int)≤(i.2.2.2.2.1.length:Int))=true from by simp;omega),if_neg h4]
     have hk:=aIs i.2.2.2.2.1 (xS s P)
     have h2:=aBU (f:=LK i ((nS s P:Int),bad,0,kR (kS s P),xS s P,(fS s P:Int),(nS s P:Int))) (l:=i.2.2.2.2.1) (fun y=>Op.bytesLess y (xS s P)) (fun j h=>by
      unfold LK
      rw[if_pos (fun _=>qJ h),wS (t:= .str) h,sY h,Bool.true_and,if_pos (rR (by omega))]) (by
      unfold LK
      have hF:decide ((i.2.2.2.2.1.length:Int)<(i.2.2.2.2.1.length:Int))=false:=by simp
      rw[hF,if_pos (fun h=>by simp at h),Bool.false_and,if_neg (by decide)])
     have hins:(i.2.2.2.2.1.findIdx? fun y=> !Op.bytesLess y (xS s P)).getD i.2.2.2.2.1.length=wI i.2.2.2.2.1 (xS s P):=rfl
     rw[hins] at h2
     rw[h2]
     unfold qD
     rw[Option.bind_some,if_pos ⟨Int.le_refl _,by omega,by omega⟩,PH,BY,if_pos (by simp;omega),if_pos (by simp;omega),if_pos ⟨by omega,by omega,Int.le_refl _⟩,if_pos (by simp;omega)]
     simp [GR]
  ·have h2':qU (xS s P)=false:=by simpa using h2
   rw[if_pos (by simp [h2']),if_pos h2']
   unfold q6
   rw[wH]
 ·rw[A0 (by simpa using h1),if_pos h1]
  dsimp only
  rw[if_pos (show (!decide ((3:Int)=0))=true from by decide)]
end
end Go.Proofs.YtfchbnahjcdiiaaGreatDoor
namespace Go.Proofs.YtfchbnahjcdiiaaGreatDoor
open Vc
set_option maxRecDepth 100000
abbrev vR:List UInt8:=[99,111,109,109,101,110,116]
abbrev xV:List UInt8:=[102,105,101,108,100]
abbrev C1:List UInt8:=[102,108,97,103]
abbrev rW:List UInt8:=[115,111,117,114,99,101]
abbrev rX:List UInt8:=[116,97,114,103,101,116]
abbrev sB:List UInt8:=[115,116,97,116,101]
theorem GT {x w:List UInt8}(h:x=w):decide (x=w)=true:=decide_eq_true h
theorem vB {x w:List UInt8}(h:x≠w): ¬decide (x=w)=true:=by simp [h]
section
variable {s:List UInt8}(hsm:s.length≤5000) {P:Nat}(hP:P≤s.length) {c:C4}{bad f t:Int}{ends:List Int}{k:Int}{x:List UInt8}
 {i1 sr tg:List UInt8}{cm fg:List (List UInt8)}{st:Int}{fd:List qQ}{d1 d2 d3 hd:Bool}
include hsm hP
theorem aIu (hx:x=vR) (h20:20≤cm.length):sM (s,((P:Int),(bad,(0,(c,(ends,())))))) (i1,(sr,(tg,(cm,(fg,(st,(fd,()))))))) (d1,(d2,(d3,()))) (k,(x,(f,(t,())))) hd=
  some ((P:Int),f,6,sr,tg,cm,fg,st,fd,d1,d2,d3):=by
 unfold sM
 dsimp only
 rw[if_pos (GT hx),if_pos (show decide ((20:Int)≤(cm.length:Int))=true from by simp;omega)]
 unfold q6
 rw[wH]
theorem aIv (hx:x=vR) (h20: ¬20≤cm.length):sM (s,((P:Int),(bad,(0,(c,(ends,())))))) (i1,(sr,(tg,(cm,(fg,(st,(fd,()))))))) (d1,(d2,(d3,()))) (k,(x,(f,(t,())))) hd=
  some (if kS s P=1 then((nS s P:Int),bad,0,sr,tg,cm++[xS s P],fg,st,fd,d1,d2,d3) else((P:Int),(fS s P:Int),3,sr,tg,cm++[xS s P],fg,st,fd,d1,d2,d3)):=by
 unfold sM
 dsimp only
 rw[if_pos (GT hx),if_neg (show¬decide ((20:Int)≤(cm.length:Int))=true from by simp;omega)]
 rw[DJ hsm hP (by decide) (by decide),Option.bind_some,if_pos (by simp;omega),if_pos (by simp;omega)]
 by_cases h1:kS s P=1
 ·rw[zZ (by simpa using h1),if_pos h1]
  rfl
 ·rw[A0 (by simpa using h1),if_neg h1]
  rfl
theorem aIw (hx:x=xV) (hl:fd.length≤1000):sM (s,((P:Int),(bad,(0,(c,(ends,())))))) (i1,(sr,(tg,(cm,(fg,(st,(fd,()))))))) (d1,(d2,(d3,()))) (k,(x,(f,(t,())))) hd=
  some ((GQ s P bad fd).1,(GQ s P bad fd).2.1,(GQ s P bad fd).2.2.1,sr,tg,cm,fg,st,(GQ s P bad fd).2.2.2,d1,d2,d3):=by
 unfold sM
 dsimp only
 rw[if_neg (vB (by rw[hx];decide)),if_pos (GT hx),aIr hsm hP (i:=(i1,(sr,(tg,(cm,(fg,(st,(fd,())))))))) hl,Option.bind_some]
theorem aIx (h1:x≠vR) (h2:x≠xV):sM (s,((P:Int),(bad,(0,(c,(ends,())))))) (i1,(sr,(tg,(cm,(fg,(st,(fd,()))))))) (d1,(d2,(d3,()))) (k,(x,(f,(t,())))) true=
  some ((P:Int),f,3,sr,tg,cm,fg,st,fd,d1,d2,d3):=by
 unfold sM
 dsimp only
 rw[if_neg (vB h1),if_neg (vB h2),if_pos rfl]
 unfold q6
 rw[wH]
theorem aIy (hx:x=C1) (hl:fg.length≤1000):sM (s,((P:Int),(bad,(0,(c,(ends,())))))) (i1,(sr,(tg,(cm,(fg,(st,(fd,()))))))) (d1,(d2,(d3,()))) (k,(x,(f,(t,())))) false=
  some ((GS s P bad fg).1,(GS s P bad fg).2.1,(GS s P bad fg).2.2.1,sr,tg,cm,(GS s P bad fg).2.2.2,st,fd,d1,d2,d3):=by
 unfold sM
 dsimp only
 rw[if_neg (vB (by rw[hx];decide)),if_neg (vB (by rw[hx];decide)),if_neg Bool.false_ne_true,if_pos (GT hx),aIt hsm hP (i:=(i1,(sr,(tg,(cm,(fg,(st,(fd,())))))))) hl,Option.bind_some]
theorem aIz:(if (decide (x=rW)&&d1)=true then some (decide (x=rW)&&d1) else if (decide (x=rX)&&d2)=true then some (decide (x=rX)&&d2) else some (decide (x=sB)&&d3))=some ((decide (x=rW)&&d1)||(decide (x=rX)&&d2)||(decide (x=sB)&&d3)):=by
 cases(decide (x=rW)&&d1)<;>cases(decide (x=rX)&&d2)<;>rfl
theorem Q6 (h1:x≠vR) (h2:x≠xV) (h3:x≠C1):sM (s,((P:Int),(bad,(0,(c,(ends,())))))) (i1,(sr,(tg,(cm,(fg,(st,(fd,()))))))) (d1,(d2,(d3,()))) (k,(x,(f,(t,())))) false=
  some (if ((decide (x=rW)&&d1)||(decide (x=rX)&&d2)||(decide (x=sB)&&d3))=true then((P:Int),f,9,sr,tg,cm,fg,st,fd,d1,d2,d3)
   else if x=rW then(if kS s P=1 then((nS s P:Int),bad,0,xS s P,tg,cm,fg,st,fd,true,d2,d3) else((P:Int),(fS s P:Int),3,xS s P,tg,cm,fg,st,fd,true,d2,d3))
   else if x=rX then(if kS s P=1 then((nS s P:Int),bad,0,sr,xS s P,cm,fg,st,fd,d1,true,d3) else((P:Int),(fS s P:Int),3,sr,xS s P,cm,fg,st,fd,d1,true,d3))
   else if x=sB then(if kS s P=2 then(if sH (xS s P)<0 then((nS s P:Int),(fS s P:Int),3,sr,tg,cm,fg,sH (xS s P),fd,d1,d2,true) else((nS s P:Int),bad,0,sr,tg,cm,fg,sH (xS s P),fd,d1,d2,true)) else((P:Int),(fS s P:Int),3,sr,tg,cm,fg,sH (xS s P),fd,d1,d2,true))
   else((P:Int),f,3,sr,tg,cm,fg,st,fd,d1,d2,d3)):=by
 unfold sM
 dsimp only
 rw[if_neg (vB h1),if_neg (vB h2),if_neg Bool.false_ne_true,if_neg (vB h3)]
 unfold qD
 rw[show (if (decide (x=([115,111,117,114,99,101]:List UInt8))&&d1)=true then some (decide (x=([115,111,117,114,99,101]:List UInt8))&&d1) else if (decide (x=([116,97,114,103,101,116]:List UInt8))&&d2)=true then some (decide (x=([116,97,114,103,101,116]:List UInt8))&&d2) else some (decide (x=([115,116,97,116,101]:List UInt8))&&d3))=some ((decide (x=rW)&&d1)||(decide (x=rX)&&d2)||(decide (x=sB)&&d3)) from aIz hsm hP,Option.bind_some]
 by_cases hd:((decide (x=rW)&&d1)||(decide (x=rX)&&d2)||(decide (x=sB)&&d3))=true
 ·rw[if_pos hd,if_pos hd]
  unfold q6
  rw[wH]
 ·rw[if_neg hd,if_neg hd]
  by_cases hs:x=rW
  ·rw[if_pos (GT hs),if_pos hs,DJ hsm hP (by decide) (by decide),Option.bind_some]
   by_cases h1:kS s P=1
   ·rw[zZ (by simpa using h1),if_pos h1]
   ·rw[A0 (by simpa using h1),if_neg h1]
  ·rw[if_neg (vB hs),if_neg hs]
   by_cases ht:x=rX
   ·rw[if_pos (GT ht),if_pos ht,DJ hsm hP (by decide) (by decide),Option.bind_some]
    by_cases h1:kS s P=1
    ·rw[zZ (by simpa using h1),if_pos h1]
    ·rw[A0 (by simpa using h1),if_neg h1]
   ·rw[if_neg (vB ht),if_neg ht]
    by_cases ha:x=sB
    ·rw[if_pos (GT ha),if_pos ha,DJ hsm hP (by decide) (by decide),Option.bind_some]
     by_cases h1:kS s P=2
     ·rw[zZ (by simpa using h1),if_pos h1]
      dsimp only
      rw[aBN,if_pos wF]
      by_cases h6:sH (xS s P)<0
      ·rw[if_pos (show (decide ((0:Int)=0)&&decide (val (some (sH (xS s P)))<0))=true from decide_eq_true (p:=sH (xS s P)<0) h6),if_pos h6]
       unfold q6
       rw[wH]
       rfl
      ·rw[if_neg (show¬(decide ((0:Int)=0)&&decide (val (some (sH (xS s P)))<0))=true from fun h=>h6 (of_decide_eq_true (p:=sH (xS s P)<0) h)),if_neg h6]
       rfl
     ·rw[A0 (by simpa using h1),if_neg h1]
      dsimp only
      rw[aBN,if_pos wF,if_neg (show¬(decide ((3:Int)=0)&&decide (val (some (sH (xS s P)))<0))=true from by simp)]
      rfl
    ·rw[if_neg (vB ha),if_neg ha]
     unfold q6
     rw[wH]
end
end Go.Proofs.YtfchbnahjcdiiaaGreatDoor
namespace Go.Proofs.YtfchbnahjcdiiaaGreatDoor
open Vc
set_option maxRecDepth 100000
section
variable {a b c:List UInt8}{d g:List (List UInt8)}{e:Int×(List qQ×Unit)}{en:Bool}{m:List (List UInt8×Bool)}
theorem Q7:uH .str .fn (uE a b c d e en g m) vR=true∧qE .str .fn (uE a b c d e en g m) vR=some 147:=by
 cases en<;>exact⟨rfl,rfl⟩
theorem aCE:uH .str .fn (uE a b c d e en g m) xV=true∧qE .str .fn (uE a b c d e en g m) xV=some 148:=by
 cases en<;>exact⟨rfl,rfl⟩
theorem aCF:uH .str .fn (uE a b c d e true g m) rW=true∧qE .str .fn (uE a b c d e true g m) rW=some 149:=⟨rfl,rfl⟩
theorem aCG:uH .str .fn (uE a b c d e true g m) rX=true∧qE .str .fn (uE a b c d e true g m) rX=some 150:=⟨rfl,rfl⟩
theorem aCH:uH .str .fn (uE a b c d e true g m) sB=true∧qE .str .fn (uE a b c d e true g m) sB=some 151:=⟨rfl,rfl⟩
theorem aCI:uH .str .fn (uE a b c d e true g m) C1=true∧qE .str .fn (uE a b c d e true g m) C1=some 152:=⟨rfl,rfl⟩
end
end Go.Proofs.YtfchbnahjcdiiaaGreatDoor
namespace Go.Proofs.YtfchbnahjcdiiaaGreatDoor
open Vc
set_option maxRecDepth 100000
theorem B0 {v:Ty}(a b:List UInt8) (y:v.den): ∀l:List (List UInt8×v.den),qE .str v (rB .str v a y l) b=if b=a then y else qE .str v l b
 |[]=>by
  show (if decide (b=a)=true then y else v.zero)=if b=a then y else v.zero
  by_cases h:b=a<;>simp [h]
 |(x,z)::r=>by
  have ih:=B0 a b y r
  show qE .str v (if decide (a=x)=true then(a,y)::r else(x,z)::rB .str v a y r) b=if b=a then y else(if decide (b=x)=true then z else qE .str v r b)
  by_cases h:a=x
  ·rw[if_pos (decide_eq_true h)]
   show (if decide (b=a)=true then y else qE .str v r b)=_
   by_cases hb:b=a
   ·rw[if_pos (decide_eq_true hb),if_pos hb]
   ·rw[if_neg (by simpa using hb),if_neg hb,if_neg (by rw[←h];simpa using hb)]
  ·rw[if_neg (by simpa using h)]
   show (if decide (b=x)=true then z else qE .str v (rB .str v a y r) b)=_
   rw[ih]
   by_cases hb:b=a
   ·rw[if_pos hb,if_pos hb,if_neg (by rw[hb];simpa using h)]
   ·rw[if_neg hb,if_neg hb]
section
variable {a b c:List UInt8}{d g:List (List UInt8)}{e:Int×(List qQ×Unit)}{en:Bool}{m:List (List UInt8×Bool)}{x:List UInt8}
theorem aIA (h1:x≠vR) (h2:x≠xV):uH .str .fn (uE a b c d e false g m) x=false:=by
 show (if decide (x=vR)=true then true else if decide (x=xV)=true then true else false)=false
 rw[if_neg (vB h1),if_neg (vB h2)]
theorem aIB (h1:x≠vR) (h2:x≠xV) (h3:x≠rW) (h4:x≠rX) (h5:x≠sB) (h6:x≠C1):uH .str .fn (uE a b c d e true g m) x=false:=by
 show (if decide (x=vR)=true then true else if decide (x=xV)=true then true else if decide (x=rW)=true then true else if decide (x=rX)=true then true else if decide (x=sB)=true then true else if decide (x=C1)=true then true else false)=false
 rw[if_neg (vB h1),if_neg (vB h2),if_neg (vB h3),if_neg (vB h4),if_neg (vB h5),if_neg (vB h6)]
end
abbrev F3:=Int×Int×List UInt8×Int×Int×Int×Int×Int×List UInt8×List UInt8×List (List UInt8)×Int×List qQ×List (List UInt8)×List (List UInt8×Bool)
def qI (r:R8) (sr tg:List UInt8) (cm:List (List UInt8)) (st:Int) (fd:List qQ) (l:List (List UInt8)) (m:List (List UInt8×Bool)):F3:=
 (r.1,r.2.1,r.2.2.1,r.2.2.2.1,r.2.2.2.2.1,r.2.2.2.2.2.1,r.2.2.2.2.2.2.1,r.2.2.2.2.2.2.2,sr,tg,cm,st,fd,l,m)
section
variable {s:List UInt8}(hsm:s.length≤5000) {P:Nat}(hP:P≤s.length) {c:C4}{a en0 at0:Int}{ends:List Int}{ids:List (List UInt8×Bool)}
 {sr tg:List UInt8}{cm l:List (List UInt8)}{st:Int}{fd:List qQ}{m:List (List UInt8×Bool)}{hd:Bool}
include hsm hP
omit hsm hP in
theorem F4 (hk:kS s P=2):(decide ((0:Int)=0)&&decide (kS s P=2))=true:=by simp [hk]
theorem aIC (hk:kS s P=2) (hx:xS s P=vR) (hl:cm.length≤1000) (h20:cm.length≠20):tK (s,(at0,())) c (ends,(en0,())) hd ids (qI (rO s P a) sr tg cm st fd l m)=
  some (.inl (qI (rU s (nS s (nS s P)) a (nS s (nS s P)) (kS s (nS s P)) (xS s (nS s P)) (fS s (nS s P)) (nS s (nS s P)) (nS s P) (rP (decide (kS s (nS s P)≠1)) false false)) sr tg (cm++[xS s (nS s P)]) st fd l m)):=by
 have hQ:=(rN hP).2
 unfold tK qI rO
 dsimp only
 rw[if_pos (F4 hk),hx,if_neg (by rw[Q7.1];decide)]
 unfold q6
 rw[Q7.2]
 dsimp only
 rw[if_pos rfl,aIl hsm hQ hl h20,Option.bind_some]
 rfl
theorem aID (hk:kS s P=2) (hx:xS s P=vR) (h20:cm.length=20): ∃y,tK (s,(at0,())) c (ends,(en0,())) hd ids (qI (rO s P a) sr tg cm st fd l m)=
  some (.inl (qI ((nS s P:Int),kS s P,vR,(fS s P:Int),(nS s P:Int),(fS s P:Int),6,(P:Int)) sr tg (cm++[y]) st fd l m)):=by
 have hQ:=(rN hP).2
 unfold tK qI rO
 dsimp only
 rw[if_pos (F4 hk),hx,if_neg (by rw[Q7.1];decide)]
 unfold q6
 rw[Q7.2]
 dsimp only
 rw[if_pos rfl]
 obtain⟨y,hy⟩:=aIm (c:=(c.1,(c.2.1,(c.2.2.1,(c.2.2.2.1,()))))) (a:=a) (en:=(P:Int)) (at0:=(nS s P:Int)) (f:=(fS s P:Int)) (t:=(nS s P:Int)) (k:=kS s P) (x:=vR) (ends:=ends) (ids:=ids) (b9:=[]) (b10:=sr) (b11:=tg) (b12:=cm) (b18:=l) (b13:=(st,(fd,()))) (b14:=hd) (b21:=m) h20
 rw[hy,Option.bind_some]
 exact⟨y,rfl⟩
theorem aIE (hk:kS s P=2) (hx:xS s P=xV) (hl:fd.length≤1000): ∃v,tK (s,(at0,())) c (ends,(en0,())) hd ids (qI (rO s P a) sr tg cm st fd l m)=
  some (.inl (qI (if (rP (decide (kS s (nS s P)≠1)|| !qU (xS s (nS s P))) (fd.any fun y=>decide (y.1=xS s (nS s P))) (decide (fd.length=20)))=0 then rU s (nS s (nS s (nS s P))) a (nS s (nS s (nS s P))) (kS s (nS s (nS s P))) (xS s (nS s (nS s P))) (fS s (nS s (nS s P))) (nS s (nS s (nS s P))) (nS s (nS s P)) (rP (decide (kS s (nS s (nS s P))≠1)) false false)
   else((nS s (nS s P):Int),kS s (nS s P),xS s (nS s P),(fS s (nS s P):Int),(nS s (nS s P):Int),(fS s (nS s P):Int),(rP (decide (kS s (nS s P)≠1)|| !qU (xS s (nS s P))) (fd.any fun y=>decide (y.1=xS s (nS s P))) (decide (fd.length=20))),((nS s P):Int))) sr tg cm st (AW fd (xS s (nS s P)) v) l m))∧
  ((rP (decide (kS s (nS s P)≠1)|| !qU (xS s (nS s P))) (fd.any fun y=>decide (y.1=xS s (nS s P))) (decide (fd.length=20)))=0→v=xS s (nS s (nS s P))):=by
 have hQ:=(rN hP).2
 unfold tK qI rO
 dsimp only
 rw[if_pos (F4 hk),hx,if_neg (by rw[aCE.1];decide)]
 unfold q6
 rw[aCE.2]
 dsimp only
 rw[if_neg (by decide),if_pos rfl]
 obtain⟨v,hv,h2⟩:=aIn hsm hQ (c:=(c.1,(c.2.1,(c.2.2.1,(c.2.2.2.1,()))))) (a:=a) (en:=(P:Int)) (f:=(fS s P:Int)) (k:=kS s P) (x:=xV) (ends:=ends) (ids:=ids) (b9:=[]) (b10:=sr) (b11:=tg) (b12:=cm) (b18:=l) (b13:=(st,(fd,()))) (b14:=hd) (b21:=m) hl
 refine⟨v,?_,h2⟩
 rw[hv,Option.bind_some]
 rfl
theorem aIF (hk:kS s P=2) (hx:xS s P=rW): ∃v,tK (s,(at0,())) c (ends,(en0,())) true ids (qI (rO s P a) sr tg cm st fd l m)=
  some (.inl (qI (if qE .str .bool m rW=true then(((nS s P):Int),kS s P,rW,(fS s P:Int),((nS s P):Int),(fS s P:Int),9,(P:Int)) else rU s (nS s (nS s P)) a (nS s (nS s P)) (kS s (nS s P)) (xS s (nS s P)) (fS s (nS s P)) (nS s (nS s P)) (nS s P) (rP (decide (kS s (nS s P)≠1)) false false)) v tg cm st fd l (rB .str .bool rW true m)))∧
  (¬qE .str .bool m rW=true→v=xS s (nS s P)):=by
 have hQ:=(rN hP).2
 unfold tK qI rO
 dsimp only
 rw[if_pos (F4 hk),hx,if_neg (by rw[aCF.1];decide)]
 unfold q6
 rw[aCF.2]
 dsimp only
 rw[if_neg (by decide),if_neg (by decide),if_pos rfl]
 obtain⟨v,hv,h2⟩:=aIo hsm hQ (c:=(c.1,(c.2.1,(c.2.2.1,(c.2.2.2.1,()))))) (a:=a) (en:=(P:Int)) (f:=(fS s P:Int)) (k:=kS s P) (x:=rW) (ends:=ends) (ids:=ids) (b9:=[]) (b10:=sr) (b11:=tg) (b12:=cm) (b18:=l) (b13:=(st,(fd,()))) (b14:=true) (b21:=m)
 refine⟨v,?_,h2⟩
 rw[hv,Option.bind_some]
 rfl
theorem aIG (hk:kS s P=2) (hx:xS s P=rX): ∃v,tK (s,(at0,())) c (ends,(en0,())) true ids (qI (rO s P a) sr tg cm st fd l m)=
  some (.inl (qI (if qE .str .bool m rX=true then(((nS s P):Int),kS s P,rX,(fS s P:Int),((nS s P):Int),(fS s P:Int),9,(P:Int)) else rU s (nS s (nS s P)) a (nS s (nS s P)) (kS s (nS s P)) (xS s (nS s P)) (fS s (nS s P)) (nS s (nS s P)) (nS s P) (rP (decide (kS s (nS s P)≠1)) false false)) sr v cm st fd l (rB .str .bool rX true m)))∧
  (¬qE .str .bool m rX=true→v=xS s (nS s P)):=by
 have hQ:=(rN hP).2
 unfold tK qI rO
 dsimp only
 rw[if_pos (F4 hk),hx,if_neg (by rw[aCG.1];decide)]
 unfold q6
 rw[aCG.2]
 dsimp only
 rw[if_neg (by decide),if_neg (by decide),if_neg (by decide),if_pos rfl]
 obtain⟨v,hv,h2⟩:=aIp hsm hQ (c:=(c.1,(c.2.1,(c.2.2.1,(c.2.2.2.1,()))))) (a:=a) (en:=(P:Int)) (f:=(fS s P:Int)) (k:=kS s P) (x:=rX) (ends:=ends) (ids:=ids) (b9:=[]) (b10:=sr) (b11:=tg) (b12:=cm) (b18:=l) (b13:=(st,(fd,()))) (b14:=true) (b21:=m)
 refine⟨v,?_,h2⟩
 rw[hv,Option.bind_some]
 rfl
theorem aIH (hk:kS s P=2) (hx:xS s P=sB): ∃v,tK (s,(at0,())) c (ends,(en0,())) true ids (qI (rO s P a) sr tg cm st fd l m)=
  some (.inl (qI (if qE .str .bool m sB=true then(((nS s P):Int),kS s P,sB,(fS s P:Int),((nS s P):Int),(fS s P:Int),9,(P:Int)) else rU s (nS s (nS s P)) a (nS s (nS s P)) (kS s (nS s P)) (xS s (nS s P)) (fS s (nS s P)) (nS s (nS s P)) (nS s P) (rP (decide (kS s (nS s P)≠2)|| !decide (0≤sH (xS s (nS s P)))) false false)) sr tg cm v fd l (rB .str .bool sB true m)))∧
  (¬qE .str .bool m sB=true→v=max 0 (sH (xS s (nS s P)))):=by
 have hQ:=(rN hP).2
 unfold tK qI rO
 dsimp only
 rw[if_pos (F4 hk),hx,if_neg (by rw[aCH.1];decide)]
 unfold q6
 rw[aCH.2]
 dsimp only
 rw[if_neg (by decide),if_neg (by decide),if_neg (by decide),if_neg (by decide),if_pos rfl]
 obtain⟨v,hv,h2⟩:=aIq hsm hQ (c:=(c.1,(c.2.1,(c.2.2.1,(c.2.2.2.1,()))))) (a:=a) (en:=(P:Int)) (f:=(fS s P:Int)) (k:=kS s P) (x:=sB) (ends:=ends) (ids:=ids) (b9:=[]) (b10:=sr) (b11:=tg) (b12:=cm) (b18:=l) (b13:=(st,(fd,()))) (b14:=true) (b21:=m)
 refine⟨v,?_,h2⟩
 rw[hv,Option.bind_some]
 rfl
theorem aII (hk:kS s P=2) (hx:xS s P=C1) (hl:l.length≤1000):tK (s,(at0,())) c (ends,(en0,())) true ids (qI (rO s P a) sr tg cm st fd l m)=
  some (.inl (qI (rU s (nS s (nS s P)) a (nS s (nS s P)) (kS s (nS s P)) (xS s (nS s P)) (fS s (nS s P)) (nS s (nS s P)) (nS s P) (rP (decide (kS s (nS s P)≠2)|| !qU (xS s (nS s P))) (l.any fun y=>decide (y=xS s (nS s P))) (decide (l.length=20)))) sr tg cm st fd (l++[xS s (nS s P)]) m)):=by
 have hQ:=(rN hP).2
 unfold tK qI rO
 dsimp only
 rw[if_pos (F4 hk),hx,if_neg (by rw[aCI.1];decide)]
 unfold q6
 rw[aCI.2]
 dsimp only
 rw[if_neg (by decide),if_neg (by decide),if_neg (by decide),if_neg (by decide),if_neg (by decide),if_pos rfl]
 rw[NQ hsm hQ hl,Option.bind_some]
 rfl
theorem aCJ (hk:kS s P=2) (hx: ∀b c' d e g m',uH .str .fn (uE [] b c' d e hd g m') (xS s P)=false):tK (s,(at0,())) c (ends,(en0,())) hd ids (qI (rO s P a) sr tg cm st fd l m)=
  some (.inr (qI ((nS s P:Int),kS s P,xS s P,(fS s P:Int),(nS s P:Int),(fS s P:Int),3,(P:Int)) sr tg cm st fd l m)):=by
 unfold tK qI rO
 dsimp only
 rw[if_pos (F4 hk),if_pos (by rw[hx];rfl)]
 unfold q6
 rw[Q1]
theorem aIJ (hk:kS s P≠2):tK (s,(at0,())) c (ends,(en0,())) hd ids (qI (rO s P a) sr tg cm st fd l m)=
  some (.inr (qI (rO s P a) sr tg cm st fd l m)):=by
 unfold tK qI rO
 dsimp only
 rw[if_neg (by simp [hk])]
omit hsm hP in
theorem a4c {r:R8}(he:r.2.2.2.2.2.2.1≠0):tK (s,(at0,())) c (ends,(en0,())) hd ids (qI r sr tg cm st fd l m)=
  some (.inr (qI r sr tg cm st fd l m)):=by
 unfold tK qI
 dsimp only
 rw[if_neg (by simp [he])]
end
end Go.Proofs.YtfchbnahjcdiiaaGreatDoor
namespace Go.Proofs.YtfchbnahjcdiiaaGreatDoor
open Vc
set_option maxRecDepth 100000
theorem a4d: ∀(x y:List UInt8),Op.bytesLess x y=decide (x<y)
 |[],[]=>by simp [Op.bytesLess]
 |_::_,[]=>by simp [Op.bytesLess]
 |[],_::_=>by simp [Op.bytesLess]
 |a::x,b::y=>by
  rw[Op.bytesLess,a4d x y]
  simp only[List.cons_lt_cons_iff]
  by_cases h1:a<b<;>by_cases h2:a=b<;>by_cases h3:x<y<;>simp [h1,h2,h3]
theorem aCK (l:List (List UInt8)):(tP l).Pairwise (·≤·):=by
 have:=List.pairwise_mergeSort (le:=fun x y:List UInt8=>decide (x≤y)) (fun a b c h1 h2=>decide_eq_true (List.le_trans (of_decide_eq_true h1) (of_decide_eq_true h2))) (fun a b=>by simpa using List.le_total a b) l
 exact this.imp (fun h=>of_decide_eq_true h)
theorem Q8 (l:List (List UInt8)):(tP l).Perm l:=List.mergeSort_perm l _
theorem a4e (l:List (List UInt8)):(tP l).length=l.length:=(Q8 l).length_eq
theorem aIK (l:List (List UInt8)) (p:List UInt8→Bool):(tP l).any p=l.any p:=(Q8 l).any_eq
theorem aIL (l:List (List UInt8)) (x:List UInt8):(GR l x).Perm (l++[x]):=by
 unfold GR
 have h:(l.take (wI l x)++l.drop (wI l x))=l:=List.take_append_drop _ _
 have h2:(l.take (wI l x)++[x]++l.drop (wI l x)).Perm (l.take (wI l x)++(l.drop (wI l x)++[x])):=by
  rw[List.append_assoc]
  exact List.Perm.append_left _ List.perm_append_comm
 have h3:l.take (wI l x)++(l.drop (wI l x)++[x])=l++[x]:=by rw[←List.append_assoc,h]
 rw[h3] at h2
 exact h2
theorem aIM {l:List (List UInt8)}(x:List UInt8) (h:l.Pairwise (·≤·)):(GR l x).Pairwise (·≤·):=by
 have ht: ∀y∈l.take (wI l x),y≤x:=by
  intro y hy
  obtain⟨j,hj,rfl⟩:=List.mem_iff_getElem.1 hy
  rw[List.length_take] at hj
  rw[List.getElem_take]
  have:Op.bytesLess l[j] x=true:=by
   have hk:wI l x=(l.findIdx? fun y=> !Op.bytesLess y x).getD l.length:=rfl
   cases hf:l.findIdx? fun y=> !Op.bytesLess y x with
   |none=>
    have:=List.findIdx?_eq_none_iff.1 hf l[j] (List.getElem_mem _)
    simpa using this
   |some n=>
    rw[hf] at hk
    have:=(List.findIdx?_eq_some_iff_getElem.1 hf).2.2 j (by rw[hk] at hj;simp only[Option.getD_some] at hj;omega)
    simpa using this
  rw[a4d] at this
  exact List.le_of_lt (of_decide_eq_true this)
 have hd: ∀y∈l.drop (wI l x),x≤y:=by
  intro y hy
  have hk:wI l x=(l.findIdx? fun y=> !Op.bytesLess y x).getD l.length:=rfl
  cases hf:l.findIdx? fun y=> !Op.bytesLess y x with
  |none=>
   rw[hf] at hk
   rw[hk] at hy
   simp at hy
  |some n=>
   rw[hf] at hk
   obtain⟨hn,h1,h2⟩:=List.findIdx?_eq_some_iff_getElem.1 hf
   have hx:x≤l[n]:=by
    rw[a4d] at h1
    simp only[Bool.not_eq_true',decide_eq_false_iff_not] at h1
    exact List.not_lt.1 h1
   rw[hk] at hy
   simp only[Option.getD_some] at hy
   rw[List.drop_eq_getElem_cons hn] at hy
   rcases List.mem_cons.1 hy with rfl|hy
   ·exact hx
   ·have hp:(l.drop n).Pairwise (·≤·):=h.sublist (List.drop_sublist _ _)
    rw[List.drop_eq_getElem_cons hn] at hp
    exact List.le_trans hx ((List.pairwise_cons.1 hp).1 y hy)
 unfold GR
 rw[List.append_assoc]
 refine List.pairwise_append.2 ⟨h.sublist (List.take_sublist _ _),List.pairwise_append.2 ⟨List.pairwise_singleton _ _,h.sublist (List.drop_sublist _ _),?_⟩,?_⟩
 ·intro a ha b hb
  rw[List.mem_singleton.1 ha];exact hd b hb
 ·intro a ha b hb
  have hax:=ht a ha
  rcases List.mem_append.1 hb with hb|hb
  ·rw[List.mem_singleton.1 hb];exact hax
  ·exact List.le_trans hax (hd b hb)
theorem aIN (l:List (List UInt8)) (x:List UInt8):GR (tP l) x=tP (l++[x]):=
 List.Perm.eq_of_pairwise (fun _ _ _ _ h1 h2=>List.le_antisymm h1 h2) (aIM x (aCK l)) (aCK _)
  ((aIL _ _).trans (((Q8 l).append_right _).trans (Q8 _).symm))
theorem aIO {b:UInt8}{t:List UInt8}(h:zX b.toNat=true):0<vQ (b::t):=by
 unfold vQ
 have hw:yG b=true:=by
  unfold yG a38
  simp [h]
 rw[List.findIdx?_cons,if_neg (by simp [hw])]
 cases t.findIdx? fun b=> !yG b with
 |none=>simp
 |some n=>simp
theorem aIP {l:List UInt8}(h0:(vA l).1≠0) (h4:(vA l).1≠4):0<(vA l).2.2:=by
 cases l with
 |nil=>exact absurd rfl h4
 |cons b t=>
  by_cases h1:b=123∨b=125
  ·rw[PX h1];exact Nat.one_pos
  ·by_cases h2:b=34
   ·rw[PY h1 h2] at h0⊢
    unfold wE at*
    cases he:sE 34 t with
    |none=>rw[he] at h0;exact absurd rfl h0
    |some n=>
     rw[he] at h0
     dsimp only at*
     split
     ·rename_i hh;rw[if_pos hh] at h0;exact absurd rfl h0
     ·exact Nat.succ_pos _
   ·by_cases h3:zX b.toNat=true
    ·rw[PZ h1 h2 h3];exact aIO h3
    ·rw[LW h1 h2 h3] at h0;exact absurd rfl h0
theorem A1 {s:List UInt8}{P:Nat}(h0:kS s P≠0) (h4:kS s P≠4):P<nS s P:=by
 unfold kS at*
 unfold nS
 unfold sA at*
 split
 ·rename_i hg
  rw[if_pos hg] at h0 h4
  have:=aIP h0 h4
  dsimp only
  omega
 ·rename_i hg
  rw[if_neg hg] at h0
  exact absurd rfl h0
end Go.Proofs.YtfchbnahjcdiiaaGreatDoor
namespace Go.Proofs.YtfchbnahjcdiiaaGreatDoor
open Vc
set_option maxRecDepth 100000
abbrev Q9:=Int×Int×Int×List UInt8×List UInt8×List (List UInt8)×List (List UInt8)×Int×List qQ×Bool×Bool×Bool
section
variable {s:List UInt8}(hsm:s.length≤5000) {P:Nat}(hP:P≤s.length) {c:C4}{bad bad0 at0 e0:Int}{ends:List Int}
 {i1 sr tg:List UInt8}{cm fg:List (List UInt8)}{st:Int}{fd:List qQ}{i:pX}{d1 d2 d3 hd:Bool}
include hsm hP
theorem F5 (hk:kS s P=2):zT (s,(at0,(bad0,(e0,(c,(ends,())))))) i hd ((P:Int),bad,0,sr,tg,cm,fg,st,fd,d1,d2,d3)=
  (sM (s,((nS s P:Int),(bad,(0,(c,(ends,())))))) (i.1,(sr,(tg,(cm,(fg,(st,(fd,()))))))) (d1,(d2,(d3,()))) (2,(xS s P,((fS s P:Int),((nS s P:Int),())))) hd).bind fun r=>
   some (.inl (r.1,r.2.1,r.2.2.1,r.2.2.2.1,r.2.2.2.2.1,r.2.2.2.2.2.1,r.2.2.2.2.2.2.1,r.2.2.2.2.2.2.2.1,r.2.2.2.2.2.2.2.2.1,r.2.2.2.2.2.2.2.2.2.1,r.2.2.2.2.2.2.2.2.2.2.1,r.2.2.2.2.2.2.2.2.2.2.2)):=by
 have hkR:kR (kS s P)=2:=(AZ (by decide) (by decide)).2 hk
 unfold zT
 dsimp only
 rw[if_pos (show decide ((0:Int)=0)=true from rfl),M2 hsm hP,Option.bind_some]
 dsimp only
 rw[hkR,if_neg (show¬(decide ((2:Int)=3)&&decide (xS s P=[125]))=true from by simp),if_neg (show¬(!decide ((2:Int)=2))=true from by simp)]
theorem aIQ (hk:kS s P=3) (hx:xS s P=[125]) (he:ends.length≤5000):zT (s,(at0,(bad0,(e0,(c,(ends,())))))) i hd ((P:Int),bad,0,sr,tg,cm,fg,st,fd,d1,d2,d3)=
  some (.inr (.inr ((nS s P:Int),bad,0,ends++[(nS s P:Int)],sr,tg,cm,fg,st,fd))):=by
 have hkR:kR (kS s P)=3:=(AZ (by decide) (by decide)).2 hk
 unfold zT
 dsimp only
 rw[if_pos (show decide ((0:Int)=0)=true from rfl),M2 hsm hP,Option.bind_some]
 dsimp only
 rw[hkR,if_pos (show (decide ((3:Int)=3)&&decide (xS s P=[125]))=true from by simp [hx]),if_pos (by simp;omega),if_pos (by simp;omega)]
 rfl
theorem aIR (hk:kS s P≠2) (hx: ¬(kS s P=3∧xS s P=[125])):zT (s,(at0,(bad0,(e0,(c,(ends,())))))) i hd ((P:Int),bad,0,sr,tg,cm,fg,st,fd,d1,d2,d3)=
  some (.inr (.inr ((P:Int),(fS s P:Int),3,ends,sr,tg,cm,fg,st,fd))):=by
 have hk2:kR (kS s P)≠2:=fun h=>hk ((AZ (by decide) (by decide)).1 h)
 have hk3: ¬(kR (kS s P)=3∧xS s P=[125]):=fun h=>hx ⟨(AZ (by decide) (by decide)).1 h.1,h.2⟩
 unfold zT
 dsimp only
 rw[if_pos (show decide ((0:Int)=0)=true from rfl),M2 hsm hP,Option.bind_some]
 dsimp only
 rw[if_neg (show¬(decide (kR (kS s P)=3)&&decide (xS s P=[125]))=true from by simpa using hk3),if_pos (show (!decide (kR (kS s P)=2))=true from by simpa using hk2)]
 unfold q6
 rw[wH]
omit hsm hP in
theorem a4f {e p:Int}(he:e≠0):zT (s,(at0,(bad0,(e0,(c,(ends,())))))) i hd (p,bad,e,sr,tg,cm,fg,st,fd,d1,d2,d3)=
  some (.inr (.inl (p,bad,e,sr,tg,cm,fg,st,fd))):=by
 unfold zT
 dsimp only
 rw[if_neg (show¬decide (e=0)=true from by simpa using he)]
def Good (s:List UInt8) (P:Nat) (a bad:Int) (ps:F3⊕F3) (rs:Q9):Prop:=
 ∃(P':Nat) (sr tg:List UInt8) (cm:List (List UInt8)) (st:Int) (fd:List qQ) (l:List (List UInt8)) (m:List (List UInt8×Bool)),
  P<P'∧P'≤s.length∧ps= .inl (qI (rO s P' a) sr tg cm st fd l m)∧rs=((P':Int),bad,0,sr,tg,cm,tP l,st,fd,qE .str .bool m rW,qE .str .bool m rX,qE .str .bool m sB)∧
  cm.length≤20∧fd.length≤20∧l.length≤20
def i8 (ps:F3⊕F3) (rs:Q9):Prop:=
 ∃(r:R8) (sr tg:List UInt8) (cm:List (List UInt8)) (st:Int) (fd:List qQ) (l:List (List UInt8)) (m:List (List UInt8×Bool)),
  r.2.2.2.2.2.2.1≠0∧(ps= .inl (qI r sr tg cm st fd l m)∨ps= .inr (qI r sr tg cm st fd l m))∧l.length≤21∧rs.2.1=r.2.2.2.2.2.1∧rs.2.2.1=r.2.2.2.2.2.2.1
end
end Go.Proofs.YtfchbnahjcdiiaaGreatDoor
namespace Go.Proofs.YtfchbnahjcdiiaaGreatDoor
open Vc
set_option maxRecDepth 100000
theorem aIS (d1 d2 d3:Bool):((decide (rW=rW)&&d1)||(decide (rW=rX)&&d2)||(decide (rW=sB)&&d3))=d1:=by cases d1<;>cases d2<;>cases d3<;>rfl
theorem aIT (d1 d2 d3:Bool):((decide (rX=rW)&&d1)||(decide (rX=rX)&&d2)||(decide (rX=sB)&&d3))=d2:=by cases d1<;>cases d2<;>cases d3<;>rfl
theorem aIU (d1 d2 d3:Bool):((decide (sB=rW)&&d1)||(decide (sB=rX)&&d2)||(decide (sB=sB)&&d3))=d3:=by cases d1<;>cases d2<;>cases d3<;>rfl
theorem A2 {s:List UInt8}{P:Nat}{a at0 k:Int}{x:List UInt8}{f t en code:Int}(h:code=0):rU s P a at0 k x f t en code=rO s P a:=if_pos h
theorem uO {s:List UInt8}{P:Nat}{a at0 k:Int}{x:List UInt8}{f t en code:Int}(h:code≠0):rU s P a at0 k x f t en code=(at0,k,x,f,t,f,code,en):=if_neg h
theorem vS {r:R8}{sr tg:List UInt8}{cm:List (List UInt8)}{st:Int}{fd:List qQ}{l:List (List UInt8)}{m:List (List UInt8×Bool)}{rs:Q9}{f e:Int}
  (h1:r.2.2.2.2.2.1=f) (h2:r.2.2.2.2.2.2.1=e) (he:e≠0) (hl:l.length≤21) (h3:rs.2.1=f) (h4:rs.2.2.1=e):i8 (.inl (qI r sr tg cm st fd l m)) rs:=
 ⟨r,sr,tg,cm,st,fd,l,m,by rw[h2];exact he,.inl rfl,hl,h3.trans h1.symm,h4.trans h2.symm⟩
theorem aCL {r:R8}{sr tg:List UInt8}{cm:List (List UInt8)}{st:Int}{fd:List qQ}{l:List (List UInt8)}{m:List (List UInt8×Bool)}{rs:Q9}{f e:Int}
  (h1:r.2.2.2.2.2.1=f) (h2:r.2.2.2.2.2.2.1=e) (he:e≠0) (hl:l.length≤21) (h3:rs.2.1=f) (h4:rs.2.2.1=e):i8 (.inr (qI r sr tg cm st fd l m)) rs:=
 ⟨r,sr,tg,cm,st,fd,l,m,by rw[h2];exact he,.inr rfl,hl,h3.trans h1.symm,h4.trans h2.symm⟩
section
variable {s:List UInt8}(hsm:s.length≤5000) {P:Nat}(hP:P≤s.length) {c c2:C4}{a en0 at0 at1 bad bad0 e0:Int}{ends ends2:List Int}{ids:List (List UInt8×Bool)}
 {sr tg:List UInt8}{cm l:List (List UInt8)}{st:Int}{fd:List qQ}{m:List (List UInt8×Bool)}{hd:Bool}{i:pX}
include hsm hP
def wJ (s:List UInt8) (P:Nat) (c c2:C4) (a en0 at0 at1 bad bad0 e0:Int) (ends ends2:List Int) (ids:List (List UInt8×Bool)) (sr tg:List UInt8) (cm l:List (List UInt8)) (st:Int) (fd:List qQ) (m:List (List UInt8×Bool)) (hd:Bool) (i:pX):Prop:=
 ∃ps rs,tK (s,(at0,())) c (ends,(en0,())) hd ids (qI (rO s P a) sr tg cm st fd l m)=some ps∧
  zT (s,(at1,(bad0,(e0,(c2,(ends2,())))))) i (!hd) ((P:Int),bad,0,sr,tg,cm,tP l,st,fd,qE .str .bool m rW,qE .str .bool m rX,qE .str .bool m sB)=some (.inl rs)∧
  (Good s P a bad ps rs∨i8 ps rs)
theorem aIV (hk:kS s P=2) (hx:xS s P=vR) (h1:cm.length≤20) (h2:fd.length≤20) (h3:l.length≤20):wJ s P c c2 a en0 at0 at1 bad bad0 e0 ends ends2 ids sr tg cm l st fd m hd i:=by
 have hQ:=(rN hP).2
 have hPQ:P<nS s P:=A1 (by omega) (by omega)
 have hR:=rN hQ
 unfold wJ
 rw[F5 hsm hP hk]
 by_cases h20:cm.length=20
 ·obtain⟨y,hy⟩:=aID (c:=c) (a:=a) (en0:=en0) (at0:=at0) (ends:=ends) (ids:=ids) (sr:=sr) (tg:=tg) (l:=l) (st:=st) (fd:=fd) (m:=m) (hd:=hd) hsm hP hk hx h20
  rw[hy,aIu hsm hQ hx (by omega),Option.bind_some]
  exact⟨_,_,rfl,rfl,.inr (vS rfl rfl (show (6:Int)≠0 from by decide) (by omega) rfl rfl)⟩
 ·rw[aIC hsm hP hk hx (by omega) h20,aIv hsm hQ hx (by omega),Option.bind_some]
  by_cases hk1:kS s (nS s P)=1
  ·rw[if_pos hk1,A2 (zY (by simp [hk1]) (by simp) (by simp))]
   exact⟨_,_,rfl,rfl,.inl ⟨nS s (nS s P),sr,tg,cm++[xS s (nS s P)],st,fd,l,m,by omega,hR.2,rfl,rfl,by simp;omega,h2,h3⟩⟩
  ·rw[if_neg hk1,wG (by simp [hk1]),uO (by decide)]
   exact⟨_,_,rfl,rfl,.inr (vS rfl rfl (show (3:Int)≠0 from by decide) (by omega) rfl rfl)⟩
theorem aIW (hk:kS s P=2) (hx:xS s P=rW) (h1:cm.length≤20) (h2:fd.length≤20) (h3:l.length≤20):wJ s P c c2 a en0 at0 at1 bad bad0 e0 ends ends2 ids sr tg cm l st fd m true i:=by
 have hQ:=(rN hP).2
 have hPQ:P<nS s P:=A1 (by omega) (by omega)
 have hR:=rN hQ
 unfold wJ
 rw[F5 hsm hP hk,show (!true)=false from rfl,hx,Q6 hsm hQ (by decide) (by decide) (by decide),aIS,Option.bind_some]
 obtain⟨v,hv,h5⟩:=aIF (c:=c) (a:=a) (en0:=en0) (at0:=at0) (ends:=ends) (ids:=ids) (sr:=sr) (tg:=tg) (cm:=cm) (l:=l) (st:=st) (fd:=fd) (m:=m) hsm hP hk hx
 rw[hv]
 by_cases hd1:qE .str .bool m rW=true
 ·rw[if_pos hd1,if_pos hd1]
  exact⟨_,_,rfl,rfl,.inr (vS rfl rfl (show (9:Int)≠0 from by decide) (by omega) rfl rfl)⟩
 ·rw[if_neg hd1,if_neg hd1,if_pos rfl,h5 hd1]
  by_cases hk1:kS s (nS s P)=1
  ·rw[if_pos hk1,A2 (zY (by simp [hk1]) (by simp) (by simp))]
   refine⟨_,_,rfl,rfl,.inl ⟨nS s (nS s P),xS s (nS s P),tg,cm,st,fd,l,rB .str .bool rW true m,by omega,hR.2,rfl,?_,h1,h2,h3⟩⟩
   rw[B0,B0,B0,if_pos rfl,if_neg (by decide),if_neg (by decide)]
  ·rw[if_neg hk1,wG (by simp [hk1]),uO (by decide)]
   exact⟨_,_,rfl,rfl,.inr (vS rfl rfl (show (3:Int)≠0 from by decide) (by omega) rfl rfl)⟩
theorem aIX (hk:kS s P=2) (hx:xS s P=rX) (h1:cm.length≤20) (h2:fd.length≤20) (h3:l.length≤20):wJ s P c c2 a en0 at0 at1 bad bad0 e0 ends ends2 ids sr tg cm l st fd m true i:=by
 have hQ:=(rN hP).2
 have hPQ:P<nS s P:=A1 (by omega) (by omega)
 have hR:=rN hQ
 unfold wJ
 rw[F5 hsm hP hk,show (!true)=false from rfl,hx,Q6 hsm hQ (by decide) (by decide) (by decide),aIT,Option.bind_some]
 obtain⟨v,hv,h5⟩:=aIG (c:=c) (a:=a) (en0:=en0) (at0:=at0) (ends:=ends) (ids:=ids) (sr:=sr) (tg:=tg) (cm:=cm) (l:=l) (st:=st) (fd:=fd) (m:=m) hsm hP hk hx
 rw[hv]
 by_cases hd1:qE .str .bool m rX=true
 ·rw[if_pos hd1,if_pos hd1]
  exact⟨_,_,rfl,rfl,.inr (vS rfl rfl (show (9:Int)≠0 from by decide) (by omega) rfl rfl)⟩
 ·rw[if_neg hd1,if_neg hd1,if_neg (by decide),if_pos rfl,h5 hd1]
  by_cases hk1:kS s (nS s P)=1
  ·rw[if_pos hk1,A2 (zY (by simp [hk1]) (by simp) (by simp))]
   refine⟨_,_,rfl,rfl,.inl ⟨nS s (nS s P),sr,xS s (nS s P),cm,st,fd,l,rB .str .bool rX true m,by omega,hR.2,rfl,?_,h1,h2,h3⟩⟩
   rw[B0,B0,B0,if_neg (by decide),if_pos rfl,if_neg (by decide)]
  ·rw[if_neg hk1,wG (by simp [hk1]),uO (by decide)]
   exact⟨_,_,rfl,rfl,.inr (vS rfl rfl (show (3:Int)≠0 from by decide) (by omega) rfl rfl)⟩
theorem aIY (hk:kS s P=2) (hx:xS s P=sB) (h1:cm.length≤20) (h2:fd.length≤20) (h3:l.length≤20):wJ s P c c2 a en0 at0 at1 bad bad0 e0 ends ends2 ids sr tg cm l st fd m true i:=by
 have hQ:=(rN hP).2
 have hPQ:P<nS s P:=A1 (by omega) (by omega)
 have hR:=rN hQ
 unfold wJ
 rw[F5 hsm hP hk,show (!true)=false from rfl,hx,Q6 hsm hQ (by decide) (by decide) (by decide),aIU,Option.bind_some]
 obtain⟨v,hv,h5⟩:=aIH (c:=c) (a:=a) (en0:=en0) (at0:=at0) (ends:=ends) (ids:=ids) (sr:=sr) (tg:=tg) (cm:=cm) (l:=l) (st:=st) (fd:=fd) (m:=m) hsm hP hk hx
 rw[hv]
 by_cases hd1:qE .str .bool m sB=true
 ·rw[if_pos hd1,if_pos hd1]
  exact⟨_,_,rfl,rfl,.inr (vS rfl rfl (show (9:Int)≠0 from by decide) (by omega) rfl rfl)⟩
 ·rw[if_neg hd1,if_neg hd1,if_neg (by decide),if_neg (by decide),if_pos rfl,h5 hd1]
  by_cases hk1:kS s (nS s P)=2
  ·rw[if_pos hk1]
   by_cases h6:sH (xS s (nS s P))<0
   ·rw[if_pos h6,wG (by simp [hk1];omega),uO (by decide)]
    exact⟨_,_,rfl,rfl,.inr (vS rfl rfl (show (3:Int)≠0 from by decide) (by omega) rfl rfl)⟩
   ·rw[if_neg h6,A2 (zY (by simp [hk1];omega) (by simp) (by simp)),show max 0 (sH (xS s (nS s P)))=sH (xS s (nS s P)) by omega]
    refine⟨_,_,rfl,rfl,.inl ⟨nS s (nS s P),sr,tg,cm,sH (xS s (nS s P)),fd,l,rB .str .bool sB true m,by omega,hR.2,rfl,?_,h1,h2,h3⟩⟩
    rw[B0,B0,B0,if_neg (by decide),if_neg (by decide),if_pos rfl]
  ·rw[if_neg hk1,wG (by simp [hk1]),uO (by decide)]
   exact⟨_,_,rfl,rfl,.inr (vS rfl rfl (show (3:Int)≠0 from by decide) (by omega) rfl rfl)⟩
theorem aIZ (hk:kS s P=2) (hx:xS s P=xV) (h1:cm.length≤20) (h2:fd.length≤20) (h3:l.length≤20):wJ s P c c2 a en0 at0 at1 bad bad0 e0 ends ends2 ids sr tg cm l st fd m hd i:=by
 have hQ:=(rN hP).2
 have hPQ:P<nS s P:=A1 (by omega) (by omega)
 have hR:=rN hQ
 have hR2:=rN hR.2
 unfold wJ
 rw[F5 hsm hP hk,aIw hsm hQ hx (by omega),Option.bind_some]
 obtain⟨v,hv,h5⟩:=aIE (c:=c) (a:=a) (en0:=en0) (at0:=at0) (ends:=ends) (ids:=ids) (sr:=sr) (tg:=tg) (cm:=cm) (l:=l) (st:=st) (fd:=fd) (m:=m) (hd:=hd) hsm hP hk hx (by omega)
 rw[hv]
 unfold GQ
 by_cases hk1:kS s (nS s P)=1
 ·rw[if_neg (show¬kS s (nS s P)≠1 from fun h=>h hk1)]
  by_cases hn:qU (xS s (nS s P))=true
  ·rw[if_neg (show¬qU (xS s (nS s P))=false from by simp [hn])]
   have hb: ¬(decide (kS s (nS s P)≠1)|| !qU (xS s (nS s P)))=true:=by simp [hk1,hn]
   by_cases hdup:(fd.any fun y=>decide (y.1=xS s (nS s P)))=true
   ·rw[if_pos hdup,IY hb hdup,if_neg (show¬(9:Int)=0 from by decide)]
    exact⟨_,_,rfl,rfl,.inr (vS rfl rfl (show (9:Int)≠0 from by decide) (by omega) rfl rfl)⟩
   ·rw[if_neg hdup]
    by_cases h20:fd.length=20
    ·rw[if_pos (show 20≤fd.length by omega),IZ hb hdup (decide_eq_true h20),if_neg (show¬(6:Int)=0 from by decide)]
     exact⟨_,_,rfl,rfl,.inr (vS rfl rfl (show (6:Int)≠0 from by decide) (by omega) rfl rfl)⟩
    ·have hc:=zY hb hdup (show¬decide (fd.length=20)=true from by simp [h20])
     rw[if_neg (show¬20≤fd.length by omega),h5 hc,hc,if_pos rfl]
     by_cases hk2:kS s (nS s (nS s P))=1
     ·rw[if_neg (show¬kS s (nS s (nS s P))≠1 from fun h=>h hk2),A2 (zY (by simp [hk2]) (by simp) (by simp))]
      have hl:=aHn fd (xS s (nS s P)) (xS s (nS s (nS s P)))
      exact⟨_,_,rfl,rfl,.inl ⟨nS s (nS s (nS s P)),sr,tg,cm,st,AW fd (xS s (nS s P)) (xS s (nS s (nS s P))),l,m,by omega,hR2.2,rfl,rfl,h1,by omega,h3⟩⟩
     ·rw[if_pos hk2,wG (by simp [hk2]),uO (by decide)]
      exact⟨_,_,rfl,rfl,.inr (vS rfl rfl (show (3:Int)≠0 from by decide) (by omega) rfl rfl)⟩
  ·have hn':qU (xS s (nS s P))=false:=by simpa using hn
   rw[if_pos hn',wG (by simp [hn']),if_neg (show¬(3:Int)=0 from by decide)]
   exact⟨_,_,rfl,rfl,.inr (vS rfl rfl (show (3:Int)≠0 from by decide) (by omega) rfl rfl)⟩
 ·rw[if_pos hk1,wG (by simp [hk1]),if_neg (show¬(3:Int)=0 from by decide)]
  exact⟨_,_,rfl,rfl,.inr (vS rfl rfl (show (3:Int)≠0 from by decide) (by omega) rfl rfl)⟩
theorem aI0 (hk:kS s P=2) (hx:xS s P=C1) (h1:cm.length≤20) (h2:fd.length≤20) (h3:l.length≤20):wJ s P c c2 a en0 at0 at1 bad bad0 e0 ends ends2 ids sr tg cm l st fd m true i:=by
 have hQ:=(rN hP).2
 have hPQ:P<nS s P:=A1 (by omega) (by omega)
 have hR:=rN hQ
 have hsl:=a4e l
 unfold wJ
 rw[F5 hsm hP hk,show (!true)=false from rfl,aIy hsm hQ hx (by omega),Option.bind_some,aII hsm hP hk hx (by omega)]
 unfold GS
 rw[aIK,hsl,aIN]
 by_cases hk1:kS s (nS s P)=2
 ·rw[if_neg (show¬kS s (nS s P)≠2 from fun h=>h hk1)]
  by_cases hn:qU (xS s (nS s P))=true
  ·rw[if_neg (show¬qU (xS s (nS s P))=false from by simp [hn])]
   have hb: ¬(decide (kS s (nS s P)≠2)|| !qU (xS s (nS s P)))=true:=by simp [hk1,hn]
   by_cases hdup:(l.any fun y=>decide (y=xS s (nS s P)))=true
   ·rw[if_pos hdup,IY hb hdup,uO (by decide)]
    exact⟨_,_,rfl,rfl,.inr (vS rfl rfl (show (9:Int)≠0 from by decide) (by simp;omega) rfl rfl)⟩
   ·rw[if_neg hdup]
    by_cases h20:l.length=20
    ·rw[if_pos (show 20≤l.length by omega),IZ hb hdup (decide_eq_true h20),uO (by decide)]
     exact⟨_,_,rfl,rfl,.inr (vS rfl rfl (show (6:Int)≠0 from by decide) (by simp;omega) rfl rfl)⟩
    ·rw[if_neg (show¬20≤l.length by omega),A2 (zY hb hdup (show¬decide (l.length=20)=true from by simp [h20]))]
     exact⟨_,_,rfl,rfl,.inl ⟨nS s (nS s P),sr,tg,cm,st,fd,l++[xS s (nS s P)],m,by omega,hR.2,rfl,rfl,h1,h2,by simp;omega⟩⟩
  ·have hn':qU (xS s (nS s P))=false:=by simpa using hn
   rw[if_pos hn',wG (by simp [hn']),uO (by decide)]
   exact⟨_,_,rfl,rfl,.inr (vS rfl rfl (show (3:Int)≠0 from by decide) (by simp;omega) rfl rfl)⟩
 ·rw[if_pos hk1,wG (by simp [hk1]),uO (by decide)]
  exact⟨_,_,rfl,rfl,.inr (vS rfl rfl (show (3:Int)≠0 from by decide) (by simp;omega) rfl rfl)⟩
theorem aI1 (hk:kS s P=2) (hx:xS s P≠vR) (hx2:xS s P≠xV) (h3:l.length≤20):wJ s P c c2 a en0 at0 at1 bad bad0 e0 ends ends2 ids sr tg cm l st fd m false i:=by
 have hQ:=(rN hP).2
 unfold wJ
 rw[F5 hsm hP hk,show (!false)=true from rfl,aIx hsm hQ hx hx2,Option.bind_some,aCJ hsm hP hk (fun _ _ _ _ _ _=>aIA hx hx2)]
 exact⟨_,_,rfl,rfl,.inr (aCL rfl rfl (show (3:Int)≠0 from by decide) (by omega) rfl rfl)⟩
theorem aI2 (hk:kS s P=2) (hx:xS s P≠vR) (hx2:xS s P≠xV) (hx3:xS s P≠rW) (hx4:xS s P≠rX) (hx5:xS s P≠sB) (hx6:xS s P≠C1) (h3:l.length≤20):wJ s P c c2 a en0 at0 at1 bad bad0 e0 ends ends2 ids sr tg cm l st fd m true i:=by
 have hQ:=(rN hP).2
 unfold wJ
 rw[F5 hsm hP hk,show (!true)=false from rfl,Q6 hsm hQ hx hx2 hx6,Option.bind_some,aCJ hsm hP hk (fun _ _ _ _ _ _=>aIB hx hx2 hx3 hx4 hx5 hx6),
  if_neg (by simp [hx3,hx4,hx5]),if_neg hx3,if_neg hx4,if_neg hx5]
 exact⟨_,_,rfl,rfl,.inr (aCL rfl rfl (show (3:Int)≠0 from by decide) (by omega) rfl rfl)⟩
theorem aI3 (hk:kS s P=2) (h1:cm.length≤20) (h2:fd.length≤20) (h3:l.length≤20):wJ s P c c2 a en0 at0 at1 bad bad0 e0 ends ends2 ids sr tg cm l st fd m hd i:=by
 by_cases hx:xS s P=vR
 ·exact aIV hsm hP hk hx h1 h2 h3
 by_cases hx2:xS s P=xV
 ·exact aIZ hsm hP hk hx2 h1 h2 h3
 cases hd with
 |false=>exact aI1 hsm hP hk hx hx2 h3
 |true=>
  by_cases hx3:xS s P=rW
  ·exact aIW hsm hP hk hx3 h1 h2 h3
  by_cases hx4:xS s P=rX
  ·exact aIX hsm hP hk hx4 h1 h2 h3
  by_cases hx5:xS s P=sB
  ·exact aIY hsm hP hk hx5 h1 h2 h3
  by_cases hx6:xS s P=C1
  ·exact aI0 hsm hP hk hx6 h1 h2 h3
  exact aI2 hsm hP hk hx hx2 hx3 hx4 hx5 hx6 h3
end
end Go.Proofs.YtfchbnahjcdiiaaGreatDoor
namespace Go.Proofs.YtfchbnahjcdiiaaGreatDoor
open Vc
set_option maxRecDepth 100000
abbrev S9:=Int×Int×Int×List UInt8×List UInt8×List (List UInt8)×List (List UInt8)×Int×List qQ
abbrev J0:=Int×Int×Int×List Int×List UInt8×List UInt8×List (List UInt8)×List (List UInt8)×Int×List qQ
def aI4 (s:List UInt8) (P:Nat) (a bad:Int) (ends2:List Int) (po:F3) (ro:S9⊕J0):Prop:=
 ∃(P':Nat) (sr tg:List UInt8) (cm:List (List UInt8)) (st:Int) (fd:List qQ) (l:List (List UInt8)) (m:List (List UInt8×Bool)),
  P≤P'∧P'≤s.length∧kS s P'=3∧xS s P'=[125]∧po=qI (rO s P' a) sr tg cm st fd l m∧ro= .inr ((nS s P':Int),bad,0,ends2++[(nS s P':Int)],sr,tg,cm,tP l,st,fd)∧
  cm.length≤20∧fd.length≤20∧l.length≤20
def aI5 (s:List UInt8) (P:Nat) (a:Int) (po:F3) (ro:S9⊕J0):Prop:=
 ∃(P':Nat) (sr tg:List UInt8) (cm:List (List UInt8)) (st:Int) (fd:List qQ) (l:List (List UInt8)) (m:List (List UInt8×Bool)) (r:J0),
  P≤P'∧P'≤s.length∧¬(kS s P'=3∧xS s P'=[125])∧po=qI (rO s P' a) sr tg cm st fd l m∧ro= .inr r∧r.2.1=(fS s P':Int)∧r.2.2.1=3∧l.length≤21
def aI6 (po:F3) (ro:S9⊕J0):Prop:=
 ∃(r:R8) (sr tg:List UInt8) (cm:List (List UInt8)) (st:Int) (fd:List qQ) (l:List (List UInt8)) (m:List (List UInt8×Bool)) (r9:S9),
  r.2.2.2.2.2.2.1≠0∧po=qI r sr tg cm st fd l m∧l.length≤21∧ro= .inl r9∧r9.2.1=r.2.2.2.2.2.1∧r9.2.2.1=r.2.2.2.2.2.2.1
theorem J1 {σ ρ:Type}{f:σ→Option (σ⊕ρ)}{x y:σ}(h:f x=some (.inl y)):pR f x=pR f y:=by
 rw[uW,h];rfl
theorem wK {σ ρ:Type}{f:σ→Option (σ⊕ρ)}{x:σ}{r:ρ}(h:f x=some (.inr r)):pR f x=some r:=by
 rw[uW,h];rfl
section
variable {s:List UInt8}(hsm:s.length≤5000) {c c2:C4}{a en0 at0 at1 bad bad0 e0:Int}{ends ends2:List Int}(hends:ends2.length≤5000) {ids:List (List UInt8×Bool)}{hd:Bool}{i:pX}
include hsm hends
theorem aCM: ∀(n P:Nat) (sr tg:List UInt8) (cm l:List (List UInt8)) (st:Int) (fd:List qQ) (m:List (List UInt8×Bool)),
  s.length-P≤n→P≤s.length→cm.length≤20→fd.length≤20→l.length≤20→
  ∃po ro,pR (tK (s,(at0,())) c (ends,(en0,())) hd ids) (qI (rO s P a) sr tg cm st fd l m)=some po∧
   pR (zT (s,(at1,(bad0,(e0,(c2,(ends2,())))))) i (!hd)) ((P:Int),bad,0,sr,tg,cm,tP l,st,fd,qE .str .bool m rW,qE .str .bool m rX,qE .str .bool m sB)=some ro∧
   (aI4 s P a bad ends2 po ro∨aI5 s P a po ro∨aI6 po ro)
 |n,P,sr,tg,cm,l,st,fd,m,hn,hP,h1,h2,h3=>by
  by_cases hk:kS s P=2
  ·obtain⟨ps,rs,hp,hr,hgb⟩:=aI3 (c:=c) (c2:=c2) (a:=a) (en0:=en0) (at0:=at0) (at1:=at1) (bad:=bad) (bad0:=bad0) (e0:=e0) (ends:=ends) (ends2:=ends2) (ids:=ids) (sr:=sr) (tg:=tg) (st:=st) (m:=m) (hd:=hd) (i:=i) hsm hP hk h1 h2 h3
   rw[J1 hr]
   rcases hgb with⟨P',sr',tg',cm',st',fd',l',m',g1,g2,rfl,rfl,g3,g4,g5⟩ |⟨r,sr',tg',cm',st',fd',l',m',b1,b2,b3,b4,b5⟩
   ·rw[J1 hp]
    match n,hn with
    |0,hn=>exact absurd g2 (by omega)
    |n+1,hn=>
     obtain⟨po,ro,i1,i2,i3⟩:=aCM n P' sr' tg' cm' l' st' fd' m' (by omega) g2 g3 g4 g5
     refine⟨po,ro,i1,i2,?_⟩
     rcases i3 with⟨Q,x1,x2,x3,x4,x5,x6,x7,y1,y2⟩ |⟨Q,x1,x2,x3,x4,x5,x6,x7,x8,y1,y2⟩ |h
     ·exact .inl ⟨Q,x1,x2,x3,x4,x5,x6,x7,by omega,y2⟩
     ·exact .inr (.inl ⟨Q,x1,x2,x3,x4,x5,x6,x7,x8,by omega,y2⟩)
     ·exact .inr (.inr h)
   ·obtain⟨q1,q2,q3,q4⟩:=rs
    have hre:q3≠0:=by rw[show q3=r.2.2.2.2.2.2.1 from b5];exact b1
    rw[wK (a4f (s:=s) (c:=c2) (bad:=q2) (bad0:=bad0) (at0:=at1) (e0:=e0) (ends:=ends2) (i:=i) (hd:= !hd) (p:=q1) (sr:=q4.1) (tg:=q4.2.1) (cm:=q4.2.2.1) (fg:=q4.2.2.2.1) (st:=q4.2.2.2.2.1) (fd:=q4.2.2.2.2.2.1) (d1:=q4.2.2.2.2.2.2.1) (d2:=q4.2.2.2.2.2.2.2.1) (d3:=q4.2.2.2.2.2.2.2.2) hre)]
    rcases b2 with rfl|rfl
    ·rw[J1 hp,wK (a4c b1)]
     exact⟨_,_,rfl,rfl,.inr (.inr ⟨r,sr',tg',cm',st',fd',l',m',_,b1,rfl,b3,rfl,b4,b5⟩)⟩
    ·rw[wK hp]
     exact⟨_,_,rfl,rfl,.inr (.inr ⟨r,sr',tg',cm',st',fd',l',m',_,b1,rfl,b3,rfl,b4,b5⟩)⟩
  ·rw[wK (aIJ hsm hP hk)]
   by_cases hb:kS s P=3∧xS s P=[125]
   ·rw[wK (aIQ hsm hP hb.1 hb.2 hends)]
    exact⟨_,_,rfl,rfl,.inl ⟨P,sr,tg,cm,st,fd,l,m,Nat.le_refl _,hP,hb.1,hb.2,rfl,rfl,h1,h2,h3⟩⟩
   ·rw[wK (aIR hsm hP hk hb)]
    exact⟨_,_,rfl,rfl,.inr (.inl ⟨P,sr,tg,cm,st,fd,l,m,_,Nat.le_refl _,hP,hb,rfl,rfl,rfl,rfl,by omega⟩)⟩
end
end Go.Proofs.YtfchbnahjcdiiaaGreatDoor
namespace Go.Proofs.YtfchbnahjcdiiaaGreatDoor
open Vc
set_option maxRecDepth 100000
abbrev a4h (y:pX):Prop:=pU y.2.2.2.1∧pU y.2.2.2.2.1∧pU y.2.2.2.2.2.2.1
abbrev B15:=List UInt8×List UInt8×List (List UInt8)×List (List UInt8)×Int×List qQ×Int×Int×List UInt8×Int×Int×Int×Int×List Int×Int
abbrev i0 (i1:List UInt8):pX:=(i1,([],([],([],([],(0,([],())))))))
def aI7 (s:List UInt8) (P:Nat) (a bad:Int) (ends ends2:List Int) (po:B15) (ro:J0):Prop:=
 ∃(P':Nat) (sr tg:List UInt8) (cm fg:List (List UInt8)) (st:Int) (fd:List qQ),P<P'∧P'≤s.length∧
  po=(sr,tg,cm,fg,st,fd,(nS s P':Int),kS s P',xS s P',(fS s P':Int),(nS s P':Int),a,0,ends++[(P':Int)],(P':Int))∧
  ro=((P':Int),bad,0,ends2++[(P':Int)],sr,tg,cm,fg,st,fd)∧pU cm∧pU fg∧pU fd
def aI8 (po:B15) (ro:J0):Prop:=
 po.2.2.2.2.2.2.2.2.2.2.2.2.1≠0∧ro.2.1=po.2.2.2.2.2.2.2.2.2.2.2.1∧ro.2.2.1=po.2.2.2.2.2.2.2.2.2.2.2.2.1
section
variable {s:List UInt8}(hsm:s.length≤5000) {P:Nat}(hP:P≤s.length) {c c2:C4}{a en at0 bad k f t e:Int}{x i1:List UInt8}{ends ends2:List Int}(hends:ends.length≤5000) (hends2:ends2.length≤5000) {ids:List (List UInt8×Bool)}{hd:Bool}{i:pX}
include hends
theorem F6 (he:e≠0): ∃po,tE (s,(at0,())) (k,(x,(f,(t,())))) a e c (ends,(en,())) hd ids=some po∧po.2.2.2.2.2.2.2.2.2.2.2.1=a∧po.2.2.2.2.2.2.2.2.2.2.2.2.1=e:=by
 unfold tE
 rw[Q2 he,Option.bind_some]
 dsimp only
 have h:=wK (a4c (s:=s) (at0:=at0) (c:=c) (ends:=ends) (en0:=en) (ids:=ids) (hd:=hd) (sr:=[]) (tg:=[]) (cm:=[]) (st:=0) (fd:=[]) (l:=[]) (m:=[]) (r:=(at0,k,x,f,t,a,e,en)) he)
 unfold qI at h
 dsimp only at h
 rw[h]
 unfold qD
 rw[Option.bind_some]
 dsimp only
 rw[Q2 he,Option.bind_some,if_pos (by decide),if_pos (by simp;omega)]
 exact⟨_,rfl,rfl,rfl⟩
include hsm hP hends2
theorem aCO: ∃po ro,tE (s,((nS s P:Int),())) (kS s P,(xS s P,((fS s P:Int),((nS s P:Int),())))) a 0 c (ends,(en,())) hd ids=some po∧
  uY (s,((P:Int),(bad,(0,(c2,(ends2,())))))) (i0 i1) (!hd)=some ro∧(aI7 s P a bad ends ends2 po ro∨aI8 po ro):=by
 have hQ:=(rN hP).2
 unfold tE uY
 rw[M0 hsm hQ,Option.bind_some,Q5 hsm hP,Option.bind_some]
 by_cases h0:kS s P=3∧xS s P=[123]
 ·have hPQ:P<nS s P:=A1 (by omega) (by omega)
  rw[if_pos h0,A2 rfl,zZ (by rw[(AZ (by decide) (by decide)).2 h0.1,h0.2];decide)]
  obtain⟨po,ro,h1,h2,h3⟩:=aCM (c:=c) (c2:=c2) (a:=a) (en0:=en) (at0:=(nS s P:Int)) (at1:=(P:Int)) (bad:=bad) (bad0:=bad) (e0:=0) (ends:=ends) (ids:=ids) (hd:=hd) (i:=i0 i1) hsm hends2 s.length (nS s P) [] [] [] [] 0 [] [] (by omega) hQ (by decide) (by decide) (by decide)
  unfold qI at h1
  rw[show tP []=[] from List.length_eq_zero_iff.1 (a4e []),show qE .str .bool [] rW=false from rfl,show qE .str .bool [] rX=false from rfl,show qE .str .bool [] sB=false from rfl] at h2
  dsimp only
  rw[h1]
  rw[h2]
  unfold qD
  rw[Option.bind_some]
  rcases h3 with⟨P',sr,tg,cm,st,fd,l,m,g1,g2,g3,g4,rfl,rfl,g5,g6,g7⟩ |⟨P',sr,tg,cm,st,fd,l,m,r,g1,g2,g3,rfl,rfl,g4,g5,g6⟩ |⟨r,sr,tg,cm,st,fd,l,m,r9,g1,rfl,g2,rfl,g3,g4⟩
  ·have hQ':=rN g2
   have hpos:P'<nS s P':=A1 (by omega) (by omega)
   unfold qI rO
   dsimp only
   rw[M0 hsm hQ'.2,if_pos ⟨g3,g4⟩,A2 rfl,Option.bind_some,if_pos (by omega),if_pos (by simp;omega)]
   exact⟨_,_,rfl,rfl,.inl ⟨nS s P',sr,tg,cm,tP l,st,fd,by omega,hQ'.2,rfl,rfl,by unfold pU;omega,by unfold pU;rw[a4e];omega,by unfold pU;omega⟩⟩
  ·have hQ':=rN g2
   unfold qI rO
   dsimp only
   rw[M0 hsm hQ'.2,if_neg g3,uO (by decide),Option.bind_some,if_pos (by omega),if_pos (by simp;omega)]
   exact⟨_,_,rfl,rfl,.inr ⟨show (3:Int)≠0 from by decide,g4,g5⟩⟩
  ·unfold qI
   dsimp only
   rw[Q2 g1,Option.bind_some,if_pos (by omega),if_pos (by simp;omega)]
   exact⟨_,_,rfl,rfl,.inr ⟨g1,g3,g4⟩⟩
 ·rw[if_neg h0,uO (by decide),A0 (by simp only[Bool.and_eq_true,Bool.or_eq_true,decide_eq_true_eq,AZ (show (3:Int)≠0 by decide) (show (3:Int)≠4 by decide)];intro hh;rcases hh with⟨u,v|v⟩;exact absurd v (by decide);exact h0 ⟨u,v⟩)]
  dsimp only
  have h:=wK (a4c (s:=s) (at0:=(nS s P:Int)) (c:=c) (ends:=ends) (en0:=en) (ids:=ids) (hd:=hd) (sr:=[]) (tg:=[]) (cm:=[]) (st:=0) (fd:=[]) (l:=[]) (m:=[]) (r:=((nS s P:Int),kS s P,xS s P,(fS s P:Int),(nS s P:Int),(fS s P:Int),3,en)) (show (3:Int)≠0 from by decide))
  unfold qI at h
  dsimp only at h
  rw[h,wK (a4f (show (3:Int)≠0 from by decide))]
  unfold qD
  rw[Option.bind_some]
  dsimp only
  rw[Q2 (by decide),Option.bind_some,if_pos (by decide),if_pos (by simp;omega)]
  exact⟨_,_,rfl,rfl,.inr ⟨show (3:Int)≠0 from by decide,rfl,rfl⟩⟩
end
section
variable {s:List UInt8}(hsm:s.length≤5000) {P:Nat}(hP:P≤s.length) {c2:C4}{bad e:Int}{i1:List UInt8}{ends2:List Int}{hd:Bool}{i:pX}
include hsm hP
theorem a4i (he:e≠0): ∃ro,uY (s,((P:Int),(bad,(e,(c2,(ends2,())))))) i hd=some ro∧ro.2.1=bad∧ro.2.2.1=e:=by
 unfold uY
 rw[a4b hsm hP he,Option.bind_some]
 dsimp only
 rw[wK (a4f he)]
 exact⟨_,rfl,rfl,rfl⟩
end
end Go.Proofs.YtfchbnahjcdiiaaGreatDoor
namespace Go.Proofs.YtfchbnahjcdiiaaGreatDoor
open Vc
set_option maxRecDepth 100000
def a4j (es:List pX) (x:List UInt8):Int×Bool:=sL (fun k=>((k:Int),true)) ((0:Int),false) (es.findIdx? fun y=>decide (y.1=x))
theorem aI9 (es:List pX) (x:List UInt8):(a4j es x).2=es.any fun y=>decide (y.1=x):=by
 rw[←a3P]
 unfold a4j
 cases es.findIdx? fun y=>decide (y.1=x)<;>rfl
theorem aJa (c:C4) (x:List UInt8) (hl:c.2.2.2.1.length≤5000):EC c x=some (a4j c.2.2.2.1 x):=by
 have h:=BJ (f:=KV c x) (l:=c.2.2.2.1) (fun y=>decide (y.1=x)) (fun k=>((k:Int),true)) (fun i h=>by
  unfold KV
  rw[if_pos (sY h),if_pos (qJ h),wS (t:=uJ) h,if_pos (rR (by omega))]) (by
  unfold KV
  rw[if_neg (xT _)])
 unfold EC
 rw[h,DF]
 rfl
def M4 (ids:List (List UInt8×Bool)) (es:List pX):Prop:= ∀x,qE .str .bool ids x=es.any fun y=>decide (y.1=x)
theorem aJb {ids:List (List UInt8×Bool)}{es:List pX}(h:M4 ids es) (e:pX) (x:List UInt8) (he:e.1=x):M4 (rB .str .bool x true ids) (es++[e]):=by
 intro y
 rw[B0,List.any_append,←h y]
 by_cases hy:y=x
 ·rw[if_pos hy];simp [he,hy]
 ·rw[if_neg hy]
  have:decide (e.1=y)=false:=by rw[he];simpa using fun hh=>hy hh.symm
  simp [this]
abbrev i9:=Int×Int×List UInt8×Int×Int×Int×Int×List pX×List Int×Int×List (List UInt8×Bool)
abbrev E5:=Int×Int×Int×List pX×List Int
def aJc (s:List UInt8) (P:Nat) (a bad:Int) (ends:List Int) (es:List pX) (po:i9) (ro:E5):Prop:=
 ∃(P':Nat) (y:pX) (ids:List (List UInt8×Bool)),P<P'∧P'≤s.length∧es.length<1000∧M4 ids (es++[y])∧
  po=((nS s P':Int),kS s P',xS s P',(fS s P':Int),(nS s P':Int),a,0,es++[y],ends++[(P':Int)],(P':Int),ids)∧
  ro=((P':Int),bad,0,es++[y],ends++[(P':Int)])∧a4h y
def aCP (po:i9) (ro:E5):Prop:=po.2.2.2.2.2.2.1≠0∧ro.2.1=po.2.2.2.2.2.1∧ro.2.2.1=po.2.2.2.2.2.2.1
section
variable {s:List UInt8}(hsm:s.length≤5000) {P:Nat}(hP:P≤s.length) {a en bad:Int}{t1 t2:List UInt8}{cm1 cm2:List (List UInt8)}{fd1 fd2:List qQ}{es:List pX}{ends:List Int}(hends:ends.length≤5000) {ids:List (List UInt8×Bool)}(hids:M4 ids es) (hes:es.length≤1000)
include hsm hP hends hids hes
theorem KC: ∃po ro,v8 (s,((nS s P:Int),())) (kS s P,(xS s P,((fS s P:Int),((nS s P:Int),())))) a 0 (t1,(cm1,(fd1,(es,())))) (ends,(en,())) ids=some po∧
  AS (s,((P:Int),(bad,(0,((t2,(cm2,(fd2,(es,())))),(ends,()))))))=some ro∧(aJc s P a bad ends es po ro∨aCP po ro):=by
 have hQ:=(rN hP).2
 have hR:=(rN hQ).2
 unfold v8 AS
 rw[M0 hsm hQ,Option.bind_some,Q5 hsm hP,Option.bind_some]
 by_cases h0:kS s P=2∧xS s P=[101,110,116,114,121]
 ·have hPQ:P<nS s P:=A1 (by omega) (by omega)
  rw[if_pos h0,A2 rfl,zZ (by rw[(AZ (by decide) (by decide)).2 h0.1,h0.2];decide)]
  unfold rO
  dsimp only
  rw[aIj hsm hR,Option.bind_some,DJ hsm hQ (by decide) (by decide),Option.bind_some,hids (xS s (nS s P))]
  by_cases hk1:kS s (nS s P)=1
  ·have hQR:nS s P<nS s (nS s P):=A1 (by omega) (by omega)
   rw[zZ (by simpa using hk1)]
   dsimp only
   rw[if_neg (show¬(!decide ((0:Int)=0))=true from by decide),aJa _ _ (show es.length≤5000 by omega),Option.bind_some,aI9]
   dsimp only
   by_cases hid:F2 (xS s (nS s P))=true
   ·have hid': ¬(decide (xS s (nS s P)=[])||decide ((200:Int)<((xS s (nS s P)).length:Int)))=true:=by
     unfold F2 at hid;simp at hid⊢;omega
    have hb: ¬(decide (kS s (nS s P)≠1)|| !F2 (xS s (nS s P)))=true:=by simp [hk1,hid]
    rw[if_neg hid']
    by_cases hdup:(es.any fun y=>decide (y.1=xS s (nS s P)))=true
    ·rw[if_pos hdup,IY hb hdup,uO (by decide)]
     unfold q6
     rw[wH]
     obtain⟨po,hpo,h1,h2⟩:=F6 (s:=s) (at0:=(nS s (nS s P):Int)) (c:=(t1,(cm1,(fd1,(es,()))))) (a:=(fS s (nS s P):Int)) (en:=(nS s P:Int)) (k:=kS s (nS s P)) (x:=xS s (nS s P)) (f:=(fS s (nS s P):Int)) (t:=(nS s (nS s P):Int)) (ids:=rB .str .bool (xS s (nS s P)) true ids) (hd:=true) hends (show (9:Int)≠0 by decide)
     dsimp only
     rw[hpo,Option.bind_some,if_pos (by simp;omega)]
     exact⟨_,_,rfl,rfl,.inr ⟨by show po.2.2.2.2.2.2.2.2.2.2.2.2.1≠0;rw[h2];decide,h1.symm,h2.symm⟩⟩
    ·rw[if_neg hdup]
     by_cases hm:es.length=1000
     ·rw[if_pos (show decide ((1000:Int)≤(es.length:Int))=true from by simp;omega),IZ hb hdup (by simp;omega),uO (by decide)]
      unfold q6
      rw[wH]
      obtain⟨po,hpo,h1,h2⟩:=F6 (s:=s) (at0:=(nS s (nS s P):Int)) (c:=(t1,(cm1,(fd1,(es,()))))) (a:=(fS s (nS s P):Int)) (en:=(nS s P:Int)) (k:=kS s (nS s P)) (x:=xS s (nS s P)) (f:=(fS s (nS s P):Int)) (t:=(nS s (nS s P):Int)) (ids:=rB .str .bool (xS s (nS s P)) true ids) (hd:=true) hends (show (6:Int)≠0 by decide)
      dsimp only
      rw[hpo,Option.bind_some,if_pos (by simp;omega)]
      exact⟨_,_,rfl,rfl,.inr ⟨by show po.2.2.2.2.2.2.2.2.2.2.2.2.1≠0;rw[h2];decide,h1.symm,h2.symm⟩⟩
     ·rw[if_neg (show¬decide ((1000:Int)≤(es.length:Int))=true from by simp;omega),zY hb hdup (by simp;omega),A2 rfl]
      unfold rO
      dsimp only
      obtain⟨po,ro,hpo,hro,h5⟩:=aCO (c:=(t1,(cm1,(fd1,(es,()))))) (c2:=(t2,(cm2,(fd2,(es,()))))) (a:=a) (en:=(nS s (nS s P):Int)) (bad:=bad) (i1:=xS s (nS s P)) (ids:=rB .str .bool (xS s (nS s P)) true ids) (hd:=true) hsm hR hends hends
      rw[hpo,Option.bind_some,if_pos (by simp;omega),show (false)= !true from rfl,hro,Option.bind_some,if_pos (by simp;omega),if_pos (by simp;omega)]
      refine⟨_,_,rfl,rfl,?_⟩
      rcases h5 with⟨P',sr,tg,cm,fg,st,fd,g1,g2,rfl,rfl,f1,f2,f3⟩ |⟨g1,g2,g3⟩
      ·exact .inl ⟨P',_,_,by omega,g2,by omega,aJb hids _ _ rfl,rfl,rfl,f1,f2,f3⟩
      ·exact .inr ⟨g1,g2,g3⟩
   ·have hid':(decide (xS s (nS s P)=[])||decide ((200:Int)<((xS s (nS s P)).length:Int)))=true:=by
     unfold F2 at hid;simp at hid⊢;by_cases hh:xS s (nS s P)=[]<;>simp_all
    rw[if_pos hid',wG (by simp [hid]),uO (by decide)]
    unfold q6
    rw[wH]
    obtain⟨po,hpo,h1,h2⟩:=F6 (s:=s) (at0:=(nS s (nS s P):Int)) (c:=(t1,(cm1,(fd1,(es,()))))) (a:=(fS s (nS s P):Int)) (en:=(nS s P:Int)) (k:=kS s (nS s P)) (x:=xS s (nS s P)) (f:=(fS s (nS s P):Int)) (t:=(nS s (nS s P):Int)) (ids:=rB .str .bool (xS s (nS s P)) true ids) (hd:=true) hends (show (3:Int)≠0 by decide)
    dsimp only
    rw[hpo,Option.bind_some,if_pos (by simp;omega)]
    exact⟨_,_,rfl,rfl,.inr ⟨by show po.2.2.2.2.2.2.2.2.2.2.2.2.1≠0;rw[h2];decide,h1.symm,h2.symm⟩⟩
  ·rw[A0 (by simpa using hk1),wG (by simp [hk1]),uO (by decide)]
   dsimp only
   rw[if_pos (show (!decide ((3:Int)=0))=true from by decide)]
   obtain⟨po,hpo,h1,h2⟩:=F6 (s:=s) (at0:=(nS s (nS s P):Int)) (c:=(t1,(cm1,(fd1,(es,()))))) (a:=(fS s (nS s P):Int)) (en:=(nS s P:Int)) (k:=kS s (nS s P)) (x:=xS s (nS s P)) (f:=(fS s (nS s P):Int)) (t:=(nS s (nS s P):Int)) (ids:=rB .str .bool (xS s (nS s P)) true ids) (hd:=true) hends (show (3:Int)≠0 by decide)
   rw[hpo,Option.bind_some,if_pos (by simp;omega)]
   exact⟨_,_,rfl,rfl,.inr ⟨by show po.2.2.2.2.2.2.2.2.2.2.2.2.1≠0;rw[h2];decide,h1.symm,h2.symm⟩⟩
 ·rw[if_neg h0,uO (by decide),A0 (by simp only[Bool.and_eq_true,Bool.or_eq_true,decide_eq_true_eq,AZ (show (2:Int)≠0 by decide) (show (2:Int)≠4 by decide)];intro hh;rcases hh with⟨u,v|v⟩;exact absurd v (by decide);exact h0 ⟨u,v⟩)]
  dsimp only
  rw[aIk (by decide),Option.bind_some,a4b hsm hP (by decide),Option.bind_some]
  dsimp only
  rw[if_pos (show (!decide ((3:Int)=0))=true from by decide)]
  obtain⟨po,hpo,h1,h2⟩:=F6 (s:=s) (at0:=(nS s P:Int)) (c:=(t1,(cm1,(fd1,(es,()))))) (a:=(fS s P:Int)) (en:=en) (k:=kS s P) (x:=xS s P) (f:=(fS s P:Int)) (t:=(nS s P:Int)) (ids:=rB .str .bool (xS s P) true ids) (hd:=true) hends (show (3:Int)≠0 by decide)
  rw[hpo,Option.bind_some,if_pos (by simp;omega)]
  exact⟨_,_,rfl,rfl,.inr ⟨by show po.2.2.2.2.2.2.2.2.2.2.2.2.1≠0;rw[h2];decide,h1.symm,h2.symm⟩⟩
end
end Go.Proofs.YtfchbnahjcdiiaaGreatDoor
namespace Go.Proofs.YtfchbnahjcdiiaaGreatDoor
open Vc
set_option maxRecDepth 100000
abbrev H12:=Int×Int×List UInt8×Int×Int×Int×Int×List UInt8×List (List UInt8)×List qQ×List Int×Int
abbrev H7:=Int×Int×Int×List UInt8×List (List UInt8)×List qQ×List Int
def aJd (s:List UInt8) (P:Nat) (a bad:Int) (ends:List Int) (po:H12) (ro:H7):Prop:=
 ∃(P':Nat) (tag:List UInt8) (cm:List (List UInt8)) (fd:List qQ),P<P'∧P'≤s.length∧
  po=((nS s P':Int),kS s P',xS s P',(fS s P':Int),(nS s P':Int),a,0,tag,cm,fd,ends++[(P':Int)],(P':Int))∧
  ro=((P':Int),bad,0,tag,cm,fd,ends++[(P':Int)])∧pU cm∧pU fd
def aJe (po:H12) (ro:H7):Prop:=po.2.2.2.2.2.2.1≠0∧ro.2.1=po.2.2.2.2.2.1∧ro.2.2.1=po.2.2.2.2.2.2.1
section
variable {s:List UInt8}(hsm:s.length≤5000) {P:Nat}(hP:P≤s.length) {a en bad:Int}{c c2:C4}{ends:List Int}(hends:ends.length≤5000) {ids:List (List UInt8×Bool)}
include hsm hP hends
theorem aJf: ∃po ro,v7 (s,((nS s P:Int),())) (kS s P,(xS s P,((fS s P:Int),((nS s P:Int),())))) a 0 c (ends,(en,())) ids=some po∧
  yE (s,((P:Int),(bad,(0,(c2,(ends,()))))))=some ro∧(aJd s P a bad ends po ro∨aJe po ro):=by
 have hQ:=(rN hP).2
 have hR:=(rN hQ).2
 unfold v7 yE
 rw[M0 hsm hQ,Option.bind_some,Q5 hsm hP,Option.bind_some]
 by_cases h0:kS s P=2∧xS s P=[99,97,116,97,108,111,103]
 ·have hPQ:P<nS s P:=A1 (by omega) (by omega)
  rw[if_pos h0,A2 rfl,zZ (by rw[(AZ (by decide) (by decide)).2 h0.1,h0.2];decide)]
  unfold rO
  dsimp only
  rw[aId hsm hR,Option.bind_some,DJ hsm hQ (by decide) (by decide),Option.bind_some]
  by_cases hk1:kS s (nS s P)=1
  ·have hQR:nS s P<nS s (nS s P):=A1 (by omega) (by omega)
   rw[zZ (by simpa using hk1)]
   dsimp only
   rw[a3O _ (M3 hsm hQ),if_pos wF]
   by_cases ht:wD (xS s (nS s P))=true
   ·rw[zY (by simp [hk1,ht]) (by simp) (by simp),A2 rfl]
    rw[if_neg (show¬(decide ((0:Int)=0)&& !val (some (wD (xS s (nS s P)))))=true from by rw[ht];decide)]
    unfold rO qD
    rw[Option.bind_some]
    dsimp only
    obtain⟨po,ro,hpo,hro,h5⟩:=aCO (c:=(xS s (nS s P),(c.2.1,(c.2.2.1,(c.2.2.2.1,()))))) (c2:=c2) (a:=a) (en:=(nS s (nS s P):Int)) (bad:=bad) (i1:=[]) (ids:=ids) (hd:=false) hsm hR hends hends
    rw[hpo,Option.bind_some,show true= !false from rfl,hro,Option.bind_some]
    refine⟨_,_,rfl,rfl,?_⟩
    rcases h5 with⟨P',sr,tg,cm,fg,st,fd,g1,g2,rfl,rfl,f1,f2,f3⟩ |⟨g1,g2,g3⟩
    ·exact .inl ⟨P',_,_,_,by omega,g2,rfl,rfl,f1,f3⟩
    ·exact .inr ⟨g1,g2,g3⟩
   ·rw[wG (by simp [ht]),uO (by decide)]
    rw[if_pos (show (decide ((0:Int)=0)&& !val (some (wD (xS s (nS s P)))))=true from by rw[show wD (xS s (nS s P))=false from by simpa using ht];decide)]
    unfold q6
    rw[wH]
    unfold qD
    rw[Option.bind_some]
    dsimp only
    obtain⟨po,hpo,h1,h2⟩:=F6 (s:=s) (at0:=(nS s (nS s P):Int)) (c:=(xS s (nS s P),(c.2.1,(c.2.2.1,(c.2.2.2.1,()))))) (a:=(fS s (nS s P):Int)) (en:=(nS s P:Int)) (k:=kS s (nS s P)) (x:=xS s (nS s P)) (f:=(fS s (nS s P):Int)) (t:=(nS s (nS s P):Int)) (ids:=ids) (hd:=false) hends (show (3:Int)≠0 by decide)
    obtain⟨ro,hro,g1,g2⟩:=a4i (P:=nS s (nS s P)) (c2:=c2) (bad:=(fS s (nS s P):Int)) (e:=3) (ends2:=ends) (hd:=true) (i:=i0 []) hsm hR (by decide)
    rw[hpo,Option.bind_some,hro,Option.bind_some]
    exact⟨_,_,rfl,rfl,.inr ⟨by show po.2.2.2.2.2.2.2.2.2.2.2.2.1≠0;rw[h2];decide,g1.trans h1.symm,g2.trans h2.symm⟩⟩
  ·rw[A0 (by simpa using hk1),wG (by simp [hk1]),uO (by decide)]
   dsimp only
   rw[a3O _ (M3 hsm hQ),if_pos wF,if_neg (show¬(decide ((3:Int)=0)&& !val (some (wD (xS s (nS s P)))))=true from by simp)]
   unfold qD
   rw[Option.bind_some]
   dsimp only
   obtain⟨po,hpo,h1,h2⟩:=F6 (s:=s) (at0:=(nS s (nS s P):Int)) (c:=(xS s (nS s P),(c.2.1,(c.2.2.1,(c.2.2.2.1,()))))) (a:=(fS s (nS s P):Int)) (en:=(nS s P:Int)) (k:=kS s (nS s P)) (x:=xS s (nS s P)) (f:=(fS s (nS s P):Int)) (t:=(nS s (nS s P):Int)) (ids:=ids) (hd:=false) hends (show (3:Int)≠0 by decide)
   obtain⟨ro,hro,g1,g2⟩:=a4i (P:=nS s P) (c2:=c2) (bad:=(fS s (nS s P):Int)) (e:=3) (ends2:=ends) (hd:=true) (i:=i0 []) hsm hQ (by decide)
   rw[hpo,Option.bind_some,hro,Option.bind_some]
   exact⟨_,_,rfl,rfl,.inr ⟨by show po.2.2.2.2.2.2.2.2.2.2.2.2.1≠0;rw[h2];decide,g1.trans h1.symm,g2.trans h2.symm⟩⟩
 ·rw[if_neg h0,uO (by decide),A0 (by simp only[Bool.and_eq_true,Bool.or_eq_true,decide_eq_true_eq,AZ (show (2:Int)≠0 by decide) (show (2:Int)≠4 by decide)];intro hh;rcases hh with⟨u,v|v⟩;exact absurd v (by decide);exact h0 ⟨u,v⟩)]
  dsimp only
  rw[aIe (by decide),Option.bind_some,a4b hsm hP (by decide),Option.bind_some]
  dsimp only
  rw[a3O _ (M3 hsm hP),if_pos wF,if_neg (show¬(decide ((3:Int)=0)&& !val (some (wD (xS s P))))=true from by simp)]
  unfold qD
  rw[Option.bind_some]
  dsimp only
  obtain⟨po,hpo,h1,h2⟩:=F6 (s:=s) (at0:=(nS s P:Int)) (c:=(xS s P,(c.2.1,(c.2.2.1,(c.2.2.2.1,()))))) (a:=(fS s P:Int)) (en:=en) (k:=kS s P) (x:=xS s P) (f:=(fS s P:Int)) (t:=(nS s P:Int)) (ids:=ids) (hd:=false) hends (show (3:Int)≠0 by decide)
  obtain⟨ro,hro,g1,g2⟩:=a4i (P:=P) (c2:=c2) (bad:=(fS s P:Int)) (e:=3) (ends2:=ends) (hd:=true) (i:=i0 []) hsm hP (by decide)
  rw[hpo,Option.bind_some,hro,Option.bind_some]
  exact⟨_,_,rfl,rfl,.inr ⟨by show po.2.2.2.2.2.2.2.2.2.2.2.2.1≠0;rw[h2];decide,g1.trans h1.symm,g2.trans h2.symm⟩⟩
end
end Go.Proofs.YtfchbnahjcdiiaaGreatDoor
namespace Go.Proofs.YtfchbnahjcdiiaaGreatDoor
open Vc
set_option maxRecDepth 100000
theorem aJg {l:List UInt8}:(vA l).1=4↔l=[]:=by
 cases l with
 |nil=>exact⟨fun _=>rfl,fun _=>rfl⟩
 |cons b t=>
  refine⟨fun h=> ?_,fun h=>by cases h⟩
  exfalso
  by_cases h1:b=123∨b=125
  ·rw[PX h1] at h;exact absurd h (show¬(3:Int)=4 by decide)
  ·by_cases h2:b=34
   ·rw[PY h1 h2] at h
    unfold wE at h
    cases he:sE 34 t with
    |none=>rw[he] at h;exact absurd h (show¬(0:Int)=4 by decide)
    |some n=>
     rw[he] at h
     dsimp only at h
     split at h
     ·exact absurd h (show¬(0:Int)=4 by decide)
     ·exact absurd h (show¬(1:Int)=4 by decide)
   ·by_cases h3:zX b.toNat=true
    ·rw[PZ h1 h2 h3] at h;exact absurd h (show¬(2:Int)=4 by decide)
    ·rw[LW h1 h2 h3] at h;exact absurd h (show¬(0:Int)=4 by decide)
theorem k4 {s:List UInt8}{P:Nat}(hP:P≤s.length):kS s P=4↔¬P+(G (s.drop P)).1<s.length:=by
 unfold kS sA
 by_cases hg:(G (s.drop P)).2=true
 ·rw[if_pos hg]
  dsimp only
  rw[aJg,List.drop_drop,List.drop_eq_nil_iff]
  omega
 ·rw[if_neg hg]
  obtain⟨t,ht⟩:=LX (s.drop P).length (s.drop P) (Nat.le_refl _) (by simpa using hg)
  refine⟨fun h=>absurd h (show¬(0:Int)=4 by decide),fun h=> ?_⟩
  rw[List.drop_drop,List.drop_eq_nil_of_le (by omega)] at ht
  cases ht
def F7 (P:Nat) (ends:List Int):Prop:= ∃l:List Nat,ends=l.map (fun n:Nat=>(n:Int))∧l≠[]∧l.Pairwise (·≤·)∧∀x∈l,x≤P
theorem aJh {P P':Nat}{ends:List Int}(h:F7 P ends) (hP:P≤P'):F7 P' (ends++[(P':Int)]):=by
 obtain⟨l,rfl,h1,h2,h3⟩:=h
 refine⟨l++[P'],by rw[List.map_append];rfl,List.append_ne_nil_of_right_ne_nil _ (List.cons_ne_nil _ _),?_,fun x hx=> ?_⟩
 ·rw[List.pairwise_append]
  exact⟨h2,List.pairwise_singleton _ _,fun x hx y hy=>by rw[List.mem_singleton.1 hy];exact Nat.le_trans (h3 x hx) hP⟩
 ·rcases List.mem_append.1 hx with hx|hx
  ·exact Nat.le_trans (h3 x hx) hP
  ·rw[List.mem_singleton.1 hx];exact Nat.le_refl _
theorem aJi (P:Nat):F7 P [(P:Int)]:=⟨[P],rfl,List.cons_ne_nil _ _,List.pairwise_singleton _ _,fun x hx=>by rw[List.mem_singleton.1 hx];exact Nat.le_refl _⟩
theorem aJj {P P':Nat}{ends:List Int}(h:F7 P ends) (hP:P≤P'):F7 P' ends:=by
 obtain⟨l,h0,h1,h2,h3⟩:=h
 exact⟨l,h0,h1,h2,fun x hx=>Nat.le_trans (h3 x hx) hP⟩
def aJk (n:Nat) (po:i9) (ro:E5):Prop:=
 (po.2.2.2.2.2.2.1=0∧ro.2.2.1=0∧ro.2.2.2.1=po.2.2.2.2.2.2.2.1∧ro.2.2.2.2=po.2.2.2.2.2.2.2.2.1∧po.2.2.2.2.2.2.2.1.length≤1000∧(∀y∈po.2.2.2.2.2.2.2.1,a4h y)∧F7 n po.2.2.2.2.2.2.2.2.1∧po.2.2.2.2.2.2.2.2.1.length≤1001)∨aCP po ro
section
variable {s:List UInt8}(hsm:s.length≤5000) {a bad:Int}{hp:H12}{hr:H7}
include hsm
theorem aCQ: ∀(n P:Nat) (es:List pX) (ends:List Int) (en:Int) (ids:List (List UInt8×Bool)),
  s.length-P≤n→P≤s.length→es.length≤1000→ends.length≤es.length+1→M4 ids es→(∀y∈es,a4h y)→F7 P ends→
  ∃po ro,pR (AU s hp) ((nS s P:Int),kS s P,xS s P,(fS s P:Int),(nS s P:Int),a,0,es,ends,en,ids)=some po∧
   pR (AT s hr) ((P:Int),bad,0,es,ends)=some ro∧aJk s.length po ro
 |n,P,es,ends,en,ids,hn,hP,hes,hends,hids,hfs,hea=>by
  have hgap:=aCy (Q0 hsm) hP
  by_cases hk:kS s P=4
  ·have hg:=(k4 hP).1 hk
   have e1:AU s hp ((nS s P:Int),kS s P,xS s P,(fS s P:Int),(nS s P:Int),a,0,es,ends,en,ids)=some (.inr ((nS s P:Int),kS s P,xS s P,(fS s P:Int),(nS s P:Int),a,0,es,ends,en,ids)):=by
    unfold AU
    dsimp only
    rw[if_neg (by simp [hk])]
   have e2:AT s hr ((P:Int),bad,0,es,ends)=some (.inr ((P:Int),bad,0,es,ends)):=by
    unfold AT
    dsimp only
    rw[hgap,if_pos wF,if_neg (by show¬(decide ((0:Int)=0)&&decide (((P+(G (s.drop P)).1:Nat):Int)<(s.length:Int)))=true;simp;omega)]
   rw[wK e1,wK e2]
   exact⟨_,_,rfl,rfl,.inl ⟨rfl,rfl,rfl,rfl,hes,hfs,aJj hea hP,(show ends.length≤1001 by omega)⟩⟩
  ·have hg:P+(G (s.drop P)).1<s.length:=by
    by_cases hh:P+(G (s.drop P)).1<s.length
    ·exact hh
    ·exact absurd ((k4 hP).2 hh) hk
   obtain⟨po,ro,hpo,hro,hres⟩:=KC (a:=a) (en:=en) (bad:=bad) (t1:=hp.2.2.2.2.2.2.2.1) (t2:=hr.2.2.2.1) (cm1:=hp.2.2.2.2.2.2.2.2.1) (cm2:=hr.2.2.2.2.1) (fd1:=hp.2.2.2.2.2.2.2.2.2.1) (fd2:=hr.2.2.2.2.2.1) hsm hP (show ends.length≤5000 by omega) hids hes
   have e1:AU s hp ((nS s P:Int),kS s P,xS s P,(fS s P:Int),(nS s P:Int),a,0,es,ends,en,ids)=some (.inl po):=by
    unfold AU
    dsimp only
    rw[if_pos (by simp [hk]),hpo,Option.bind_some]
   have e2:AT s hr ((P:Int),bad,0,es,ends)=some (.inl ro):=by
    unfold AT
    dsimp only
    rw[hgap,if_pos wF,if_pos (by show (decide ((0:Int)=0)&&decide (((P+(G (s.drop P)).1:Nat):Int)<(s.length:Int)))=true;simp;omega),hro,Option.bind_some]
   rw[J1 e1,J1 e2]
   rcases hres with⟨P',y,ids',g1,g2,g3,g4,rfl,rfl,g5⟩ |hb
   ·match n,hn with
    |0,hn=>exact absurd g2 (by omega)
    |n+1,hn=>exact aCQ n P' (es++[y]) (ends++[(P':Int)]) P' ids' (by omega) g2 (by simp;omega) (by simp;omega) g4 (fun z hz=>by rcases List.mem_append.1 hz with hz|hz;exact hfs z hz;rw[List.mem_singleton.1 hz];exact g5) (aJh hea (by omega))
   ·have e3:AU s hp po=some (.inr po):=by
     unfold AU
     dsimp only
     rw[if_neg (by simp [hb.1])]
    have e4:AT s hr ro=some (.inr ro):=by
     have h3:ro.2.2.1≠0:=by rw[hb.2.2];exact hb.1
     unfold AT
     dsimp only
     rw[if_pos (by intro hh;simp [h3] at hh),if_neg (by simp [h3])]
    rw[wK e3,wK e4]
    exact⟨_,_,rfl,rfl,.inr hb⟩
theorem aJl: ∃r v,tM s=some r∧zB s=some v∧
  ((r.2.2.2.2.2.2.1=0∧v.2.2.2.2.2.2=0∧v.2.2.2.2.1=r.2.2.2.2.2.2.2.2.2.2.2.1∧F7 s.length r.2.2.2.2.2.2.2.2.2.2.2.1∧r.2.2.2.2.2.2.2.2.2.2.2.1.length≤1001)∨(r.2.2.2.2.2.2.1≠0∧v.2.2.2.2.2.2=r.2.2.2.2.2.2.1)):=by
 obtain⟨ph,rh,hph,hrh,hres⟩:=aJf (P:=0) (a:=0) (en:=0) (bad:=0) (c:=([],([],([],([],()))))) (c2:=([],([],([],([],()))))) (ends:=[]) (ids:=[]) hsm (Nat.zero_le _) (by decide)
 have hnx:=aCC hsm (Nat.zero_le s.length)
 have hnx':zA (s,((0:Int),()))=some (kS s 0,xS s 0,(fS s 0:Int),(nS s 0:Int),(nS s 0:Int)):=hnx
 have hrh':yE (s,((0:Int),((0:Int),((0:Int),((([]:List UInt8),(([]:List (List UInt8)),(([]:List p9),(([]:List pX),())))),(([]:List Int),()))))))=some rh:=hrh
 unfold tM zB
 rw[hnx',Option.bind_some]
 try dsimp only
 rw[hph,Option.bind_some,hrh',Option.bind_some]
 rcases hres with⟨P',tag,cm,fd,g1,g2,rfl,rfl,f1,f2⟩ |hb
 ·obtain⟨po,ro,h1,h2,h3⟩:=aCQ (a:=0) (bad:=0) (hp:=((nS s P':Int),kS s P',xS s P',(fS s P':Int),(nS s P':Int),0,0,tag,cm,fd,[]++[(P':Int)],(P':Int))) (hr:=((P':Int),0,0,tag,cm,fd,[]++[(P':Int)])) hsm s.length P' [] ([]++[(P':Int)]) (P':Int) [] (by omega) g2 (by decide) (by simp) (fun _=>rfl) (fun _ h=>by cases h) (aJi P')
  try dsimp only
  rw[h1,h2]
  unfold qD
  rw[Option.bind_some,Option.bind_some]
  try dsimp only
  rcases h3 with⟨e1,e2,e3,e4,e5,e6,e7,e8⟩ |⟨e1,e2,e3⟩
  ·rw[if_neg (by simp [e2])]
   exact⟨_,_,rfl,rfl,.inl ⟨e1,rfl,e4,e7,e8⟩⟩
  ·rw[if_pos (by simp [e3,e1])]
   exact⟨_,_,rfl,rfl,.inr ⟨e1,e3⟩⟩
 ·obtain⟨b1,b2,b3⟩:=hb
  have e3:AU s ph (ph.1,ph.2.1,ph.2.2.1,ph.2.2.2.1,ph.2.2.2.2.1,ph.2.2.2.2.2.1,ph.2.2.2.2.2.2.1,[],ph.2.2.2.2.2.2.2.2.2.2.1,ph.2.2.2.2.2.2.2.2.2.2.2,[])=some (.inr (ph.1,ph.2.1,ph.2.2.1,ph.2.2.2.1,ph.2.2.2.2.1,ph.2.2.2.2.2.1,ph.2.2.2.2.2.2.1,[],ph.2.2.2.2.2.2.2.2.2.2.1,ph.2.2.2.2.2.2.2.2.2.2.2,[])):=by
   unfold AU
   try dsimp only
   rw[if_neg (by simp [b1])]
  have e4:AT s rh (rh.1,rh.2.1,rh.2.2.1,[],rh.2.2.2.2.2.2)=some (.inr (rh.1,rh.2.1,rh.2.2.1,[],rh.2.2.2.2.2.2)):=by
   have h3:rh.2.2.1≠0:=by rw[b3];exact b1
   unfold AT
   try dsimp only
   rw[if_pos (by intro hh;simp [h3] at hh),if_neg (by simp [h3])]
  rw[wK e3,wK e4]
  unfold qD
  rw[Option.bind_some,Option.bind_some]
  try dsimp only
  rw[if_pos (by simp [b3,b1])]
  exact⟨_,_,rfl,rfl,.inr ⟨b1,b3⟩⟩
end
end Go.Proofs.YtfchbnahjcdiiaaGreatDoor
namespace Go.Proofs.YtfchbnahjcdiiaaGreatDoor
open Vc
set_option maxRecDepth 1000000
theorem aJm:IN=some true:=by kernel_rfl
end Go.Proofs.YtfchbnahjcdiiaaGreatDoor
namespace Go.Proofs.YtfchbnahjcdiiaaGreatDoor
open Vc
set_option maxRecDepth 100000
theorem QA {σ ρ:Type}{f:σ→Option (σ⊕ρ)}{n:Nat}(st:Nat→σ) {r:ρ}(h: ∀i,i<n→f (st i)=some (.inl (st (i+1)))) (he:f (st n)=some (.inr r)): ∀(k i:Nat),i+k=n→pR f (st i)=some r
 |0,i,hi=>by
  have:i=n:=by omega
  subst this
  exact wK he
 |k+1,i,hi=>by
  rw[J1 (h i (by omega))]
  exact QA st h he k (i+1) (by omega)
abbrev pc (s:List UInt8) (l:List Nat) (i:Nat):List UInt8:=oZ s ((if i=0 then 0 else l.getD (i-1) 0:Nat):Int) (l.getD i 0:Nat)
abbrev xG (s:List UInt8) (l:List Nat):List (List UInt8):=(List.range l.length).map (pc s l)
abbrev vT (l:List Nat):Nat:=l.getD (l.length-1) 0
section
variable {s:List UInt8}(hsm:s.length≤5000) {l:List Nat}(hne:l≠[]) (hs:l.Pairwise (·≤·)) (hle: ∀x∈l,x≤s.length) (hl:l.length≤1001)
theorem M5 {i:Nat}(h:i<l.length):pY (.int .i64) (l.map (fun n:Nat=>(n:Int))) (i:Int)=(l.getD i 0:Nat):=by
 rw[wS (t:= .int .i64) (by simpa using h),List.getElem_map,List.getD_eq_getElem?_getD,List.getElem?_eq_getElem h]
 rfl
include hle in
theorem M6 {i:Nat}(h:i<l.length):l.getD i 0≤s.length:=by
 rw[List.getD_eq_getElem?_getD,List.getElem?_eq_getElem h]
 exact hle _ (List.getElem_mem h)
include hs in
theorem aCR {i j:Nat}(hij:i<j) (h:j<l.length):l.getD i 0≤l.getD j 0:=by
 rw[List.getD_eq_getElem?_getD,List.getD_eq_getElem?_getD,List.getElem?_eq_getElem h,List.getElem?_eq_getElem (by omega)]
 exact(List.pairwise_iff_getElem.1 hs) i j (by omega) h hij
include hs in
theorem aJn {i:Nat}(h:i<l.length):(if i=0 then 0 else l.getD (i-1) 0)≤l.getD i 0:=by
 split
 ·exact Nat.zero_le _
 ·exact aCR hs (by omega) h
include hsm hne hs hle hl in
theorem aJo:CX s (l.map (fun n:Nat=>(n:Int)))=some (pc s l 0,(xG s l).drop 1,oZ s (vT l:Nat) (s.length:Int)):=by
 have hpos:0<l.length:=List.length_pos_iff.2 hne
 have hloop:=QA (f:=LD s (l.map (fun n:Nat=>(n:Int)))) (n:=l.length) (fun i=>((List.range i).map (pc s l),((if i=0 then 0 else l.getD (i-1) 0:Nat):Int),(i:Int))) (r:=(xG s l,(vT l:Int)))
  (fun i hi=>by
   have h1:=M6 hle hi
   have h2:=aJn hs hi
   unfold LD
   dsimp only
   rw[List.length_map,if_pos (sY hi),if_pos (qJ hi),M5 hi,if_pos ⟨Int.natCast_nonneg _,Int.ofNat_le.2 h2,Int.ofNat_le.2 h1⟩,if_pos (by rw[List.length_map,List.length_range,List.length_singleton];omega),if_pos (qJ hi),if_pos (rR (by omega))]
   rw[List.range_succ,List.map_append,if_neg (Nat.succ_ne_zero i),Nat.add_sub_cancel]
   rfl)
  (by
   unfold LD
   dsimp only
   rw[List.length_map,if_neg (xT _),if_neg (by omega)]) l.length 0 (by omega)
 have hlast:vT l≤s.length:=M6 hle (show l.length-1<l.length by omega)
 unfold CX
 rw[show (([]:List (List UInt8)),(0:Int),(0:Int))=((List.range 0).map (pc s l),((if 0=0 then 0 else l.getD (0-1) 0:Nat):Int),((0:Nat):Int)) from rfl,hloop]
 unfold qD
 rw[Option.bind_some]
 dsimp only
 have hlen:(xG s l++[oZ s (vT l:Nat) (s.length:Int)]).length=l.length+1:=by simp
 rw[if_pos ⟨by omega,by omega,Int.le_refl _⟩,if_pos (by simp;omega)]
 have hOf:HU (xG s l++[oZ s (vT l:Nat) (s.length:Int)])=some ():=by
  unfold HU
  rw[hlen,if_pos (by unfold oT;omega),if_pos ⟨by omega,by omega⟩,if_pos ⟨by omega,by omega,by omega⟩]
  rw[if_pos (by
   have:(oZ (xG s l++[oZ s (vT l:Nat) (s.length:Int)]) 1 (((l.length+1:Nat):Int)-1)).length≤l.length+1:=by
    have h9:=hlen
    unfold oZ at h9⊢
    rw[List.length_take,List.length_drop,h9]
    omega
   simp only[List.length_nil]
   omega),if_pos ⟨by omega,by omega⟩]
 rw[hOf,Option.bind_some]
 have e0:pY .str (xG s l++[oZ s (vT l:Nat) (s.length:Int)]) (0:Int)=pc s l 0:=by
  have h:=wS (t:= .str) (l:=xG s l++[oZ s (vT l:Nat) (s.length:Int)]) (i:=0) (by rw[hlen];omega)
  refine h.trans ?_
  rw[List.getElem_append_left (by simpa using hpos),List.getElem_map,List.getElem_range]
 have e1:pY .str (xG s l++[oZ s (vT l:Nat) (s.length:Int)]) (((l.length+1:Nat):Int)-1)=oZ s (vT l:Nat) (s.length:Int):=by
  have h:=wS (t:= .str) (l:=xG s l++[oZ s (vT l:Nat) (s.length:Int)]) (i:=l.length) (by rw[hlen];omega)
  rw[show (((l.length+1:Nat):Int)-1)=((l.length:Nat):Int) by omega]
  refine h.trans ?_
  rw[List.getElem_append_right (by simp)]
  simp
 have e2:oZ (xG s l++[oZ s (vT l:Nat) (s.length:Int)]) (1:Int) (((l.length+1:Nat):Int)-1)=(xG s l).drop 1:=by
  rw[show (((l.length+1:Nat):Int)-1)=((l.length:Nat):Int) by omega]
  generalize oZ s (vT l:Nat) (s.length:Int)=z
  unfold oZ
  rw[Int.toNat_natCast,show (1:Int).toNat=1 from rfl,List.drop_append_of_le_length (by simp;omega),List.take_left' (by simp)]
 rw[hlen,e0,e1,e2]
 rfl
include hsm hne hs hle hl in
theorem aJp {r:Int×Int×List UInt8×Int×Int×Int×Int×List UInt8×List (List UInt8)×List p9×List pX×List Int×Int×List (List UInt8×Bool)}(hr:r.2.2.2.2.2.2.2.2.2.2.2.1=l.map (fun n:Nat=>(n:Int))):
  pR (IM s r) (1,[])=some ((xG s l).drop 1):=by
 have hpos:0<l.length:=List.length_pos_iff.2 hne
 have hloop:=QA (f:=IM s r) (n:=l.length-1) (fun i=>(((i+1:Nat):Int),((List.range (i+1)).map (pc s l)).drop 1)) (r:=(xG s l).drop 1)
  (fun i hi=>by
   have h1:=M6 hle (show i+1<l.length by omega)
   have h2:=aCR hs (show i<i+1 by omega) (show i+1<l.length by omega)
   unfold IM
   dsimp only
   rw[hr,List.length_map,if_pos (sY (by omega)),if_pos (by unfold oT;omega),show (((i+1:Nat):Int)-1)=(i:Int) by omega,if_pos (qJ (by omega)),if_pos (qJ (by omega)),M5 (show i<l.length by omega),M5 (show i+1<l.length by omega),if_pos ⟨Int.natCast_nonneg _,Int.ofNat_le.2 h2,Int.ofNat_le.2 h1⟩,if_pos (by rw[List.length_drop,List.length_map,List.length_range,List.length_singleton];omega),if_pos (rR (by omega))]
   rw[List.range_succ (n:=i+1),List.map_append,List.drop_append_of_le_length (by simp)]
   rfl)
  (by
   unfold IM
   dsimp only
   rw[hr,List.length_map,show l.length-1+1=l.length by omega,if_neg (xT _)]) (l.length-1) 0 (by omega)
 exact hloop
include hsm hne hs hle hl in
theorem aJq {r:Int×Int×List UInt8×Int×Int×Int×Int×List UInt8×List (List UInt8)×List p9×List pX×List Int×Int×List (List UInt8×Bool)}(h:tM s=some r) (he:r.2.2.2.2.2.2.1=0) (hr:r.2.2.2.2.2.2.2.2.2.2.2.1=l.map (fun n:Nat=>(n:Int))):
  zV s=some (pc s l 0,(xG s l).drop 1,oZ s (vT l:Nat) (s.length:Int),0):=by
 have hpos:0<l.length:=List.length_pos_iff.2 hne
 have h0:=M6 hle hpos
 have hlast:vT l≤s.length:=M6 hle (show l.length-1<l.length by omega)
 unfold zV
 rw[h,Option.bind_some,if_neg (by simp [he]),aJp hsm hne hs hle hl hr,hr,List.length_map,if_pos ⟨Int.le_refl _,by omega⟩]
 have n0:pY (.int .i64) (l.map (fun n:Nat=>(n:Int))) (0:Int)=(l.getD 0 0:Nat):=M5 hpos
 have n1:pY (.int .i64) (l.map (fun n:Nat=>(n:Int))) ((l.length:Int)-1)=(vT l:Nat):=by
  rw[show ((l.length:Int)-1)=((l.length-1:Nat):Int) by omega]
  exact M5 (by omega)
 rw[n0,n1,if_pos ⟨Int.le_refl _,Int.natCast_nonneg _,Int.ofNat_le.2 h0⟩,if_pos (by unfold oT;omega),if_pos ⟨by omega,by omega⟩,if_pos ⟨Int.natCast_nonneg _,Int.ofNat_le.2 hlast,Int.le_refl _⟩]
 rfl
end
theorem aJr (d:tZ) (h:d.2.1.length≤5000):CY d d=some ([],0):=by
 have hn:((([d.1]:List (List UInt8))++d.2.1)++([d.2.2.1]:List (List UInt8))).length=d.2.1.length+2:=by simp
 have hA:G3 d=some ():=by
  unfold G3
  rw[if_pos (by simp;omega),if_pos (by simp;omega)]
 have hloop:=QA (f:=LE d d) (n:=d.2.1.length+2) (fun i=>(([]:List (Int×List UInt8×Unit)),(i:Int))) (r:=[])
  (fun i hi=>by
   unfold LE
   dsimp only
   rw[hn,if_pos (sY hi),if_pos (qJ hi),if_pos (qJ hi),if_neg (by simp),if_pos (rR (by omega))]
   rfl)
  (by
   unfold LE
   dsimp only
   rw[hn,if_neg (xT _)]) (d.2.1.length+2) 0 (by omega)
 unfold CY
 rw[if_neg (by simp),hA,Option.bind_some,Option.bind_some,show (([]:List (Int×List UInt8×Unit)),(0:Int))=(([]:List (Int×List UInt8×Unit)),((0:Nat):Int)) from rfl,hloop]
 rfl
theorem aCS (d:tZ) (h:d.2.1.length≤5000):ES d d=some true:=by
 unfold ES
 rw[aJr d h]
 rfl
theorem aJs (s:List UInt8):GL s=some true:=by
 unfold GL
 rw[aJm,Option.bind_some,if_neg (by decide)]
 by_cases h:decide ((4000:Int)<(List.length s:Int))=true
 ·rw[if_pos h]
 ·rw[if_neg h]
  have hsm:s.length≤5000:=by simp at h;omega
  obtain⟨r,v,h1,h2,h3⟩:=aJl hsm
  rcases h3 with⟨e1,e2,e3,⟨l,g1,g2,g3,g4⟩,e5⟩ |⟨e1,e2⟩
  ·rw[g1,List.length_map] at e5
   have hS:=aJq hsm g2 g3 g4 e5 h1 e1 g1
   have hC:=aJo hsm g2 g3 g4 e5
   have hR:zU s=some (pc s l 0,(xG s l).drop 1,oZ s (vT l:Nat) (s.length:Int),0):=by
    unfold zU
    rw[h2,Option.bind_some,if_neg (by simp [e2]),e3,g1,hC]
    rfl
   rw[hS,hR,Option.bind_some,Option.bind_some]
   have hd:=aCS (pc s l 0,((xG s l).drop 1,(oZ s (vT l:Nat) (s.length:Int),()))) (by simp;omega)
   dsimp only
   rw[hd,if_pos wF]
   simp [val]
  ·have hS:zV s=some ([],[],[],r.2.2.2.2.2.2.1):=by
    unfold zV
    rw[h1,Option.bind_some,if_pos (by simp [e1])]
   have hR:zU s=some ([],[],[],r.2.2.2.2.2.2.1):=by
    unfold zU
    rw[h2,Option.bind_some,if_pos (by simp [e2,e1]),e2]
   rw[hS,hR,Option.bind_some,Option.bind_some]
   have hd:=aCS (([]:List UInt8),(([]:List (List UInt8)),(([]:List UInt8),()))) (by decide)
   dsimp only
   rw[hd,if_pos wF]
   simp [val]
end Go.Proofs.YtfchbnahjcdiiaaGreatDoor
namespace Go.Proofs.YtfchbnahjcdiiaaGreatDoor
open Go.ChangeShapes Go.WideShapes Go.ChangeAt Go.RowKit
section
variable {H:Type}{enc:TypeId×Value→H}{P:Program}
theorem aJt (hl:laidOutB P=true) {W W':World}(hb:Below W.heap.size W W'):
  ∀{ts:List TypeId}{vs:List Value}{ds:List (DataW H)}{ps:List MemPlace},(∀t∈ts,P.readableRec t=true∧t<P.types.size)→
  DataW.TrodAll enc P W 0 (fun _=>true) true ts vs ds ps→(∀x∈ps,x.block<W.heap.size)→
  DataW.TrodAll enc P W' 0 (fun b=>decide (b<W.heap.size)) true ts vs ds ps:=by
 intro ts
 induction ts with
 |nil=>
  intro vs ds ps _ h _
  obtain⟨rfl,rfl,rfl⟩:=trodAll_nil h
  exact trodAll_mk0
 |cons t ts ih=>
  intro vs ds ps hr h hlt
  obtain⟨v,vs',d,ds',p,q,rfl,rfl,rfl,h0,r0⟩:=trodAll_cons h
  exact trodAll_cons_mk (Below.trod hl (hr t (by simp)).1 (hr t (by simp)).2 h0 hb (fun x hx=>hlt x (by simp [hx]))) (ih (fun t' ht'=>hr t' (by simp [ht'])) r0 (fun x hx=>hlt x (by simp [hx])))
theorem aCT {f:Func}{s:ChangeSpec}{W W':World}{args:Array Value}{ds gs:List (DataW H)}{before:List MemPlace}{tb:TypeId}
  (hl:laidOutB P=true) (hr: ∀t∈f.params.toList,P.readableRec t=true∧t<P.types.size)
  (hW:DataW.Whole enc P f.params.toList s.vars false W args.toList ds gs before) (hv:s.vars=[])
  (hfn:s.fn H ds={results:=[.lit (.bool true)],args:=ds}) (hrt:f.resultTypes= #[tb]) (htb:P.underlying tb=some .bool)
  (hb:Below W.heap.size W W'):s.post enc P f false true false false W args (.bool true) W':=by
 have hW':=hW
 obtain⟨p,q,hA,hV,rfl,hfz,hnd⟩:=hW
 rw[hv] at hV
 obtain⟨rfl,rfl⟩:=trodVars_none hV
 have hlt: ∀x∈p,x.block<W.heap.size:=fun x hx=>by simpa using hW'.lt x (by simp [hx])
 refine⟨ds,[],p++[],[],p,[],hW',?_,?_,?_,hb.frame _,fun h=>by cases h⟩
 ·rw[List.append_nil,hfn,hrt]
  exact trodAll_mk1 (shut_bool htb true)
 ·rw[List.append_nil,hfn]
  exact aJt hl hb hr hA hlt
 ·rw[hv,List.append_nil,hfn]
  rfl
end
end Go.Proofs.YtfchbnahjcdiiaaGreatDoor
namespace Go.Proofs.YtfchbnahjcdiiaaGreatDoor
open Go.ChangeShapes Go.WideShapes Go.ChangeAt Go.RowKit
section
variable {H:Type}{enc:TypeId×Value→H}
theorem aJu {C:Checked}{f:FuncId}{fn:Func}{s:ChangeSpec}{tb:TypeId}{C2:List (String×DataW Unit)}(own:ownKnob C.prog.godebug=none) {os:Os}(started:os.Started) (F:Stop.Interp)
  (noInit:C.prog.inits.idxOf? f=none) (hfn:C.prog.funcs[f]? =some fn)
  (hl:laidOutB C.prog=true) (hr: ∀t∈fn.params.toList,C.prog.readableRec t=true∧t<C.prog.types.size) (hv:s.vars=[])
  (hrt:fn.resultTypes= #[tb]) (htb:C.prog.underlying tb=some .bool)
  (hspec: ∀(ds:List (DataW H)) (W:World) (args:Array Value) ps,DataW.TrodAll enc C.prog W 0 (fun _=>true) true fn.params.toList args.toList ds ps→s.fn H ds={results:=[.lit (.bool true)],args:=ds})
  (witness: ∃(w:World) (tape:Tape) (i:Input),w.os=os∧(w.forCall tape i).Shaped C.prog∧i.vars=[]∧Input.okWide C.prog (w.forCall tape i) .any w.heap.size f i∧
   (OpenSpec.ofChange s).preRow enc C.prog fn [] false C2 (w.forCall tape i).memory i.args∧Assume.holds {} C.prog (lone (Frame.enter C.prog f i.args .normal) [] (w.forCall tape i)))
  (contract: ∀(W:World) (base:Nat) (args:Array Value) (ds:List (DataW H)) (ps:List MemPlace),
   (∀(j:Nat) t v,fn.params[j]? =some t→args[j]? =some v→Value.okWide C.prog W .any base t v)→
   DataW.TrodAll enc C.prog W 0 (fun _=>true) true fn.params.toList args.toList ds ps→
   (∀x∈ps,x.block<W.heap.size)→laidMetH C.prog C2 W→W.ShapedOpen C.prog→
   Calls C.prog f args W fun e W'=>e= .returned (.bool true)∧Below W.heap.size W W'):
  ReturnsInHanded {} C os f .any ((OpenSpec.ofChange s).preRow enc C.prog fn [] false C2) (s.post enc C.prog fn false true false false):=by
 refine returnsInHanded_of_row (C:=C) (s:=OpenSpec.ofChange s) (F:=F) own started noInit hfn witness ?_
 intro W base args ds gs before hval hW _ _ hsz hL hsh _
 have hW':=hW
 obtain⟨p,q,hA,hV,rfl,hfz,hnd⟩:=hW
 have hV':DataW.TrodVars enc C.prog W (fun _=>true) s.vars gs q:=hV
 rw[hv] at hV'
 obtain⟨rfl,rfl⟩:=trodVars_none hV'
 have hlt: ∀x∈p,x.block<W.heap.size:=fun x hx=>by simpa using hW'.lt x (by simp [hx])
 refine(contract W base args ds p hval hA hlt hL hsh).mono fun e W' ⟨he,hb⟩=> ?_
 subst he
 exact⟨_,rfl,aCT hl hr hW' hv (hspec ds W args p hA) hrt htb hb⟩
end
end Go.Proofs.YtfchbnahjcdiiaaGreatDoor
namespace Go.Proofs.YtfchbnahjcdiiaaGreatDoor
open Go.Shelf Go.Lib
open Vc
set_option maxRecDepth 100000
theorem aJv:(Rows.laid_unicode_utf8_first:DataW Unit)=Lib.firstData:=by kernel_rfl
theorem aJw:(Rows.laid_unicode_utf8_acceptRanges:DataW Unit)=Lib.acceptData:=by kernel_rfl
theorem aJx {P:Program}{w:World}{g:Nat}{t:TypeId}{k:IntKind}{zero:Array Value}(h:w.ShapedOpen P) (hg:g<P.globals.size)
  (h0:((begin P (fun _ _=>0) default).world.heap[g]?).bind Obj.row? =some (zero,t)) (hz:zero.size=1)
  (hb:P.buildable t=true) (hc:P.cellTypes P.depth t=some [t]) (hu:P.underlying t=some (.int k)): ∃m,w.cell? ⟨g,0,none⟩=some (.int k m):=by
 obtain⟨cs,hh,hs,hr⟩:=h.1 g zero t hg h0
 obtain⟨ts,hts,_,hall⟩:=hr hb
 rw[hc] at hts
 cases hts
 have h1:0<cs.size:=by omega
 obtain⟨u,hu',hok⟩:=hall 0 cs[0] (by simp [h1])
 have:u=t:=by simpa using hu'.symm
 subst this
 have hcell:w.cell? ⟨g,0,none⟩=some cs[0]:=by simp [World.cell?,hh,h1]
 rw[hcell]
 unfold Cell.ok at hok
 rw[hu] at hok
 cases hv:cs[0]<;>rw[hv] at hok<;>simp at hok
 rename_i k' m
 exact⟨m,by rw[hok.1]⟩
theorem aJy {W:World}(hsh:W.ShapedOpen Tryz.prog): ∃m,W.cell? ⟨0,0,none⟩=some (.int .i64 m):=
 aJx (t:=3) (zero:= #[.int .i64 0]) hsh (of_decide_eq_true (by kernel_rfl)) (by kernel_rfl) rfl (by kernel_rfl) (by kernel_rfl) Tryz.underlying3
def aJz:Ren:=⟨fun x=>x,fun x=>if x=5 then 5 else if x=119 then 224 else if x=138 then 226 else 227,fun x=>if x=3 then 1 else 2⟩
theorem a4m {w:World}{a:Addr}{v:Value}(h:w.cell? a=some v):a.block<w.heap.size:=by
 unfold World.cell? at h
 split at h
 ·rename_i hb;exact(Array.getElem?_eq_some_iff.1 hb).1
 ·cases h
theorem aJA {W:World}(hL:laidMet Tryz.prog Rows.treeParseRow.laid W) (hsh:W.ShapedOpen Tryz.prog):Tabs W:=by
 obtain⟨m,hm⟩:=aJy hsh
 have h1:=laidMet.reads hL (.head _)
 have h2:=laidMet.reads hL (.tail _ (.head _))
 rw[aJv] at h2
 rw[aJw] at h1
 have hU:Lib.Utf8Tabs 1 2 W:=utf8Tabs_of_readsT (ρ:=aJz) ⟨by kernel_rfl,by kernel_rfl,by kernel_rfl,by kernel_rfl⟩ ⟨by kernel_rfl,by kernel_rfl,by kernel_rfl,by kernel_rfl,by kernel_rfl,by kernel_rfl,by kernel_rfl⟩ h2 h1
 refine⟨?_,hU,m,hm⟩
 have b0:0<W.heap.size:=a4m hm
 have b1:1<W.heap.size:=a4m (hU.1 0 (by decide))
 have b2:2<W.heap.size:=a4m (hU.2 0 (by decide)).1
 show 3≤W.heap.size
 omega
end Go.Proofs.YtfchbnahjcdiiaaGreatDoor
namespace Go.Proofs.YtfchbnahjcdiiaaGreatDoor
open Vc
open Go.ChangeShapes Go.WideShapes Go.ChangeAt Go.RowKit
set_option maxRecDepth 100000
def gh1 (w:World):Gh:=⟨fun b _=>b<w.heap.size,fun _=>none,fun _ _=>none⟩
theorem aJC {W:World}(hT:Tabs W) (s:ByteArray):
  Calls Tryz.prog 4 #[.string s] W fun e W'=>e= .returned (.bool true)∧Below W.heap.size W W':=by
 have hC:a3N (LP s.data.toList) PC=some (IP s.data.toList):=aHg _
 have ht:=aJs s.data.toList
 refine(aHi.1.2 (gh1 W) W (LP s.data.toList) [.string s] [] _ ⟨(fun i b h=>by cases h),(fun i j bi bj b o _ h=>by cases h),fun b o h=>h,hT,(fun i blk b o h=>by cases h)⟩ ⟨.string s,[],rfl,?_,rfl⟩ hC ?_).mono fun e W' ⟨v,g',he,r⟩=> ?_
 ·refine⟨?_,trivial⟩
  refine .inr ⟨rfl,?_⟩
  show [Value.string s]=[Value.string ⟨s.data.toList.toArray⟩]
  rw[Array.toArray_toList]
 ·intro p hp
  have:p=((GL s.data.toList).isSome=true):=by simpa[IP] using hp
  rw[this,ht];rfl
 ·have hv:v= .bool true:=by
   have h1:=r.ret
   unfold IP at h1
   rw[ht] at h1
   exact tX h1.1
  subst hv
  exact⟨he,⟨r.fr.os,r.fr.tape,r.fr.output,r.fr.size,fun k hk=>r.fr.blk k hk (fun o ⟨i,blk,hi,_⟩=>by cases hi)⟩⟩
end Go.Proofs.YtfchbnahjcdiiaaGreatDoor
namespace Go.Proofs.YtfchbnahjcdiiaaGreatDoor
open Go.ChangeShapes Go.WideShapes Go.ChangeAt Go.RowKit Go.Lib
open Go.ChangeMaps (open_string shut_string)
set_option maxRecDepth 100000
namespace treeSplitLaw
theorem own:ownKnob Tryz.prog.godebug=none:=by kernel_rfl
theorem C2:laidOutB Tryz.prog=true:=by kernel_rfl
theorem aJD:Tryz.prog.readableRec 9=true:=by kernel_rfl
theorem ltS:9<Tryz.prog.types.size:=of_decide_eq_true (by kernel_rfl)
noncomputable def QB (os:Os):World:=
 let w0:=World.holding Tryz.prog os ⟨#[],#[],[]⟩
 let sI (h:Array Obj) (g:Nat) (cs:Array Value):Array Obj:=h.modify g fun
  | .cells _ t frozen=> .cells cs t frozen
  |o=>o
 let h1:=sI w0.heap 1 (Lib.firstTab.map fun z=>Value.int .u8 z).toArray
 let h2:=sI h1 2 ((List.range 16).flatMap fun i=>[Value.int .u8 (Lib.accLo i),Value.int .u8 (Lib.accHi i)]).toArray
 {w0 with heap:=h2}
theorem aJF (os:Os) (args:Array Value):laidMet Tryz.prog Rows.treeSplitRow.laid ((QB os).forCall (fun _ _=>0) ⟨#[],args,[]⟩).memory:=
 (LaidIn.of_run [2,1] 8 (by kernel_rfl) (by kernel_rfl) (by kernel_rfl) (by kernel_rfl):LaidIn Tryz.prog _ Rows.treeSplitRow.laid _).met
theorem aJG (os:Os) {H:Type}(enc:TypeId×Value→H):
  (OpenSpec.ofChange Rows.treeSplitSpec).preRow enc Tryz.prog Tryz.f4 [] false Rows.treeSplitRow.laid ((QB os).forCall (fun _ _=>0) ⟨#[],#[.string ⟨#[]⟩],[]⟩).memory #[.string ⟨#[]⟩]:=by
 have hw:(DataW.whole enc Tryz.prog ((QB os).forCall (fun _ _=>0) ⟨#[],#[.string ⟨#[]⟩],[]⟩).memory Tryz.f4.params.toList (OpenSpec.ofChange Rows.treeSplitSpec).vars false #[Value.string ⟨#[]⟩].toList 8).map (fun x=>(x.1,x.2.1))=
   some ([.lit (.string [])],[]):=by kernel_rfl
 obtain⟨⟨x1,x2,x3⟩,hx,hx1⟩:=Option.map_eq_some_iff.1 hw
 simp only[Prod.mk.injEq] at hx1
 obtain⟨rfl,rfl⟩:=hx1
 exact OpenSpec.preRow_of_cond 8 hx (by kernel_rfl) (fun k hk=>by cases hk) (by kernel_rfl) (aJF os _)
theorem lifted (os:Os) (started:os.Started) (H:Type) (enc:TypeId×Value→H) (F:Stop.Interp):
  ReturnsInHanded {} Tryz.checked os 4 .any ((OpenSpec.ofChange Rows.treeSplitSpec).preRow enc Tryz.prog Tryz.f4 [] false Rows.treeSplitRow.laid) (Rows.treeSplitSpec.post enc Tryz.prog Tryz.f4 false true false false):=by
 refine aJu (C:=Tryz.checked) (tb:=4) own started F (by kernel_rfl) Tryz.func4 C2 ?_ rfl rfl Tryz.underlying4 ?_
  (witness_row_atRef (enc:=enc) (C:=Tryz.checked) false (QB os) #[.string ⟨#[]⟩] rfl (by kernel_rfl) (by kernel_rfl) (by kernel_rfl) (aJG os enc)) ?_
 ·intro t ht
  rw[Tryz.params4] at ht
  simp only[List.mem_cons,List.not_mem_nil,or_false] at ht
  rcases ht with rfl
  exact⟨aJD,ltS⟩
 ·intro ds W args ps h
  have h':DataW.TrodAll enc Tryz.prog W 0 (fun _=>true) true Tryz.f4.params.toList args.toList ds ps:=h
  rw[Tryz.params4] at h'
  obtain⟨v0,d0,rfl,rfl,h0⟩:=trodAll_one h'
  rfl
 ·intro W base args ds ps hval0 hA0 hlt hL hsh
  have hval: ∀(j:Nat) t v,Tryz.f4.params[j]? =some t→args[j]? =some v→Value.okWide Tryz.prog W .any base t v:=hval0
  have hA:DataW.TrodAll enc Tryz.prog W 0 (fun _=>true) true Tryz.f4.params.toList args.toList ds ps:=hA0
  rw[Tryz.params4] at hA hval
  obtain⟨v0,d0,rfl,rfl,h0⟩:=trodAll_one hA
  obtain⟨s,rfl,rfl,rfl,ws⟩:=open_string Tryz.underlying9 (hval 0 9 v0 rfl rfl) h0
  exact aJC (aJA hL hsh) s
end treeSplitLaw
theorem aCU:Rows.TreeSplitSaid:=
 OpenClaim.holds_of_wide 4 Tryz.f4 rfl rfl rfl rfl rfl rfl rfl ⟨rfl,rfl,rfl,rfl,rfl⟩ rfl rfl rfl rfl rfl (by kernel_rfl) Tryz.func4 (by kernel_rfl)
  (of_decide_eq_true (by kernel_rfl)) (by unfold Func.isWrapper;first|(rw[if_pos (by decide+kernel)];kernel_rfl) |(rw[if_neg (by decide+kernel)];exact⟨rfl,rfl⟩))
  (fun os started H enc _=>by rw[OpenClaim.pre_eq_preRow];exact treeSplitLaw.lifted os started H enc (fun _ _ _=>0))
#print axioms aCU
end Go.Proofs.YtfchbnahjcdiiaaGreatDoor
namespace Go.Proofs.YtfchbnahjcdiiaaGreatDoor
open Go
set_option maxRecDepth 100000
theorem treeSplitCard_holds:Rows.TreeSplitCardSaid:=
 Claim7.holds_tied_plain_at .later [] [.data,.pinned] true (true, "146bb05169042bd84b58c90b8373b19d6ea2c804118574bd5c158f8fcdc71822") false
  aCU (fun _ h=>by cases h) (by kernel_rfl) (fun _ h=>by cases h) treeSplit_row_tie rfl ⟨rfl,rfl⟩ (by kernel_rfl) rfl
  (fun f fn hf hfn=>by
   obtain rfl:f=4:=Option.some.inj ((show Tryz.prog.funcNamed "calque/calquelaw40.TreeSplit" =some 4 by kernel_rfl).symm.trans hf) |>.symm
   obtain rfl:fn=Tryz.f4:=(Option.some.inj (Tryz.func4.symm.trans hfn)).symm
   exact⟨by kernel_rfl,fun j t ht=>by
    rw[Tryz.params4] at ht
    have hm:t∈[9]:=by simpa using Array.mem_of_getElem? ht
    have hall:([9].all fun u=> !Tryz.prog.wantsStandIn u)=true:=by kernel_rfl
    exact(show Tryz.prog.wantsStandIn t=false by simpa using List.all_eq_true.1 hall t hm)⟩)
  (by kernel_rfl)
#print axioms treeSplitCard_holds
end Go.Proofs.YtfchbnahjcdiiaaGreatDoor
