/- TreeParse returns true for every body: the tied card of the statement, over the row's statement. No condition. -/
/- Packed by a program of mine (wip/tools/pack.py): the same texts with short names and few blanks. -/
import Derived.Deep.CondSized
import Derived.Deep.DeepHandedRow
import Derived.Deep.DeepWitnessRowRef
import Derived.KernelRfl
import Derived.Laws.BitsLemmas
import Derived.Lib.Index
import Derived.Lib.IndexAny
import Derived.Lib.LaidIn
import Derived.Lib.LaidU8T
import Derived.OpenShut
import Derived.ProofKit
import Derived.SevenTiedAt
import Derived.SizedLaws
import Derived.Test.YtfchbnahjcdiiaaGreatDoorCards
import Derived.Test.YtfchbnahjcdiiaaGreatDoorRows
import Derived.Test.YtfchbnahjcdiiaaGreatDoorTie
import Derived.WalkKit
import Derived.Test.YtfchbnahjcdiiaaGreatDoorZ03
set_option linter.unusedVariables false
set_option linter.unusedSimpArgs false
set_option linter.unusedSectionVars false
namespace Go.Proofs.YtfchbnahjcdiiaaGreatDoor
open Vc
set_option maxRecDepth 100000
set_option maxHeartbeats 4000000
set_option linter.unusedSimpArgs false
set_option linter.unusedSectionVars false
set_option linter.unusedVariables false
noncomputable section
def uZ (O:((List UInt8)×(Int×Unit))) (Z:q9) (aA:Int) (aB:Int) (aC:pZ) (aD:((List Int)×(Int×Unit))) (aE:(List ((List UInt8)×Bool))):Option (Int×Int×(List UInt8)×Int×Int×Int×Int×(List UInt8)×(List (List UInt8))×(List p6)×(List Int)×Int):=
 (uY O Z aA aB aC aD (2:Int) ([99,97,116,97,108,111,103]:List UInt8) aE).bind fun aF=>
 (wP (O.1,(aF.1,())) (aF.2.1,(aF.2.2.1,(aF.2.2.2.1,(aF.2.2.2.2.1,())))) aF.2.2.2.2.2.1 aF.2.2.2.2.2.2.1 (aC.1,(aC.2.1,(aC.2.2.1,(aC.2.2.2.1,())))) (aD.1,(aF.2.2.2.2.2.2.2,())) (1:Int) false aE).bind fun aG=>
 (tD (O.1,(aG.1,())) (aG.2.1,(aG.2.2.1,(aG.2.2.2.1,(aG.2.2.2.2.1,())))) aG.2.2.2.2.2.1 aG.2.2.2.2.2.2.1 (aF.2.2.1,(aC.2.1,(aC.2.2.1,(aC.2.2.2.1,())))) (aD.1,(aG.2.2.2.2.2.2.2,())) false aE).bind fun aH=>
 some ((aH.2.2.2.2.2.2.1,aH.2.2.2.2.2.2.2.1,aH.2.2.2.2.2.2.2.2.1,aH.2.2.2.2.2.2.2.2.2.1,aH.2.2.2.2.2.2.2.2.2.2.1,aH.2.2.2.2.2.2.2.2.2.2.2.1,aH.2.2.2.2.2.2.2.2.2.2.2.2.1,aF.2.2.1,aH.2.2.1,aH.2.2.2.2.2.1,aH.2.2.2.2.2.2.2.2.2.2.2.2.2.1,aH.2.2.2.2.2.2.2.2.2.2.2.2.2.2))
section
variable (O:((List UInt8)×(Int×Unit))) (Z:q9) (aA:Int) (aB:Int) (aC:pZ) (aD:((List Int)×(Int×Unit))) (aE:Nat) (aF:Nat) (aG:(List ((List UInt8)×Bool)))
@[reducible] def a3f:List Slot:=[(.val .ref (some (0,0)),none)]
@[reducible] def a3g:List Blk:=[.cells q7 (O,(Z,(aA,(aB,(aC,((some 3),aD)))))) [(11,1),(13,2)],.grow 52 7 aE,.grow 3 1 aF,.map .str .bool aG]
@[go_sem] def a3h:Ret:=⟨[aE=(List.length aC.2.2.2.1),aF=(List.length aD.1),((uZ O Z aA aB aC aD aG)).isSome=true],[],[.cells q7 ((O.1,((val (uZ O Z aA aB aC aD aG)).1,())),(((val (uZ O Z aA aB aC aD aG)).2.1,((val (uZ O Z aA aB aC aD aG)).2.2.1,((val (uZ O Z aA aB aC aD aG)).2.2.2.1,((val (uZ O Z aA aB aC aD aG)).2.2.2.2.1,())))),((val (uZ O Z aA aB aC aD aG)).2.2.2.2.2.1,((val (uZ O Z aA aB aC aD aG)).2.2.2.2.2.2.1,(((val (uZ O Z aA aB aC aD aG)).2.2.2.2.2.2.2.1,((val (uZ O Z aA aB aC aD aG)).2.2.2.2.2.2.2.2.1,((val (uZ O Z aA aB aC aD aG)).2.2.2.2.2.2.2.2.2.1,(aC.2.2.2.1,())))),((some 3),((val (uZ O Z aA aB aC aD aG)).2.2.2.2.2.2.2.2.2.2.1,((val (uZ O Z aA aB aC aD aG)).2.2.2.2.2.2.2.2.2.2.2,())))))))) [(11,1),(13,2)],.grow 52 7 (List.length aC.2.2.2.1),.grow 3 1 (List.length ((val (uZ O Z aA aB aC aD aG)).2.2.2.2.2.2.2.2.2.2.1)),.map .str .bool aG]⟩
def aBb:List Slot→List Blk→Option Ret:=pM (V:=(((List UInt8)×(Int×Unit))×q9×Int×Int×pZ×((List Int)×(Int×Unit))×Nat×Nat×(List ((List UInt8)×Bool)))) (fun x=>a3f) (fun x=>a3g x.1 x.2.1 x.2.2.1 x.2.2.2.1 x.2.2.2.2.1 x.2.2.2.2.2.1 x.2.2.2.2.2.2.1 x.2.2.2.2.2.2.2.1 x.2.2.2.2.2.2.2.2) fun x=>a3h x.1 x.2.1 x.2.2.1 x.2.2.2.1 x.2.2.2.2.1 x.2.2.2.2.2.1 x.2.2.2.2.2.2.1 x.2.2.2.2.2.2.2.1 x.2.2.2.2.2.2.2.2
@[go_sem] theorem aL6:aBb (no_index a3f) (no_index (a3g O Z aA aB aC aD aE aF aG))=some (a3h O Z aA aB aC aD aE aF aG):=pN (fun⟨a0,a1,a2,a3,a4,a5,a6,a7,a8⟩ ⟨b0,b1,b2,b3,b4,b5,b6,b7,b8⟩ h1 h2=>by cases h1;cases h2;rfl) (O,Z,aA,aB,aC,aD,aE,aF,aG)
end
@[reducible,go_sem] def aBc:Nat×Sig:=(41,⟨[.p q7 [11,13]],aBb,[(0,12,.m)],[1,3],none⟩)
theorem LC:Env Tryz.prog [q8,vZ,yA,yB,xH,vE] (pE [L9,aAF,a3e]):=⟨⟨qA,⟨xG,⟨zR,⟨zT,⟨yW,⟨wL,trivial⟩⟩⟩⟩⟩⟩,oZ a2u (oZ aGy (oZ aBa pP)),pH⟩
theorem aGM:pI Tryz.prog aBc:=by
 refine pO LC Tryz.func41 (c:=_) rfl (N:=25) (by kernel_rfl) (ts:=[]) rfl (fun _ _=>rfl) ?_
 intro⟨O,Z,aA,aB,aC,aD,aE,aF,aG⟩ hs hrow
 dsimp only[a3f,a3g,a3h,pK,enumH,pD,pG,pL,Nat.reduceAdd] at hs hrow⊢
 obtain⟨rfl,rfl,hz⟩:=hs
 obtain⟨z0,hC0⟩:=Option.isSome_iff_exists.1 hz
 try rw[pW hC0]
 clear hz
 unfold uZ at hC0
 obtain⟨aH,hv1,hw1,hC0⟩:=p9 hC0
 try simp only[go_sem] at hw1
 refine oS LC ?_ (hp:=by exact And.intro (by first|exact rfl|exact trivial) (And.intro (by first|exact rfl|exact trivial) (And.intro (by first|exact rfl|exact trivial) (And.intro (by first|exact rfl|exact trivial) (And.intro (by first|exact rfl|exact trivial) ((p8 hv1))))))) (h:=by simp only[go_sem,hw1];rfl)
 obtain⟨aI,hv2,hw2,hC0⟩:=p9 hC0
 try simp only[go_sem] at hw2
 refine oS LC ?_ (hp:=by exact And.intro (by first|exact rfl|exact trivial) (And.intro (by first|exact rfl|exact trivial) (And.intro (by first|exact rfl|exact trivial) (And.intro (by first|exact rfl|exact trivial) (And.intro (by first|exact rfl|exact trivial) ((p8 hv2))))))) (h:=by simp only[go_sem,hw2];rfl)
 obtain⟨aJ,hv3,hw3,hC0⟩:=p9 hC0
 try simp only[go_sem] at hw3
 refine oS LC ?_ (hp:=by exact And.intro (by first|exact rfl|exact trivial) (And.intro (by first|exact rfl|exact trivial) (And.intro (by first|exact rfl|exact trivial) (And.intro (by first|exact rfl|exact trivial) ((p8 hv3)))))) (h:=by simp only[go_sem,hw3];rfl)
 refine FS LC ?_
 cases hC0
 exact⟨[(0,0),(1,1),(2,2),(3,3)],by rfl,by rfl,by rfl⟩
attribute [irreducible] uZ
def v6 (O:((List UInt8)×(Int×Unit))) (Z:q9) (aA:Int) (aB:Int) (aC:pZ) (aD:((List Int)×(Int×Unit))) (aE:(List ((List UInt8)×Bool))):Option (Int×Int×(List UInt8)×Int×Int×Int×Int×(List pX)×(List Int)×Int×(List ((List UInt8)×Bool))):=
 (uY O Z aA aB aC aD (2:Int) ([101,110,116,114,121]:List UInt8) aE).bind fun aF=>
 (wW (O.1,(aF.1,())) (aF.2.1,(aF.2.2.1,(aF.2.2.2.1,(aF.2.2.2.2.1,())))) aF.2.2.2.2.2.1 aF.2.2.2.2.2.2.1 (aC.1,(aC.2.1,(aC.2.2.1,(aC.2.2.2.1,())))) (aD.1,(aF.2.2.2.2.2.2.2,())) (1:Int) (decide ((List.length aC.2.2.2.1:Int)=(1000:Int))) aE).bind fun aG=>
 (tD (O.1,(aG.1,())) (aG.2.1,(aG.2.2.1,(aG.2.2.2.1,(aG.2.2.2.2.1,())))) aG.2.2.2.2.2.1 aG.2.2.2.2.2.2.1 (aC.1,(aC.2.1,(aC.2.2.1,(aC.2.2.2.1,())))) (aD.1,(aG.2.2.2.2.2.2.2,())) true (rC .str .bool aF.2.2.1 true aE)).bind fun aH=>
 if (List.length aC.2.2.2.1+List.length ([(aF.2.2.1,(aH.1,(aH.2.1,(aH.2.2.1,(aH.2.2.2.1,(aH.2.2.2.2.1,(aH.2.2.2.2.2.1,())))))))]:List pX))*128≤140737488355328 then
  some ((aH.2.2.2.2.2.2.1,aH.2.2.2.2.2.2.2.1,aH.2.2.2.2.2.2.2.2.1,aH.2.2.2.2.2.2.2.2.2.1,aH.2.2.2.2.2.2.2.2.2.2.1,aH.2.2.2.2.2.2.2.2.2.2.2.1,aH.2.2.2.2.2.2.2.2.2.2.2.2.1,(aC.2.2.2.1++([(aF.2.2.1,(aH.1,(aH.2.1,(aH.2.2.1,(aH.2.2.2.1,(aH.2.2.2.2.1,(aH.2.2.2.2.2.1,())))))))]:List pX)),aH.2.2.2.2.2.2.2.2.2.2.2.2.2.1,aH.2.2.2.2.2.2.2.2.2.2.2.2.2.2,(rC .str .bool aF.2.2.1 true aE)))
 else none
section
variable (O:((List UInt8)×(Int×Unit))) (Z:q9) (aA:Int) (aB:Int) (aC:pZ) (aD:((List Int)×(Int×Unit))) (aE:Nat) (aF:Nat) (aG:(List ((List UInt8)×Bool)))
@[reducible] def a3i:List Slot:=[(.val .ref (some (0,0)),none)]
@[reducible] def a3j:List Blk:=[.cells q7 (O,(Z,(aA,(aB,(aC,((some 3),aD)))))) [(11,1),(13,2)],.grow 52 7 aE,.grow 3 1 aF,.map .str .bool aG]
@[go_sem] def a3k:Ret:=⟨[aE=(List.length aC.2.2.2.1),aF=(List.length aD.1),((v6 O Z aA aB aC aD aG)).isSome=true],[],[.cells q7 ((O.1,((val (v6 O Z aA aB aC aD aG)).1,())),(((val (v6 O Z aA aB aC aD aG)).2.1,((val (v6 O Z aA aB aC aD aG)).2.2.1,((val (v6 O Z aA aB aC aD aG)).2.2.2.1,((val (v6 O Z aA aB aC aD aG)).2.2.2.2.1,())))),((val (v6 O Z aA aB aC aD aG)).2.2.2.2.2.1,((val (v6 O Z aA aB aC aD aG)).2.2.2.2.2.2.1,((aC.1,(aC.2.1,(aC.2.2.1,((val (v6 O Z aA aB aC aD aG)).2.2.2.2.2.2.2.1,())))),((some 3),((val (v6 O Z aA aB aC aD aG)).2.2.2.2.2.2.2.2.1,((val (v6 O Z aA aB aC aD aG)).2.2.2.2.2.2.2.2.2.1,())))))))) [(11,1),(13,2)],.grow 52 7 (List.length ((val (v6 O Z aA aB aC aD aG)).2.2.2.2.2.2.2.1)),.grow 3 1 (List.length ((val (v6 O Z aA aB aC aD aG)).2.2.2.2.2.2.2.2.1)),.map .str .bool ((val (v6 O Z aA aB aC aD aG)).2.2.2.2.2.2.2.2.2.2)]⟩
def aBd:List Slot→List Blk→Option Ret:=pM (V:=(((List UInt8)×(Int×Unit))×q9×Int×Int×pZ×((List Int)×(Int×Unit))×Nat×Nat×(List ((List UInt8)×Bool)))) (fun x=>a3i) (fun x=>a3j x.1 x.2.1 x.2.2.1 x.2.2.2.1 x.2.2.2.2.1 x.2.2.2.2.2.1 x.2.2.2.2.2.2.1 x.2.2.2.2.2.2.2.1 x.2.2.2.2.2.2.2.2) fun x=>a3k x.1 x.2.1 x.2.2.1 x.2.2.2.1 x.2.2.2.2.1 x.2.2.2.2.2.1 x.2.2.2.2.2.2.1 x.2.2.2.2.2.2.2.1 x.2.2.2.2.2.2.2.2
@[go_sem] theorem aL7:aBd (no_index a3i) (no_index (a3j O Z aA aB aC aD aE aF aG))=some (a3k O Z aA aB aC aD aE aF aG):=pN (fun⟨a0,a1,a2,a3,a4,a5,a6,a7,a8⟩ ⟨b0,b1,b2,b3,b4,b5,b6,b7,b8⟩ h1 h2=>by cases h1;cases h2;rfl) (O,Z,aA,aB,aC,aD,aE,aF,aG)
end
@[reducible,go_sem] def aBe:Nat×Sig:=(42,⟨[.p q7 [11,13]],aBd,[(0,12,.m)],[],none⟩)
theorem D5:Env Tryz.prog [BE,q8,DW,yB,xH,O6,FU,vE] (pE [L9,aAS,a3e]):=⟨⟨DU,⟨qA,⟨HJ,⟨zT,⟨yW,⟨a67,⟨KE,⟨wL,trivial⟩⟩⟩⟩⟩⟩⟩⟩,oZ a2u (oZ aGE (oZ aBa pP)),pH⟩
theorem aGN:pI Tryz.prog aBe:=by
 refine pO D5 Tryz.func42 (c:=_) rfl (N:=39) (by kernel_rfl) (ts:=[]) rfl (fun _ _=>rfl) ?_
 intro⟨O,Z,aA,aB,aC,aD,aE,aF,aG⟩ hs hrow
 dsimp only[a3i,a3j,a3k,pK,enumH,pD,pG,pL,Nat.reduceAdd] at hs hrow⊢
 obtain⟨rfl,rfl,hz⟩:=hs
 obtain⟨z0,hC0⟩:=Option.isSome_iff_exists.1 hz
 try rw[pW hC0]
 clear hz
 unfold v6 at hC0
 refine oS D5 ?_
 obtain⟨aH,hv1,hw1,hC0⟩:=p9 hC0
 try simp only[go_sem] at hw1
 refine oS D5 ?_ (hp:=by exact And.intro (by first|exact rfl|exact trivial) (And.intro (by first|exact rfl|exact trivial) (And.intro (by first|exact rfl|exact trivial) (And.intro (by first|exact rfl|exact trivial) (And.intro (by first|exact rfl|exact trivial) ((p8 hv1))))))) (h:=by simp only[go_sem,hw1];rfl)
 refine oS D5 ?_
 obtain⟨aI,hv2,hw2,hC0⟩:=p9 hC0
 try simp only[go_sem] at hw2
 refine qR D5 ?_ (hp:=by exact And.intro (by first|exact rfl|exact trivial) (And.intro (by first|exact rfl|exact trivial) (And.intro (by first|exact rfl|exact trivial) (And.intro (by first|exact rfl|exact trivial) (And.intro (by first|exact rfl|exact trivial) (And.intro (by first|exact rfl|exact trivial) ((p8 hv2)))))))) (h:=by simp only[go_sem,hw2];rfl)
 refine oS D5 ?_
 obtain⟨aJ,hv3,hw3,hC0⟩:=p9 hC0
 try simp only[go_sem] at hw3
 refine oS D5 ?_ (hp:=by exact And.intro (by first|exact rfl|exact trivial) (And.intro (by first|exact rfl|exact trivial) (And.intro (by first|exact rfl|exact trivial) (And.intro (by first|exact rfl|exact trivial) ((p8 hv3)))))) (h:=by simp only[go_sem,hw3];rfl)
 refine oS D5 ?_
 obtain⟨hg4,hC0⟩:=oU hC0
 refine FS D5 ?_ (hp:=by exact And.intro (by first|exact rfl|exact trivial) (hg4))
 cases hC0
 exact⟨[(0,0),(1,1),(2,2),(3,3)],by rfl,by rfl,by rfl⟩
attribute [irreducible] v6
def zC (O:(List UInt8)) (Z:(Int×Int×(List UInt8)×Int×Int×Int×Int×(List UInt8)×(List (List UInt8))×(List p6)×(List Int)×Int)):(Int×Int×(List UInt8)×Int×Int×Int×Int×(List pX)×(List Int)×Int×(List ((List UInt8)×Bool)))→Option ((Int×Int×(List UInt8)×Int×Int×Int×Int×(List pX)×(List Int)×Int×(List ((List UInt8)×Bool)))⊕(Int×Int×(List UInt8)×Int×Int×Int×Int×(List pX)×(List Int)×Int×(List ((List UInt8)×Bool)))):=fun(aA,aB,aC,aD,aE,aF,aG,aH,aI,aJ,aK)=>
 if ((decide (aG=(0:Int)))&&(!decide (aB=(4:Int))))=true then
  (v6 (O,(aA,())) (aB,(aC,(aD,(aE,())))) aF aG (Z.2.2.2.2.2.2.2.1,(Z.2.2.2.2.2.2.2.2.1,(Z.2.2.2.2.2.2.2.2.2.1,(aH,())))) (aI,(aJ,())) aK).bind fun aL=>
  some (.inl (aL.1,aL.2.1,aL.2.2.1,aL.2.2.2.1,aL.2.2.2.2.1,aL.2.2.2.2.2.1,aL.2.2.2.2.2.2.1,aL.2.2.2.2.2.2.2.1,aL.2.2.2.2.2.2.2.2.1,aL.2.2.2.2.2.2.2.2.2.1,aL.2.2.2.2.2.2.2.2.2.2))
 else
  some (.inr (aA,aB,aC,aD,aE,aF,aG,aH,aI,aJ,aK))
def tU (O:(List UInt8)):Option (Int×Int×(List UInt8)×Int×Int×Int×Int×(List UInt8)×(List (List UInt8))×(List p6)×(List pX)×(List Int)×Int×(List ((List UInt8)×Bool))):=
 (yH (O,((0:Int),()))).bind fun Z=>
 (uZ (O,(Z.2.2.2.2,())) (Z.1,(Z.2.1,(Z.2.2.1,(Z.2.2.2.1,())))) (0:Int) (0:Int) (([]:List UInt8),(([]:List (List UInt8)),(([]:List p6),(([]:List pX),())))) (([]:List Int),((0:Int),())) ([]:List ((List UInt8)×Bool))).bind fun aA=>
 qE (pT (zC O aA) (aA.1,aA.2.1,aA.2.2.1,aA.2.2.2.1,aA.2.2.2.2.1,aA.2.2.2.2.2.1,aA.2.2.2.2.2.2.1,([]:List pX),aA.2.2.2.2.2.2.2.2.2.2.1,aA.2.2.2.2.2.2.2.2.2.2.2,([]:List ((List UInt8)×Bool)))) fun(aB,aC,aD,aE,aF,aG,aH,aI,aJ,aK,aL)=>
 some ((aB,aC,aD,aE,aF,aG,aH,aA.2.2.2.2.2.2.2.1,aA.2.2.2.2.2.2.2.2.1,aA.2.2.2.2.2.2.2.2.2.1,aI,aJ,aK,aL))
section
variable (O:(List UInt8))
@[reducible] def a3l:List Slot:=[(.val .str O,none)]
@[reducible] def a3m:List Blk:=[]
@[go_sem] def a3n:Ret:=⟨[((tU O)).isSome=true],[(.val .ref (some (0,0)),none)],[.cells q7 ((O,((val (tU O)).1,())),(((val (tU O)).2.1,((val (tU O)).2.2.1,((val (tU O)).2.2.2.1,((val (tU O)).2.2.2.2.1,())))),((val (tU O)).2.2.2.2.2.1,((val (tU O)).2.2.2.2.2.2.1,(((val (tU O)).2.2.2.2.2.2.2.1,((val (tU O)).2.2.2.2.2.2.2.2.1,((val (tU O)).2.2.2.2.2.2.2.2.2.1,((val (tU O)).2.2.2.2.2.2.2.2.2.2.1,())))),((some 1),((val (tU O)).2.2.2.2.2.2.2.2.2.2.2.1,((val (tU O)).2.2.2.2.2.2.2.2.2.2.2.2.1,())))))))) [(11,2),(13,3)],.map .str .bool ((val (tU O)).2.2.2.2.2.2.2.2.2.2.2.2.2),.grow 52 7 (List.length ((val (tU O)).2.2.2.2.2.2.2.2.2.2.1)),.grow 3 1 (List.length ((val (tU O)).2.2.2.2.2.2.2.2.2.2.2.1))]⟩
def aBf:List Slot→List Blk→Option Ret:=pM (V:=(List UInt8)) (fun x=>a3l x) (fun x=>a3m) fun x=>a3n x
@[go_sem] theorem aL8:aBf (no_index (a3l O)) (no_index a3m)=some (a3n O):=pN (fun a0 b0 h1 h2=>by cases h1;cases h2;rfl) O
end
@[reducible,go_sem] def aBg:Nat×Sig:=(27,⟨[.v],aBf,[],[],none⟩)
theorem EQ:Env Tryz.prog [sE,BE,q8,w4,KG,wM,FU,vE] (pE [a1H,aBc,aBe]):=⟨⟨sL,⟨DU,⟨qA,⟨xI,⟨TA,⟨yC,⟨KE,⟨wL,trivial⟩⟩⟩⟩⟩⟩⟩⟩,oZ aAu (oZ aGM (oZ aGN pP)),pH⟩
theorem aGO:pI Tryz.prog aBg:=by
 refine pO EQ Tryz.func27 (c:=_) rfl (N:=34) (by kernel_rfl) (ts:=[(2,none)]) rfl (fun _ _=>rfl) ?_
 intro O hs hrow
 dsimp only[a3l,a3m,a3n,pK,enumH,pD,pG,pL,Nat.reduceAdd] at hs hrow⊢
 have hz:=hs
 obtain⟨z0,hC0⟩:=Option.isSome_iff_exists.1 hz
 try rw[pW hC0]
 clear hz hs
 unfold tU at hC0
 refine oS EQ ?_
 refine oS EQ ?_
 obtain⟨Z,hv1,hw1,hC0⟩:=p9 hC0
 try simp only[go_sem] at hw1
 refine oS EQ ?_ (hp:=by exact(p8 hv1)) (h:=by simp only[go_sem,hw1];rfl)
 obtain⟨aA,hv2,hw2,hC0⟩:=p9 hC0
 try simp only[go_sem] at hw2
 refine oS EQ ?_ (hp:=by exact And.intro (by first|exact rfl|exact trivial) (And.intro (by first|exact rfl|exact trivial) (And.intro (by first|exact rfl|exact trivial) (And.intro (by first|exact rfl|exact trivial) ((p8 hv2)))))) (h:=by simp only[go_sem,hw2];rfl)
 refine p4 (pU ?_)
 obtain⟨y1,hy1,hC0⟩:=oY hC0
 refine rI 0 (fun s=>s=(fun x=>⟨[(3,(.val .ref (some (0,0)),none))],[(0,.cells q7 ((O,(x.1,())),((x.2.1,(x.2.2.1,(x.2.2.2.1,(x.2.2.2.2.1,())))),(x.2.2.2.2.2.1,(x.2.2.2.2.2.2.1,((aA.2.2.2.2.2.2.2.1,(aA.2.2.2.2.2.2.2.2.1,(aA.2.2.2.2.2.2.2.2.2.1,(x.2.2.2.2.2.2.2.1,())))),((some 1),(x.2.2.2.2.2.2.2.2.1,(x.2.2.2.2.2.2.2.2.2.1,())))))))) [(11,2),(13,3)]),(1,.map .str .bool x.2.2.2.2.2.2.2.2.2.2),(2,.grow 52 7 (List.length x.2.2.2.2.2.2.2.1)),(3,.grow 3 1 (List.length x.2.2.2.2.2.2.2.2.1))],4,34,0⟩) y1) ?_ ?_
 ·refine rH hy1 (fun x=>⟨[(3,(.val .ref (some (0,0)),none))],[(0,.cells q7 ((O,(x.1,())),((x.2.1,(x.2.2.1,(x.2.2.2.1,(x.2.2.2.2.1,())))),(x.2.2.2.2.2.1,(x.2.2.2.2.2.2.1,((aA.2.2.2.2.2.2.2.1,(aA.2.2.2.2.2.2.2.2.1,(aA.2.2.2.2.2.2.2.2.2.1,(x.2.2.2.2.2.2.2.1,())))),((some 1),(x.2.2.2.2.2.2.2.2.1,(x.2.2.2.2.2.2.2.2.2.1,())))))))) [(11,2),(13,3)]),(1,.map .str .bool x.2.2.2.2.2.2.2.2.2.2),(2,.grow 52 7 (List.length x.2.2.2.2.2.2.2.1)),(3,.grow 3 1 (List.length x.2.2.2.2.2.2.2.2.1))],4,34,0⟩) ⟨[3],[(0,80),(1,48),(2,83),(3,84)]⟩ (by rfl) ?_
  intro x1 w1 n1 hC1 hN1
  obtain⟨aB,aC,aD,aE,aF,aG,aH,aI,aJ,aK,aL⟩:=x1
  unfold zC at hC1
  dsimp only at hC1⊢
  refine p4 ?_
  refine oS EQ ?_ (hp:=by exact And.intro (fun hh=>hh) (And.intro (fun hh=>hh) (And.intro (fun hh=>hh) (And.intro (fun hh=>hh) (And.intro (fun hh=>hh) ((fun hh=>pY hh)))))))
  refine oX hC1 (fun hC1 hc1=> ?_) (fun hC1 hc1=> ?_)
  ·refine p7 (oW (pU ?_))
   obtain⟨aM,hv3,hw3,hC1⟩:=p9 hC1
   try simp only[go_sem] at hw3
   refine pF EQ ?_ (hp:=by exact And.intro (by first|exact rfl|exact trivial) (And.intro (by first|exact rfl|exact trivial) ((p8 hv3)))) (h:=by simp only[go_sem,hw3];rfl)
   refine pB ?_
   cases hC1
   exact qG ⟨⟨[3],[(0,0),(1,1),(2,2),(3,3)]⟩,_,by rfl,hN1⟩
  ·refine qY (r8 (r5 ?_))
   cases hC1
   cases hN1
   exact qZ ⟨⟨[3],[(0,0),(1,1),(2,2),(3,3)]⟩,by rfl⟩
 ·rintro _ rfl
  obtain⟨aN,aO,aP,aQ,aR,aS,aT,aU,aV,aW,aX⟩:=y1
  dsimp only at hC0⊢
  refine rF (oW ?_)
  refine oS EQ ?_
  refine oV ?_
  cases hC0
  exact⟨[(0,0),(1,1),(2,2),(3,3)],by rfl,by rfl,by rfl⟩
attribute [irreducible] tU
end
end Go.Proofs.YtfchbnahjcdiiaaGreatDoor
namespace Go.Proofs.YtfchbnahjcdiiaaGreatDoor
open Vc
set_option maxRecDepth 100000
set_option maxHeartbeats 4000000
set_option linter.unusedSimpArgs false
set_option linter.unusedSectionVars false
set_option linter.unusedVariables false
noncomputable section
def zD (O:(List UInt8)):Option ((List UInt8)×(List (List UInt8))×(List p6)×(List pX)×Int×Int):=
 (tU O).bind fun Z=>
 if (!decide (Z.2.2.2.2.2.2.1=(0:Int)))=true then
  some ((([]:List UInt8),([]:List (List UInt8)),([]:List p6),([]:List pX),Z.2.2.2.2.2.1,Z.2.2.2.2.2.2.1))
 else
  some ((Z.2.2.2.2.2.2.2.1,Z.2.2.2.2.2.2.2.2.1,Z.2.2.2.2.2.2.2.2.2.1,Z.2.2.2.2.2.2.2.2.2.2.1,(0:Int),(0:Int)))
section
variable (O:(List UInt8))
@[reducible] def a3o:List Slot:=[(.val .str O,none)]
@[reducible] def a3p:List Blk:=[]
@[go_sem] def a3q:Ret:=⟨[((zD O)).isSome=true],[(.val y9 ((val (zD O)).1,((val (zD O)).2.1,((val (zD O)).2.2.1,((val (zD O)).2.2.2.1,())))),none),(.val (.int .i64) ((val (zD O)).2.2.2.2.1),none),(.val (.int .i64) ((val (zD O)).2.2.2.2.2),none)],[]⟩
def aBh:List Slot→List Blk→Option Ret:=pM (V:=(List UInt8)) (fun x=>a3o x) (fun x=>a3p) fun x=>a3q x
@[go_sem] theorem aL9:aBh (no_index (a3o O)) (no_index a3p)=some (a3q O):=pN (fun a0 b0 h1 h2=>by cases h1;cases h2;rfl) O
end
@[reducible,go_sem] def a3r:Nat×Sig:=(10,⟨[.v],aBh,[],[],none⟩)
theorem IC:Env Tryz.prog [sE,yB,w4,vE] (pE [aBg]):=⟨⟨sL,⟨zT,⟨xI,⟨wL,trivial⟩⟩⟩⟩,oZ aGO pP,pH⟩
theorem aBi:pI Tryz.prog a3r:=by
 refine pO IC Tryz.func10 (c:=_) rfl (N:=26) (by kernel_rfl) (ts:=[(2,some 27),(3,none),(4,none)]) rfl (fun _ _=>rfl) ?_
 intro O hs hrow
 dsimp only[a3o,a3p,a3q,pK,enumH,pD,pG,pL,Nat.reduceAdd] at hs hrow⊢
 have hz:=hs
 obtain⟨z0,hC0⟩:=Option.isSome_iff_exists.1 hz
 try rw[pW hC0]
 clear hz hs
 unfold zD at hC0
 refine oS IC ?_
 obtain⟨Z,hv1,hw1,hC0⟩:=p9 hC0
 try simp only[go_sem] at hw1
 refine oS IC ?_ (hp:=by exact(p8 hv1)) (h:=by simp only[go_sem,hw1];rfl)
 refine p4 ?_
 refine oS IC ?_
 refine oX hC0 (fun hC0 hc1=> ?_) (fun hC0 hc1=> ?_)
 ·refine qR IC ?_
  refine oV (pC ?_)
  cases hC0
  exact⟨[],by rfl,by rfl,by rfl⟩
 ·refine p7 (oW ?_)
  refine oS IC ?_
  refine oV ?_
  cases hC0
  exact⟨[],by rfl,by rfl,by rfl⟩
attribute [irreducible] zD
def ID:Option Bool:=
 (zD ([99,97,116,97,108,111,103,34,100,101,34,123,125,47,42,32,120,32,42,47,101,110,116,114,121,34,97,34,123,116,97,114,103,101,116,34,120,34,125,47,47]:List UInt8)).bind fun O=>
 if (((((decide (O.2.2.2.2.2=(0:Int)))&&(decide (O.1=([100,101]:List UInt8))))&&(decide ((List.length O.2.2.2.1:Int)=(1:Int))))==true)=true→0≤(0:Int)∧(0:Int)<(List.length O.2.2.2.1:Int)) then
  if ((((((decide (O.2.2.2.2.2=(0:Int)))&&(decide (O.1=([100,101]:List UInt8))))&&(decide ((List.length O.2.2.2.1:Int)=(1:Int))))&&(decide ((qB qH O.2.2.2.1 (0:Int)).1=([97]:List UInt8))))==true)=true→0≤(0:Int)∧(0:Int)<(List.length O.2.2.2.1:Int)) then
   some ((((((decide (O.2.2.2.2.2=(0:Int)))&&(decide (O.1=([100,101]:List UInt8))))&&(decide ((List.length O.2.2.2.1:Int)=(1:Int))))&&(decide ((qB qH O.2.2.2.1 (0:Int)).1=([97]:List UInt8))))&&(decide ((qB qH O.2.2.2.1 (0:Int)).2.2.1=([120]:List UInt8)))))
  else none
 else none
section
@[reducible] def a3s:List Slot:=[]
@[reducible] def a3t:List Blk:=[]
@[go_sem] def a3u:Ret:=⟨[(ID).isSome=true],[(.val .bool (val ID),none)],[]⟩
def aBj:List Slot→List Blk→Option Ret:=pM (V:=Unit) (fun x=>a3s) (fun x=>a3t) fun x=>a3u
@[go_sem] theorem aMa:aBj (no_index a3s) (no_index a3t)=some a3u:=pN (fun _ _ h1 h2=>by cases h1;cases h2;rfl) ()
end
@[reducible,go_sem] def aBk:Nat×Sig:=(9,⟨[],aBj,[],[],none⟩)
theorem OW:Env Tryz.prog [q8,DW,yB,xH] (pE [a3r]):=⟨⟨qA,⟨HJ,⟨zT,⟨yW,trivial⟩⟩⟩⟩,oZ aBi pP,pH⟩
theorem aGP:pI Tryz.prog aBk:=by
 refine pO OW Tryz.func9 (c:=_) rfl (N:=38) (by kernel_rfl) (ts:=[(0,none)]) rfl (fun _ _=>rfl) ?_
 intro⟨⟩ hs hrow
 dsimp only[a3s,a3t,a3u,pK,enumH,pD,pG,pL,Nat.reduceAdd] at hs hrow⊢
 have hz:=hs
 obtain⟨z0,hC0⟩:=Option.isSome_iff_exists.1 hz
 try rw[pW hC0]
 clear hz hs
 unfold ID at hC0
 refine oS OW ?_
 obtain⟨O,hv1,hw1,hC0⟩:=p9 hC0
 try simp only[go_sem] at hw1
 refine oS OW ?_ (hp:=by exact(p8 hv1)) (h:=by simp only[go_sem,hw1];rfl)
 obtain⟨hg2,hC0⟩:=oU hC0
 obtain⟨hg3,hC0⟩:=oU hC0
 refine oS OW ?_ (hp:=by exact And.intro (fun hh=>hh) (And.intro (fun hh=>hh) (And.intro (fun hh=>pY hh) (And.intro (fun hh=>hh) (And.intro (fun hh=>hh) (And.intro (fun hh=>hh) (And.intro (fun hh=>pY hh) (And.intro (fun hh=>hh) (And.intro (fun hh=>hh) (And.intro hg2 (And.intro (fun hh=>hh) (And.intro (fun hh=>hh) (And.intro (fun hh=>hh) (And.intro (fun hh=>pY hh) (And.intro (fun hh=>hh) (And.intro (fun hh=>hh) (And.intro hg3 (And.intro (fun hh=>hh) (And.intro (fun hh=>hh) (And.intro (fun hh=>hh) ((fun hh=>pY hh))))))))))))))))))))))
 refine oV ?_
 cases hC0
 exact⟨[],by rfl,by rfl,by rfl⟩
attribute [irreducible] ID
def GE (O:(List UInt8)):Option Bool:=
 ID.bind fun Z=>
 if (!Z)=true then
  some (false)
 else
  if (decide ((4000:Int)<(List.length O:Int)))=true then
   some (true)
  else
   (zD O).bind fun aA=>
   (zY O).bind fun aB=>
   if ((((decide (aA.2.2.2.2.2=aB.2.2.2.2.2))&&(decide (aA.2.2.2.2.1=aB.2.2.2.2.1)))==true)=true→((I0 (aA.1,(aA.2.1,(aA.2.2.1,(aA.2.2.2.1,())))) (aB.1,(aB.2.1,(aB.2.2.1,(aB.2.2.2.1,())))))).isSome=true) then
    some ((((decide (aA.2.2.2.2.2=aB.2.2.2.2.2))&&(decide (aA.2.2.2.2.1=aB.2.2.2.2.1)))&&((((decide (aA.1=aB.1))&&(val (uD aA.2.1 aB.2.1)))&&(val (yE aA.2.2.1 aB.2.2.1)))&&(val (CQ aA.2.2.2.1 aB.2.2.2.1)))))
   else none
section
variable (O:(List UInt8))
@[reducible] def LD:List Slot:=[(.val .str O,none)]
@[reducible] def OX:List Blk:=[]
@[go_sem] def IE:Ret:=⟨[((GE O)).isSome=true],[(.val .bool (val (GE O)),none)],[]⟩
def a3v:List Slot→List Blk→Option Ret:=pM (V:=(List UInt8)) (fun x=>LD x) (fun x=>OX) fun x=>IE x
@[go_sem] theorem aGQ:a3v (no_index (LD O)) (no_index OX)=some (IE O):=pN (fun a0 b0 h1 h2=>by cases h1;cases h2;rfl) O
end
@[reducible,go_sem] def aGR:Nat×Sig:=(3,⟨[.v],a3v,[],[],none⟩)
theorem D6:Env Tryz.prog [q8,yB] (pE [aBk,a3r,aA0,a9I]):=⟨⟨qA,⟨zT,trivial⟩⟩,oZ aGP (oZ aBi (oZ aGI (oZ aGc pP))),pH⟩
theorem aGS:pI Tryz.prog aGR:=by
 refine pO D6 Tryz.func3 (c:=_) rfl (N:=39) (by kernel_rfl) (ts:=[(2,none)]) rfl (fun _ _=>rfl) ?_
 intro O hs hrow
 dsimp only[LD,OX,IE,pK,enumH,pD,pG,pL,Nat.reduceAdd] at hs hrow⊢
 have hz:=hs
 obtain⟨z0,hC0⟩:=Option.isSome_iff_exists.1 hz
 try rw[pW hC0]
 clear hz hs
 unfold GE at hC0
 refine oS D6 ?_
 refine p4 ?_
 obtain⟨Z,hv1,hw1,hC0⟩:=p9 hC0
 try simp only[go_sem] at hw1
 refine oS D6 ?_ (hp:=by exact(p8 hv1)) (h:=by simp only[go_sem,hw1];rfl)
 refine oX hC0 (fun hC0 hc1=> ?_) (fun hC0 hc1=> ?_)
 ·refine oS D6 ?_
  refine oV (pC ?_)
  cases hC0
  exact⟨[],by rfl,by rfl,by rfl⟩
 ·refine p7 (oW (p4 ?_))
  refine oS D6 ?_
  refine oX hC0 (fun hC0 hc2=> ?_) (fun hC0 hc2=> ?_)
  ·refine oS D6 ?_
   refine oV (pC ?_)
   cases hC0
   exact⟨[],by rfl,by rfl,by rfl⟩
  ·refine p7 (oW ?_)
   obtain⟨aA,hv2,hw2,hC0⟩:=p9 hC0
   try simp only[go_sem] at hw2
   refine oS D6 ?_ (hp:=by exact(p8 hv2)) (h:=by simp only[go_sem,hw2];rfl)
   obtain⟨aB,hv3,hw3,hC0⟩:=p9 hC0
   try simp only[go_sem] at hw3
   refine oS D6 ?_ (hp:=by exact(p8 hv3)) (h:=by simp only[go_sem,hw3];rfl)
   obtain⟨hg4,hC0⟩:=oU hC0
   refine oS D6 ?_ (hp:=by exact And.intro (fun hh=>hh) (And.intro (fun hh=>hh) (And.intro (fun hh=>pY hh) (And.intro (fun hh=>hh) (And.intro (fun hh=>hh) (And.intro hg4 ((fun hh=>pY hh))))))))
   refine oV ?_
   cases hC0
   exact⟨[],by rfl,by rfl,by rfl⟩
attribute [irreducible] GE
end
end Go.Proofs.YtfchbnahjcdiiaaGreatDoor
section
end
namespace Go.Proofs.YtfchbnahjcdiiaaGreatDoor
open Vc
set_option maxRecDepth 100000
theorem rS {i:Nat}(h:i≤1000000):oT ((i:Int)+1):=by unfold oT;omega
theorem qK {i n:Nat}(h:i<n):0≤(i:Int)∧(i:Int)<(n:Int):=⟨by omega,by omega⟩
theorem sX {i n:Nat}(h:i<n):decide ((i:Int)<(n:Int))=true:=by simpa using h
theorem xQ (n:Nat): ¬decide ((n:Int)<(n:Int))=true:=by simp
theorem aBl {α:Type}{p:α→Bool}: ∀{l:List α},(l.findIdx? p).isSome=l.any p
 |[]=>rfl
 |x::l=>by
  rw[List.findIdx?_cons,List.any_cons]
  cases p x with
  |true=>rfl
  |false=>simp [aBl (l:=l)]
theorem IF {α β:Type}{p:α→Bool}{l:List α}{f:Nat→β}{b:β}:sM f b (l.findIdx? p)=if l.any p=true then f ((l.findIdx? p).getD 0) else b:=by
 rw[←aBl]
 cases l.findIdx? p with
 |none=>rfl
 |some k=>rfl
def IG (c:Int):Bool:=(((!((decide ((97:Int)≤c))&&(decide (c≤(122:Int)))))&&(!((decide ((48:Int)≤c))&&(decide (c≤(57:Int))))))&&(!decide (c=(45:Int))))&&((decide (c<(65:Int)))||(decide ((90:Int)<c)))
def wB (s:List UInt8):Bool:= !(s.any fun b=>IG b.toNat)&&((decide ((1:Int)≤(s.length:Int)))&&(decide ((s.length:Int)≤(40:Int))))
theorem a3w (s:List UInt8) (hs:pQ s):ED s=some (wB s):=by
 unfold pQ at hs
 have h:=AM (f:=L3 s) (l:=s) (fun b=>IG b.toNat) (fun _=>false) (fun i h=>by
  unfold L3
  rw[if_pos (sX h),if_pos (qK h),vF h,if_pos (rS (by omega))];rfl) (by
  unfold L3
  rw[if_neg (xQ _)])
 unfold ED
 rw[h,IF]
 unfold wB
 cases s.any fun b=>IG b.toNat<;>rfl
def OY (c:Int):Bool:=((((decide (c<(97:Int)))||(decide ((122:Int)<c)))&&((decide (c<(65:Int)))||(decide ((90:Int)<c))))&&((decide (c<(48:Int)))||(decide ((57:Int)<c))))&&(!decide (c=(45:Int)))
theorem aGT (c:Int):OY c=IG c:=by
 unfold OY IG
 rw[Bool.eq_iff_iff]
 simp
 omega
theorem aBm (s:List UInt8):DX s=some (wB s):=by
 have h:=a7j (f:=KJ s) (s:=s) (fun c=>OY c) (fun _=>false) (fun c h=>by unfold OY;simp;omega) (fun i h=>by
  unfold KJ
  rw[if_pos (by simpa using h),if_pos (by simpa using h)];rfl) (by
  unfold KJ
  rw[if_neg (by simp)])
 unfold DX
 rw[h,IF]
 simp only[aGT]
 unfold wB
 cases s.any fun b=>IG b.toNat<;>rfl
def wY (c:Int):Bool:=((((!((decide ((97:Int)≤c))&&(decide (c≤(122:Int)))))&&(!((decide ((48:Int)≤c))&&(decide (c≤(57:Int))))))&&(!decide (c=(45:Int))))&&(!decide (c=(95:Int))))&&(!decide (c=(46:Int)))
def wZ (c:Int):Bool:=(decide ((97:Int)≤c))&&(decide (c≤(122:Int)))
def qV:List UInt8→Bool
 |[]=>false
 |b::t=>(!decide (40<t.length+1)&&wZ b.toNat)&& !(t.any fun b=>wY b.toNat)
theorem aBn (s:List UInt8) (hs:pQ s):EG s=some (qV s):=by
 unfold pQ at hs
 unfold EG
 cases s with
 |nil=>simp [qV]
 |cons b t=>
  have hb0:pA (b::t) (0:Int)=(b.toNat:Int):=vF (i:=0) (by simp)
  rw[if_pos (fun _=>⟨Int.le_refl 0,by simp only[List.length_cons];omega⟩),hb0]
  unfold qV
  by_cases hl:(40:Int)<((b::t).length:Int)
  ·have hl2:40<t.length+1:=by simp only[List.length_cons] at hl;omega
   rw[if_pos (by simp only[hl,decide_true,Bool.or_true,Bool.true_or])]
   simp [hl2]
  ·have hl2: ¬40<t.length+1:=by simp only[List.length_cons] at hl;omega
   have hl3: ¬((b::t).length:Int)<1:=by simp;omega
   by_cases hb:wZ b.toNat=true
   ·rw[if_neg (by unfold wZ at hb;simp only[hl,hl3,hb];simp)]
    have h:=TF (f:=L5 (b::t)) (l:=b::t) (fun b=>wY b.toNat) (fun _=>false) (fun i h=>by
     unfold L5
     rw[if_pos (sX h),if_pos (qK h),vF h,if_pos (rS (by omega))];rfl) (by
     unfold L5
     rw[if_neg (xQ _)]) t.length 1 (by simp;omega)
    rw[show ((1:Nat):Int)=1 from rfl] at h
    rw[h,IF]
    simp only[List.drop_succ_cons,List.drop_zero,hb,hl2,decide_false,Bool.not_false,Bool.true_and]
    cases t.any fun b=>wY b.toNat<;>rfl
   ·rw[if_pos (by unfold wZ at hb;simp only[hb];simp)]
    simp [hb]
theorem aBo (s:List UInt8): ∀(n j:Nat),j+n=s.length→pT (HQ s) j=some (if (s.drop j).any (fun b=>wY b.toNat)=true∨(j=0∧s≠[]∧wZ (s.getD 0 0).toNat=false) then .inr false else .inl ())
 |0,j,hj=>by
  have:j=s.length:=by omega
  subst this
  rw[List.drop_length,uU]
  unfold HQ
  rw[if_neg (by simp)]
  by_cases h0:s=[]
  ·subst h0;simp
  ·have:s.length≠0:=by simpa using h0
   simp [this]
 |n+1,j,hj=>by
  have hlt:j<s.length:=by omega
  have ih:=aBo s n (j+1) (by omega)
  rw[uU,List.drop_eq_getElem_cons hlt,List.any_cons]
  have hstep:HQ s j=if (wY (s[j].toNat:Int)=true∨(j=0∧wZ (s[j].toNat:Int)=false)) then some (.inr (.inr false)) else some (.inl (j+1)):=by
   unfold HQ
   rw[if_pos (by simpa using hlt),if_pos (by simpa using hlt),if_pos (by simpa using hlt)]
   by_cases ha:s[j].toNat<128
   ·obtain⟨e1,e2⟩:=a7g hlt ha
    rw[e1,e2]
    by_cases h1:wZ (s[j].toNat:Int)=true
    ·rw[if_pos (by unfold wZ at h1;exact h1),if_neg]
     unfold wZ at h1
     simp only[Bool.and_eq_true,decide_eq_true_eq] at h1
     simp [wY,wZ]
     omega
    ·have h1':wZ (s[j].toNat:Int)=false:=by simpa using h1
     rw[if_neg (by unfold wZ at h1;exact h1)]
     have h2: ¬(97≤(s[j].toNat:Int)∧(s[j].toNat:Int)≤122):=by
      unfold wZ at h1;simpa using h1
     by_cases h3:wY (s[j].toNat:Int)=true∨j=0
     ·rw[if_neg,if_pos]
      ·rcases h3 with h3|h3
       ·exact .inl h3
       ·exact .inr ⟨h3,h1'⟩
      ·simp [wY] at h3⊢
       omega
     ·rw[if_pos,if_neg]
      ·intro h
       rcases h with h|⟨h,_⟩
       ·exact h3 (.inl h)
       ·exact h3 (.inr h)
      ·simp [wY] at h3⊢
       omega
   ·have hb:=a7h hlt (by omega)
    rw[if_neg (by simp;omega),if_neg (by simp;omega),if_pos (.inl (by simp [wY];omega))]
  rw[hstep]
  have hd:s.getD 0 0=s[0]'(by omega):=by simp [List.getD_eq_getElem?_getD,List.getElem?_eq_getElem (show 0<s.length by omega)]
  have hne:s≠[]:=by intro h;subst h;simp at hlt
  by_cases hp:wY (s[j].toNat:Int)=true∨(j=0∧wZ (s[j].toNat:Int)=false)
  ·rw[if_pos hp,if_pos]
   ·rfl
   ·rcases hp with hp|⟨rfl,hp⟩
    ·left;simp [hp]
    ·right;exact⟨rfl,hne,by rw[hd];exact hp⟩
  ·rw[if_neg hp]
   show pT _ (j+1)=_
   rw[ih]
   have hnb:wY (s[j].toNat:Int)=false:=by
    cases h:wY (s[j].toNat:Int) with
    |true=>exact absurd (.inl h) hp
    |false=>rfl
   simp only[hnb,Bool.false_or]
   congr 2
   apply propext
   constructor
   ·rintro(h|⟨h,_⟩)
    ·exact .inl h
    ·omega
   ·rintro(h|⟨rfl,_,h⟩)
    ·exact .inl h
    ·rw[hd] at h
     exact absurd (.inr ⟨rfl,h⟩) hp
theorem OZ (s:List UInt8):BI s=some (qV s):=by
 have h:=aBo s s.length 0 (by omega)
 unfold BI
 rw[h,List.drop_zero]
 cases s with
 |nil=>simp [qV,qQ]
 |cons b t=>
  simp only[List.any_cons,List.getD_cons_zero,ne_eq,reduceCtorEq,not_false_eq_true,true_and,qV]
  cases hs:wZ b.toNat with
  |false=>simp [qQ]
  |true=>
   have hn:wY b.toNat=false:=by
    unfold wZ at hs
    simp only[Bool.and_eq_true,decide_eq_true_eq] at hs
    simp [wY];omega
   simp only[hn,Bool.false_or]
   cases t.any (fun b=>wY b.toNat) with
   |true=>simp [qQ]
   |false=>
    simp only[Bool.false_eq_true,false_or,and_false,if_false]
    show some (decide ((1:Int)≤((b::t).length:Int))&&decide (((b::t).length:Int)≤40))=_
    congr 1
    rw[Bool.eq_iff_iff]
    simp only[List.length_cons,Bool.and_eq_true,decide_eq_true_eq,Bool.not_eq_true',decide_eq_false_iff_not,Bool.not_false,and_true]
    omega
end Go.Proofs.YtfchbnahjcdiiaaGreatDoor
namespace Go.Proofs.YtfchbnahjcdiiaaGreatDoor
open Vc
set_option maxRecDepth 100000
theorem a3x {α:Type}{p:α→Bool}{l:List α}:sM (fun _=>true) false (l.findIdx? p)=l.any p:=by
 rw[IF]
 cases l.any p<;>rfl
theorem D7 {β:Type}{f:Nat→β}{b:β}{o:Option Nat}:qQ (some (sM (fun k=> .inr (f k)) (.inl ()) o)) (fun _=>some b)=some (sM f b o):=by
 cases o<;>rfl
theorem aGU (l:List (List UInt8)) (s:List UInt8) (hl:pQ l):G1 l s=some (l.any fun x=>decide (x=s)):=by
 unfold pQ at hl
 have h:=AM (f:=KU l s) (l:=l) (fun x=>decide (x=s)) (fun _=>true) (fun i h=>by
  unfold KU
  rw[if_pos (sX h),if_pos (qK h),yD (t:= .str) h,if_pos (rS (by omega))]) (by
  unfold KU
  rw[if_neg (xQ _)])
 unfold G1
 rw[h,D7,a3x]
theorem aBp (l:List (List UInt8)) (s:List UInt8) (hl:pQ l):yZ l s=some (sM (fun k=>(k:Int)) (-1) (l.findIdx? fun x=>decide (s=x))):=by
 unfold pQ at hl
 have h:=AM (f:=KP l s) (l:=l) (fun x=>decide (s=x)) (fun k=>(k:Int)) (fun i h=>by
  unfold KP
  rw[if_pos (sX h),if_pos (qK h),yD (t:= .str) h,if_pos (rS (by omega))]) (by
  unfold KP
  rw[if_neg (xQ _)])
 unfold yZ
 rw[h,D7]
theorem aGV {α:Type}{p:α→Bool}{l:List α}:decide ((0:Int)≤sM (fun k=>(k:Int)) (-1) (l.findIdx? p))=l.any p:=by
 rw[IF]
 cases l.any p
 ·rfl
 ·simp only[if_true,decide_eq_true_eq];omega
theorem aBq (l:List (List UInt8)) (s:List UInt8) (hl:pQ l):CU l s=some (l.any fun x=>decide (x=s)):=by
 unfold CU
 rw[aBp l s hl]
 show some (decide _)=_
 rw[aGV]
 simp only[eq_comm]
def BT:List (List UInt8):=[[110,101,119],[102,117,122,122,121],[116,114,97,110,115,108,97,116,101,100],[114,101,118,105,101,119,101,100],[111,98,115,111,108,101,116,101]]
def sI (s:List UInt8):Int:=sM (fun k=>(k:Int)) (-1) (BT.findIdx? fun x=>decide (x=s))
theorem aBr (s:List UInt8):CT s=some (sI s):=by
 have h:=AM (f:=L4 s) (l:=BT) (fun x=>decide (x=s)) (fun k=>(k:Int)) (fun i h=>by
  have h5:i<5:=h
  unfold L4 KQ
  rw[if_pos (by simp;omega),if_pos (⟨by omega,by simp;omega⟩)]
  show (if decide (qB .str BT (i:Int)=s)=true then _ else _)=_
  rw[yD (t:= .str) h,if_pos (rS (by omega))]) (by
  unfold L4
  rw[if_neg (by simp [BT])])
 unfold CT
 rw[h,D7]
 rfl
theorem P0 (s:List UInt8):EI s=some (decide (0≤sI s))∧yZ BT s=some (sI s):=by
 have hi:yZ BT s=some (sI s):=by
  rw[aBp BT s (by unfold pQ;decide)]
  unfold sI
  simp only[eq_comm]
 refine⟨?_,hi⟩
 unfold EI CU
 show ((yZ BT s).bind _).bind _=_
 rw[hi]
 rfl
abbrev qP:=List UInt8×List UInt8×Unit
abbrev tF:Ty:= .pair .str (.pair .str .unit)
def zE (l:List qP) (n:List UInt8):Option Nat:=l.findIdx? fun x=>decide (x.1=n)
def IH (l:List qP) (n:List UInt8):List UInt8×Bool:=sM (fun k=>((l.getD k ([],[],())).2.1,true)) ([],false) (zE l n)
theorem aBs (l:List qP) (n:List UInt8):(IH l n).2=l.any fun x=>decide (x.1=n):=by
 unfold IH zE
 rw[IF]
 cases l.any fun x=>decide (x.1=n)<;>rfl
theorem aGW (l:List qP) (n:List UInt8) (hl:pQ l):E3 l n=some (IH l n):=by
 unfold pQ at hl
 have h:=AM (f:=KL l n) (l:=l) (fun x=>decide (x.1=n)) (fun k=>((l.getD k ([],[],())).2.1,true)) (fun i h=>by
  unfold KL
  rw[if_pos (sX h),if_pos (qK h),yD (t:=tF) h,if_pos (qK h),if_pos (rS (by omega)),List.getD_eq_getElem?_getD,List.getElem?_eq_getElem h]
  rfl) (by
  unfold KL
  rw[if_neg (xQ _)])
 unfold E3
 rw[h,D7]
 rfl
theorem aBt (l:List qP) (n:List UInt8) (hl:pQ l):CW l n=some (sM (fun k=>(k:Int)) (-1) (zE l n)):=by
 unfold pQ at hl
 have h:=AM (f:=KX l n) (l:=l) (fun x=>decide (x.1=n)) (fun k=>(k:Int)) (fun i h=>by
  unfold KX
  rw[if_pos (sX h),if_pos (qK h),yD (t:=tF) h,if_pos (rS (by omega))]) (by
  unfold KX
  rw[if_neg (xQ _)])
 unfold CW HT
 rw[h,D7]
 rfl
theorem a3y {l:List qP}{n:List UInt8}{k:Nat}(h:zE l n=some k):k<l.length:=by
 unfold zE at h
 exact(List.findIdx?_eq_some_iff_getElem.1 h).1
theorem aBu (l:List qP) (n:List UInt8) (hl:pQ l):EH l n=some (IH l n):=by
 unfold EH
 rw[aBt l n hl]
 unfold IH
 cases h:zE l n with
 |none=>rfl
 |some k=>
  have hk:=a3y h
  simp only[sM,Option.bind_some]
  rw[if_neg (by simp),if_pos (qK hk),yD (t:=tF) hk]
  simp only[sM,List.getD_eq_getElem?_getD,List.getElem?_eq_getElem hk]
  rfl
def II (l:List qP) (n:List UInt8):Nat:=(l.findIdx? fun x=> !(Op.bytesLess x.1 n||decide (x.1=n))).getD l.length
def AT (l:List qP) (n v:List UInt8):List qP:=sM (fun k=>l.set k (n,v,())) (l.take (II l n)++[(n,v,())]++l.drop (II l n)) (zE l n)
theorem aBv (l:List qP) (n:List UInt8):II l n≤l.length:=by
 unfold II
 cases h:l.findIdx? fun x=> !(Op.bytesLess x.1 n||decide (x.1=n)) with
 |none=>exact Nat.le_refl _
 |some k=>exact Nat.le_of_lt (List.findIdx?_eq_some_iff_getElem.1 h).1
theorem aGX (l:List qP) (n v:List UInt8):(AT l n v).length≤l.length+1:=by
 have:=aBv l n
 unfold AT
 cases zE l n with
 |none=>simp [sM];omega
 |some k=>simp [sM]
theorem aBw {l:List qP}{n:List UInt8}{k:Nat}(h:zE l n=some k) (hk:k<l.length):l[k].1=n:=by
 unfold zE at h
 have:=(List.findIdx?_eq_some_iff_getElem.1 h).2.1
 simpa using this
theorem aBx (l:List qP) (n v:List UInt8) (hl:pQ l):EM l n v=some (AT l n v):=by
 have hl':=hl
 unfold pQ at hl'
 unfold EM EB
 rw[if_pos (by omega)]
 show (CW ([]++l) n).bind _=_
 rw[List.nil_append,aBt l n hl]
 unfold AT
 cases h:zE l n with
 |some k=>
  have hk:=a3y h
  simp only[sM,Option.bind_some]
  rw[if_pos (by simp),if_pos (qK hk),yD (t:=tF) hk,Int.toNat_natCast]
  congr 2
  exact Prod.ext (aBw h hk) rfl
 |none=>
  simp only[sM,Option.bind_some]
  rw[if_neg (by decide)]
  have h2:=AM (f:=KY l n) (l:=l) (fun x=> !(Op.bytesLess x.1 n||decide (x.1=n))) (fun k=>(k:Int)) (fun i h=>by
   unfold KY
   rw[if_pos (sX h),if_pos (qK h),yD (t:=tF) h,if_pos (rS (by omega))]) (by
   unfold KY
   rw[if_neg (xQ _)])
  unfold HU
  rw[h2,D7]
  unfold II
  cases h3:l.findIdx? fun x=> !(Op.bytesLess x.1 n||decide (x.1=n)) with
  |none=>
   simp only[sM,Option.bind_some]
   rw[if_pos (by decide),if_pos ⟨by omega,Int.le_refl _⟩,if_pos (by simp;omega)]
   simp [y8,sM]
  |some k=>
   have hk:k<l.length:=(List.findIdx?_eq_some_iff_getElem.1 h3).1
   simp only[sM,Option.bind_some]
   rw[if_neg (by simp),if_pos ⟨by omega,by omega⟩,if_pos (by simp;omega)]
   simp [y8,sM]
theorem P1 {α:Type}{f:Int→Option (Int⊕Int)}{l:List α}(p:α→Bool)
  (hf: ∀(i:Nat) (h:i<l.length),f i=if p l[i]=true then some (.inl (i+1)) else some (.inr i)) (he:f l.length=some (.inr l.length)):
  ∀(n j:Nat),j+n=l.length→pT f j=some (((j+((l.drop j).findIdx? fun x=> !p x).getD n:Nat)):Int)
 |0,j,hj=>by
  have:j=l.length:=by omega
  subst this
  rw[List.drop_length,uU,he]
  simp
 |n+1,j,hj=>by
  have hlt:j<l.length:=by omega
  rw[uU,hf j hlt,List.drop_eq_getElem_cons hlt,List.findIdx?_cons]
  by_cases hp:p l[j]=true
  ·rw[if_pos hp,if_neg (by simp [hp])]
   show pT f ((j:Int)+1)=_
   rw[show ((j:Int)+1)=((j+1:Nat):Int) by omega,P1 p hf he n (j+1) (by omega)]
   cases(l.drop (j+1)).findIdx? fun x=> !p x with
   |none=>simp;omega
   |some k=>simp;omega
  ·rw[if_neg hp,if_pos (by simpa using hp)]
   simp
theorem aBy {α:Type}{f:Int→Option (Int⊕Int)}{l:List α}(p:α→Bool)
  (hf: ∀(i:Nat) (h:i<l.length),f i=if p l[i]=true then some (.inl (i+1)) else some (.inr i)) (he:f l.length=some (.inr l.length)):
  pT f 0=some (((l.findIdx? fun x=> !p x).getD l.length:Nat):Int):=by
 have:=P1 p hf he l.length 0 (by omega)
 simpa using this
theorem P2 {α:Type}{l:List α}{k:Nat}:p5 l 0 (k:Int)=l.take k:=by unfold p5;simp
theorem BU {α:Type}{l:List α}{k:Nat}:p5 l (k:Int) (l.length:Int)=l.drop k:=by
 unfold p5
 rw[Int.toNat_natCast,Int.toNat_natCast,List.take_of_length_le]
 rw[List.length_drop]
 exact Nat.le_refl _
theorem aBz (l:List qP) (n v:List UInt8) (hl:pQ l):E6 l n v=some (AT l n v):=by
 have hl':=hl
 unfold pQ at hl'
 unfold E6
 rw[if_pos (by omega)]
 have h1:=AM (f:=KM l n v) (l:=l) (fun x=>decide (x.1=n)) (fun k=>l.set k ((l.getD k ([],[],())).1,(v,(l.getD k ([],[],())).2.2))) (fun i h=>by
  unfold KM
  rw[List.nil_append,if_pos (sX h),if_pos (qK h),yD (t:=tF) h,if_pos (qK h),if_pos (rS (by omega)),List.getD_eq_getElem?_getD,List.getElem?_eq_getElem h,Int.toNat_natCast]
  rfl) (by
  unfold KM
  rw[List.nil_append,if_neg (xQ _)])
 rw[h1]
 unfold AT
 show qQ (some (sM _ _ (zE l n))) _=_
 cases h:zE l n with
 |some k=>
  have hk:=a3y h
  simp only[sM,List.getD_eq_getElem?_getD,List.getElem?_eq_getElem hk]
  show some (l.set k _)=_
  congr 2
  exact Prod.ext (aBw h hk) rfl
 |none=>
  show qE (pT (FY l n) 0) _=_
  have h2:=aBy (f:=FY l n) (l:=l) (fun x=>Op.bytesLess x.1 n||decide (x.1=n)) (fun i h=>by
   unfold FY
   rw[if_pos (fun _=>qK h),yD (t:=tF) h,sX h,Bool.true_and,if_pos (rS (by omega))]) (by
   unfold FY
   have hF:decide ((l.length:Int)<(l.length:Int))=false:=by simp
   rw[hF,if_pos (fun h=>by simp at h),Bool.false_and,if_neg (by decide)])
  rw[show pT (FY l n) 0=some ((II l n:Nat):Int) from h2]
  have hk:=aBv l n
  unfold qE
  rw[Option.bind_some,if_pos ⟨Int.le_refl _,by omega,by omega⟩,P2,BU,if_pos (by simp;omega),if_pos (by simp;omega),if_pos ⟨by omega,by omega,Int.le_refl _⟩,if_pos (by simp;omega)]
  simp [sM]
end Go.Proofs.YtfchbnahjcdiiaaGreatDoor
namespace Go.Proofs.YtfchbnahjcdiiaaGreatDoor
open Vc
set_option maxRecDepth 100000
def x9 (n:Int):Prop:=0≤n∧n≤1114111∧(n<55296∨57343<n)
def tZ (n:Int):Bool:=(((decide ((0:Int)≤n))&&(decide (n≤(1114111:Int))))&&((decide (n<(55296:Int)))||(decide ((57343:Int)<n))))
theorem D8 (n:Int):tZ n=true↔x9 n:=by
 unfold tZ x9
 simp
 omega
theorem P3 {n:Int}(h0:0≤n) (h1:n≤127):Lib.encodeRune n=rB [n]:=by
 unfold Lib.encodeRune;rw[Lib.encodeRuneZ_one h0 h1];rfl
theorem P4 {n:Int}(h0:128≤n) (h1:n≤2047):Lib.encodeRune n=rB [192+n/64,128+n%64]:=by
 unfold Lib.encodeRune;rw[Lib.encodeRuneZ_two h0 h1];rfl
theorem a3z {n:Int}(h:(2048≤n∧n<55296)∨(57343<n∧n≤65535)):Lib.encodeRune n=rB [224+n/4096,128+n/64%64,128+n%64]:=by
 unfold Lib.encodeRune;rw[Lib.encodeRuneZ_three h];rfl
theorem aBA {n:Int}(h0:65536≤n) (h1:n≤1114111):Lib.encodeRune n=rB [240+n/262144,128+n/4096%64,128+n/64%64,128+n%64]:=by
 unfold Lib.encodeRune;rw[Lib.encodeRuneZ_four h0 h1];rfl
theorem a3A {n:Int}(h:x9 n):yG n=some (Lib.encodeRune n):=by
 obtain⟨h0,h1,hs⟩:=h
 have w1:IntKind.i64.wrap (n/64)=n/64:=by rw[IntKind.wrap_i64];omega
 have w2:IntKind.i64.wrap (n/4096)=n/4096:=by rw[IntKind.wrap_i64];omega
 have w3:IntKind.i64.wrap (n/262144)=n/262144:=by rw[IntKind.wrap_i64];omega
 have m1:Int.tmod n 64=n%64:=Int.tmod_eq_emod_of_nonneg h0
 have m2:Int.tmod (n/64) 64=n/64%64:=Int.tmod_eq_emod_of_nonneg (by omega)
 have m3:Int.tmod (n/4096) 64=n/4096%64:=Int.tmod_eq_emod_of_nonneg (by omega)
 unfold yG
 simp only[Int.tdiv_eq_ediv_of_nonneg h0,w1,w2,w3,m1,m2,m3,IntKind.wrap_u8]
 by_cases c1:n<128
 ·rw[if_pos (by simpa using c1),P3 h0 (by omega),show n%256=n by omega]
 ·rw[if_neg (by simpa using c1)]
  by_cases c2:n<2048
  ·rw[if_pos (by simpa using c2),if_pos (by unfold oT;omega),if_pos (by unfold oT;omega),P4 (by omega) (by omega),show (192+n/64) %256=192+n/64 by omega,show (128+n%64) %256=128+n%64 by omega]
  ·rw[if_neg (by simpa using c2)]
   by_cases c3:n<65536
   ·rw[if_pos (by simpa using c3),if_pos (by unfold oT;omega),if_pos (by unfold oT;omega),if_pos (by unfold oT;omega),a3z (by omega),show (224+n/4096) %256=224+n/4096 by omega,show (128+n/64%64) %256=128+n/64%64 by omega,show (128+n%64) %256=128+n%64 by omega]
   ·rw[if_neg (by simpa using c3),if_pos (by unfold oT;omega),if_pos (by unfold oT;omega),if_pos (by unfold oT;omega),if_pos (by unfold oT;omega),aBA (by omega) (by omega),show (240+n/262144) %256=240+n/262144 by omega,show (128+n/4096%64) %256=128+n/4096%64 by omega,show (128+n/64%64) %256=128+n/64%64 by omega,show (128+n%64) %256=128+n%64 by omega]
theorem a3B {n:Int}{k:Int}{j:Nat}(hj:k.toNat=j) (h32:j≤32):uF .i32 n k=n/2^j:=by
 unfold uF
 rw[hj,show min j IntKind.i32.bits=j from Nat.min_eq_left h32,Int.fdiv_eq_ediv_of_nonneg]
 exact Int.pow_nonneg (by decide)
theorem aGY {n:Int}(p:List Int) (h:x9 n) (hp:pQ p):EL p n=some (p++Lib.encodeRuneZ n):=by
 obtain⟨h0,h1,hs⟩:=h
 unfold pQ at hp
 have u:IntKind.u32.wrap n=n:=by rw[IntKind.wrap_u32];omega
 have s6:uF .i32 n 6=n/64:=a3B (j:=6) rfl (by decide)
 have s12:uF .i32 n 12=n/4096:=a3B (j:=12) rfl (by decide)
 have s18:uF .i32 n 18=n/262144:=a3B (j:=18) rfl (by decide)
 have b0:bits .or .u8 128 (bits .and .u8 (n%256) 63)=128+n%64:=by
  rw[u8_and63 (x:=n%256) (by omega) (by omega),show n%256%64=n%64 by omega,u8_or128 (y:=n%64) (by omega) (by omega)]
 have b1:bits .or .u8 128 (bits .and .u8 (n/64%256) 63)=128+n/64%64:=by
  rw[u8_and63 (x:=n/64%256) (by omega) (by omega),show n/64%256%64=n/64%64 by omega,u8_or128 (y:=n/64%64) (by omega) (by omega)]
 have b2:bits .or .u8 128 (bits .and .u8 (n/4096%256) 63)=128+n/4096%64:=by
  rw[u8_and63 (x:=n/4096%256) (by omega) (by omega),show n/4096%256%64=n/4096%64 by omega,u8_or128 (y:=n/4096%64) (by omega) (by omega)]
 unfold EL
 rw[u]
 by_cases c1:n≤127
 ·rw[if_pos (by simpa using c1),if_pos (by simp;omega),Lib.encodeRuneZ_one h0 c1,IntKind.wrap_u8,show n%256=n by omega]
 ·rw[if_neg (by simpa using c1)]
  unfold G5
  simp only[u,s6,s12,s18,IntKind.wrap_u8,b0,b1,b2]
  by_cases c2:n≤2047
  ·rw[if_pos (by simpa using c2),if_pos (by simp;omega),Lib.encodeRuneZ_two (by omega) c2,show n/64%256=n/64 by omega,u8_or192 (y:=n/64) (by omega) (by omega)]
   rfl
  ·rw[if_neg (by simpa using c2)]
   by_cases c3:n≤65535
   ·have hx:(if decide (n<55296)=true then some (decide (n<55296)) else some ((decide (57343<n))&&(decide (n≤65535))))=some true:=by
     by_cases c:n<55296
     ·rw[if_pos (by simpa using c)];simp [c]
     ·rw[if_neg (by simpa using c)];simp;omega
    rw[hx]
    simp only[qE,Option.bind_some]
    rw[if_pos trivial,if_pos (by simp;omega),Lib.encodeRuneZ_three (by omega),show n/4096%256=n/4096 by omega,u8_or224 (y:=n/4096) (by omega) (by omega)]
    rfl
   ·have hx:(if decide (n<55296)=true then some (decide (n<55296)) else some ((decide (57343<n))&&(decide (n≤65535))))=some false:=by
     rw[if_neg (by simp;omega)];simp;omega
    rw[hx]
    simp only[qE,Option.bind_some]
    rw[if_neg (by decide),if_pos (by simp;omega),if_pos (by simp;omega),Lib.encodeRuneZ_four (by omega) h1,show n/262144%256=n/262144 by omega,u8_or240 (y:=n/262144) (by omega) (by omega)]
    rfl
theorem aBB (n:Int):(Lib.encodeRuneZ n).length≤4:=by
 unfold Lib.encodeRuneZ
 repeat' split
 all_goals simp
theorem aBC {n:Int}(p:List Int) (h:x9 n) (hp:pQ p): ∃k,BO (p,()) n=some (k,p++Lib.encodeRuneZ n):=by
 have h4:=aBB n
 unfold pQ at hp
 unfold BO
 rw[aGY p h hp]
 simp only[Option.bind_some]
 rw[if_pos (by unfold oT;simp;omega)]
 exact⟨_,rfl⟩
theorem aGZ (n:Int):L7 [n] (0,[])=some (.inl (1,if tZ n=true then Lib.encodeRuneZ n else Lib.encodeRuneZ 65533)):=by
 unfold L7
 have hn:qB (.int .i64) [n] 0=n:=rfl
 dsimp only
 rw[if_pos (by simp),if_pos ⟨Int.le_refl _,by simp⟩]
 simp only[hn]
 by_cases hs:tZ n=true
 ·have hsc:=(D8 n).1 hs
  obtain⟨k,hk⟩:=aBC (n:=n) [] hsc (by unfold pQ;simp)
  have wn:IntKind.i32.wrap n=n:=by
   obtain⟨a,b,c⟩:=hsc
   rw[IntKind.wrap_i32];omega
  rw[if_pos hs]
  unfold tZ at hs
  rw[if_neg (by rw[hs];decide),wn,hk]
  simp only[Option.bind_some,List.nil_append]
  rw[if_pos (by unfold oT;omega)]
  rfl
 ·rw[if_neg hs]
  unfold tZ at hs
  obtain⟨k,hk⟩:=aBC (n:=65533) [] (by unfold x9;omega) (by unfold pQ;simp)
  rw[if_pos (by simp only[Bool.not_eq_true'] at hs⊢;simpa using hs),show IntKind.i32.wrap 65533=65533 from rfl,hk]
  simp only[Option.bind_some,List.nil_append]
  rw[if_pos (by unfold oT;omega)]
  rfl
theorem aG0 (n:Int):EO n=some (if tZ n=true then Lib.encodeRune n else Lib.encodeRune 65533):=by
 unfold EO I7
 rw[KA (aGZ n),vY (r:=if tZ n=true then Lib.encodeRuneZ n else Lib.encodeRuneZ 65533) (by unfold L7;simp)]
 simp only[qE,Option.bind_some]
 by_cases hs:tZ n=true
 ·rw[if_pos hs,if_pos hs];rfl
 ·rw[if_neg hs,if_neg hs];rfl
theorem aBD {l:List UInt8}{i:Nat}(h:i<l.length):pA l (i:Int)=((l.getD i 0).toNat:Int):=by
 rw[vF h,List.getD_eq_getElem?_getD,List.getElem?_eq_getElem h];rfl
theorem aG1 {s:List UInt8}{x n:Int}{i:Nat}(h:i<s.length) (hn:(i:Int)<n) (hx:0≤x) (hx1:x≤1000000) (hi:i≤10):AO s n (x,(i:Int))=
  if (s.getD i 0).toNat/64=2 then some (.inl (64*x+(s.getD i 0).toNat-128,((i+1:Nat):Int))) else some (.inr (.inr (65533,1))):=by
 have hb:=(s.getD i 0).toNat_lt
 have hy:=aBD h
 generalize (s.getD i 0).toNat=B at hb hy⊢
 unfold AO
 dsimp only
 rw[if_pos (by simpa using hn),if_pos (qK h),if_pos (fun _=>qK h),hy]
 by_cases hc:B/64=2
 ·rw[if_neg (by simp;omega),if_pos hc,if_pos (by unfold oT;omega),if_pos (qK h),show IntKind.i64.wrap (B:Int)=(B:Int) by rw[IntKind.wrap_i64];omega,
   if_pos (by unfold oT;omega),if_pos (by unfold oT;omega),if_pos (by unfold oT;omega)]
  rfl
 ·rw[if_pos (by simp;omega),if_neg hc]
theorem a3C {s:List UInt8}{x n i:Int}(h:n≤i):AO s n (x,i)=some (.inr (.inl x)):=by
 unfold AO
 dsimp only
 rw[if_neg (by simpa using h)]
def rN (s:List UInt8) (i:Nat):Bool:=decide ((s.getD i 0).toNat/64=2)
def uJ (s:List UInt8) (i:Nat) (x:Int):Int:=64*x+(s.getD i 0).toNat-128
theorem a3D {s:List UInt8}{i:Nat}{x m:Int}(h0:0≤x) (hm:x≤m) (hc:rN s i=true):0≤uJ s i x∧uJ s i x≤64*m+63:=by
 have hb:=(s.getD i 0).toNat_lt
 unfold rN at hc
 unfold uJ
 simp only[decide_eq_true_eq] at hc
 omega
theorem IJ {s:List UInt8}{x n:Int}{i:Nat}(h:i<s.length) (hn:(i:Int)<n) (hx:0≤x) (hx1:x≤1000000) (hi:i≤10):
  pT (AO s n) (x,(i:Int))=if rN s i=true then pT (AO s n) (uJ s i x,((i+1:Nat):Int)) else some (.inr (65533,1)):=by
 rw[uU,aG1 h hn hx hx1 hi]
 unfold rN uJ
 simp only[decide_eq_true_eq]
 by_cases hc:(s.getD i 0).toNat/64=2
 ·rw[if_pos hc,if_pos hc];rfl
 ·rw[if_neg hc,if_neg hc];rfl
theorem aG2 {s:List UInt8}{x:Int}(h:1<s.length) (hx:0≤x) (hx1:x≤31):pT (AO s 2) (x,1)=some (if rN s 1=true then .inl (uJ s 1 x) else .inr (65533,1)):=by
 show pT _ (x,((1:Nat):Int))=_
 rw[IJ h (by decide) hx (by omega) (by decide)]
 by_cases c1:rN s 1=true
 ·rw[if_pos c1,if_pos c1,vY (a3C (by decide))]
 ·rw[if_neg c1,if_neg c1]
theorem aG3 {s:List UInt8}{x:Int}(h:2<s.length) (hx:0≤x) (hx1:x≤15):pT (AO s 3) (x,1)=some (if (rN s 1&&rN s 2)=true then .inl (uJ s 2 (uJ s 1 x)) else .inr (65533,1)):=by
 show pT _ (x,((1:Nat):Int))=_
 rw[IJ (by omega) (by decide) hx (by omega) (by decide)]
 by_cases c1:rN s 1=true
 ·have b1:=a3D hx hx1 c1
  rw[if_pos c1,IJ h (by decide) b1.1 (by omega) (by decide),c1,Bool.true_and]
  by_cases c2:rN s 2=true
  ·rw[if_pos c2,if_pos c2,vY (a3C (by decide))]
  ·rw[if_neg c2,if_neg c2]
 ·rw[if_neg c1,if_neg (by simp [c1])]
theorem aG4 {s:List UInt8}{x:Int}(h:3<s.length) (hx:0≤x) (hx1:x≤7):pT (AO s 4) (x,1)=some (if (rN s 1&&rN s 2&&rN s 3)=true then .inl (uJ s 3 (uJ s 2 (uJ s 1 x))) else .inr (65533,1)):=by
 show pT _ (x,((1:Nat):Int))=_
 rw[IJ (by omega) (by decide) hx (by omega) (by decide)]
 by_cases c1:rN s 1=true
 ·have b1:=a3D hx hx1 c1
  rw[if_pos c1,IJ (by omega) (by decide) b1.1 (by omega) (by decide),c1,Bool.true_and]
  by_cases c2:rN s 2=true
  ·have b2:=a3D b1.1 b1.2 c2
   rw[if_pos c2,IJ h (by decide) b2.1 (by omega) (by decide),c2,Bool.true_and]
   by_cases c3:rN s 3=true
   ·rw[if_pos c3,if_pos c3,vY (a3C (by decide))]
   ·rw[if_neg c3,if_neg c3]
  ·rw[if_neg c2,if_neg (by simp [c2])]
 ·rw[if_neg c1,if_neg (by simp [c1])]
def sP (s:List UInt8) (x:Int) (n:Nat):Int×Int:=if tZ x=true∧Lib.encodeRune x=s.take n then(x,n) else(65533,1)
theorem a3E {s:List UInt8}{x:Int}{n:Nat}(hn:n≤s.length):
  (if (((!(((decide ((0:Int)≤x))&&(decide (x≤(1114111:Int))))&&((decide (x<(55296:Int)))||(decide ((57343:Int)<x)))))==false)=true→((yG x)).isSome=true) then
  if (((!(((decide ((0:Int)≤x))&&(decide (x≤(1114111:Int))))&&((decide (x<(55296:Int)))||(decide ((57343:Int)<x)))))==false)=true→0≤(0:Int)∧(0:Int)≤(n:Int)∧(n:Int)≤(List.length s:Int)) then
   if ((!(((decide ((0:Int)≤x))&&(decide (x≤(1114111:Int))))&&((decide (x<(55296:Int)))||(decide ((57343:Int)<x)))))||(!decide ((val (yG x))=(p5 s (0:Int) (n:Int)))))=true then
   some (((65533:Int),(1:Int)))
   else
   some ((x,(n:Int)))
  else none
  else none)=some (sP s x n):=by
 rw[P2]
 simp only[show (((decide ((0:Int)≤x))&&(decide (x≤(1114111:Int))))&&((decide (x<(55296:Int)))||(decide ((57343:Int)<x))))=tZ x from rfl]
 unfold sP
 by_cases hs:tZ x=true
 ·have ho:=a3A ((D8 x).1 hs)
  rw[if_pos (fun _=>by rw[ho];rfl),if_pos (fun _=>⟨Int.le_refl _,by omega,by omega⟩),ho,hs]
  by_cases he:Lib.encodeRune x=s.take n
  ·rw[if_neg (by simp [val,he]),if_pos ⟨rfl,he⟩]
  ·rw[if_pos (by simp [val,he]),if_neg (fun h=>he h.2)]
 ·have hs':tZ x=false:=by simpa using hs
  rw[if_pos (fun h=>by simp [hs'] at h),if_pos (fun h=>by simp [hs'] at h),if_pos (by simp [hs']),if_neg (fun h=>hs h.1)]
theorem D9 (z:Int) (l:List Int) (x:UInt8) (h:z=(x.toNat:Int)):rB (z::l)=x::rB l:=by
 show UInt8.ofNat z.toNat::rB l=_
 rw[h];simp
theorem a3F:rB []=[]:=rfl
theorem IK (l:List Int):(rB l).length=l.length:=by simp [rB]
set_option maxHeartbeats 1000000 in
theorem aG5 {s:List UInt8}(hl:1<s.length) (h0:192≤(s.getD 0 0).toNat) (h0':(s.getD 0 0).toNat<224) (hc:rN s 1=true):
  sP s (uJ s 1 ((s.getD 0 0).toNat-192)) 2=(((Lib.decodeL s).1:Int),((Lib.decodeL s).2:Int)):=by
 unfold rN at hc
 simp only[decide_eq_true_eq] at hc
 have k0:=(s.getD 0 0).toNat_lt
 have k1:=(s.getD 1 0).toNat_lt
 have hd:Lib.decodeL s=if (s.getD 0 0).toNat%32*64+(s.getD 1 0).toNat%64≥128 then((s.getD 0 0).toNat%32*64+(s.getD 1 0).toNat%64,2) else(65533,1):=by
  rw[Lib.decodeL_N]
  unfold Lib.decodeN
  rw[if_neg (by omega),if_pos ⟨by omega,by omega,hc⟩]
 rw[hd]
 unfold sP uJ
 rw[Lib.takeB s hl]
 have hx:tZ (64*((s.getD 0 0).toNat-192)+(s.getD 1 0).toNat-128)=true:=(D8 _).2 (by unfold x9;omega)
 rw[hx]
 by_cases hv:(s.getD 0 0).toNat%32*64+(s.getD 1 0).toNat%64≥128
 ·rw[if_pos hv,if_pos ⟨rfl,by
   rw[P4 (by omega) (by omega),D9 _ _ (s.getD 0 0) (by omega),D9 _ _ (s.getD 1 0) (by omega),a3F]⟩]
  exact Prod.ext (by show _=(((_:Nat)):Int);omega) rfl
 ·rw[if_neg hv,if_neg (fun h=>by
   have h2:=congrArg List.length h.2
   rw[P3 (by omega) (by omega),IK] at h2
   simp at h2)]
  rfl
set_option maxHeartbeats 1000000 in
theorem aG6 {s:List UInt8}(hl:2<s.length) (h0:224≤(s.getD 0 0).toNat) (h0':(s.getD 0 0).toNat<240) (hc:rN s 1=true) (hc2:rN s 2=true):
  sP s (uJ s 2 (uJ s 1 ((s.getD 0 0).toNat-224))) 3=(((Lib.decodeL s).1:Int),((Lib.decodeL s).2:Int)):=by
 unfold rN at hc hc2
 simp only[decide_eq_true_eq] at hc hc2
 have k0:=(s.getD 0 0).toNat_lt
 have k1:=(s.getD 1 0).toNat_lt
 have k2:=(s.getD 2 0).toNat_lt
 obtain⟨V,hV⟩: ∃V,(s.getD 0 0).toNat%16*4096+(s.getD 1 0).toNat%64*64+(s.getD 2 0).toNat%64=V:=⟨_,rfl⟩
 have hd:Lib.decodeL s=if V≥2048∧(V<55296∨(57344≤V∧V≤1114111)) then(V,3) else(65533,1):=by
  rw[Lib.decodeL_N]
  unfold Lib.decodeN
  rw[if_neg (by omega),if_neg (by omega),if_pos ⟨by omega,⟨by omega,hc⟩,by omega,hc2⟩,hV]
 rw[hd]
 unfold sP uJ
 rw[Lib.takeC s hl]
 generalize hX:64*(64*(((s.getD 0 0).toNat:Int)-224)+(s.getD 1 0).toNat-128)+(s.getD 2 0).toNat-128=X
 have hXV:X=(V:Int):=by omega
 by_cases hv:V≥2048∧(V<55296∨(57344≤V∧V≤1114111))
 ·rw[if_pos hv,if_pos ⟨(D8 _).2 (by unfold x9;omega),by
   rw[a3z (by omega),D9 _ _ (s.getD 0 0) (by omega),D9 _ _ (s.getD 1 0) (by omega),D9 _ _ (s.getD 2 0) (by omega),a3F]⟩]
  exact Prod.ext hXV rfl
 ·rw[if_neg hv,if_neg (fun h=>by
   have hs:=(D8 _).1 h.1
   unfold x9 at hs
   have hlt:X<2048:=by omega
   have h2:=congrArg List.length h.2
   by_cases h7:X≤127
   ·rw[P3 (by omega) h7,IK] at h2;simp at h2
   ·rw[P4 (by omega) (by omega),IK] at h2;simp at h2)]
  rfl
set_option maxHeartbeats 1000000 in
theorem aG7 {s:List UInt8}(hl:3<s.length) (h0:240≤(s.getD 0 0).toNat) (h0':(s.getD 0 0).toNat<248) (hc:rN s 1=true) (hc2:rN s 2=true) (hc3:rN s 3=true):
  sP s (uJ s 3 (uJ s 2 (uJ s 1 ((s.getD 0 0).toNat-240)))) 4=(((Lib.decodeL s).1:Int),((Lib.decodeL s).2:Int)):=by
 unfold rN at hc hc2 hc3
 simp only[decide_eq_true_eq] at hc hc2 hc3
 have k0:=(s.getD 0 0).toNat_lt
 have k1:=(s.getD 1 0).toNat_lt
 have k2:=(s.getD 2 0).toNat_lt
 have k3:=(s.getD 3 0).toNat_lt
 obtain⟨V,hV⟩: ∃V,(s.getD 0 0).toNat%8*262144+(s.getD 1 0).toNat%64*4096+(s.getD 2 0).toNat%64*64+(s.getD 3 0).toNat%64=V:=⟨_,rfl⟩
 have hd:Lib.decodeL s=if V≥65536∧(V<55296∨(57344≤V∧V≤1114111)) then(V,4) else(65533,1):=by
  rw[Lib.decodeL_N]
  unfold Lib.decodeN
  rw[if_neg (by omega),if_neg (by omega),if_neg (by omega),if_pos ⟨by omega,⟨by omega,hc⟩,⟨by omega,hc2⟩,by omega,hc3⟩,hV]
 rw[hd]
 unfold sP uJ
 rw[Lib.takeD s hl]
 generalize hX:64*(64*(64*(((s.getD 0 0).toNat:Int)-240)+(s.getD 1 0).toNat-128)+(s.getD 2 0).toNat-128)+(s.getD 3 0).toNat-128=X
 have hXV:X=(V:Int):=by omega
 by_cases hv:V≥65536∧(V<55296∨(57344≤V∧V≤1114111))
 ·rw[if_pos hv,if_pos ⟨(D8 _).2 (by unfold x9;omega),by
   rw[aBA (by omega) (by omega),D9 _ _ (s.getD 0 0) (by omega),D9 _ _ (s.getD 1 0) (by omega),D9 _ _ (s.getD 2 0) (by omega),D9 _ _ (s.getD 3 0) (by omega),a3F]⟩]
  exact Prod.ext hXV rfl
 ·rw[if_neg hv,if_neg (fun h=>by
   have hs:=(D8 _).1 h.1
   unfold x9 at hs
   have hlt:X<65536:=by omega
   have h2:=congrArg List.length h.2
   by_cases h7:X≤127
   ·rw[P3 (by omega) h7,IK] at h2;simp at h2
   ·by_cases h8:X≤2047
    ·rw[P4 (by omega) (by omega),IK] at h2;simp at h2
    ·rw[a3z (by omega),IK] at h2;simp at h2)]
  rfl
theorem GF {s:List UInt8}(h: ¬(s.getD 0 0).toNat<128) (h2: ¬((s.getD 0 0).toNat/32=6∧1<s.length∧rN s 1=true)) (h3: ¬((s.getD 0 0).toNat/16=14∧2<s.length∧(rN s 1&&rN s 2)=true))
  (h4: ¬((s.getD 0 0).toNat/8=30∧3<s.length∧(rN s 1&&rN s 2&&rN s 3)=true)):Lib.decodeL s=(65533,1):=by
 unfold rN at h2 h3 h4
 simp only[Bool.and_eq_true,decide_eq_true_eq] at h2 h3 h4
 rw[Lib.decodeL_N]
 unfold Lib.decodeN
 rw[if_neg h,if_neg (fun⟨a,b,c⟩=>h2 ⟨a,b,c⟩),if_neg (fun⟨a,⟨b,c⟩,d,e⟩=>h3 ⟨a,d,c,e⟩),if_neg (fun⟨a,⟨b,c⟩,⟨d,e⟩,f,g⟩=>h4 ⟨a,f,⟨c,e⟩,g⟩)]
set_option maxHeartbeats 1000000 in
theorem aG8 {s:List UInt8}(hne:s≠[]):EA s=some (((Lib.decodeL s).1:Int),((Lib.decodeL s).2:Int)):=by
 have hl:0<s.length:=List.length_pos_iff.2 hne
 have hy:pA s 0=((s.getD 0 0).toNat:Int):=aBD (i:=0) hl
 have k0:=(s.getD 0 0).toNat_lt
 have hw:IntKind.i64.wrap ((s.getD 0 0).toNat:Int)=((s.getD 0 0).toNat:Int):=by rw[IntKind.wrap_i64];omega
 unfold EA
 rw[if_pos ⟨Int.le_refl _,by omega⟩,hy,hw]
 by_cases c1:(s.getD 0 0).toNat<128
 ·rw[if_pos (by simp only[decide_eq_true_eq];omega)]
  rw[Lib.decodeL_N]
  unfold Lib.decodeN
  rw[if_pos c1]
  rfl
 ·rw[if_neg (by simp only[decide_eq_true_eq];omega)]
  by_cases c2:192≤(s.getD 0 0).toNat∧(s.getD 0 0).toNat<224
  ·rw[if_pos (by simp only[Bool.and_eq_true,decide_eq_true_eq];omega),if_pos (by unfold oT;omega)]
   show (if decide ((s.length:Int)<2)=true then _ else _)=_
   by_cases l2:1<s.length
   ·rw[if_neg (by simp only[decide_eq_true_eq];omega),aG2 l2 (by omega) (by omega)]
    by_cases hc:rN s 1=true
    ·rw[if_pos hc,←aG5 l2 c2.1 c2.2 hc,←a3E (s:=s) (n:=2) (by omega)]
     rfl
    ·rw[if_neg hc,GF c1 (fun h=>hc h.2.2) (fun h=>by omega) (fun h=>by omega)]
     rfl
   ·rw[if_pos (by simp only[decide_eq_true_eq];omega),GF c1 (fun h=>l2 h.2.1) (fun h=>by omega) (fun h=>by omega)]
    rfl
  ·rw[if_neg (by simp only[Bool.and_eq_true,decide_eq_true_eq];omega)]
   by_cases c3:224≤(s.getD 0 0).toNat∧(s.getD 0 0).toNat<240
   ·rw[if_pos (by simp only[Bool.and_eq_true,decide_eq_true_eq];omega),if_pos (by unfold oT;omega)]
    show (if decide ((s.length:Int)<3)=true then _ else _)=_
    by_cases l2:2<s.length
    ·rw[if_neg (by simp only[decide_eq_true_eq];omega),aG3 l2 (by omega) (by omega)]
     by_cases hc:(rN s 1&&rN s 2)=true
     ·have hc':=Bool.and_eq_true _ _▸hc
      rw[if_pos hc,←aG6 l2 c3.1 c3.2 hc'.1 hc'.2,←a3E (s:=s) (n:=3) (by omega)]
      rfl
     ·rw[if_neg hc,GF c1 (fun h=>by omega) (fun h=>hc h.2.2) (fun h=>by omega)]
      rfl
    ·rw[if_pos (by simp only[decide_eq_true_eq];omega),GF c1 (fun h=>by omega) (fun h=>l2 h.2.1) (fun h=>by omega)]
     rfl
   ·rw[if_neg (by simp only[Bool.and_eq_true,decide_eq_true_eq];omega)]
    by_cases c4:240≤(s.getD 0 0).toNat∧(s.getD 0 0).toNat<248
    ·rw[if_pos (by simp only[Bool.and_eq_true,decide_eq_true_eq];omega),if_pos (by unfold oT;omega)]
     show (if decide ((s.length:Int)<4)=true then _ else _)=_
     by_cases l2:3<s.length
     ·rw[if_neg (by simp only[decide_eq_true_eq];omega),aG4 l2 (by omega) (by omega)]
      by_cases hc:(rN s 1&&rN s 2&&rN s 3)=true
      ·have hc':=Bool.and_eq_true _ _▸hc
       have hc'':=Bool.and_eq_true _ _▸hc'.1
       rw[if_pos hc,←aG7 l2 c4.1 c4.2 hc''.1 hc''.2 hc'.2,←a3E (s:=s) (n:=4) (by omega)]
       rfl
      ·rw[if_neg hc,GF c1 (fun h=>by omega) (fun h=>by omega) (fun h=>hc h.2.2)]
       rfl
     ·rw[if_pos (by simp only[decide_eq_true_eq];omega),GF c1 (fun h=>by omega) (fun h=>by omega) (fun h=>l2 h.2.1)]
      rfl
    ·rw[if_neg (by simp only[Bool.and_eq_true,decide_eq_true_eq];omega),GF c1 (fun h=>by omega) (fun h=>by omega) (fun h=>by omega)]
     rfl
end Go.Proofs.YtfchbnahjcdiiaaGreatDoor
namespace Go.Proofs.YtfchbnahjcdiiaaGreatDoor
open Vc
set_option maxRecDepth 100000
def vK:Nat→List UInt8→List Int
 |0,_=>[]
 |n+1,s=>if s=[] then[] else((Lib.decodeL s).1:Int)::vK n (s.drop (Lib.decodeL s).2)
theorem aBE: ∀(n:Nat) (s:List UInt8),(vK n s).length≤n
 |0,_=>Nat.le_refl _
 |n+1,s=>by
  unfold vK
  split
  ·simp
  ·simp only[List.length_cons]
   have:=aBE n (s.drop (Lib.decodeL s).2)
   omega
theorem aG9 (s:List UInt8):x9 ((Lib.decodeL s).1:Int):=by
 have k0:=(s.getD 0 0).toNat_lt
 rw[Lib.decodeL_N]
 rcases Lib.decodeN_shape s.length (s.getD 0 0).toNat (s.getD 1 0).toNat (s.getD 2 0).toNat (s.getD 3 0).toNat with⟨c,e⟩ |⟨c1,c2,c3,cv,e⟩ |⟨c1,c2,c3,c4,cv,cs,e⟩ |⟨c1,c2,c3,c4,c5,cv,cw,e⟩ |e
 all_goals (rw[e];unfold x9;dsimp only;omega)
theorem aBF: ∀(n:Nat) (s:List UInt8) (out:List Int),s.length≤n→out.length+s.length≤1000000→pT I2 (s,out)=some (out++vK n s)
 |n,[],out,_,_=>by
  rw[vY (r:=out) (by unfold I2;simp)]
  cases n<;>simp [vK]
 |0,b::t,_,h,_=>by simp at h
 |n+1,b::t,out,h,ho=>by
  have hne:(b::t)≠[]:=by simp
  have hle:=Lib.decodeL_le (b::t) hne
  have hw:=Lib.decodeL_width (b::t)
  have hstep:I2 (b::t,out)=some (.inl ((b::t).drop (Lib.decodeL (b::t)).2,out++[((Lib.decodeL (b::t)).1:Int)])):=by
   unfold I2
   dsimp only
   rw[if_pos (by simp),aG8 hne]
   simp only[Option.bind_some]
   rw[if_pos (by simp only[List.length_cons,List.length_nil] at ho⊢;omega),if_pos ⟨by omega,by omega,Int.le_refl _⟩,BU]
  rw[KA hstep,aBF n _ _ (by rw[List.length_drop];simp only[List.length_cons] at h hle⊢;omega) (by rw[List.length_drop,List.length_append];simp only[List.length_cons,List.length_nil] at ho hle⊢;omega)]
  rw[show vK (n+1) (b::t)=((Lib.decodeL (b::t)).1:Int)::vK n ((b::t).drop (Lib.decodeL (b::t)).2) by rw[vK,if_neg hne],List.append_assoc]
  rfl
def P5 (s:List UInt8):List Int:=vK s.length s
theorem aHa (s:List UInt8) (hs:pQ s):EJ s=some (P5 s):=by
 unfold pQ at hs
 unfold EJ
 rw[aBF s.length s [] (Nat.le_refl _) (by simpa using hs)]
 rfl
theorem aBG: ∀(n:Nat) (s:List UInt8),∀x∈vK n s,x9 x
 |0,_,_,h=>by cases h
 |n+1,s,x,h=>by
  unfold vK at h
  split at h
  ·cases h
  ·rcases List.mem_cons.1 h with h|h
   ·rw[h];exact aG9 s
   ·exact aBG n _ x h
def ER (l:List Int):List UInt8:=(l.map Lib.encodeRune).flatten
theorem aBH (n:Int):(Lib.encodeRune n).length≤4:=by
 unfold Lib.encodeRune
 rw[List.length_map]
 exact aBB n
theorem aBI (l:List Int) (hsc: ∀x∈l,x9 x) (hl:pQ l): ∀(n j:Nat) (s:List UInt8),j+n=l.length→s.length+4*n≤10000000→pT (HS l) (s,(j:Int))=some (s++ER (l.drop j))
 |0,j,s,hj,_=>by
  have:j=l.length:=by omega
  subst this
  rw[vY (r:=s) (by unfold HS;simp),List.drop_length]
  simp [ER]
 |n+1,j,s,hj,hs=>by
  have hlt:j<l.length:=by omega
  unfold pQ at hl
  have hx:=hsc l[j] (List.getElem_mem hlt)
  have h4:=aBH l[j]
  have hstep:HS l (s,(j:Int))=some (.inl (s++Lib.encodeRune l[j],((j+1:Nat):Int))):=by
   unfold HS
   dsimp only
   rw[if_pos (sX hlt),if_pos (qK hlt),yD (t:= .int .i64) hlt]
   have hb:=(D8 l[j]).2 hx
   unfold tZ at hb
   rw[if_pos hb,if_pos (qK hlt),a3A hx]
   simp only[Option.bind_some]
   rw[if_pos (by rw[List.length_append];omega),if_pos (rS (by omega))]
   rfl
  rw[KA hstep,aBI l hsc hl n (j+1) _ (by omega) (by rw[List.length_append];omega),List.drop_eq_getElem_cons hlt,List.append_assoc]
  rfl
theorem aHb (l:List Int) (hsc: ∀x∈l,x9 x) (hl:pQ l):G2 l=some (ER l):=by
 have hl':=hl
 unfold pQ at hl'
 unfold G2
 rw[show ((0:Int))=((0:Nat):Int) from rfl,aBI l hsc hl l.length 0 [] (by omega) (by simp;omega)]
 rfl
theorem aBJ: ∀(n:Nat) (s:List UInt8),s.length≤n→s.length≤(ER (vK n s)).length∧(ER (vK n s)=s↔Lib.validD s=true)
 |n,[],_=>by
  have:vK n []=[]:=by cases n<;>simp [vK]
  rw[this]
  simp [ER,Lib.validD_nil]
 |0,b::t,h=>by simp at h
 |n+1,b::t,h=>by
  have hne:(b::t)≠[]:=by simp
  have hle:=Lib.decodeL_le (b::t) hne
  have hw:=Lib.decodeL_width (b::t)
  obtain⟨ih1,ih2⟩:=aBJ n ((b::t).drop (Lib.decodeL (b::t)).2) (by rw[List.length_drop];simp only[List.length_cons] at h⊢;omega)
  have hr:ER (vK (n+1) (b::t))=Lib.encodeRune ((Lib.decodeL (b::t)).1:Int)++ER (vK n ((b::t).drop (Lib.decodeL (b::t)).2)):=by
   rw[vK,if_neg hne]
   rfl
  rw[hr,Lib.validD_step _ hne]
  rw[List.length_drop] at ih1
  by_cases hv:(Lib.decodeL (b::t)).1=65533∧(Lib.decodeL (b::t)).2=1
  ·rw[if_pos hv,hv.1]
   have e3:(Lib.encodeRune ((65533:Nat):Int)).length=3:=rfl
   rw[hv.2] at ih1⊢
   refine⟨by rw[List.length_append,e3];omega,fun he=> ?_,fun he=>by cases he⟩
   have:=congrArg List.length he
   rw[List.length_append,e3] at this
   omega
  ·have he:=Lib.encode_decode (b::t) hne hv
   rw[if_neg hv,he]
   refine⟨by rw[List.length_append,List.length_take];omega,?_⟩
   rw[←ih2]
   constructor
   ·intro h1
    exact List.append_cancel_left (h1.trans (List.take_append_drop _ _).symm)
   ·intro h1
    rw[h1,List.take_append_drop]
theorem aHc (s:List UInt8) (hs:pQ s):BN s=some (Lib.validD s):=by
 have hl:pQ (P5 s):=by
  have:=aBE s.length s
  unfold pQ P5 at*
  omega
 unfold BN
 rw[aHa s hs]
 simp only[Option.bind_some]
 rw[aHb (P5 s) (fun x hx=>aBG _ _ x hx) hl]
 simp only[Option.bind_some]
 congr 1
 have:=(aBJ s.length s (Nat.le_refl _)).2
 rw[Bool.eq_iff_iff,decide_eq_true_eq]
 exact this
def DA (s:List UInt8):Bool:=decide ((s.length:Int)≤4000)&&Lib.validD s
theorem aHd (s:List UInt8) (hs:pQ s):I4 s=some ()∧((decide ((s.length:Int)≤4000))&&val (BN s))=DA s:=by
 unfold I4
 rw[aHc s hs]
 exact⟨if_pos (fun _=>rfl),rfl⟩
theorem aHe (s:List UInt8) (hs:pQ s):HY s=some ():=by
 unfold pQ at hs
 unfold HY KS
 rw[if_pos (fun _=>by rw[if_pos (by omega)];rfl)]
end Go.Proofs.YtfchbnahjcdiiaaGreatDoor
namespace Go.Proofs.YtfchbnahjcdiiaaGreatDoor
open Vc
set_option maxRecDepth 100000
theorem sib (l:List UInt8) (b:UInt8):rW l (b.toNat:Int)=Lib.indexByte l b:=by
 unfold rW
 rw[Int.toNat_natCast]
 congr 1
 simp
def sG (d:UInt8):List UInt8→Option Nat
 |[]=>none
 |[b]=>if b=d then some 0 else none
 |b::c::t=>if b=d then some 0 else if b=92 then(sG d t).map (· +2) else(sG d (c::t)).map (· +1)
def AU:Option Nat→Int
 |some k=>k
 |none=> -1
theorem a3H {d:UInt8}:sG d []=none:=by unfold sG;rfl
theorem aBK {d b:UInt8}{t:List UInt8}(h:b=d):sG d (b::t)=some 0:=by
 subst h
 cases t<;>(unfold sG;simp)
theorem aBL {d b:UInt8}{t:List UInt8}(h:b≠d) (hb:b=92):sG d (b::t)=(sG d (t.drop 1)).map (· +2):=by
 cases t with
 |nil=>unfold sG;rw[if_neg h];simp [sG]
 |cons c t=>rw[sG,if_neg h,if_pos hb];rfl
theorem aBM {d b:UInt8}{t:List UInt8}(h:b≠d) (hb:b≠92):sG d (b::t)=(sG d t).map (· +1):=by
 cases t with
 |nil=>unfold sG;rw[if_neg h];simp [sG]
 |cons c t=>rw[sG,if_neg h,if_neg hb]
theorem LE {d:UInt8}: ∀(n:Nat) (l:List UInt8) (k:Nat),l.length≤n→sG d l=some k→k<l.length
 |_,[],_,_,h=>by rw[a3H] at h;cases h
 |0,_::_,_,hn,_=>by simp at hn
 |n+1,b::t,k,hn,h=>by
  simp only[List.length_cons] at hn⊢
  by_cases h1:b=d
  ·rw[aBK h1] at h;cases h;omega
  ·by_cases h2:b=92
   ·rw[aBL h1 h2] at h
    cases h3:sG d (t.drop 1) with
    |none=>rw[h3] at h;cases h
    |some j=>
     rw[h3] at h
     obtain rfl:j+2=k:=Option.some.inj h
     have:=LE n (t.drop 1) j (by rw[List.length_drop];omega) h3
     rw[List.length_drop] at this
     omega
   ·rw[aBM h1 h2] at h
    cases h3:sG d t with
    |none=>rw[h3] at h;cases h
    |some j=>
     rw[h3] at h
     obtain rfl:j+1=k:=Option.some.inj h
     have:=LE n t j (by omega) h3
     omega
theorem P6 {a b:UInt8}:((a.toNat:Int)=(b.toNat:Int))↔a=b:=by
 rw[Int.ofNat_inj]
 exact UInt8.toNat_inj
theorem a3I (n:Int) (hn:n≠4) (s:List UInt8) (d:UInt8) (hs:pQ s): ∀(k i:Nat),s.length+1≤i+k→pT (G9 n s (d.toNat:Int)) (i:Int)=some (sM (fun k=> .inr ((i+k:Nat):Int)) (.inl ()) (sG d (s.drop i)))
 |0,i,h=>by
  rw[List.drop_eq_nil_of_le (by omega),a3H,vY (r:= .inl ()) (by unfold G9;rw[if_neg (by simp;omega)])]
  rfl
 |k+1,i,h=>by
  by_cases hlt:i<s.length
  ·have hs':=hs
   unfold pQ at hs'
   have hstep:G9 n s (d.toNat:Int) (i:Int)=if s[i]=d then some (.inr (.inr (i:Int))) else if s[i]=92 then some (.inl ((i+2:Nat):Int)) else some (.inl ((i+1:Nat):Int)):=by
    unfold G9
    rw[if_pos (sX hlt),if_pos (qK hlt),vF hlt]
    by_cases h1:s[i]=d
    ·rw[if_pos (by simp [h1]),if_pos h1]
    ·rw[if_neg (by simpa[P6] using h1),if_neg h1,if_pos (fun _=>qK hlt)]
     have h92:((92:Int))=((92:UInt8).toNat:Int):=rfl
     by_cases h2:s[i]=92
     ·rw[if_pos (by rw[h2];simp [hn]),if_pos h2,if_pos (rS (by omega)),if_pos (by unfold oT;omega)]
      congr 3
     ·rw[if_neg (fun h=>by
       simp only[Bool.and_eq_true,decide_eq_true_eq] at h
       exact h2 (P6.1 (h.2.trans h92))),if_neg h2,if_pos (rS (by omega))]
      rfl
   rw[uU,hstep,List.drop_eq_getElem_cons hlt]
   by_cases h1:s[i]=d
   ·rw[if_pos h1,aBK h1];rfl
   ·rw[if_neg h1]
    by_cases h2:s[i]=92
    ·rw[if_pos h2,aBL h1 h2]
     show pT _ ((i+2:Nat):Int)=_
     rw[a3I n hn s d hs k (i+2) (by omega),List.drop_drop]
     cases sG d (s.drop (i+2)) with
     |none=>rfl
     |some j=>
      show some (Sum.inr ((i+2+j:Nat):Int))=some (Sum.inr ((i+(j+2):Nat):Int))
      rw[show i+2+j=i+(j+2) by omega]
    ·rw[if_neg h2,aBM h1 h2]
     show pT _ ((i+1:Nat):Int)=_
     rw[a3I n hn s d hs k (i+1) (by omega)]
     cases sG d (s.drop (i+1)) with
     |none=>rfl
     |some j=>
      show some (Sum.inr ((i+1+j:Nat):Int))=some (Sum.inr ((i+(j+1):Nat):Int))
      rw[show i+1+j=i+(j+1) by omega]
  ·rw[List.drop_eq_nil_of_le (by omega),a3H,vY (r:= .inl ()) (by unfold G9;rw[if_neg (by simp;omega)])]
   rfl
theorem aBN {n:Int}(h1:1≤n) (h3:n≤3) (s:List UInt8) (d:UInt8) (hs:pQ s):CV n s (d.toNat:Int)=some (AU (sG d s)):=by
 unfold CV
 have h:=a3I n (by omega) s d hs (s.length+1) 0 (by omega)
 rw[if_neg (by simp;omega),show ((0:Int))=((0:Nat):Int) from rfl,h,List.drop_zero]
 cases sG d s with
 |none=>rfl
 |some k=>
  show some (((0+k:Nat)):Int)=some (k:Int)
  rw[Nat.zero_add]
theorem aHf (n:Int) (s:List UInt8) (c:Int):G8 n s c=CV n s c:=by
 unfold G8 CV
 rfl
def xR (c base:Int):Int:=
 let n:=if 48≤c∧c≤57 then c-48 else if 97≤c∧c≤102 then c-87 else if 65≤c∧c≤70 then c-55 else-1
 if base≤n then-1 else n
theorem aHg {c:Int}(base:Int) (h0:0≤c) (h1:c≤255):G3 c base=some (xR c base):=by
 unfold G3 xR
 by_cases a:48≤c∧c≤57
 ·rw[if_pos (by simpa using a),if_pos a,show IntKind.i64.wrap (IntKind.u8.wrap (c-48))=c-48 by rw[IntKind.wrap_u8,IntKind.wrap_i64];omega]
  simp only[qE,Option.bind_some,decide_eq_true_eq]
  split<;>rfl
 ·rw[if_neg (by simpa using a),if_neg a]
  by_cases b:97≤c∧c≤102
  ·rw[if_pos (by simpa using b),if_pos b,show IntKind.i64.wrap (IntKind.u8.wrap (c-97))=c-97 by rw[IntKind.wrap_u8,IntKind.wrap_i64];omega,if_pos (by unfold oT;omega),show c-97+10=c-87 by omega]
   simp only[qE,Option.bind_some,decide_eq_true_eq]
   split<;>rfl
  ·rw[if_neg (by simpa using b),if_neg b]
   by_cases d:65≤c∧c≤70
   ·rw[if_pos (by simpa using d),if_pos d,show IntKind.i64.wrap (IntKind.u8.wrap (c-65))=c-65 by rw[IntKind.wrap_u8,IntKind.wrap_i64];omega,if_pos (by unfold oT;omega),show c-65+10=c-55 by omega]
    simp only[qE,Option.bind_some,decide_eq_true_eq]
    split<;>rfl
   ·rw[if_neg (by simpa using d),if_neg d]
    simp only[qE,Option.bind_some,decide_eq_true_eq]
    split<;>rfl
def P7:List UInt8:=[48,49,50,51,52,53,54,55,56,57,97,98,99,100,101,102]
theorem aHh: ∀n:Fin 256,Lib.indexByte P7 (UInt8.ofNat n)=if 48≤(n.val:Int)∧(n.val:Int)≤57 then(n.val:Int)-48 else if 97≤(n.val:Int)∧(n.val:Int)≤102 then(n.val:Int)-87 else-1:=by decide
theorem aHi (b:UInt8):Lib.indexByte P7 b=if 48≤(b.toNat:Int)∧(b.toNat:Int)≤57 then(b.toNat:Int)-48 else if 97≤(b.toNat:Int)∧(b.toNat:Int)≤102 then(b.toNat:Int)-87 else-1:=by
 have:=aHh ⟨b.toNat,b.toNat_lt⟩
 simpa using this
def vL (base:Int):Int→List UInt8→Option Int
 |acc,[]=>some acc
 |acc,b::t=>if xR b.toNat base<0 then none else vL base (base*acc+xR b.toNat base) t
theorem aBO {c base:Int}(hb:0<base): -1≤xR c base∧xR c base<base:=by
 unfold xR
 dsimp only
 repeat' split
 all_goals omega
theorem aBP (s:List UInt8) (base:Int) (hb:0<base) (hb16:base≤16) (hs:s.length≤8): ∀(k j:Nat) (acc:Int),j+k=s.length→0≤acc→acc<16^j→
  pT (I1 s base) (acc,(j:Int))=some (match vL base acc (s.drop j) with|some n=> .inl n|none=> .inr (-1))
 |0,j,acc,hj,_,_=>by
  have:j=s.length:=by omega
  subst this
  rw[List.drop_length,vY (r:= .inl acc) (by unfold I1;simp)]
  rfl
 |k+1,j,acc,hj,h0,h1=>by
  have hlt:j<s.length:=by omega
  have hc:=s[j].toNat_lt
  have hd:=aBO (c:=(s[j].toNat:Int)) hb
  have hp:(16:Int) ^j≤16^8:=by
   have:(16:Nat) ^j≤16^8:=Nat.pow_le_pow_right (by decide) (by omega)
   exact_mod_cast this
  have h8:(16:Int) ^8=4294967296:=by decide
  have hm:base*acc≤16*acc:=Int.mul_le_mul_of_nonneg_right hb16 h0
  have hm0:0≤base*acc:=Int.mul_nonneg (by omega) h0
  have hstep:I1 s base (acc,(j:Int))=if xR s[j].toNat base<0 then some (.inr (.inr (-1))) else some (.inl (base*acc+xR s[j].toNat base,((j+1:Nat):Int))):=by
   unfold I1
   dsimp only
   rw[if_pos (sX hlt),if_pos (qK hlt),vF hlt,aHg base (by omega) (by omega)]
   simp only[Option.bind_some,decide_eq_true_eq]
   by_cases hn:xR s[j].toNat base<0
   ·rw[if_pos hn,if_pos hn]
   ·rw[if_neg hn,if_neg hn,if_pos (by unfold oT;omega),if_pos (by unfold oT;omega),if_pos (rS (by omega))]
    rfl
  rw[uU,hstep,List.drop_eq_getElem_cons hlt,vL]
  by_cases hn:xR s[j].toNat base<0
  ·rw[if_pos hn,if_pos hn];rfl
  ·rw[if_neg hn,if_neg hn]
   show pT _ (_,((j+1:Nat):Int))=_
   exact aBP s base hb hb16 hs k (j+1) _ (by omega) (by omega) (by rw[Int.pow_succ];omega)
theorem aBQ (s:List UInt8) (base:Int) (hb:0<base) (hb16:base≤16) (hs:s.length≤8):BM s base=some (if s=[] then-1 else(vL base 0 s).getD (-1)):=by
 unfold BM
 rw[show ((0:Int),(0:Int))=((0:Int),((0:Nat):Int)) from rfl,aBP s base hb hb16 hs s.length 0 0 (by omega) (by omega) (by decide),List.drop_zero]
 cases h:vL base 0 s with
 |none=>
  have:s≠[]:=by intro hn;subst hn;simp [vL] at h
  rw[if_neg this];rfl
 |some n=>
  show (if decide (s=[])=true then _ else _)=_
  by_cases he:s=[]
  ·rw[if_pos (by simpa using he),if_pos he]
  ·rw[if_neg (by simpa using he),if_neg he];rfl
theorem aBR (s:List UInt8) (base:Int) (hb:0<base) (hb16:base≤16) (hs:s.length≤8): ∀(k j:Nat) (acc:Int),j+k=s.length→0≤acc→acc<16^j→
  pT (HR s base) (acc,(j:Int))=some (match vL base acc (s.drop j) with|some n=> .inl n|none=> .inr (0,false))
 |0,j,acc,hj,_,_=>by
  have:j=s.length:=by omega
  subst this
  rw[List.drop_length,vY (r:= .inl acc) (by unfold HR;simp)]
  rfl
 |k+1,j,acc,hj,h0,h1=>by
  have hlt:j<s.length:=by omega
  have hc:=s[j].toNat_lt
  have hd:=aBO (c:=(s[j].toNat:Int)) hb
  have hp:(16:Int) ^j≤16^8:=by
   have:(16:Nat) ^j≤16^8:=Nat.pow_le_pow_right (by decide) (by omega)
   exact_mod_cast this
  have h8:(16:Int) ^8=4294967296:=by decide
  have hm:acc*base≤acc*16:=Int.mul_le_mul_of_nonneg_left hb16 h0
  have hm0:0≤acc*base:=Int.mul_nonneg h0 (by omega)
  have hcm:acc*base=base*acc:=Int.mul_comm _ _
  have hstep:HR s base (acc,(j:Int))=if xR s[j].toNat base<0 then some (.inr (.inr (0,false))) else some (.inl (base*acc+xR s[j].toNat base,((j+1:Nat):Int))):=by
   unfold HR
   dsimp only
   rw[if_pos (sX hlt),if_pos (qK hlt),if_pos (qK hlt),if_pos (fun _=>qK hlt),vF hlt,if_pos (qK hlt),sib]
   have hidx:=aHi s[j]
   have hval:(if ((decide ((65:Int)≤(s[j].toNat:Int)))&&(decide ((s[j].toNat:Int)≤(70:Int))))=true then(if oT ((IntKind.wrap .i64 (IntKind.wrap .u8 ((s[j].toNat:Int)- (65:Int))))+(10:Int)) then some (((IntKind.wrap .i64 (IntKind.wrap .u8 ((s[j].toNat:Int)- (65:Int))))+(10:Int))) else none) else some (Lib.indexByte P7 s[j]))=some (if 48≤(s[j].toNat:Int)∧(s[j].toNat:Int)≤57 then(s[j].toNat:Int)-48 else if 97≤(s[j].toNat:Int)∧(s[j].toNat:Int)≤102 then(s[j].toNat:Int)-87 else if 65≤(s[j].toNat:Int)∧(s[j].toNat:Int)≤70 then(s[j].toNat:Int)-55 else-1):=by
    by_cases c:65≤(s[j].toNat:Int)∧(s[j].toNat:Int)≤70
    ·rw[if_pos (by simpa using c),show IntKind.i64.wrap (IntKind.u8.wrap ((s[j].toNat:Int)-65))=(s[j].toNat:Int)-65 by rw[IntKind.wrap_u8,IntKind.wrap_i64];omega,if_pos (by unfold oT;omega),if_neg (by omega),if_neg (by omega),if_pos c]
     congr 1;omega
    ·rw[if_neg (by simpa using c),hidx,if_neg c]
   unfold qE
   rw[show ([48,49,50,51,52,53,54,55,56,57,97,98,99,100,101,102]:List UInt8)=P7 from rfl,hval]
   simp only[Option.bind_some]
   unfold xR
   dsimp only
   generalize (if 48≤(s[j].toNat:Int)∧(s[j].toNat:Int)≤57 then(s[j].toNat:Int)-48 else if 97≤(s[j].toNat:Int)∧(s[j].toNat:Int)≤102 then(s[j].toNat:Int)-87 else if 65≤(s[j].toNat:Int)∧(s[j].toNat:Int)≤70 then(s[j].toNat:Int)-55 else-1)=D
   by_cases hn:D<0∨base≤D
   ·rw[if_pos (by simpa using hn)]
    by_cases hbD:base≤D
    ·rw[if_pos hbD,if_pos (by decide)]
    ·rw[if_neg hbD,if_pos (by omega)]
   ·rw[if_neg (by simpa using hn)]
    have hbD: ¬base≤D:=fun h=>hn (.inr h)
    have hD0: ¬D<0:=fun h=>hn (.inl h)
    rw[if_neg hbD,if_neg hD0,if_pos (by unfold oT;omega),if_pos (by unfold oT;omega),if_pos (rS (by omega)),hcm]
    rfl
  rw[uU,hstep,List.drop_eq_getElem_cons hlt,vL]
  by_cases hn:xR s[j].toNat base<0
  ·rw[if_pos hn,if_pos hn];rfl
  ·rw[if_neg hn,if_neg hn]
   show pT _ (_,((j+1:Nat):Int))=_
   exact aBR s base hb hb16 hs k (j+1) _ (by omega) (by omega) (by rw[Int.pow_succ];omega)
theorem aBS (s:List UInt8) (base:Int) (hb:0<base) (hb16:base≤16) (hs:s.length≤8):BK s base=some (match vL base 0 s with|some n=>(n,!decide (s=[])) |none=>(0,false)):=by
 unfold BK
 rw[show ((0:Int),(0:Int))=((0:Int),((0:Nat):Int)) from rfl,aBR s base hb hb16 hs s.length 0 0 (by omega) (by omega) (by decide),List.drop_zero]
 cases h:vL base 0 s with
 |none=>rfl
 |some n=>rfl
theorem LF {base:Int}(hb:0<base): ∀{s:List UInt8}{acc n:Int},0≤acc→vL base acc s=some n→0≤n
 |[],acc,n,h0,h=>by cases h;exact h0
 |b::t,acc,n,h0,h=>by
  rw[vL] at h
  split at h
  ·cases h
  ·exact LF hb (by have:=Int.mul_nonneg (Int.le_of_lt hb) h0;omega) h
end Go.Proofs.YtfchbnahjcdiiaaGreatDoor
namespace Go.Proofs.YtfchbnahjcdiiaaGreatDoor
open Vc
set_option maxRecDepth 100000
theorem aHj (b:UInt8) (l:List UInt8) (hl:pQ l):CM (b.toNat:Int) l=some (l.contains b):=by
 unfold pQ at hl
 have h:=AM (f:=KT (b.toNat:Int) l) (l:=l) (fun x=>decide (x=b)) (fun _=>true) (fun i h=>by
  unfold KT
  rw[if_pos (sX h),if_pos (qK h),vF h,if_pos (rS (by omega))]
  simp only[P6,decide_eq_true_eq]) (by
  unfold KT
  rw[if_neg (xQ _)])
 unfold CM
 rw[h,D7,a3x]
 congr 1
 rw[Bool.eq_iff_iff]
 simp
def GG:List UInt8:=[92,34,61,58,35,33,123,125,32]
def BV (l:List UInt8) (k:Nat) (ok:Int→Bool) (f:Int→List UInt8):List UInt8×Nat:=
 match vL 16 0 l with
 |some n=>if ok n=true then(f n,k) else([],0)
 |none=>([],0)
def BW (l:List UInt8):List UInt8×Nat:=
 match l with
 |_::c::t=>
  if c=110 then([10],2) else if c=114 then([13],2) else if c=116 then([9],2)
  else if GG.contains c=true then([c],2)
  else if c=120∧2≤t.length then BV (t.take 2) 4 (fun n=>decide (n≤127)) (fun n=>rB [n])
  else if c=117∧4≤t.length then BV (t.take 4) 6 tZ Lib.encodeRune
  else([],0)
 |_=>([],0)
theorem sQ {a:UInt8}{n:Int}(b:UInt8) (hb:n=(b.toNat:Int)):decide ((a.toNat:Int)=n)=decide (a=b):=by
 rw[hb]
 simp only[P6]
theorem aBT (a c:UInt8) (t:List UInt8):p5 (a::c::t) 2 4=t.take 2:=rfl
theorem aBU (a c:UInt8) (t:List UInt8):p5 (a::c::t) 2 6=t.take 4:=rfl
theorem aBV (a c:UInt8) (t:List UInt8):p5 (a::c::t) 1 2=[c]:=rfl
theorem aHk (a:UInt8) (t:List UInt8):CY (a::t)=some ((BW (a::t)).1,((BW (a::t)).2:Int)):=by
 cases t with
 |nil=>unfold CY;rw[if_pos (by simp)];rfl
 |cons c t=>
  have hy:pA (a::c::t) (1:Int)=(c.toNat:Int):=vF (i:=1) (by simp)
  unfold CY
  rw[if_neg (by simp;omega),if_pos (⟨by decide,by simp;omega⟩),hy,sQ (n:=110) 110 rfl,sQ (n:=114) 114 rfl,sQ (n:=116) 116 rfl,sQ (n:=120) 120 rfl,sQ (n:=117) 117 rfl,aHj c _ (by unfold pQ;decide),aBT,aBU,aBV]
  show _=some ((if c=110 then(([10],2):List UInt8×Nat) else _).1,((if c=110 then(([10],2):List UInt8×Nat) else _).2:Int))
  by_cases h1:c=110
  ·rw[if_pos (by simpa using h1),if_pos h1];rfl
  rw[if_neg (by simpa using h1),if_neg h1]
  by_cases h2:c=114
  ·rw[if_pos (by simpa using h2),if_pos h2];rfl
  rw[if_neg (by simpa using h2),if_neg h2]
  by_cases h3:c=116
  ·rw[if_pos (by simpa using h3),if_pos h3];rfl
  rw[if_neg (by simpa using h3),if_neg h3,Option.bind_some]
  show (if GG.contains c=true then _ else _)=_
  by_cases h4:GG.contains c=true
  ·rw[if_pos h4,if_pos h4,if_pos ⟨by decide,by decide,by simp;omega⟩];rfl
  rw[if_neg h4,if_neg h4]
  have hlen:((a::c::t).length:Int)=(t.length:Int)+2:=by simp;omega
  rw[hlen]
  by_cases h5:c=120∧2≤t.length
  ·rw[if_pos (by simp [h5.1];omega),if_pos h5,if_pos ⟨by decide,by decide,by omega⟩,aBQ _ 16 (by decide) (by decide) (by rw[List.length_take];omega),if_neg (by intro h;have:=congrArg List.length h;rw[List.length_take,List.length_nil] at this;omega),Option.bind_some]
   unfold BV
   cases hn:vL 16 0 (t.take 2) with
   |none=>rfl
   |some n=>
    have h0:=LF (by decide) (Int.le_refl 0) hn
    simp only[Option.getD_some]
    by_cases h7:n≤127
    ·rw[if_pos (by simp;omega),if_pos (by simpa using h7),IntKind.wrap_u8,show n%256=n by omega];rfl
    ·rw[if_neg (by simp;omega),if_neg (by simpa using h7)];rfl
  rw[if_neg (by simp only[Bool.and_eq_true,decide_eq_true_eq];intro h;exact h5 ⟨h.1,by omega⟩),if_neg h5]
  by_cases h6:c=117∧4≤t.length
  ·rw[if_pos (by simp [h6.1];omega),if_pos h6,if_pos ⟨by decide,by decide,by omega⟩,aBQ _ 16 (by decide) (by decide) (by rw[List.length_take];omega),if_neg (by intro h;have:=congrArg List.length h;rw[List.length_take,List.length_nil] at this;omega),Option.bind_some]
   unfold BV
   cases hn:vL 16 0 (t.take 4) with
   |none=>rfl
   |some n=>
    have h0:=LF (by decide) (Int.le_refl 0) hn
    simp only[Option.getD_some]
    show (if (decide (0≤n)&&tZ n)=true then _ else _)=_
    by_cases h7:tZ n=true
    ·rw[if_pos (by simp [h7,h0]),if_pos h7,a3A ((D8 n).1 h7)];rfl
    ·rw[if_neg (by simp [h7]),if_neg h7];rfl
  rw[if_neg (by simp only[Bool.and_eq_true,decide_eq_true_eq];intro h;exact h6 ⟨h.1,by omega⟩),if_neg h6]
  rfl
theorem aHl (a:UInt8) (t:List UInt8):D0 (a::t)=some ((BW (a::t)).1,((BW (a::t)).2:Int)):=by
 cases t with
 |nil=>unfold D0;rw[if_pos (by simp)];rfl
 |cons c t=>
  have hy:pA (a::c::t) (1:Int)=(c.toNat:Int):=vF (i:=1) (by simp)
  have hlen:((a::c::t).length:Int)=(t.length:Int)+2:=by simp;omega
  unfold D0
  rw[if_neg (by simp;omega),if_pos (⟨by decide,by simp;omega⟩),hy,sQ (n:=110) 110 rfl,sQ (n:=114) 114 rfl,sQ (n:=116) 116 rfl,sQ (n:=120) 120 rfl,sQ (n:=117) 117 rfl,sib,aBT,aBU,aBV,hlen,←Lib.contains_iff_indexByte]
  show _=some ((if c=110 then(([10],2):List UInt8×Nat) else _).1,((if c=110 then(([10],2):List UInt8×Nat) else _).2:Int))
  by_cases h1:c=110
  ·rw[if_pos (by simpa using h1),if_pos h1];rfl
  rw[if_neg (by simpa using h1),if_neg h1]
  by_cases h2:c=114
  ·rw[if_pos (by simpa using h2),if_pos h2];rfl
  rw[if_neg (by simpa using h2),if_neg h2]
  by_cases h3:c=116
  ·rw[if_pos (by simpa using h3),if_pos h3];rfl
  rw[if_neg (by simpa using h3),if_neg h3]
  by_cases hx:c=120
  ·subst hx
   rw[if_pos (show decide ((120:UInt8)=120)=true from rfl),if_neg (show¬GG.contains 120=true by decide)]
   by_cases h5:2≤t.length
   ·rw[if_pos (by simp;omega),if_pos ⟨by decide,by decide,by omega⟩,if_pos (show _∧_ from⟨rfl,h5⟩),aBS _ 16 (by decide) (by decide) (by rw[List.length_take];omega),Option.bind_some]
    unfold BV
    cases hn:vL 16 0 (t.take 2) with
    |none=>rfl
    |some n=>
     have h0:=LF (by decide) (Int.le_refl 0) hn
     have hne:t.take 2≠[]:=by intro h;have:=congrArg List.length h;rw[List.length_take,List.length_nil] at this;omega
     simp only[hne,decide_false,Bool.not_false,Bool.true_and]
     by_cases h7:n≤127
     ·rw[if_pos (by simpa using h7),if_pos (by simpa using h7),IntKind.wrap_u8,show n%256=n by omega];rfl
     ·rw[if_neg (by simpa using h7),if_neg (by simpa using h7)];rfl
   ·rw[if_neg (by simp;omega),if_neg (fun h=>h5 h.2),if_neg (show¬((120:UInt8)=117∧4≤t.length) from fun h=>by cases h.1)]
    rfl
  rw[if_neg (by simpa using hx)]
  by_cases hu:c=117
  ·subst hu
   rw[if_pos (show decide ((117:UInt8)=117)=true from rfl),if_neg (show¬GG.contains 117=true by decide),if_neg (show¬((117:UInt8)=120∧2≤t.length) from fun h=>by cases h.1)]
   by_cases h5:4≤t.length
   ·rw[if_pos (by simp;omega),if_pos ⟨by decide,by decide,by omega⟩,if_pos (show _∧_ from⟨rfl,h5⟩),aBS _ 16 (by decide) (by decide) (by rw[List.length_take];omega),Option.bind_some]
    unfold BV
    cases hn:vL 16 0 (t.take 4) with
    |none=>rfl
    |some n=>
     have h0:=LF (by decide) (Int.le_refl 0) hn
     have hne:t.take 4≠[]:=by intro h;have:=congrArg List.length h;rw[List.length_take,List.length_nil] at this;omega
     simp only[hne,decide_false,Bool.not_false]
     rw[if_pos trivial,aG0,Option.bind_some]
     have hb:tZ n=(decide (n≤1114111)&&(decide (n<55296)||decide (57343<n))):=by
      unfold tZ
      rw[show decide ((0:Int)≤n)=true by simpa using h0,Bool.true_and]
     rw[←hb]
     by_cases h7:tZ n=true
     ·rw[if_pos h7,if_pos h7,if_pos h7];rfl
     ·rw[if_neg h7,if_neg h7];rfl
   ·rw[if_neg (by simp;omega),if_neg (fun h=>h5 h.2)]
    rfl
  rw[if_neg (by simpa using hu)]
  show (if GG.contains c=true then _ else _)=_
  by_cases h4:GG.contains c=true
  ·rw[if_pos h4,if_pos h4,if_pos ⟨by decide,by decide,by omega⟩];rfl
  ·rw[if_neg h4,if_neg h4,if_neg (fun h=>hx h.1),if_neg (fun h=>hu h.1)]
   rfl
end Go.Proofs.YtfchbnahjcdiiaaGreatDoor
namespace Go.Proofs.YtfchbnahjcdiiaaGreatDoor
open Vc
set_option maxRecDepth 100000
def yJ (n:Int) (b:UInt8):Bool:=decide (b=10)||((decide (n=2)||decide (n=3))&&decide (b=34))
def sB (n:Int):List UInt8→List UInt8×Nat
 |[]=>([],0)
 |b::t=>if b=92 then BW (b::t) else if yJ n b=true then([b],0) else([b],1)
theorem aBW {l:List UInt8}{k:Nat}{ok:Int→Bool}{f:Int→List UInt8}(hf: ∀n,(f n).length≤4):(BV l k ok f).1.length≤4∧((BV l k ok f).2=0∨(BV l k ok f).2=k):=by
 unfold BV
 cases vL 16 0 l with
 |none=>exact⟨by simp,.inl rfl⟩
 |some n=>
  dsimp only
  split
  ·exact⟨hf n,.inr rfl⟩
  ·exact⟨by simp,.inl rfl⟩
theorem aHm (l:List UInt8):(BW l).1.length≤4∧(BW l).2≤l.length:=by
 unfold BW
 split
 ·rename_i a c t
  have h1:=aBW (l:=t.take 2) (k:=4) (ok:=fun n=>decide (n≤127)) (f:=fun n=>rB [n]) (fun n=>by simp [rB])
  have h2:=aBW (l:=t.take 4) (k:=6) (ok:=tZ) (f:=Lib.encodeRune) aBH
  repeat' split
  all_goals first
   |exact⟨by simp,by simp⟩
   |(rename_i h;exact⟨h1.1,by rcases h1.2 with e|e<;>rw[e]<;>simp<;>omega⟩)
   |(rename_i h;exact⟨h2.1,by rcases h2.2 with e|e<;>rw[e]<;>simp<;>omega⟩)
 ·exact⟨by simp,by simp⟩
theorem a3J {n:Int}{b:UInt8}{t:List UInt8}(h:b=92):sB n (b::t)=BW (b::t):=if_pos h
theorem P8 {n:Int}{b:UInt8}{t:List UInt8}(h:b≠92) (hb:yJ n b=true):sB n (b::t)=([b],0):=(if_neg h).trans (if_pos hb)
theorem a3K {n:Int}{b:UInt8}{t:List UInt8}(h:b≠92) (hb: ¬yJ n b=true):sB n (b::t)=([b],1):=(if_neg h).trans (if_neg hb)
theorem LG (n:Int) (l:List UInt8):(sB n l).1.length≤4∧(sB n l).2≤l.length:=by
 cases l with
 |nil=>exact⟨by simp [sB],by simp [sB]⟩
 |cons b t=>
  by_cases h:b=92
  ·rw[a3J h];exact aHm _
  ·by_cases hb:yJ n b=true
   ·rw[P8 h hb];exact⟨by simp,by simp⟩
   ·rw[a3K h hb];exact⟨by simp,by simp⟩
def uK (n:Int):Nat→List UInt8→List UInt8⊕Nat
 |0,_=> .inl []
 |_+1,[]=> .inl []
 |k+1,b::t=>if (sB n (b::t)).2=0 then .inr 0 else match uK n k ((b::t).drop (sB n (b::t)).2) with
  | .inl r=> .inl ((sB n (b::t)).1++r)
  | .inr e=> .inr ((sB n (b::t)).2+e)
def zZ (n:Int) (s:List UInt8):List UInt8×Int×Int:=match uK n s.length s with
 | .inl r=>(r,0,0)
 | .inr e=>([],e,3)
theorem aBX (a b:List UInt8):s4 (a++b)=s4 a++s4 b:=by simp [s4]
theorem aBY (a:List UInt8):rB (s4 a)=a:=by
 unfold rB s4
 rw[List.map_map]
 conv=>rhs;rw[←List.map_id a]
 congr 1
 funext b
 simp
theorem aBZ {s:List UInt8}{i:Nat}(h:i<s.length):p5 s (i:Int) ((i:Int)+1)=[s[i]]:=by
 unfold p5
 rw[Int.toNat_natCast,show ((i:Int)+1).toNat-i=1 by omega,List.drop_eq_getElem_cons h]
 rfl
theorem aHn {n:Int}(h1:1≤n) (h3:n≤3) {s:List UInt8}(hs:pQ s) {x:List Int}{i:Nat}(hi:i<s.length) (hx:x.length≤10000000):
  I6 n s (x,(i:Int))=if (sB n (s.drop i)).2=0 then some (.inr (.inr ([],(i:Int),3))) else some (.inl (x++s4 (sB n (s.drop i)).1,((i+(sB n (s.drop i)).2:Nat):Int))):=by
 have hs':=hs
 unfold pQ at hs'
 have hn4:decide (n=4)=false:=by simp;omega
 have hp:=LG n (s.drop i)
 rw[List.length_drop] at hp
 unfold I6
 dsimp only
 rw[if_pos (sX hi),if_pos (qK hi),if_pos (rS (by omega)),if_pos ⟨by omega,by omega,by omega⟩,vF hi,aBZ hi,BU,sQ (n:=92) 92 rfl,sQ (n:=38) 38 rfl,sQ (n:=10) 10 rfl,sQ (n:=34) 34 rfl,hn4]
 have hb: ∀v:List UInt8×Nat,v.1.length≤4→v.2≤s.length-i→
   ((if decide ((v.2:Int)=0)=true then(some (.inr (.inr (([]:List UInt8),(i:Int),(3:Int)))):Option ((List Int×Int)⊕(List Int⊕(List UInt8×Int×Int)))) else if x.length+v.1.length≤140737488355328 then if oT ((i:Int)+(v.2:Int)) then some (.inl ((x++s4 v.1),((i:Int)+(v.2:Int)))) else none else none)=if v.2=0 then some (.inr (.inr ([],(i:Int),3))) else some (.inl (x++s4 v.1,((i+v.2:Nat):Int)))):=fun v hv1 hv2=>by
  by_cases h0:v.2=0
  ·rw[if_pos (by simp [h0]),if_pos h0]
  ·rw[if_neg (by simpa using h0),if_neg h0,if_pos (by omega),if_pos (by unfold oT;omega)]
   rfl
 rw[List.drop_eq_getElem_cons hi] at hp⊢
 simp only[Bool.not_false,Bool.true_and,Bool.false_and,Bool.false_eq_true,if_false]
 by_cases c1:s[i]=92
 ·rw[a3J c1] at hp⊢
  rw[if_pos (by simpa using c1),if_pos ⟨by omega,by omega,Int.le_refl _⟩,aHk]
  unfold qE
  simp only[Option.bind_some]
  exact hb _ hp.1 hp.2
 ·rw[if_neg (by simpa using c1)]
  by_cases c2:s[i]=10
  ·rw[if_pos (by simpa using c2),if_pos (by simpa using c2),P8 c1 (show yJ n s[i]=true by simp [yJ,c2])]
   unfold qE
   simp only[Option.bind_some]
   exact hb ([s[i]],0) (by simp) (by simp)
  ·rw[if_neg (by simpa using c2)]
   by_cases c3:((decide (n=2)||decide (n=3))&&decide (s[i]=34))=true
   ·rw[if_pos c3,if_pos c3,P8 c1 (show yJ n s[i]=true by unfold yJ;rw[c3];simp)]
    unfold qE
    simp only[Option.bind_some]
    exact hb ([s[i]],0) (by simp) (by simp)
   ·have hbad:yJ n s[i]=false:=by
     have c3':((decide (n=2)||decide (n=3))&&decide (s[i]=34))=false:=by simpa using c3
     unfold yJ
     rw[c3'];simp [c2]
    have hbad': ¬yJ n s[i]=true:=by simp [hbad]
    rw[a3K c1 hbad'] at hp⊢
    rw[if_neg c3,if_pos (fun h=>by simp at h)]
    unfold qE
    simp only[Option.bind_some]
    exact hb ([s[i]],1) (by simp) hp.2
theorem aHo {n:Int}(h1:1≤n) (h3:n≤3) (b:UInt8):FZ n (b.toNat:Int)=yJ n b:=by
 unfold FZ yJ q6
 rw[sQ (n:=10) 10 rfl,sQ (n:=34) 34 rfl]
 by_cases c1:n=1
 ·subst c1;simp
 ·have h23:n=2∨n=3:=by omega
  rcases h23 with rfl|rfl<;>simp
theorem aHp {x:List Int}{c:Int}(hx:x.length≤10000000):G0 (x,()) c=some ():=by
 unfold G0
 exact if_pos (by simp only[List.length_singleton,Nat.mul_one];omega)
theorem aHq {x:List Int}{t:List UInt8}(hx:x.length≤10000000) (ht:t.length≤1000000):FW (x,()) t=some ():=by
 unfold FW
 exact if_pos (by dsimp only;omega)
theorem aHr {n:Int}(h1:1≤n) (h3:n≤3) {s:List UInt8}(hs:pQ s) {x:List Int}{i:Nat}(hi:i<s.length) (hx:x.length≤10000000):
  IB n s ((i:Int),x)=if (sB n (s.drop i)).2=0 then some (.inr (.inr ([],(i:Int),3))) else some (.inl (((i+(sB n (s.drop i)).2:Nat):Int),x++s4 (sB n (s.drop i)).1)):=by
 have hs':=hs
 unfold pQ at hs'
 have hp:=LG n (s.drop i)
 rw[List.length_drop] at hp
 unfold IB
 dsimp only
 rw[if_pos (sX hi),if_pos (qK hi),vF hi,BU,sQ (n:=92) 92 rfl,aHo h1 h3]
 rw[List.drop_eq_getElem_cons hi] at hp⊢
 by_cases c1:s[i]=92
 ·rw[a3J c1] at hp⊢
  rw[if_pos (by simpa using c1),if_pos ⟨by omega,by omega,Int.le_refl _⟩,aHl]
  simp only[Option.bind_some]
  by_cases h0:(BW (s[i]::s.drop (i+1))).2=0
  ·rw[if_pos (by rw[h0];rfl),if_pos h0]
  ·rw[if_neg (by rw[decide_eq_true_eq];omega),if_neg h0,aHq hx (by omega)]
   simp only[Option.bind_some]
   rw[if_pos (by unfold oT;omega)]
   rfl
 ·rw[if_neg (by simpa using c1),if_pos (qK hi)]
  by_cases hb:yJ n s[i]=true
  ·rw[if_pos hb,P8 c1 hb];rfl
  ·rw[if_neg hb,a3K c1 hb,if_pos (qK hi),aHp hx,Option.bind_some]
   rw[if_pos (rS (by omega))]
   rfl
theorem aB0 {n:Int}(h1:1≤n) (h3:n≤3) {s:List UInt8}(hs:pQ s): ∀(k i:Nat) (x:List Int),i≤s.length→s.length-i≤k→x.length+4*(s.length-i)≤5000000→
  pT (I6 n s) (x,(i:Int))=some (match uK n k (s.drop i) with| .inl r=> .inl (x++s4 r) | .inr e=> .inr ([],((i+e:Nat):Int),3))
 |k,i,x,hi,hk,hx=>by
  by_cases hlt:i<s.length
  ·cases k with
   |zero=>omega
   |succ k=>
    have hp:=LG n (s.drop i)
    rw[uU,aHn h1 h3 hs hlt (by omega)]
    rw[List.length_drop] at hp
    have hu:uK n (k+1) (s.drop i)=if (sB n (s.drop i)).2=0 then .inr 0 else match uK n k ((s.drop i).drop (sB n (s.drop i)).2) with
      | .inl r=> .inl ((sB n (s.drop i)).1++r)
      | .inr e=> .inr ((sB n (s.drop i)).2+e):=by
     rw[List.drop_eq_getElem_cons hlt,uK]
    rw[hu]
    by_cases h0:(sB n (s.drop i)).2=0
    ·rw[if_pos h0,if_pos h0];rfl
    ·rw[if_neg h0,if_neg h0]
     show pT _ (_,((i+(sB n (s.drop i)).2:Nat):Int))=_
     rw[aB0 h1 h3 hs k _ _ (by omega) (by omega) (by rw[List.length_append];simp only[s4,List.length_map];omega),List.drop_drop]
     cases uK n k (s.drop (i+(sB n (s.drop i)).2)) with
     |inl r=>dsimp only;rw[aBX,List.append_assoc]
     |inr e=>dsimp only;rw[Nat.add_assoc]
  ·have:i=s.length:=by omega
   subst this
   rw[vY (r:= .inl x) (by unfold I6;simp),List.drop_length]
   cases k<;>simp [uK,s4]
theorem aB1 {n:Int}(h1:1≤n) (h3:n≤3) {s:List UInt8}(hs:pQ s): ∀(k i:Nat) (x:List Int),i≤s.length→s.length-i≤k→x.length+4*(s.length-i)≤5000000→
  pT (IB n s) ((i:Int),x)=some (match uK n k (s.drop i) with| .inl r=> .inl (x++s4 r) | .inr e=> .inr ([],((i+e:Nat):Int),3))
 |k,i,x,hi,hk,hx=>by
  by_cases hlt:i<s.length
  ·cases k with
   |zero=>omega
   |succ k=>
    have hp:=LG n (s.drop i)
    rw[uU,aHr h1 h3 hs hlt (by omega)]
    rw[List.length_drop] at hp
    have hu:uK n (k+1) (s.drop i)=if (sB n (s.drop i)).2=0 then .inr 0 else match uK n k ((s.drop i).drop (sB n (s.drop i)).2) with
      | .inl r=> .inl ((sB n (s.drop i)).1++r)
      | .inr e=> .inr ((sB n (s.drop i)).2+e):=by
     rw[List.drop_eq_getElem_cons hlt,uK]
    rw[hu]
    by_cases h0:(sB n (s.drop i)).2=0
    ·rw[if_pos h0,if_pos h0];rfl
    ·rw[if_neg h0,if_neg h0]
     show pT _ (((i+(sB n (s.drop i)).2:Nat):Int),_)=_
     rw[aB1 h1 h3 hs k _ _ (by omega) (by omega) (by rw[List.length_append];simp only[s4,List.length_map];omega),List.drop_drop]
     cases uK n k (s.drop (i+(sB n (s.drop i)).2)) with
     |inl r=>dsimp only;rw[aBX,List.append_assoc]
     |inr e=>dsimp only;rw[Nat.add_assoc]
  ·have:i=s.length:=by omega
   subst this
   rw[vY (r:= .inl x) (by unfold IB;simp),List.drop_length]
   cases k<;>simp [uK,s4]
theorem aHs {n:Int}(h1:1≤n) (h3:n≤3) {s:List UInt8}(hs:pQ s):BP n s=some (zZ n s):=by
 unfold BP
 have hs':=hs
 unfold pQ at hs'
 rw[if_neg (by simp;omega),show (([]:List Int),(0:Int))=(([]:List Int),((0:Nat):Int)) from rfl,aB0 h1 h3 hs s.length 0 [] (by omega) (by omega) (by simp;omega),List.drop_zero]
 unfold zZ
 cases uK n s.length s with
 |inl r=>
  show some (rB ([]++s4 r),(0:Int),(0:Int))=_
  rw[List.nil_append,aBY]
 |inr e=>
  show some (([]:List UInt8),((0+e:Nat):Int),(3:Int))=_
  rw[Nat.zero_add]
theorem aHt {n:Int}(h1:1≤n) (h3:n≤3) {s:List UInt8}(hs:pQ s):BS n s=some (zZ n s):=by
 unfold BS
 have hs':=hs
 unfold pQ at hs'
 rw[if_neg (by simp;omega),if_neg (by simp;omega),show ((0:Int),([]:List Int))=(((0:Nat):Int),([]:List Int)) from rfl,aB1 h1 h3 hs s.length 0 [] (by omega) (by omega) (by simp;omega),List.drop_zero]
 unfold zZ
 cases uK n s.length s with
 |inl r=>
  show some (rB ([]++s4 r),(0:Int),(0:Int))=_
  rw[List.nil_append,aBY]
 |inr e=>
  show some (([]:List UInt8),((0+e:Nat):Int),(3:Int))=_
  rw[Nat.zero_add]
theorem aB2 (n:Int): ∀(k:Nat) (l r:List UInt8),uK n k l= .inl r→r.length≤4*k
 |0,_,_,h=>by cases h;simp
 |_+1,[],_,h=>by cases h;simp
 |k+1,b::t,r,h=>by
  rw[uK] at h
  split at h
  ·cases h
  ·have hp:=(LG n (b::t)).1
   cases hu:uK n k ((b::t).drop (sB n (b::t)).2) with
   |inl r'=>
    rw[hu] at h
    cases h
    have:=aB2 n k _ r' hu
    rw[List.length_append];omega
   |inr e=>rw[hu] at h;cases h
theorem a3L (n:Int) (s:List UInt8):(zZ n s).1.length≤4*s.length:=by
 unfold zZ
 cases h:uK n s.length s with
 |inl r=>exact aB2 n _ _ _ h
 |inr e=>simp
end Go.Proofs.YtfchbnahjcdiiaaGreatDoor
namespace Go.Proofs.YtfchbnahjcdiiaaGreatDoor
open Vc
set_option maxRecDepth 100000
def zF (b:UInt8):Bool:=((decide (b=32)||decide (b=9))||decide (b=10))||decide (b=13)
def s3 (x y:UInt8):List UInt8→Bool
 |b::c::_=>decide (b=x)&&decide (c=y)
 |_=>false
def tK (l:List UInt8):Nat:=(l.findIdx? fun b=>decide (b=10)).getD l.length
def uL:List UInt8→Option Nat
 |[]=>none
 |b::t=>if s3 42 47 (b::t)=true then some 0 else(uL t).map (· +1)
def AV (n:Nat) (g:Nat×Bool):Nat×Bool:=(n+g.1,g.2)
def vM:Nat→List UInt8→Nat×Bool
 |0,_=>(0,true)
 |_+1,[]=>(0,true)
 |k+1,b::t=>
  if zF b=true then AV 1 (vM k t)
  else if s3 47 47 (b::t)=true then AV (tK (b::t)) (vM k ((b::t).drop (tK (b::t))))
  else if s3 47 42 (b::t)=true then match uL ((b::t).drop 2) with
   |none=>(0,false)
   |some e=>AV (e+4) (vM k ((b::t).drop (e+4)))
  else(0,true)
def G (l:List UInt8):Nat×Bool:=vM l.length l
theorem LH {l:List UInt8}(h:s3 47 47 l=true):2≤tK l∧tK l≤l.length:=by
 unfold s3 at h
 split at h
 ·rename_i b c t
  simp only[Bool.and_eq_true,decide_eq_true_eq] at h
  obtain⟨rfl,rfl⟩:=h
  unfold tK
  rw[List.findIdx?_cons,if_neg (by decide),List.findIdx?_cons,if_neg (by decide)]
  cases h:t.findIdx? fun b=>decide (b=10) with
  |none=>simp
  |some k=>
   have:=(List.findIdx?_eq_some_iff_getElem.1 h).1
   simp;omega
 ·cases h
theorem P9: ∀{l:List UInt8}{e:Nat},uL l=some e→e+2≤l.length
 |[],_,h=>by cases h
 |b::t,e,h=>by
  unfold uL at h
  split at h
  ·rename_i hb
   cases h
   cases t with
   |nil=>simp [s3] at hb
   |cons c t=>simp
  ·cases hc:uL t with
   |none=>rw[hc] at h;cases h
   |some e'=>
    rw[hc] at h
    obtain rfl:e'+1=e:=Option.some.inj h
    have:=P9 hc
    simp only[List.length_cons];omega
theorem PA: ∀(n k k':Nat) (l:List UInt8),l.length≤n→l.length≤k→l.length≤k'→vM k l=vM k' l
 |n,k,k',[],_,_,_=>by cases k<;>cases k'<;>rfl
 |0,_,_,b::t,h,_,_=>by simp at h
 |n+1,0,_,b::t,_,h,_=>by simp at h
 |n+1,_,0,b::t,_,_,h=>by simp at h
 |n+1,k+1,k'+1,b::t,h,h1,h2=>by
  simp only[List.length_cons] at h h1 h2
  unfold vM
  split
  ·rw[PA n k k' t (by omega) (by omega) (by omega)]
  ·split
   ·rename_i hb
    have:=LH hb
    rw[PA n k k' _ (by rw[List.length_drop];simp only[List.length_cons];omega) (by rw[List.length_drop];simp only[List.length_cons];omega) (by rw[List.length_drop];simp only[List.length_cons];omega)]
   ·split
    ·cases hc:uL ((b::t).drop 2) with
     |none=>rfl
     |some e=>
      dsimp only
      rw[PA n k k' _ (by rw[List.length_drop];simp only[List.length_cons];omega) (by rw[List.length_drop];simp only[List.length_cons];omega) (by rw[List.length_drop];simp only[List.length_cons];omega)]
    ·rfl
theorem aB3 {k:Nat}{l:List UInt8}(h:l.length≤k):vM k l=G l:=PA l.length k l.length l (Nat.le_refl _) h (Nat.le_refl _)
theorem aMb:G []=(0,true):=rfl
theorem LI {b:UInt8}{t:List UInt8}(h:zF b=true):G (b::t)=AV 1 (G t):=by
 show vM (t.length+1) (b::t)=_
 unfold vM
 rw[if_pos h];rfl
theorem PB {b:UInt8}{t:List UInt8}(h: ¬zF b=true) (h1:s3 47 47 (b::t)=true):G (b::t)=AV (tK (b::t)) (G ((b::t).drop (tK (b::t)))):=by
 have:=LH h1
 show vM (t.length+1) (b::t)=_
 unfold vM
 rw[if_neg h,if_pos h1,aB3 (by rw[List.length_drop];simp only[List.length_cons];omega)]
theorem PC {b:UInt8}{t:List UInt8}(h: ¬zF b=true) (h1: ¬s3 47 47 (b::t)=true) (h2:s3 47 42 (b::t)=true) (hc:uL ((b::t).drop 2)=none):G (b::t)=(0,false):=by
 show vM (t.length+1) (b::t)=_
 unfold vM
 rw[if_neg h,if_neg h1,if_pos h2,hc]
theorem PD {b:UInt8}{t:List UInt8}{e:Nat}(h: ¬zF b=true) (h1: ¬s3 47 47 (b::t)=true) (h2:s3 47 42 (b::t)=true) (hc:uL ((b::t).drop 2)=some e):G (b::t)=AV (e+4) (G ((b::t).drop (e+4))):=by
 show vM (t.length+1) (b::t)=_
 unfold vM
 rw[if_neg h,if_neg h1,if_pos h2,hc]
 dsimp only
 rw[aB3 (by rw[List.length_drop];simp only[List.length_cons];omega)]
theorem PE {b:UInt8}{t:List UInt8}(h: ¬zF b=true) (h1: ¬s3 47 47 (b::t)=true) (h2: ¬s3 47 42 (b::t)=true):G (b::t)=(0,true):=by
 show vM (t.length+1) (b::t)=_
 unfold vM
 rw[if_neg h,if_neg h1,if_neg h2]
theorem IL: ∀(n:Nat) (l:List UInt8),l.length≤n→(G l).1≤l.length
 |_,[],_=>Nat.le_refl _
 |0,_::_,h=>by simp at h
 |n+1,b::t,h=>by
  simp only[List.length_cons] at h⊢
  by_cases h0:zF b=true
  ·rw[LI h0]
   have:=IL n t (by omega)
   show 1+_≤_;omega
  ·by_cases h1:s3 47 47 (b::t)=true
   ·rw[PB h0 h1]
    have hl:=LH h1
    have:=IL n ((b::t).drop (tK (b::t))) (by rw[List.length_drop];simp only[List.length_cons] at hl⊢;omega)
    rw[List.length_drop] at this
    simp only[List.length_cons] at this hl
    show tK _+_≤_;omega
   ·by_cases h2:s3 47 42 (b::t)=true
    ·cases hc:uL ((b::t).drop 2) with
     |none=>rw[PC h0 h1 h2 hc];exact Nat.zero_le _
     |some e=>
      rw[PD h0 h1 h2 hc]
      have he:=P9 hc
      have:=IL n ((b::t).drop (e+4)) (by rw[List.length_drop];simp only[List.length_cons];omega)
      rw[List.length_drop] at this he
      simp only[List.length_cons] at this he
      show e+4+_≤_;omega
    ·rw[PE h0 h1 h2];exact Nat.zero_le _
theorem PF {s:List UInt8}{i:Nat}(hi:i≤s.length) (x y:UInt8):((decide ((List.length ([x,y]:List UInt8):Int)≤((List.length s:Int)- (i:Int))))&&(decide ((p5 s (i:Int) ((i:Int)+(List.length ([x,y]:List UInt8):Int)))=([x,y]:List UInt8))))=s3 x y (s.drop i):=by
 have hc:p5 s (i:Int) ((i:Int)+(List.length ([x,y]:List UInt8):Int))=(s.drop i).take 2:=by
  unfold p5
  rw[Int.toNat_natCast]
  congr 1
  show ((i:Int)+2).toNat-i=2
  omega
 have hl:(s.drop i).length=s.length-i:=List.length_drop
 rw[hc]
 generalize s.drop i=r at hl
 match r,hl with
 |[],hl=>simp only[List.length_nil] at hl;rw[show decide ((List.length ([x,y]:List UInt8):Int)≤((List.length s:Int)- (i:Int)))=false by simp only[List.length_cons,List.length_nil,decide_eq_false_iff_not];omega];rfl
 |[b],hl=>simp only[List.length_cons,List.length_nil] at hl;rw[show decide ((List.length ([x,y]:List UInt8):Int)≤((List.length s:Int)- (i:Int)))=false by simp only[List.length_cons,List.length_nil,decide_eq_false_iff_not];omega];rfl
 |b::c::t,hl=>
  simp only[List.length_cons] at hl
  rw[show decide ((List.length ([x,y]:List UInt8):Int)≤((List.length s:Int)- (i:Int)))=true by simp;omega,Bool.true_and]
  show decide ([b,c]=[x,y])=_
  unfold s3
  rw[Bool.eq_iff_iff]
  simp
theorem a3M {s:List UInt8}(hs:pQ s) {i:Nat}(hi:i≤s.length) (x y:UInt8):E0 s (i:Int) [x,y]=some ():=by
 unfold pQ at hs
 have h2:((List.length ([x,y]:List UInt8):Nat):Int)=2:=rfl
 unfold E0
 rw[h2,if_pos (by unfold oT;omega),if_pos (fun _=>by unfold oT;omega),if_pos]
 intro h
 simp only[beq_iff_eq,decide_eq_true_eq] at h
 omega
theorem aB4 (r:List UInt8) (x y:UInt8):((decide ((List.length ([x,y]:List UInt8):Int)≤(List.length r:Int)))&&(decide ((p5 r (0:Int) (List.length ([x,y]:List UInt8):Int))=([x,y]:List UInt8))))=s3 x y r:=by
 have:=PF (s:=r) (i:=0) (Nat.zero_le _) x y
 rw[List.drop_zero,show ((0:Nat):Int)=0 from rfl,Int.sub_zero,Int.zero_add] at this
 exact this
theorem aB5 (r:List UInt8) (x y:UInt8):G4 r [x,y]=some ():=by
 have h2:((List.length ([x,y]:List UInt8):Nat):Int)=2:=rfl
 unfold G4 HO
 rw[h2,if_pos]
 ·rfl
 ·intro h
  simp only[beq_iff_eq,decide_eq_true_eq] at h
  exact⟨Int.le_refl _,by decide,h⟩
theorem aB6 (x y:UInt8):(x==y)=decide (y=x):=by
 by_cases h:y=x
 ·subst h;rw[beq_self_eq_true,decide_eq_true rfl]
 ·rw[decide_eq_false h,beq_eq_false_iff_ne];exact fun e=>h e.symm
theorem aB7 {o:Option Nat}:(if (AU o== -1)=true then(-1:Int) else AU o+1)=AU (o.map (· +1)):=by
 cases o with
 |none=>rfl
 |some k=>
  show (if ((k:Int)== -1)=true then(-1:Int) else(k:Int)+1)=((k+1:Nat):Int)
  rw[if_neg (by rw[beq_iff_eq];omega)]
  rfl
theorem aB8: ∀(l:List UInt8),Lib.indexByte l 10=AU (l.findIdx? fun b=>decide (b=10))
 |[]=>rfl
 |b::t=>by
  rw[Lib.indexByte,List.findIdx?_cons,aB8 t,aB6,aB7]
  by_cases h:b=10
  ·subst h;rfl
  ·rw[if_neg (by simpa using fun e=>h (Eq.symm e)),if_neg (by simpa using h)]
theorem aB9: ∀(l:List UInt8),Lib.index l [42,47]=AU (uL l)
 |[]=>rfl
 |b::t=>by
  rw[Lib.index,uL,aB9 t,aB7]
  have hp:([42,47]:List UInt8).isPrefixOf (b::t)=s3 42 47 (b::t):=by
   cases t with
   |nil=>simp only[List.isPrefixOf,Bool.and_false,s3]
   |cons c t=>simp only[List.isPrefixOf,Bool.and_true,s3,aB6]
  rw[hp]
  by_cases h:s3 42 47 (b::t)=true
  ·rw[if_pos h,if_pos h];rfl
  ·rw[if_neg h,if_neg h]
end Go.Proofs.YtfchbnahjcdiiaaGreatDoor
namespace Go.Proofs.YtfchbnahjcdiiaaGreatDoor
open Vc
set_option maxRecDepth 100000
theorem aHu {s:List UInt8}(hs:pQ s) {i:Nat}(hi:i≤s.length):pT (HW s) (i:Int)=some ((i+tK (s.drop i):Nat):Int):=by
 have hs':=hs
 unfold pQ at hs'
 have h:=P1 (f:=HW s) (l:=s) (fun b=> !decide (b=10)) (fun i h=>by
  unfold HW
  rw[if_pos (fun _=>qK h),sX h,Bool.true_and,vF h,sQ (n:=10) 10 rfl,if_pos (rS (by omega))]) (by
  unfold HW
  have hF:decide ((s.length:Int)<(s.length:Int))=false:=by simp
  rw[hF,if_pos (fun h=>by simp at h),Bool.false_and,if_neg (by decide)]) (s.length-i) i (by omega)
 rw[h]
 unfold tK
 simp only[Bool.not_not,List.length_drop]
theorem aHv {s:List UInt8}{i:Nat}(h:i<s.length):uL (s.drop i)=if s3 42 47 (s.drop i)=true then some 0 else(uL (s.drop (i+1))).map (· +1):=by
 rw[List.drop_eq_getElem_cons h,uL]
def a3N (i n:Nat):Option Nat→Int
 |some e=>(i:Int)+(e:Int)
 |none=>(n:Int)
theorem aCa {s:List UInt8}(hs:pQ s): ∀(n i:Nat),i+n=s.length→pT (HX s) (i:Int)=some (a3N i s.length (uL (s.drop i)))
 |0,i,h=>by
  have:i=s.length:=by omega
  subst this
  have hF:decide ((s.length:Int)<(s.length:Int))=false:=by simp
  rw[vY (r:=(s.length:Int)) (by unfold HX;rw[hF,if_pos (fun h=>by simp at h),Bool.false_and,if_neg (by decide)]),List.drop_length]
  rfl
 |n+1,i,h=>by
  have hlt:i<s.length:=by omega
  have hs':=hs
  unfold pQ at hs'
  rw[uU,aHv hlt]
  unfold HX
  rw[a3M hs (by omega),PF (by omega),sX hlt,Bool.true_and,if_pos (show ((true==true)=true→(some ()).isSome=true) from fun _=>rfl)]
  by_cases hb:s3 42 47 (s.drop i)=true
  ·rw[if_neg (by rw[hb];decide),if_pos hb]
   show some ((i:Int))=some ((i:Int)+((0:Nat):Int))
   rw[show ((i:Int)+((0:Nat):Int))=(i:Int) by omega]
  ·rw[if_pos (by simpa using hb),if_pos (rS (by omega)),if_neg hb]
   show pT (HX s) ((i+1:Nat):Int)=_
   rw[aCa hs n (i+1) (by omega)]
   cases uL (s.drop (i+1)) with
   |none=>rfl
   |some e=>
    show some ((((i+1:Nat)):Int)+(e:Int))=some ((i:Int)+(((e+1:Nat)):Int))
    rw[show (((i+1:Nat)):Int)+(e:Int)=(i:Int)+(((e+1:Nat)):Int) by omega]
theorem wsE (b:UInt8):((((decide ((b.toNat:Int)=(32:Int)))||(decide ((b.toNat:Int)=(9:Int))))||(decide ((b.toNat:Int)=(10:Int))))||(decide ((b.toNat:Int)=(13:Int))))=zF b:=by
 rw[sQ (n:=32) 32 rfl,sQ (n:=9) 9 rfl,sQ (n:=10) 10 rfl,sQ (n:=13) 13 rfl]
 rfl
theorem aCb {s:List UInt8}{i:Nat}(h:s3 47 42 (s.drop i)=true):i+2≤s.length:=by
 have hl:(s.drop i).length=s.length-i:=List.length_drop
 unfold s3 at h
 split at h
 ·rename_i b c t he
  rw[he] at hl
  simp only[List.length_cons] at hl
  omega
 ·cases h
theorem PG {s:List UInt8}(hs:pQ s): ∀(n i:Nat),i≤s.length→s.length-i≤n→qQ (pT (EE s) (i:Int)) (fun x=>some x)=some ((i+(G (s.drop i)).1:Nat):Int)
 |n,i,hi,hn=>by
  have hs':=hs
  unfold pQ at hs'
  by_cases hlt:i<s.length
  ·cases n with
   |zero=>omega
   |succ n=>
    have hd:=List.drop_eq_getElem_cons hlt
    rw[uU]
    unfold EE
    rw[if_pos (sX hlt),if_pos (qK hlt),if_pos (fun _=>qK hlt),if_pos (fun _=>qK hlt),if_pos (fun _=>qK hlt),vF hlt,wsE]
    by_cases h0:zF s[i]=true
    ·rw[if_pos h0,if_pos (rS (by omega)),hd,LI h0]
     show qQ (pT (EE s) ((i+1:Nat):Int)) _=_
     rw[PG hs n (i+1) (by omega) (by omega)]
     show _=some (((i+(1+(G (s.drop (i+1))).1):Nat)):Int)
     rw[show i+1+(G (s.drop (i+1))).1=i+(1+(G (s.drop (i+1))).1) by omega]
    ·rw[if_neg h0,a3M hs hi,Option.bind_some,PF hi]
     by_cases h1:s3 47 47 (s.drop i)=true
     ·have hl:=LH h1
      rw[List.length_drop] at hl
      rw[if_pos h1,aHu hs hi]
      unfold qE
      rw[Option.bind_some]
      show qQ (pT (EE s) ((i+tK (s.drop i):Nat):Int)) _=_
      rw[PG hs n (i+tK (s.drop i)) (by omega) (by omega)]
      have hg:G (s.drop i)=AV (tK (s.drop i)) (G ((s.drop i).drop (tK (s.drop i)))):=by
       rw[hd] at h1⊢;exact PB h0 h1
      rw[hg,List.drop_drop]
      show _=some (((i+(tK (s.drop i)+(G (s.drop (i+tK (s.drop i)))).1):Nat)):Int)
      rw[Nat.add_assoc]
     ·rw[if_neg h1,a3M hs hi,Option.bind_some,PF hi]
      by_cases h2:s3 47 42 (s.drop i)=true
      ·have h2l:=aCb h2
       rw[if_pos h2,if_pos (by unfold oT;omega),show ((i:Int)+2)=((i+2:Nat):Int) by omega,aCa hs (s.length- (i+2)) (i+2) (by omega)]
       unfold qE
       rw[Option.bind_some]
       cases hc:uL (s.drop (i+2)) with
       |none=>
        rw[show a3N (i+2) s.length none=(s.length:Int) from rfl,if_pos (by simp)]
        have hg:G (s.drop i)=(0,false):=by
         rw[hd] at h1 h2⊢
         exact PC h0 h1 h2 (by rw[←hd,List.drop_drop];exact hc)
        rw[hg];rfl
       |some e=>
        have he:=P9 hc
        rw[List.length_drop] at he
        have hz:a3N (i+2) s.length (some e)=(i:Int)+2+(e:Int):=by
         show (((i+2:Nat)):Int)+(e:Int)=_
         omega
        rw[hz,if_neg (by rw[decide_eq_true_eq];omega),if_pos (by unfold oT;omega)]
        have hg:G (s.drop i)=AV (e+4) (G ((s.drop i).drop (e+4))):=by
         rw[hd] at h1 h2⊢
         exact PD h0 h1 h2 (by rw[←hd,List.drop_drop];exact hc)
        show qQ (pT (EE s) ((i:Int)+2+(e:Int)+2)) _=_
        rw[show ((i:Int)+2+(e:Int)+2)=((i+(e+4):Nat):Int) by omega,PG hs n (i+(e+4)) (by omega) (by omega),hg,List.drop_drop]
        show _=some (((i+(e+4+(G (s.drop (i+(e+4)))).1):Nat)):Int)
        rw[show i+(e+4+(G (s.drop (i+(e+4)))).1)=i+(e+4)+(G (s.drop (i+(e+4)))).1 by omega]
      ·rw[if_neg h2]
       have hg:G (s.drop i)=(0,true):=by
        rw[hd] at h1 h2⊢;exact PE h0 h1 h2
       rw[hg];rfl
  ·have:i=s.length:=by omega
   subst this
   rw[vY (r:= .inl (s.length:Int)) (by unfold EE;rw[if_neg (xQ _)]),List.drop_length]
   rfl
theorem aCc {s:List UInt8}(hs:pQ s) {i:Nat}(hi:i≤s.length):CS s (i:Int)=some ((i+(G (s.drop i)).1:Nat):Int):=by
 unfold CS
 exact PG hs (s.length-i) i hi (Nat.le_refl _)
theorem wsI (b:UInt8):decide ((0:Int)≤rW ([32,9,10,13]:List UInt8) (b.toNat:Int))=zF b:=by
 rw[sib,←Lib.contains_iff_indexByte]
 unfold zF
 rw[Bool.eq_iff_iff]
 simp [or_assoc]
theorem aHy {t:List UInt8}:G (10::t)=AV 1 (G t):=LI rfl
theorem aHz {l:List UInt8}{k:Nat}(h:l.findIdx? (fun b=>decide (b=10))=some k):tK l=k∧k<l.length∧l.drop k=10::l.drop (k+1):=by
 obtain⟨hk,hp,_⟩:=List.findIdx?_eq_some_iff_getElem.1 h
 refine⟨by unfold tK;rw[h];rfl,hk,?_⟩
 rw[List.drop_eq_getElem_cons hk]
 simp only[decide_eq_true_eq] at hp
 rw[hp]
theorem aHA {l:List UInt8}(h:l.findIdx? (fun b=>decide (b=10))=none):tK l=l.length:=by unfold tK;rw[h];rfl
theorem LJ {s:List UInt8}(hs:pQ s) (j0:Int): ∀(n i:Nat),i≤s.length→s.length-i≤n→qQ (pT (CX (s,(j0,()))) (i:Int)) (fun x=>some (true,x))=some ((G (s.drop i)).2,((i+(G (s.drop i)).1:Nat):Int))
 |n,i,hi,hn=>by
  have hs':=hs
  unfold pQ at hs'
  by_cases hlt:i<s.length
  ·cases n with
   |zero=>omega
   |succ n=>
    have hd:=List.drop_eq_getElem_cons hlt
    have hl:(s.drop i).length=s.length-i:=List.length_drop
    rw[uU]
    unfold CX
    dsimp only
    rw[if_pos (sX hlt),if_pos ⟨by omega,by omega,Int.le_refl _⟩,BU,if_pos ⟨Int.le_refl _,by omega⟩]
    have hb:pA (s.drop i) 0=(s[i].toNat:Int):=by
     rw[hd];exact vF (i:=0) (by simp only[List.length_cons];omega)
    rw[hb,wsI]
    by_cases h0:zF s[i]=true
    ·rw[if_pos h0,if_pos (rS (by omega)),hd,LI h0]
     show qQ (pT (CX (s,(j0,()))) ((i+1:Nat):Int)) _=_
     rw[LJ hs j0 n (i+1) (by omega) (by omega)]
     show _=some ((G (s.drop (i+1))).2,(((i+(1+(G (s.drop (i+1))).1):Nat)):Int))
     rw[show i+1+(G (s.drop (i+1))).1=i+(1+(G (s.drop (i+1))).1) by omega]
    ·rw[if_neg h0,aB5,Option.bind_some,aB4]
     by_cases h1:s3 47 47 (s.drop i)=true
     ·have hg:G (s.drop i)=AV (tK (s.drop i)) (G ((s.drop i).drop (tK (s.drop i)))):=by
       rw[hd] at h1⊢;exact PB h0 h1
      have hx:rW (s.drop i) 10=AU ((s.drop i).findIdx? fun b=>decide (b=10)):=aB8 _
      rw[if_pos h1,hx]
      cases hf:(s.drop i).findIdx? fun b=>decide (b=10) with
      |none=>
       have hln:=aHA hf
       rw[if_pos (by decide),if_pos (by unfold oT;omega),if_pos (by unfold oT;omega),if_pos (by unfold oT;omega),hl]
       show qQ (pT (CX (s,(j0,()))) _) _=_
       rw[show ((i:Int)+(((s.length-i:Nat):Int)-1+1))=((s.length:Nat):Int) by omega,LJ hs j0 n s.length (Nat.le_refl _) (by omega),hg,hln,List.drop_length,List.drop_length,hl]
       show some (true,((s.length+0:Nat):Int))=some (true,((i+(s.length-i+0):Nat):Int))
       rw[show s.length+0=i+(s.length-i+0) by omega]
      |some k=>
       obtain⟨hln,hk,hdk⟩:=aHz hf
       rw[hl] at hk
       show qQ (Option.bind (if decide ((k:Int)<0)=true then _ else if oT ((k:Int)+1) then if oT ((i:Int)+((k:Int)+1)) then _ else _ else _) _) _=_
       rw[if_neg (by simp),if_pos (rS (by omega)),if_pos (by unfold oT;omega)]
       show qQ (pT (CX (s,(j0,()))) ((i:Int)+((k:Int)+1))) _=_
       rw[show ((i:Int)+((k:Int)+1))=((i+(k+1):Nat):Int) by omega,LJ hs j0 n (i+(k+1)) (by omega) (by omega),hg,hln,hdk,aHy,List.drop_drop]
       show some ((G (s.drop (i+(k+1)))).2,_)=some ((G (s.drop (i+(k+1)))).2,(((i+(k+(1+(G (s.drop (i+(k+1)))).1)):Nat)):Int))
       rw[show i+(k+(1+(G (s.drop (i+(k+1)))).1))=i+(k+1)+(G (s.drop (i+(k+1)))).1 by omega]
     ·rw[if_neg h1,aB5,Option.bind_some,aB4]
      by_cases h2:s3 47 42 (s.drop i)=true
      ·have h2l:=aCb h2
       have hcut:p5 (s.drop i) 2 ((s.drop i).length:Int)=s.drop (i+2):=by
        rw[show ((2:Int))=((2:Nat):Int) from rfl,BU,List.drop_drop]
       rw[if_pos h2,if_pos ⟨by decide,by omega,Int.le_refl _⟩,hcut,if_pos (by rw[List.length_drop];omega),show HH (s.drop (i+2)) [42,47]=AU (uL (s.drop (i+2))) from aB9 _]
       cases hc:uL (s.drop (i+2)) with
       |none=>
        rw[if_pos (by decide)]
        have hg:G (s.drop i)=(0,false):=by
         rw[hd] at h1 h2⊢
         exact PC h0 h1 h2 (by rw[←hd,List.drop_drop];exact hc)
        rw[hg];rfl
       |some e=>
        have he:=P9 hc
        rw[List.length_drop] at he
        have hg:G (s.drop i)=AV (e+4) (G ((s.drop i).drop (e+4))):=by
         rw[hd] at h1 h2⊢
         exact PD h0 h1 h2 (by rw[←hd,List.drop_drop];exact hc)
        show qQ (Option.bind (if decide ((e:Int)<0)=true then _ else if oT ((e:Int)+4) then if oT ((i:Int)+((e:Int)+4)) then _ else _ else _) _) _=_
        rw[if_neg (by simp),if_pos (by unfold oT;omega),if_pos (by unfold oT;omega)]
        show qQ (pT (CX (s,(j0,()))) ((i:Int)+((e:Int)+4))) _=_
        rw[show ((i:Int)+((e:Int)+4))=((i+(e+4):Nat):Int) by omega,LJ hs j0 n (i+(e+4)) (by omega) (by omega),hg,List.drop_drop]
        show _=some ((G (s.drop (i+(e+4)))).2,(((i+(e+4+(G (s.drop (i+(e+4)))).1):Nat)):Int))
        rw[show i+(e+4+(G (s.drop (i+(e+4)))).1)=i+(e+4)+(G (s.drop (i+(e+4)))).1 by omega]
      ·rw[if_neg h2]
       have hg:G (s.drop i)=(0,true):=by
        rw[hd] at h1 h2⊢;exact PE h0 h1 h2
       rw[hg];rfl
  ·have:i=s.length:=by omega
   subst this
   rw[vY (r:= .inl (s.length:Int)) (by unfold CX;rw[if_neg (xQ _)]),List.drop_length]
   rfl
theorem aHB {s:List UInt8}(hs:pQ s) {i:Nat}(hi:i≤s.length):EN (s,((i:Int),()))=some ((G (s.drop i)).2,((i+(G (s.drop i)).1:Nat):Int)):=by
 unfold EN
 exact LJ hs _ (s.length-i) i hi (Nat.le_refl _)
end Go.Proofs.YtfchbnahjcdiiaaGreatDoor
namespace Go.Proofs.YtfchbnahjcdiiaaGreatDoor
open Vc
set_option maxRecDepth 100000
def A0 (c:Int):Bool:=((decide ((97:Int)≤c))&&(decide (c≤(122:Int))))||((decide ((65:Int)≤c))&&(decide (c≤(90:Int))))
def a3O (c:Int):Bool:=((((A0 c)||((decide ((48:Int)≤c))&&(decide (c≤(57:Int)))))||(decide (c=(45:Int))))||(decide (c=(95:Int))))||(decide (c=(46:Int)))
def yK (b:UInt8):Bool:=a3O b.toNat
def vN (l:List UInt8):Nat:=(l.findIdx? fun b=> !yK b).getD l.length
theorem a3P (l:List UInt8):vN l≤l.length:=by
 unfold vN
 cases h:l.findIdx? fun b=> !yK b with
 |none=>exact Nat.le_refl _
 |some k=>exact Nat.le_of_lt (List.findIdx?_eq_some_iff_getElem.1 h).1
def wC (t:List UInt8):Int×List UInt8×Nat:=
 match sG 34 t with
 |none=>(0,[],0)
 |some n=>if (zZ 3 (t.take n)).2.2≠0∨DA (zZ 3 (t.take n)).1=false then(0,[],0) else(1,(zZ 3 (t.take n)).1,n+2)
def v7 (r:List UInt8):Int×List UInt8×Nat:=
 match r with
 |[]=>(4,[],0)
 |b::t=>if b=123∨b=125 then(3,[b],1) else if b=34 then wC t else if A0 b.toNat=true then(2,(b::t).take (vN (b::t)),vN (b::t)) else(0,[],0)
theorem PH {b:UInt8}{t:List UInt8}(h:b=123∨b=125):v7 (b::t)=(3,[b],1):=if_pos h
theorem PI {b:UInt8}{t:List UInt8}(h: ¬(b=123∨b=125)) (h2:b=34):v7 (b::t)=wC t:=(if_neg h).trans (if_pos h2)
theorem PJ {b:UInt8}{t:List UInt8}(h: ¬(b=123∨b=125)) (h2: ¬b=34) (h3:A0 b.toNat=true):v7 (b::t)=(2,(b::t).take (vN (b::t)),vN (b::t)):=(if_neg h).trans ((if_neg h2).trans (if_pos h3))
theorem LK {b:UInt8}{t:List UInt8}(h: ¬(b=123∨b=125)) (h2: ¬b=34) (h3: ¬A0 b.toNat=true):v7 (b::t)=(0,[],0):=(if_neg h).trans ((if_neg h2).trans (if_neg h3))
def sC (l:List UInt8):Int×List UInt8×Nat×Nat:=
 if (G l).2=true then((v7 (l.drop (G l).1)).1,(v7 (l.drop (G l).1)).2.1,(G l).1,(G l).1+(v7 (l.drop (G l).1)).2.2) else(0,[],(G l).1,(G l).1)
theorem LL: ∀(n:Nat) (l:List UInt8),l.length≤n→(G l).2=false→∃t,l.drop (G l).1=47::t
 |_,[],_,h=>by cases h
 |0,_::_,h,_=>by simp at h
 |n+1,b::t,hl,h=>by
  simp only[List.length_cons] at hl
  by_cases h0:zF b=true
  ·rw[LI h0] at h⊢
   obtain⟨u,hu⟩:=LL n t (by omega) h
   refine⟨u,?_⟩
   show (b::t).drop (1+(G t).1)=_
   rw[Nat.add_comm,List.drop_succ_cons];exact hu
  ·by_cases h1:s3 47 47 (b::t)=true
   ·rw[PB h0 h1] at h⊢
    have hp:=LH h1
    obtain⟨u,hu⟩:=LL n ((b::t).drop (tK (b::t))) (by rw[List.length_drop];simp only[List.length_cons] at hp⊢;omega) h
    refine⟨u,?_⟩
    rw[List.drop_drop] at hu;exact hu
   ·by_cases h2:s3 47 42 (b::t)=true
    ·cases hc:uL ((b::t).drop 2) with
     |none=>
      rw[PC h0 h1 h2 hc]
      unfold s3 at h2
      split at h2
      ·rename_i b' c' t' he
       simp only[Bool.and_eq_true,decide_eq_true_eq] at h2
       exact⟨c'::t',by rw[he,h2.1];rfl⟩
      ·cases h2
     |some e=>
      rw[PD h0 h1 h2 hc] at h⊢
      obtain⟨u,hu⟩:=LL n ((b::t).drop (e+4)) (by rw[List.length_drop];simp only[List.length_cons];omega) h
      refine⟨u,?_⟩
      rw[List.drop_drop] at hu;exact hu
    ·rw[PE h0 h1 h2] at h;cases h
theorem aHC (t:List UInt8):v7 (47::t)=(0,[],0):=by
 exact LK (by decide) (by decide) (by decide)
theorem aHD (t:List UInt8):(wC t).2.2≤t.length+1:=by
 unfold wC
 cases h:sG 34 t with
 |none=>exact Nat.zero_le _
 |some n=>
  have:=LE t.length t n (Nat.le_refl _) h
  dsimp only
  split
  ·exact Nat.zero_le _
  ·show n+2≤_;omega
theorem aHE (r:List UInt8):(v7 r).2.2≤r.length:=by
 unfold v7
 split
 ·exact Nat.zero_le _
 ·rename_i b t
  split
  ·simp
  ·split
   ·exact aHD t
   ·split
    ·exact a3P _
    ·exact Nat.zero_le _
theorem aHF (l:List UInt8):(sC l).2.2.1≤(sC l).2.2.2∧(sC l).2.2.2≤l.length:=by
 have h1:=IL l.length l (Nat.le_refl _)
 have h2:=aHE (l.drop (G l).1)
 rw[List.length_drop] at h2
 unfold sC
 split
 ·dsimp only;omega
 ·dsimp only;omega
theorem aCd {s:List UInt8}(hs:pQ s) (n:Nat):pQ (s.drop n):=by unfold pQ at*;rw[List.length_drop];omega
theorem aCe {s:List UInt8}(hs:pQ s) (n:Nat):pQ (s.take n):=by unfold pQ at*;rw[List.length_take];omega
def kR (k:Int):Int:=if k=4 then 0 else k
theorem aCf {α:Type}{l:List α}{a n:Nat}:p5 l (a:Int) ((a:Int)+(n:Int))=(l.drop a).take n:=by
 unfold p5
 rw[Int.toNat_natCast]
 congr 1
 omega
theorem aMc {s:List UInt8}{p:Nat}:decide ((s.length:Int)<(s.length:Int))=false:=by simp
theorem aHG {s:List UInt8}(hs:pQ s) {p:Nat}(hp:p≤s.length):pT (I8 s) (p:Int)=some ((p+vN (s.drop p):Nat):Int):=by
 have hs':=hs
 unfold pQ at hs'
 have h:=P1 (f:=I8 s) (l:=s) (fun b=>yK b) (fun i h=>by
  unfold I8
  rw[if_pos (fun _=>qK h),if_pos (fun _=>qK h),if_pos (fun _=>qK h),if_pos (fun _=>qK h),if_pos (fun _=>qK h),if_pos (fun _=>qK h),sX h,Bool.true_and,vF h,if_pos (rS (by omega))]
  rfl) (by
  unfold I8
  have hF:decide ((s.length:Int)<(s.length:Int))=false:=by simp
  rw[hF]
  simp only[Bool.false_and,show (false==true)=false from rfl,Bool.false_eq_true,false_implies,if_true,if_false]) (s.length-p) p (by omega)
 rw[h]
 unfold vN
 rw[List.length_drop]
theorem PL {s:List UInt8}(h:s.length≤5000):pQ s:=by unfold pQ;omega
theorem aHH {s:List UInt8}(hsm:s.length≤5000) {i:Nat}(hi:i≤s.length):
  zW s (i:Int)=some (kR (sC (s.drop i)).1,(sC (s.drop i)).2.1,((i+(sC (s.drop i)).2.2.1:Nat):Int),((i+(sC (s.drop i)).2.2.2:Nat):Int)):=by
 have hs:=PL hsm
 have hgl:=IL (s.drop i).length (s.drop i) (Nat.le_refl _)
 rw[List.length_drop] at hgl
 unfold zW
 rw[aCc hs hi,Option.bind_some]
 obtain⟨p,hp⟩: ∃p,i+(G (s.drop i)).1=p:=⟨_,rfl⟩
 have hdp:(s.drop i).drop (G (s.drop i)).1=s.drop p:=by rw[List.drop_drop,hp]
 have hpl:p≤s.length:=by omega
 have hspec: ∀k t n,v7 (s.drop p)=(k,t,n)→(kR (sC (s.drop i)).1,(sC (s.drop i)).2.1,((i+(sC (s.drop i)).2.2.1:Nat):Int),((i+(sC (s.drop i)).2.2.2:Nat):Int))=(kR k,t,(p:Int),((p+n:Nat):Int)):=by
  intro k t n hk
  unfold sC
  by_cases hg:(G (s.drop i)).2=true
  ·rw[if_pos hg,hdp,hk]
   dsimp only
   rw[←Nat.add_assoc,hp]
  ·rw[if_neg hg]
   obtain⟨u,hu⟩:=LL _ (s.drop i) (Nat.le_refl _) (by simpa using hg)
   rw[hdp] at hu
   rw[hu,aHC] at hk
   cases hk
   dsimp only
   rw[hp];rfl
 rw[hp]
 by_cases hend:p=s.length
 ·have hnil:s.drop p=[]:=by rw[hend,List.drop_length]
  rw[if_pos (by rw[hend];simp),hspec 4 [] 0 (by rw[hnil];rfl)]
  rfl
 ·have hlt:p<s.length:=by omega
  have hd:=List.drop_eq_getElem_cons hlt
  rw[if_neg (by simp;omega),if_pos (qK hlt),vF hlt,sQ (n:=123) 123 rfl,sQ (n:=125) 125 rfl,sQ (n:=34) 34 rfl]
  by_cases h1:s[p]=123∨s[p]=125
  ·have hz:p5 s (p:Int) ((p:Int)+1)=[s[p]]:=aBZ hlt
   rw[if_pos (by simpa using h1),if_pos (rS (by omega)),if_pos ⟨by omega,by omega,by omega⟩,if_pos (rS (by omega)),hz,hspec 3 [s[p]] 1 (by rw[hd];exact PH h1)]
   rfl
  ·rw[if_neg (by simpa using h1)]
   by_cases h2:s[p]=34
   ·have hct:p5 s ((p:Int)+1) (s.length:Int)=s.drop (p+1):=by
     rw[show ((p:Int)+1)=((p+1:Nat):Int) by omega,BU]
    have hA:v7 (s.drop p)=wC (s.drop (p+1)):=by rw[hd];exact PI h1 h2
    rw[if_pos (by simpa using h2),if_pos (rS (by omega)),if_pos ⟨by omega,by omega,Int.le_refl _⟩,hct,show ((34:Int))=((34:UInt8).toNat:Int) from rfl,aBN (by decide) (by decide) _ _ (aCd hs _),Option.bind_some]
    unfold wC at hA
    cases he:sG 34 (s.drop (p+1)) with
    |none=>
     rw[he] at hA
     rw[if_pos (by decide),hspec 0 [] 0 hA]
     rfl
    |some k=>
     rw[he] at hA
     dsimp only at hA
     have hk:=LE _ _ _ (Nat.le_refl _) he
     rw[List.length_drop] at hk
     have hcm:p5 s ((p:Int)+1) ((p:Int)+1+(k:Int))=(s.drop (p+1)).take k:=by
      rw[show ((p:Int)+1)=((p+1:Nat):Int) by omega,aCf]
     have hft:pQ ((s.drop (p+1)).take k):=aCe (aCd hs _) _
     show (if decide ((k:Int)<0)=true then _ else if oT ((p:Int)+1) then if oT ((p:Int)+1) then if oT ((p:Int)+1+(k:Int)) then if 0≤(p:Int)+1∧(p:Int)+1≤(p:Int)+1+(k:Int)∧(p:Int)+1+(k:Int)≤(s.length:Int) then(BP 3 (p5 s ((p:Int)+1) ((p:Int)+1+(k:Int)))).bind _ else _ else _ else _ else _)=_
     rw[if_neg (by simp),if_pos (rS (by omega)),if_pos (rS (by omega)),if_pos (by unfold oT;omega),if_pos ⟨by omega,by omega,by omega⟩,hcm,aHs (by decide) (by decide) hft,Option.bind_some]
     generalize hu:zZ 3 ((s.drop (p+1)).take k)=u at hA⊢
     have hul:pQ u.1:=by
      have:=a3L 3 ((s.drop (p+1)).take k)
      rw[hu,List.length_take,List.length_drop] at this
      unfold pQ
      omega
     obtain⟨ht1,ht2⟩:=aHd u.1 hul
     rw[if_pos (fun _=>by rw[ht1];rfl),ht2]
     by_cases hb:u.2.2≠0∨DA u.1=false
     ·rw[if_pos hb] at hA
      rw[if_pos (by
       rcases hb with hb|hb
       ·simp [hb]
       ·simp [hb]),hspec 0 [] 0 hA]
      rfl
     ·rw[if_neg hb] at hA
      have hb1:u.2.2=0:=by
       by_cases h:u.2.2=0
       ·exact h
       ·exact absurd (.inl h) hb
      have hb2:DA u.1=true:=by
       cases h:DA u.1 with
       |true=>rfl
       |false=>exact absurd (.inr h) hb
      rw[if_neg (by simp [hb1,hb2])]
      show (if oT ((p:Int)+(k:Int)) then if oT ((p:Int)+(k:Int)+2) then _ else _ else _)=_
      rw[if_pos (by unfold oT;omega),if_pos (by unfold oT;omega),hspec 1 u.1 (k+2) hA]
      show some ((1:Int),u.1,(p:Int),(p:Int)+(k:Int)+2)=some (kR 1,u.1,(p:Int),((p+(k+2):Nat):Int))
      rw[show (p:Int)+(k:Int)+2=((p+(k+2):Nat):Int) by omega]
      rfl
   ·rw[if_neg (by simpa using h2)]
    show (if A0 (s[p].toNat:Int)=true then _ else _)=_
    by_cases h3:A0 (s[p].toNat:Int)=true
    ·have hw:=a3P (s.drop p)
     rw[List.length_drop] at hw
     rw[if_pos h3,aHG hs hpl]
     unfold qE
     rw[Option.bind_some,if_pos ⟨by omega,by omega,by omega⟩,hspec 2 ((s.drop p).take (vN (s.drop p))) (vN (s.drop p)) (by rw[hd];exact PJ h1 h2 h3)]
     rw[show ((p+vN (s.drop p):Nat):Int)=(p:Int)+(vN (s.drop p):Int) by omega,aCf]
     rfl
    ·rw[if_neg h3,hspec 0 [] 0 (by rw[hd];exact LK h1 h2 h3)]
     rfl
end Go.Proofs.YtfchbnahjcdiiaaGreatDoor
namespace Go.Proofs.YtfchbnahjcdiiaaGreatDoor
open Vc
set_option maxRecDepth 100000
def LM (c:Int):Bool:=(((decide ((127:Int)<c))||(((((!(((decide ((97:Int)≤(IntKind.wrap .u8 c)))&&(decide ((IntKind.wrap .u8 c)≤(122:Int))))||((decide ((65:Int)≤(IntKind.wrap .u8 c)))&&(decide ((IntKind.wrap .u8 c)≤(90:Int))))))&&((decide (c<(48:Int)))||(decide ((57:Int)<c))))&&(!decide (c=(45:Int))))&&(!decide (c=(95:Int))))&&(!decide (c=(46:Int)))))==true)
theorem aHI (b:UInt8):LM b.toNat= !yK b:=by
 have hb:=b.toNat_lt
 unfold LM yK a3O A0
 rw[show IntKind.wrap .u8 (b.toNat:Int)=(b.toNat:Int) by rw[IntKind.wrap_u8];omega]
 generalize (b.toNat:Int)=c at*
 rw[Bool.eq_iff_iff]
 simp
 omega
theorem aHJ (s:List UInt8):G6 s=some (AU (s.findIdx? fun b=> !yK b)):=by
 have h:=a7j (f:=L1 s true) (s:=s) (fun c=>LM c) (fun k=>(k:Int)) (fun c h=>by unfold LM;rw[show decide ((127:Int)<c)=true by simp;omega];rfl) (fun i h=>by
  unfold L1
  rw[if_pos (by simpa using h),if_pos (by simpa using h),if_pos (by simpa using h)];rfl) (by
  unfold L1
  rw[if_neg (by simp)])
 unfold G6 HV
 rw[h,D7,Option.bind_some]
 congr 1
 rw[show (fun b:UInt8=>LM b.toNat)=fun b=> !yK b from funext aHI]
 cases s.findIdx? fun b=> !yK b<;>rfl
theorem aHK {t:List UInt8}(hsm:t.length≤5000) (b:UInt8) (p:Nat) (hp:p≤5000):D1 (b::t) (p:Int)=some ((wC t).1,(wC t).2.1,((p+(wC t).2.2:Nat):Int)):=by
 have hs:=PL hsm
 have hct:p5 (b::t) 1 ((b::t).length:Int)=t:=by
  rw[show ((1:Int))=((1:Nat):Int) from rfl,BU];rfl
 unfold D1
 rw[if_pos ⟨by decide,by simp only[List.length_cons];omega,Int.le_refl _⟩,hct,aHf,show ((34:Int))=((34:UInt8).toNat:Int) from rfl,aBN (by decide) (by decide) _ _ hs,Option.bind_some]
 unfold wC
 cases he:sG 34 t with
 |none=>
  rw[if_pos (by decide)]
  rfl
 |some k=>
  have hk:=LE _ _ _ (Nat.le_refl _) he
  have hcm:p5 (b::t) 1 ((k:Int)+1)=t.take k:=by
   unfold p5
   rw[show ((k:Int)+1).toNat- (1:Int).toNat=k by omega]
   rfl
  have hft:pQ (t.take k):=aCe hs _
  show (if decide ((k:Int)<0)=true then _ else if oT ((k:Int)+1) then if 0≤(1:Int)∧(1:Int)≤(k:Int)+1∧(k:Int)+1≤((b::t).length:Int) then(BS 3 (p5 (b::t) 1 ((k:Int)+1))).bind _ else _ else _)=_
  rw[if_neg (by simp),if_pos (rS (by omega)),if_pos ⟨by decide,by omega,by simp only[List.length_cons];omega⟩,hcm,aHt (by decide) (by decide) hft,Option.bind_some]
  dsimp only
  generalize hu:zZ 3 (t.take k)=u
  have hul:pQ u.1:=by
   have:=a3L 3 (t.take k)
   rw[hu,List.length_take] at this
   unfold pQ
   omega
  have ht1:=aHe u.1 hul
  rw[if_pos (fun _=>by rw[ht1];rfl)]
  show (if (!decide (u.2.2=0)|| !DA u.1)=true then _ else _)=_
  by_cases hb:u.2.2≠0∨DA u.1=false
  ·rw[if_pos hb,if_pos (by
    rcases hb with hb|hb
    ·simp [hb]
    ·simp [hb])]
   rfl
  ·have hb1:u.2.2=0:=by
    by_cases h:u.2.2=0
    ·exact h
    ·exact absurd (.inl h) hb
   have hb2:DA u.1=true:=by
    cases h:DA u.1 with
    |true=>rfl
    |false=>exact absurd (.inr h) hb
   rw[if_neg hb,if_neg (by simp [hb1,hb2])]
   show (if oT ((p:Int)+(k:Int)) then if oT ((p:Int)+(k:Int)+2) then _ else _ else _)=_
   rw[if_pos (by unfold oT;omega),if_pos (by unfold oT;omega)]
   show some ((1:Int),u.1,(p:Int)+(k:Int)+2)=some ((1:Int),u.1,((p+(k+2):Nat):Int))
   rw[show (p:Int)+(k:Int)+2=((p+(k+2):Nat):Int) by omega]
theorem a3Q {s:List UInt8}(hsm:s.length≤5000) {i:Nat}(hi:i≤s.length):
  yH (s,((i:Int),()))=some ((sC (s.drop i)).1,(sC (s.drop i)).2.1,((i+(sC (s.drop i)).2.2.1:Nat):Int),((i+(sC (s.drop i)).2.2.2:Nat):Int),((i+(sC (s.drop i)).2.2.2:Nat):Int)):=by
 have hs:=PL hsm
 have hgl:=IL (s.drop i).length (s.drop i) (Nat.le_refl _)
 rw[List.length_drop] at hgl
 unfold yH
 rw[aHB hs hi,Option.bind_some]
 dsimp only
 obtain⟨p,hp⟩: ∃p,i+(G (s.drop i)).1=p:=⟨_,rfl⟩
 have hdp:(s.drop i).drop (G (s.drop i)).1=s.drop p:=by rw[List.drop_drop,hp]
 have hpl:p≤s.length:=by omega
 rw[hp]
 by_cases hg:(G (s.drop i)).2=true
 ·rw[if_neg (by rw[hg];decide)]
  have hspec: ∀k t n,v7 (s.drop p)=(k,t,n)→((sC (s.drop i)).1,(sC (s.drop i)).2.1,((i+(sC (s.drop i)).2.2.1:Nat):Int),((i+(sC (s.drop i)).2.2.2:Nat):Int),((i+(sC (s.drop i)).2.2.2:Nat):Int))=(k,t,(p:Int),((p+n:Nat):Int),((p+n:Nat):Int)):=by
   intro k t n hk
   unfold sC
   rw[if_pos hg,hdp,hk]
   dsimp only
   rw[←Nat.add_assoc,hp]
  by_cases hend:p=s.length
  ·have hnil:s.drop p=[]:=by rw[hend,List.drop_length]
   rw[if_pos (by rw[hend];simp),hspec 4 [] 0 (by rw[hnil];rfl)]
   rfl
  ·have hlt:p<s.length:=by omega
   have hd:=List.drop_eq_getElem_cons hlt
   have hdl:(s.drop p).length=s.length-p:=List.length_drop
   have hb:pA (s.drop p) 0=(s[p].toNat:Int):=by
    rw[hd];exact vF (i:=0) (by simp only[List.length_cons];omega)
   rw[if_neg (by simp;omega),BU,if_pos ⟨by omega,by omega,Int.le_refl _⟩,if_pos ⟨Int.le_refl _,by omega⟩,hb,sQ (n:=123) 123 rfl,sQ (n:=125) 125 rfl,sQ (n:=34) 34 rfl]
   by_cases h1:s[p]=123∨s[p]=125
   ·have hz:p5 (s.drop p) 0 1=[s[p]]:=by rw[hd];rfl
    rw[if_pos (by simpa using h1),if_pos ⟨Int.le_refl _,by decide,by omega⟩,if_pos (rS (by omega)),hz,hspec 3 [s[p]] 1 (by rw[hd];exact PH h1)]
    rfl
   ·rw[if_neg (by simpa using h1)]
    by_cases h2:s[p]=34
    ·have hA:v7 (s.drop p)=wC (s.drop (p+1)):=by rw[hd];exact PI h1 h2
     rw[if_pos (by simpa using h2)]
     have hq:=aHK (t:=s.drop (p+1)) (by rw[List.length_drop];omega) s[p] p (by omega)
     rw[←hd] at hq
     rw[hq,Option.bind_some,hspec (wC (s.drop (p+1))).1 (wC (s.drop (p+1))).2.1 (wC (s.drop (p+1))).2.2 hA]
    ·rw[if_neg (by simpa using h2)]
     show (if A0 (s[p].toNat:Int)=true then _ else _)=_
     by_cases h3:A0 (s[p].toNat:Int)=true
     ·have hw:=a3P (s.drop p)
      rw[hdl] at hw
      rw[if_pos h3,aHJ,Option.bind_some,hspec 2 ((s.drop p).take (vN (s.drop p))) (vN (s.drop p)) (by rw[hd];exact PJ h1 h2 h3)]
      have hx:(if decide (AU ((s.drop p).findIdx? fun b=> !yK b)<0)=true then some ((s.drop p).length:Int) else some (AU ((s.drop p).findIdx? fun b=> !yK b)))=some (vN (s.drop p):Int):=by
       unfold vN
       cases(s.drop p).findIdx? fun b=> !yK b with
       |none=>rw[if_pos (by decide)];rfl
       |some k=>rw[if_neg (by show¬decide ((k:Int)<0)=true;simp)];rfl
      rw[hx]
      unfold qE
      rw[Option.bind_some,if_pos ⟨Int.le_refl _,by omega,by omega⟩,if_pos (by unfold oT;omega),P2]
      rfl
     ·rw[if_neg h3,hspec 0 [] 0 (by rw[hd];exact LK h1 h2 h3)]
      rfl
 ·have hg':(G (s.drop i)).2=false:=by simpa using hg
  rw[if_pos (by rw[hg'];rfl)]
  unfold sC
  rw[if_neg hg]
  dsimp only
  rw[hp]
end Go.Proofs.YtfchbnahjcdiiaaGreatDoor
namespace Go.Proofs.YtfchbnahjcdiiaaGreatDoor
open Vc
set_option maxRecDepth 100000
def kS (s:List UInt8) (P:Nat):Int:=(sC (s.drop P)).1
def xS (s:List UInt8) (P:Nat):List UInt8:=(sC (s.drop P)).2.1
def fS (s:List UInt8) (P:Nat):Nat:=P+(sC (s.drop P)).2.2.1
def nS (s:List UInt8) (P:Nat):Nat:=P+(sC (s.drop P)).2.2.2
theorem rO {s:List UInt8}{P:Nat}(h:P≤s.length):P≤nS s P∧nS s P≤s.length:=by
 have:=aHF (s.drop P)
 rw[List.length_drop] at this
 unfold nS
 omega
theorem u1 {p:Prop}{α:Type}{v:α}:p→(some v).isSome=true:=fun _=>rfl
abbrev C4:=List UInt8×(List (List UInt8)×(List qP×(List pX×Unit)))
abbrev R8:=Int×Int×List UInt8×Int×Int×Int×Int×Int
def rP (s:List UInt8) (P:Nat) (a:Int):R8:=((nS s P:Int),kS s P,xS s P,(fS s P:Int),(nS s P:Int),a,0,(P:Int))
section
variable {s:List UInt8}(hsm:s.length≤5000) {P:Nat}(hP:P≤s.length) {c:C4}{a e en at0 f t:Int}{k:Int}{x:List UInt8}{ends:List Int}{ids:List (List UInt8×Bool)}
include hsm hP
theorem LN:qO (s,(((P:Nat):Int),())) (k,(x,(f,(t,())))) a 0 c (ends,(en,())) ids=some ((nS s P:Int),kS s P,xS s P,(fS s P:Int),(nS s P:Int),t):=by
 unfold qO
 dsimp only
 rw[if_pos (by decide),a3Q hsm hP]
 rfl
omit hsm hP in
theorem GH (he:e≠0):qO (s,(at0,())) (k,(x,(f,(t,())))) a e c (ends,(en,())) ids=some (at0,k,x,f,t,en):=by
 unfold qO
 dsimp only
 rw[if_neg (by simpa using he)]
omit hsm hP in
theorem PM {r1:List UInt8×(Int×Unit)}{code:Int}{r6:List Int×(Int×Unit)}:s9 r1 (k,(x,(f,(t,())))) a 0 c r6 code ids=(f,code):=by
 unfold s9
 rw[if_pos (by decide)]
omit hsm hP in
theorem aCg {r1:List UInt8×(Int×Unit)}{code:Int}{r6:List Int×(Int×Unit)}(he:e≠0):s9 r1 (k,(x,(f,(t,())))) a e c r6 code ids=(a,e):=by
 unfold s9
 rw[if_neg (by simpa using he)]
omit hsm hP in
theorem zG {c':C4}{code:Int}(hc:code≠0):(q6 (s9 (s,(at0,())) (k,(x,(f,(t,())))) a 0 c (ends,(en,())) code ids) fun r=>
  (qO (s,(at0,())) (k,(x,(f,(t,())))) r.1 r.2 c' (ends,(en,())) ids).bind fun r'=>some ((r'.1,r'.2.1,r'.2.2.1,r'.2.2.2.1,r'.2.2.2.2.1,r.1,r.2,r'.2.2.2.2.2):R8))=some (at0,k,x,f,t,f,code,en):=by
 unfold q6
 rw[PM]
 dsimp only
 rw[GH hc]
 rfl
omit hsm hP in
theorem zH {c':C4}{code:Int}(he:e≠0):(q6 (s9 (s,(at0,())) (k,(x,(f,(t,())))) a e c (ends,(en,())) code ids) fun r=>
  (qO (s,(at0,())) (k,(x,(f,(t,())))) r.1 r.2 c' (ends,(en,())) ids).bind fun r'=>some ((r'.1,r'.2.1,r'.2.2.1,r'.2.2.2.1,r'.2.2.2.2.1,r.1,r.2,r'.2.2.2.2.2):R8))=some (at0,k,x,f,t,a,e,en):=by
 unfold q6
 rw[aCg he]
 dsimp only
 rw[GH he]
 rfl
theorem GI {c':C4}:((qO (s,(((P:Nat):Int),())) (k,(x,(f,(((P:Nat):Int),())))) a 0 c' (ends,(en,())) ids).bind fun r'=>some ((r'.1,r'.2.1,r'.2.2.1,r'.2.2.2.1,r'.2.2.2.2.1,a,0,r'.2.2.2.2.2):R8))=some (rP s P a):=by
 rw[LN hsm hP]
 rfl
omit hsm hP in
theorem IM {c':C4}(he:e≠0):((qO (s,(at0,())) (k,(x,(f,(t,())))) a e c' (ends,(en,())) ids).bind fun r'=>some ((r'.1,r'.2.1,r'.2.2.1,r'.2.2.2.1,r'.2.2.2.2.1,a,e,r'.2.2.2.2.2):R8))=some (at0,k,x,f,t,a,e,en):=by
 rw[GH he]
 rfl
def rQ (bad dup much:Bool):Int:=if bad=true then 3 else if dup=true then 9 else if much=true then 6 else 0
def rV (s:List UInt8) (P:Nat) (a at0 k:Int) (x:List UInt8) (f t en:Int) (code:Int):R8:=if code=0 then rP s P a else(at0,k,x,f,t,f,code,en)
theorem LO {kind:Int}{text:List UInt8}:uY (s,(((P:Nat):Int),())) (k,(x,(f,(((P:Nat):Int),())))) a 0 c (ends,(en,())) kind text ids=some (rV s P a P k x f P en (if k=kind∧x=text then 0 else 3)):=by
 unfold uY rV
 dsimp only
 by_cases h:k=kind∧x=text
 ·rw[if_neg (by simp [h.1,h.2]),GI hsm hP,if_pos h,if_pos rfl]
 ·rw[if_pos (by simp only[decide_true,Bool.true_and,Bool.not_eq_true',Bool.and_eq_false_iff,decide_eq_false_iff_not];exact Decidable.not_and_iff_or_not.1 h),zG (by decide),if_neg h,if_neg (by decide)]
omit hsm hP in
theorem PN {kind:Int}{text:List UInt8}(he:e≠0):uY (s,(at0,())) (k,(x,(f,(t,())))) a e c (ends,(en,())) kind text ids=some (at0,k,x,f,t,a,e,en):=by
 unfold uY
 dsimp only
 rw[if_pos (by simp [he]),zH he]
theorem aHL {kind:Int}:wO (s,(((P:Nat):Int),())) (k,(x,(f,(((P:Nat):Int),())))) a 0 c (ends,(en,())) kind false ids=some (rV s P a P k x f P en (rQ (decide (k≠kind)) false false)):=by
 unfold wO rV rQ
 dsimp only
 by_cases h:k=kind
 ·rw[if_neg (by simp [h]),if_neg (by decide),if_neg (by decide),GI hsm hP]
  simp [h]
 ·rw[if_pos (by simp [h]),zG (by decide)]
  simp [h]
omit hsm hP in
theorem aHM {kind:Int}(he:e≠0):wO (s,(at0,())) (k,(x,(f,(t,())))) a e c (ends,(en,())) kind false ids=some (at0,k,x,f,t,a,e,en):=by
 unfold wO
 dsimp only
 by_cases h:k=kind
 ·rw[if_neg (by simp [h]),if_neg (by decide),if_neg (by decide),IM he]
 ·rw[if_pos (by simp [h]),zH he]
theorem aHN {kind:Int}:wP (s,(((P:Nat):Int),())) (k,(x,(f,(((P:Nat):Int),())))) a 0 c (ends,(en,())) kind false ids=some (rV s P a P k x f P en (rQ (decide (k≠kind)|| !wB x) false false)):=by
 unfold wP rV rQ
 dsimp only
 rw[aBm,if_pos u1]
 by_cases h:k=kind∧wB x=true
 ·rw[if_neg (by simp [h.1,h.2,val]),if_neg (by decide),if_neg (by decide),GI hsm hP]
  simp [h.1,h.2]
 ·have hb:(!decide (k=kind)|| !val (some (wB x)))=true:=by
   by_cases h1:k=kind
   ·have h2:wB x=false:=by cases h2:wB x with|true=>exact absurd ⟨h1,h2⟩ h|false=>rfl
    simp [h2,val]
   ·simp [h1]
  have hb2:(decide (k≠kind)|| !wB x)=true:=by simpa[val] using hb
  rw[if_pos hb,zG (by decide),hb2]
  simp
omit hsm hP in
theorem aHO {kind:Int}(he:e≠0):wP (s,(at0,())) (k,(x,(f,(t,())))) a e c (ends,(en,())) kind false ids=some (at0,k,x,f,t,a,e,en):=by
 unfold wP
 dsimp only
 rw[aBm,if_pos u1]
 by_cases h:(!decide (k=kind)|| !val (some (wB x)))=true
 ·rw[if_pos h,zH he]
 ·rw[if_neg h,if_neg (by decide),if_neg (by decide),IM he]
theorem aHP {kind:Int}:wQ (s,(((P:Nat):Int),())) (k,(x,(f,(((P:Nat):Int),())))) a 0 c (ends,(en,())) kind false ids=some (rV s P a P k x f P en (rQ (decide (k≠kind)|| !decide (0≤sI x)) false false)):=by
 unfold wQ rV rQ
 dsimp only
 rw[(P0 x).1,if_pos u1]
 have hb2:(!decide (k=kind)|| !val (some (decide (0≤sI x))))=(decide (k≠kind)|| !decide (0≤sI x)):=by simp [val]
 rw[hb2]
 by_cases h:(decide (k≠kind)|| !decide (0≤sI x))=true
 ·rw[if_pos h,zG (by decide),if_pos h,if_neg (by decide)]
 ·rw[if_neg h,if_neg (by decide),if_neg (by decide),GI hsm hP,if_neg h]
  simp
omit hsm hP in
theorem aHQ {kind:Int}(he:e≠0):wQ (s,(at0,())) (k,(x,(f,(t,())))) a e c (ends,(en,())) kind false ids=some (at0,k,x,f,t,a,e,en):=by
 unfold wQ
 dsimp only
 rw[(P0 x).1,if_pos u1]
 by_cases h:(!decide (k=kind)|| !val (some (decide (0≤sI x))))=true
 ·rw[if_pos h,zH he]
 ·rw[if_neg h,if_neg (by decide),if_neg (by decide),IM he]
end
end Go.Proofs.YtfchbnahjcdiiaaGreatDoor
namespace Go.Proofs.YtfchbnahjcdiiaaGreatDoor
open Vc
set_option maxRecDepth 100000
theorem wD {b:Bool}{d m:Bool}(h:b=true):rQ b d m=3:=by unfold rQ;rw[if_pos h]
theorem IN {b:Bool}{d m:Bool}(h: ¬b=true) (h2:d=true):rQ b d m=9:=by unfold rQ;rw[if_neg h,if_pos h2]
theorem IP {b:Bool}{d m:Bool}(h: ¬b=true) (h2: ¬d=true) (h3:m=true):rQ b d m=6:=by unfold rQ;rw[if_neg h,if_neg h2,if_pos h3]
theorem A1 {b:Bool}{d m:Bool}(h: ¬b=true) (h2: ¬d=true) (h3: ¬m=true):rQ b d m=0:=by unfold rQ;rw[if_neg h,if_neg h2,if_neg h3]
section
variable {s:List UInt8}(hsm:s.length≤5000) {P:Nat}(hP:P≤s.length) {c:C4}{a e en at0 f t:Int}{k:Int}{x:List UInt8}{ends:List Int}{ids:List (List UInt8×Bool)}
 {b9 b10 b11:List UInt8}{b12 b18:List (List UInt8)}{b13:Int×(List qP×Unit)}{b14:Bool}{b21:List (List UInt8×Bool)}
include hsm hP
theorem aHR {kind:Int}{much:Bool}(hfl:pQ b13.2.1):wS (s,(((P:Nat):Int),())) (k,(x,(f,(((P:Nat):Int),())))) a 0 c (ends,(en,())) kind much ids b9 b10 b11 b12 b13 b14 b18 b21=
  some (rV s P a P k x f P en (rQ (decide (k≠kind)|| !qV x) (b13.2.1.any fun y=>decide (y.1=x)) much)):=by
 unfold wS GB rV
 dsimp only
 rw[OZ,if_pos u1]
 have hb2:(!decide (k=kind)|| !val (some (qV x)))=(decide (k≠kind)|| !qV x):=by simp [val]
 rw[hb2]
 by_cases h:(decide (k≠kind)|| !qV x)=true
 ·rw[if_pos h,zG (by decide),wD h,if_neg (by decide)]
 ·rw[if_neg h,aBu _ _ hfl,Option.bind_some,Option.bind_some,aBs]
  by_cases h2:(b13.2.1.any fun y=>decide (y.1=x))=true
  ·rw[if_pos h2,zG (by decide),IN h h2,if_neg (by decide)]
  ·rw[if_neg h2]
   by_cases h3:much=true
   ·rw[if_pos h3,zG (by decide),IP h h2 h3,if_neg (by decide)]
   ·rw[if_neg h3,GI hsm hP,A1 h h2 h3,if_pos rfl]
omit hsm hP in
theorem aMd {kind:Int}{much:Bool}(he:e≠0) (hfl:pQ b13.2.1):wS (s,(at0,())) (k,(x,(f,(t,())))) a e c (ends,(en,())) kind much ids b9 b10 b11 b12 b13 b14 b18 b21=some (at0,k,x,f,t,a,e,en):=by
 unfold wS GB
 dsimp only
 rw[OZ,if_pos u1]
 by_cases h:(!decide (k=kind)|| !val (some (qV x)))=true
 ·rw[if_pos h,zH he]
 ·rw[if_neg h,aBu _ _ hfl,Option.bind_some,Option.bind_some]
  by_cases h2:(IH b13.2.1 x).2=true
  ·rw[if_pos h2,zH he]
  ·rw[if_neg h2]
   by_cases h3:much=true
   ·rw[if_pos h3,zH he]
   ·rw[if_neg h3,IM he]
theorem aHS {kind:Int}{much:Bool}(hfl:pQ b18):wU (s,(((P:Nat):Int),())) (k,(x,(f,(((P:Nat):Int),())))) a 0 c (ends,(en,())) kind much ids b9 b10 b11 b12 b13 b14 b18 b21=
  some (rV s P a P k x f P en (rQ (decide (k≠kind)|| !qV x) (b18.any fun y=>decide (y=x)) much)):=by
 unfold wU GA rV
 dsimp only
 rw[OZ,if_pos u1]
 have hb2:(!decide (k=kind)|| !val (some (qV x)))=(decide (k≠kind)|| !qV x):=by simp [val]
 rw[hb2]
 by_cases h:(decide (k≠kind)|| !qV x)=true
 ·rw[if_pos h,zG (by decide),wD h,if_neg (by decide)]
 ·rw[if_neg h,aBq _ _ hfl,Option.bind_some,Option.bind_some]
  by_cases h2:(b18.any fun y=>decide (y=x))=true
  ·rw[if_pos h2,zG (by decide),IN h h2,if_neg (by decide)]
  ·rw[if_neg h2]
   by_cases h3:much=true
   ·rw[if_pos h3,zG (by decide),IP h h2 h3,if_neg (by decide)]
   ·rw[if_neg h3,GI hsm hP,A1 h h2 h3,if_pos rfl]
omit hsm hP in
theorem aMe {kind:Int}{much:Bool}(he:e≠0) (hfl:pQ b18):wU (s,(at0,())) (k,(x,(f,(t,())))) a e c (ends,(en,())) kind much ids b9 b10 b11 b12 b13 b14 b18 b21=some (at0,k,x,f,t,a,e,en):=by
 unfold wU GA
 dsimp only
 rw[OZ,if_pos u1]
 by_cases h:(!decide (k=kind)|| !val (some (qV x)))=true
 ·rw[if_pos h,zH he]
 ·rw[if_neg h,aBq _ _ hfl,Option.bind_some,Option.bind_some]
  by_cases h2:(b18.any fun y=>decide (y=x))=true
  ·rw[if_pos h2,zH he]
  ·rw[if_neg h2]
   by_cases h3:much=true
   ·rw[if_pos h3,zH he]
   ·rw[if_neg h3,IM he]
def ES (x:List UInt8):Bool:= !decide (x=[])&&decide ((x.length:Int)≤200)
theorem aHT {kind:Int}{much:Bool}:wW (s,(((P:Nat):Int),())) (k,(x,(f,(((P:Nat):Int),())))) a 0 c (ends,(en,())) kind much ids=
  some (rV s P a P k x f P en (rQ (decide (k≠kind)|| !ES x) (qD .str .bool ids x) much)):=by
 unfold wW rV
 dsimp only
 have hb2:(!decide (k=kind)|| !(!decide (x=[])&&decide ((x.length:Int)≤200)))=(decide (k≠kind)|| !ES x):=by simp [ES]
 rw[hb2]
 by_cases h:(decide (k≠kind)|| !ES x)=true
 ·rw[if_pos h,zG (by decide),wD h,if_neg (by decide)]
 ·rw[if_neg h]
  by_cases h2:qD .str .bool ids x=true
  ·rw[if_pos h2,zG (by decide),IN h h2,if_neg (by decide)]
  ·rw[if_neg h2]
   by_cases h3:much=true
   ·rw[if_pos h3,zG (by decide),IP h h2 h3,if_neg (by decide)]
   ·rw[if_neg h3,GI hsm hP,A1 h h2 h3,if_pos rfl]
omit hsm hP in
theorem aHU {kind:Int}{much:Bool}(he:e≠0):wW (s,(at0,())) (k,(x,(f,(t,())))) a e c (ends,(en,())) kind much ids=some (at0,k,x,f,t,a,e,en):=by
 unfold wW
 dsimp only
 by_cases h:(!decide (k=kind)|| !(!decide (x=[])&&decide ((x.length:Int)≤200)))=true
 ·rw[if_pos h,zH he]
 ·rw[if_neg h]
  by_cases h2:qD .str .bool ids x=true
  ·rw[if_pos h2,zH he]
  ·rw[if_neg h2]
   by_cases h3:much=true
   ·rw[if_pos h3,zH he]
   ·rw[if_neg h3,IM he]
theorem a3R:vI (s,(((P:Nat):Int),())) (k,(x,(f,(((P:Nat):Int),())))) a 0 c (ends,(en,())) b9 b10 b11 b12 b13 b14 ids b18 b21=
  some (rV s P a P k x f P en (if qD .str .bool b21 x=true then 9 else 0)):=by
 unfold vI rV
 dsimp only
 by_cases h:qD .str .bool b21 x=true
 ·rw[if_pos h,if_pos h,if_neg (by decide)]
  unfold q6 qE
  rw[PM,Option.bind_some]
  dsimp only
  rw[GH (by decide)]
  rfl
 ·rw[if_neg h,if_neg h,if_pos rfl]
  unfold qE
  rw[Option.bind_some]
  dsimp only
  rw[LN hsm hP]
  rfl
omit hsm hP in
theorem aMf (he:e≠0):vI (s,(at0,())) (k,(x,(f,(t,())))) a e c (ends,(en,())) b9 b10 b11 b12 b13 b14 ids b18 b21=some (at0,k,x,f,t,a,e,en):=by
 unfold vI
 dsimp only
 by_cases h:qD .str .bool b21 x=true
 ·rw[if_pos h]
  unfold q6 qE
  rw[aCg he,Option.bind_some]
  dsimp only
  rw[GH he]
  rfl
 ·rw[if_neg h]
  unfold qE
  rw[Option.bind_some]
  dsimp only
  rw[GH he]
  rfl
theorem PO:uX (s,(((P:Nat):Int),())) (k,(x,(f,(((P:Nat):Int),())))) a 0 c (ends,(en,())) ids=some (rV s P a P k x f P en (rQ (decide (k≠1)) false false)):=by
 unfold uX
 rw[aHL hsm hP]
 rfl
omit hsm hP in
theorem PP (he:e≠0):uX (s,(at0,())) (k,(x,(f,(t,())))) a e c (ends,(en,())) ids=some (at0,k,x,f,t,a,e,en):=by
 unfold uX
 rw[aHM he]
 rfl
end
end Go.Proofs.YtfchbnahjcdiiaaGreatDoor
namespace Go.Proofs.YtfchbnahjcdiiaaGreatDoor
open Vc
set_option maxRecDepth 100000
def ext {V:Type}(r:R8) (v:V):Int×Int×List UInt8×Int×Int×Int×Int×Int×V:=(r.1,r.2.1,r.2.2.1,r.2.2.2.1,r.2.2.2.2.1,r.2.2.2.2.2.1,r.2.2.2.2.2.2.1,r.2.2.2.2.2.2.2,v)
section
variable {s:List UInt8}(hsm:s.length≤5000) {P:Nat}(hP:P≤s.length) {c:C4}{a e en at0 f t:Int}{k:Int}{x:List UInt8}{ends:List Int}{ids:List (List UInt8×Bool)}
 {b9 b10 b11:List UInt8}{b12 b18:List (List UInt8)}{b13:Int×(List qP×Unit)}{b14:Bool}{b21:List (List UInt8×Bool)}
include hsm hP
theorem aHV (hl:b12.length≤1000) (h20:b12.length≠20):vJ (s,(((P:Nat):Int),())) (k,(x,(f,(((P:Nat):Int),())))) a 0 c (ends,(en,())) b9 b10 b11 b12 b13 b14 ids b18 b21=
  some (ext (rV s (nS s P) a (nS s P) (kS s P) (xS s P) (fS s P) (nS s P) P (rQ (decide (kS s P≠1)) false false)) (b12++[xS s P])):=by
 unfold vJ
 dsimp only
 rw[if_neg (by simp;omega)]
 unfold qE
 rw[Option.bind_some]
 dsimp only
 rw[LN hsm hP,Option.bind_some]
 dsimp only
 rw[PO hsm (rO hP).2,Option.bind_some,if_pos (by simp;omega)]
 rfl
omit hsm hP in
theorem aHW (h20:b12.length=20): ∃y,vJ (s,(at0,())) (k,(x,(f,(t,())))) a 0 c (ends,(en,())) b9 b10 b11 b12 b13 b14 ids b18 b21=some (ext (at0,k,x,f,t,f,6,en) (b12++[y])):=by
 refine⟨x,?_⟩
 unfold vJ
 dsimp only
 rw[if_pos (by simp;omega)]
 unfold qE q6
 rw[PM,Option.bind_some]
 dsimp only
 rw[GH (by decide),Option.bind_some]
 dsimp only
 rw[PP (by decide),Option.bind_some,if_pos (by simp;omega)]
 rfl
theorem aHX (hl:b13.2.1.length≤1000): ∃v,wX (s,(((P:Nat):Int),())) (k,(x,(f,(((P:Nat):Int),())))) a 0 c (ends,(en,())) b9 b10 b11 b12 b13 b14 ids b18 b21=
  some (ext (if rQ (decide (kS s P≠1)|| !qV (xS s P)) (b13.2.1.any fun y=>decide (y.1=xS s P)) (decide (b13.2.1.length=20))=0 then rV s (nS s (nS s P)) a (nS s (nS s P)) (kS s (nS s P)) (xS s (nS s P)) (fS s (nS s P)) (nS s (nS s P)) (nS s P) (rQ (decide (kS s (nS s P)≠1)) false false)
   else((nS s P:Int),kS s P,xS s P,(fS s P:Int),(nS s P:Int),(fS s P:Int),rQ (decide (kS s P≠1)|| !qV (xS s P)) (b13.2.1.any fun y=>decide (y.1=xS s P)) (decide (b13.2.1.length=20)),(P:Int))) (AT b13.2.1 (xS s P) v))∧
  (rQ (decide (kS s P≠1)|| !qV (xS s P)) (b13.2.1.any fun y=>decide (y.1=xS s P)) (decide (b13.2.1.length=20))=0→v=xS s (nS s P)):=by
 have hfit:pQ b13.2.1:=by unfold pQ;omega
 have hQ:=(rO hP).2
 have hR:=(rO hQ).2
 have hd:decide ((List.length b13.2.1:Int)=(20:Int))=decide (b13.2.1.length=20):=by
  rw[Bool.eq_iff_iff];simp;omega
 unfold wX
 rw[LN hsm hP,Option.bind_some]
 dsimp only
 rw[hd,aHR hsm hQ hfit,Option.bind_some]
 generalize rQ (decide (kS s P≠1)|| !qV (xS s P)) (b13.2.1.any fun y=>decide (y.1=xS s P)) (decide (b13.2.1.length=20))=code
 unfold rV
 by_cases hc:code=0
 ·refine⟨xS s (nS s P),?_,fun _=>rfl⟩
  rw[if_pos hc,if_pos hc]
  unfold rP
  dsimp only
  rw[PO hsm hR,Option.bind_some,aBx _ _ _ hfit]
  rfl
 ·refine⟨xS s P,?_,fun h=>absurd h hc⟩
  rw[if_neg hc,if_neg hc]
  dsimp only
  rw[PP hc,Option.bind_some,aBx _ _ _ hfit]
  rfl
theorem aHY: ∃v,xN (s,(((P:Nat):Int),())) (k,(x,(f,(((P:Nat):Int),())))) a 0 c (ends,(en,())) b9 b10 b11 b12 b13 b14 ids b18 b21=
  some (ext (if qD .str .bool b21 x=true then((P:Int),k,x,f,(P:Int),f,9,en) else rV s (nS s P) a (nS s P) (kS s P) (xS s P) (fS s P) (nS s P) P (rQ (decide (kS s P≠1)) false false)) v)∧(¬qD .str .bool b21 x=true→v=xS s P):=by
 have hQ:=(rO hP).2
 unfold xN
 rw[a3R hsm hP,Option.bind_some]
 unfold rV
 by_cases h:qD .str .bool b21 x=true
 ·refine⟨x,?_,fun h'=>absurd h h'⟩
  rw[if_pos h,if_neg (by decide),if_pos h]
  dsimp only
  rw[PP (by decide),Option.bind_some]
  rfl
 ·refine⟨xS s P,?_,fun _=>rfl⟩
  rw[if_neg h,if_pos rfl,if_neg h]
  unfold rP
  dsimp only
  rw[PO hsm hQ,Option.bind_some]
  rfl
theorem aHZ: ∃v,xO (s,(((P:Nat):Int),())) (k,(x,(f,(((P:Nat):Int),())))) a 0 c (ends,(en,())) b9 b10 b11 b12 b13 b14 ids b18 b21=
  some (ext (if qD .str .bool b21 x=true then((P:Int),k,x,f,(P:Int),f,9,en) else rV s (nS s P) a (nS s P) (kS s P) (xS s P) (fS s P) (nS s P) P (rQ (decide (kS s P≠1)) false false)) v)∧(¬qD .str .bool b21 x=true→v=xS s P):=by
 have hQ:=(rO hP).2
 unfold xO
 rw[a3R hsm hP,Option.bind_some]
 unfold rV
 by_cases h:qD .str .bool b21 x=true
 ·refine⟨x,?_,fun h'=>absurd h h'⟩
  rw[if_pos h,if_neg (by decide),if_pos h]
  dsimp only
  rw[PP (by decide),Option.bind_some]
  rfl
 ·refine⟨xS s P,?_,fun _=>rfl⟩
  rw[if_neg h,if_pos rfl,if_neg h]
  unfold rP
  dsimp only
  rw[PO hsm hQ,Option.bind_some]
  rfl
theorem aH0: ∃v,xM (s,(((P:Nat):Int),())) (k,(x,(f,(((P:Nat):Int),())))) a 0 c (ends,(en,())) b9 b10 b11 b12 b13 b14 ids b18 b21=
  some (ext (if qD .str .bool b21 x=true then((P:Int),k,x,f,(P:Int),f,9,en) else rV s (nS s P) a (nS s P) (kS s P) (xS s P) (fS s P) (nS s P) P (rQ (decide (kS s P≠2)|| !decide (0≤sI (xS s P))) false false)) v)∧(¬qD .str .bool b21 x=true→v=max 0 (sI (xS s P))):=by
 have hQ:=(rO hP).2
 unfold xM
 rw[a3R hsm hP,Option.bind_some]
 unfold rV
 by_cases h:qD .str .bool b21 x=true
 ·refine⟨max 0 (sI x),?_,fun h'=>absurd h h'⟩
  rw[if_pos h,if_neg (by decide),if_pos h]
  dsimp only
  rw[aHQ (by decide),Option.bind_some]
  show (yZ BT x).bind _=_
  rw[(P0 x).2]
  rfl
 ·refine⟨max 0 (sI (xS s P)),?_,fun _=>rfl⟩
  rw[if_neg h,if_pos rfl,if_neg h]
  unfold rP
  dsimp only
  rw[aHP hsm hQ,Option.bind_some]
  show (yZ BT (xS s P)).bind _=_
  rw[(P0 (xS s P)).2]
  rfl
theorem N9 (hl:b18.length≤1000):wA (s,(((P:Nat):Int),())) (k,(x,(f,(((P:Nat):Int),())))) a 0 c (ends,(en,())) b9 b10 b11 b12 b13 b14 ids b18 b21=
  some (ext (rV s (nS s P) a (nS s P) (kS s P) (xS s P) (fS s P) (nS s P) P (rQ (decide (kS s P≠2)|| !qV (xS s P)) (b18.any fun y=>decide (y=xS s P)) (decide (b18.length=20)))) (b18++[xS s P])):=by
 have hfit:pQ b18:=by unfold pQ;omega
 have hQ:=(rO hP).2
 have hd:decide ((((List.length b18):Nat):Int)=(20:Int))=decide (b18.length=20):=by
  rw[Bool.eq_iff_iff];simp;omega
 unfold wA
 rw[LN hsm hP,Option.bind_some]
 dsimp only
 rw[hd,aHS hsm hQ hfit,Option.bind_some,if_pos (by simp;omega)]
 rfl
end
end Go.Proofs.YtfchbnahjcdiiaaGreatDoor
namespace Go.Proofs.YtfchbnahjcdiiaaGreatDoor
open Vc
set_option maxRecDepth 100000
theorem AW {k j:Int}(h0:j≠0) (h4:j≠4):kR k=j↔k=j:=by
 unfold kR
 split
 ·rename_i h;subst h;constructor
  ·intro h;exact absurd h.symm h0
  ·intro h;exact absurd h.symm h4
 ·rfl
abbrev E7:=Int×Int×Int×Int×List UInt8×Int×Int
def LP (s:List UInt8) (P:Nat) (bad:Int) (ok:Bool):E7:=
 if ok=true then((nS s P:Int),bad,0,kR (kS s P),xS s P,(fS s P:Int),(nS s P:Int)) else((P:Int),(fS s P:Int),3,kR (kS s P),xS s P,(fS s P:Int),(nS s P:Int))
theorem A2 {s:List UInt8}{P:Nat}{bad:Int}{ok:Bool}(h:ok=true):LP s P bad ok=((nS s P:Int),bad,0,kR (kS s P),xS s P,(fS s P:Int),(nS s P:Int)):=if_pos h
theorem A3 {s:List UInt8}{P:Nat}{bad:Int}{ok:Bool}(h: ¬ok=true):LP s P bad ok=((P:Int),(fS s P:Int),3,kR (kS s P),xS s P,(fS s P:Int),(nS s P:Int)):=if_neg h
section
variable {s:List UInt8}(hsm:s.length≤5000) {P:Nat}(hP:P≤s.length) {c:C4}{bad e:Int}{ends:List Int}{kind:Int}{text:List UInt8}
include hsm hP
theorem LQ:zW s (P:Int)=some (kR (kS s P),xS s P,(fS s P:Int),(nS s P:Int)):=aHH hsm hP
omit hsm hP in
theorem wE {k:Int}{x:List UInt8}{f t:Int}{a:Int}{code:Int}:tP (s,(a,(bad,(0,(c,(ends,())))))) (k,(x,(f,(t,())))) code=(f,code):=by
 unfold tP
 exact if_pos (show decide ((0:Int)=0)=true from rfl)
theorem PQ:sU (s,((P:Int),(bad,(0,(c,(ends,())))))) kind text=some (LP s P bad (decide (kR (kS s P)=kind)&&(decide (text=[])||decide (xS s P=text)))):=by
 unfold sU LP
 dsimp only
 rw[LQ hsm hP,Option.bind_some]
 dsimp only
 rw[if_neg (show¬(!decide ((0:Int)=0))=true from by decide)]
 by_cases h:(decide (kR (kS s P)=kind)&&(decide (text=[])||decide (xS s P=text)))=true
 ·rw[if_pos h,if_neg]
  simp only[Bool.and_eq_true,Bool.or_eq_true,decide_eq_true_eq] at h
  simp only[Bool.or_eq_true,Bool.and_eq_true,Bool.not_eq_true',decide_eq_false_iff_not,not_or,not_and,Decidable.not_not]
  refine⟨h.1,fun ht=> ?_⟩
  rcases h.2 with h2|h2
  ·exact absurd h2 ht
  ·exact h2
 ·rw[if_neg h,if_pos]
  ·unfold q6
   rw[wE]
  ·simp only[Bool.and_eq_true,Bool.or_eq_true,decide_eq_true_eq,not_and,not_or] at h
   simp only[Bool.or_eq_true,Bool.and_eq_true,Bool.not_eq_true',decide_eq_false_iff_not]
   by_cases hk:kR (kS s P)=kind
   ·exact .inr (h hk)
   ·exact .inl hk
theorem a3S (he:e≠0):sU (s,((P:Int),(bad,(e,(c,(ends,())))))) kind text=some ((P:Int),bad,e,kR (kS s P),xS s P,(fS s P:Int),(nS s P:Int)):=by
 unfold sU
 dsimp only
 rw[LQ hsm hP,Option.bind_some]
 dsimp only
 rw[if_pos (by simpa using he)]
theorem DB {j:Int}(h0:j≠0) (h4:j≠4):sU (s,((P:Int),(bad,(0,(c,(ends,())))))) j []=some (LP s P bad (decide (kS s P=j))):=by
 rw[PQ hsm hP]
 congr 2
 rw[Bool.eq_iff_iff]
 simp [AW h0 h4]
def GJ (s:List UInt8) (P:Nat) (bad:Int) (fl:List qP):Int×Int×Int×List qP:=
 if kS s P≠1 then((P:Int),(fS s P:Int),3,fl)
 else if qV (xS s P)=false then((nS s P:Int),(fS s P:Int),3,fl)
 else if (fl.any fun y=>decide (y.1=xS s P))=true then((nS s P:Int),(fS s P:Int),9,fl)
 else if 20≤fl.length then((nS s P:Int),(fS s P:Int),6,fl)
 else if kS s (nS s P)≠1 then((nS s P:Int),(fS s (nS s P):Int),3,AT fl (xS s P) (xS s (nS s P)))
 else((nS s (nS s P):Int),bad,0,AT fl (xS s P) (xS s (nS s P)))
theorem LR:pQ (xS s P):=by
 have h1:=hsm
 have:(xS s P).length≤20000:=by
  unfold xS sC
  split
  ·dsimp only
   generalize hr:(s.drop P).drop (G (s.drop P)).1=r
   have hrl:r.length≤s.length:=by rw[←hr,List.length_drop,List.length_drop];omega
   unfold v7
   split
   ·simp
   ·rename_i b t
    simp only[List.length_cons] at hrl
    split
    ·simp
    ·split
     ·unfold wC
      cases he:sG 34 t with
      |none=>simp
      |some n=>
       dsimp only
       split
       ·simp
       ·have:=a3L 3 (t.take n)
        rw[List.length_take] at this
        show (zZ 3 (t.take n)).1.length≤_
        omega
     ·split
      ·show ((b::t).take _).length≤_
       rw[List.length_take];simp only[List.length_cons];omega
      ·simp
  ·simp
 unfold pQ;omega
theorem aH1 {i:pX}(hl:i.2.2.2.2.2.2.1.length≤1000):BQ (s,((P:Int),(bad,(0,(c,(ends,())))))) i=some (GJ s P bad i.2.2.2.2.2.2.1):=by
 have hfit:pQ i.2.2.2.2.2.2.1:=by unfold pQ;omega
 have hQ:=(rO hP).2
 unfold BQ GJ
 rw[DB hsm hP (by decide) (by decide),Option.bind_some]
 by_cases h1:kS s P=1
 ·rw[A2 (by simpa using h1),if_neg (show¬kS s P≠1 from by simpa using h1)]
  dsimp only
  rw[if_neg (show¬(!decide ((0:Int)=0))=true from by decide),aGW _ _ hfit,Option.bind_some,aBn _ (LR hsm hP),Option.bind_some]
  by_cases h2:qV (xS s P)=true
  ·rw[if_neg (show¬(!qV (xS s P))=true from by simp [h2]),if_neg (show¬qV (xS s P)=false from by simp [h2]),aBs]
   by_cases h3:(i.2.2.2.2.2.2.1.any fun y=>decide (y.1=xS s P))=true
   ·rw[if_pos h3,if_pos h3]
    unfold q6
    rw[wE]
   ·rw[if_neg h3,if_neg h3]
    by_cases h4:20≤i.2.2.2.2.2.2.1.length
    ·rw[if_pos (show decide ((20:Int)≤(i.2.2.2.2.2.2.1.length:Int))=true from by simp;omega),if_pos h4]
     unfold q6
     rw[wE]
    ·rw[if_neg (show¬decide ((20:Int)≤(i.2.2.2.2.2.2.1.length:Int))=true from by simp;omega),if_neg h4,DB hsm hQ (by decide) (by decide),Option.bind_some]
     by_cases h5:kS s (nS s P)=1
     ·rw[A2 (by simpa using h5),if_neg (show¬kS s (nS s P)≠1 from by simpa using h5)]
      dsimp only
      rw[aBz _ _ _ hfit,Option.bind_some]
     ·rw[A3 (by simpa using h5),if_pos h5]
      dsimp only
      rw[aBz _ _ _ hfit,Option.bind_some]
  ·have h2':qV (xS s P)=false:=by simpa using h2
   rw[if_pos (by simp [h2']),if_pos h2']
   unfold q6
   rw[wE]
 ·rw[A3 (by simpa using h1),if_pos h1]
  dsimp only
  rw[if_pos (show (!decide ((3:Int)=0))=true from by decide)]
def wF (l:List (List UInt8)) (x:List UInt8):Nat:=(l.findIdx? fun y=> !Op.bytesLess y x).getD l.length
def GK (l:List (List UInt8)) (x:List UInt8):List (List UInt8):=l.take (wF l x)++[x]++l.drop (wF l x)
omit hsm hP in
theorem aH2 (l:List (List UInt8)) (x:List UInt8):wF l x≤l.length:=by
 unfold wF
 cases h:l.findIdx? fun y=> !Op.bytesLess y x with
 |none=>exact Nat.le_refl _
 |some k=>exact Nat.le_of_lt (List.findIdx?_eq_some_iff_getElem.1 h).1
def GL (s:List UInt8) (P:Nat) (bad:Int) (fl:List (List UInt8)):Int×Int×Int×List (List UInt8):=
 if kS s P≠2 then((P:Int),(fS s P:Int),3,fl)
 else if qV (xS s P)=false then((nS s P:Int),(fS s P:Int),3,fl)
 else if (fl.any fun y=>decide (y=xS s P))=true then((nS s P:Int),(fS s P:Int),9,fl)
 else if 20≤fl.length then((nS s P:Int),(fS s P:Int),6,fl)
 else((nS s P:Int),bad,0,GK fl (xS s P))
theorem aH3 {i:pX}(hl:i.2.2.2.2.1.length≤1000):BR (s,((P:Int),(bad,(0,(c,(ends,())))))) i=some (GL s P bad i.2.2.2.2.1):=by
 have hfit:pQ i.2.2.2.2.1:=by unfold pQ;omega
 unfold BR GL
 rw[DB hsm hP (by decide) (by decide),Option.bind_some]
 by_cases h1:kS s P=2
 ·rw[A2 (by simpa using h1),if_neg (show¬kS s P≠2 from by simpa using h1)]
  dsimp only
  rw[if_neg (show¬(!decide ((0:Int)=0))=true from by decide),aBn _ (LR hsm hP),Option.bind_some]
  by_cases h2:qV (xS s P)=true
  ·rw[if_neg (show¬(!qV (xS s P))=true from by simp [h2]),if_neg (show¬qV (xS s P)=false from by simp [h2]),aGU _ _ hfit,Option.bind_some]
   by_cases h3:(i.2.2.2.2.1.any fun y=>decide (y=xS s P))=true
   ·rw[if_pos h3,if_pos h3]
    unfold q6
    rw[wE]
   ·rw[if_neg h3,if_neg h3]
    by_cases h4:20≤i.2.2.2.2.1.length
    ·rw[if_pos (show decide ((20:Int)≤(i.2.2.2.2.1.length:Int))=true from by simp;omega),if_pos h4]
     unfold q6
     rw[wE]
    ·rw[if_neg (show¬decide ((20:Int)≤(i.2.2.2.2.1.length:Int))=true from by simp;omega),if_neg h4]
     have hk:=aH2 i.2.2.2.2.1 (xS s P)
     have h2:=aBy (f:=L8 i ((nS s P:Int),bad,0,kR (kS s P),xS s P,(fS s P:Int),(nS s P:Int))) (l:=i.2.2.2.2.1) (fun y=>Op.bytesLess y (xS s P)) (fun j h=>by
      unfold L8
      rw[if_pos (fun _=>qK h),yD (t:= .str) h,sX h,Bool.true_and,if_pos (rS (by omega))]) (by
      unfold L8
      have hF:decide ((i.2.2.2.2.1.length:Int)<(i.2.2.2.2.1.length:Int))=false:=by simp
      rw[hF,if_pos (fun h=>by simp at h),Bool.false_and,if_neg (by decide)])
     have hins:(i.2.2.2.2.1.findIdx? fun y=> !Op.bytesLess y (xS s P)).getD i.2.2.2.2.1.length=wF i.2.2.2.2.1 (xS s P):=rfl
     rw[hins] at h2
     rw[h2]
     unfold qE
     rw[Option.bind_some,if_pos ⟨Int.le_refl _,by omega,by omega⟩,P2,BU,if_pos (by simp;omega),if_pos (by simp;omega),if_pos ⟨by omega,by omega,Int.le_refl _⟩,if_pos (by simp;omega)]
     simp [GK]
  ·have h2':qV (xS s P)=false:=by simpa using h2
   rw[if_pos (by simp [h2']),if_pos h2']
   unfold q6
   rw[wE]
 ·rw[A3 (by simpa using h1),if_pos h1]
  dsimp only
  rw[if_pos (show (!decide ((3:Int)=0))=true from by decide)]
end
end Go.Proofs.YtfchbnahjcdiiaaGreatDoor
namespace Go.Proofs.YtfchbnahjcdiiaaGreatDoor
open Vc
set_option maxRecDepth 100000
abbrev vO:List UInt8:=[99,111,109,109,101,110,116]
abbrev xT:List UInt8:=[102,105,101,108,100]
abbrev BX:List UInt8:=[102,108,97,103]
abbrev rX:List UInt8:=[115,111,117,114,99,101]
abbrev rY:List UInt8:=[116,97,114,103,101,116]
abbrev sD:List UInt8:=[115,116,97,116,101]
theorem GM {x w:List UInt8}(h:x=w):decide (x=w)=true:=decide_eq_true h
theorem v8 {x w:List UInt8}(h:x≠w): ¬decide (x=w)=true:=by simp [h]
section
variable {s:List UInt8}(hsm:s.length≤5000) {P:Nat}(hP:P≤s.length) {c:C4}{bad f t:Int}{ends:List Int}{k:Int}{x:List UInt8}
 {i1 sr tg:List UInt8}{cm fg:List (List UInt8)}{st:Int}{fd:List qP}{d1 d2 d3 hd:Bool}
include hsm hP
theorem aH4 (hx:x=vO) (h20:20≤cm.length):sN (s,((P:Int),(bad,(0,(c,(ends,())))))) (i1,(sr,(tg,(cm,(fg,(st,(fd,()))))))) (d1,(d2,(d3,()))) (k,(x,(f,(t,())))) hd=
  some ((P:Int),f,6,sr,tg,cm,fg,st,fd,d1,d2,d3):=by
 unfold sN
 dsimp only
 rw[if_pos (GM hx),if_pos (show decide ((20:Int)≤(cm.length:Int))=true from by simp;omega)]
 unfold q6
 rw[wE]
theorem aH5 (hx:x=vO) (h20: ¬20≤cm.length):sN (s,((P:Int),(bad,(0,(c,(ends,())))))) (i1,(sr,(tg,(cm,(fg,(st,(fd,()))))))) (d1,(d2,(d3,()))) (k,(x,(f,(t,())))) hd=
  some (if kS s P=1 then((nS s P:Int),bad,0,sr,tg,cm++[xS s P],fg,st,fd,d1,d2,d3) else((P:Int),(fS s P:Int),3,sr,tg,cm++[xS s P],fg,st,fd,d1,d2,d3)):=by
 unfold sN
 dsimp only
 rw[if_pos (GM hx),if_neg (show¬decide ((20:Int)≤(cm.length:Int))=true from by simp;omega)]
 rw[DB hsm hP (by decide) (by decide),Option.bind_some,if_pos (by simp;omega),if_pos (by simp;omega)]
 by_cases h1:kS s P=1
 ·rw[A2 (by simpa using h1),if_pos h1]
  rfl
 ·rw[A3 (by simpa using h1),if_neg h1]
  rfl
theorem aH6 (hx:x=xT) (hl:fd.length≤1000):sN (s,((P:Int),(bad,(0,(c,(ends,())))))) (i1,(sr,(tg,(cm,(fg,(st,(fd,()))))))) (d1,(d2,(d3,()))) (k,(x,(f,(t,())))) hd=
  some ((GJ s P bad fd).1,(GJ s P bad fd).2.1,(GJ s P bad fd).2.2.1,sr,tg,cm,fg,st,(GJ s P bad fd).2.2.2,d1,d2,d3):=by
 unfold sN
 dsimp only
 rw[if_neg (v8 (by rw[hx];decide)),if_pos (GM hx),aH1 hsm hP (i:=(i1,(sr,(tg,(cm,(fg,(st,(fd,())))))))) hl,Option.bind_some]
theorem aH7 (h1:x≠vO) (h2:x≠xT):sN (s,((P:Int),(bad,(0,(c,(ends,())))))) (i1,(sr,(tg,(cm,(fg,(st,(fd,()))))))) (d1,(d2,(d3,()))) (k,(x,(f,(t,())))) true=
  some ((P:Int),f,3,sr,tg,cm,fg,st,fd,d1,d2,d3):=by
 unfold sN
 dsimp only
 rw[if_neg (v8 h1),if_neg (v8 h2),if_pos rfl]
 unfold q6
 rw[wE]
theorem aH8 (hx:x=BX) (hl:fg.length≤1000):sN (s,((P:Int),(bad,(0,(c,(ends,())))))) (i1,(sr,(tg,(cm,(fg,(st,(fd,()))))))) (d1,(d2,(d3,()))) (k,(x,(f,(t,())))) false=
  some ((GL s P bad fg).1,(GL s P bad fg).2.1,(GL s P bad fg).2.2.1,sr,tg,cm,(GL s P bad fg).2.2.2,st,fd,d1,d2,d3):=by
 unfold sN
 dsimp only
 rw[if_neg (v8 (by rw[hx];decide)),if_neg (v8 (by rw[hx];decide)),if_neg Bool.false_ne_true,if_pos (GM hx),aH3 hsm hP (i:=(i1,(sr,(tg,(cm,(fg,(st,(fd,())))))))) hl,Option.bind_some]
theorem aH9:(if (decide (x=rX)&&d1)=true then some (decide (x=rX)&&d1) else if (decide (x=rY)&&d2)=true then some (decide (x=rY)&&d2) else some (decide (x=sD)&&d3))=some ((decide (x=rX)&&d1)||(decide (x=rY)&&d2)||(decide (x=sD)&&d3)):=by
 cases(decide (x=rX)&&d1)<;>cases(decide (x=rY)&&d2)<;>rfl
theorem PR (h1:x≠vO) (h2:x≠xT) (h3:x≠BX):sN (s,((P:Int),(bad,(0,(c,(ends,())))))) (i1,(sr,(tg,(cm,(fg,(st,(fd,()))))))) (d1,(d2,(d3,()))) (k,(x,(f,(t,())))) false=
  some (if ((decide (x=rX)&&d1)||(decide (x=rY)&&d2)||(decide (x=sD)&&d3))=true then((P:Int),f,9,sr,tg,cm,fg,st,fd,d1,d2,d3)
   else if x=rX then(if kS s P=1 then((nS s P:Int),bad,0,xS s P,tg,cm,fg,st,fd,true,d2,d3) else((P:Int),(fS s P:Int),3,xS s P,tg,cm,fg,st,fd,true,d2,d3))
   else if x=rY then(if kS s P=1 then((nS s P:Int),bad,0,sr,xS s P,cm,fg,st,fd,d1,true,d3) else((P:Int),(fS s P:Int),3,sr,xS s P,cm,fg,st,fd,d1,true,d3))
   else if x=sD then(if kS s P=2 then(if sI (xS s P)<0 then((nS s P:Int),(fS s P:Int),3,sr,tg,cm,fg,sI (xS s P),fd,d1,d2,true) else((nS s P:Int),bad,0,sr,tg,cm,fg,sI (xS s P),fd,d1,d2,true)) else((P:Int),(fS s P:Int),3,sr,tg,cm,fg,sI (xS s P),fd,d1,d2,true))
   else((P:Int),f,3,sr,tg,cm,fg,st,fd,d1,d2,d3)):=by
 unfold sN
 dsimp only
 rw[if_neg (v8 h1),if_neg (v8 h2),if_neg Bool.false_ne_true,if_neg (v8 h3)]
 unfold qE
 rw[show (if (decide (x=([115,111,117,114,99,101]:List UInt8))&&d1)=true then some (decide (x=([115,111,117,114,99,101]:List UInt8))&&d1) else if (decide (x=([116,97,114,103,101,116]:List UInt8))&&d2)=true then some (decide (x=([116,97,114,103,101,116]:List UInt8))&&d2) else some (decide (x=([115,116,97,116,101]:List UInt8))&&d3))=some ((decide (x=rX)&&d1)||(decide (x=rY)&&d2)||(decide (x=sD)&&d3)) from aH9 hsm hP,Option.bind_some]
 by_cases hd:((decide (x=rX)&&d1)||(decide (x=rY)&&d2)||(decide (x=sD)&&d3))=true
 ·rw[if_pos hd,if_pos hd]
  unfold q6
  rw[wE]
 ·rw[if_neg hd,if_neg hd]
  by_cases hs:x=rX
  ·rw[if_pos (GM hs),if_pos hs,DB hsm hP (by decide) (by decide),Option.bind_some]
   by_cases h1:kS s P=1
   ·rw[A2 (by simpa using h1),if_pos h1]
   ·rw[A3 (by simpa using h1),if_neg h1]
  ·rw[if_neg (v8 hs),if_neg hs]
   by_cases ht:x=rY
   ·rw[if_pos (GM ht),if_pos ht,DB hsm hP (by decide) (by decide),Option.bind_some]
    by_cases h1:kS s P=1
    ·rw[A2 (by simpa using h1),if_pos h1]
    ·rw[A3 (by simpa using h1),if_neg h1]
   ·rw[if_neg (v8 ht),if_neg ht]
    by_cases ha:x=sD
    ·rw[if_pos (GM ha),if_pos ha,DB hsm hP (by decide) (by decide),Option.bind_some]
     by_cases h1:kS s P=2
     ·rw[A2 (by simpa using h1),if_pos h1]
      dsimp only
      rw[aBr,if_pos u1]
      by_cases h6:sI (xS s P)<0
      ·rw[if_pos (show (decide ((0:Int)=0)&&decide (val (some (sI (xS s P)))<0))=true from decide_eq_true (p:=sI (xS s P)<0) h6),if_pos h6]
       unfold q6
       rw[wE]
       rfl
      ·rw[if_neg (show¬(decide ((0:Int)=0)&&decide (val (some (sI (xS s P)))<0))=true from fun h=>h6 (of_decide_eq_true (p:=sI (xS s P)<0) h)),if_neg h6]
       rfl
     ·rw[A3 (by simpa using h1),if_neg h1]
      dsimp only
      rw[aBr,if_pos u1,if_neg (show¬(decide ((3:Int)=0)&&decide (val (some (sI (xS s P)))<0))=true from by simp)]
      rfl
    ·rw[if_neg (v8 ha),if_neg ha]
     unfold q6
     rw[wE]
end
end Go.Proofs.YtfchbnahjcdiiaaGreatDoor
namespace Go.Proofs.YtfchbnahjcdiiaaGreatDoor
open Vc
set_option maxRecDepth 100000
section
variable {a b c:List UInt8}{d g:List (List UInt8)}{e:Int×(List qP×Unit)}{en:Bool}{m:List (List UInt8×Bool)}
theorem PS:uH .str .fn (uE a b c d e en g m) vO=true∧qD .str .fn (uE a b c d e en g m) vO=some 147:=by
 cases en<;>exact⟨rfl,rfl⟩
theorem aCh:uH .str .fn (uE a b c d e en g m) xT=true∧qD .str .fn (uE a b c d e en g m) xT=some 148:=by
 cases en<;>exact⟨rfl,rfl⟩
theorem aCi:uH .str .fn (uE a b c d e true g m) rX=true∧qD .str .fn (uE a b c d e true g m) rX=some 149:=⟨rfl,rfl⟩
theorem aCj:uH .str .fn (uE a b c d e true g m) rY=true∧qD .str .fn (uE a b c d e true g m) rY=some 150:=⟨rfl,rfl⟩
theorem aCk:uH .str .fn (uE a b c d e true g m) sD=true∧qD .str .fn (uE a b c d e true g m) sD=some 151:=⟨rfl,rfl⟩
theorem aCl:uH .str .fn (uE a b c d e true g m) BX=true∧qD .str .fn (uE a b c d e true g m) BX=some 152:=⟨rfl,rfl⟩
end
end Go.Proofs.YtfchbnahjcdiiaaGreatDoor
namespace Go.Proofs.YtfchbnahjcdiiaaGreatDoor
open Vc
set_option maxRecDepth 100000
theorem AX {v:Ty}(a b:List UInt8) (y:v.den): ∀l:List (List UInt8×v.den),qD .str v (rC .str v a y l) b=if b=a then y else qD .str v l b
 |[]=>by
  show (if decide (b=a)=true then y else v.zero)=if b=a then y else v.zero
  by_cases h:b=a<;>simp [h]
 |(x,z)::r=>by
  have ih:=AX a b y r
  show qD .str v (if decide (a=x)=true then(a,y)::r else(x,z)::rC .str v a y r) b=if b=a then y else(if decide (b=x)=true then z else qD .str v r b)
  by_cases h:a=x
  ·rw[if_pos (decide_eq_true h)]
   show (if decide (b=a)=true then y else qD .str v r b)=_
   by_cases hb:b=a
   ·rw[if_pos (decide_eq_true hb),if_pos hb]
   ·rw[if_neg (by simpa using hb),if_neg hb,if_neg (by rw[←h];simpa using hb)]
  ·rw[if_neg (by simpa using h)]
   show (if decide (b=x)=true then z else qD .str v (rC .str v a y r) b)=_
   rw[ih]
   by_cases hb:b=a
   ·rw[if_pos hb,if_pos hb,if_neg (by rw[hb];simpa using h)]
   ·rw[if_neg hb,if_neg hb]
section
variable {a b c:List UInt8}{d g:List (List UInt8)}{e:Int×(List qP×Unit)}{en:Bool}{m:List (List UInt8×Bool)}{x:List UInt8}
theorem aIa (h1:x≠vO) (h2:x≠xT):uH .str .fn (uE a b c d e false g m) x=false:=by
 show (if decide (x=vO)=true then true else if decide (x=xT)=true then true else false)=false
 rw[if_neg (v8 h1),if_neg (v8 h2)]
theorem aIb (h1:x≠vO) (h2:x≠xT) (h3:x≠rX) (h4:x≠rY) (h5:x≠sD) (h6:x≠BX):uH .str .fn (uE a b c d e true g m) x=false:=by
 show (if decide (x=vO)=true then true else if decide (x=xT)=true then true else if decide (x=rX)=true then true else if decide (x=rY)=true then true else if decide (x=sD)=true then true else if decide (x=BX)=true then true else false)=false
 rw[if_neg (v8 h1),if_neg (v8 h2),if_neg (v8 h3),if_neg (v8 h4),if_neg (v8 h5),if_neg (v8 h6)]
end
abbrev ET:=Int×Int×List UInt8×Int×Int×Int×Int×Int×List UInt8×List UInt8×List (List UInt8)×Int×List qP×List (List UInt8)×List (List UInt8×Bool)
def qI (r:R8) (sr tg:List UInt8) (cm:List (List UInt8)) (st:Int) (fd:List qP) (l:List (List UInt8)) (m:List (List UInt8×Bool)):ET:=
 (r.1,r.2.1,r.2.2.1,r.2.2.2.1,r.2.2.2.2.1,r.2.2.2.2.2.1,r.2.2.2.2.2.2.1,r.2.2.2.2.2.2.2,sr,tg,cm,st,fd,l,m)
section
variable {s:List UInt8}(hsm:s.length≤5000) {P:Nat}(hP:P≤s.length) {c:C4}{a en0 at0:Int}{ends:List Int}{ids:List (List UInt8×Bool)}
 {sr tg:List UInt8}{cm l:List (List UInt8)}{st:Int}{fd:List qP}{m:List (List UInt8×Bool)}{hd:Bool}
include hsm hP
omit hsm hP in
theorem EU (hk:kS s P=2):(decide ((0:Int)=0)&&decide (kS s P=2))=true:=by simp [hk]
theorem aIc (hk:kS s P=2) (hx:xS s P=vO) (hl:cm.length≤1000) (h20:cm.length≠20):tJ (s,(at0,())) c (ends,(en0,())) hd ids (qI (rP s P a) sr tg cm st fd l m)=
  some (.inl (qI (rV s (nS s (nS s P)) a (nS s (nS s P)) (kS s (nS s P)) (xS s (nS s P)) (fS s (nS s P)) (nS s (nS s P)) (nS s P) (rQ (decide (kS s (nS s P)≠1)) false false)) sr tg (cm++[xS s (nS s P)]) st fd l m)):=by
 have hQ:=(rO hP).2
 unfold tJ qI rP
 dsimp only
 rw[if_pos (EU hk),hx,if_neg (by rw[PS.1];decide)]
 unfold q6
 rw[PS.2]
 dsimp only
 rw[if_pos rfl,aHV hsm hQ hl h20,Option.bind_some]
 rfl
theorem aId (hk:kS s P=2) (hx:xS s P=vO) (h20:cm.length=20): ∃y,tJ (s,(at0,())) c (ends,(en0,())) hd ids (qI (rP s P a) sr tg cm st fd l m)=
  some (.inl (qI ((nS s P:Int),kS s P,vO,(fS s P:Int),(nS s P:Int),(fS s P:Int),6,(P:Int)) sr tg (cm++[y]) st fd l m)):=by
 have hQ:=(rO hP).2
 unfold tJ qI rP
 dsimp only
 rw[if_pos (EU hk),hx,if_neg (by rw[PS.1];decide)]
 unfold q6
 rw[PS.2]
 dsimp only
 rw[if_pos rfl]
 obtain⟨y,hy⟩:=aHW (c:=(c.1,(c.2.1,(c.2.2.1,(c.2.2.2.1,()))))) (a:=a) (en:=(P:Int)) (at0:=(nS s P:Int)) (f:=(fS s P:Int)) (t:=(nS s P:Int)) (k:=kS s P) (x:=vO) (ends:=ends) (ids:=ids) (b9:=[]) (b10:=sr) (b11:=tg) (b12:=cm) (b18:=l) (b13:=(st,(fd,()))) (b14:=hd) (b21:=m) h20
 rw[hy,Option.bind_some]
 exact⟨y,rfl⟩
theorem aIe (hk:kS s P=2) (hx:xS s P=xT) (hl:fd.length≤1000): ∃v,tJ (s,(at0,())) c (ends,(en0,())) hd ids (qI (rP s P a) sr tg cm st fd l m)=
  some (.inl (qI (if (rQ (decide (kS s (nS s P)≠1)|| !qV (xS s (nS s P))) (fd.any fun y=>decide (y.1=xS s (nS s P))) (decide (fd.length=20)))=0 then rV s (nS s (nS s (nS s P))) a (nS s (nS s (nS s P))) (kS s (nS s (nS s P))) (xS s (nS s (nS s P))) (fS s (nS s (nS s P))) (nS s (nS s (nS s P))) (nS s (nS s P)) (rQ (decide (kS s (nS s (nS s P))≠1)) false false)
   else((nS s (nS s P):Int),kS s (nS s P),xS s (nS s P),(fS s (nS s P):Int),(nS s (nS s P):Int),(fS s (nS s P):Int),(rQ (decide (kS s (nS s P)≠1)|| !qV (xS s (nS s P))) (fd.any fun y=>decide (y.1=xS s (nS s P))) (decide (fd.length=20))),((nS s P):Int))) sr tg cm st (AT fd (xS s (nS s P)) v) l m))∧
  ((rQ (decide (kS s (nS s P)≠1)|| !qV (xS s (nS s P))) (fd.any fun y=>decide (y.1=xS s (nS s P))) (decide (fd.length=20)))=0→v=xS s (nS s (nS s P))):=by
 have hQ:=(rO hP).2
 unfold tJ qI rP
 dsimp only
 rw[if_pos (EU hk),hx,if_neg (by rw[aCh.1];decide)]
 unfold q6
 rw[aCh.2]
 dsimp only
 rw[if_neg (by decide),if_pos rfl]
 obtain⟨v,hv,h2⟩:=aHX hsm hQ (c:=(c.1,(c.2.1,(c.2.2.1,(c.2.2.2.1,()))))) (a:=a) (en:=(P:Int)) (f:=(fS s P:Int)) (k:=kS s P) (x:=xT) (ends:=ends) (ids:=ids) (b9:=[]) (b10:=sr) (b11:=tg) (b12:=cm) (b18:=l) (b13:=(st,(fd,()))) (b14:=hd) (b21:=m) hl
 refine⟨v,?_,h2⟩
 rw[hv,Option.bind_some]
 rfl
theorem aIf (hk:kS s P=2) (hx:xS s P=rX): ∃v,tJ (s,(at0,())) c (ends,(en0,())) true ids (qI (rP s P a) sr tg cm st fd l m)=
  some (.inl (qI (if qD .str .bool m rX=true then(((nS s P):Int),kS s P,rX,(fS s P:Int),((nS s P):Int),(fS s P:Int),9,(P:Int)) else rV s (nS s (nS s P)) a (nS s (nS s P)) (kS s (nS s P)) (xS s (nS s P)) (fS s (nS s P)) (nS s (nS s P)) (nS s P) (rQ (decide (kS s (nS s P)≠1)) false false)) v tg cm st fd l (rC .str .bool rX true m)))∧
  (¬qD .str .bool m rX=true→v=xS s (nS s P)):=by
 have hQ:=(rO hP).2
 unfold tJ qI rP
 dsimp only
 rw[if_pos (EU hk),hx,if_neg (by rw[aCi.1];decide)]
 unfold q6
 rw[aCi.2]
 dsimp only
 rw[if_neg (by decide),if_neg (by decide),if_pos rfl]
 obtain⟨v,hv,h2⟩:=aHY hsm hQ (c:=(c.1,(c.2.1,(c.2.2.1,(c.2.2.2.1,()))))) (a:=a) (en:=(P:Int)) (f:=(fS s P:Int)) (k:=kS s P) (x:=rX) (ends:=ends) (ids:=ids) (b9:=[]) (b10:=sr) (b11:=tg) (b12:=cm) (b18:=l) (b13:=(st,(fd,()))) (b14:=true) (b21:=m)
 refine⟨v,?_,h2⟩
 rw[hv,Option.bind_some]
 rfl
theorem aIg (hk:kS s P=2) (hx:xS s P=rY): ∃v,tJ (s,(at0,())) c (ends,(en0,())) true ids (qI (rP s P a) sr tg cm st fd l m)=
  some (.inl (qI (if qD .str .bool m rY=true then(((nS s P):Int),kS s P,rY,(fS s P:Int),((nS s P):Int),(fS s P:Int),9,(P:Int)) else rV s (nS s (nS s P)) a (nS s (nS s P)) (kS s (nS s P)) (xS s (nS s P)) (fS s (nS s P)) (nS s (nS s P)) (nS s P) (rQ (decide (kS s (nS s P)≠1)) false false)) sr v cm st fd l (rC .str .bool rY true m)))∧
  (¬qD .str .bool m rY=true→v=xS s (nS s P)):=by
 have hQ:=(rO hP).2
 unfold tJ qI rP
 dsimp only
 rw[if_pos (EU hk),hx,if_neg (by rw[aCj.1];decide)]
 unfold q6
 rw[aCj.2]
 dsimp only
 rw[if_neg (by decide),if_neg (by decide),if_neg (by decide),if_pos rfl]
 obtain⟨v,hv,h2⟩:=aHZ hsm hQ (c:=(c.1,(c.2.1,(c.2.2.1,(c.2.2.2.1,()))))) (a:=a) (en:=(P:Int)) (f:=(fS s P:Int)) (k:=kS s P) (x:=rY) (ends:=ends) (ids:=ids) (b9:=[]) (b10:=sr) (b11:=tg) (b12:=cm) (b18:=l) (b13:=(st,(fd,()))) (b14:=true) (b21:=m)
 refine⟨v,?_,h2⟩
 rw[hv,Option.bind_some]
 rfl
theorem aIh (hk:kS s P=2) (hx:xS s P=sD): ∃v,tJ (s,(at0,())) c (ends,(en0,())) true ids (qI (rP s P a) sr tg cm st fd l m)=
  some (.inl (qI (if qD .str .bool m sD=true then(((nS s P):Int),kS s P,sD,(fS s P:Int),((nS s P):Int),(fS s P:Int),9,(P:Int)) else rV s (nS s (nS s P)) a (nS s (nS s P)) (kS s (nS s P)) (xS s (nS s P)) (fS s (nS s P)) (nS s (nS s P)) (nS s P) (rQ (decide (kS s (nS s P)≠2)|| !decide (0≤sI (xS s (nS s P)))) false false)) sr tg cm v fd l (rC .str .bool sD true m)))∧
  (¬qD .str .bool m sD=true→v=max 0 (sI (xS s (nS s P)))):=by
 have hQ:=(rO hP).2
 unfold tJ qI rP
 dsimp only
 rw[if_pos (EU hk),hx,if_neg (by rw[aCk.1];decide)]
 unfold q6
 rw[aCk.2]
 dsimp only
 rw[if_neg (by decide),if_neg (by decide),if_neg (by decide),if_neg (by decide),if_pos rfl]
 obtain⟨v,hv,h2⟩:=aH0 hsm hQ (c:=(c.1,(c.2.1,(c.2.2.1,(c.2.2.2.1,()))))) (a:=a) (en:=(P:Int)) (f:=(fS s P:Int)) (k:=kS s P) (x:=sD) (ends:=ends) (ids:=ids) (b9:=[]) (b10:=sr) (b11:=tg) (b12:=cm) (b18:=l) (b13:=(st,(fd,()))) (b14:=true) (b21:=m)
 refine⟨v,?_,h2⟩
 rw[hv,Option.bind_some]
 rfl
theorem aIi (hk:kS s P=2) (hx:xS s P=BX) (hl:l.length≤1000):tJ (s,(at0,())) c (ends,(en0,())) true ids (qI (rP s P a) sr tg cm st fd l m)=
  some (.inl (qI (rV s (nS s (nS s P)) a (nS s (nS s P)) (kS s (nS s P)) (xS s (nS s P)) (fS s (nS s P)) (nS s (nS s P)) (nS s P) (rQ (decide (kS s (nS s P)≠2)|| !qV (xS s (nS s P))) (l.any fun y=>decide (y=xS s (nS s P))) (decide (l.length=20)))) sr tg cm st fd (l++[xS s (nS s P)]) m)):=by
 have hQ:=(rO hP).2
 unfold tJ qI rP
 dsimp only
 rw[if_pos (EU hk),hx,if_neg (by rw[aCl.1];decide)]
 unfold q6
 rw[aCl.2]
 dsimp only
 rw[if_neg (by decide),if_neg (by decide),if_neg (by decide),if_neg (by decide),if_neg (by decide),if_pos rfl]
 rw[N9 hsm hQ hl,Option.bind_some]
 rfl
theorem aCm (hk:kS s P=2) (hx: ∀b c' d e g m',uH .str .fn (uE [] b c' d e hd g m') (xS s P)=false):tJ (s,(at0,())) c (ends,(en0,())) hd ids (qI (rP s P a) sr tg cm st fd l m)=
  some (.inr (qI ((nS s P:Int),kS s P,xS s P,(fS s P:Int),(nS s P:Int),(fS s P:Int),3,(P:Int)) sr tg cm st fd l m)):=by
 unfold tJ qI rP
 dsimp only
 rw[if_pos (EU hk),if_pos (by rw[hx];rfl)]
 unfold q6
 rw[PM]
theorem aIj (hk:kS s P≠2):tJ (s,(at0,())) c (ends,(en0,())) hd ids (qI (rP s P a) sr tg cm st fd l m)=
  some (.inr (qI (rP s P a) sr tg cm st fd l m)):=by
 unfold tJ qI rP
 dsimp only
 rw[if_neg (by simp [hk])]
omit hsm hP in
theorem a3T {r:R8}(he:r.2.2.2.2.2.2.1≠0):tJ (s,(at0,())) c (ends,(en0,())) hd ids (qI r sr tg cm st fd l m)=
  some (.inr (qI r sr tg cm st fd l m)):=by
 unfold tJ qI
 dsimp only
 rw[if_neg (by simp [he])]
end
end Go.Proofs.YtfchbnahjcdiiaaGreatDoor
namespace Go.Proofs.YtfchbnahjcdiiaaGreatDoor
open Vc
set_option maxRecDepth 100000
theorem a3U: ∀(x y:List UInt8),Op.bytesLess x y=decide (x<y)
 |[],[]=>by simp [Op.bytesLess]
 |_::_,[]=>by simp [Op.bytesLess]
 |[],_::_=>by simp [Op.bytesLess]
 |a::x,b::y=>by
  rw[Op.bytesLess,a3U x y]
  simp only[List.cons_lt_cons_iff]
  by_cases h1:a<b<;>by_cases h2:a=b<;>by_cases h3:x<y<;>simp [h1,h2,h3]
theorem aCn (l:List (List UInt8)):(tO l).Pairwise (·≤·):=by
 have:=List.pairwise_mergeSort (le:=fun x y:List UInt8=>decide (x≤y)) (fun a b c h1 h2=>decide_eq_true (List.le_trans (of_decide_eq_true h1) (of_decide_eq_true h2))) (fun a b=>by simpa using List.le_total a b) l
 exact this.imp (fun h=>of_decide_eq_true h)
theorem PT (l:List (List UInt8)):(tO l).Perm l:=List.mergeSort_perm l _
theorem a3V (l:List (List UInt8)):(tO l).length=l.length:=(PT l).length_eq
theorem aIk (l:List (List UInt8)) (p:List UInt8→Bool):(tO l).any p=l.any p:=(PT l).any_eq
theorem aIl (l:List (List UInt8)) (x:List UInt8):(GK l x).Perm (l++[x]):=by
 unfold GK
 have h:(l.take (wF l x)++l.drop (wF l x))=l:=List.take_append_drop _ _
 have h2:(l.take (wF l x)++[x]++l.drop (wF l x)).Perm (l.take (wF l x)++(l.drop (wF l x)++[x])):=by
  rw[List.append_assoc]
  exact List.Perm.append_left _ List.perm_append_comm
 have h3:l.take (wF l x)++(l.drop (wF l x)++[x])=l++[x]:=by rw[←List.append_assoc,h]
 rw[h3] at h2
 exact h2
theorem aIm {l:List (List UInt8)}(x:List UInt8) (h:l.Pairwise (·≤·)):(GK l x).Pairwise (·≤·):=by
 have ht: ∀y∈l.take (wF l x),y≤x:=by
  intro y hy
  obtain⟨j,hj,rfl⟩:=List.mem_iff_getElem.1 hy
  rw[List.length_take] at hj
  rw[List.getElem_take]
  have:Op.bytesLess l[j] x=true:=by
   have hk:wF l x=(l.findIdx? fun y=> !Op.bytesLess y x).getD l.length:=rfl
   cases hf:l.findIdx? fun y=> !Op.bytesLess y x with
   |none=>
    have:=List.findIdx?_eq_none_iff.1 hf l[j] (List.getElem_mem _)
    simpa using this
   |some n=>
    rw[hf] at hk
    have:=(List.findIdx?_eq_some_iff_getElem.1 hf).2.2 j (by rw[hk] at hj;simp only[Option.getD_some] at hj;omega)
    simpa using this
  rw[a3U] at this
  exact List.le_of_lt (of_decide_eq_true this)
 have hd: ∀y∈l.drop (wF l x),x≤y:=by
  intro y hy
  have hk:wF l x=(l.findIdx? fun y=> !Op.bytesLess y x).getD l.length:=rfl
  cases hf:l.findIdx? fun y=> !Op.bytesLess y x with
  |none=>
   rw[hf] at hk
   rw[hk] at hy
   simp at hy
  |some n=>
   rw[hf] at hk
   obtain⟨hn,h1,h2⟩:=List.findIdx?_eq_some_iff_getElem.1 hf
   have hx:x≤l[n]:=by
    rw[a3U] at h1
    simp only[Bool.not_eq_true',decide_eq_false_iff_not] at h1
    exact List.not_lt.1 h1
   rw[hk] at hy
   simp only[Option.getD_some] at hy
   rw[List.drop_eq_getElem_cons hn] at hy
   rcases List.mem_cons.1 hy with rfl|hy
   ·exact hx
   ·have hp:(l.drop n).Pairwise (·≤·):=h.sublist (List.drop_sublist _ _)
    rw[List.drop_eq_getElem_cons hn] at hp
    exact List.le_trans hx ((List.pairwise_cons.1 hp).1 y hy)
 unfold GK
 rw[List.append_assoc]
 refine List.pairwise_append.2 ⟨h.sublist (List.take_sublist _ _),List.pairwise_append.2 ⟨List.pairwise_singleton _ _,h.sublist (List.drop_sublist _ _),?_⟩,?_⟩
 ·intro a ha b hb
  rw[List.mem_singleton.1 ha];exact hd b hb
 ·intro a ha b hb
  have hax:=ht a ha
  rcases List.mem_append.1 hb with hb|hb
  ·rw[List.mem_singleton.1 hb];exact hax
  ·exact List.le_trans hax (hd b hb)
theorem aIn (l:List (List UInt8)) (x:List UInt8):GK (tO l) x=tO (l++[x]):=
 List.Perm.eq_of_pairwise (fun _ _ _ _ h1 h2=>List.le_antisymm h1 h2) (aIm x (aCn l)) (aCn _)
  ((aIl _ _).trans (((PT l).append_right _).trans (PT _).symm))
theorem aIo {b:UInt8}{t:List UInt8}(h:A0 b.toNat=true):0<vN (b::t):=by
 unfold vN
 have hw:yK b=true:=by
  unfold yK a3O
  simp [h]
 rw[List.findIdx?_cons,if_neg (by simp [hw])]
 cases t.findIdx? fun b=> !yK b with
 |none=>simp
 |some n=>simp
theorem aIp {l:List UInt8}(h0:(v7 l).1≠0) (h4:(v7 l).1≠4):0<(v7 l).2.2:=by
 cases l with
 |nil=>exact absurd rfl h4
 |cons b t=>
  by_cases h1:b=123∨b=125
  ·rw[PH h1];exact Nat.one_pos
  ·by_cases h2:b=34
   ·rw[PI h1 h2] at h0⊢
    unfold wC at*
    cases he:sG 34 t with
    |none=>rw[he] at h0;exact absurd rfl h0
    |some n=>
     rw[he] at h0
     dsimp only at*
     split
     ·rename_i hh;rw[if_pos hh] at h0;exact absurd rfl h0
     ·exact Nat.succ_pos _
   ·by_cases h3:A0 b.toNat=true
    ·rw[PJ h1 h2 h3];exact aIo h3
    ·rw[LK h1 h2 h3] at h0;exact absurd rfl h0
theorem A4 {s:List UInt8}{P:Nat}(h0:kS s P≠0) (h4:kS s P≠4):P<nS s P:=by
 unfold kS at*
 unfold nS
 unfold sC at*
 split
 ·rename_i hg
  rw[if_pos hg] at h0 h4
  have:=aIp h0 h4
  dsimp only
  omega
 ·rename_i hg
  rw[if_neg hg] at h0
  exact absurd rfl h0
end Go.Proofs.YtfchbnahjcdiiaaGreatDoor
namespace Go.Proofs.YtfchbnahjcdiiaaGreatDoor
open Vc
set_option maxRecDepth 100000
abbrev PU:=Int×Int×Int×List UInt8×List UInt8×List (List UInt8)×List (List UInt8)×Int×List qP×Bool×Bool×Bool
section
variable {s:List UInt8}(hsm:s.length≤5000) {P:Nat}(hP:P≤s.length) {c:C4}{bad bad0 at0 e0:Int}{ends:List Int}
 {i1 sr tg:List UInt8}{cm fg:List (List UInt8)}{st:Int}{fd:List qP}{i:pX}{d1 d2 d3 hd:Bool}
include hsm hP
theorem EV (hk:kS s P=2):zX (s,(at0,(bad0,(e0,(c,(ends,())))))) i hd ((P:Int),bad,0,sr,tg,cm,fg,st,fd,d1,d2,d3)=
  (sN (s,((nS s P:Int),(bad,(0,(c,(ends,())))))) (i.1,(sr,(tg,(cm,(fg,(st,(fd,()))))))) (d1,(d2,(d3,()))) (2,(xS s P,((fS s P:Int),((nS s P:Int),())))) hd).bind fun r=>
   some (.inl (r.1,r.2.1,r.2.2.1,r.2.2.2.1,r.2.2.2.2.1,r.2.2.2.2.2.1,r.2.2.2.2.2.2.1,r.2.2.2.2.2.2.2.1,r.2.2.2.2.2.2.2.2.1,r.2.2.2.2.2.2.2.2.2.1,r.2.2.2.2.2.2.2.2.2.2.1,r.2.2.2.2.2.2.2.2.2.2.2)):=by
 have hkR:kR (kS s P)=2:=(AW (by decide) (by decide)).2 hk
 unfold zX
 dsimp only
 rw[if_pos (show decide ((0:Int)=0)=true from rfl),LQ hsm hP,Option.bind_some]
 dsimp only
 rw[hkR,if_neg (show¬(decide ((2:Int)=3)&&decide (xS s P=[125]))=true from by simp),if_neg (show¬(!decide ((2:Int)=2))=true from by simp)]
theorem aIq (hk:kS s P=3) (hx:xS s P=[125]) (he:ends.length≤5000):zX (s,(at0,(bad0,(e0,(c,(ends,())))))) i hd ((P:Int),bad,0,sr,tg,cm,fg,st,fd,d1,d2,d3)=
  some (.inr (.inr ((nS s P:Int),bad,0,ends++[(nS s P:Int)],sr,tg,cm,fg,st,fd))):=by
 have hkR:kR (kS s P)=3:=(AW (by decide) (by decide)).2 hk
 unfold zX
 dsimp only
 rw[if_pos (show decide ((0:Int)=0)=true from rfl),LQ hsm hP,Option.bind_some]
 dsimp only
 rw[hkR,if_pos (show (decide ((3:Int)=3)&&decide (xS s P=[125]))=true from by simp [hx]),if_pos (by simp;omega),if_pos (by simp;omega)]
 rfl
theorem aIr (hk:kS s P≠2) (hx: ¬(kS s P=3∧xS s P=[125])):zX (s,(at0,(bad0,(e0,(c,(ends,())))))) i hd ((P:Int),bad,0,sr,tg,cm,fg,st,fd,d1,d2,d3)=
  some (.inr (.inr ((P:Int),(fS s P:Int),3,ends,sr,tg,cm,fg,st,fd))):=by
 have hk2:kR (kS s P)≠2:=fun h=>hk ((AW (by decide) (by decide)).1 h)
 have hk3: ¬(kR (kS s P)=3∧xS s P=[125]):=fun h=>hx ⟨(AW (by decide) (by decide)).1 h.1,h.2⟩
 unfold zX
 dsimp only
 rw[if_pos (show decide ((0:Int)=0)=true from rfl),LQ hsm hP,Option.bind_some]
 dsimp only
 rw[if_neg (show¬(decide (kR (kS s P)=3)&&decide (xS s P=[125]))=true from by simpa using hk3),if_pos (show (!decide (kR (kS s P)=2))=true from by simpa using hk2)]
 unfold q6
 rw[wE]
omit hsm hP in
theorem a3W {e p:Int}(he:e≠0):zX (s,(at0,(bad0,(e0,(c,(ends,())))))) i hd (p,bad,e,sr,tg,cm,fg,st,fd,d1,d2,d3)=
  some (.inr (.inl (p,bad,e,sr,tg,cm,fg,st,fd))):=by
 unfold zX
 dsimp only
 rw[if_neg (show¬decide (e=0)=true from by simpa using he)]
def Good (s:List UInt8) (P:Nat) (a bad:Int) (ps:ET⊕ET) (rs:PU):Prop:=
 ∃(P':Nat) (sr tg:List UInt8) (cm:List (List UInt8)) (st:Int) (fd:List qP) (l:List (List UInt8)) (m:List (List UInt8×Bool)),
  P<P'∧P'≤s.length∧ps= .inl (qI (rP s P' a) sr tg cm st fd l m)∧rs=((P':Int),bad,0,sr,tg,cm,tO l,st,fd,qD .str .bool m rX,qD .str .bool m rY,qD .str .bool m sD)∧
  cm.length≤20∧fd.length≤20∧l.length≤20
def Bad (ps:ET⊕ET) (rs:PU):Prop:=
 ∃(r:R8) (sr tg:List UInt8) (cm:List (List UInt8)) (st:Int) (fd:List qP) (l:List (List UInt8)) (m:List (List UInt8×Bool)),
  r.2.2.2.2.2.2.1≠0∧(ps= .inl (qI r sr tg cm st fd l m)∨ps= .inr (qI r sr tg cm st fd l m))∧l.length≤21∧rs.2.1=r.2.2.2.2.2.1∧rs.2.2.1=r.2.2.2.2.2.2.1
end
end Go.Proofs.YtfchbnahjcdiiaaGreatDoor
namespace Go.Proofs.YtfchbnahjcdiiaaGreatDoor
open Vc
set_option maxRecDepth 100000
theorem aIs (d1 d2 d3:Bool):((decide (rX=rX)&&d1)||(decide (rX=rY)&&d2)||(decide (rX=sD)&&d3))=d1:=by cases d1<;>cases d2<;>cases d3<;>rfl
theorem aIt (d1 d2 d3:Bool):((decide (rY=rX)&&d1)||(decide (rY=rY)&&d2)||(decide (rY=sD)&&d3))=d2:=by cases d1<;>cases d2<;>cases d3<;>rfl
theorem aIu (d1 d2 d3:Bool):((decide (sD=rX)&&d1)||(decide (sD=rY)&&d2)||(decide (sD=sD)&&d3))=d3:=by cases d1<;>cases d2<;>cases d3<;>rfl
theorem A5 {s:List UInt8}{P:Nat}{a at0 k:Int}{x:List UInt8}{f t en code:Int}(h:code=0):rV s P a at0 k x f t en code=rP s P a:=if_pos h
theorem uM {s:List UInt8}{P:Nat}{a at0 k:Int}{x:List UInt8}{f t en code:Int}(h:code≠0):rV s P a at0 k x f t en code=(at0,k,x,f,t,f,code,en):=if_neg h
theorem vP {r:R8}{sr tg:List UInt8}{cm:List (List UInt8)}{st:Int}{fd:List qP}{l:List (List UInt8)}{m:List (List UInt8×Bool)}{rs:PU}{f e:Int}
  (h1:r.2.2.2.2.2.1=f) (h2:r.2.2.2.2.2.2.1=e) (he:e≠0) (hl:l.length≤21) (h3:rs.2.1=f) (h4:rs.2.2.1=e):Bad (.inl (qI r sr tg cm st fd l m)) rs:=
 ⟨r,sr,tg,cm,st,fd,l,m,by rw[h2];exact he,.inl rfl,hl,h3.trans h1.symm,h4.trans h2.symm⟩
theorem aCo {r:R8}{sr tg:List UInt8}{cm:List (List UInt8)}{st:Int}{fd:List qP}{l:List (List UInt8)}{m:List (List UInt8×Bool)}{rs:PU}{f e:Int}
  (h1:r.2.2.2.2.2.1=f) (h2:r.2.2.2.2.2.2.1=e) (he:e≠0) (hl:l.length≤21) (h3:rs.2.1=f) (h4:rs.2.2.1=e):Bad (.inr (qI r sr tg cm st fd l m)) rs:=
 ⟨r,sr,tg,cm,st,fd,l,m,by rw[h2];exact he,.inr rfl,hl,h3.trans h1.symm,h4.trans h2.symm⟩
section
variable {s:List UInt8}(hsm:s.length≤5000) {P:Nat}(hP:P≤s.length) {c c2:C4}{a en0 at0 at1 bad bad0 e0:Int}{ends ends2:List Int}{ids:List (List UInt8×Bool)}
 {sr tg:List UInt8}{cm l:List (List UInt8)}{st:Int}{fd:List qP}{m:List (List UInt8×Bool)}{hd:Bool}{i:pX}
include hsm hP
def wG (s:List UInt8) (P:Nat) (c c2:C4) (a en0 at0 at1 bad bad0 e0:Int) (ends ends2:List Int) (ids:List (List UInt8×Bool)) (sr tg:List UInt8) (cm l:List (List UInt8)) (st:Int) (fd:List qP) (m:List (List UInt8×Bool)) (hd:Bool) (i:pX):Prop:=
 ∃ps rs,tJ (s,(at0,())) c (ends,(en0,())) hd ids (qI (rP s P a) sr tg cm st fd l m)=some ps∧
  zX (s,(at1,(bad0,(e0,(c2,(ends2,())))))) i (!hd) ((P:Int),bad,0,sr,tg,cm,tO l,st,fd,qD .str .bool m rX,qD .str .bool m rY,qD .str .bool m sD)=some (.inl rs)∧
  (Good s P a bad ps rs∨Bad ps rs)
theorem aIv (hk:kS s P=2) (hx:xS s P=vO) (h1:cm.length≤20) (h2:fd.length≤20) (h3:l.length≤20):wG s P c c2 a en0 at0 at1 bad bad0 e0 ends ends2 ids sr tg cm l st fd m hd i:=by
 have hQ:=(rO hP).2
 have hPQ:P<nS s P:=A4 (by omega) (by omega)
 have hR:=rO hQ
 unfold wG
 rw[EV hsm hP hk]
 by_cases h20:cm.length=20
 ·obtain⟨y,hy⟩:=aId (c:=c) (a:=a) (en0:=en0) (at0:=at0) (ends:=ends) (ids:=ids) (sr:=sr) (tg:=tg) (l:=l) (st:=st) (fd:=fd) (m:=m) (hd:=hd) hsm hP hk hx h20
  rw[hy,aH4 hsm hQ hx (by omega),Option.bind_some]
  exact⟨_,_,rfl,rfl,.inr (vP rfl rfl (show (6:Int)≠0 from by decide) (by omega) rfl rfl)⟩
 ·rw[aIc hsm hP hk hx (by omega) h20,aH5 hsm hQ hx (by omega),Option.bind_some]
  by_cases hk1:kS s (nS s P)=1
  ·rw[if_pos hk1,A5 (A1 (by simp [hk1]) (by simp) (by simp))]
   exact⟨_,_,rfl,rfl,.inl ⟨nS s (nS s P),sr,tg,cm++[xS s (nS s P)],st,fd,l,m,by omega,hR.2,rfl,rfl,by simp;omega,h2,h3⟩⟩
  ·rw[if_neg hk1,wD (by simp [hk1]),uM (by decide)]
   exact⟨_,_,rfl,rfl,.inr (vP rfl rfl (show (3:Int)≠0 from by decide) (by omega) rfl rfl)⟩
theorem aIw (hk:kS s P=2) (hx:xS s P=rX) (h1:cm.length≤20) (h2:fd.length≤20) (h3:l.length≤20):wG s P c c2 a en0 at0 at1 bad bad0 e0 ends ends2 ids sr tg cm l st fd m true i:=by
 have hQ:=(rO hP).2
 have hPQ:P<nS s P:=A4 (by omega) (by omega)
 have hR:=rO hQ
 unfold wG
 rw[EV hsm hP hk,show (!true)=false from rfl,hx,PR hsm hQ (by decide) (by decide) (by decide),aIs,Option.bind_some]
 obtain⟨v,hv,h5⟩:=aIf (c:=c) (a:=a) (en0:=en0) (at0:=at0) (ends:=ends) (ids:=ids) (sr:=sr) (tg:=tg) (cm:=cm) (l:=l) (st:=st) (fd:=fd) (m:=m) hsm hP hk hx
 rw[hv]
 by_cases hd1:qD .str .bool m rX=true
 ·rw[if_pos hd1,if_pos hd1]
  exact⟨_,_,rfl,rfl,.inr (vP rfl rfl (show (9:Int)≠0 from by decide) (by omega) rfl rfl)⟩
 ·rw[if_neg hd1,if_neg hd1,if_pos rfl,h5 hd1]
  by_cases hk1:kS s (nS s P)=1
  ·rw[if_pos hk1,A5 (A1 (by simp [hk1]) (by simp) (by simp))]
   refine⟨_,_,rfl,rfl,.inl ⟨nS s (nS s P),xS s (nS s P),tg,cm,st,fd,l,rC .str .bool rX true m,by omega,hR.2,rfl,?_,h1,h2,h3⟩⟩
   rw[AX,AX,AX,if_pos rfl,if_neg (by decide),if_neg (by decide)]
  ·rw[if_neg hk1,wD (by simp [hk1]),uM (by decide)]
   exact⟨_,_,rfl,rfl,.inr (vP rfl rfl (show (3:Int)≠0 from by decide) (by omega) rfl rfl)⟩
theorem aIx (hk:kS s P=2) (hx:xS s P=rY) (h1:cm.length≤20) (h2:fd.length≤20) (h3:l.length≤20):wG s P c c2 a en0 at0 at1 bad bad0 e0 ends ends2 ids sr tg cm l st fd m true i:=by
 have hQ:=(rO hP).2
 have hPQ:P<nS s P:=A4 (by omega) (by omega)
 have hR:=rO hQ
 unfold wG
 rw[EV hsm hP hk,show (!true)=false from rfl,hx,PR hsm hQ (by decide) (by decide) (by decide),aIt,Option.bind_some]
 obtain⟨v,hv,h5⟩:=aIg (c:=c) (a:=a) (en0:=en0) (at0:=at0) (ends:=ends) (ids:=ids) (sr:=sr) (tg:=tg) (cm:=cm) (l:=l) (st:=st) (fd:=fd) (m:=m) hsm hP hk hx
 rw[hv]
 by_cases hd1:qD .str .bool m rY=true
 ·rw[if_pos hd1,if_pos hd1]
  exact⟨_,_,rfl,rfl,.inr (vP rfl rfl (show (9:Int)≠0 from by decide) (by omega) rfl rfl)⟩
 ·rw[if_neg hd1,if_neg hd1,if_neg (by decide),if_pos rfl,h5 hd1]
  by_cases hk1:kS s (nS s P)=1
  ·rw[if_pos hk1,A5 (A1 (by simp [hk1]) (by simp) (by simp))]
   refine⟨_,_,rfl,rfl,.inl ⟨nS s (nS s P),sr,xS s (nS s P),cm,st,fd,l,rC .str .bool rY true m,by omega,hR.2,rfl,?_,h1,h2,h3⟩⟩
   rw[AX,AX,AX,if_neg (by decide),if_pos rfl,if_neg (by decide)]
  ·rw[if_neg hk1,wD (by simp [hk1]),uM (by decide)]
   exact⟨_,_,rfl,rfl,.inr (vP rfl rfl (show (3:Int)≠0 from by decide) (by omega) rfl rfl)⟩
theorem aIy (hk:kS s P=2) (hx:xS s P=sD) (h1:cm.length≤20) (h2:fd.length≤20) (h3:l.length≤20):wG s P c c2 a en0 at0 at1 bad bad0 e0 ends ends2 ids sr tg cm l st fd m true i:=by
 have hQ:=(rO hP).2
 have hPQ:P<nS s P:=A4 (by omega) (by omega)
 have hR:=rO hQ
 unfold wG
 rw[EV hsm hP hk,show (!true)=false from rfl,hx,PR hsm hQ (by decide) (by decide) (by decide),aIu,Option.bind_some]
 obtain⟨v,hv,h5⟩:=aIh (c:=c) (a:=a) (en0:=en0) (at0:=at0) (ends:=ends) (ids:=ids) (sr:=sr) (tg:=tg) (cm:=cm) (l:=l) (st:=st) (fd:=fd) (m:=m) hsm hP hk hx
 rw[hv]
 by_cases hd1:qD .str .bool m sD=true
 ·rw[if_pos hd1,if_pos hd1]
  exact⟨_,_,rfl,rfl,.inr (vP rfl rfl (show (9:Int)≠0 from by decide) (by omega) rfl rfl)⟩
 ·rw[if_neg hd1,if_neg hd1,if_neg (by decide),if_neg (by decide),if_pos rfl,h5 hd1]
  by_cases hk1:kS s (nS s P)=2
  ·rw[if_pos hk1]
   by_cases h6:sI (xS s (nS s P))<0
   ·rw[if_pos h6,wD (by simp [hk1];omega),uM (by decide)]
    exact⟨_,_,rfl,rfl,.inr (vP rfl rfl (show (3:Int)≠0 from by decide) (by omega) rfl rfl)⟩
   ·rw[if_neg h6,A5 (A1 (by simp [hk1];omega) (by simp) (by simp)),show max 0 (sI (xS s (nS s P)))=sI (xS s (nS s P)) by omega]
    refine⟨_,_,rfl,rfl,.inl ⟨nS s (nS s P),sr,tg,cm,sI (xS s (nS s P)),fd,l,rC .str .bool sD true m,by omega,hR.2,rfl,?_,h1,h2,h3⟩⟩
    rw[AX,AX,AX,if_neg (by decide),if_neg (by decide),if_pos rfl]
  ·rw[if_neg hk1,wD (by simp [hk1]),uM (by decide)]
   exact⟨_,_,rfl,rfl,.inr (vP rfl rfl (show (3:Int)≠0 from by decide) (by omega) rfl rfl)⟩
theorem aIz (hk:kS s P=2) (hx:xS s P=xT) (h1:cm.length≤20) (h2:fd.length≤20) (h3:l.length≤20):wG s P c c2 a en0 at0 at1 bad bad0 e0 ends ends2 ids sr tg cm l st fd m hd i:=by
 have hQ:=(rO hP).2
 have hPQ:P<nS s P:=A4 (by omega) (by omega)
 have hR:=rO hQ
 have hR2:=rO hR.2
 unfold wG
 rw[EV hsm hP hk,aH6 hsm hQ hx (by omega),Option.bind_some]
 obtain⟨v,hv,h5⟩:=aIe (c:=c) (a:=a) (en0:=en0) (at0:=at0) (ends:=ends) (ids:=ids) (sr:=sr) (tg:=tg) (cm:=cm) (l:=l) (st:=st) (fd:=fd) (m:=m) (hd:=hd) hsm hP hk hx (by omega)
 rw[hv]
 unfold GJ
 by_cases hk1:kS s (nS s P)=1
 ·rw[if_neg (show¬kS s (nS s P)≠1 from fun h=>h hk1)]
  by_cases hn:qV (xS s (nS s P))=true
  ·rw[if_neg (show¬qV (xS s (nS s P))=false from by simp [hn])]
   have hb: ¬(decide (kS s (nS s P)≠1)|| !qV (xS s (nS s P)))=true:=by simp [hk1,hn]
   by_cases hdup:(fd.any fun y=>decide (y.1=xS s (nS s P)))=true
   ·rw[if_pos hdup,IN hb hdup,if_neg (show¬(9:Int)=0 from by decide)]
    exact⟨_,_,rfl,rfl,.inr (vP rfl rfl (show (9:Int)≠0 from by decide) (by omega) rfl rfl)⟩
   ·rw[if_neg hdup]
    by_cases h20:fd.length=20
    ·rw[if_pos (show 20≤fd.length by omega),IP hb hdup (decide_eq_true h20),if_neg (show¬(6:Int)=0 from by decide)]
     exact⟨_,_,rfl,rfl,.inr (vP rfl rfl (show (6:Int)≠0 from by decide) (by omega) rfl rfl)⟩
    ·have hc:=A1 hb hdup (show¬decide (fd.length=20)=true from by simp [h20])
     rw[if_neg (show¬20≤fd.length by omega),h5 hc,hc,if_pos rfl]
     by_cases hk2:kS s (nS s (nS s P))=1
     ·rw[if_neg (show¬kS s (nS s (nS s P))≠1 from fun h=>h hk2),A5 (A1 (by simp [hk2]) (by simp) (by simp))]
      have hl:=aGX fd (xS s (nS s P)) (xS s (nS s (nS s P)))
      exact⟨_,_,rfl,rfl,.inl ⟨nS s (nS s (nS s P)),sr,tg,cm,st,AT fd (xS s (nS s P)) (xS s (nS s (nS s P))),l,m,by omega,hR2.2,rfl,rfl,h1,by omega,h3⟩⟩
     ·rw[if_pos hk2,wD (by simp [hk2]),uM (by decide)]
      exact⟨_,_,rfl,rfl,.inr (vP rfl rfl (show (3:Int)≠0 from by decide) (by omega) rfl rfl)⟩
  ·have hn':qV (xS s (nS s P))=false:=by simpa using hn
   rw[if_pos hn',wD (by simp [hn']),if_neg (show¬(3:Int)=0 from by decide)]
   exact⟨_,_,rfl,rfl,.inr (vP rfl rfl (show (3:Int)≠0 from by decide) (by omega) rfl rfl)⟩
 ·rw[if_pos hk1,wD (by simp [hk1]),if_neg (show¬(3:Int)=0 from by decide)]
  exact⟨_,_,rfl,rfl,.inr (vP rfl rfl (show (3:Int)≠0 from by decide) (by omega) rfl rfl)⟩
theorem aIA (hk:kS s P=2) (hx:xS s P=BX) (h1:cm.length≤20) (h2:fd.length≤20) (h3:l.length≤20):wG s P c c2 a en0 at0 at1 bad bad0 e0 ends ends2 ids sr tg cm l st fd m true i:=by
 have hQ:=(rO hP).2
 have hPQ:P<nS s P:=A4 (by omega) (by omega)
 have hR:=rO hQ
 have hsl:=a3V l
 unfold wG
 rw[EV hsm hP hk,show (!true)=false from rfl,aH8 hsm hQ hx (by omega),Option.bind_some,aIi hsm hP hk hx (by omega)]
 unfold GL
 rw[aIk,hsl,aIn]
 by_cases hk1:kS s (nS s P)=2
 ·rw[if_neg (show¬kS s (nS s P)≠2 from fun h=>h hk1)]
  by_cases hn:qV (xS s (nS s P))=true
  ·rw[if_neg (show¬qV (xS s (nS s P))=false from by simp [hn])]
   have hb: ¬(decide (kS s (nS s P)≠2)|| !qV (xS s (nS s P)))=true:=by simp [hk1,hn]
   by_cases hdup:(l.any fun y=>decide (y=xS s (nS s P)))=true
   ·rw[if_pos hdup,IN hb hdup,uM (by decide)]
    exact⟨_,_,rfl,rfl,.inr (vP rfl rfl (show (9:Int)≠0 from by decide) (by simp;omega) rfl rfl)⟩
   ·rw[if_neg hdup]
    by_cases h20:l.length=20
    ·rw[if_pos (show 20≤l.length by omega),IP hb hdup (decide_eq_true h20),uM (by decide)]
     exact⟨_,_,rfl,rfl,.inr (vP rfl rfl (show (6:Int)≠0 from by decide) (by simp;omega) rfl rfl)⟩
    ·rw[if_neg (show¬20≤l.length by omega),A5 (A1 hb hdup (show¬decide (l.length=20)=true from by simp [h20]))]
     exact⟨_,_,rfl,rfl,.inl ⟨nS s (nS s P),sr,tg,cm,st,fd,l++[xS s (nS s P)],m,by omega,hR.2,rfl,rfl,h1,h2,by simp;omega⟩⟩
  ·have hn':qV (xS s (nS s P))=false:=by simpa using hn
   rw[if_pos hn',wD (by simp [hn']),uM (by decide)]
   exact⟨_,_,rfl,rfl,.inr (vP rfl rfl (show (3:Int)≠0 from by decide) (by simp;omega) rfl rfl)⟩
 ·rw[if_pos hk1,wD (by simp [hk1]),uM (by decide)]
  exact⟨_,_,rfl,rfl,.inr (vP rfl rfl (show (3:Int)≠0 from by decide) (by simp;omega) rfl rfl)⟩
theorem aIB (hk:kS s P=2) (hx:xS s P≠vO) (hx2:xS s P≠xT) (h3:l.length≤20):wG s P c c2 a en0 at0 at1 bad bad0 e0 ends ends2 ids sr tg cm l st fd m false i:=by
 have hQ:=(rO hP).2
 unfold wG
 rw[EV hsm hP hk,show (!false)=true from rfl,aH7 hsm hQ hx hx2,Option.bind_some,aCm hsm hP hk (fun _ _ _ _ _ _=>aIa hx hx2)]
 exact⟨_,_,rfl,rfl,.inr (aCo rfl rfl (show (3:Int)≠0 from by decide) (by omega) rfl rfl)⟩
theorem aIC (hk:kS s P=2) (hx:xS s P≠vO) (hx2:xS s P≠xT) (hx3:xS s P≠rX) (hx4:xS s P≠rY) (hx5:xS s P≠sD) (hx6:xS s P≠BX) (h3:l.length≤20):wG s P c c2 a en0 at0 at1 bad bad0 e0 ends ends2 ids sr tg cm l st fd m true i:=by
 have hQ:=(rO hP).2
 unfold wG
 rw[EV hsm hP hk,show (!true)=false from rfl,PR hsm hQ hx hx2 hx6,Option.bind_some,aCm hsm hP hk (fun _ _ _ _ _ _=>aIb hx hx2 hx3 hx4 hx5 hx6),
  if_neg (by simp [hx3,hx4,hx5]),if_neg hx3,if_neg hx4,if_neg hx5]
 exact⟨_,_,rfl,rfl,.inr (aCo rfl rfl (show (3:Int)≠0 from by decide) (by omega) rfl rfl)⟩
theorem aID (hk:kS s P=2) (h1:cm.length≤20) (h2:fd.length≤20) (h3:l.length≤20):wG s P c c2 a en0 at0 at1 bad bad0 e0 ends ends2 ids sr tg cm l st fd m hd i:=by
 by_cases hx:xS s P=vO
 ·exact aIv hsm hP hk hx h1 h2 h3
 by_cases hx2:xS s P=xT
 ·exact aIz hsm hP hk hx2 h1 h2 h3
 cases hd with
 |false=>exact aIB hsm hP hk hx hx2 h3
 |true=>
  by_cases hx3:xS s P=rX
  ·exact aIw hsm hP hk hx3 h1 h2 h3
  by_cases hx4:xS s P=rY
  ·exact aIx hsm hP hk hx4 h1 h2 h3
  by_cases hx5:xS s P=sD
  ·exact aIy hsm hP hk hx5 h1 h2 h3
  by_cases hx6:xS s P=BX
  ·exact aIA hsm hP hk hx6 h1 h2 h3
  exact aIC hsm hP hk hx hx2 hx3 hx4 hx5 hx6 h3
end
end Go.Proofs.YtfchbnahjcdiiaaGreatDoor
namespace Go.Proofs.YtfchbnahjcdiiaaGreatDoor
open Vc
set_option maxRecDepth 100000
abbrev S9:=Int×Int×Int×List UInt8×List UInt8×List (List UInt8)×List (List UInt8)×Int×List qP
abbrev IQ:=Int×Int×Int×List Int×List UInt8×List UInt8×List (List UInt8)×List (List UInt8)×Int×List qP
def aIE (s:List UInt8) (P:Nat) (a bad:Int) (ends2:List Int) (po:ET) (ro:S9⊕IQ):Prop:=
 ∃(P':Nat) (sr tg:List UInt8) (cm:List (List UInt8)) (st:Int) (fd:List qP) (l:List (List UInt8)) (m:List (List UInt8×Bool)),
  P≤P'∧P'≤s.length∧kS s P'=3∧xS s P'=[125]∧po=qI (rP s P' a) sr tg cm st fd l m∧ro= .inr ((nS s P':Int),bad,0,ends2++[(nS s P':Int)],sr,tg,cm,tO l,st,fd)∧
  cm.length≤20∧fd.length≤20∧l.length≤20
def aIF (s:List UInt8) (P:Nat) (a:Int) (po:ET) (ro:S9⊕IQ):Prop:=
 ∃(P':Nat) (sr tg:List UInt8) (cm:List (List UInt8)) (st:Int) (fd:List qP) (l:List (List UInt8)) (m:List (List UInt8×Bool)) (r:IQ),
  P≤P'∧P'≤s.length∧¬(kS s P'=3∧xS s P'=[125])∧po=qI (rP s P' a) sr tg cm st fd l m∧ro= .inr r∧r.2.1=(fS s P':Int)∧r.2.2.1=3∧l.length≤21
def aIG (po:ET) (ro:S9⊕IQ):Prop:=
 ∃(r:R8) (sr tg:List UInt8) (cm:List (List UInt8)) (st:Int) (fd:List qP) (l:List (List UInt8)) (m:List (List UInt8×Bool)) (r9:S9),
  r.2.2.2.2.2.2.1≠0∧po=qI r sr tg cm st fd l m∧l.length≤21∧ro= .inl r9∧r9.2.1=r.2.2.2.2.2.1∧r9.2.2.1=r.2.2.2.2.2.2.1
theorem LS {σ ρ:Type}{f:σ→Option (σ⊕ρ)}{x y:σ}(h:f x=some (.inl y)):pT f x=pT f y:=by
 rw[uU,h];rfl
theorem vQ {σ ρ:Type}{f:σ→Option (σ⊕ρ)}{x:σ}{r:ρ}(h:f x=some (.inr r)):pT f x=some r:=by
 rw[uU,h];rfl
section
variable {s:List UInt8}(hsm:s.length≤5000) {c c2:C4}{a en0 at0 at1 bad bad0 e0:Int}{ends ends2:List Int}(hends:ends2.length≤5000) {ids:List (List UInt8×Bool)}{hd:Bool}{i:pX}
include hsm hends
theorem aCp: ∀(n P:Nat) (sr tg:List UInt8) (cm l:List (List UInt8)) (st:Int) (fd:List qP) (m:List (List UInt8×Bool)),
  s.length-P≤n→P≤s.length→cm.length≤20→fd.length≤20→l.length≤20→
  ∃po ro,pT (tJ (s,(at0,())) c (ends,(en0,())) hd ids) (qI (rP s P a) sr tg cm st fd l m)=some po∧
   pT (zX (s,(at1,(bad0,(e0,(c2,(ends2,())))))) i (!hd)) ((P:Int),bad,0,sr,tg,cm,tO l,st,fd,qD .str .bool m rX,qD .str .bool m rY,qD .str .bool m sD)=some ro∧
   (aIE s P a bad ends2 po ro∨aIF s P a po ro∨aIG po ro)
 |n,P,sr,tg,cm,l,st,fd,m,hn,hP,h1,h2,h3=>by
  by_cases hk:kS s P=2
  ·obtain⟨ps,rs,hp,hr,hgb⟩:=aID (c:=c) (c2:=c2) (a:=a) (en0:=en0) (at0:=at0) (at1:=at1) (bad:=bad) (bad0:=bad0) (e0:=e0) (ends:=ends) (ends2:=ends2) (ids:=ids) (sr:=sr) (tg:=tg) (st:=st) (m:=m) (hd:=hd) (i:=i) hsm hP hk h1 h2 h3
   rw[LS hr]
   rcases hgb with⟨P',sr',tg',cm',st',fd',l',m',g1,g2,rfl,rfl,g3,g4,g5⟩ |⟨r,sr',tg',cm',st',fd',l',m',b1,b2,b3,b4,b5⟩
   ·rw[LS hp]
    match n,hn with
    |0,hn=>exact absurd g2 (by omega)
    |n+1,hn=>
     obtain⟨po,ro,i1,i2,i3⟩:=aCp n P' sr' tg' cm' l' st' fd' m' (by omega) g2 g3 g4 g5
     refine⟨po,ro,i1,i2,?_⟩
     rcases i3 with⟨Q,x1,x2,x3,x4,x5,x6,x7,y1,y2⟩ |⟨Q,x1,x2,x3,x4,x5,x6,x7,x8,y1,y2⟩ |h
     ·exact .inl ⟨Q,x1,x2,x3,x4,x5,x6,x7,by omega,y2⟩
     ·exact .inr (.inl ⟨Q,x1,x2,x3,x4,x5,x6,x7,x8,by omega,y2⟩)
     ·exact .inr (.inr h)
   ·obtain⟨q1,q2,q3,q4⟩:=rs
    have hre:q3≠0:=by rw[show q3=r.2.2.2.2.2.2.1 from b5];exact b1
    rw[vQ (a3W (s:=s) (c:=c2) (bad:=q2) (bad0:=bad0) (at0:=at1) (e0:=e0) (ends:=ends2) (i:=i) (hd:= !hd) (p:=q1) (sr:=q4.1) (tg:=q4.2.1) (cm:=q4.2.2.1) (fg:=q4.2.2.2.1) (st:=q4.2.2.2.2.1) (fd:=q4.2.2.2.2.2.1) (d1:=q4.2.2.2.2.2.2.1) (d2:=q4.2.2.2.2.2.2.2.1) (d3:=q4.2.2.2.2.2.2.2.2) hre)]
    rcases b2 with rfl|rfl
    ·rw[LS hp,vQ (a3T b1)]
     exact⟨_,_,rfl,rfl,.inr (.inr ⟨r,sr',tg',cm',st',fd',l',m',_,b1,rfl,b3,rfl,b4,b5⟩)⟩
    ·rw[vQ hp]
     exact⟨_,_,rfl,rfl,.inr (.inr ⟨r,sr',tg',cm',st',fd',l',m',_,b1,rfl,b3,rfl,b4,b5⟩)⟩
  ·rw[vQ (aIj hsm hP hk)]
   by_cases hb:kS s P=3∧xS s P=[125]
   ·rw[vQ (aIq hsm hP hb.1 hb.2 hends)]
    exact⟨_,_,rfl,rfl,.inl ⟨P,sr,tg,cm,st,fd,l,m,Nat.le_refl _,hP,hb.1,hb.2,rfl,rfl,h1,h2,h3⟩⟩
   ·rw[vQ (aIr hsm hP hk hb)]
    exact⟨_,_,rfl,rfl,.inr (.inl ⟨P,sr,tg,cm,st,fd,l,m,_,Nat.le_refl _,hP,hb,rfl,rfl,rfl,rfl,by omega⟩)⟩
end
end Go.Proofs.YtfchbnahjcdiiaaGreatDoor
namespace Go.Proofs.YtfchbnahjcdiiaaGreatDoor
open Vc
set_option maxRecDepth 100000
abbrev IR (y:pX):Prop:=pQ y.2.2.2.1∧pQ y.2.2.2.2.1∧pQ y.2.2.2.2.2.2.1
abbrev B15:=List UInt8×List UInt8×List (List UInt8)×List (List UInt8)×Int×List qP×Int×Int×List UInt8×Int×Int×Int×Int×List Int×Int
abbrev i0 (i1:List UInt8):pX:=(i1,([],([],([],([],(0,([],())))))))
def aIH (s:List UInt8) (P:Nat) (a bad:Int) (ends ends2:List Int) (po:B15) (ro:IQ):Prop:=
 ∃(P':Nat) (sr tg:List UInt8) (cm fg:List (List UInt8)) (st:Int) (fd:List qP),P<P'∧P'≤s.length∧
  po=(sr,tg,cm,fg,st,fd,(nS s P':Int),kS s P',xS s P',(fS s P':Int),(nS s P':Int),a,0,ends++[(P':Int)],(P':Int))∧
  ro=((P':Int),bad,0,ends2++[(P':Int)],sr,tg,cm,fg,st,fd)∧pQ cm∧pQ fg∧pQ fd
def aII (po:B15) (ro:IQ):Prop:=
 po.2.2.2.2.2.2.2.2.2.2.2.2.1≠0∧ro.2.1=po.2.2.2.2.2.2.2.2.2.2.2.1∧ro.2.2.1=po.2.2.2.2.2.2.2.2.2.2.2.2.1
section
variable {s:List UInt8}(hsm:s.length≤5000) {P:Nat}(hP:P≤s.length) {c c2:C4}{a en at0 bad k f t e:Int}{x i1:List UInt8}{ends ends2:List Int}(hends:ends.length≤5000) (hends2:ends2.length≤5000) {ids:List (List UInt8×Bool)}{hd:Bool}{i:pX}
include hends
theorem EW (he:e≠0): ∃po,tD (s,(at0,())) (k,(x,(f,(t,())))) a e c (ends,(en,())) hd ids=some po∧po.2.2.2.2.2.2.2.2.2.2.2.1=a∧po.2.2.2.2.2.2.2.2.2.2.2.2.1=e:=by
 unfold tD
 rw[PN he,Option.bind_some]
 dsimp only
 have h:=vQ (a3T (s:=s) (at0:=at0) (c:=c) (ends:=ends) (en0:=en) (ids:=ids) (hd:=hd) (sr:=[]) (tg:=[]) (cm:=[]) (st:=0) (fd:=[]) (l:=[]) (m:=[]) (r:=(at0,k,x,f,t,a,e,en)) he)
 unfold qI at h
 dsimp only at h
 rw[h]
 unfold qE
 rw[Option.bind_some]
 dsimp only
 rw[PN he,Option.bind_some,if_pos (by decide),if_pos (by simp;omega)]
 exact⟨_,rfl,rfl,rfl⟩
include hsm hP hends2
theorem aCr: ∃po ro,tD (s,((nS s P:Int),())) (kS s P,(xS s P,((fS s P:Int),((nS s P:Int),())))) a 0 c (ends,(en,())) hd ids=some po∧
  uW (s,((P:Int),(bad,(0,(c2,(ends2,())))))) (i0 i1) (!hd)=some ro∧(aIH s P a bad ends ends2 po ro∨aII po ro):=by
 have hQ:=(rO hP).2
 unfold tD uW
 rw[LO hsm hQ,Option.bind_some,PQ hsm hP,Option.bind_some]
 by_cases h0:kS s P=3∧xS s P=[123]
 ·have hPQ:P<nS s P:=A4 (by omega) (by omega)
  rw[if_pos h0,A5 rfl,A2 (by rw[(AW (by decide) (by decide)).2 h0.1,h0.2];decide)]
  obtain⟨po,ro,h1,h2,h3⟩:=aCp (c:=c) (c2:=c2) (a:=a) (en0:=en) (at0:=(nS s P:Int)) (at1:=(P:Int)) (bad:=bad) (bad0:=bad) (e0:=0) (ends:=ends) (ids:=ids) (hd:=hd) (i:=i0 i1) hsm hends2 s.length (nS s P) [] [] [] [] 0 [] [] (by omega) hQ (by decide) (by decide) (by decide)
  unfold qI at h1
  rw[show tO []=[] from List.length_eq_zero_iff.1 (a3V []),show qD .str .bool [] rX=false from rfl,show qD .str .bool [] rY=false from rfl,show qD .str .bool [] sD=false from rfl] at h2
  dsimp only
  rw[h1]
  rw[h2]
  unfold qE
  rw[Option.bind_some]
  rcases h3 with⟨P',sr,tg,cm,st,fd,l,m,g1,g2,g3,g4,rfl,rfl,g5,g6,g7⟩ |⟨P',sr,tg,cm,st,fd,l,m,r,g1,g2,g3,rfl,rfl,g4,g5,g6⟩ |⟨r,sr,tg,cm,st,fd,l,m,r9,g1,rfl,g2,rfl,g3,g4⟩
  ·have hQ':=rO g2
   have hpos:P'<nS s P':=A4 (by omega) (by omega)
   unfold qI rP
   dsimp only
   rw[LO hsm hQ'.2,if_pos ⟨g3,g4⟩,A5 rfl,Option.bind_some,if_pos (by omega),if_pos (by simp;omega)]
   exact⟨_,_,rfl,rfl,.inl ⟨nS s P',sr,tg,cm,tO l,st,fd,by omega,hQ'.2,rfl,rfl,by unfold pQ;omega,by unfold pQ;rw[a3V];omega,by unfold pQ;omega⟩⟩
  ·have hQ':=rO g2
   unfold qI rP
   dsimp only
   rw[LO hsm hQ'.2,if_neg g3,uM (by decide),Option.bind_some,if_pos (by omega),if_pos (by simp;omega)]
   exact⟨_,_,rfl,rfl,.inr ⟨show (3:Int)≠0 from by decide,g4,g5⟩⟩
  ·unfold qI
   dsimp only
   rw[PN g1,Option.bind_some,if_pos (by omega),if_pos (by simp;omega)]
   exact⟨_,_,rfl,rfl,.inr ⟨g1,g3,g4⟩⟩
 ·rw[if_neg h0,uM (by decide),A3 (by simp only[Bool.and_eq_true,Bool.or_eq_true,decide_eq_true_eq,AW (show (3:Int)≠0 by decide) (show (3:Int)≠4 by decide)];intro hh;rcases hh with⟨u,v|v⟩;exact absurd v (by decide);exact h0 ⟨u,v⟩)]
  dsimp only
  have h:=vQ (a3T (s:=s) (at0:=(nS s P:Int)) (c:=c) (ends:=ends) (en0:=en) (ids:=ids) (hd:=hd) (sr:=[]) (tg:=[]) (cm:=[]) (st:=0) (fd:=[]) (l:=[]) (m:=[]) (r:=((nS s P:Int),kS s P,xS s P,(fS s P:Int),(nS s P:Int),(fS s P:Int),3,en)) (show (3:Int)≠0 from by decide))
  unfold qI at h
  dsimp only at h
  rw[h,vQ (a3W (show (3:Int)≠0 from by decide))]
  unfold qE
  rw[Option.bind_some]
  dsimp only
  rw[PN (by decide),Option.bind_some,if_pos (by decide),if_pos (by simp;omega)]
  exact⟨_,_,rfl,rfl,.inr ⟨show (3:Int)≠0 from by decide,rfl,rfl⟩⟩
end
section
variable {s:List UInt8}(hsm:s.length≤5000) {P:Nat}(hP:P≤s.length) {c2:C4}{bad e:Int}{i1:List UInt8}{ends2:List Int}{hd:Bool}{i:pX}
include hsm hP
theorem a3Y (he:e≠0): ∃ro,uW (s,((P:Int),(bad,(e,(c2,(ends2,())))))) i hd=some ro∧ro.2.1=bad∧ro.2.2.1=e:=by
 unfold uW
 rw[a3S hsm hP he,Option.bind_some]
 dsimp only
 rw[vQ (a3W he)]
 exact⟨_,rfl,rfl,rfl⟩
end
end Go.Proofs.YtfchbnahjcdiiaaGreatDoor
namespace Go.Proofs.YtfchbnahjcdiiaaGreatDoor
open Vc
set_option maxRecDepth 100000
def a3Z (es:List pX) (x:List UInt8):Int×Bool:=sM (fun k=>((k:Int),true)) ((0:Int),false) (es.findIdx? fun y=>decide (y.1=x))
theorem aIJ (es:List pX) (x:List UInt8):(a3Z es x).2=es.any fun y=>decide (y.1=x):=by
 rw[←a3x]
 unfold a3Z
 cases es.findIdx? fun y=>decide (y.1=x)<;>rfl
theorem aIK (c:C4) (x:List UInt8) (hl:c.2.2.2.1.length≤5000):E1 c x=some (a3Z c.2.2.2.1 x):=by
 have h:=AM (f:=KK c x) (l:=c.2.2.2.1) (fun y=>decide (y.1=x)) (fun k=>((k:Int),true)) (fun i h=>by
  unfold KK
  rw[if_pos (sX h),if_pos (qK h),yD (t:=qH) h,if_pos (rS (by omega))]) (by
  unfold KK
  rw[if_neg (xQ _)])
 unfold E1
 rw[h,D7]
 rfl
def LT (ids:List (List UInt8×Bool)) (es:List pX):Prop:= ∀x,qD .str .bool ids x=es.any fun y=>decide (y.1=x)
theorem aIL {ids:List (List UInt8×Bool)}{es:List pX}(h:LT ids es) (e:pX) (x:List UInt8) (he:e.1=x):LT (rC .str .bool x true ids) (es++[e]):=by
 intro y
 rw[AX,List.any_append,←h y]
 by_cases hy:y=x
 ·rw[if_pos hy];simp [he,hy]
 ·rw[if_neg hy]
  have:decide (e.1=y)=false:=by rw[he];simpa using fun hh=>hy hh.symm
  simp [this]
abbrev E11:=Int×Int×List UInt8×Int×Int×Int×Int×List pX×List Int×Int×List (List UInt8×Bool)
abbrev E5:=Int×Int×Int×List pX×List Int
def aIM (s:List UInt8) (P:Nat) (a bad:Int) (ends:List Int) (es:List pX) (po:E11) (ro:E5):Prop:=
 ∃(P':Nat) (y:pX) (ids:List (List UInt8×Bool)),P<P'∧P'≤s.length∧es.length<1000∧LT ids (es++[y])∧
  po=((nS s P':Int),kS s P',xS s P',(fS s P':Int),(nS s P':Int),a,0,es++[y],ends++[(P':Int)],(P':Int),ids)∧
  ro=((P':Int),bad,0,es++[y],ends++[(P':Int)])∧IR y
def aCs (po:E11) (ro:E5):Prop:=po.2.2.2.2.2.2.1≠0∧ro.2.1=po.2.2.2.2.2.1∧ro.2.2.1=po.2.2.2.2.2.2.1
section
variable {s:List UInt8}(hsm:s.length≤5000) {P:Nat}(hP:P≤s.length) {a en bad:Int}{t1 t2:List UInt8}{cm1 cm2:List (List UInt8)}{fd1 fd2:List qP}{es:List pX}{ends:List Int}(hends:ends.length≤5000) {ids:List (List UInt8×Bool)}(hids:LT ids es) (hes:es.length≤1000)
include hsm hP hends hids hes
theorem K3: ∃po ro,v6 (s,((nS s P:Int),())) (kS s P,(xS s P,((fS s P:Int),((nS s P:Int),())))) a 0 (t1,(cm1,(fd1,(es,())))) (ends,(en,())) ids=some po∧
  AS (s,((P:Int),(bad,(0,((t2,(cm2,(fd2,(es,())))),(ends,()))))))=some ro∧(aIM s P a bad ends es po ro∨aCs po ro):=by
 have hQ:=(rO hP).2
 have hR:=(rO hQ).2
 unfold v6 AS
 rw[LO hsm hQ,Option.bind_some,PQ hsm hP,Option.bind_some]
 by_cases h0:kS s P=2∧xS s P=[101,110,116,114,121]
 ·have hPQ:P<nS s P:=A4 (by omega) (by omega)
  rw[if_pos h0,A5 rfl,A2 (by rw[(AW (by decide) (by decide)).2 h0.1,h0.2];decide)]
  unfold rP
  dsimp only
  rw[aHT hsm hR,Option.bind_some,DB hsm hQ (by decide) (by decide),Option.bind_some,hids (xS s (nS s P))]
  by_cases hk1:kS s (nS s P)=1
  ·have hQR:nS s P<nS s (nS s P):=A4 (by omega) (by omega)
   rw[A2 (by simpa using hk1)]
   dsimp only
   rw[if_neg (show¬(!decide ((0:Int)=0))=true from by decide),aIK _ _ (show es.length≤5000 by omega),Option.bind_some,aIJ]
   dsimp only
   by_cases hid:ES (xS s (nS s P))=true
   ·have hid': ¬(decide (xS s (nS s P)=[])||decide ((200:Int)<((xS s (nS s P)).length:Int)))=true:=by
     unfold ES at hid;simp at hid⊢;omega
    have hb: ¬(decide (kS s (nS s P)≠1)|| !ES (xS s (nS s P)))=true:=by simp [hk1,hid]
    rw[if_neg hid']
    by_cases hdup:(es.any fun y=>decide (y.1=xS s (nS s P)))=true
    ·rw[if_pos hdup,IN hb hdup,uM (by decide)]
     unfold q6
     rw[wE]
     obtain⟨po,hpo,h1,h2⟩:=EW (s:=s) (at0:=(nS s (nS s P):Int)) (c:=(t1,(cm1,(fd1,(es,()))))) (a:=(fS s (nS s P):Int)) (en:=(nS s P:Int)) (k:=kS s (nS s P)) (x:=xS s (nS s P)) (f:=(fS s (nS s P):Int)) (t:=(nS s (nS s P):Int)) (ids:=rC .str .bool (xS s (nS s P)) true ids) (hd:=true) hends (show (9:Int)≠0 by decide)
     dsimp only
     rw[hpo,Option.bind_some,if_pos (by simp;omega)]
     exact⟨_,_,rfl,rfl,.inr ⟨by show po.2.2.2.2.2.2.2.2.2.2.2.2.1≠0;rw[h2];decide,h1.symm,h2.symm⟩⟩
    ·rw[if_neg hdup]
     by_cases hm:es.length=1000
     ·rw[if_pos (show decide ((1000:Int)≤(es.length:Int))=true from by simp;omega),IP hb hdup (by simp;omega),uM (by decide)]
      unfold q6
      rw[wE]
      obtain⟨po,hpo,h1,h2⟩:=EW (s:=s) (at0:=(nS s (nS s P):Int)) (c:=(t1,(cm1,(fd1,(es,()))))) (a:=(fS s (nS s P):Int)) (en:=(nS s P:Int)) (k:=kS s (nS s P)) (x:=xS s (nS s P)) (f:=(fS s (nS s P):Int)) (t:=(nS s (nS s P):Int)) (ids:=rC .str .bool (xS s (nS s P)) true ids) (hd:=true) hends (show (6:Int)≠0 by decide)
      dsimp only
      rw[hpo,Option.bind_some,if_pos (by simp;omega)]
      exact⟨_,_,rfl,rfl,.inr ⟨by show po.2.2.2.2.2.2.2.2.2.2.2.2.1≠0;rw[h2];decide,h1.symm,h2.symm⟩⟩
     ·rw[if_neg (show¬decide ((1000:Int)≤(es.length:Int))=true from by simp;omega),A1 hb hdup (by simp;omega),A5 rfl]
      unfold rP
      dsimp only
      obtain⟨po,ro,hpo,hro,h5⟩:=aCr (c:=(t1,(cm1,(fd1,(es,()))))) (c2:=(t2,(cm2,(fd2,(es,()))))) (a:=a) (en:=(nS s (nS s P):Int)) (bad:=bad) (i1:=xS s (nS s P)) (ids:=rC .str .bool (xS s (nS s P)) true ids) (hd:=true) hsm hR hends hends
      rw[hpo,Option.bind_some,if_pos (by simp;omega),show (false)= !true from rfl,hro,Option.bind_some,if_pos (by simp;omega),if_pos (by simp;omega)]
      refine⟨_,_,rfl,rfl,?_⟩
      rcases h5 with⟨P',sr,tg,cm,fg,st,fd,g1,g2,rfl,rfl,f1,f2,f3⟩ |⟨g1,g2,g3⟩
      ·exact .inl ⟨P',_,_,by omega,g2,by omega,aIL hids _ _ rfl,rfl,rfl,f1,f2,f3⟩
      ·exact .inr ⟨g1,g2,g3⟩
   ·have hid':(decide (xS s (nS s P)=[])||decide ((200:Int)<((xS s (nS s P)).length:Int)))=true:=by
     unfold ES at hid;simp at hid⊢;by_cases hh:xS s (nS s P)=[]<;>simp_all
    rw[if_pos hid',wD (by simp [hid]),uM (by decide)]
    unfold q6
    rw[wE]
    obtain⟨po,hpo,h1,h2⟩:=EW (s:=s) (at0:=(nS s (nS s P):Int)) (c:=(t1,(cm1,(fd1,(es,()))))) (a:=(fS s (nS s P):Int)) (en:=(nS s P:Int)) (k:=kS s (nS s P)) (x:=xS s (nS s P)) (f:=(fS s (nS s P):Int)) (t:=(nS s (nS s P):Int)) (ids:=rC .str .bool (xS s (nS s P)) true ids) (hd:=true) hends (show (3:Int)≠0 by decide)
    dsimp only
    rw[hpo,Option.bind_some,if_pos (by simp;omega)]
    exact⟨_,_,rfl,rfl,.inr ⟨by show po.2.2.2.2.2.2.2.2.2.2.2.2.1≠0;rw[h2];decide,h1.symm,h2.symm⟩⟩
  ·rw[A3 (by simpa using hk1),wD (by simp [hk1]),uM (by decide)]
   dsimp only
   rw[if_pos (show (!decide ((3:Int)=0))=true from by decide)]
   obtain⟨po,hpo,h1,h2⟩:=EW (s:=s) (at0:=(nS s (nS s P):Int)) (c:=(t1,(cm1,(fd1,(es,()))))) (a:=(fS s (nS s P):Int)) (en:=(nS s P:Int)) (k:=kS s (nS s P)) (x:=xS s (nS s P)) (f:=(fS s (nS s P):Int)) (t:=(nS s (nS s P):Int)) (ids:=rC .str .bool (xS s (nS s P)) true ids) (hd:=true) hends (show (3:Int)≠0 by decide)
   rw[hpo,Option.bind_some,if_pos (by simp;omega)]
   exact⟨_,_,rfl,rfl,.inr ⟨by show po.2.2.2.2.2.2.2.2.2.2.2.2.1≠0;rw[h2];decide,h1.symm,h2.symm⟩⟩
 ·rw[if_neg h0,uM (by decide),A3 (by simp only[Bool.and_eq_true,Bool.or_eq_true,decide_eq_true_eq,AW (show (2:Int)≠0 by decide) (show (2:Int)≠4 by decide)];intro hh;rcases hh with⟨u,v|v⟩;exact absurd v (by decide);exact h0 ⟨u,v⟩)]
  dsimp only
  rw[aHU (by decide),Option.bind_some,a3S hsm hP (by decide),Option.bind_some]
  dsimp only
  rw[if_pos (show (!decide ((3:Int)=0))=true from by decide)]
  obtain⟨po,hpo,h1,h2⟩:=EW (s:=s) (at0:=(nS s P:Int)) (c:=(t1,(cm1,(fd1,(es,()))))) (a:=(fS s P:Int)) (en:=en) (k:=kS s P) (x:=xS s P) (f:=(fS s P:Int)) (t:=(nS s P:Int)) (ids:=rC .str .bool (xS s P) true ids) (hd:=true) hends (show (3:Int)≠0 by decide)
  rw[hpo,Option.bind_some,if_pos (by simp;omega)]
  exact⟨_,_,rfl,rfl,.inr ⟨by show po.2.2.2.2.2.2.2.2.2.2.2.2.1≠0;rw[h2];decide,h1.symm,h2.symm⟩⟩
end
end Go.Proofs.YtfchbnahjcdiiaaGreatDoor
namespace Go.Proofs.YtfchbnahjcdiiaaGreatDoor
open Vc
set_option maxRecDepth 100000
abbrev H12:=Int×Int×List UInt8×Int×Int×Int×Int×List UInt8×List (List UInt8)×List qP×List Int×Int
abbrev H7:=Int×Int×Int×List UInt8×List (List UInt8)×List qP×List Int
def aIN (s:List UInt8) (P:Nat) (a bad:Int) (ends:List Int) (po:H12) (ro:H7):Prop:=
 ∃(P':Nat) (tag:List UInt8) (cm:List (List UInt8)) (fd:List qP),P<P'∧P'≤s.length∧
  po=((nS s P':Int),kS s P',xS s P',(fS s P':Int),(nS s P':Int),a,0,tag,cm,fd,ends++[(P':Int)],(P':Int))∧
  ro=((P':Int),bad,0,tag,cm,fd,ends++[(P':Int)])∧pQ cm∧pQ fd
def aIO (po:H12) (ro:H7):Prop:=po.2.2.2.2.2.2.1≠0∧ro.2.1=po.2.2.2.2.2.1∧ro.2.2.1=po.2.2.2.2.2.2.1
section
variable {s:List UInt8}(hsm:s.length≤5000) {P:Nat}(hP:P≤s.length) {a en bad:Int}{c c2:C4}{ends:List Int}(hends:ends.length≤5000) {ids:List (List UInt8×Bool)}
include hsm hP hends
theorem aCt: ∃po ro,uZ (s,((nS s P:Int),())) (kS s P,(xS s P,((fS s P:Int),((nS s P:Int),())))) a 0 c (ends,(en,())) ids=some po∧
  xL (s,((P:Int),(bad,(0,(c2,(ends,()))))))=some ro∧(aIN s P a bad ends po ro∨aIO po ro):=by
 have hQ:=(rO hP).2
 have hR:=(rO hQ).2
 unfold uZ xL
 rw[LO hsm hQ,Option.bind_some,PQ hsm hP,Option.bind_some]
 by_cases h0:kS s P=2∧xS s P=[99,97,116,97,108,111,103]
 ·have hPQ:P<nS s P:=A4 (by omega) (by omega)
  rw[if_pos h0,A5 rfl,A2 (by rw[(AW (by decide) (by decide)).2 h0.1,h0.2];decide)]
  unfold rP
  dsimp only
  rw[aHN hsm hR,Option.bind_some,DB hsm hQ (by decide) (by decide),Option.bind_some]
  by_cases hk1:kS s (nS s P)=1
  ·have hQR:nS s P<nS s (nS s P):=A4 (by omega) (by omega)
   rw[A2 (by simpa using hk1)]
   dsimp only
   rw[a3w _ (LR hsm hQ),if_pos u1]
   by_cases ht:wB (xS s (nS s P))=true
   ·rw[A1 (by simp [hk1,ht]) (by simp) (by simp),A5 rfl]
    rw[if_neg (show¬(decide ((0:Int)=0)&& !val (some (wB (xS s (nS s P)))))=true from by rw[ht];decide)]
    unfold rP qE
    rw[Option.bind_some]
    dsimp only
    obtain⟨po,ro,hpo,hro,h5⟩:=aCr (c:=(xS s (nS s P),(c.2.1,(c.2.2.1,(c.2.2.2.1,()))))) (c2:=c2) (a:=a) (en:=(nS s (nS s P):Int)) (bad:=bad) (i1:=[]) (ids:=ids) (hd:=false) hsm hR hends hends
    rw[hpo,Option.bind_some,show true= !false from rfl,hro,Option.bind_some]
    refine⟨_,_,rfl,rfl,?_⟩
    rcases h5 with⟨P',sr,tg,cm,fg,st,fd,g1,g2,rfl,rfl,f1,f2,f3⟩ |⟨g1,g2,g3⟩
    ·exact .inl ⟨P',_,_,_,by omega,g2,rfl,rfl,f1,f3⟩
    ·exact .inr ⟨g1,g2,g3⟩
   ·rw[wD (by simp [ht]),uM (by decide)]
    rw[if_pos (show (decide ((0:Int)=0)&& !val (some (wB (xS s (nS s P)))))=true from by rw[show wB (xS s (nS s P))=false from by simpa using ht];decide)]
    unfold q6
    rw[wE]
    unfold qE
    rw[Option.bind_some]
    dsimp only
    obtain⟨po,hpo,h1,h2⟩:=EW (s:=s) (at0:=(nS s (nS s P):Int)) (c:=(xS s (nS s P),(c.2.1,(c.2.2.1,(c.2.2.2.1,()))))) (a:=(fS s (nS s P):Int)) (en:=(nS s P:Int)) (k:=kS s (nS s P)) (x:=xS s (nS s P)) (f:=(fS s (nS s P):Int)) (t:=(nS s (nS s P):Int)) (ids:=ids) (hd:=false) hends (show (3:Int)≠0 by decide)
    obtain⟨ro,hro,g1,g2⟩:=a3Y (P:=nS s (nS s P)) (c2:=c2) (bad:=(fS s (nS s P):Int)) (e:=3) (ends2:=ends) (hd:=true) (i:=i0 []) hsm hR (by decide)
    rw[hpo,Option.bind_some,hro,Option.bind_some]
    exact⟨_,_,rfl,rfl,.inr ⟨by show po.2.2.2.2.2.2.2.2.2.2.2.2.1≠0;rw[h2];decide,g1.trans h1.symm,g2.trans h2.symm⟩⟩
  ·rw[A3 (by simpa using hk1),wD (by simp [hk1]),uM (by decide)]
   dsimp only
   rw[a3w _ (LR hsm hQ),if_pos u1,if_neg (show¬(decide ((3:Int)=0)&& !val (some (wB (xS s (nS s P)))))=true from by simp)]
   unfold qE
   rw[Option.bind_some]
   dsimp only
   obtain⟨po,hpo,h1,h2⟩:=EW (s:=s) (at0:=(nS s (nS s P):Int)) (c:=(xS s (nS s P),(c.2.1,(c.2.2.1,(c.2.2.2.1,()))))) (a:=(fS s (nS s P):Int)) (en:=(nS s P:Int)) (k:=kS s (nS s P)) (x:=xS s (nS s P)) (f:=(fS s (nS s P):Int)) (t:=(nS s (nS s P):Int)) (ids:=ids) (hd:=false) hends (show (3:Int)≠0 by decide)
   obtain⟨ro,hro,g1,g2⟩:=a3Y (P:=nS s P) (c2:=c2) (bad:=(fS s (nS s P):Int)) (e:=3) (ends2:=ends) (hd:=true) (i:=i0 []) hsm hQ (by decide)
   rw[hpo,Option.bind_some,hro,Option.bind_some]
   exact⟨_,_,rfl,rfl,.inr ⟨by show po.2.2.2.2.2.2.2.2.2.2.2.2.1≠0;rw[h2];decide,g1.trans h1.symm,g2.trans h2.symm⟩⟩
 ·rw[if_neg h0,uM (by decide),A3 (by simp only[Bool.and_eq_true,Bool.or_eq_true,decide_eq_true_eq,AW (show (2:Int)≠0 by decide) (show (2:Int)≠4 by decide)];intro hh;rcases hh with⟨u,v|v⟩;exact absurd v (by decide);exact h0 ⟨u,v⟩)]
  dsimp only
  rw[aHO (by decide),Option.bind_some,a3S hsm hP (by decide),Option.bind_some]
  dsimp only
  rw[a3w _ (LR hsm hP),if_pos u1,if_neg (show¬(decide ((3:Int)=0)&& !val (some (wB (xS s P))))=true from by simp)]
  unfold qE
  rw[Option.bind_some]
  dsimp only
  obtain⟨po,hpo,h1,h2⟩:=EW (s:=s) (at0:=(nS s P:Int)) (c:=(xS s P,(c.2.1,(c.2.2.1,(c.2.2.2.1,()))))) (a:=(fS s P:Int)) (en:=en) (k:=kS s P) (x:=xS s P) (f:=(fS s P:Int)) (t:=(nS s P:Int)) (ids:=ids) (hd:=false) hends (show (3:Int)≠0 by decide)
  obtain⟨ro,hro,g1,g2⟩:=a3Y (P:=P) (c2:=c2) (bad:=(fS s P:Int)) (e:=3) (ends2:=ends) (hd:=true) (i:=i0 []) hsm hP (by decide)
  rw[hpo,Option.bind_some,hro,Option.bind_some]
  exact⟨_,_,rfl,rfl,.inr ⟨by show po.2.2.2.2.2.2.2.2.2.2.2.2.1≠0;rw[h2];decide,g1.trans h1.symm,g2.trans h2.symm⟩⟩
end
end Go.Proofs.YtfchbnahjcdiiaaGreatDoor
namespace Go.Proofs.YtfchbnahjcdiiaaGreatDoor
open Vc
set_option maxRecDepth 100000
theorem IS {α:Type}:pQ ([]:List α):=by unfold pQ;exact Nat.zero_le _
theorem aIP {l:List UInt8}:(v7 l).1=4↔l=[]:=by
 cases l with
 |nil=>exact⟨fun _=>rfl,fun _=>rfl⟩
 |cons b t=>
  refine⟨fun h=> ?_,fun h=>by cases h⟩
  exfalso
  by_cases h1:b=123∨b=125
  ·rw[PH h1] at h;exact absurd h (show¬(3:Int)=4 by decide)
  ·by_cases h2:b=34
   ·rw[PI h1 h2] at h
    unfold wC at h
    cases he:sG 34 t with
    |none=>rw[he] at h;exact absurd h (show¬(0:Int)=4 by decide)
    |some n=>
     rw[he] at h
     dsimp only at h
     split at h
     ·exact absurd h (show¬(0:Int)=4 by decide)
     ·exact absurd h (show¬(1:Int)=4 by decide)
   ·by_cases h3:A0 b.toNat=true
    ·rw[PJ h1 h2 h3] at h;exact absurd h (show¬(2:Int)=4 by decide)
    ·rw[LK h1 h2 h3] at h;exact absurd h (show¬(0:Int)=4 by decide)
theorem k4 {s:List UInt8}{P:Nat}(hP:P≤s.length):kS s P=4↔¬P+(G (s.drop P)).1<s.length:=by
 unfold kS sC
 by_cases hg:(G (s.drop P)).2=true
 ·rw[if_pos hg]
  dsimp only
  rw[aIP,List.drop_drop,List.drop_eq_nil_iff]
  omega
 ·rw[if_neg hg]
  obtain⟨t,ht⟩:=LL (s.drop P).length (s.drop P) (Nat.le_refl _) (by simpa using hg)
  refine⟨fun h=>absurd h (show¬(0:Int)=4 by decide),fun h=> ?_⟩
  rw[List.drop_drop,List.drop_eq_nil_of_le (by omega)] at ht
  cases ht
def EX (P:Nat) (ends:List Int):Prop:= ∃l:List Nat,ends=l.map (fun n:Nat=>(n:Int))∧l≠[]∧l.Pairwise (·≤·)∧∀x∈l,x≤P
theorem aIQ {P P':Nat}{ends:List Int}(h:EX P ends) (hP:P≤P'):EX P' (ends++[(P':Int)]):=by
 obtain⟨l,rfl,h1,h2,h3⟩:=h
 refine⟨l++[P'],by rw[List.map_append];rfl,List.append_ne_nil_of_right_ne_nil _ (List.cons_ne_nil _ _),?_,fun x hx=> ?_⟩
 ·rw[List.pairwise_append]
  exact⟨h2,List.pairwise_singleton _ _,fun x hx y hy=>by rw[List.mem_singleton.1 hy];exact Nat.le_trans (h3 x hx) hP⟩
 ·rcases List.mem_append.1 hx with hx|hx
  ·exact Nat.le_trans (h3 x hx) hP
  ·rw[List.mem_singleton.1 hx];exact Nat.le_refl _
theorem aCu (P:Nat):EX P [(P:Int)]:=⟨[P],rfl,List.cons_ne_nil _ _,List.pairwise_singleton _ _,fun x hx=>by rw[List.mem_singleton.1 hx];exact Nat.le_refl _⟩
theorem aIR {P P':Nat}{ends:List Int}(h:EX P ends) (hP:P≤P'):EX P' ends:=by
 obtain⟨l,h0,h1,h2,h3⟩:=h
 exact⟨l,h0,h1,h2,fun x hx=>Nat.le_trans (h3 x hx) hP⟩
def aIS (n:Nat) (po:E11) (ro:E5):Prop:=
 (po.2.2.2.2.2.2.1=0∧ro.2.2.1=0∧ro.2.2.2.1=po.2.2.2.2.2.2.2.1∧ro.2.2.2.2=po.2.2.2.2.2.2.2.2.1∧po.2.2.2.2.2.2.2.1.length≤1000∧(∀y∈po.2.2.2.2.2.2.2.1,IR y)∧EX n po.2.2.2.2.2.2.2.2.1∧po.2.2.2.2.2.2.2.2.1.length≤1001)∨aCs po ro
section
variable {s:List UInt8}(hsm:s.length≤5000) {a bad:Int}{hp:H12}{hr:H7}
include hsm
theorem a33: ∀(n P:Nat) (es:List pX) (ends:List Int) (en:Int) (ids:List (List UInt8×Bool)),
  s.length-P≤n→P≤s.length→es.length≤1000→ends.length≤es.length+1→LT ids es→(∀y∈es,IR y)→EX P ends→
  ∃po ro,pT (zC s hp) ((nS s P:Int),kS s P,xS s P,(fS s P:Int),(nS s P:Int),a,0,es,ends,en,ids)=some po∧
   pT (zB s hr) ((P:Int),bad,0,es,ends)=some ro∧aIS s.length po ro
 |n,P,es,ends,en,ids,hn,hP,hes,hends,hids,hfs,hea=>by
  have hgap:=aCc (PL hsm) hP
  by_cases hk:kS s P=4
  ·have hg:=(k4 hP).1 hk
   have e1:zC s hp ((nS s P:Int),kS s P,xS s P,(fS s P:Int),(nS s P:Int),a,0,es,ends,en,ids)=some (.inr ((nS s P:Int),kS s P,xS s P,(fS s P:Int),(nS s P:Int),a,0,es,ends,en,ids)):=by
    unfold zC
    dsimp only
    rw[if_neg (by simp [hk])]
   have e2:zB s hr ((P:Int),bad,0,es,ends)=some (.inr ((P:Int),bad,0,es,ends)):=by
    unfold zB
    dsimp only
    rw[hgap,if_pos u1,if_neg (by show¬(decide ((0:Int)=0)&&decide (((P+(G (s.drop P)).1:Nat):Int)<(s.length:Int)))=true;simp;omega)]
   rw[vQ e1,vQ e2]
   exact⟨_,_,rfl,rfl,.inl ⟨rfl,rfl,rfl,rfl,hes,hfs,aIR hea hP,(show ends.length≤1001 by omega)⟩⟩
  ·have hg:P+(G (s.drop P)).1<s.length:=by
    by_cases hh:P+(G (s.drop P)).1<s.length
    ·exact hh
    ·exact absurd ((k4 hP).2 hh) hk
   obtain⟨po,ro,hpo,hro,hres⟩:=K3 (a:=a) (en:=en) (bad:=bad) (t1:=hp.2.2.2.2.2.2.2.1) (t2:=hr.2.2.2.1) (cm1:=hp.2.2.2.2.2.2.2.2.1) (cm2:=hr.2.2.2.2.1) (fd1:=hp.2.2.2.2.2.2.2.2.2.1) (fd2:=hr.2.2.2.2.2.1) hsm hP (show ends.length≤5000 by omega) hids hes
   have e1:zC s hp ((nS s P:Int),kS s P,xS s P,(fS s P:Int),(nS s P:Int),a,0,es,ends,en,ids)=some (.inl po):=by
    unfold zC
    dsimp only
    rw[if_pos (by simp [hk]),hpo,Option.bind_some]
   have e2:zB s hr ((P:Int),bad,0,es,ends)=some (.inl ro):=by
    unfold zB
    dsimp only
    rw[hgap,if_pos u1,if_pos (by show (decide ((0:Int)=0)&&decide (((P+(G (s.drop P)).1:Nat):Int)<(s.length:Int)))=true;simp;omega),hro,Option.bind_some]
   rw[LS e1,LS e2]
   rcases hres with⟨P',y,ids',g1,g2,g3,g4,rfl,rfl,g5⟩ |hb
   ·match n,hn with
    |0,hn=>exact absurd g2 (by omega)
    |n+1,hn=>exact a33 n P' (es++[y]) (ends++[(P':Int)]) P' ids' (by omega) g2 (by simp;omega) (by simp;omega) g4 (fun z hz=>by rcases List.mem_append.1 hz with hz|hz;exact hfs z hz;rw[List.mem_singleton.1 hz];exact g5) (aIQ hea (by omega))
   ·have e3:zC s hp po=some (.inr po):=by
     unfold zC
     dsimp only
     rw[if_neg (by simp [hb.1])]
    have e4:zB s hr ro=some (.inr ro):=by
     have h3:ro.2.2.1≠0:=by rw[hb.2.2];exact hb.1
     unfold zB
     dsimp only
     rw[if_pos (by intro hh;simp [h3] at hh),if_neg (by simp [h3])]
    rw[vQ e3,vQ e4]
    exact⟨_,_,rfl,rfl,.inr hb⟩
theorem aIT: ∃v,zD s=some v∧zY s=some v∧pQ v.2.1∧pQ v.2.2.1∧pQ v.2.2.2.1∧∀y∈v.2.2.2.1,IR y:=by
 obtain⟨ph,rh,hph,hrh,hres⟩:=aCt (P:=0) (a:=0) (en:=0) (bad:=0) (c:=([],([],([],([],()))))) (c2:=([],([],([],([],()))))) (ends:=[]) (ids:=[]) hsm (Nat.zero_le _) (by decide)
 have hnx:=a3Q hsm (Nat.zero_le s.length)
 have hnx':yH (s,((0:Int),()))=some (kS s 0,xS s 0,(fS s 0:Int),(nS s 0:Int),(nS s 0:Int)):=hnx
 have hrh':xL (s,((0:Int),((0:Int),((0:Int),((([]:List UInt8),(([]:List (List UInt8)),(([]:List p6),(([]:List pX),())))),(([]:List Int),()))))))=some rh:=hrh
 unfold zD tU zY yI
 rw[hnx',Option.bind_some]
 dsimp only
 rw[hph,Option.bind_some,hrh',Option.bind_some]
 rcases hres with⟨P',tag,cm,fd,g1,g2,rfl,rfl,f1,f2⟩ |hb
 ·obtain⟨po,ro,h1,h2,h3⟩:=a33 (a:=0) (bad:=0) (hp:=((nS s P':Int),kS s P',xS s P',(fS s P':Int),(nS s P':Int),0,0,tag,cm,fd,[]++[(P':Int)],(P':Int))) (hr:=((P':Int),0,0,tag,cm,fd,[]++[(P':Int)])) hsm s.length P' [] ([]++[(P':Int)]) (P':Int) [] (by omega) g2 (by decide) (by simp) (fun _=>rfl) (fun _ h=>by cases h) (aCu P')
  dsimp only
  rw[h1,h2]
  unfold qE
  rw[Option.bind_some,Option.bind_some]
  dsimp only
  rw[Option.bind_some]
  rcases h3 with⟨e1,e2,e3,e4,e5,e6,_,_⟩ |⟨e1,e2,e3⟩
  ·rw[if_neg (by simp [e1]),if_neg (by simp [e2]),Option.bind_some,e3]
   exact⟨_,rfl,rfl,f1,f2,(show pQ po.2.2.2.2.2.2.2.1 from by unfold pQ;omega),e6⟩
  ·rw[if_pos (by simp [e1]),if_pos (by simp [e3,e1]),Option.bind_some,e2,e3]
   exact⟨_,rfl,rfl,IS,IS,IS,fun _ h=>by cases h⟩
 ·obtain⟨b1,b2,b3⟩:=hb
  have e3:zC s ph (ph.1,ph.2.1,ph.2.2.1,ph.2.2.2.1,ph.2.2.2.2.1,ph.2.2.2.2.2.1,ph.2.2.2.2.2.2.1,[],ph.2.2.2.2.2.2.2.2.2.2.1,ph.2.2.2.2.2.2.2.2.2.2.2,[])=some (.inr (ph.1,ph.2.1,ph.2.2.1,ph.2.2.2.1,ph.2.2.2.2.1,ph.2.2.2.2.2.1,ph.2.2.2.2.2.2.1,[],ph.2.2.2.2.2.2.2.2.2.2.1,ph.2.2.2.2.2.2.2.2.2.2.2,[])):=by
   unfold zC
   dsimp only
   rw[if_neg (by simp [b1])]
  have e4:zB s rh (rh.1,rh.2.1,rh.2.2.1,[],rh.2.2.2.2.2.2)=some (.inr (rh.1,rh.2.1,rh.2.2.1,[],rh.2.2.2.2.2.2)):=by
   have h3:rh.2.2.1≠0:=by rw[b3];exact b1
   unfold zB
   dsimp only
   rw[if_pos (by intro hh;simp [h3] at hh),if_neg (by simp [h3])]
  rw[vQ e3,vQ e4]
  unfold qE
  rw[Option.bind_some,Option.bind_some]
  dsimp only
  rw[Option.bind_some]
  dsimp only
  rw[if_pos (by simp [b1]),if_pos (by simp [b3,b1]),Option.bind_some,b2,b3]
  exact⟨_,rfl,rfl,IS,IS,IS,fun _ h=>by cases h⟩
theorem aMg: ∃r v,tU s=some r∧yI s=some v∧
  ((r.2.2.2.2.2.2.1=0∧v.2.2.2.2.2.2=0∧v.2.2.2.2.1=r.2.2.2.2.2.2.2.2.2.2.2.1∧EX s.length r.2.2.2.2.2.2.2.2.2.2.2.1∧r.2.2.2.2.2.2.2.2.2.2.2.1.length≤1001)∨(r.2.2.2.2.2.2.1≠0∧v.2.2.2.2.2.2=r.2.2.2.2.2.2.1)):=by
 obtain⟨ph,rh,hph,hrh,hres⟩:=aCt (P:=0) (a:=0) (en:=0) (bad:=0) (c:=([],([],([],([],()))))) (c2:=([],([],([],([],()))))) (ends:=[]) (ids:=[]) hsm (Nat.zero_le _) (by decide)
 have hnx:=a3Q hsm (Nat.zero_le s.length)
 have hnx':yH (s,((0:Int),()))=some (kS s 0,xS s 0,(fS s 0:Int),(nS s 0:Int),(nS s 0:Int)):=hnx
 have hrh':xL (s,((0:Int),((0:Int),((0:Int),((([]:List UInt8),(([]:List (List UInt8)),(([]:List p6),(([]:List pX),())))),(([]:List Int),()))))))=some rh:=hrh
 unfold tU yI
 rw[hnx',Option.bind_some]
 try dsimp only
 rw[hph,Option.bind_some,hrh',Option.bind_some]
 rcases hres with⟨P',tag,cm,fd,g1,g2,rfl,rfl,f1,f2⟩ |hb
 ·obtain⟨po,ro,h1,h2,h3⟩:=a33 (a:=0) (bad:=0) (hp:=((nS s P':Int),kS s P',xS s P',(fS s P':Int),(nS s P':Int),0,0,tag,cm,fd,[]++[(P':Int)],(P':Int))) (hr:=((P':Int),0,0,tag,cm,fd,[]++[(P':Int)])) hsm s.length P' [] ([]++[(P':Int)]) (P':Int) [] (by omega) g2 (by decide) (by simp) (fun _=>rfl) (fun _ h=>by cases h) (aCu P')
  try dsimp only
  rw[h1,h2]
  unfold qE
  rw[Option.bind_some,Option.bind_some]
  try dsimp only
  rcases h3 with⟨e1,e2,e3,e4,e5,e6,e7,e8⟩ |⟨e1,e2,e3⟩
  ·rw[if_neg (by simp [e2])]
   exact⟨_,_,rfl,rfl,.inl ⟨e1,rfl,e4,e7,e8⟩⟩
  ·rw[if_pos (by simp [e3,e1])]
   exact⟨_,_,rfl,rfl,.inr ⟨e1,e3⟩⟩
 ·obtain⟨b1,b2,b3⟩:=hb
  have e3:zC s ph (ph.1,ph.2.1,ph.2.2.1,ph.2.2.2.1,ph.2.2.2.2.1,ph.2.2.2.2.2.1,ph.2.2.2.2.2.2.1,[],ph.2.2.2.2.2.2.2.2.2.2.1,ph.2.2.2.2.2.2.2.2.2.2.2,[])=some (.inr (ph.1,ph.2.1,ph.2.2.1,ph.2.2.2.1,ph.2.2.2.2.1,ph.2.2.2.2.2.1,ph.2.2.2.2.2.2.1,[],ph.2.2.2.2.2.2.2.2.2.2.1,ph.2.2.2.2.2.2.2.2.2.2.2,[])):=by
   unfold zC
   try dsimp only
   rw[if_neg (by simp [b1])]
  have e4:zB s rh (rh.1,rh.2.1,rh.2.2.1,[],rh.2.2.2.2.2.2)=some (.inr (rh.1,rh.2.1,rh.2.2.1,[],rh.2.2.2.2.2.2)):=by
   have h3:rh.2.2.1≠0:=by rw[b3];exact b1
   unfold zB
   try dsimp only
   rw[if_pos (by intro hh;simp [h3] at hh),if_neg (by simp [h3])]
  rw[vQ e3,vQ e4]
  unfold qE
  rw[Option.bind_some,Option.bind_some]
  try dsimp only
  rw[if_pos (by simp [b3,b1])]
  exact⟨_,_,rfl,rfl,.inr ⟨b1,b3⟩⟩
end
end Go.Proofs.YtfchbnahjcdiiaaGreatDoor
namespace Go.Proofs.YtfchbnahjcdiiaaGreatDoor
open Vc
set_option maxRecDepth 100000
theorem a34 {α:Type}{f:Int→Option (Int⊕(Unit⊕Bool))}(l:List α) (hf: ∀(i:Nat) (h:i<l.length),f i=some (.inl (i+1))) (he:f l.length=some (.inr (.inl ()))):
  pT f 0=some (.inl ()):=by
 have h:=AM (f:=f) (l:=l) (fun _=>false) (fun _=>false) (fun i h=>by rw[if_neg Bool.false_ne_true];exact hf i h) he
 rw[h]
 have:l.findIdx? (fun _=>false)=none:=List.findIdx?_eq_none_iff.2 (fun _ _=>rfl)
 rw[this]
 rfl
theorem IT (l:List (List UInt8)) (hl:pQ l):uD l l=some true:=by
 unfold pQ at hl
 unfold uD
 rw[if_neg (by simp),a34 l (fun i h=>by
  unfold OE
  rw[if_pos (sX h),if_pos (qK h),if_pos (qK h),if_neg (by simp),if_pos (rS (by omega))]) (by
  unfold OE
  rw[if_neg (xQ _)])]
 rfl
theorem PV (l:List qP) (hl:pQ l):yE l l=some true:=by
 unfold pQ at hl
 unfold yE
 rw[if_neg (by simp),a34 l (fun i h=>by
  unfold OF
  rw[if_pos (sX h),if_pos (qK h),if_pos (qK h),if_neg (by simp),if_pos (rS (by omega))]) (by
  unfold OF
  rw[if_neg (xQ _)])]
 rfl
theorem aIU (y:pX) (h:IR y):HL y y=some ():=by
 unfold HL
 rw[IT _ h.1,IT _ h.2.1,PV _ h.2.2,if_pos u1,if_pos u1,if_pos u1]
theorem aCv (l:List pX) (hl:pQ l) (h: ∀y∈l,IR y):CQ l l=some true:=by
 unfold pQ at hl
 unfold CQ
 rw[if_neg (by simp),a34 l (fun i hi=>by
  have hy:=h l[i] (List.getElem_mem hi)
  unfold OM
  rw[if_pos (sX hi),if_pos (qK hi),if_pos (qK hi),yD (t:=qH) hi]
  rw[aIU _ hy,Option.bind_some,IT _ hy.1,IT _ hy.2.1,PV _ hy.2.2,if_neg (by simp [val]),if_pos (rS (by omega))]) (by
  unfold OM
  rw[if_neg (xQ _)])]
 rfl
end Go.Proofs.YtfchbnahjcdiiaaGreatDoor
namespace Go.Proofs.YtfchbnahjcdiiaaGreatDoor
open Vc
set_option maxRecDepth 1000000
theorem aIV:ID=some true:=by kernel_rfl
theorem aIW (s:List UInt8):GE s=some true:=by
 unfold GE
 rw[aIV,Option.bind_some,if_neg (by decide)]
 by_cases h:decide ((4000:Int)<(List.length s:Int))=true
 ·rw[if_pos h]
 ·rw[if_neg h]
  have hsm:s.length≤5000:=by simp at h;omega
  obtain⟨v,h1,h2,h3,h4,h5,h6⟩:=aIT hsm
  rw[h1,Option.bind_some,h2,Option.bind_some]
  have hE:I0 (v.1,(v.2.1,(v.2.2.1,(v.2.2.2.1,())))) (v.1,(v.2.1,(v.2.2.1,(v.2.2.2.1,()))))=some ():=by
   unfold I0 L2
   dsimp only
   rw[IT _ h3,PV _ h4,aCv _ h5 h6]
   rw[if_pos u1,if_pos u1,Option.bind_some,if_pos u1]
  rw[hE,if_pos u1,IT _ h3,PV _ h4,aCv _ h5 h6]
  simp [val]
end Go.Proofs.YtfchbnahjcdiiaaGreatDoor
namespace Go.Proofs.YtfchbnahjcdiiaaGreatDoor
open Go.ChangeShapes Go.WideShapes Go.ChangeAt Go.RowKit
section
variable {H:Type}{enc:TypeId×Value→H}{P:Program}
theorem aIX (hl:laidOutB P=true) {W W':World}(hb:Below W.heap.size W W'):
  ∀{ts:List TypeId}{vs:List Value}{ds:List (DataW H)}{ps:List MemPlace},(∀t∈ts,P.readableRec t=true∧t<P.types.size)→
  DataW.TrodAll enc P W 0 (fun _=>true) true ts vs ds ps→(∀x∈ps,x.block<W.heap.size)→
  DataW.TrodAll enc P W' 0 (fun b=>decide (b<W.heap.size)) true ts vs ds ps:=by
 intro ts
 induction ts with
 |nil=>
  intro vs ds ps _ h _
  obtain⟨rfl,rfl,rfl⟩:=trodAll_nil h
  exact trodAll_mk0
 |cons t ts ih=>
  intro vs ds ps hr h hlt
  obtain⟨v,vs',d,ds',p,q,rfl,rfl,rfl,h0,r0⟩:=trodAll_cons h
  exact trodAll_cons_mk (Below.trod hl (hr t (by simp)).1 (hr t (by simp)).2 h0 hb (fun x hx=>hlt x (by simp [hx]))) (ih (fun t' ht'=>hr t' (by simp [ht'])) r0 (fun x hx=>hlt x (by simp [hx])))
theorem aCw {f:Func}{s:ChangeSpec}{W W':World}{args:Array Value}{ds gs:List (DataW H)}{before:List MemPlace}{tb:TypeId}
  (hl:laidOutB P=true) (hr: ∀t∈f.params.toList,P.readableRec t=true∧t<P.types.size)
  (hW:DataW.Whole enc P f.params.toList s.vars false W args.toList ds gs before) (hv:s.vars=[])
  (hfn:s.fn H ds={results:=[.lit (.bool true)],args:=ds}) (hrt:f.resultTypes= #[tb]) (htb:P.underlying tb=some .bool)
  (hb:Below W.heap.size W W'):s.post enc P f false true false false W args (.bool true) W':=by
 have hW':=hW
 obtain⟨p,q,hA,hV,rfl,hfz,hnd⟩:=hW
 rw[hv] at hV
 obtain⟨rfl,rfl⟩:=trodVars_none hV
 have hlt: ∀x∈p,x.block<W.heap.size:=fun x hx=>by simpa using hW'.lt x (by simp [hx])
 refine⟨ds,[],p++[],[],p,[],hW',?_,?_,?_,hb.frame _,fun h=>by cases h⟩
 ·rw[List.append_nil,hfn,hrt]
  exact trodAll_mk1 (shut_bool htb true)
 ·rw[List.append_nil,hfn]
  exact aIX hl hb hr hA hlt
 ·rw[hv,List.append_nil,hfn]
  rfl
theorem aMh {C:Checked}{f:FuncId}{fn:Func}{s:ChangeSpec}{tb:TypeId}(own:ownKnob C.prog.godebug=none) {os:Os}(started:os.Started)
  (noInit:C.prog.inits.idxOf? f=none) (hfn:C.prog.funcs[f]? =some fn)
  (hl:laidOutB C.prog=true) (hr: ∀t∈fn.params.toList,C.prog.readableRec t=true∧t<C.prog.types.size) (hv:s.vars=[])
  (hrt:fn.resultTypes= #[tb]) (htb:C.prog.underlying tb=some .bool)
  (hspec: ∀(ds:List (DataW H)) (W:World) (args:Array Value) ps,DataW.TrodAll enc C.prog W 0 (fun _=>true) true fn.params.toList args.toList ds ps→s.fn H ds={results:=[.lit (.bool true)],args:=ds})
  (witness: ∃(w:World) (tape:Tape) (i:Input),w.os=os∧(w.forCall tape i).Shaped C.prog∧i.vars=[]∧Input.okWide C.prog (w.forCall tape i) .any w.heap.size f i∧
   s.pre6 enc C.prog fn [] false (w.forCall tape i).memory i.args∧Assume.holds {} C.prog (lone (Frame.enter C.prog f i.args .normal) [] (w.forCall tape i)))
  (contract: ∀(W:World) (base:Nat) (args:Array Value) (ds:List (DataW H)) (ps:List MemPlace),
   (∀(j:Nat) t v,fn.params[j]? =some t→args[j]? =some v→Value.okWide C.prog W .any base t v)→
   DataW.TrodAll enc C.prog W 0 (fun _=>true) true fn.params.toList args.toList ds ps→
   (∀x∈ps,x.block<W.heap.size)→
   (DataW.weightsEach C.prog fn.params.toList ds).all (·≤reachBytes)=true→
   Calls C.prog f args W fun e W'=>e= .returned (.bool true)∧Below W.heap.size W W'):
  ReturnsInHanded {} C os f .any (s.pre6 enc C.prog fn [] false) (s.post enc C.prog fn false true false false):=by
 refine returnsInHanded_of_change_sized (C:=C) own started noInit hfn witness ?_
 intro W base args ds gs before hval hW _ hsz _
 have hW':=hW
 obtain⟨p,q,hA,hV,rfl,hfz,hnd⟩:=hW
 have hvt:s.plain.varTypes C.prog=[]:=by
  simp [ChangeSpec.plain,hv];rfl
 rw[hv] at hV
 obtain⟨rfl,rfl⟩:=trodVars_none hV
 have hlt: ∀x∈p,x.block<W.heap.size:=fun x hx=>by simpa using hW'.lt x (by simp [hx])
 rw[hvt,List.append_nil,List.append_nil] at hsz
 refine(contract W base args ds p hval hA hlt hsz).mono fun e W' ⟨he,hb⟩=> ?_
 subst he
 exact⟨_,rfl,aCw hl hr hW' hv (hspec ds W args p hA) hrt htb hb⟩
end
end Go.Proofs.YtfchbnahjcdiiaaGreatDoor
namespace Go.Proofs.YtfchbnahjcdiiaaGreatDoor
open Go.ChangeShapes Go.WideShapes Go.ChangeAt Go.RowKit
section
variable {H:Type}{enc:TypeId×Value→H}
theorem aIY {C:Checked}{f:FuncId}{fn:Func}{s:ChangeSpec}{tb:TypeId}{BY:List (String×DataW Unit)}(own:ownKnob C.prog.godebug=none) {os:Os}(started:os.Started) (F:Stop.Interp)
  (noInit:C.prog.inits.idxOf? f=none) (hfn:C.prog.funcs[f]? =some fn)
  (hl:laidOutB C.prog=true) (hr: ∀t∈fn.params.toList,C.prog.readableRec t=true∧t<C.prog.types.size) (hv:s.vars=[])
  (hrt:fn.resultTypes= #[tb]) (htb:C.prog.underlying tb=some .bool)
  (hspec: ∀(ds:List (DataW H)) (W:World) (args:Array Value) ps,DataW.TrodAll enc C.prog W 0 (fun _=>true) true fn.params.toList args.toList ds ps→s.fn H ds={results:=[.lit (.bool true)],args:=ds})
  (witness: ∃(w:World) (tape:Tape) (i:Input),w.os=os∧(w.forCall tape i).Shaped C.prog∧i.vars=[]∧Input.okWide C.prog (w.forCall tape i) .any w.heap.size f i∧
   (OpenSpec.ofChange s).preRow enc C.prog fn [] false BY (w.forCall tape i).memory i.args∧Assume.holds {} C.prog (lone (Frame.enter C.prog f i.args .normal) [] (w.forCall tape i)))
  (contract: ∀(W:World) (base:Nat) (args:Array Value) (ds:List (DataW H)) (ps:List MemPlace),
   (∀(j:Nat) t v,fn.params[j]? =some t→args[j]? =some v→Value.okWide C.prog W .any base t v)→
   DataW.TrodAll enc C.prog W 0 (fun _=>true) true fn.params.toList args.toList ds ps→
   (∀x∈ps,x.block<W.heap.size)→laidMetH C.prog BY W→W.ShapedOpen C.prog→
   Calls C.prog f args W fun e W'=>e= .returned (.bool true)∧Below W.heap.size W W'):
  ReturnsInHanded {} C os f .any ((OpenSpec.ofChange s).preRow enc C.prog fn [] false BY) (s.post enc C.prog fn false true false false):=by
 refine returnsInHanded_of_row (C:=C) (s:=OpenSpec.ofChange s) (F:=F) own started noInit hfn witness ?_
 intro W base args ds gs before hval hW _ _ hsz hL hsh _
 have hW':=hW
 obtain⟨p,q,hA,hV,rfl,hfz,hnd⟩:=hW
 have hV':DataW.TrodVars enc C.prog W (fun _=>true) s.vars gs q:=hV
 rw[hv] at hV'
 obtain⟨rfl,rfl⟩:=trodVars_none hV'
 have hlt: ∀x∈p,x.block<W.heap.size:=fun x hx=>by simpa using hW'.lt x (by simp [hx])
 refine(contract W base args ds p hval hA hlt hL hsh).mono fun e W' ⟨he,hb⟩=> ?_
 subst he
 exact⟨_,rfl,aCw hl hr hW' hv (hspec ds W args p hA) hrt htb hb⟩
end
end Go.Proofs.YtfchbnahjcdiiaaGreatDoor
namespace Go.Proofs.YtfchbnahjcdiiaaGreatDoor
open Go.Shelf Go.Lib
open Vc
set_option maxRecDepth 100000
theorem aIZ:(Rows.laid_unicode_utf8_first:DataW Unit)=Lib.firstData:=by kernel_rfl
theorem aI0:(Rows.laid_unicode_utf8_acceptRanges:DataW Unit)=Lib.acceptData:=by kernel_rfl
theorem aI1 {P:Program}{w:World}{g:Nat}{t:TypeId}{k:IntKind}{zero:Array Value}(h:w.ShapedOpen P) (hg:g<P.globals.size)
  (h0:((begin P (fun _ _=>0) default).world.heap[g]?).bind Obj.row? =some (zero,t)) (hz:zero.size=1)
  (hb:P.buildable t=true) (hc:P.cellTypes P.depth t=some [t]) (hu:P.underlying t=some (.int k)): ∃m,w.cell? ⟨g,0,none⟩=some (.int k m):=by
 obtain⟨cs,hh,hs,hr⟩:=h.1 g zero t hg h0
 obtain⟨ts,hts,_,hall⟩:=hr hb
 rw[hc] at hts
 cases hts
 have h1:0<cs.size:=by omega
 obtain⟨u,hu',hok⟩:=hall 0 cs[0] (by simp [h1])
 have:u=t:=by simpa using hu'.symm
 subst this
 have hcell:w.cell? ⟨g,0,none⟩=some cs[0]:=by simp [World.cell?,hh,h1]
 rw[hcell]
 unfold Cell.ok at hok
 rw[hu] at hok
 cases hv:cs[0]<;>rw[hv] at hok<;>simp at hok
 rename_i k' m
 exact⟨m,by rw[hok.1]⟩
theorem aI2 {W:World}(hsh:W.ShapedOpen Tryz.prog): ∃m,W.cell? ⟨0,0,none⟩=some (.int .i64 m):=
 aI1 (t:=3) (zero:= #[.int .i64 0]) hsh (of_decide_eq_true (by kernel_rfl)) (by kernel_rfl) rfl (by kernel_rfl) (by kernel_rfl) Tryz.underlying3
def aI3:Ren:=⟨fun x=>x,fun x=>if x=5 then 5 else if x=119 then 224 else if x=138 then 226 else 227,fun x=>if x=3 then 1 else 2⟩
theorem a35 {w:World}{a:Addr}{v:Value}(h:w.cell? a=some v):a.block<w.heap.size:=by
 unfold World.cell? at h
 split at h
 ·rename_i hb;exact(Array.getElem?_eq_some_iff.1 hb).1
 ·cases h
theorem aI4 {W:World}(hL:laidMet Tryz.prog Rows.treeParseRow.laid W) (hsh:W.ShapedOpen Tryz.prog):Tabs W:=by
 obtain⟨m,hm⟩:=aI2 hsh
 have h1:=laidMet.reads hL (.head _)
 have h2:=laidMet.reads hL (.tail _ (.head _))
 rw[aIZ] at h2
 rw[aI0] at h1
 have hU:Lib.Utf8Tabs 1 2 W:=utf8Tabs_of_readsT (ρ:=aI3) ⟨by kernel_rfl,by kernel_rfl,by kernel_rfl,by kernel_rfl⟩ ⟨by kernel_rfl,by kernel_rfl,by kernel_rfl,by kernel_rfl,by kernel_rfl,by kernel_rfl,by kernel_rfl⟩ h2 h1
 refine⟨?_,hU,m,hm⟩
 have b0:0<W.heap.size:=a35 hm
 have b1:1<W.heap.size:=a35 (hU.1 0 (by decide))
 have b2:2<W.heap.size:=a35 (hU.2 0 (by decide)).1
 show 3≤W.heap.size
 omega
end Go.Proofs.YtfchbnahjcdiiaaGreatDoor
namespace Go.Proofs.YtfchbnahjcdiiaaGreatDoor
open Vc
open Go.ChangeShapes Go.WideShapes Go.ChangeAt Go.RowKit
set_option maxRecDepth 100000
def gh1 (w:World):Gh:=⟨fun b _=>b<w.heap.size,fun _=>none,fun _ _=>none⟩
theorem aI6 {W:World}(hT:Tabs W) (s:ByteArray):
  Calls Tryz.prog 3 #[.string s] W fun e W'=>e= .returned (.bool true)∧Below W.heap.size W W':=by
 have hC:a3v (LD s.data.toList) OX=some (IE s.data.toList):=aGQ _
 have ht:=aIW s.data.toList
 refine(aGS.1.2 (gh1 W) W (LD s.data.toList) [.string s] [] _ ⟨(fun i b h=>by cases h),(fun i j bi bj b o _ h=>by cases h),fun b o h=>h,hT,(fun i blk b o h=>by cases h)⟩ ⟨.string s,[],rfl,?_,rfl⟩ hC ?_).mono fun e W' ⟨v,g',he,r⟩=> ?_
 ·refine⟨?_,trivial⟩
  refine .inr ⟨rfl,?_⟩
  show [Value.string s]=[Value.string ⟨s.data.toList.toArray⟩]
  rw[Array.toArray_toList]
 ·intro p hp
  have:p=((GE s.data.toList).isSome=true):=by simpa[IE] using hp
  rw[this,ht];rfl
 ·have hv:v= .bool true:=by
   have h1:=r.ret
   unfold IE at h1
   rw[ht] at h1
   exact tX h1.1
  subst hv
  exact⟨he,⟨r.fr.os,r.fr.tape,r.fr.output,r.fr.size,fun k hk=>r.fr.blk k hk (fun o ⟨i,blk,hi,_⟩=>by cases hi)⟩⟩
end Go.Proofs.YtfchbnahjcdiiaaGreatDoor
namespace Go.Proofs.YtfchbnahjcdiiaaGreatDoor
open Go.ChangeShapes Go.WideShapes Go.ChangeAt Go.RowKit Go.Lib
open Go.ChangeMaps (open_string shut_string)
set_option maxRecDepth 100000
namespace treeParseLaw
theorem own:ownKnob Tryz.prog.godebug=none:=by kernel_rfl
theorem BY:laidOutB Tryz.prog=true:=by kernel_rfl
theorem aI7:Tryz.prog.readableRec 9=true:=by kernel_rfl
theorem ltS:9<Tryz.prog.types.size:=of_decide_eq_true (by kernel_rfl)
noncomputable def PW (os:Os):World:=
 let w0:=World.holding Tryz.prog os ⟨#[],#[],[]⟩
 let sJ (h:Array Obj) (g:Nat) (cs:Array Value):Array Obj:=h.modify g fun
  | .cells _ t frozen=> .cells cs t frozen
  |o=>o
 let h1:=sJ w0.heap 1 (Lib.firstTab.map fun z=>Value.int .u8 z).toArray
 let h2:=sJ h1 2 ((List.range 16).flatMap fun i=>[Value.int .u8 (Lib.accLo i),Value.int .u8 (Lib.accHi i)]).toArray
 {w0 with heap:=h2}
theorem aI9 (os:Os) (args:Array Value):laidMet Tryz.prog Rows.treeParseRow.laid ((PW os).forCall (fun _ _=>0) ⟨#[],args,[]⟩).memory:=
 (LaidIn.of_run [2,1] 8 (by kernel_rfl) (by kernel_rfl) (by kernel_rfl) (by kernel_rfl):LaidIn Tryz.prog _ Rows.treeParseRow.laid _).met
theorem aJa (os:Os) {H:Type}(enc:TypeId×Value→H):
  (OpenSpec.ofChange Rows.treeParseSpec).preRow enc Tryz.prog Tryz.f3 [] false Rows.treeParseRow.laid ((PW os).forCall (fun _ _=>0) ⟨#[],#[.string ⟨#[]⟩],[]⟩).memory #[.string ⟨#[]⟩]:=by
 have hw:(DataW.whole enc Tryz.prog ((PW os).forCall (fun _ _=>0) ⟨#[],#[.string ⟨#[]⟩],[]⟩).memory Tryz.f3.params.toList (OpenSpec.ofChange Rows.treeParseSpec).vars false #[Value.string ⟨#[]⟩].toList 8).map (fun x=>(x.1,x.2.1))=
   some ([.lit (.string [])],[]):=by kernel_rfl
 obtain⟨⟨x1,x2,x3⟩,hx,hx1⟩:=Option.map_eq_some_iff.1 hw
 simp only[Prod.mk.injEq] at hx1
 obtain⟨rfl,rfl⟩:=hx1
 exact OpenSpec.preRow_of_cond 8 hx (by kernel_rfl) (fun k hk=>by cases hk) (by kernel_rfl) (aI9 os _)
theorem lifted (os:Os) (started:os.Started) (H:Type) (enc:TypeId×Value→H) (F:Stop.Interp):
  ReturnsInHanded {} Tryz.checked os 3 .any ((OpenSpec.ofChange Rows.treeParseSpec).preRow enc Tryz.prog Tryz.f3 [] false Rows.treeParseRow.laid) (Rows.treeParseSpec.post enc Tryz.prog Tryz.f3 false true false false):=by
 refine aIY (C:=Tryz.checked) (tb:=4) own started F (by kernel_rfl) Tryz.func3 BY ?_ rfl rfl Tryz.underlying4 ?_
  (witness_row_atRef (enc:=enc) (C:=Tryz.checked) false (PW os) #[.string ⟨#[]⟩] rfl (by kernel_rfl) (by kernel_rfl) (by kernel_rfl) (aJa os enc)) ?_
 ·intro t ht
  rw[Tryz.params3] at ht
  simp only[List.mem_cons,List.not_mem_nil,or_false] at ht
  rcases ht with rfl
  exact⟨aI7,ltS⟩
 ·intro ds W args ps h
  have h':DataW.TrodAll enc Tryz.prog W 0 (fun _=>true) true Tryz.f3.params.toList args.toList ds ps:=h
  rw[Tryz.params3] at h'
  obtain⟨v0,d0,rfl,rfl,h0⟩:=trodAll_one h'
  rfl
 ·intro W base args ds ps hval0 hA0 hlt hL hsh
  have hval: ∀(j:Nat) t v,Tryz.f3.params[j]? =some t→args[j]? =some v→Value.okWide Tryz.prog W .any base t v:=hval0
  have hA:DataW.TrodAll enc Tryz.prog W 0 (fun _=>true) true Tryz.f3.params.toList args.toList ds ps:=hA0
  rw[Tryz.params3] at hA hval
  obtain⟨v0,d0,rfl,rfl,h0⟩:=trodAll_one hA
  obtain⟨s,rfl,rfl,rfl,ws⟩:=open_string Tryz.underlying9 (hval 0 9 v0 rfl rfl) h0
  exact aI6 (aI4 hL hsh) s
end treeParseLaw
theorem aCx:Rows.TreeParseSaid:=
 OpenClaim.holds_of_wide 3 Tryz.f3 rfl rfl rfl rfl rfl rfl rfl ⟨rfl,rfl,rfl,rfl,rfl⟩ rfl rfl rfl rfl rfl (by kernel_rfl) Tryz.func3 (by kernel_rfl)
  (of_decide_eq_true (by kernel_rfl)) (by unfold Func.isWrapper;first|(rw[if_pos (by decide+kernel)];kernel_rfl) |(rw[if_neg (by decide+kernel)];exact⟨rfl,rfl⟩))
  (fun os started H enc _=>by rw[OpenClaim.pre_eq_preRow];exact treeParseLaw.lifted os started H enc (fun _ _ _=>0))
#print axioms aCx
end Go.Proofs.YtfchbnahjcdiiaaGreatDoor
namespace Go.Proofs.YtfchbnahjcdiiaaGreatDoor
open Go
set_option maxRecDepth 100000
theorem treeParseCard_holds:Rows.TreeParseCardSaid:=
 Claim7.holds_tied_plain_at .later [] [.data,.pinned] true (true, "146bb05169042bd84b58c90b8373b19d6ea2c804118574bd5c158f8fcdc71822") false
  aCx (fun _ h=>by cases h) (by kernel_rfl) (fun _ h=>by cases h) treeParse_row_tie rfl ⟨rfl,rfl⟩ (by kernel_rfl) rfl
  (fun f fn hf hfn=>by
   obtain rfl:f=3:=Option.some.inj ((show Tryz.prog.funcNamed "calque/calquelaw40.TreeParse" =some 3 by kernel_rfl).symm.trans hf) |>.symm
   obtain rfl:fn=Tryz.f3:=(Option.some.inj (Tryz.func3.symm.trans hfn)).symm
   exact⟨by kernel_rfl,fun j t ht=>by
    rw[Tryz.params3] at ht
    have hm:t∈[9]:=by simpa using Array.mem_of_getElem? ht
    have hall:([9].all fun u=> !Tryz.prog.wantsStandIn u)=true:=by kernel_rfl
    exact(show Tryz.prog.wantsStandIn t=false by simpa using List.all_eq_true.1 hall t hm)⟩)
  (by kernel_rfl)
#print axioms treeParseCard_holds
end Go.Proofs.YtfchbnahjcdiiaaGreatDoor
