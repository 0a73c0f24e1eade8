/- TreePrint returns true for every catalog (Print gives the canonical body and Pieces its pieces, or ErrArg): the tied card of the statement, over the row's statement. No condition. -/
/- Packed by a program of mine (wip/tools/pack.py): the same texts with short names and few blanks. -/
import Derived.Deep.CondSized
import Derived.Deep.DeepHandedRow
import Derived.Deep.DeepWitnessRowRef
import Derived.KernelRfl
import Derived.Laws.BitsLemmas
import Derived.Lib.Index
import Derived.Lib.IndexAny
import Derived.Lib.LaidIn
import Derived.Lib.LaidTab
import Derived.Lib.LaidU8T
import Derived.OpenShut
import Derived.ProofKit
import Derived.SevenTiedAt
import Derived.SizedLaws
import Derived.Sort.Walk0
import Derived.Test.YtbbpilohihldiaaGreatDoorCards
import Derived.Test.YtbbpilohihldiaaGreatDoorRows
import Derived.Test.YtbbpilohihldiaaGreatDoorTie
import Derived.WalkKit
import Derived.Test.YtbbpilohihldiaaGreatDoorU03
set_option linter.unusedVariables false
set_option linter.unusedSimpArgs false
set_option linter.unusedSectionVars false
namespace Go.Proofs.YtbbpilohihldiaaGreatDoor
open Vc
set_option maxRecDepth 100000
set_option maxHeartbeats 4000000
set_option linter.unusedSimpArgs false
set_option linter.unusedVariables false
noncomputable section
def vY (O:((List UInt8)×(Int×Unit))) (Z:qM) (aA:Int) (aB:Int) (aC:q9) (aD:((List Int)×(Int×Unit))) (aE:(List UInt8)) (aF:(List UInt8)) (aG:(List UInt8)) (aH:(List (List UInt8))) (aI:(Int×((List pO)×Unit))) (aJ:Bool) (aK:(List ((List UInt8)×Bool))) (aL:(List (List UInt8))) (aM:(List ((List UInt8)×Bool))):Option (Int×Int×(List UInt8)×Int×Int×Int×Int×Int×(List (List UInt8))):=
 qD (σ:=(Int×Int)) (
   if (decide ((List.length aH:Int)=(20:Int)))=true then
    qK (sM O Z aA aB aC aD (6:Int) aK) fun aN=>
    some ((aN.1,aN.2))
   else
    some ((aA,aB))
  ) fun(aO,aP)=>
 (rC (O.1,(O.2.1,())) (Z.1,(Z.2.1,(Z.2.2.1,(Z.2.2.2.1,())))) aO aP (aC.1,(aC.2.1,(aC.2.2.1,(aC.2.2.2.1,())))) (aD.1,(aD.2.1,())) aK).bind fun aQ=>
 (vL (O.1,(aQ.1,())) (aQ.2.1,(aQ.2.2.1,(aQ.2.2.2.1,(aQ.2.2.2.2.1,())))) aO aP (aC.1,(aC.2.1,(aC.2.2.1,(aC.2.2.2.1,())))) (aD.1,(aQ.2.2.2.2.2,())) aK).bind fun aR=>
 if (List.length aH+List.length ([aQ.2.2.1]:List (List UInt8)))*16≤140737488355328 then
  some ((aR.1,aR.2.1,aR.2.2.1,aR.2.2.2.1,aR.2.2.2.2.1,aR.2.2.2.2.2.1,aR.2.2.2.2.2.2.1,aR.2.2.2.2.2.2.2,(aH++([aQ.2.2.1]:List (List UInt8)))))
 else none
section
variable (O:((List UInt8)×(Int×Unit))) (Z:qM) (aA:Int) (aB:Int) (aC:q9) (aD:((List Int)×(Int×Unit))) (aE:Nat) (aF:Nat) (aG:(List UInt8)) (aH:(List UInt8)) (aI:(List UInt8)) (aJ:(List (List UInt8))) (aK:Nat) (aL:(Int×((List pO)×Unit))) (aM:Bool) (aN:Nat) (aO:Nat) (aP:(List ((List UInt8)×Bool))) (aQ:(List (List UInt8))) (aR:Nat) (aS:(List ((List UInt8)×Bool)))
@[reducible] def a6i:List Slot:=[(.val .ref (some (0,0)),none),(.val .ref (some (3,0)),none)]
@[reducible] def a6j:List Blk:=[.cells qI (O,(Z,(aA,(aB,(aC,((some 6),aD)))))) [(11,1),(13,2)],.grow 55 7 aE,.grow 3 1 aF,.cells rS ((aG,(aH,(aI,(aJ,((some (7,aK)),aL))))),(aM,((some 8),()))) [(3,4),(6,5)],.grow 9 1 aN,.grow 149 2 aO,.map .str .bool aP,.row 9 .str aQ aR,.map .str .bool aS]
@[go_sem] def a6k:Ret:=⟨[aE=(List.length aC.2.2.2.1),aF=(List.length aD.1),aN=(List.length aJ),aO=(List.length aL.2.1),aK=aR,((vY O Z aA aB aC aD aG aH aI aJ aL aM aP aQ aS)).isSome=true],[],[.cells qI ((O.1,((val (vY O Z aA aB aC aD aG aH aI aJ aL aM aP aQ aS)).1,())),(((val (vY O Z aA aB aC aD aG aH aI aJ aL aM aP aQ aS)).2.1,((val (vY O Z aA aB aC aD aG aH aI aJ aL aM aP aQ aS)).2.2.1,((val (vY O Z aA aB aC aD aG aH aI aJ aL aM aP aQ aS)).2.2.2.1,((val (vY O Z aA aB aC aD aG aH aI aJ aL aM aP aQ aS)).2.2.2.2.1,())))),((val (vY O Z aA aB aC aD aG aH aI aJ aL aM aP aQ aS)).2.2.2.2.2.1,((val (vY O Z aA aB aC aD aG aH aI aJ aL aM aP aQ aS)).2.2.2.2.2.2.1,((aC.1,(aC.2.1,(aC.2.2.1,(aC.2.2.2.1,())))),((some 6),(aD.1,((val (vY O Z aA aB aC aD aG aH aI aJ aL aM aP aQ aS)).2.2.2.2.2.2.2.1,())))))))) [(11,1),(13,2)],.grow 55 7 (List.length aC.2.2.2.1),.grow 3 1 (List.length aD.1),.cells rS ((aG,(aH,(aI,((val (vY O Z aA aB aC aD aG aH aI aJ aL aM aP aQ aS)).2.2.2.2.2.2.2.2,((some (7,(List.length aQ))),(aL.1,(aL.2.1,()))))))),(aM,((some 8),()))) [(3,4),(6,5)],.grow 9 1 (List.length ((val (vY O Z aA aB aC aD aG aH aI aJ aL aM aP aQ aS)).2.2.2.2.2.2.2.2)),.grow 149 2 (List.length aL.2.1),.map .str .bool aP,.row 9 .str aQ (List.length aQ),.map .str .bool aS]⟩
def aFg:List Slot→List Blk→Option Ret:=pS (V:=(((List UInt8)×(Int×Unit))×qM×Int×Int×q9×((List Int)×(Int×Unit))×Nat×Nat×(List UInt8)×(List UInt8)×(List UInt8)×(List (List UInt8))×Nat×(Int×((List pO)×Unit))×Bool×Nat×Nat×(List ((List UInt8)×Bool))×(List (List UInt8))×Nat×(List ((List UInt8)×Bool)))) (fun x=>a6i) (fun x=>a6j x.1 x.2.1 x.2.2.1 x.2.2.2.1 x.2.2.2.2.1 x.2.2.2.2.2.1 x.2.2.2.2.2.2.1 x.2.2.2.2.2.2.2.1 x.2.2.2.2.2.2.2.2.1 x.2.2.2.2.2.2.2.2.2.1 x.2.2.2.2.2.2.2.2.2.2.1 x.2.2.2.2.2.2.2.2.2.2.2.1 x.2.2.2.2.2.2.2.2.2.2.2.2.1 x.2.2.2.2.2.2.2.2.2.2.2.2.2.1 x.2.2.2.2.2.2.2.2.2.2.2.2.2.2.1 x.2.2.2.2.2.2.2.2.2.2.2.2.2.2.2.1 x.2.2.2.2.2.2.2.2.2.2.2.2.2.2.2.2.1 x.2.2.2.2.2.2.2.2.2.2.2.2.2.2.2.2.2.1 x.2.2.2.2.2.2.2.2.2.2.2.2.2.2.2.2.2.2.1 x.2.2.2.2.2.2.2.2.2.2.2.2.2.2.2.2.2.2.2.1 x.2.2.2.2.2.2.2.2.2.2.2.2.2.2.2.2.2.2.2.2) fun x=>a6k x.1 x.2.1 x.2.2.1 x.2.2.2.1 x.2.2.2.2.1 x.2.2.2.2.2.1 x.2.2.2.2.2.2.1 x.2.2.2.2.2.2.2.1 x.2.2.2.2.2.2.2.2.1 x.2.2.2.2.2.2.2.2.2.1 x.2.2.2.2.2.2.2.2.2.2.1 x.2.2.2.2.2.2.2.2.2.2.2.1 x.2.2.2.2.2.2.2.2.2.2.2.2.1 x.2.2.2.2.2.2.2.2.2.2.2.2.2.1 x.2.2.2.2.2.2.2.2.2.2.2.2.2.2.1 x.2.2.2.2.2.2.2.2.2.2.2.2.2.2.2.1 x.2.2.2.2.2.2.2.2.2.2.2.2.2.2.2.2.1 x.2.2.2.2.2.2.2.2.2.2.2.2.2.2.2.2.2.1 x.2.2.2.2.2.2.2.2.2.2.2.2.2.2.2.2.2.2.1 x.2.2.2.2.2.2.2.2.2.2.2.2.2.2.2.2.2.2.2.1 x.2.2.2.2.2.2.2.2.2.2.2.2.2.2.2.2.2.2.2.2
@[go_sem] theorem aRq:aFg (no_index a6i) (no_index (a6j O Z aA aB aC aD aE aF aG aH aI aJ aK aL aM aN aO aP aQ aR aS))=some (a6k O Z aA aB aC aD aE aF aG aH aI aJ aK aL aM aN aO aP aQ aR aS):=pT (fun⟨a0,a1,a2,a3,a4,a5,a6,a7,a8,a9,a10,a11,a12,a13,a14,a15,a16,a17,a18,a19,a20⟩ ⟨b0,b1,b2,b3,b4,b5,b6,b7,b8,b9,b10,b11,b12,b13,b14,b15,b16,b17,b18,b19,b20⟩ h1 h2=>by cases h1;cases h2;rfl) (O,Z,aA,aB,aC,aD,aE,aF,aG,aH,aI,aJ,aK,aL,aM,aN,aO,aP,aQ,aR,aS)
end
@[reducible,go_sem] def a6l:Nat×Sig:=(213,⟨[.p qI [11,13],.p rS [3,6]],aFg,[(0,12,.m),(3,4,.r),(3,8,.m)],[1,2,5,6,7,8],none⟩)
theorem aFh:Env Tryz.prog [] (pK [xF,vX,E9]):=⟨trivial,pA C7 (pA BF (pA SJ pV)),pN⟩
theorem SL:Env Tryz.prog [sK,B3,zP] (pK [xF,vX,E9]):=⟨⟨sU,⟨DE,⟨B2,trivial⟩⟩⟩,aFh.Γ,pN⟩
theorem aL1:pM Tryz.prog a6l:=by
 refine pU aFh Tryz.func213 (c:=_) rfl (N:=28) (by kernel_rfl) (ts:=[]) rfl (fun _ _=>rfl) ?_
 intro⟨O,Z,aA,aB,aC,aD,aE,aF,aG,aH,aI,aJ,aK,aL,aM,aN,aO,aP,aQ,aR,aS⟩ hs hrow
 dsimp only[a6i,a6j,a6k,pP,enumH,pG,pL,pR,Nat.reduceAdd] at hs hrow⊢
 obtain⟨rfl,rfl,rfl,rfl,rfl,hz⟩:=hs
 obtain⟨rfl,_⟩:=hrow
 obtain⟨z0,hC0⟩:=Option.isSome_iff_exists.1 hz
 try rw[q7 hC0]
 clear hz
 unfold vY at hC0
 refine pC ?_
 refine p4 SL ?_
 obtain⟨y1,hC1,hC0⟩:=p7 hC0
 refine wH (fun s=>s=(fun x=>⟨[(0,(.val .ref (some (0,0)),none)),(1,(.val .ref (some (3,0)),none))],[(0,.cells qI ((O.1,(O.2.1,())),((Z.1,(Z.2.1,(Z.2.2.1,(Z.2.2.2.1,())))),(x.1,(x.2,((aC.1,(aC.2.1,(aC.2.2.1,(aC.2.2.2.1,())))),((some 6),(aD.1,(aD.2.1,())))))))) [(11,1),(13,2)]),(1,.grow 55 7 (List.length aC.2.2.2.1)),(2,.grow 3 1 (List.length aD.1)),(3,.cells rS ((aG,(aH,(aI,(aJ,((some (7,(List.length aQ))),(aL.1,(aL.2.1,()))))))),(aM,((some 8),()))) [(3,4),(6,5)]),(4,.grow 9 1 (List.length aJ)),(5,.grow 149 2 (List.length aL.2.1)),(6,.map .str .bool aP),(7,.row 9 .str aQ (List.length aQ)),(8,.map .str .bool aS)],9,28,9⟩) y1) ?_ ?_
 ·refine pB hC1 (fun hC1 hc1=> ?_) (fun hC1 hc1=> ?_)
  ·obtain⟨aT,hw_40,hC1⟩:=u6 hC1
   try simp only[go_sem] at hw_40
   refine pW SL ?_ (hp:=by exact And.intro (by first|exact rfl|exact trivial) (And.intro (by first|exact rfl|exact trivial) (And.intro (by first|exact rfl|exact trivial) (And.intro (by first|exact rfl|exact trivial) ((by first|exact rfl|exact trivial)))))) (h:=by simp only[go_sem,hw_40];rfl)
   cases hC1
   exact rV ⟨⟨[0,1],[(0,0),(1,1),(2,2),(3,3),(4,4),(5,5),(6,6),(7,7),(8,8)]⟩,by rfl⟩
  ·refine pJ ?_
   cases hC1
   exact rV ⟨⟨[0,1],[(0,0),(1,1),(2,2),(3,3),(4,4),(5,5),(6,6),(7,7),(8,8)]⟩,by rfl⟩
 ·rintro _ rfl
  obtain⟨aU,aV⟩:=y1
  dsimp only at hC0⊢
  refine p9 ?_
  obtain⟨aW,hv1,hw1,hC0⟩:=pE hC0
  try simp only[go_sem] at hw1
  refine p4 SL ?_ (hp:=by exact And.intro (by first|exact rfl|exact trivial) (And.intro (by first|exact rfl|exact trivial) (And.intro (by first|exact rfl|exact trivial) (And.intro (by first|exact rfl|exact trivial) (And.intro (by first|exact rfl|exact trivial) ((pD hv1))))))) (h:=by simp only[go_sem,hw1];rfl)
  obtain⟨aX,hv2,hw2,hC0⟩:=pE hC0
  try simp only[go_sem] at hw2
  obtain⟨hg3,hC0⟩:=p6 hC0
  refine AX SL ?_ (hp:=by exact And.intro (by first|exact rfl|exact trivial) (And.intro (by first|exact rfl|exact trivial) (And.intro (by first|exact rfl|exact trivial) (And.intro (by first|exact rfl|exact trivial) (And.intro (by first|exact rfl|exact trivial) (And.intro (pD hv2) (And.intro (by first|exact rfl|exact trivial) (hg3)))))))) (h:=by simp only[go_sem,hw2];rfl)
  cases hC0
  exact⟨[(0,0),(1,1),(2,2),(3,3),(4,4),(5,5),(6,6),(7,7),(8,8)],by rfl,by rfl,by rfl⟩
attribute [irreducible] vY
def xN (O:((List UInt8)×(Int×Unit))) (Z:qM) (aA:Int) (aB:Int) (aC:q9) (aD:((List Int)×(Int×Unit))) (aE:(List UInt8)) (aF:(List UInt8)) (aG:(List UInt8)) (aH:(List (List UInt8))) (aI:(Int×((List pO)×Unit))) (aJ:Bool) (aK:(List ((List UInt8)×Bool))) (aL:(List (List UInt8))) (aM:(List ((List UInt8)×Bool))):Option (Int×Int×(List UInt8)×Int×Int×Int×Int×Int×(List pO)):=
 (rC O Z aA aB aC aD aK).bind fun aN=>
 (z6 (O.1,(aN.1,())) (aN.2.1,(aN.2.2.1,(aN.2.2.2.1,(aN.2.2.2.2.1,())))) aA aB (aC.1,(aC.2.1,(aC.2.2.1,(aC.2.2.2.1,())))) (aD.1,(aN.2.2.2.2.2,())) (1:Int) (decide ((List.length aI.2.1:Int)=(20:Int))) aK aE aF aG aH aI aJ aL aM).bind fun aO=>
 (vL (O.1,(aO.1,())) (aO.2.1,(aO.2.2.1,(aO.2.2.2.1,(aO.2.2.2.2.1,())))) aO.2.2.2.2.2.1 aO.2.2.2.2.2.2.1 (aC.1,(aC.2.1,(aC.2.2.1,(aC.2.2.2.1,())))) (aD.1,(aO.2.2.2.2.2.2.2,())) aK).bind fun aP=>
 (FJ aI.2.1 aN.2.2.1 aO.2.2.1).bind fun aQ=>
 some ((aP.1,aP.2.1,aP.2.2.1,aP.2.2.2.1,aP.2.2.2.2.1,aP.2.2.2.2.2.1,aP.2.2.2.2.2.2.1,aP.2.2.2.2.2.2.2,aQ))
section
variable (O:((List UInt8)×(Int×Unit))) (Z:qM) (aA:Int) (aB:Int) (aC:q9) (aD:((List Int)×(Int×Unit))) (aE:Nat) (aF:Nat) (aG:(List UInt8)) (aH:(List UInt8)) (aI:(List UInt8)) (aJ:(List (List UInt8))) (aK:Nat) (aL:(Int×((List pO)×Unit))) (aM:Bool) (aN:Nat) (aO:Nat) (aP:(List ((List UInt8)×Bool))) (aQ:(List (List UInt8))) (aR:Nat) (aS:(List ((List UInt8)×Bool)))
@[reducible] def a6m:List Slot:=[(.val .ref (some (0,0)),none),(.val .ref (some (3,0)),none)]
@[reducible] def a6n:List Blk:=[.cells qI (O,(Z,(aA,(aB,(aC,((some 6),aD)))))) [(11,1),(13,2)],.grow 55 7 aE,.grow 3 1 aF,.cells rS ((aG,(aH,(aI,(aJ,((some (7,aK)),aL))))),(aM,((some 8),()))) [(3,4),(6,5)],.grow 9 1 aN,.grow 149 2 aO,.map .str .bool aP,.row 9 .str aQ aR,.map .str .bool aS]
@[go_sem] def a6o:Ret:=⟨[aE=(List.length aC.2.2.2.1),aF=(List.length aD.1),aN=(List.length aJ),aO=(List.length aL.2.1),aK=aR,((xN O Z aA aB aC aD aG aH aI aJ aL aM aP aQ aS)).isSome=true],[],[.cells qI ((O.1,((val (xN O Z aA aB aC aD aG aH aI aJ aL aM aP aQ aS)).1,())),(((val (xN O Z aA aB aC aD aG aH aI aJ aL aM aP aQ aS)).2.1,((val (xN O Z aA aB aC aD aG aH aI aJ aL aM aP aQ aS)).2.2.1,((val (xN O Z aA aB aC aD aG aH aI aJ aL aM aP aQ aS)).2.2.2.1,((val (xN O Z aA aB aC aD aG aH aI aJ aL aM aP aQ aS)).2.2.2.2.1,())))),((val (xN O Z aA aB aC aD aG aH aI aJ aL aM aP aQ aS)).2.2.2.2.2.1,((val (xN O Z aA aB aC aD aG aH aI aJ aL aM aP aQ aS)).2.2.2.2.2.2.1,((aC.1,(aC.2.1,(aC.2.2.1,(aC.2.2.2.1,())))),((some 6),(aD.1,((val (xN O Z aA aB aC aD aG aH aI aJ aL aM aP aQ aS)).2.2.2.2.2.2.2.1,())))))))) [(11,1),(13,2)],.grow 55 7 (List.length aC.2.2.2.1),.grow 3 1 (List.length aD.1),.cells rS ((aG,(aH,(aI,(aJ,((some (7,(List.length aQ))),(aL.1,((val (xN O Z aA aB aC aD aG aH aI aJ aL aM aP aQ aS)).2.2.2.2.2.2.2.2,()))))))),(aM,((some 8),()))) [(3,4),(6,9)],.grow 9 1 (List.length aJ),.grow 149 2 (List.length aL.2.1),.map .str .bool aP,.row 9 .str aQ (List.length aQ),.map .str .bool aS,.grow 149 2 (List.length ((val (xN O Z aA aB aC aD aG aH aI aJ aL aM aP aQ aS)).2.2.2.2.2.2.2.2))]⟩
def aFi:List Slot→List Blk→Option Ret:=pS (V:=(((List UInt8)×(Int×Unit))×qM×Int×Int×q9×((List Int)×(Int×Unit))×Nat×Nat×(List UInt8)×(List UInt8)×(List UInt8)×(List (List UInt8))×Nat×(Int×((List pO)×Unit))×Bool×Nat×Nat×(List ((List UInt8)×Bool))×(List (List UInt8))×Nat×(List ((List UInt8)×Bool)))) (fun x=>a6m) (fun x=>a6n x.1 x.2.1 x.2.2.1 x.2.2.2.1 x.2.2.2.2.1 x.2.2.2.2.2.1 x.2.2.2.2.2.2.1 x.2.2.2.2.2.2.2.1 x.2.2.2.2.2.2.2.2.1 x.2.2.2.2.2.2.2.2.2.1 x.2.2.2.2.2.2.2.2.2.2.1 x.2.2.2.2.2.2.2.2.2.2.2.1 x.2.2.2.2.2.2.2.2.2.2.2.2.1 x.2.2.2.2.2.2.2.2.2.2.2.2.2.1 x.2.2.2.2.2.2.2.2.2.2.2.2.2.2.1 x.2.2.2.2.2.2.2.2.2.2.2.2.2.2.2.1 x.2.2.2.2.2.2.2.2.2.2.2.2.2.2.2.2.1 x.2.2.2.2.2.2.2.2.2.2.2.2.2.2.2.2.2.1 x.2.2.2.2.2.2.2.2.2.2.2.2.2.2.2.2.2.2.1 x.2.2.2.2.2.2.2.2.2.2.2.2.2.2.2.2.2.2.2.1 x.2.2.2.2.2.2.2.2.2.2.2.2.2.2.2.2.2.2.2.2) fun x=>a6o x.1 x.2.1 x.2.2.1 x.2.2.2.1 x.2.2.2.2.1 x.2.2.2.2.2.1 x.2.2.2.2.2.2.1 x.2.2.2.2.2.2.2.1 x.2.2.2.2.2.2.2.2.1 x.2.2.2.2.2.2.2.2.2.1 x.2.2.2.2.2.2.2.2.2.2.1 x.2.2.2.2.2.2.2.2.2.2.2.1 x.2.2.2.2.2.2.2.2.2.2.2.2.1 x.2.2.2.2.2.2.2.2.2.2.2.2.2.1 x.2.2.2.2.2.2.2.2.2.2.2.2.2.2.1 x.2.2.2.2.2.2.2.2.2.2.2.2.2.2.2.1 x.2.2.2.2.2.2.2.2.2.2.2.2.2.2.2.2.1 x.2.2.2.2.2.2.2.2.2.2.2.2.2.2.2.2.2.1 x.2.2.2.2.2.2.2.2.2.2.2.2.2.2.2.2.2.2.1 x.2.2.2.2.2.2.2.2.2.2.2.2.2.2.2.2.2.2.2.1 x.2.2.2.2.2.2.2.2.2.2.2.2.2.2.2.2.2.2.2.2
@[go_sem] theorem aRr:aFi (no_index a6m) (no_index (a6n O Z aA aB aC aD aE aF aG aH aI aJ aK aL aM aN aO aP aQ aR aS))=some (a6o O Z aA aB aC aD aE aF aG aH aI aJ aK aL aM aN aO aP aQ aR aS):=pT (fun⟨a0,a1,a2,a3,a4,a5,a6,a7,a8,a9,a10,a11,a12,a13,a14,a15,a16,a17,a18,a19,a20⟩ ⟨b0,b1,b2,b3,b4,b5,b6,b7,b8,b9,b10,b11,b12,b13,b14,b15,b16,b17,b18,b19,b20⟩ h1 h2=>by cases h1;cases h2;rfl) (O,Z,aA,aB,aC,aD,aE,aF,aG,aH,aI,aJ,aK,aL,aM,aN,aO,aP,aQ,aR,aS)
end
@[reducible,go_sem] def a6p:Nat×Sig:=(214,⟨[.p qI [11,13],.p rS [3,6]],aFi,[(0,12,.m),(3,4,.r),(3,8,.m)],[1,2,4,5,6,7,8],none⟩)
theorem aFj:Env Tryz.prog [] (pK [vX,a5Q,E9,a25]):=⟨trivial,pA BF (pA aLW (pA SJ (pA aLr pV))),pN⟩
theorem O2:Env Tryz.prog [uC,B3,JN,zP] (pK [vX,a5Q,E9,a25]):=⟨⟨uY,⟨DE,⟨RK,⟨B2,trivial⟩⟩⟩⟩,aFj.Γ,pN⟩
theorem aL2:pM Tryz.prog a6p:=by
 refine pU aFj Tryz.func214 (c:=_) rfl (N:=32) (by kernel_rfl) (ts:=[]) rfl (fun _ _=>rfl) ?_
 intro⟨O,Z,aA,aB,aC,aD,aE,aF,aG,aH,aI,aJ,aK,aL,aM,aN,aO,aP,aQ,aR,aS⟩ hs hrow
 dsimp only[a6m,a6n,a6o,pP,enumH,pG,pL,pR,Nat.reduceAdd] at hs hrow⊢
 obtain⟨rfl,rfl,rfl,rfl,rfl,hz⟩:=hs
 obtain⟨rfl,_⟩:=hrow
 obtain⟨z0,hC0⟩:=Option.isSome_iff_exists.1 hz
 try rw[q7 hC0]
 clear hz
 unfold xN at hC0
 refine p4 O2 ?_
 obtain⟨aT,hv1,hw1,hC0⟩:=pE hC0
 try simp only[go_sem] at hw1
 refine p4 O2 ?_ (hp:=by exact And.intro (by first|exact rfl|exact trivial) (And.intro (by first|exact rfl|exact trivial) (And.intro (by first|exact rfl|exact trivial) (And.intro (by first|exact rfl|exact trivial) (And.intro (by first|exact rfl|exact trivial) ((pD hv1))))))) (h:=by simp only[go_sem,hw1];rfl)
 refine p4 O2 ?_
 obtain⟨aU,hv2,hw2,hC0⟩:=pE hC0
 try simp only[go_sem] at hw2
 refine p4 O2 ?_ (hp:=by exact And.intro (by first|exact rfl|exact trivial) (And.intro (by first|exact rfl|exact trivial) (And.intro (by first|exact rfl|exact trivial) (And.intro (by first|exact rfl|exact trivial) (And.intro (by first|exact rfl|exact trivial) (And.intro (by first|exact rfl|exact trivial) (And.intro (by first|exact rfl|exact trivial) (And.intro (by first|exact rfl|exact trivial) (And.intro (by first|exact rfl|exact trivial) (And.intro (by first|exact rfl|exact trivial) (And.intro (by first|exact rfl|exact trivial) (And.intro (by first|exact rfl|exact trivial) (And.intro (by first|exact rfl|exact trivial) (And.intro (by first|exact rfl|exact trivial) ((pD hv2)))))))))))))))) (h:=by simp only[go_sem,hw2];rfl)
 obtain⟨aV,hv3,hw3,hC0⟩:=pE hC0
 try simp only[go_sem] at hw3
 obtain⟨aW,hv4,hw4,hC0⟩:=pE hC0
 try simp only[go_sem] at hw4
 refine AX O2 ?_ (hp:=by exact And.intro (by first|exact rfl|exact trivial) (And.intro (by first|exact rfl|exact trivial) (And.intro (by first|exact rfl|exact trivial) (And.intro (by first|exact rfl|exact trivial) (And.intro (by first|exact rfl|exact trivial) (And.intro (pD hv3) ((pD hv4)))))))) (h:=by simp only[go_sem,hw3,hw4];rfl)
 cases hC0
 exact⟨[(0,0),(1,1),(2,2),(3,3),(4,4),(5,5),(6,6),(7,7),(8,8),(9,809)],by rfl,by rfl,by rfl⟩
attribute [irreducible] xN
end
end Go.Proofs.YtbbpilohihldiaaGreatDoor
namespace Go.Proofs.YtbbpilohihldiaaGreatDoor
open Vc
set_option maxRecDepth 100000
set_option maxHeartbeats 4000000
set_option linter.unusedSimpArgs false
set_option linter.unusedVariables false
noncomputable section
def yB (O:((List UInt8)×(Int×Unit))) (Z:qM) (aA:Int) (aB:Int) (aC:q9) (aD:((List Int)×(Int×Unit))) (aE:(List UInt8)) (aF:(List UInt8)) (aG:(List UInt8)) (aH:(List (List UInt8))) (aI:(Int×((List pO)×Unit))) (aJ:Bool) (aK:(List ((List UInt8)×Bool))) (aL:(List (List UInt8))) (aM:(List ((List UInt8)×Bool))):Option (Int×Int×(List UInt8)×Int×Int×Int×Int×Int×(List UInt8)):=
 (xH O Z aA aB aC aD aE aF aG aH aI aJ aK aL aM).bind fun aN=>
 (vL (O.1,(aN.1,())) (aN.2.1,(aN.2.2.1,(aN.2.2.2.1,(aN.2.2.2.2.1,())))) aN.2.2.2.2.2.1 aN.2.2.2.2.2.2.1 (aC.1,(aC.2.1,(aC.2.2.1,(aC.2.2.2.1,())))) (aD.1,(aN.2.2.2.2.2.2.2,())) aK).bind fun aO=>
 some ((aO.1,aO.2.1,aO.2.2.1,aO.2.2.2.1,aO.2.2.2.2.1,aO.2.2.2.2.2.1,aO.2.2.2.2.2.2.1,aO.2.2.2.2.2.2.2,aN.2.2.1))
section
variable (O:((List UInt8)×(Int×Unit))) (Z:qM) (aA:Int) (aB:Int) (aC:q9) (aD:((List Int)×(Int×Unit))) (aE:Nat) (aF:Nat) (aG:(List UInt8)) (aH:(List UInt8)) (aI:(List UInt8)) (aJ:(List (List UInt8))) (aK:Nat) (aL:(Int×((List pO)×Unit))) (aM:Bool) (aN:Nat) (aO:Nat) (aP:(List ((List UInt8)×Bool))) (aQ:(List (List UInt8))) (aR:Nat) (aS:(List ((List UInt8)×Bool)))
@[reducible] def a6q:List Slot:=[(.val .ref (some (0,0)),none),(.val .ref (some (3,0)),none)]
@[reducible] def a6r:List Blk:=[.cells qI (O,(Z,(aA,(aB,(aC,((some 6),aD)))))) [(11,1),(13,2)],.grow 55 7 aE,.grow 3 1 aF,.cells rS ((aG,(aH,(aI,(aJ,((some (7,aK)),aL))))),(aM,((some 8),()))) [(3,4),(6,5)],.grow 9 1 aN,.grow 149 2 aO,.map .str .bool aP,.row 9 .str aQ aR,.map .str .bool aS]
@[go_sem] def a6s:Ret:=⟨[aE=(List.length aC.2.2.2.1),aF=(List.length aD.1),aN=(List.length aJ),aO=(List.length aL.2.1),aK=aR,((yB O Z aA aB aC aD aG aH aI aJ aL aM aP aQ aS)).isSome=true],[],[.cells qI ((O.1,((val (yB O Z aA aB aC aD aG aH aI aJ aL aM aP aQ aS)).1,())),(((val (yB O Z aA aB aC aD aG aH aI aJ aL aM aP aQ aS)).2.1,((val (yB O Z aA aB aC aD aG aH aI aJ aL aM aP aQ aS)).2.2.1,((val (yB O Z aA aB aC aD aG aH aI aJ aL aM aP aQ aS)).2.2.2.1,((val (yB O Z aA aB aC aD aG aH aI aJ aL aM aP aQ aS)).2.2.2.2.1,())))),((val (yB O Z aA aB aC aD aG aH aI aJ aL aM aP aQ aS)).2.2.2.2.2.1,((val (yB O Z aA aB aC aD aG aH aI aJ aL aM aP aQ aS)).2.2.2.2.2.2.1,((aC.1,(aC.2.1,(aC.2.2.1,(aC.2.2.2.1,())))),((some 6),(aD.1,((val (yB O Z aA aB aC aD aG aH aI aJ aL aM aP aQ aS)).2.2.2.2.2.2.2.1,())))))))) [(11,1),(13,2)],.grow 55 7 (List.length aC.2.2.2.1),.grow 3 1 (List.length aD.1),.cells rS ((aG,((val (yB O Z aA aB aC aD aG aH aI aJ aL aM aP aQ aS)).2.2.2.2.2.2.2.2,(aI,(aJ,((some (7,(List.length aQ))),(aL.1,(aL.2.1,()))))))),(aM,((some 8),()))) [(3,4),(6,5)],.grow 9 1 (List.length aJ),.grow 149 2 (List.length aL.2.1),.map .str .bool aP,.row 9 .str aQ (List.length aQ),.map .str .bool (rR .str .bool Z.2.1 true aS)]⟩
def aFk:List Slot→List Blk→Option Ret:=pS (V:=(((List UInt8)×(Int×Unit))×qM×Int×Int×q9×((List Int)×(Int×Unit))×Nat×Nat×(List UInt8)×(List UInt8)×(List UInt8)×(List (List UInt8))×Nat×(Int×((List pO)×Unit))×Bool×Nat×Nat×(List ((List UInt8)×Bool))×(List (List UInt8))×Nat×(List ((List UInt8)×Bool)))) (fun x=>a6q) (fun x=>a6r x.1 x.2.1 x.2.2.1 x.2.2.2.1 x.2.2.2.2.1 x.2.2.2.2.2.1 x.2.2.2.2.2.2.1 x.2.2.2.2.2.2.2.1 x.2.2.2.2.2.2.2.2.1 x.2.2.2.2.2.2.2.2.2.1 x.2.2.2.2.2.2.2.2.2.2.1 x.2.2.2.2.2.2.2.2.2.2.2.1 x.2.2.2.2.2.2.2.2.2.2.2.2.1 x.2.2.2.2.2.2.2.2.2.2.2.2.2.1 x.2.2.2.2.2.2.2.2.2.2.2.2.2.2.1 x.2.2.2.2.2.2.2.2.2.2.2.2.2.2.2.1 x.2.2.2.2.2.2.2.2.2.2.2.2.2.2.2.2.1 x.2.2.2.2.2.2.2.2.2.2.2.2.2.2.2.2.2.1 x.2.2.2.2.2.2.2.2.2.2.2.2.2.2.2.2.2.2.1 x.2.2.2.2.2.2.2.2.2.2.2.2.2.2.2.2.2.2.2.1 x.2.2.2.2.2.2.2.2.2.2.2.2.2.2.2.2.2.2.2.2) fun x=>a6s x.1 x.2.1 x.2.2.1 x.2.2.2.1 x.2.2.2.2.1 x.2.2.2.2.2.1 x.2.2.2.2.2.2.1 x.2.2.2.2.2.2.2.1 x.2.2.2.2.2.2.2.2.1 x.2.2.2.2.2.2.2.2.2.1 x.2.2.2.2.2.2.2.2.2.2.1 x.2.2.2.2.2.2.2.2.2.2.2.1 x.2.2.2.2.2.2.2.2.2.2.2.2.1 x.2.2.2.2.2.2.2.2.2.2.2.2.2.1 x.2.2.2.2.2.2.2.2.2.2.2.2.2.2.1 x.2.2.2.2.2.2.2.2.2.2.2.2.2.2.2.1 x.2.2.2.2.2.2.2.2.2.2.2.2.2.2.2.2.1 x.2.2.2.2.2.2.2.2.2.2.2.2.2.2.2.2.2.1 x.2.2.2.2.2.2.2.2.2.2.2.2.2.2.2.2.2.2.1 x.2.2.2.2.2.2.2.2.2.2.2.2.2.2.2.2.2.2.2.1 x.2.2.2.2.2.2.2.2.2.2.2.2.2.2.2.2.2.2.2.2
@[go_sem] theorem aRs:aFk (no_index a6q) (no_index (a6r O Z aA aB aC aD aE aF aG aH aI aJ aK aL aM aN aO aP aQ aR aS))=some (a6s O Z aA aB aC aD aE aF aG aH aI aJ aK aL aM aN aO aP aQ aR aS):=pT (fun⟨a0,a1,a2,a3,a4,a5,a6,a7,a8,a9,a10,a11,a12,a13,a14,a15,a16,a17,a18,a19,a20⟩ ⟨b0,b1,b2,b3,b4,b5,b6,b7,b8,b9,b10,b11,b12,b13,b14,b15,b16,b17,b18,b19,b20⟩ h1 h2=>by cases h1;cases h2;rfl) (O,Z,aA,aB,aC,aD,aE,aF,aG,aH,aI,aJ,aK,aL,aM,aN,aO,aP,aQ,aR,aS)
end
@[reducible,go_sem] def a6t:Nat×Sig:=(215,⟨[.p qI [11,13],.p rS [3,6]],aFk,[(0,12,.m),(3,4,.r),(3,8,.m)],[1,2,4,5,6,7],none⟩)
theorem aFl:Env Tryz.prog [] (pK [I3,E9]):=⟨trivial,pA a5C (pA SJ pV),pN⟩
theorem aFm:Env Tryz.prog [qE,B3,zP] (pK [I3,E9]):=⟨⟨qG,⟨DE,⟨B2,trivial⟩⟩⟩,aFl.Γ,pN⟩
theorem aL3:pM Tryz.prog a6t:=by
 refine pU aFl Tryz.func215 (c:=_) rfl (N:=13) (by kernel_rfl) (ts:=[]) rfl (fun _ _=>rfl) ?_
 intro⟨O,Z,aA,aB,aC,aD,aE,aF,aG,aH,aI,aJ,aK,aL,aM,aN,aO,aP,aQ,aR,aS⟩ hs hrow
 dsimp only[a6q,a6r,a6s,pP,enumH,pG,pL,pR,Nat.reduceAdd] at hs hrow⊢
 obtain⟨rfl,rfl,rfl,rfl,rfl,hz⟩:=hs
 obtain⟨rfl,_⟩:=hrow
 obtain⟨z0,hC0⟩:=Option.isSome_iff_exists.1 hz
 try rw[q7 hC0]
 clear hz
 unfold yB at hC0
 obtain⟨aT,hv1,hw1,hC0⟩:=pE hC0
 try simp only[go_sem] at hw1
 refine p4 aFm ?_ (hp:=by exact And.intro (by first|exact rfl|exact trivial) (And.intro (by first|exact rfl|exact trivial) (And.intro (by first|exact rfl|exact trivial) (And.intro (by first|exact rfl|exact trivial) (And.intro (by first|exact rfl|exact trivial) (And.intro (by first|exact rfl|exact trivial) (And.intro (by first|exact rfl|exact trivial) (And.intro (by first|exact rfl|exact trivial) (And.intro (by first|exact rfl|exact trivial) (And.intro (by first|exact rfl|exact trivial) (And.intro (by first|exact rfl|exact trivial) (And.intro (by first|exact rfl|exact trivial) ((pD hv1)))))))))))))) (h:=by simp only[go_sem,hw1];rfl)
 obtain⟨aU,hv2,hw2,hC0⟩:=pE hC0
 try simp only[go_sem] at hw2
 refine pW aFm ?_ (hp:=by exact And.intro (by first|exact rfl|exact trivial) (And.intro (by first|exact rfl|exact trivial) (And.intro (by first|exact rfl|exact trivial) (And.intro (by first|exact rfl|exact trivial) (And.intro (by first|exact rfl|exact trivial) ((pD hv2))))))) (h:=by simp only[go_sem,hw2];rfl)
 cases hC0
 exact⟨[(0,0),(1,1),(2,2),(3,3),(4,4),(5,5),(6,6),(7,7),(8,8)],by rfl,by rfl,by rfl⟩
attribute [irreducible] yB
def yC (O:((List UInt8)×(Int×Unit))) (Z:qM) (aA:Int) (aB:Int) (aC:q9) (aD:((List Int)×(Int×Unit))) (aE:(List UInt8)) (aF:(List UInt8)) (aG:(List UInt8)) (aH:(List (List UInt8))) (aI:(Int×((List pO)×Unit))) (aJ:Bool) (aK:(List ((List UInt8)×Bool))) (aL:(List (List UInt8))) (aM:(List ((List UInt8)×Bool))):Option (Int×Int×(List UInt8)×Int×Int×Int×Int×Int×(List UInt8)):=
 (xH O Z aA aB aC aD aE aF aG aH aI aJ aK aL aM).bind fun aN=>
 (vL (O.1,(aN.1,())) (aN.2.1,(aN.2.2.1,(aN.2.2.2.1,(aN.2.2.2.2.1,())))) aN.2.2.2.2.2.1 aN.2.2.2.2.2.2.1 (aC.1,(aC.2.1,(aC.2.2.1,(aC.2.2.2.1,())))) (aD.1,(aN.2.2.2.2.2.2.2,())) aK).bind fun aO=>
 some ((aO.1,aO.2.1,aO.2.2.1,aO.2.2.2.1,aO.2.2.2.2.1,aO.2.2.2.2.2.1,aO.2.2.2.2.2.2.1,aO.2.2.2.2.2.2.2,aN.2.2.1))
section
variable (O:((List UInt8)×(Int×Unit))) (Z:qM) (aA:Int) (aB:Int) (aC:q9) (aD:((List Int)×(Int×Unit))) (aE:Nat) (aF:Nat) (aG:(List UInt8)) (aH:(List UInt8)) (aI:(List UInt8)) (aJ:(List (List UInt8))) (aK:Nat) (aL:(Int×((List pO)×Unit))) (aM:Bool) (aN:Nat) (aO:Nat) (aP:(List ((List UInt8)×Bool))) (aQ:(List (List UInt8))) (aR:Nat) (aS:(List ((List UInt8)×Bool)))
@[reducible] def a6u:List Slot:=[(.val .ref (some (0,0)),none),(.val .ref (some (3,0)),none)]
@[reducible] def a6v:List Blk:=[.cells qI (O,(Z,(aA,(aB,(aC,((some 6),aD)))))) [(11,1),(13,2)],.grow 55 7 aE,.grow 3 1 aF,.cells rS ((aG,(aH,(aI,(aJ,((some (7,aK)),aL))))),(aM,((some 8),()))) [(3,4),(6,5)],.grow 9 1 aN,.grow 149 2 aO,.map .str .bool aP,.row 9 .str aQ aR,.map .str .bool aS]
@[go_sem] def a6w:Ret:=⟨[aE=(List.length aC.2.2.2.1),aF=(List.length aD.1),aN=(List.length aJ),aO=(List.length aL.2.1),aK=aR,((yC O Z aA aB aC aD aG aH aI aJ aL aM aP aQ aS)).isSome=true],[],[.cells qI ((O.1,((val (yC O Z aA aB aC aD aG aH aI aJ aL aM aP aQ aS)).1,())),(((val (yC O Z aA aB aC aD aG aH aI aJ aL aM aP aQ aS)).2.1,((val (yC O Z aA aB aC aD aG aH aI aJ aL aM aP aQ aS)).2.2.1,((val (yC O Z aA aB aC aD aG aH aI aJ aL aM aP aQ aS)).2.2.2.1,((val (yC O Z aA aB aC aD aG aH aI aJ aL aM aP aQ aS)).2.2.2.2.1,())))),((val (yC O Z aA aB aC aD aG aH aI aJ aL aM aP aQ aS)).2.2.2.2.2.1,((val (yC O Z aA aB aC aD aG aH aI aJ aL aM aP aQ aS)).2.2.2.2.2.2.1,((aC.1,(aC.2.1,(aC.2.2.1,(aC.2.2.2.1,())))),((some 6),(aD.1,((val (yC O Z aA aB aC aD aG aH aI aJ aL aM aP aQ aS)).2.2.2.2.2.2.2.1,())))))))) [(11,1),(13,2)],.grow 55 7 (List.length aC.2.2.2.1),.grow 3 1 (List.length aD.1),.cells rS ((aG,(aH,((val (yC O Z aA aB aC aD aG aH aI aJ aL aM aP aQ aS)).2.2.2.2.2.2.2.2,(aJ,((some (7,(List.length aQ))),(aL.1,(aL.2.1,()))))))),(aM,((some 8),()))) [(3,4),(6,5)],.grow 9 1 (List.length aJ),.grow 149 2 (List.length aL.2.1),.map .str .bool aP,.row 9 .str aQ (List.length aQ),.map .str .bool (rR .str .bool Z.2.1 true aS)]⟩
def aFn:List Slot→List Blk→Option Ret:=pS (V:=(((List UInt8)×(Int×Unit))×qM×Int×Int×q9×((List Int)×(Int×Unit))×Nat×Nat×(List UInt8)×(List UInt8)×(List UInt8)×(List (List UInt8))×Nat×(Int×((List pO)×Unit))×Bool×Nat×Nat×(List ((List UInt8)×Bool))×(List (List UInt8))×Nat×(List ((List UInt8)×Bool)))) (fun x=>a6u) (fun x=>a6v x.1 x.2.1 x.2.2.1 x.2.2.2.1 x.2.2.2.2.1 x.2.2.2.2.2.1 x.2.2.2.2.2.2.1 x.2.2.2.2.2.2.2.1 x.2.2.2.2.2.2.2.2.1 x.2.2.2.2.2.2.2.2.2.1 x.2.2.2.2.2.2.2.2.2.2.1 x.2.2.2.2.2.2.2.2.2.2.2.1 x.2.2.2.2.2.2.2.2.2.2.2.2.1 x.2.2.2.2.2.2.2.2.2.2.2.2.2.1 x.2.2.2.2.2.2.2.2.2.2.2.2.2.2.1 x.2.2.2.2.2.2.2.2.2.2.2.2.2.2.2.1 x.2.2.2.2.2.2.2.2.2.2.2.2.2.2.2.2.1 x.2.2.2.2.2.2.2.2.2.2.2.2.2.2.2.2.2.1 x.2.2.2.2.2.2.2.2.2.2.2.2.2.2.2.2.2.2.1 x.2.2.2.2.2.2.2.2.2.2.2.2.2.2.2.2.2.2.2.1 x.2.2.2.2.2.2.2.2.2.2.2.2.2.2.2.2.2.2.2.2) fun x=>a6w x.1 x.2.1 x.2.2.1 x.2.2.2.1 x.2.2.2.2.1 x.2.2.2.2.2.1 x.2.2.2.2.2.2.1 x.2.2.2.2.2.2.2.1 x.2.2.2.2.2.2.2.2.1 x.2.2.2.2.2.2.2.2.2.1 x.2.2.2.2.2.2.2.2.2.2.1 x.2.2.2.2.2.2.2.2.2.2.2.1 x.2.2.2.2.2.2.2.2.2.2.2.2.1 x.2.2.2.2.2.2.2.2.2.2.2.2.2.1 x.2.2.2.2.2.2.2.2.2.2.2.2.2.2.1 x.2.2.2.2.2.2.2.2.2.2.2.2.2.2.2.1 x.2.2.2.2.2.2.2.2.2.2.2.2.2.2.2.2.1 x.2.2.2.2.2.2.2.2.2.2.2.2.2.2.2.2.2.1 x.2.2.2.2.2.2.2.2.2.2.2.2.2.2.2.2.2.2.1 x.2.2.2.2.2.2.2.2.2.2.2.2.2.2.2.2.2.2.2.1 x.2.2.2.2.2.2.2.2.2.2.2.2.2.2.2.2.2.2.2.2
@[go_sem] theorem aRt:aFn (no_index a6u) (no_index (a6v O Z aA aB aC aD aE aF aG aH aI aJ aK aL aM aN aO aP aQ aR aS))=some (a6w O Z aA aB aC aD aE aF aG aH aI aJ aK aL aM aN aO aP aQ aR aS):=pT (fun⟨a0,a1,a2,a3,a4,a5,a6,a7,a8,a9,a10,a11,a12,a13,a14,a15,a16,a17,a18,a19,a20⟩ ⟨b0,b1,b2,b3,b4,b5,b6,b7,b8,b9,b10,b11,b12,b13,b14,b15,b16,b17,b18,b19,b20⟩ h1 h2=>by cases h1;cases h2;rfl) (O,Z,aA,aB,aC,aD,aE,aF,aG,aH,aI,aJ,aK,aL,aM,aN,aO,aP,aQ,aR,aS)
end
@[reducible,go_sem] def a6x:Nat×Sig:=(216,⟨[.p qI [11,13],.p rS [3,6]],aFn,[(0,12,.m),(3,4,.r),(3,8,.m)],[1,2,4,5,6,7],none⟩)
theorem aFo:Env Tryz.prog [] (pK [I3,E9]):=⟨trivial,pA a5C (pA SJ pV),pN⟩
theorem aFp:Env Tryz.prog [qE,B3,zP] (pK [I3,E9]):=⟨⟨qG,⟨DE,⟨B2,trivial⟩⟩⟩,aFo.Γ,pN⟩
theorem aL4:pM Tryz.prog a6x:=by
 refine pU aFo Tryz.func216 (c:=_) rfl (N:=13) (by kernel_rfl) (ts:=[]) rfl (fun _ _=>rfl) ?_
 intro⟨O,Z,aA,aB,aC,aD,aE,aF,aG,aH,aI,aJ,aK,aL,aM,aN,aO,aP,aQ,aR,aS⟩ hs hrow
 dsimp only[a6u,a6v,a6w,pP,enumH,pG,pL,pR,Nat.reduceAdd] at hs hrow⊢
 obtain⟨rfl,rfl,rfl,rfl,rfl,hz⟩:=hs
 obtain⟨rfl,_⟩:=hrow
 obtain⟨z0,hC0⟩:=Option.isSome_iff_exists.1 hz
 try rw[q7 hC0]
 clear hz
 unfold yC at hC0
 obtain⟨aT,hv1,hw1,hC0⟩:=pE hC0
 try simp only[go_sem] at hw1
 refine p4 aFp ?_ (hp:=by exact And.intro (by first|exact rfl|exact trivial) (And.intro (by first|exact rfl|exact trivial) (And.intro (by first|exact rfl|exact trivial) (And.intro (by first|exact rfl|exact trivial) (And.intro (by first|exact rfl|exact trivial) (And.intro (by first|exact rfl|exact trivial) (And.intro (by first|exact rfl|exact trivial) (And.intro (by first|exact rfl|exact trivial) (And.intro (by first|exact rfl|exact trivial) (And.intro (by first|exact rfl|exact trivial) (And.intro (by first|exact rfl|exact trivial) (And.intro (by first|exact rfl|exact trivial) ((pD hv1)))))))))))))) (h:=by simp only[go_sem,hw1];rfl)
 obtain⟨aU,hv2,hw2,hC0⟩:=pE hC0
 try simp only[go_sem] at hw2
 refine pW aFp ?_ (hp:=by exact And.intro (by first|exact rfl|exact trivial) (And.intro (by first|exact rfl|exact trivial) (And.intro (by first|exact rfl|exact trivial) (And.intro (by first|exact rfl|exact trivial) (And.intro (by first|exact rfl|exact trivial) ((pD hv2))))))) (h:=by simp only[go_sem,hw2];rfl)
 cases hC0
 exact⟨[(0,0),(1,1),(2,2),(3,3),(4,4),(5,5),(6,6),(7,7),(8,8)],by rfl,by rfl,by rfl⟩
attribute [irreducible] yC
end
end Go.Proofs.YtbbpilohihldiaaGreatDoor
namespace Go.Proofs.YtbbpilohihldiaaGreatDoor
open Vc
set_option maxRecDepth 100000
set_option maxHeartbeats 4000000
set_option linter.unusedSimpArgs false
set_option linter.unusedVariables false
noncomputable section
def tW (O:((List UInt8)×(Int×Unit))) (Z:q9) (aA:((List Int)×(Int×Unit))) (aB:Bool) (aC:(List ((List UInt8)×Bool))):(Int×Int×(List UInt8)×Int×Int×Int×Int×Int×(List UInt8)×(List UInt8)×(List (List UInt8))×Int×(List pO)×(List (List UInt8))×(List ((List UInt8)×Bool)))→Option ((Int×Int×(List UInt8)×Int×Int×Int×Int×Int×(List UInt8)×(List UInt8)×(List (List UInt8))×Int×(List pO)×(List (List UInt8))×(List ((List UInt8)×Bool)))⊕(Int×Int×(List UInt8)×Int×Int×Int×Int×Int×(List UInt8)×(List UInt8)×(List (List UInt8))×Int×(List pO)×(List (List UInt8))×(List ((List UInt8)×Bool)))):=fun(aD,aE,aF,aG,aH,aI,aJ,aK,aL,aM,aN,aO,aP,aQ,aR)=>
 if ((decide (aJ=(0:Int)))&&(decide (aE=(2:Int))))=true then
  if (!(v8 .str .fn (uZ ([]:List UInt8) aL aM aN (aO,(aP,())) aB aQ aR) aF))=true then
   qK (sM (O.1,(aD,())) (aE,(aF,(aG,(aH,())))) aI aJ (Z.1,(Z.2.1,(Z.2.2.1,(Z.2.2.2.1,())))) (aA.1,(aK,())) (3:Int) aC) fun aS=>
   some (.inr (aD,aE,aF,aG,aH,aS.1,aS.2,aK,aL,aM,aN,aO,aP,aQ,aR))
  else
   qK (qP .str .fn (uZ ([]:List UInt8) aL aM aN (aO,(aP,())) aB aQ aR) aF) fun aT=>
   if aT=some 213 then
    (vY (O.1,(aD,())) (aE,(aF,(aG,(aH,())))) aI aJ (Z.1,(Z.2.1,(Z.2.2.1,(Z.2.2.2.1,())))) (aA.1,(aK,())) ([]:List UInt8) aL aM aN (aO,(aP,())) aB aC aQ aR).bind fun aU=>
    some (.inl (aU.1,aU.2.1,aU.2.2.1,aU.2.2.2.1,aU.2.2.2.2.1,aU.2.2.2.2.2.1,aU.2.2.2.2.2.2.1,aU.2.2.2.2.2.2.2.1,aL,aM,aU.2.2.2.2.2.2.2.2,aO,aP,aQ,aR))
   else
   if aT=some 214 then
    (xN (O.1,(aD,())) (aE,(aF,(aG,(aH,())))) aI aJ (Z.1,(Z.2.1,(Z.2.2.1,(Z.2.2.2.1,())))) (aA.1,(aK,())) ([]:List UInt8) aL aM aN (aO,(aP,())) aB aC aQ aR).bind fun aV=>
    some (.inl (aV.1,aV.2.1,aV.2.2.1,aV.2.2.2.1,aV.2.2.2.2.1,aV.2.2.2.2.2.1,aV.2.2.2.2.2.2.1,aV.2.2.2.2.2.2.2.1,aL,aM,aN,aO,aV.2.2.2.2.2.2.2.2,aQ,aR))
   else
   if aT=some 215 then
    (yB (O.1,(aD,())) (aE,(aF,(aG,(aH,())))) aI aJ (Z.1,(Z.2.1,(Z.2.2.1,(Z.2.2.2.1,())))) (aA.1,(aK,())) ([]:List UInt8) aL aM aN (aO,(aP,())) aB aC aQ aR).bind fun aW=>
    some (.inl (aW.1,aW.2.1,aW.2.2.1,aW.2.2.2.1,aW.2.2.2.2.1,aW.2.2.2.2.2.1,aW.2.2.2.2.2.2.1,aW.2.2.2.2.2.2.2.1,aW.2.2.2.2.2.2.2.2,aM,aN,aO,aP,aQ,(rR .str .bool aF true aR)))
   else
   if aT=some 216 then
    (yC (O.1,(aD,())) (aE,(aF,(aG,(aH,())))) aI aJ (Z.1,(Z.2.1,(Z.2.2.1,(Z.2.2.2.1,())))) (aA.1,(aK,())) ([]:List UInt8) aL aM aN (aO,(aP,())) aB aC aQ aR).bind fun aX=>
    some (.inl (aX.1,aX.2.1,aX.2.2.1,aX.2.2.2.1,aX.2.2.2.2.1,aX.2.2.2.2.2.1,aX.2.2.2.2.2.2.1,aX.2.2.2.2.2.2.2.1,aL,aX.2.2.2.2.2.2.2.2,aN,aO,aP,aQ,(rR .str .bool aF true aR)))
   else
   if aT=some 217 then
    (yA (O.1,(aD,())) (aE,(aF,(aG,(aH,())))) aI aJ (Z.1,(Z.2.1,(Z.2.2.1,(Z.2.2.2.1,())))) (aA.1,(aK,())) ([]:List UInt8) aL aM aN (aO,(aP,())) aB aC aQ aR).bind fun aY=>
    some (.inl (aY.1,aY.2.1,aY.2.2.1,aY.2.2.2.1,aY.2.2.2.2.1,aY.2.2.2.2.2.1,aY.2.2.2.2.2.2.1,aY.2.2.2.2.2.2.2.1,aL,aM,aN,aY.2.2.2.2.2.2.2.2,aP,aQ,(rR .str .bool aF true aR)))
   else
   if aT=some 218 then
    (wN (O.1,(aD,())) (aE,(aF,(aG,(aH,())))) aI aJ (Z.1,(Z.2.1,(Z.2.2.1,(Z.2.2.2.1,())))) (aA.1,(aK,())) ([]:List UInt8) aL aM aN (aO,(aP,())) aB aC aQ aR).bind fun aZ=>
    some (.inl (aZ.1,aZ.2.1,aZ.2.2.1,aZ.2.2.2.1,aZ.2.2.2.2.1,aZ.2.2.2.2.2.1,aZ.2.2.2.2.2.2.1,aZ.2.2.2.2.2.2.2.1,aL,aM,aN,aO,aP,aZ.2.2.2.2.2.2.2.2,aR))
   else
    none
 else
  some (.inr (aD,aE,aF,aG,aH,aI,aJ,aK,aL,aM,aN,aO,aP,aQ,aR))
def tQ (O:((List UInt8)×(Int×Unit))) (Z:qM) (aA:Int) (aB:Int) (aC:q9) (aD:((List Int)×(Int×Unit))) (aE:Bool) (aF:(List ((List UInt8)×Bool))):Option ((List UInt8)×(List UInt8)×(List (List UInt8))×(List (List UInt8))×Int×(List pO)×Int×Int×(List UInt8)×Int×Int×Int×Int×(List Int)×Int):=
 (vK O Z aA aB aC aD (3:Int) ([123]:List UInt8) aF).bind fun aG=>
 qD (pQ (tW O aC aD aE aF) (aG.1,aG.2.1,aG.2.2.1,aG.2.2.2.1,aG.2.2.2.2.1,aG.2.2.2.2.2.1,aG.2.2.2.2.2.2.1,aG.2.2.2.2.2.2.2,([]:List UInt8),([]:List UInt8),([]:List (List UInt8)),(0:Int),([]:List pO),([]:List (List UInt8)),([]:List ((List UInt8)×Bool)))) fun(aH,aI,aJ,aK,aL,aM,aN,aO,aP,aQ,aR,aS,aT,aU,aV)=>
 (vK (O.1,(aH,())) (aI,(aJ,(aK,(aL,())))) aM aN (aC.1,(aC.2.1,(aC.2.2.1,(aC.2.2.2.1,())))) (aD.1,(aO,())) (3:Int) ([125]:List UInt8) aF).bind fun aW=>
 if (List.length aU)<4611686018427387904 then
  if (List.length aD.1+List.length ([aW.2.2.2.2.2.2.2]:List Int))*8≤140737488355328 then
   some ((aP,aQ,aR,(u7 aU),aS,aT,aW.1,aW.2.1,aW.2.2.1,aW.2.2.2.1,aW.2.2.2.2.1,aW.2.2.2.2.2.1,aW.2.2.2.2.2.2.1,(aD.1++([aW.2.2.2.2.2.2.2]:List Int)),aW.2.2.2.2.2.2.2))
  else none
 else none
section
variable (O:Bool) (Z:((List UInt8)×(Int×Unit))) (aA:qM) (aB:Int) (aC:Int) (aD:q9) (aE:((List Int)×(Int×Unit))) (aF:Nat) (aG:Nat) (aH:(List ((List UInt8)×Bool)))
@[reducible] def a6y:List Slot:=[(.val .ref (some (0,0)),none),(.val .bool O,none)]
@[reducible] def a6z:List Blk:=[.cells qI (Z,(aA,(aB,(aC,(aD,((some 3),aE)))))) [(11,1),(13,2)],.grow 55 7 aF,.grow 3 1 aG,.map .str .bool aH]
@[go_sem] def a6A:Ret:=⟨[aF=(List.length aD.2.2.2.1),aG=(List.length aE.1),((tQ Z aA aB aC aD aE O aH)).isSome=true],[(.val qQ (([]:List UInt8),((val (tQ Z aA aB aC aD aE O aH)).1,((val (tQ Z aA aB aC aD aE O aH)).2.1,((val (tQ Z aA aB aC aD aE O aH)).2.2.1,((val (tQ Z aA aB aC aD aE O aH)).2.2.2.1,((val (tQ Z aA aB aC aD aE O aH)).2.2.2.2.1,((val (tQ Z aA aB aC aD aE O aH)).2.2.2.2.2.1,()))))))),none)],[.cells qI ((Z.1,((val (tQ Z aA aB aC aD aE O aH)).2.2.2.2.2.2.1,())),(((val (tQ Z aA aB aC aD aE O aH)).2.2.2.2.2.2.2.1,((val (tQ Z aA aB aC aD aE O aH)).2.2.2.2.2.2.2.2.1,((val (tQ Z aA aB aC aD aE O aH)).2.2.2.2.2.2.2.2.2.1,((val (tQ Z aA aB aC aD aE O aH)).2.2.2.2.2.2.2.2.2.2.1,())))),((val (tQ Z aA aB aC aD aE O aH)).2.2.2.2.2.2.2.2.2.2.2.1,((val (tQ Z aA aB aC aD aE O aH)).2.2.2.2.2.2.2.2.2.2.2.2.1,((aD.1,(aD.2.1,(aD.2.2.1,(aD.2.2.2.1,())))),((some 3),((val (tQ Z aA aB aC aD aE O aH)).2.2.2.2.2.2.2.2.2.2.2.2.2.1,((val (tQ Z aA aB aC aD aE O aH)).2.2.2.2.2.2.2.2.2.2.2.2.2.2,())))))))) [(11,1),(13,2)],.grow 55 7 (List.length aD.2.2.2.1),.grow 3 1 (List.length ((val (tQ Z aA aB aC aD aE O aH)).2.2.2.2.2.2.2.2.2.2.2.2.2.1)),.map .str .bool aH]⟩
def aFq:List Slot→List Blk→Option Ret:=pS (V:=(Bool×((List UInt8)×(Int×Unit))×qM×Int×Int×q9×((List Int)×(Int×Unit))×Nat×Nat×(List ((List UInt8)×Bool)))) (fun x=>a6y x.1) (fun x=>a6z x.2.1 x.2.2.1 x.2.2.2.1 x.2.2.2.2.1 x.2.2.2.2.2.1 x.2.2.2.2.2.2.1 x.2.2.2.2.2.2.2.1 x.2.2.2.2.2.2.2.2.1 x.2.2.2.2.2.2.2.2.2) fun x=>a6A x.1 x.2.1 x.2.2.1 x.2.2.2.1 x.2.2.2.2.1 x.2.2.2.2.2.1 x.2.2.2.2.2.2.1 x.2.2.2.2.2.2.2.1 x.2.2.2.2.2.2.2.2.1 x.2.2.2.2.2.2.2.2.2
@[go_sem] theorem aRu:aFq (no_index (a6y O)) (no_index (a6z Z aA aB aC aD aE aF aG aH))=some (a6A O Z aA aB aC aD aE aF aG aH):=pT (fun⟨a0,a1,a2,a3,a4,a5,a6,a7,a8,a9⟩ ⟨b0,b1,b2,b3,b4,b5,b6,b7,b8,b9⟩ h1 h2=>by cases h1;cases h2;rfl) (O,Z,aA,aB,aC,aD,aE,aF,aG,aH)
end
@[reducible,go_sem] def a6B:Nat×Sig:=(126,⟨[.p qI [11,13],.v],aFq,[(0,12,.m)],[1,3],none⟩)
theorem SM:Env Tryz.prog [wI,XH] (pK [O0,a0h,xF,a6l,a6p,a6t,a6x,a6c,a6h,XJ]):=⟨⟨y4,⟨aKx,trivial⟩⟩,pA a5Y (pA aKR (pA C7 (pA aL1 (pA aL2 (pA aL3 (pA aL4 (pA aLZ (pA aL0 (pA aKF pV))))))))),pN⟩
theorem yD:Env Tryz.prog [sZ,C5,qE,sK,F4,B3,xE,F3,HC,vR,zP,RG,RH] (pK [O0,a0h,xF,a6l,a6p,a6t,a6x,a6c,a6h,XJ]):=⟨⟨tJ,⟨F2,⟨qG,⟨sU,⟨JM,⟨DE,⟨yT,⟨JK,⟨MJ,⟨xD,⟨B2,⟨aA0,⟨aA1,trivial⟩⟩⟩⟩⟩⟩⟩⟩⟩⟩⟩⟩⟩,SM.Γ,pN⟩
theorem aFr:pM Tryz.prog a6B:=by
 refine pU SM Tryz.func126 (c:=_) rfl (N:=71) (by kernel_rfl) (ts:=[(4,some 55)]) rfl (fun _ _=>rfl) ?_
 intro⟨O,Z,aA,aB,aC,aD,aE,aF,aG,aH⟩ hs hrow
 dsimp only[a6y,a6z,a6A,pP,enumH,pG,pL,pR,Nat.reduceAdd] at hs hrow⊢
 obtain⟨rfl,rfl,hz⟩:=hs
 obtain⟨z0,hC0⟩:=Option.isSome_iff_exists.1 hz
 try rw[q7 hC0]
 clear hz
 unfold tQ at hC0
 refine p4 SM ?_
 refine p4 yD ?_
 obtain⟨aI,hv1,hw1,hC0⟩:=pE hC0
 try simp only[go_sem] at hw1
 refine p4 yD ?_ (hp:=by exact And.intro (by first|exact rfl|exact trivial) (And.intro (by first|exact rfl|exact trivial) (And.intro (by first|exact rfl|exact trivial) (And.intro (by first|exact rfl|exact trivial) (And.intro (by first|exact rfl|exact trivial) ((pD hv1))))))) (h:=by simp only[go_sem,hw1];rfl)
 refine pC (q8 ?_)
 obtain⟨y1,hy1,hC0⟩:=p7 hC0
 refine rN 0 (fun s=>s=(fun x=>⟨[(0,(.val .ref (some (0,0)),none)),(4,(.val .ref (some (4,0)),none)),(5,(.val .ref (some (5,0)),none))],[(0,.cells qI ((Z.1,(x.1,())),((x.2.1,(x.2.2.1,(x.2.2.2.1,(x.2.2.2.2.1,())))),(x.2.2.2.2.2.1,(x.2.2.2.2.2.2.1,((aD.1,(aD.2.1,(aD.2.2.1,(aD.2.2.2.1,())))),((some 3),(aE.1,(x.2.2.2.2.2.2.2.1,())))))))) [(11,1),(13,2)]),(1,.grow 55 7 (List.length aD.2.2.2.1)),(2,.grow 3 1 (List.length aE.1)),(3,.map .str .bool aH),(4,.cells qQ (([]:List UInt8),(([]:List UInt8),(([]:List UInt8),(([]:List (List UInt8)),(([]:List (List UInt8)),((0:Int),(([]:List pO),()))))))) [(3,6),(4,7),(6,8)]),(5,.cells rS ((([]:List UInt8),(x.2.2.2.2.2.2.2.2.1,(x.2.2.2.2.2.2.2.2.2.1,(x.2.2.2.2.2.2.2.2.2.2.1,((some (9,(List.length x.2.2.2.2.2.2.2.2.2.2.2.2.2.1))),(x.2.2.2.2.2.2.2.2.2.2.2.1,(x.2.2.2.2.2.2.2.2.2.2.2.2.1,()))))))),(O,((some 10),()))) [(3,11),(6,12)]),(6,.grow 9 1 (List.length ([]:List (List UInt8)))),(7,.grow 9 1 (List.length ([]:List (List UInt8)))),(8,.grow 149 2 (List.length ([]:List pO))),(9,.row 9 .str x.2.2.2.2.2.2.2.2.2.2.2.2.2.1 (List.length x.2.2.2.2.2.2.2.2.2.2.2.2.2.1)),(10,.map .str .bool x.2.2.2.2.2.2.2.2.2.2.2.2.2.2),(11,.grow 9 1 (List.length x.2.2.2.2.2.2.2.2.2.2.1)),(12,.grow 149 2 (List.length x.2.2.2.2.2.2.2.2.2.2.2.2.1))],13,71,4⟩) y1) ?_ ?_
 ·refine rM hy1 (fun x=>⟨[(0,(.val .ref (some (0,0)),none)),(4,(.val .ref (some (4,0)),none)),(5,(.val .ref (some (5,0)),none))],[(0,.cells qI ((Z.1,(x.1,())),((x.2.1,(x.2.2.1,(x.2.2.2.1,(x.2.2.2.2.1,())))),(x.2.2.2.2.2.1,(x.2.2.2.2.2.2.1,((aD.1,(aD.2.1,(aD.2.2.1,(aD.2.2.2.1,())))),((some 3),(aE.1,(x.2.2.2.2.2.2.2.1,())))))))) [(11,1),(13,2)]),(1,.grow 55 7 (List.length aD.2.2.2.1)),(2,.grow 3 1 (List.length aE.1)),(3,.map .str .bool aH),(4,.cells qQ (([]:List UInt8),(([]:List UInt8),(([]:List UInt8),(([]:List (List UInt8)),(([]:List (List UInt8)),((0:Int),(([]:List pO),()))))))) [(3,6),(4,7),(6,8)]),(5,.cells rS ((([]:List UInt8),(x.2.2.2.2.2.2.2.2.1,(x.2.2.2.2.2.2.2.2.2.1,(x.2.2.2.2.2.2.2.2.2.2.1,((some (9,(List.length x.2.2.2.2.2.2.2.2.2.2.2.2.2.1))),(x.2.2.2.2.2.2.2.2.2.2.2.1,(x.2.2.2.2.2.2.2.2.2.2.2.2.1,()))))))),(O,((some 10),()))) [(3,11),(6,12)]),(6,.grow 9 1 (List.length ([]:List (List UInt8)))),(7,.grow 9 1 (List.length ([]:List (List UInt8)))),(8,.grow 149 2 (List.length ([]:List pO))),(9,.row 9 .str x.2.2.2.2.2.2.2.2.2.2.2.2.2.1 (List.length x.2.2.2.2.2.2.2.2.2.2.2.2.2.1)),(10,.map .str .bool x.2.2.2.2.2.2.2.2.2.2.2.2.2.2),(11,.grow 9 1 (List.length x.2.2.2.2.2.2.2.2.2.2.1)),(12,.grow 149 2 (List.length x.2.2.2.2.2.2.2.2.2.2.2.2.1))],13,71,4⟩) ⟨[0,4,5],[(0,0),(1,1),(2,2),(3,3),(4,4),(5,132),(6,5),(7,6),(8,7),(9,135),(10,68),(11,133),(12,134)]⟩ (by rfl) ?_
  intro x1 w1 n1 hC1 hN1
  obtain⟨aJ,aK,aL,aM,aN,aO,aP,aQ,aR,aS,aT,aU,aV,aW,aX⟩:=x1
  unfold tW at hC1
  dsimp only at hC1⊢
  refine pC ?_
  refine p4 yD ?_ (hp:=by exact And.intro (fun hh=>hh) (And.intro (fun hh=>hh) (And.intro (fun hh=>hh) (And.intro (fun hh=>hh) (And.intro (fun hh=>hh) ((fun hh=>qH hh)))))))
  refine pB hC1 (fun hC1 hc1=> ?_) (fun hC1 hc1=> ?_)
  ·refine pJ (p9 (q8 ?_))
   refine tV yD ?_ (hp:=by exact And.intro (by first|exact rfl|exact trivial) (And.intro (by first|exact rfl|exact trivial) (And.intro (by first|exact rfl|exact trivial) (And.intro (by first|exact rfl|exact trivial) (And.intro (by first|exact rfl|exact trivial) (And.intro (by first|exact rfl|exact trivial) (And.intro (by first|exact rfl|exact trivial) ((by first|exact rfl|exact trivial)))))))))
   refine pC ?_
   refine p4 yD ?_
   refine pB hC1 (fun hC1 hc2=> ?_) (fun hC1 hc2=> ?_)
   ·obtain⟨aY,hw_357,hC1⟩:=u6 hC1
    try simp only[go_sem] at hw_357
    refine p4 yD ?_ (hp:=by exact And.intro (by first|exact rfl|exact trivial) (And.intro (by first|exact rfl|exact trivial) (And.intro (by first|exact rfl|exact trivial) (And.intro (by first|exact rfl|exact trivial) ((by first|exact rfl|exact trivial)))))) (h:=by simp only[go_sem,hw_357];rfl)
    refine rE (rJ (WQ (by decide) (rG ?_)))
    cases hC1
    cases hN1
    exact rF ⟨⟨[0,4,5],[(0,0),(1,1),(2,2),(3,3),(4,4),(5,5),(6,6),(7,7),(8,8),(9,9),(10,10),(11,11),(12,12)]⟩,by rfl⟩
   ·refine pJ (p9 ?_)
    replace hC1:=aJC hC1
    generalize (qP .str .fn (uZ ([]:List UInt8) aR aS aT (aU,(aV,())) O aW aX) aL)=aZ at hC1⊢
    by_cases hfn:aZ=some 213
    ·subst hfn
     rw[if_pos rfl] at hC1
     obtain⟨bA,hv2,hw2,hC1⟩:=pE hC1
     try simp only[go_sem] at hw2
     refine pW yD ?_ (hp:=by exact And.intro (by first|exact rfl|exact trivial) (And.intro (by first|exact rfl|exact trivial) (And.intro (by first|exact rfl|exact trivial) (And.intro (by first|exact rfl|exact trivial) (And.intro (by first|exact rfl|exact trivial) (And.intro (by first|exact rfl|exact trivial) (And.intro (by first|exact rfl|exact trivial) (And.intro (by first|exact rfl|exact trivial) (And.intro (by first|exact rfl|exact trivial) (And.intro (by first|exact rfl|exact trivial) (And.intro (by first|exact rfl|exact trivial) ((pD hv2))))))))))))) (h:=by simp only[go_sem,hw2];rfl)
     refine pY ?_
     cases hC1
     exact qU ⟨⟨[0,4,5],[(0,0),(1,1),(2,2),(3,3),(4,4),(5,5),(6,6),(7,7),(8,8),(9,9),(10,10),(11,11),(12,12)]⟩,_,by rfl,hN1⟩
    rw[if_neg hfn] at hC1
    clear hfn
    by_cases hfn:aZ=some 214
    ·subst hfn
     rw[if_pos rfl] at hC1
     obtain⟨bB,hv3,hw3,hC1⟩:=pE hC1
     try simp only[go_sem] at hw3
     refine pW yD ?_ (hp:=by exact And.intro (by first|exact rfl|exact trivial) (And.intro (by first|exact rfl|exact trivial) (And.intro (by first|exact rfl|exact trivial) (And.intro (by first|exact rfl|exact trivial) (And.intro (by first|exact rfl|exact trivial) (And.intro (by first|exact rfl|exact trivial) (And.intro (by first|exact rfl|exact trivial) (And.intro (by first|exact rfl|exact trivial) (And.intro (by first|exact rfl|exact trivial) (And.intro (by first|exact rfl|exact trivial) (And.intro (by first|exact rfl|exact trivial) (And.intro (by first|exact rfl|exact trivial) ((pD hv3)))))))))))))) (h:=by simp only[go_sem,hw3];rfl)
     refine pY ?_
     cases hC1
     exact qU ⟨⟨[0,4,5],[(0,0),(1,1),(2,2),(3,3),(4,4),(5,5),(6,6),(7,7),(8,8),(9,9),(10,10),(11,11),(12,1014)]⟩,_,by rfl,hN1⟩
    rw[if_neg hfn] at hC1
    clear hfn
    by_cases hfn:aZ=some 215
    ·subst hfn
     rw[if_pos rfl] at hC1
     obtain⟨bC,hv4,hw4,hC1⟩:=pE hC1
     try simp only[go_sem] at hw4
     refine pW yD ?_ (hp:=by exact And.intro (by first|exact rfl|exact trivial) (And.intro (by first|exact rfl|exact trivial) (And.intro (by first|exact rfl|exact trivial) (And.intro (by first|exact rfl|exact trivial) (And.intro (by first|exact rfl|exact trivial) (And.intro (by first|exact rfl|exact trivial) (And.intro (by first|exact rfl|exact trivial) (And.intro (by first|exact rfl|exact trivial) (And.intro (by first|exact rfl|exact trivial) (And.intro (by first|exact rfl|exact trivial) (And.intro (by first|exact rfl|exact trivial) ((pD hv4))))))))))))) (h:=by simp only[go_sem,hw4];rfl)
     refine pY ?_
     cases hC1
     exact qU ⟨⟨[0,4,5],[(0,0),(1,1),(2,2),(3,3),(4,4),(5,5),(6,6),(7,7),(8,8),(9,9),(10,10),(11,11),(12,12)]⟩,_,by rfl,hN1⟩
    rw[if_neg hfn] at hC1
    clear hfn
    by_cases hfn:aZ=some 216
    ·subst hfn
     rw[if_pos rfl] at hC1
     obtain⟨bD,hv5,hw5,hC1⟩:=pE hC1
     try simp only[go_sem] at hw5
     refine pW yD ?_ (hp:=by exact And.intro (by first|exact rfl|exact trivial) (And.intro (by first|exact rfl|exact trivial) (And.intro (by first|exact rfl|exact trivial) (And.intro (by first|exact rfl|exact trivial) (And.intro (by first|exact rfl|exact trivial) (And.intro (by first|exact rfl|exact trivial) (And.intro (by first|exact rfl|exact trivial) (And.intro (by first|exact rfl|exact trivial) (And.intro (by first|exact rfl|exact trivial) (And.intro (by first|exact rfl|exact trivial) (And.intro (by first|exact rfl|exact trivial) ((pD hv5))))))))))))) (h:=by simp only[go_sem,hw5];rfl)
     refine pY ?_
     cases hC1
     exact qU ⟨⟨[0,4,5],[(0,0),(1,1),(2,2),(3,3),(4,4),(5,5),(6,6),(7,7),(8,8),(9,9),(10,10),(11,11),(12,12)]⟩,_,by rfl,hN1⟩
    rw[if_neg hfn] at hC1
    clear hfn
    by_cases hfn:aZ=some 217
    ·subst hfn
     rw[if_pos rfl] at hC1
     obtain⟨bE,hv6,hw6,hC1⟩:=pE hC1
     try simp only[go_sem] at hw6
     refine pW yD ?_ (hp:=by exact And.intro (by first|exact rfl|exact trivial) (And.intro (by first|exact rfl|exact trivial) (And.intro (by first|exact rfl|exact trivial) (And.intro (by first|exact rfl|exact trivial) (And.intro (by first|exact rfl|exact trivial) (And.intro (by first|exact rfl|exact trivial) (And.intro (by first|exact rfl|exact trivial) (And.intro (by first|exact rfl|exact trivial) (And.intro (by first|exact rfl|exact trivial) (And.intro (by first|exact rfl|exact trivial) (And.intro (by first|exact rfl|exact trivial) ((pD hv6))))))))))))) (h:=by simp only[go_sem,hw6];rfl)
     refine pY ?_
     cases hC1
     exact qU ⟨⟨[0,4,5],[(0,0),(1,1),(2,2),(3,3),(4,4),(5,5),(6,6),(7,7),(8,8),(9,9),(10,10),(11,11),(12,12)]⟩,_,by rfl,hN1⟩
    rw[if_neg hfn] at hC1
    clear hfn
    by_cases hfn:aZ=some 218
    ·subst hfn
     rw[if_pos rfl] at hC1
     obtain⟨bF,hv7,hw7,hC1⟩:=pE hC1
     try simp only[go_sem] at hw7
     refine pW yD ?_ (hp:=by exact And.intro (by first|exact rfl|exact trivial) (And.intro (by first|exact rfl|exact trivial) (And.intro (by first|exact rfl|exact trivial) (And.intro (by first|exact rfl|exact trivial) (And.intro (by first|exact rfl|exact trivial) (And.intro (by first|exact rfl|exact trivial) (And.intro (by first|exact rfl|exact trivial) (And.intro (by first|exact rfl|exact trivial) (And.intro (by first|exact rfl|exact trivial) (And.intro (by first|exact rfl|exact trivial) (And.intro (by first|exact rfl|exact trivial) ((pD hv7))))))))))))) (h:=by simp only[go_sem,hw7];rfl)
     refine pY ?_
     cases hC1
     exact qU ⟨⟨[0,4,5],[(0,0),(1,1),(2,2),(3,3),(4,4),(5,5),(6,6),(7,7),(8,8),(9,9),(10,10),(11,11),(12,12)]⟩,_,by rfl,hN1⟩
    rw[if_neg hfn] at hC1
    clear hfn
    cases hC1
  ·refine rE (rJ (rG ?_))
   cases hC1
   cases hN1
   exact rF ⟨⟨[0,4,5],[(0,0),(1,1),(2,2),(3,3),(4,4),(5,5),(6,6),(7,7),(8,8),(9,9),(10,10),(11,11),(12,12)]⟩,by rfl⟩
 ·rintro _ rfl
  obtain⟨bG,bH,bI,bJ,bK,bM,bN,bO,bP,bQ,bR,bS,bT,bU,bV⟩:=y1
  dsimp only at hC0⊢
  refine rL (p9 ?_)
  obtain⟨bW,hv8,hw8,hC0⟩:=pE hC0
  try simp only[go_sem] at hw8
  refine p4 yD ?_ (hp:=by exact And.intro (by first|exact rfl|exact trivial) (And.intro (by first|exact rfl|exact trivial) (And.intro (by first|exact rfl|exact trivial) (And.intro (by first|exact rfl|exact trivial) (And.intro (by first|exact rfl|exact trivial) ((pD hv8))))))) (h:=by simp only[go_sem,hw8];rfl)
  obtain⟨hg9,hC0⟩:=p6 hC0
  refine p4 yD ?_ (hp:=by exact And.intro (by first|exact rfl|exact trivial) (hg9))
  obtain⟨hg10,hC0⟩:=p6 hC0
  refine tV yD ?_ (hp:=by exact And.intro (by first|exact rfl|exact trivial) (hg10))
  refine pC ?_
  refine aJv 9 5 rfl rfl (Nat.le_of_ble_eq_true rfl) (by repeat' (first|exact trivial|apply And.intro|exact(fun _=>rfl) |exact(fun h=>absurd h (by decide)))) (by repeat' (first|exact trivial|apply And.intro|exact(fun _=>rfl) |exact(fun h=>absurd h (by decide)))) (u':=aAX) (y':=((([]:List UInt8),(bP,(bQ,(bR,((u7 bU),(bS,(bT,()))))))),(O,((some 10),())))) (by first|rfl|kernel_rfl) ?_
  refine pW SM ?_
  refine p9 (p8 ?_)
  cases hC0
  exact⟨[(0,0),(1,1),(2,2),(3,3)],by rfl,by rfl,by rfl⟩
attribute [irreducible] tQ
end
end Go.Proofs.YtbbpilohihldiaaGreatDoor
namespace Go.Proofs.YtbbpilohihldiaaGreatDoor
open Vc
set_option maxRecDepth 100000
set_option maxHeartbeats 4000000
set_option linter.unusedSimpArgs false
set_option linter.unusedVariables false
noncomputable section
def wO (O:((List UInt8)×(Int×Unit))) (Z:qM) (aA:Int) (aB:Int) (aC:q9) (aD:((List Int)×(Int×Unit))) (aE:(List ((List UInt8)×Bool))):Option (Int×Int×(List UInt8)×Int×Int×Int×Int×(List UInt8)×(List (List UInt8))×(List pO)×(List Int)×Int):=
 (vK O Z aA aB aC aD (2:Int) ([99,97,116,97,108,111,103]:List UInt8) aE).bind fun aF=>
 (AE (O.1,(aF.1,())) (aF.2.1,(aF.2.2.1,(aF.2.2.2.1,(aF.2.2.2.2.1,())))) aF.2.2.2.2.2.1 aF.2.2.2.2.2.2.1 (aC.1,(aC.2.1,(aC.2.2.1,(aC.2.2.2.1,())))) (aD.1,(aF.2.2.2.2.2.2.2,())) (1:Int) false aE).bind fun aG=>
 (tQ (O.1,(aG.1,())) (aG.2.1,(aG.2.2.1,(aG.2.2.2.1,(aG.2.2.2.2.1,())))) aG.2.2.2.2.2.1 aG.2.2.2.2.2.2.1 (aF.2.2.1,(aC.2.1,(aC.2.2.1,(aC.2.2.2.1,())))) (aD.1,(aG.2.2.2.2.2.2.2,())) false aE).bind fun aH=>
 some ((aH.2.2.2.2.2.2.1,aH.2.2.2.2.2.2.2.1,aH.2.2.2.2.2.2.2.2.1,aH.2.2.2.2.2.2.2.2.2.1,aH.2.2.2.2.2.2.2.2.2.2.1,aH.2.2.2.2.2.2.2.2.2.2.2.1,aH.2.2.2.2.2.2.2.2.2.2.2.2.1,aF.2.2.1,aH.2.2.1,aH.2.2.2.2.2.1,aH.2.2.2.2.2.2.2.2.2.2.2.2.2.1,aH.2.2.2.2.2.2.2.2.2.2.2.2.2.2))
section
variable (O:((List UInt8)×(Int×Unit))) (Z:qM) (aA:Int) (aB:Int) (aC:q9) (aD:((List Int)×(Int×Unit))) (aE:Nat) (aF:Nat) (aG:(List ((List UInt8)×Bool)))
@[reducible] def a6C:List Slot:=[(.val .ref (some (0,0)),none)]
@[reducible] def a6D:List Blk:=[.cells qI (O,(Z,(aA,(aB,(aC,((some 3),aD)))))) [(11,1),(13,2)],.grow 55 7 aE,.grow 3 1 aF,.map .str .bool aG]
@[go_sem] def a6E:Ret:=⟨[aE=(List.length aC.2.2.2.1),aF=(List.length aD.1),((wO O Z aA aB aC aD aG)).isSome=true],[],[.cells qI ((O.1,((val (wO O Z aA aB aC aD aG)).1,())),(((val (wO O Z aA aB aC aD aG)).2.1,((val (wO O Z aA aB aC aD aG)).2.2.1,((val (wO O Z aA aB aC aD aG)).2.2.2.1,((val (wO O Z aA aB aC aD aG)).2.2.2.2.1,())))),((val (wO O Z aA aB aC aD aG)).2.2.2.2.2.1,((val (wO O Z aA aB aC aD aG)).2.2.2.2.2.2.1,(((val (wO O Z aA aB aC aD aG)).2.2.2.2.2.2.2.1,((val (wO O Z aA aB aC aD aG)).2.2.2.2.2.2.2.2.1,((val (wO O Z aA aB aC aD aG)).2.2.2.2.2.2.2.2.2.1,(aC.2.2.2.1,())))),((some 3),((val (wO O Z aA aB aC aD aG)).2.2.2.2.2.2.2.2.2.2.1,((val (wO O Z aA aB aC aD aG)).2.2.2.2.2.2.2.2.2.2.2,())))))))) [(11,1),(13,2)],.grow 55 7 (List.length aC.2.2.2.1),.grow 3 1 (List.length ((val (wO O Z aA aB aC aD aG)).2.2.2.2.2.2.2.2.2.2.1)),.map .str .bool aG]⟩
def aFs:List Slot→List Blk→Option Ret:=pS (V:=(((List UInt8)×(Int×Unit))×qM×Int×Int×q9×((List Int)×(Int×Unit))×Nat×Nat×(List ((List UInt8)×Bool)))) (fun x=>a6C) (fun x=>a6D x.1 x.2.1 x.2.2.1 x.2.2.2.1 x.2.2.2.2.1 x.2.2.2.2.2.1 x.2.2.2.2.2.2.1 x.2.2.2.2.2.2.2.1 x.2.2.2.2.2.2.2.2) fun x=>a6E x.1 x.2.1 x.2.2.1 x.2.2.2.1 x.2.2.2.2.1 x.2.2.2.2.2.1 x.2.2.2.2.2.2.1 x.2.2.2.2.2.2.2.1 x.2.2.2.2.2.2.2.2
@[go_sem] theorem aRv:aFs (no_index a6C) (no_index (a6D O Z aA aB aC aD aE aF aG))=some (a6E O Z aA aB aC aD aE aF aG):=pT (fun⟨a0,a1,a2,a3,a4,a5,a6,a7,a8⟩ ⟨b0,b1,b2,b3,b4,b5,b6,b7,b8⟩ h1 h2=>by cases h1;cases h2;rfl) (O,Z,aA,aB,aC,aD,aE,aF,aG)
end
@[reducible,go_sem] def aFt:Nat×Sig:=(82,⟨[.p qI [11,13]],aFs,[(0,12,.m)],[1,3],none⟩)
theorem O3:Env Tryz.prog [qE,sK,uC,xC,wI,vR] (pK [O0,aE2,a6B]):=⟨⟨qG,⟨sU,⟨uY,⟨yR,⟨y4,⟨xD,trivial⟩⟩⟩⟩⟩⟩,pA a5Y (pA aLU (pA aFr pV)),pN⟩
theorem aL5:pM Tryz.prog aFt:=by
 refine pU O3 Tryz.func82 (c:=_) rfl (N:=25) (by kernel_rfl) (ts:=[]) rfl (fun _ _=>rfl) ?_
 intro⟨O,Z,aA,aB,aC,aD,aE,aF,aG⟩ hs hrow
 dsimp only[a6C,a6D,a6E,pP,enumH,pG,pL,pR,Nat.reduceAdd] at hs hrow⊢
 obtain⟨rfl,rfl,hz⟩:=hs
 obtain⟨z0,hC0⟩:=Option.isSome_iff_exists.1 hz
 try rw[q7 hC0]
 clear hz
 unfold wO at hC0
 obtain⟨aH,hv1,hw1,hC0⟩:=pE hC0
 try simp only[go_sem] at hw1
 refine p4 O3 ?_ (hp:=by exact And.intro (by first|exact rfl|exact trivial) (And.intro (by first|exact rfl|exact trivial) (And.intro (by first|exact rfl|exact trivial) (And.intro (by first|exact rfl|exact trivial) (And.intro (by first|exact rfl|exact trivial) ((pD hv1))))))) (h:=by simp only[go_sem,hw1];rfl)
 obtain⟨aI,hv2,hw2,hC0⟩:=pE hC0
 try simp only[go_sem] at hw2
 refine p4 O3 ?_ (hp:=by exact And.intro (by first|exact rfl|exact trivial) (And.intro (by first|exact rfl|exact trivial) (And.intro (by first|exact rfl|exact trivial) (And.intro (by first|exact rfl|exact trivial) (And.intro (by first|exact rfl|exact trivial) ((pD hv2))))))) (h:=by simp only[go_sem,hw2];rfl)
 obtain⟨aJ,hv3,hw3,hC0⟩:=pE hC0
 try simp only[go_sem] at hw3
 refine p4 O3 ?_ (hp:=by exact And.intro (by first|exact rfl|exact trivial) (And.intro (by first|exact rfl|exact trivial) (And.intro (by first|exact rfl|exact trivial) (And.intro (by first|exact rfl|exact trivial) ((pD hv3)))))) (h:=by simp only[go_sem,hw3];rfl)
 refine AX O3 ?_
 cases hC0
 exact⟨[(0,0),(1,1),(2,2),(3,3)],by rfl,by rfl,by rfl⟩
attribute [irreducible] wO
end
end Go.Proofs.YtbbpilohihldiaaGreatDoor
namespace Go.Proofs.YtbbpilohihldiaaGreatDoor
open Vc
set_option maxRecDepth 100000
set_option maxHeartbeats 4000000
set_option linter.unusedSimpArgs false
set_option linter.unusedVariables false
noncomputable section
def vM (O:((List UInt8)×(Int×Unit))) (Z:qM) (aA:Int) (aB:Int) (aC:q9) (aD:((List Int)×(Int×Unit))) (aE:(List ((List UInt8)×Bool))):Option (Int×Int×(List UInt8)×Int×Int×Int×Int×(List qR)×(List Int)×Int×(List ((List UInt8)×Bool))):=
 (vK O Z aA aB aC aD (2:Int) ([101,110,116,114,121]:List UInt8) aE).bind fun aF=>
 (xM (O.1,(aF.1,())) (aF.2.1,(aF.2.2.1,(aF.2.2.2.1,(aF.2.2.2.2.1,())))) aF.2.2.2.2.2.1 aF.2.2.2.2.2.2.1 (aC.1,(aC.2.1,(aC.2.2.1,(aC.2.2.2.1,())))) (aD.1,(aF.2.2.2.2.2.2.2,())) (1:Int) (decide ((List.length aC.2.2.2.1:Int)=(1000:Int))) aE).bind fun aG=>
 (tQ (O.1,(aG.1,())) (aG.2.1,(aG.2.2.1,(aG.2.2.2.1,(aG.2.2.2.2.1,())))) aG.2.2.2.2.2.1 aG.2.2.2.2.2.2.1 (aC.1,(aC.2.1,(aC.2.2.1,(aC.2.2.2.1,())))) (aD.1,(aG.2.2.2.2.2.2.2,())) true (rR .str .bool aF.2.2.1 true aE)).bind fun aH=>
 if (List.length aC.2.2.2.1+List.length ([(aF.2.2.1,(aH.1,(aH.2.1,(aH.2.2.1,(aH.2.2.2.1,(aH.2.2.2.2.1,(aH.2.2.2.2.2.1,())))))))]:List qR))*128≤140737488355328 then
  some ((aH.2.2.2.2.2.2.1,aH.2.2.2.2.2.2.2.1,aH.2.2.2.2.2.2.2.2.1,aH.2.2.2.2.2.2.2.2.2.1,aH.2.2.2.2.2.2.2.2.2.2.1,aH.2.2.2.2.2.2.2.2.2.2.2.1,aH.2.2.2.2.2.2.2.2.2.2.2.2.1,(aC.2.2.2.1++([(aF.2.2.1,(aH.1,(aH.2.1,(aH.2.2.1,(aH.2.2.2.1,(aH.2.2.2.2.1,(aH.2.2.2.2.2.1,())))))))]:List qR)),aH.2.2.2.2.2.2.2.2.2.2.2.2.2.1,aH.2.2.2.2.2.2.2.2.2.2.2.2.2.2,(rR .str .bool aF.2.2.1 true aE)))
 else none
section
variable (O:((List UInt8)×(Int×Unit))) (Z:qM) (aA:Int) (aB:Int) (aC:q9) (aD:((List Int)×(Int×Unit))) (aE:Nat) (aF:Nat) (aG:(List ((List UInt8)×Bool)))
@[reducible] def a6F:List Slot:=[(.val .ref (some (0,0)),none)]
@[reducible] def a6G:List Blk:=[.cells qI (O,(Z,(aA,(aB,(aC,((some 3),aD)))))) [(11,1),(13,2)],.grow 55 7 aE,.grow 3 1 aF,.map .str .bool aG]
@[go_sem] def a6H:Ret:=⟨[aE=(List.length aC.2.2.2.1),aF=(List.length aD.1),((vM O Z aA aB aC aD aG)).isSome=true],[],[.cells qI ((O.1,((val (vM O Z aA aB aC aD aG)).1,())),(((val (vM O Z aA aB aC aD aG)).2.1,((val (vM O Z aA aB aC aD aG)).2.2.1,((val (vM O Z aA aB aC aD aG)).2.2.2.1,((val (vM O Z aA aB aC aD aG)).2.2.2.2.1,())))),((val (vM O Z aA aB aC aD aG)).2.2.2.2.2.1,((val (vM O Z aA aB aC aD aG)).2.2.2.2.2.2.1,((aC.1,(aC.2.1,(aC.2.2.1,((val (vM O Z aA aB aC aD aG)).2.2.2.2.2.2.2.1,())))),((some 3),((val (vM O Z aA aB aC aD aG)).2.2.2.2.2.2.2.2.1,((val (vM O Z aA aB aC aD aG)).2.2.2.2.2.2.2.2.2.1,())))))))) [(11,1),(13,2)],.grow 55 7 (List.length ((val (vM O Z aA aB aC aD aG)).2.2.2.2.2.2.2.1)),.grow 3 1 (List.length ((val (vM O Z aA aB aC aD aG)).2.2.2.2.2.2.2.2.1)),.map .str .bool ((val (vM O Z aA aB aC aD aG)).2.2.2.2.2.2.2.2.2.2)]⟩
def aFu:List Slot→List Blk→Option Ret:=pS (V:=(((List UInt8)×(Int×Unit))×qM×Int×Int×q9×((List Int)×(Int×Unit))×Nat×Nat×(List ((List UInt8)×Bool)))) (fun x=>a6F) (fun x=>a6G x.1 x.2.1 x.2.2.1 x.2.2.2.1 x.2.2.2.2.1 x.2.2.2.2.2.1 x.2.2.2.2.2.2.1 x.2.2.2.2.2.2.2.1 x.2.2.2.2.2.2.2.2) fun x=>a6H x.1 x.2.1 x.2.2.1 x.2.2.2.1 x.2.2.2.2.1 x.2.2.2.2.2.1 x.2.2.2.2.2.2.1 x.2.2.2.2.2.2.2.1 x.2.2.2.2.2.2.2.2
@[go_sem] theorem aRw:aFu (no_index a6F) (no_index (a6G O Z aA aB aC aD aE aF aG))=some (a6H O Z aA aB aC aD aE aF aG):=pT (fun⟨a0,a1,a2,a3,a4,a5,a6,a7,a8⟩ ⟨b0,b1,b2,b3,b4,b5,b6,b7,b8⟩ h1 h2=>by cases h1;cases h2;rfl) (O,Z,aA,aB,aC,aD,aE,aF,aG)
end
@[reducible,go_sem] def aFv:Nat×Sig:=(83,⟨[.p qI [11,13]],aFu,[(0,12,.m)],[],none⟩)
theorem EA:Env Tryz.prog [C5,qE,C3,xC,wI,RE,F3,vR] (pK [O0,aFa,a6B]):=⟨⟨F2,⟨qG,⟨F1,⟨yR,⟨y4,⟨aAY,⟨JK,⟨xD,trivial⟩⟩⟩⟩⟩⟩⟩⟩,pA a5Y (pA aLY (pA aFr pV)),pN⟩
theorem aL6:pM Tryz.prog aFv:=by
 refine pU EA Tryz.func83 (c:=_) rfl (N:=39) (by kernel_rfl) (ts:=[]) rfl (fun _ _=>rfl) ?_
 intro⟨O,Z,aA,aB,aC,aD,aE,aF,aG⟩ hs hrow
 dsimp only[a6F,a6G,a6H,pP,enumH,pG,pL,pR,Nat.reduceAdd] at hs hrow⊢
 obtain⟨rfl,rfl,hz⟩:=hs
 obtain⟨z0,hC0⟩:=Option.isSome_iff_exists.1 hz
 try rw[q7 hC0]
 clear hz
 unfold vM at hC0
 refine p4 EA ?_
 obtain⟨aH,hv1,hw1,hC0⟩:=pE hC0
 try simp only[go_sem] at hw1
 refine p4 EA ?_ (hp:=by exact And.intro (by first|exact rfl|exact trivial) (And.intro (by first|exact rfl|exact trivial) (And.intro (by first|exact rfl|exact trivial) (And.intro (by first|exact rfl|exact trivial) (And.intro (by first|exact rfl|exact trivial) ((pD hv1))))))) (h:=by simp only[go_sem,hw1];rfl)
 refine p4 EA ?_
 obtain⟨aI,hv2,hw2,hC0⟩:=pE hC0
 try simp only[go_sem] at hw2
 refine tV EA ?_ (hp:=by exact And.intro (by first|exact rfl|exact trivial) (And.intro (by first|exact rfl|exact trivial) (And.intro (by first|exact rfl|exact trivial) (And.intro (by first|exact rfl|exact trivial) (And.intro (by first|exact rfl|exact trivial) (And.intro (by first|exact rfl|exact trivial) ((pD hv2)))))))) (h:=by simp only[go_sem,hw2];rfl)
 refine p4 EA ?_
 obtain⟨aJ,hv3,hw3,hC0⟩:=pE hC0
 try simp only[go_sem] at hw3
 refine p4 EA ?_ (hp:=by exact And.intro (by first|exact rfl|exact trivial) (And.intro (by first|exact rfl|exact trivial) (And.intro (by first|exact rfl|exact trivial) (And.intro (by first|exact rfl|exact trivial) ((pD hv3)))))) (h:=by simp only[go_sem,hw3];rfl)
 refine p4 EA ?_
 obtain⟨hg4,hC0⟩:=p6 hC0
 refine AX EA ?_ (hp:=by exact And.intro (by first|exact rfl|exact trivial) (hg4))
 cases hC0
 exact⟨[(0,0),(1,1),(2,2),(3,3)],by rfl,by rfl,by rfl⟩
attribute [irreducible] vM
def aFw (O:(List UInt8)) (Z:(Int×Int×(List UInt8)×Int×Int×Int×Int×(List UInt8)×(List (List UInt8))×(List pO)×(List Int)×Int)):(Int×Int×(List UInt8)×Int×Int×Int×Int×(List qR)×(List Int)×Int×(List ((List UInt8)×Bool)))→Option ((Int×Int×(List UInt8)×Int×Int×Int×Int×(List qR)×(List Int)×Int×(List ((List UInt8)×Bool)))⊕(Int×Int×(List UInt8)×Int×Int×Int×Int×(List qR)×(List Int)×Int×(List ((List UInt8)×Bool)))):=fun(aA,aB,aC,aD,aE,aF,aG,aH,aI,aJ,aK)=>
 if ((decide (aG=(0:Int)))&&(!decide (aB=(4:Int))))=true then
  (vM (O,(aA,())) (aB,(aC,(aD,(aE,())))) aF aG (Z.2.2.2.2.2.2.2.1,(Z.2.2.2.2.2.2.2.2.1,(Z.2.2.2.2.2.2.2.2.2.1,(aH,())))) (aI,(aJ,())) aK).bind fun aL=>
  some (.inl (aL.1,aL.2.1,aL.2.2.1,aL.2.2.2.1,aL.2.2.2.2.1,aL.2.2.2.2.2.1,aL.2.2.2.2.2.2.1,aL.2.2.2.2.2.2.2.1,aL.2.2.2.2.2.2.2.2.1,aL.2.2.2.2.2.2.2.2.2.1,aL.2.2.2.2.2.2.2.2.2.2))
 else
  some (.inr (aA,aB,aC,aD,aE,aF,aG,aH,aI,aJ,aK))
def vC (O:(List UInt8)):Option (Int×Int×(List UInt8)×Int×Int×Int×Int×(List UInt8)×(List (List UInt8))×(List pO)×(List qR)×(List Int)×Int×(List ((List UInt8)×Bool))):=
 (AD (O,((0:Int),()))).bind fun Z=>
 (wO (O,(Z.2.2.2.2,())) (Z.1,(Z.2.1,(Z.2.2.1,(Z.2.2.2.1,())))) (0:Int) (0:Int) (([]:List UInt8),(([]:List (List UInt8)),(([]:List pO),(([]:List qR),())))) (([]:List Int),((0:Int),())) ([]:List ((List UInt8)×Bool))).bind fun aA=>
 qD (pQ (aFw O aA) (aA.1,aA.2.1,aA.2.2.1,aA.2.2.2.1,aA.2.2.2.2.1,aA.2.2.2.2.2.1,aA.2.2.2.2.2.2.1,([]:List qR),aA.2.2.2.2.2.2.2.2.2.2.1,aA.2.2.2.2.2.2.2.2.2.2.2,([]:List ((List UInt8)×Bool)))) fun(aB,aC,aD,aE,aF,aG,aH,aI,aJ,aK,aL)=>
 some ((aB,aC,aD,aE,aF,aG,aH,aA.2.2.2.2.2.2.2.1,aA.2.2.2.2.2.2.2.2.1,aA.2.2.2.2.2.2.2.2.2.1,aI,aJ,aK,aL))
section
variable (O:(List UInt8))
@[reducible] def a6I:List Slot:=[(.val .str O,none)]
@[reducible] def a6J:List Blk:=[]
@[go_sem] def a6K:Ret:=⟨[((vC O)).isSome=true],[(.val .ref (some (0,0)),none)],[.cells qI ((O,((val (vC O)).1,())),(((val (vC O)).2.1,((val (vC O)).2.2.1,((val (vC O)).2.2.2.1,((val (vC O)).2.2.2.2.1,())))),((val (vC O)).2.2.2.2.2.1,((val (vC O)).2.2.2.2.2.2.1,(((val (vC O)).2.2.2.2.2.2.2.1,((val (vC O)).2.2.2.2.2.2.2.2.1,((val (vC O)).2.2.2.2.2.2.2.2.2.1,((val (vC O)).2.2.2.2.2.2.2.2.2.2.1,())))),((some 1),((val (vC O)).2.2.2.2.2.2.2.2.2.2.2.1,((val (vC O)).2.2.2.2.2.2.2.2.2.2.2.2.1,())))))))) [(11,2),(13,3)],.map .str .bool ((val (vC O)).2.2.2.2.2.2.2.2.2.2.2.2.2),.grow 55 7 (List.length ((val (vC O)).2.2.2.2.2.2.2.2.2.2.1)),.grow 3 1 (List.length ((val (vC O)).2.2.2.2.2.2.2.2.2.2.2.1))]⟩
def aFx:List Slot→List Blk→Option Ret:=pS (V:=(List UInt8)) (fun x=>a6I x) (fun x=>a6J) fun x=>a6K x
@[go_sem] theorem aRx:aFx (no_index (a6I O)) (no_index a6J)=some (a6K O):=pT (fun a0 b0 h1 h2=>by cases h1;cases h2;rfl) O
end
@[reducible,go_sem] def aFy:Nat×Sig:=(44,⟨[.v],aFx,[],[],none⟩)
theorem G1:Env Tryz.prog [sZ,C5,qE,F4,MK,xE,F3,vR] (pK [a5v,aFt,aFv]):=⟨⟨tJ,⟨F2,⟨qG,⟨JM,⟨XG,⟨yT,⟨JK,⟨xD,trivial⟩⟩⟩⟩⟩⟩⟩⟩,pA aEV (pA aL5 (pA aL6 pV)),pN⟩
theorem aL7:pM Tryz.prog aFy:=by
 refine pU G1 Tryz.func44 (c:=_) rfl (N:=34) (by kernel_rfl) (ts:=[(2,none)]) rfl (fun _ _=>rfl) ?_
 intro O hs hrow
 dsimp only[a6I,a6J,a6K,pP,enumH,pG,pL,pR,Nat.reduceAdd] at hs hrow⊢
 have hz:=hs
 obtain⟨z0,hC0⟩:=Option.isSome_iff_exists.1 hz
 try rw[q7 hC0]
 clear hz hs
 unfold vC at hC0
 refine p4 G1 ?_
 refine p4 G1 ?_
 obtain⟨Z,hv1,hw1,hC0⟩:=pE hC0
 try simp only[go_sem] at hw1
 refine p4 G1 ?_ (hp:=by exact(pD hv1)) (h:=by simp only[go_sem,hw1];rfl)
 obtain⟨aA,hv2,hw2,hC0⟩:=pE hC0
 try simp only[go_sem] at hw2
 refine p4 G1 ?_ (hp:=by exact And.intro (by first|exact rfl|exact trivial) (And.intro (by first|exact rfl|exact trivial) (And.intro (by first|exact rfl|exact trivial) (And.intro (by first|exact rfl|exact trivial) ((pD hv2)))))) (h:=by simp only[go_sem,hw2];rfl)
 refine pC (q8 ?_)
 obtain⟨y1,hy1,hC0⟩:=p7 hC0
 refine rN 0 (fun s=>s=(fun x=>⟨[(3,(.val .ref (some (0,0)),none))],[(0,.cells qI ((O,(x.1,())),((x.2.1,(x.2.2.1,(x.2.2.2.1,(x.2.2.2.2.1,())))),(x.2.2.2.2.2.1,(x.2.2.2.2.2.2.1,((aA.2.2.2.2.2.2.2.1,(aA.2.2.2.2.2.2.2.2.1,(aA.2.2.2.2.2.2.2.2.2.1,(x.2.2.2.2.2.2.2.1,())))),((some 1),(x.2.2.2.2.2.2.2.2.1,(x.2.2.2.2.2.2.2.2.2.1,())))))))) [(11,2),(13,3)]),(1,.map .str .bool x.2.2.2.2.2.2.2.2.2.2),(2,.grow 55 7 (List.length x.2.2.2.2.2.2.2.1)),(3,.grow 3 1 (List.length x.2.2.2.2.2.2.2.2.1))],4,34,0⟩) y1) ?_ ?_
 ·refine rM hy1 (fun x=>⟨[(3,(.val .ref (some (0,0)),none))],[(0,.cells qI ((O,(x.1,())),((x.2.1,(x.2.2.1,(x.2.2.2.1,(x.2.2.2.2.1,())))),(x.2.2.2.2.2.1,(x.2.2.2.2.2.2.1,((aA.2.2.2.2.2.2.2.1,(aA.2.2.2.2.2.2.2.2.1,(aA.2.2.2.2.2.2.2.2.2.1,(x.2.2.2.2.2.2.2.1,())))),((some 1),(x.2.2.2.2.2.2.2.2.1,(x.2.2.2.2.2.2.2.2.2.1,())))))))) [(11,2),(13,3)]),(1,.map .str .bool x.2.2.2.2.2.2.2.2.2.2),(2,.grow 55 7 (List.length x.2.2.2.2.2.2.2.1)),(3,.grow 3 1 (List.length x.2.2.2.2.2.2.2.2.1))],4,34,0⟩) ⟨[3],[(0,160),(1,96),(2,163),(3,164)]⟩ (by rfl) ?_
  intro x1 w1 n1 hC1 hN1
  obtain⟨aB,aC,aD,aE,aF,aG,aH,aI,aJ,aK,aL⟩:=x1
  unfold aFw at hC1
  dsimp only at hC1⊢
  refine pC ?_
  refine p4 G1 ?_ (hp:=by exact And.intro (fun hh=>hh) (And.intro (fun hh=>hh) (And.intro (fun hh=>hh) (And.intro (fun hh=>hh) (And.intro (fun hh=>hh) ((fun hh=>qH hh)))))))
  refine pB hC1 (fun hC1 hc1=> ?_) (fun hC1 hc1=> ?_)
  ·refine pJ (p9 (q8 ?_))
   obtain⟨aM,hv3,hw3,hC1⟩:=pE hC1
   try simp only[go_sem] at hw3
   refine pW G1 ?_ (hp:=by exact And.intro (by first|exact rfl|exact trivial) (And.intro (by first|exact rfl|exact trivial) ((pD hv3)))) (h:=by simp only[go_sem,hw3];rfl)
   refine pY ?_
   cases hC1
   exact qU ⟨⟨[3],[(0,0),(1,1),(2,2),(3,3)]⟩,_,by rfl,hN1⟩
  ·refine rE (rJ (rG ?_))
   cases hC1
   cases hN1
   exact rF ⟨⟨[3],[(0,0),(1,1),(2,2),(3,3)]⟩,by rfl⟩
 ·rintro _ rfl
  obtain⟨aN,aO,aP,aQ,aR,aS,aT,aU,aV,aW,aX⟩:=y1
  dsimp only at hC0⊢
  refine rL (p9 ?_)
  refine p4 G1 ?_
  refine p8 ?_
  cases hC0
  exact⟨[(0,0),(1,1),(2,2),(3,3)],by rfl,by rfl,by rfl⟩
attribute [irreducible] vC
def CG (O:(List UInt8)):Option ((List UInt8)×(List (List UInt8))×(List pO)×(List qR)×Int×Int):=
 (vC O).bind fun Z=>
 if (!decide (Z.2.2.2.2.2.2.1=(0:Int)))=true then
  some ((([]:List UInt8),([]:List (List UInt8)),([]:List pO),([]:List qR),Z.2.2.2.2.2.1,Z.2.2.2.2.2.2.1))
 else
  some ((Z.2.2.2.2.2.2.2.1,Z.2.2.2.2.2.2.2.2.1,Z.2.2.2.2.2.2.2.2.2.1,Z.2.2.2.2.2.2.2.2.2.2.1,(0:Int),(0:Int)))
section
variable (O:(List UInt8))
@[reducible] def a6L:List Slot:=[(.val .str O,none)]
@[reducible] def a6M:List Blk:=[]
@[go_sem] def a6N:Ret:=⟨[((CG O)).isSome=true],[(.val uW ((val (CG O)).1,((val (CG O)).2.1,((val (CG O)).2.2.1,((val (CG O)).2.2.2.1,())))),none),(.val (.int .i64) ((val (CG O)).2.2.2.2.1),none),(.val (.int .i64) ((val (CG O)).2.2.2.2.2),none)],[]⟩
def aFz:List Slot→List Blk→Option Ret:=pS (V:=(List UInt8)) (fun x=>a6L x) (fun x=>a6M) fun x=>a6N x
@[go_sem] theorem aRy:aFz (no_index (a6L O)) (no_index a6M)=some (a6N O):=pT (fun a0 b0 h1 h2=>by cases h1;cases h2;rfl) O
end
@[reducible,go_sem] def aFA:Nat×Sig:=(16,⟨[.v],aFz,[],[],none⟩)
theorem KI:Env Tryz.prog [sZ,xC,F4,vR] (pK [aFy]):=⟨⟨tJ,⟨yR,⟨JM,⟨xD,trivial⟩⟩⟩⟩,pA aL7 pV,pN⟩
theorem aL8:pM Tryz.prog aFA:=by
 refine pU KI Tryz.func16 (c:=_) rfl (N:=26) (by kernel_rfl) (ts:=[(2,some 27),(3,none),(4,none)]) rfl (fun _ _=>rfl) ?_
 intro O hs hrow
 dsimp only[a6L,a6M,a6N,pP,enumH,pG,pL,pR,Nat.reduceAdd] at hs hrow⊢
 have hz:=hs
 obtain⟨z0,hC0⟩:=Option.isSome_iff_exists.1 hz
 try rw[q7 hC0]
 clear hz hs
 unfold CG at hC0
 refine p4 KI ?_
 obtain⟨Z,hv1,hw1,hC0⟩:=pE hC0
 try simp only[go_sem] at hw1
 refine p4 KI ?_ (hp:=by exact(pD hv1)) (h:=by simp only[go_sem,hw1];rfl)
 refine pC ?_
 refine p4 KI ?_
 refine pB hC0 (fun hC0 hc1=> ?_) (fun hC0 hc1=> ?_)
 ·refine tV KI ?_
  refine p8 (pZ ?_)
  cases hC0
  exact⟨[],by rfl,by rfl,by rfl⟩
 ·refine pJ (p9 ?_)
  refine p4 KI ?_
  refine p8 ?_
  cases hC0
  exact⟨[],by rfl,by rfl,by rfl⟩
attribute [irreducible] CG
def KJ:Option Bool:=
 (CG ([99,97,116,97,108,111,103,34,100,101,34,123,125,47,42,32,120,32,42,47,101,110,116,114,121,34,97,34,123,116,97,114,103,101,116,34,120,34,125,47,47]:List UInt8)).bind fun O=>
 if (((((decide (O.2.2.2.2.2=(0:Int)))&&(decide (O.1=([100,101]:List UInt8))))&&(decide ((List.length O.2.2.2.1:Int)=(1:Int))))==true)=true→0≤(0:Int)∧(0:Int)<(List.length O.2.2.2.1:Int)) then
  if ((((((decide (O.2.2.2.2.2=(0:Int)))&&(decide (O.1=([100,101]:List UInt8))))&&(decide ((List.length O.2.2.2.1:Int)=(1:Int))))&&(decide ((pI qQ O.2.2.2.1 (0:Int)).1=([97]:List UInt8))))==true)=true→0≤(0:Int)∧(0:Int)<(List.length O.2.2.2.1:Int)) then
   some ((((((decide (O.2.2.2.2.2=(0:Int)))&&(decide (O.1=([100,101]:List UInt8))))&&(decide ((List.length O.2.2.2.1:Int)=(1:Int))))&&(decide ((pI qQ O.2.2.2.1 (0:Int)).1=([97]:List UInt8))))&&(decide ((pI qQ O.2.2.2.1 (0:Int)).2.2.1=([120]:List UInt8)))))
  else none
 else none
section
@[reducible] def a6O:List Slot:=[]
@[reducible] def a6P:List Blk:=[]
@[go_sem] def a6Q:Ret:=⟨[(KJ).isSome=true],[(.val .bool (val KJ),none)],[]⟩
def aFB:List Slot→List Blk→Option Ret:=pS (V:=Unit) (fun x=>a6O) (fun x=>a6P) fun x=>a6Q
@[go_sem] theorem aRz:aFB (no_index a6O) (no_index a6P)=some a6Q:=pT (fun _ _ h1 h2=>by cases h1;cases h2;rfl) ()
end
@[reducible,go_sem] def aFC:Nat×Sig:=(15,⟨[],aFB,[],[],none⟩)
theorem SN:Env Tryz.prog [qE,C3,xC,wI] (pK [aFA]):=⟨⟨qG,⟨F1,⟨yR,⟨y4,trivial⟩⟩⟩⟩,pA aL8 pV,pN⟩
theorem aL9:pM Tryz.prog aFC:=by
 refine pU SN Tryz.func15 (c:=_) rfl (N:=38) (by kernel_rfl) (ts:=[(0,none)]) rfl (fun _ _=>rfl) ?_
 intro⟨⟩ hs hrow
 dsimp only[a6O,a6P,a6Q,pP,enumH,pG,pL,pR,Nat.reduceAdd] at hs hrow⊢
 have hz:=hs
 obtain⟨z0,hC0⟩:=Option.isSome_iff_exists.1 hz
 try rw[q7 hC0]
 clear hz hs
 unfold KJ at hC0
 refine p4 SN ?_
 obtain⟨O,hv1,hw1,hC0⟩:=pE hC0
 try simp only[go_sem] at hw1
 refine p4 SN ?_ (hp:=by exact(pD hv1)) (h:=by simp only[go_sem,hw1];rfl)
 obtain⟨hg2,hC0⟩:=p6 hC0
 obtain⟨hg3,hC0⟩:=p6 hC0
 refine p4 SN ?_ (hp:=by exact And.intro (fun hh=>hh) (And.intro (fun hh=>hh) (And.intro (fun hh=>qH hh) (And.intro (fun hh=>hh) (And.intro (fun hh=>hh) (And.intro (fun hh=>hh) (And.intro (fun hh=>qH hh) (And.intro (fun hh=>hh) (And.intro (fun hh=>hh) (And.intro hg2 (And.intro (fun hh=>hh) (And.intro (fun hh=>hh) (And.intro (fun hh=>hh) (And.intro (fun hh=>qH hh) (And.intro (fun hh=>hh) (And.intro (fun hh=>hh) (And.intro hg3 (And.intro (fun hh=>hh) (And.intro (fun hh=>hh) (And.intro (fun hh=>hh) ((fun hh=>qH hh))))))))))))))))))))))
 refine p8 ?_
 cases hC0
 exact⟨[],by rfl,by rfl,by rfl⟩
attribute [irreducible] KJ
end
end Go.Proofs.YtbbpilohihldiaaGreatDoor
namespace Go.Proofs.YtbbpilohihldiaaGreatDoor
open Vc
set_option maxRecDepth 100000
set_option maxHeartbeats 4000000
set_option linter.unusedSimpArgs false
set_option linter.unusedVariables false
noncomputable section
def I4 (O:q9):Option Bool:=
 KJ.bind fun Z=>
 if (!Z)=true then
  some (false)
 else
  (HV O).bind fun aA=>
  if (!aA)=true then
   some (true)
  else
   (FZ O).bind fun aB=>
   (G0 O).bind fun aC=>
   (BB O).bind fun aD=>
   (BE O).bind fun aE=>
   if (((((decide (aB.1=aC.1))&&(decide (aB.2=aC.2)))&&(decide (aD.2.2.2=aE.2.2.2)))==true)=true→((FK (aD.1,(aD.2.1,(aD.2.2.1,()))) (aE.1,(aE.2.1,(aE.2.2.1,()))))).isSome=true) then
    some (((((decide (aB.1=aC.1))&&(decide (aB.2=aC.2)))&&(decide (aD.2.2.2=aE.2.2.2)))&&(val (FK (aD.1,(aD.2.1,(aD.2.2.1,()))) (aE.1,(aE.2.1,(aE.2.2.1,())))))))
   else none
section
variable (O:q9)
@[reducible] def O4:List Slot:=[(.val uW O,none)]
@[reducible] def SO:List Blk:=[]
@[go_sem] def KK:Ret:=⟨[((I4 O)).isSome=true],[(.val .bool (val (I4 O)),none)],[]⟩
def a6R:List Slot→List Blk→Option Ret:=pS (V:=q9) (fun x=>O4 x) (fun x=>SO) fun x=>KK x
@[go_sem] theorem aMa:a6R (no_index (O4 O)) (no_index SO)=some (KK O):=pT (fun a0 b0 h1 h2=>by cases h1;cases h2;rfl) O
end
@[reducible,go_sem] def aMb:Nat×Sig:=(7,⟨[.v],a6R,[],[],none⟩)
theorem BH:Env Tryz.prog [xC,EZ,C2] (pK [aFC,aDG,aEG,aET,a41,a5l,aBh,aDE]):=⟨⟨yR,⟨JJ,⟨F0,trivial⟩⟩⟩,pA aL9 (pA aLt (pA aLN (pA aLS (pA aEC (pA aEP (pA aKH (pA aLs pV))))))),pN⟩
theorem aMc:pM Tryz.prog aMb:=by
 refine pU BH Tryz.func7 (c:=_) rfl (N:=55) (by kernel_rfl) (ts:=[(2,none)]) rfl (fun _ _=>rfl) ?_
 intro O hs hrow
 dsimp only[O4,SO,KK,pP,enumH,pG,pL,pR,Nat.reduceAdd] at hs hrow⊢
 have hz:=hs
 obtain⟨z0,hC0⟩:=Option.isSome_iff_exists.1 hz
 try rw[q7 hC0]
 clear hz hs
 unfold I4 at hC0
 refine p4 BH ?_
 refine pC ?_
 obtain⟨Z,hv1,hw1,hC0⟩:=pE hC0
 try simp only[go_sem] at hw1
 refine p4 BH ?_ (hp:=by exact(pD hv1)) (h:=by simp only[go_sem,hw1];rfl)
 refine pB hC0 (fun hC0 hc1=> ?_) (fun hC0 hc1=> ?_)
 ·refine p4 BH ?_
  refine p8 (pZ ?_)
  cases hC0
  exact⟨[],by rfl,by rfl,by rfl⟩
 ·refine pJ (p9 (pC ?_))
  obtain⟨aA,hv2,hw2,hC0⟩:=pE hC0
  try simp only[go_sem] at hw2
  refine p4 BH ?_ (hp:=by exact(pD hv2)) (h:=by simp only[go_sem,hw2];rfl)
  refine pB hC0 (fun hC0 hc2=> ?_) (fun hC0 hc2=> ?_)
  ·refine p4 BH ?_
   refine p8 (pZ ?_)
   cases hC0
   exact⟨[],by rfl,by rfl,by rfl⟩
  ·refine pJ (p9 ?_)
   obtain⟨aB,hv3,hw3,hC0⟩:=pE hC0
   try simp only[go_sem] at hw3
   refine p4 BH ?_ (hp:=by exact(pD hv3)) (h:=by simp only[go_sem,hw3];rfl)
   obtain⟨aC,hv4,hw4,hC0⟩:=pE hC0
   try simp only[go_sem] at hw4
   refine p4 BH ?_ (hp:=by exact(pD hv4)) (h:=by simp only[go_sem,hw4];rfl)
   obtain⟨aD,hv5,hw5,hC0⟩:=pE hC0
   try simp only[go_sem] at hw5
   refine p4 BH ?_ (hp:=by exact(pD hv5)) (h:=by simp only[go_sem,hw5];rfl)
   obtain⟨aE,hv6,hw6,hC0⟩:=pE hC0
   try simp only[go_sem] at hw6
   refine p4 BH ?_ (hp:=by exact(pD hv6)) (h:=by simp only[go_sem,hw6];rfl)
   obtain⟨hg7,hC0⟩:=p6 hC0
   refine tV BH ?_ (hp:=by exact And.intro (fun hh=>hh) (And.intro (fun hh=>hh) (And.intro (fun hh=>qH hh) (And.intro (fun hh=>hh) (And.intro (fun hh=>hh) (And.intro (fun hh=>qH hh) (And.intro (fun hh=>hh) (And.intro (fun hh=>hh) (And.intro (fun hh=>hh) (And.intro hg7 ((fun hh=>qH hh))))))))))))
   refine p8 ?_
   cases hC0
   exact⟨[],by rfl,by rfl,by rfl⟩
attribute [irreducible] I4
end
end Go.Proofs.YtbbpilohihldiaaGreatDoor
namespace Go.Proofs.YtbbpilohihldiaaGreatDoor
open Vc
set_option maxRecDepth 100000
set_option maxHeartbeats 4000000
set_option linter.unusedSimpArgs false
set_option linter.unusedVariables false
end Go.Proofs.YtbbpilohihldiaaGreatDoor
section
end
namespace Go.Proofs.YtbbpilohihldiaaGreatDoor
open Vc
set_option maxRecDepth 100000
theorem r5 {i:Nat}(h:i≤1000000):p5 ((i:Int)+1):=by unfold p5;omega
theorem qJ {i n:Nat}(h:i<n):0≤(i:Int)∧(i:Int)<(n:Int):=⟨by omega,by omega⟩
theorem rO {i n:Nat}(h:i<n):decide ((i:Int)<(n:Int))=true:=by simpa using h
theorem sG (n:Nat): ¬decide ((n:Int)<(n:Int))=true:=by simp
theorem aFD {α:Type}{p:α→Bool}: ∀{l:List α},(l.findIdx? p).isSome=l.any p
 |[]=>rfl
 |x::l=>by
  rw[List.findIdx?_cons,List.any_cons]
  cases p x with
  |true=>rfl
  |false=>simp [aFD (l:=l)]
theorem G2 {α β:Type}{p:α→Bool}{l:List α}{f:Nat→β}{b:β}:sL f b (l.findIdx? p)=if l.any p=true then f ((l.findIdx? p).getD 0) else b:=by
 rw[←aFD]
 cases l.findIdx? p with
 |none=>rfl
 |some k=>rfl
def KL (c:Int):Bool:=(((!((decide ((97:Int)≤c))&&(decide (c≤(122:Int)))))&&(!((decide ((48:Int)≤c))&&(decide (c≤(57:Int))))))&&(!decide (c=(45:Int))))&&((decide (c<(65:Int)))||(decide ((90:Int)<c)))
def EB (s:List UInt8):Bool:= !(s.any fun b=>KL b.toNat)&&((decide ((1:Int)≤(s.length:Int)))&&(decide ((s.length:Int)≤(40:Int))))
theorem aMd (s:List UInt8) (hs:fit s):HN s=some (EB s):=by
 unfold fit at hs
 have h:=zQ (f:=N7 s) (l:=s) (fun b=>KL b.toNat) (fun _=>false) (fun i h=>by
  unfold N7
  rw[if_pos (rO h),if_pos (qJ h),vT h,if_pos (r5 (by omega))];rfl) (by
  unfold N7
  rw[if_neg (sG _)])
 unfold HN
 rw[h,G2]
 unfold EB
 cases s.any fun b=>KL b.toNat<;>rfl
def SP (c:Int):Bool:=((((decide (c<(97:Int)))||(decide ((122:Int)<c)))&&((decide (c<(65:Int)))||(decide ((90:Int)<c))))&&((decide (c<(48:Int)))||(decide ((57:Int)<c))))&&(!decide (c=(45:Int)))
theorem aMe (c:Int):SP c=KL c:=by
 unfold SP KL
 rw[Bool.eq_iff_iff]
 simp
 omega
theorem aMf (s:List UInt8):DI s=some (EB s):=by
 have h:=aBe (f:=MQ s) (s:=s) (fun c=>SP c) (fun _=>false) (fun c h=>by unfold SP;simp;omega) (fun i h=>by
  unfold MQ
  rw[if_pos (by simpa using h),if_pos (by simpa using h)];rfl) (by
  unfold MQ
  rw[if_neg (by simp)])
 unfold DI
 rw[h,G2]
 simp only[aMe]
 unfold EB
 cases s.any fun b=>KL b.toNat<;>rfl
def xO (c:Int):Bool:=((((!((decide ((97:Int)≤c))&&(decide (c≤(122:Int)))))&&(!((decide ((48:Int)≤c))&&(decide (c≤(57:Int))))))&&(!decide (c=(45:Int))))&&(!decide (c=(95:Int))))&&(!decide (c=(46:Int)))
def xP (c:Int):Bool:=(decide ((97:Int)≤c))&&(decide (c≤(122:Int)))
def rQ:List UInt8→Bool
 |[]=>false
 |b::t=>(!decide (40<t.length+1)&&xP b.toNat)&& !(t.any fun b=>xO b.toNat)
theorem SQ (s:List UInt8) (hs:fit s):C9 s=some (rQ s):=by
 unfold fit at hs
 unfold C9
 cases s with
 |nil=>simp [rQ]
 |cons b t=>
  have hb0:pF (b::t) (0:Int)=(b.toNat:Int):=vT (i:=0) (by simp)
  rw[if_pos (fun _=>⟨Int.le_refl 0,by simp only[List.length_cons];omega⟩),hb0]
  unfold rQ
  by_cases hl:(40:Int)<((b::t).length:Int)
  ·have hl2:40<t.length+1:=by simp only[List.length_cons] at hl;omega
   rw[if_pos (by simp only[hl,decide_true,Bool.or_true,Bool.true_or])]
   simp [hl2]
  ·have hl2: ¬40<t.length+1:=by simp only[List.length_cons] at hl;omega
   have hl3: ¬((b::t).length:Int)<1:=by simp;omega
   by_cases hb:xP b.toNat=true
   ·rw[if_neg (by unfold xP at hb;simp only[hl,hl3,hb];simp)]
    have h:=XK (f:=N8 (b::t)) (l:=b::t) (fun b=>xO b.toNat) (fun _=>false) (fun i h=>by
     unfold N8
     rw[if_pos (rO h),if_pos (qJ h),vT h,if_pos (r5 (by omega))];rfl) (by
     unfold N8
     rw[if_neg (sG _)]) t.length 1 (by simp;omega)
    rw[show ((1:Nat):Int)=1 from rfl] at h
    rw[h,G2]
    simp only[List.drop_succ_cons,List.drop_zero,hb,hl2,decide_false,Bool.not_false,Bool.true_and]
    cases t.any fun b=>xO b.toNat<;>rfl
   ·rw[if_pos (by unfold xP at hb;simp only[hb];simp)]
    simp [hb]
theorem aFE (s:List UInt8): ∀(n j:Nat),j+n=s.length→pQ (JS s) j=some (if (s.drop j).any (fun b=>xO b.toNat)=true∨(j=0∧s≠[]∧xP (s.getD 0 0).toNat=false) then .inr false else .inl ())
 |0,j,hj=>by
  have:j=s.length:=by omega
  subst this
  rw[List.drop_length,vJ]
  unfold JS
  rw[if_neg (by simp)]
  by_cases h0:s=[]
  ·subst h0;simp
  ·have:s.length≠0:=by simpa using h0
   simp [this]
 |n+1,j,hj=>by
  have hlt:j<s.length:=by omega
  have ih:=aFE s n (j+1) (by omega)
  rw[vJ,List.drop_eq_getElem_cons hlt,List.any_cons]
  have hstep:JS s j=if (xO (s[j].toNat:Int)=true∨(j=0∧xP (s[j].toNat:Int)=false)) then some (.inr (.inr false)) else some (.inl (j+1)):=by
   unfold JS
   rw[if_pos (by simpa using hlt),if_pos (by simpa using hlt),if_pos (by simpa using hlt)]
   by_cases ha:s[j].toNat<128
   ·obtain⟨e1,e2⟩:=aBb hlt ha
    rw[e1,e2]
    by_cases h1:xP (s[j].toNat:Int)=true
    ·rw[if_pos (by unfold xP at h1;exact h1),if_neg]
     unfold xP at h1
     simp only[Bool.and_eq_true,decide_eq_true_eq] at h1
     simp [xO,xP]
     omega
    ·have h1':xP (s[j].toNat:Int)=false:=by simpa using h1
     rw[if_neg (by unfold xP at h1;exact h1)]
     have h2: ¬(97≤(s[j].toNat:Int)∧(s[j].toNat:Int)≤122):=by
      unfold xP at h1;simpa using h1
     by_cases h3:xO (s[j].toNat:Int)=true∨j=0
     ·rw[if_neg,if_pos]
      ·rcases h3 with h3|h3
       ·exact .inl h3
       ·exact .inr ⟨h3,h1'⟩
      ·simp [xO] at h3⊢
       omega
     ·rw[if_pos,if_neg]
      ·intro h
       rcases h with h|⟨h,_⟩
       ·exact h3 (.inl h)
       ·exact h3 (.inr h)
      ·simp [xO] at h3⊢
       omega
   ·have hb:=aBc hlt (by omega)
    rw[if_neg (by simp;omega),if_neg (by simp;omega),if_pos (.inl (by simp [xO];omega))]
  rw[hstep]
  have hd:s.getD 0 0=s[0]'(by omega):=by simp [List.getD_eq_getElem?_getD,List.getElem?_eq_getElem (show 0<s.length by omega)]
  have hne:s≠[]:=by intro h;subst h;simp at hlt
  by_cases hp:xO (s[j].toNat:Int)=true∨(j=0∧xP (s[j].toNat:Int)=false)
  ·rw[if_pos hp,if_pos]
   ·rfl
   ·rcases hp with hp|⟨rfl,hp⟩
    ·left;simp [hp]
    ·right;exact⟨rfl,hne,by rw[hd];exact hp⟩
  ·rw[if_neg hp]
   show pQ _ (j+1)=_
   rw[ih]
   have hnb:xO (s[j].toNat:Int)=false:=by
    cases h:xO (s[j].toNat:Int) with
    |true=>exact absurd (.inl h) hp
    |false=>rfl
   simp only[hnb,Bool.false_or]
   congr 2
   apply propext
   constructor
   ·rintro(h|⟨h,_⟩)
    ·exact .inl h
    ·omega
   ·rintro(h|⟨rfl,_,h⟩)
    ·exact .inl h
    ·rw[hd] at h
     exact absurd (.inr ⟨rfl,h⟩) hp
theorem SR (s:List UInt8):AA s=some (rQ s):=by
 have h:=aFE s s.length 0 (by omega)
 unfold AA
 rw[h,List.drop_zero]
 cases s with
 |nil=>simp [rQ,qW]
 |cons b t=>
  simp only[List.any_cons,List.getD_cons_zero,ne_eq,reduceCtorEq,not_false_eq_true,true_and,rQ]
  cases hs:xP b.toNat with
  |false=>simp [qW]
  |true=>
   have hn:xO b.toNat=false:=by
    unfold xP at hs
    simp only[Bool.and_eq_true,decide_eq_true_eq] at hs
    simp [xO];omega
   simp only[hn,Bool.false_or]
   cases t.any (fun b=>xO b.toNat) with
   |true=>simp [qW]
   |false=>
    simp only[Bool.false_eq_true,false_or,and_false,if_false]
    show some (decide ((1:Int)≤((b::t).length:Int))&&decide (((b::t).length:Int)≤40))=_
    congr 1
    rw[Bool.eq_iff_iff]
    simp only[List.length_cons,Bool.and_eq_true,decide_eq_true_eq,Bool.not_eq_true',decide_eq_false_iff_not,Bool.not_false,and_true]
    omega
end Go.Proofs.YtbbpilohihldiaaGreatDoor
namespace Go.Proofs.YtbbpilohihldiaaGreatDoor
open Vc
set_option maxRecDepth 100000
theorem CH {β:Type}{f:Nat→β}{b:β}{o:Option Nat}:qW (some (sL (fun k=> .inr (f k)) (.inl ()) o)) (fun _=>some b)=some (sL f b o):=by
 cases o<;>rfl
theorem aFG {α:Type}{p:α→Bool}{l:List α}:decide ((0:Int)≤sL (fun k=>(k:Int)) (-1) (l.findIdx? p))=l.any p:=by
 rw[G2]
 cases l.any p
 ·rfl
 ·simp only[if_true,decide_eq_true_eq];omega
def vZ:List (List UInt8):=[[110,101,119],[102,117,122,122,121],[116,114,97,110,115,108,97,116,101,100],[114,101,118,105,101,119,101,100],[111,98,115,111,108,101,116,101]]
abbrev qS:=List UInt8×List UInt8×Unit
theorem SU {α:Type}{l:List α}{k:Nat}:pH l 0 (k:Int)=l.take k:=by unfold pH;simp
theorem CI {α:Type}{l:List α}{k:Nat}:pH l (k:Int) (l.length:Int)=l.drop k:=by
 unfold pH
 rw[Int.toNat_natCast,Int.toNat_natCast,List.take_of_length_le]
 rw[List.length_drop]
 exact Nat.le_refl _
end Go.Proofs.YtbbpilohihldiaaGreatDoor
namespace Go.Proofs.YtbbpilohihldiaaGreatDoor
open Vc
set_option maxRecDepth 100000
def xQ (n:Int):Prop:=0≤n∧n≤1114111∧(n<55296∨57343<n)
def uM (n:Int):Bool:=(((decide ((0:Int)≤n))&&(decide (n≤(1114111:Int))))&&((decide (n<(55296:Int)))||(decide ((57343:Int)<n))))
theorem EC (n:Int):uM n=true↔xQ n:=by
  unfold uM xQ
  simp
  omega
theorem SV {n:Int}(h0:0≤n) (h1:n≤127):Lib.encodeRune n=qY [n]:=by
  unfold Lib.encodeRune;rw[Lib.encodeRuneZ_one h0 h1];rfl
theorem SW {n:Int}(h0:128≤n) (h1:n≤2047):Lib.encodeRune n=qY [192+n/64,128+n%64]:=by
  unfold Lib.encodeRune;rw[Lib.encodeRuneZ_two h0 h1];rfl
theorem a6U {n:Int}(h:(2048≤n∧n<55296)∨(57343<n∧n≤65535)):Lib.encodeRune n=qY [224+n/4096,128+n/64%64,128+n%64]:=by
  unfold Lib.encodeRune;rw[Lib.encodeRuneZ_three h];rfl
theorem aFP {n:Int}(h0:65536≤n) (h1:n≤1114111):Lib.encodeRune n=qY [240+n/262144,128+n/4096%64,128+n/64%64,128+n%64]:=by
  unfold Lib.encodeRune;rw[Lib.encodeRuneZ_four h0 h1];rfl
theorem a6V {n:Int}(h:xQ n):yV n=some (Lib.encodeRune n):=by
  obtain⟨h0,h1,hs⟩:=h
  have w1:IntKind.i64.wrap (n/64)=n/64:=by rw[IntKind.wrap_i64];omega
  have w2:IntKind.i64.wrap (n/4096)=n/4096:=by rw[IntKind.wrap_i64];omega
  have w3:IntKind.i64.wrap (n/262144)=n/262144:=by rw[IntKind.wrap_i64];omega
  have m1:Int.tmod n 64=n%64:=Int.tmod_eq_emod_of_nonneg h0
  have m2:Int.tmod (n/64) 64=n/64%64:=Int.tmod_eq_emod_of_nonneg (by omega)
  have m3:Int.tmod (n/4096) 64=n/4096%64:=Int.tmod_eq_emod_of_nonneg (by omega)
  unfold yV
  simp only[Int.tdiv_eq_ediv_of_nonneg h0,w1,w2,w3,m1,m2,m3,IntKind.wrap_u8]
  by_cases c1:n<128
  ·rw[if_pos (by simpa using c1),SV h0 (by omega),show n%256=n by omega]
  · rw[if_neg (by simpa using c1)]
    by_cases c2:n<2048
    ·rw[if_pos (by simpa using c2),if_pos (by unfold p5;omega),if_pos (by unfold p5;omega),SW (by omega) (by omega),show (192+n/64) %256=192+n/64 by omega,show (128+n%64) %256=128+n%64 by omega]
    · rw[if_neg (by simpa using c2)]
      by_cases c3:n<65536
      ·rw[if_pos (by simpa using c3),if_pos (by unfold p5;omega),if_pos (by unfold p5;omega),if_pos (by unfold p5;omega),a6U (by omega),show (224+n/4096) %256=224+n/4096 by omega,show (128+n/64%64) %256=128+n/64%64 by omega,show (128+n%64) %256=128+n%64 by omega]
      ·rw[if_neg (by simpa using c3),if_pos (by unfold p5;omega),if_pos (by unfold p5;omega),if_pos (by unfold p5;omega),if_pos (by unfold p5;omega),aFP (by omega) (by omega),show (240+n/262144) %256=240+n/262144 by omega,show (128+n/4096%64) %256=128+n/4096%64 by omega,show (128+n/64%64) %256=128+n/64%64 by omega,show (128+n%64) %256=128+n%64 by omega]
theorem aFQ (n:Int):(Lib.encodeRuneZ n).length≤4:=by
  unfold Lib.encodeRuneZ
  repeat' split
  all_goals simp
theorem aFS {l:List UInt8}{i:Nat}(h:i<l.length):pF l (i:Int)=((l.getD i 0).toNat:Int):=by
  rw[vT h,List.getD_eq_getElem?_getD,List.getElem?_eq_getElem h];rfl
theorem aMo {s:List UInt8}{x n:Int}{i:Nat}(h:i<s.length) (hn:(i:Int)<n) (hx:0≤x) (hx1:x≤1000000) (hi:i≤10):B4 s n (x,(i:Int))=
    if (s.getD i 0).toNat/64=2 then some (.inl (64*x+(s.getD i 0).toNat-128,((i+1:Nat):Int))) else some (.inr (.inr (65533,1))):=by
  have hb:=(s.getD i 0).toNat_lt
  have hy:=aFS h
  generalize (s.getD i 0).toNat=B at hb hy⊢
  unfold B4
  dsimp only
  rw[if_pos (by simpa using hn),if_pos (qJ h),if_pos (fun _=>qJ h),hy]
  by_cases hc:B/64=2
  · rw[if_neg (by simp;omega),if_pos hc,if_pos (by unfold p5;omega),if_pos (qJ h),show IntKind.i64.wrap (B:Int)=(B:Int) by rw[IntKind.wrap_i64];omega,
      if_pos (by unfold p5;omega),if_pos (by unfold p5;omega),if_pos (by unfold p5;omega)]
    rfl
  ·rw[if_pos (by simp;omega),if_neg hc]
theorem a6X {s:List UInt8}{x n i:Int}(h:n≤i):B4 s n (x,i)=some (.inr (.inl x)):=by
  unfold B4
  dsimp only
  rw[if_neg (by simpa using h)]
def rY (s:List UInt8) (i:Nat):Bool:=decide ((s.getD i 0).toNat/64=2)
def vD (s:List UInt8) (i:Nat) (x:Int):Int:=64*x+(s.getD i 0).toNat-128
theorem a6Y {s:List UInt8}{i:Nat}{x m:Int}(h0:0≤x) (hm:x≤m) (hc:rY s i=true):0≤vD s i x∧vD s i x≤64*m+63:=by
  have hb:=(s.getD i 0).toNat_lt
  unfold rY at hc
  unfold vD
  simp only[decide_eq_true_eq] at hc
  omega
theorem KN {s:List UInt8}{x n:Int}{i:Nat}(h:i<s.length) (hn:(i:Int)<n) (hx:0≤x) (hx1:x≤1000000) (hi:i≤10):
    pQ (B4 s n) (x,(i:Int))=if rY s i=true then pQ (B4 s n) (vD s i x,((i+1:Nat):Int)) else some (.inr (65533,1)):=by
  rw[vJ,aMo h hn hx hx1 hi]
  unfold rY vD
  simp only[decide_eq_true_eq]
  by_cases hc:(s.getD i 0).toNat/64=2
  ·rw[if_pos hc,if_pos hc];rfl
  ·rw[if_neg hc,if_neg hc];rfl
theorem aMp {s:List UInt8}{x:Int}(h:1<s.length) (hx:0≤x) (hx1:x≤31):pQ (B4 s 2) (x,1)=some (if rY s 1=true then .inl (vD s 1 x) else .inr (65533,1)):=by
  show pQ _ (x,((1:Nat):Int))=_
  rw[KN h (by decide) hx (by omega) (by decide)]
  by_cases c1:rY s 1=true
  ·rw[if_pos c1,if_pos c1,tP (a6X (by decide))]
  ·rw[if_neg c1,if_neg c1]
theorem aMq {s:List UInt8}{x:Int}(h:2<s.length) (hx:0≤x) (hx1:x≤15):pQ (B4 s 3) (x,1)=some (if (rY s 1&&rY s 2)=true then .inl (vD s 2 (vD s 1 x)) else .inr (65533,1)):=by
  show pQ _ (x,((1:Nat):Int))=_
  rw[KN (by omega) (by decide) hx (by omega) (by decide)]
  by_cases c1:rY s 1=true
  · have b1:=a6Y hx hx1 c1
    rw[if_pos c1,KN h (by decide) b1.1 (by omega) (by decide),c1,Bool.true_and]
    by_cases c2:rY s 2=true
    ·rw[if_pos c2,if_pos c2,tP (a6X (by decide))]
    ·rw[if_neg c2,if_neg c2]
  ·rw[if_neg c1,if_neg (by simp [c1])]
theorem aMr {s:List UInt8}{x:Int}(h:3<s.length) (hx:0≤x) (hx1:x≤7):pQ (B4 s 4) (x,1)=some (if (rY s 1&&rY s 2&&rY s 3)=true then .inl (vD s 3 (vD s 2 (vD s 1 x))) else .inr (65533,1)):=by
  show pQ _ (x,((1:Nat):Int))=_
  rw[KN (by omega) (by decide) hx (by omega) (by decide)]
  by_cases c1:rY s 1=true
  · have b1:=a6Y hx hx1 c1
    rw[if_pos c1,KN (by omega) (by decide) b1.1 (by omega) (by decide),c1,Bool.true_and]
    by_cases c2:rY s 2=true
    · have b2:=a6Y b1.1 b1.2 c2
      rw[if_pos c2,KN h (by decide) b2.1 (by omega) (by decide),c2,Bool.true_and]
      by_cases c3:rY s 3=true
      ·rw[if_pos c3,if_pos c3,tP (a6X (by decide))]
      ·rw[if_neg c3,if_neg c3]
    ·rw[if_neg c2,if_neg (by simp [c2])]
  ·rw[if_neg c1,if_neg (by simp [c1])]
def uE (s:List UInt8) (x:Int) (n:Nat):Int×Int:=if uM x=true∧Lib.encodeRune x=s.take n then(x,n) else(65533,1)
theorem a6Z {s:List UInt8}{x:Int}{n:Nat}(hn:n≤s.length):
    (if (((!(((decide ((0:Int)≤x))&&(decide (x≤(1114111:Int))))&&((decide (x<(55296:Int)))||(decide ((57343:Int)<x)))))==false)=true→((yV x)).isSome=true) then
    if (((!(((decide ((0:Int)≤x))&&(decide (x≤(1114111:Int))))&&((decide (x<(55296:Int)))||(decide ((57343:Int)<x)))))==false)=true→0≤(0:Int)∧(0:Int)≤(n:Int)∧(n:Int)≤(List.length s:Int)) then
     if ((!(((decide ((0:Int)≤x))&&(decide (x≤(1114111:Int))))&&((decide (x<(55296:Int)))||(decide ((57343:Int)<x)))))||(!decide ((val (yV x))=(pH s (0:Int) (n:Int)))))=true then
      some (((65533:Int),(1:Int)))
     else
      some ((x,(n:Int)))
    else none
   else none)=some (uE s x n):=by
  rw[SU]
  simp only[show (((decide ((0:Int)≤x))&&(decide (x≤(1114111:Int))))&&((decide (x<(55296:Int)))||(decide ((57343:Int)<x))))=uM x from rfl]
  unfold uE
  by_cases hs:uM x=true
  · have ho:=a6V ((EC x).1 hs)
    rw[if_pos (fun _=>by rw[ho];rfl),if_pos (fun _=>⟨Int.le_refl _,by omega,by omega⟩),ho,hs]
    by_cases he:Lib.encodeRune x=s.take n
    ·rw[if_neg (by simp [val,he]),if_pos ⟨rfl,he⟩]
    ·rw[if_pos (by simp [val,he]),if_neg (fun h=>he h.2)]
  · have hs':uM x=false:=by simpa using hs
    rw[if_pos (fun h=>by simp [hs'] at h),if_pos (fun h=>by simp [hs'] at h),if_pos (by simp [hs']),if_neg (fun h=>hs h.1)]
theorem ED (z:Int) (l:List Int) (x:UInt8) (h:z=(x.toNat:Int)):qY (z::l)=x::qY l:=by
  show UInt8.ofNat z.toNat::qY l=_
  rw[h];simp
theorem a60:qY []=[]:=rfl
theorem KO (l:List Int):(qY l).length=l.length:=by simp [qY]
set_option maxHeartbeats 1000000 in
theorem aMs {s:List UInt8}(hl:1<s.length) (h0:192≤(s.getD 0 0).toNat) (h0':(s.getD 0 0).toNat<224) (hc:rY s 1=true):
    uE s (vD s 1 ((s.getD 0 0).toNat-192)) 2=(((Lib.decodeL s).1:Int),((Lib.decodeL s).2:Int)):=by
  unfold rY at hc
  simp only[decide_eq_true_eq] at hc
  have k0:=(s.getD 0 0).toNat_lt
  have k1:=(s.getD 1 0).toNat_lt
  have hd:Lib.decodeL s=if (s.getD 0 0).toNat%32*64+(s.getD 1 0).toNat%64≥128 then((s.getD 0 0).toNat%32*64+(s.getD 1 0).toNat%64,2) else(65533,1):=by
    rw[Lib.decodeL_N]
    unfold Lib.decodeN
    rw[if_neg (by omega),if_pos ⟨by omega,by omega,hc⟩]
  rw[hd]
  unfold uE vD
  rw[Lib.takeB s hl]
  have hx:uM (64*((s.getD 0 0).toNat-192)+(s.getD 1 0).toNat-128)=true:=(EC _).2 (by unfold xQ;omega)
  rw[hx]
  by_cases hv:(s.getD 0 0).toNat%32*64+(s.getD 1 0).toNat%64≥128
  · rw[if_pos hv,if_pos ⟨rfl,by
      rw[SW (by omega) (by omega),ED _ _ (s.getD 0 0) (by omega),ED _ _ (s.getD 1 0) (by omega),a60]⟩]
    exact Prod.ext (by show _=(((_:Nat)):Int);omega) rfl
  · rw[if_neg hv,if_neg (fun h=>by
      have h2:=congrArg List.length h.2
      rw[SV (by omega) (by omega),KO] at h2
      simp at h2)]
    rfl
set_option maxHeartbeats 1000000 in
theorem aMt {s:List UInt8}(hl:2<s.length) (h0:224≤(s.getD 0 0).toNat) (h0':(s.getD 0 0).toNat<240) (hc:rY s 1=true) (hc2:rY s 2=true):
    uE s (vD s 2 (vD s 1 ((s.getD 0 0).toNat-224))) 3=(((Lib.decodeL s).1:Int),((Lib.decodeL s).2:Int)):=by
  unfold rY at hc hc2
  simp only[decide_eq_true_eq] at hc hc2
  have k0:=(s.getD 0 0).toNat_lt
  have k1:=(s.getD 1 0).toNat_lt
  have k2:=(s.getD 2 0).toNat_lt
  obtain⟨V,hV⟩: ∃V,(s.getD 0 0).toNat%16*4096+(s.getD 1 0).toNat%64*64+(s.getD 2 0).toNat%64=V:=⟨_,rfl⟩
  have hd:Lib.decodeL s=if V≥2048∧(V<55296∨(57344≤V∧V≤1114111)) then(V,3) else(65533,1):=by
    rw[Lib.decodeL_N]
    unfold Lib.decodeN
    rw[if_neg (by omega),if_neg (by omega),if_pos ⟨by omega,⟨by omega,hc⟩,by omega,hc2⟩,hV]
  rw[hd]
  unfold uE vD
  rw[Lib.takeC s hl]
  generalize hX:64*(64*(((s.getD 0 0).toNat:Int)-224)+(s.getD 1 0).toNat-128)+(s.getD 2 0).toNat-128=X
  have hXV:X=(V:Int):=by omega
  by_cases hv:V≥2048∧(V<55296∨(57344≤V∧V≤1114111))
  · rw[if_pos hv,if_pos ⟨(EC _).2 (by unfold xQ;omega),by
      rw[a6U (by omega),ED _ _ (s.getD 0 0) (by omega),ED _ _ (s.getD 1 0) (by omega),ED _ _ (s.getD 2 0) (by omega),a60]⟩]
    exact Prod.ext hXV rfl
  · rw[if_neg hv,if_neg (fun h=>by
      have hs:=(EC _).1 h.1
      unfold xQ at hs
      have hlt:X<2048:=by omega
      have h2:=congrArg List.length h.2
      by_cases h7:X≤127
      ·rw[SV (by omega) h7,KO] at h2;simp at h2
      ·rw[SW (by omega) (by omega),KO] at h2;simp at h2)]
    rfl
set_option maxHeartbeats 1000000 in
theorem aMu {s:List UInt8}(hl:3<s.length) (h0:240≤(s.getD 0 0).toNat) (h0':(s.getD 0 0).toNat<248) (hc:rY s 1=true) (hc2:rY s 2=true) (hc3:rY s 3=true):
    uE s (vD s 3 (vD s 2 (vD s 1 ((s.getD 0 0).toNat-240)))) 4=(((Lib.decodeL s).1:Int),((Lib.decodeL s).2:Int)):=by
  unfold rY at hc hc2 hc3
  simp only[decide_eq_true_eq] at hc hc2 hc3
  have k0:=(s.getD 0 0).toNat_lt
  have k1:=(s.getD 1 0).toNat_lt
  have k2:=(s.getD 2 0).toNat_lt
  have k3:=(s.getD 3 0).toNat_lt
  obtain⟨V,hV⟩: ∃V,(s.getD 0 0).toNat%8*262144+(s.getD 1 0).toNat%64*4096+(s.getD 2 0).toNat%64*64+(s.getD 3 0).toNat%64=V:=⟨_,rfl⟩
  have hd:Lib.decodeL s=if V≥65536∧(V<55296∨(57344≤V∧V≤1114111)) then(V,4) else(65533,1):=by
    rw[Lib.decodeL_N]
    unfold Lib.decodeN
    rw[if_neg (by omega),if_neg (by omega),if_neg (by omega),if_pos ⟨by omega,⟨by omega,hc⟩,⟨by omega,hc2⟩,by omega,hc3⟩,hV]
  rw[hd]
  unfold uE vD
  rw[Lib.takeD s hl]
  generalize hX:64*(64*(64*(((s.getD 0 0).toNat:Int)-240)+(s.getD 1 0).toNat-128)+(s.getD 2 0).toNat-128)+(s.getD 3 0).toNat-128=X
  have hXV:X=(V:Int):=by omega
  by_cases hv:V≥65536∧(V<55296∨(57344≤V∧V≤1114111))
  · rw[if_pos hv,if_pos ⟨(EC _).2 (by unfold xQ;omega),by
      rw[aFP (by omega) (by omega),ED _ _ (s.getD 0 0) (by omega),ED _ _ (s.getD 1 0) (by omega),ED _ _ (s.getD 2 0) (by omega),ED _ _ (s.getD 3 0) (by omega),a60]⟩]
    exact Prod.ext hXV rfl
  · rw[if_neg hv,if_neg (fun h=>by
      have hs:=(EC _).1 h.1
      unfold xQ at hs
      have hlt:X<65536:=by omega
      have h2:=congrArg List.length h.2
      by_cases h7:X≤127
      ·rw[SV (by omega) h7,KO] at h2;simp at h2
      · by_cases h8:X≤2047
        ·rw[SW (by omega) (by omega),KO] at h2;simp at h2
        ·rw[a6U (by omega),KO] at h2;simp at h2)]
    rfl
theorem I5 {s:List UInt8}(h: ¬(s.getD 0 0).toNat<128) (h2: ¬((s.getD 0 0).toNat/32=6∧1<s.length∧rY s 1=true)) (h3: ¬((s.getD 0 0).toNat/16=14∧2<s.length∧(rY s 1&&rY s 2)=true))
    (h4: ¬((s.getD 0 0).toNat/8=30∧3<s.length∧(rY s 1&&rY s 2&&rY s 3)=true)):Lib.decodeL s=(65533,1):=by
  unfold rY at h2 h3 h4
  simp only[Bool.and_eq_true,decide_eq_true_eq] at h2 h3 h4
  rw[Lib.decodeL_N]
  unfold Lib.decodeN
  rw[if_neg h,if_neg (fun⟨a,b,c⟩=>h2 ⟨a,b,c⟩),if_neg (fun⟨a,⟨b,c⟩,d,e⟩=>h3 ⟨a,d,c,e⟩),if_neg (fun⟨a,⟨b,c⟩,⟨d,e⟩,f,g⟩=>h4 ⟨a,f,⟨c,e⟩,g⟩)]
set_option maxHeartbeats 1000000 in
theorem aMv {s:List UInt8}(hne:s≠[]):FA s=some (((Lib.decodeL s).1:Int),((Lib.decodeL s).2:Int)):=by
  have hl:0<s.length:=List.length_pos_iff.2 hne
  have hy:pF s 0=((s.getD 0 0).toNat:Int):=aFS (i:=0) hl
  have k0:=(s.getD 0 0).toNat_lt
  have hw:IntKind.i64.wrap ((s.getD 0 0).toNat:Int)=((s.getD 0 0).toNat:Int):=by rw[IntKind.wrap_i64];omega
  unfold FA
  rw[if_pos ⟨Int.le_refl _,by omega⟩,hy,hw]
  by_cases c1:(s.getD 0 0).toNat<128
  · rw[if_pos (by simp only[decide_eq_true_eq];omega)]
    rw[Lib.decodeL_N]
    unfold Lib.decodeN
    rw[if_pos c1]
    rfl
  · rw[if_neg (by simp only[decide_eq_true_eq];omega)]
    by_cases c2:192≤(s.getD 0 0).toNat∧(s.getD 0 0).toNat<224
    · rw[if_pos (by simp only[Bool.and_eq_true,decide_eq_true_eq];omega),if_pos (by unfold p5;omega)]
      show (if decide ((s.length:Int)<2)=true then _ else _)=_
      by_cases l2:1<s.length
      · rw[if_neg (by simp only[decide_eq_true_eq];omega),aMp l2 (by omega) (by omega)]
        by_cases hc:rY s 1=true
        · rw[if_pos hc,←aMs l2 c2.1 c2.2 hc,←a6Z (s:=s) (n:=2) (by omega)]
          rfl
        · rw[if_neg hc,I5 c1 (fun h=>hc h.2.2) (fun h=>by omega) (fun h=>by omega)]
          rfl
      · rw[if_pos (by simp only[decide_eq_true_eq];omega),I5 c1 (fun h=>l2 h.2.1) (fun h=>by omega) (fun h=>by omega)]
        rfl
    · rw[if_neg (by simp only[Bool.and_eq_true,decide_eq_true_eq];omega)]
      by_cases c3:224≤(s.getD 0 0).toNat∧(s.getD 0 0).toNat<240
      · rw[if_pos (by simp only[Bool.and_eq_true,decide_eq_true_eq];omega),if_pos (by unfold p5;omega)]
        show (if decide ((s.length:Int)<3)=true then _ else _)=_
        by_cases l2:2<s.length
        · rw[if_neg (by simp only[decide_eq_true_eq];omega),aMq l2 (by omega) (by omega)]
          by_cases hc:(rY s 1&&rY s 2)=true
          · have hc':=Bool.and_eq_true _ _▸hc
            rw[if_pos hc,←aMt l2 c3.1 c3.2 hc'.1 hc'.2,←a6Z (s:=s) (n:=3) (by omega)]
            rfl
          · rw[if_neg hc,I5 c1 (fun h=>by omega) (fun h=>hc h.2.2) (fun h=>by omega)]
            rfl
        · rw[if_pos (by simp only[decide_eq_true_eq];omega),I5 c1 (fun h=>by omega) (fun h=>l2 h.2.1) (fun h=>by omega)]
          rfl
      · rw[if_neg (by simp only[Bool.and_eq_true,decide_eq_true_eq];omega)]
        by_cases c4:240≤(s.getD 0 0).toNat∧(s.getD 0 0).toNat<248
        · rw[if_pos (by simp only[Bool.and_eq_true,decide_eq_true_eq];omega),if_pos (by unfold p5;omega)]
          show (if decide ((s.length:Int)<4)=true then _ else _)=_
          by_cases l2:3<s.length
          · rw[if_neg (by simp only[decide_eq_true_eq];omega),aMr l2 (by omega) (by omega)]
            by_cases hc:(rY s 1&&rY s 2&&rY s 3)=true
            · have hc':=Bool.and_eq_true _ _▸hc
              have hc'':=Bool.and_eq_true _ _▸hc'.1
              rw[if_pos hc,←aMu l2 c4.1 c4.2 hc''.1 hc''.2 hc'.2,←a6Z (s:=s) (n:=4) (by omega)]
              rfl
            · rw[if_neg hc,I5 c1 (fun h=>by omega) (fun h=>by omega) (fun h=>hc h.2.2)]
              rfl
          · rw[if_pos (by simp only[decide_eq_true_eq];omega),I5 c1 (fun h=>by omega) (fun h=>by omega) (fun h=>l2 h.2.1)]
            rfl
        · rw[if_neg (by simp only[Bool.and_eq_true,decide_eq_true_eq];omega),I5 c1 (fun h=>by omega) (fun h=>by omega) (fun h=>by omega)]
          rfl
end Go.Proofs.YtbbpilohihldiaaGreatDoor
namespace Go.Proofs.YtbbpilohihldiaaGreatDoor
open Vc
set_option maxRecDepth 100000
def w4:Nat→List UInt8→List Int
 |0,_=>[]
 |n+1,s=>if s=[] then[] else((Lib.decodeL s).1:Int)::w4 n (s.drop (Lib.decodeL s).2)
theorem aFT: ∀(n:Nat) (s:List UInt8),(w4 n s).length≤n
 |0,_=>Nat.le_refl _
 |n+1,s=>by
  unfold w4
  split
  ·simp
  ·simp only[List.length_cons]
   have:=aFT n (s.drop (Lib.decodeL s).2)
   omega
theorem aMw (s:List UInt8):xQ ((Lib.decodeL s).1:Int):=by
 have k0:=(s.getD 0 0).toNat_lt
 rw[Lib.decodeL_N]
 rcases Lib.decodeN_shape s.length (s.getD 0 0).toNat (s.getD 1 0).toNat (s.getD 2 0).toNat (s.getD 3 0).toNat with⟨c,e⟩ |⟨c1,c2,c3,cv,e⟩ |⟨c1,c2,c3,c4,cv,cs,e⟩ |⟨c1,c2,c3,c4,c5,cv,cw,e⟩ |e
 all_goals (rw[e];unfold xQ;dsimp only;omega)
theorem aFU: ∀(n:Nat) (s:List UInt8) (out:List Int),s.length≤n→out.length+s.length≤1000000→pQ K4 (s,out)=some (out++w4 n s)
 |n,[],out,_,_=>by
  rw[tP (r:=out) (by unfold K4;simp)]
  cases n<;>simp [w4]
 |0,b::t,_,h,_=>by simp at h
 |n+1,b::t,out,h,ho=>by
  have hne:(b::t)≠[]:=by simp
  have hle:=Lib.decodeL_le (b::t) hne
  have hw:=Lib.decodeL_width (b::t)
  have hstep:K4 (b::t,out)=some (.inl ((b::t).drop (Lib.decodeL (b::t)).2,out++[((Lib.decodeL (b::t)).1:Int)])):=by
   unfold K4
   dsimp only
   rw[if_pos (by simp),aMv hne]
   simp only[Option.bind_some]
   rw[if_pos (by simp only[List.length_cons,List.length_nil] at ho⊢;omega),if_pos ⟨by omega,by omega,Int.le_refl _⟩,CI]
  rw[DC hstep,aFU n _ _ (by rw[List.length_drop];simp only[List.length_cons] at h hle⊢;omega) (by rw[List.length_drop,List.length_append];simp only[List.length_cons,List.length_nil] at ho hle⊢;omega)]
  rw[show w4 (n+1) (b::t)=((Lib.decodeL (b::t)).1:Int)::w4 n ((b::t).drop (Lib.decodeL (b::t)).2) by rw[w4,if_neg hne],List.append_assoc]
  rfl
def SX (s:List UInt8):List Int:=w4 s.length s
theorem aMx (s:List UInt8) (hs:fit s):FE s=some (SX s):=by
 unfold fit at hs
 unfold FE
 rw[aFU s.length s [] (Nat.le_refl _) (by simpa using hs)]
 rfl
theorem aFV: ∀(n:Nat) (s:List UInt8),∀x∈w4 n s,xQ x
 |0,_,_,h=>by cases h
 |n+1,s,x,h=>by
  unfold w4 at h
  split at h
  ·cases h
  ·rcases List.mem_cons.1 h with h|h
   ·rw[h];exact aMw s
   ·exact aFV n _ x h
def G3 (l:List Int):List UInt8:=(l.map Lib.encodeRune).flatten
theorem aFW (n:Int):(Lib.encodeRune n).length≤4:=by
 unfold Lib.encodeRune
 rw[List.length_map]
 exact aFQ n
theorem aFX (l:List Int) (hsc: ∀x∈l,xQ x) (hl:fit l): ∀(n j:Nat) (s:List UInt8),j+n=l.length→s.length+4*n≤10000000→pQ (K3 l) (s,(j:Int))=some (s++G3 (l.drop j))
 |0,j,s,hj,_=>by
  have:j=l.length:=by omega
  subst this
  rw[tP (r:=s) (by unfold K3;simp),List.drop_length]
  simp [G3]
 |n+1,j,s,hj,hs=>by
  have hlt:j<l.length:=by omega
  unfold fit at hl
  have hx:=hsc l[j] (List.getElem_mem hlt)
  have h4:=aFW l[j]
  have hstep:K3 l (s,(j:Int))=some (.inl (s++Lib.encodeRune l[j],((j+1:Nat):Int))):=by
   unfold K3
   dsimp only
   rw[if_pos (rO hlt),if_pos (qJ hlt),vS (t:= .int .i64) hlt]
   have hb:=(EC l[j]).2 hx
   unfold uM at hb
   rw[if_pos hb,if_pos (qJ hlt),a6V hx]
   simp only[Option.bind_some]
   rw[if_pos (by rw[List.length_append];omega),if_pos (r5 (by omega))]
   rfl
  rw[DC hstep,aFX l hsc hl n (j+1) _ (by omega) (by rw[List.length_append];omega),List.drop_eq_getElem_cons hlt,List.append_assoc]
  rfl
theorem aMy (l:List Int) (hsc: ∀x∈l,xQ x) (hl:fit l):HS l=some (G3 l):=by
 have hl':=hl
 unfold fit at hl'
 unfold HS
 rw[show ((0:Int))=((0:Nat):Int) from rfl,aFX l hsc hl l.length 0 [] (by omega) (by simp;omega)]
 rfl
theorem aFY: ∀(n:Nat) (s:List UInt8),s.length≤n→s.length≤(G3 (w4 n s)).length∧(G3 (w4 n s)=s↔Lib.validD s=true)
 |n,[],_=>by
  have:w4 n []=[]:=by cases n<;>simp [w4]
  rw[this]
  simp [G3,Lib.validD_nil]
 |0,b::t,h=>by simp at h
 |n+1,b::t,h=>by
  have hne:(b::t)≠[]:=by simp
  have hle:=Lib.decodeL_le (b::t) hne
  have hw:=Lib.decodeL_width (b::t)
  obtain⟨ih1,ih2⟩:=aFY n ((b::t).drop (Lib.decodeL (b::t)).2) (by rw[List.length_drop];simp only[List.length_cons] at h⊢;omega)
  have hr:G3 (w4 (n+1) (b::t))=Lib.encodeRune ((Lib.decodeL (b::t)).1:Int)++G3 (w4 n ((b::t).drop (Lib.decodeL (b::t)).2)):=by
   rw[w4,if_neg hne]
   rfl
  rw[hr,Lib.validD_step _ hne]
  rw[List.length_drop] at ih1
  by_cases hv:(Lib.decodeL (b::t)).1=65533∧(Lib.decodeL (b::t)).2=1
  ·rw[if_pos hv,hv.1]
   have e3:(Lib.encodeRune ((65533:Nat):Int)).length=3:=rfl
   rw[hv.2] at ih1⊢
   refine⟨by rw[List.length_append,e3];omega,fun he=> ?_,fun he=>by cases he⟩
   have:=congrArg List.length he
   rw[List.length_append,e3] at this
   omega
  ·have he:=Lib.encode_decode (b::t) hne hv
   rw[if_neg hv,he]
   refine⟨by rw[List.length_append,List.length_take];omega,?_⟩
   rw[←ih2]
   constructor
   ·intro h1
    exact List.append_cancel_left (h1.trans (List.take_append_drop _ _).symm)
   ·intro h1
    rw[h1,List.take_append_drop]
theorem aMz (s:List UInt8) (hs:fit s):s5 s=some (Lib.validD s):=by
 have hl:fit (SX s):=by
  have:=aFT s.length s
  unfold fit SX at*
  omega
 unfold s5
 rw[aMx s hs]
 simp only[Option.bind_some]
 rw[aMy (SX s) (fun x hx=>aFV _ _ x hx) hl]
 simp only[Option.bind_some]
 congr 1
 have:=(aFY s.length s (Nat.le_refl _)).2
 rw[Bool.eq_iff_iff,decide_eq_true_eq]
 exact this
def uF (s:List UInt8):Bool:=decide ((s.length:Int)≤4000)&&Lib.validD s
theorem KP (s:List UInt8) (hs:fit s):BA s=some ()∧((decide ((s.length:Int)≤4000))&&val (s5 s))=uF s:=by
 unfold BA
 rw[aMz s hs]
 exact⟨if_pos (fun _=>rfl),rfl⟩
theorem KQ (s:List UInt8) (hs:fit s):B7 s=some ():=by
 unfold fit at hs
 unfold B7 MU
 rw[if_pos (fun _=>by rw[if_pos (by omega)];rfl)]
end Go.Proofs.YtbbpilohihldiaaGreatDoor
namespace Go.Proofs.YtbbpilohihldiaaGreatDoor
open Vc
set_option maxRecDepth 100000
theorem uG {p:Prop}{α:Type}{v:α}:p→(some v).isSome=true:=fun _=>rfl
theorem O6 {ρ:Type}{f:Int→Option (Int⊕(Unit⊕ρ))}{n:Nat}(p:Nat→Bool) (g:Nat→ρ)
  (hf: ∀(i:Nat),i<n→f i=if p i=true then some (.inr (.inr (g i))) else some (.inl (i+1)))
  (he:f n=some (.inr (.inl ()))):pQ f 0=some (sL (fun k=> .inr (g k)) (.inl ()) ((List.range n).findIdx? p)):=by
 refine zQ (l:=List.range n) p g (fun i h=> ?_) (by rw[List.length_range];exact he)
 have hi:i<n:=by rw[List.length_range] at h;exact h
 rw[List.getElem_range]
 exact hf i hi
theorem aFZ (a b:List UInt8):(!Op.bytesLess a b)=(Op.bytesLess b a||decide (b=a)):=by
 rw[bytesLess_eq,bytesLess_eq,Bool.eq_iff_iff]
 simp only[Bool.not_eq_true',decide_eq_false_iff_not,Bool.or_eq_true,decide_eq_true_eq]
 constructor
 ·intro h
  exact(List.le_iff_lt_or_eq.1 (List.not_lt.1 h))
 ·rintro(h|h)
  ·exact List.lt_asymm h
  ·rw[h];exact List.lt_irrefl _
theorem O7 {n:Nat}{p:Nat→Bool}{b:Bool}:qW (some (sL (fun _=>Sum.inr false) (Sum.inl ()) ((List.range n).findIdx? p))) (fun _:Unit=>some b)=some (!((List.range n).any p)&&b):=by
 rw[G2]
 cases(List.range n).any p<;>rfl
def AF (l:List (List UInt8)):Bool:=decide ((l.length:Int)≤20)&& !(l.any fun x=> !uF x)
theorem aMA {α:Type}{l:List α}{p:α→Bool}{b:Bool}:qW (some (sL (fun _=>Sum.inr false) (Sum.inl ()) (l.findIdx? p))) (fun _:Unit=>some b)=some (!(l.any p)&&b):=by
 rw[G2]
 cases l.any p<;>rfl
theorem aF0 (l:List (List UInt8)) (hl:fit l) (hx: ∀x∈l,fit x):y8 l=some (AF l):=by
 unfold fit at hl
 have h:=zQ (f:=NQ l) (l:=l) (fun x=> !uF x) (fun _=>false) (fun i h=>by
  obtain⟨h1,h2⟩:=KP l[i] (hx _ (List.getElem_mem h))
  unfold NQ
  rw[if_pos (rO h),if_pos (qJ h),vS (t:= .str) h,h1,Option.bind_some,h2,if_pos (r5 (by omega))]) (by
  unfold NQ
  rw[if_neg (sG _)])
 unfold y8
 rw[h,aMA,AF,Bool.and_comm]
theorem aMB (l:List (List UInt8)) (hl:fit l) (hx: ∀x∈l,fit x):yY l=some (l.any fun x=> !uF x):=by
 unfold fit at hl
 have h:=zQ (f:=NL l) (l:=l) (fun x=> !uF x) (fun k=>(k:Int)) (fun i h=>by
  have h1:=KQ l[i] (hx _ (List.getElem_mem h))
  unfold NL NH
  rw[if_pos (rO h),if_pos (qJ h),vS (t:= .str) h,h1,Option.bind_some,Option.bind_some,if_pos (r5 (by omega))]
  rfl) (by
  unfold NL
  rw[if_neg (sG _)])
 unfold yY K9
 rw[h,CH]
 show some (decide _)=_
 rw[aFG]
theorem aF1 (l:List (List UInt8)) (hl:fit l) (hx: ∀x∈l,fit x):HY l=some ()∧((decide ((l.length:Int)≤20))&&(!(val (yY l))))=AF l:=by
 unfold HY
 rw[aMB l hl hx]
 exact⟨if_pos uG,rfl⟩
def a61 (l:List (List UInt8)) (i:Nat):Bool:=(!rQ (l.getD i []))||(decide (0<i)&& !Op.bytesLess (l.getD (i-1) []) (l.getD i []))
def KR (l:List (List UInt8)):Bool:= !((List.range l.length).any (a61 l))&&decide ((l.length:Int)≤20)
theorem I6 {l:List (List UInt8)}{i:Nat}:pI .str l (i:Int)=l.getD i []:=by unfold pI;rw[Int.toNat_natCast];rfl
theorem aF2 {l:List (List UInt8)}{i:Nat}:pI .str l ((i:Int)-1)=l.getD (i-1) []:=by
 unfold pI
 rw[show ((i:Int)-1).toNat=i-1 by omega];rfl
theorem SY {i:Nat}:decide ((0:Int)<(i:Int))=decide (0<i):=by simp
theorem aMC (l:List (List UInt8)) (hl:fit l):DJ l=some (KR l):=by
 unfold fit at hl
 have h:=O6 (f:=MR l) (n:=l.length) (a61 l) (fun _=>false) (fun i h=>by
  unfold MR
  rw[if_pos (rO h),if_pos (qJ h),I6,aF2,SR,Option.bind_some,SY]
  have h0: ∀q:Bool,((q==false)&&(decide (0<i)==true))=true→0<i:=fun q hq=>by
   simp only[Bool.and_eq_true,beq_iff_eq,decide_eq_true_eq] at hq
   exact hq.2
  rw[if_pos (fun hq=>by have:=h0 _ hq;unfold p5;omega),if_pos (fun hq=>by have:=h0 _ hq;omega),if_pos (r5 (by omega))]
  rfl) (by
  unfold MR
  rw[if_neg (sG _)])
 unfold DJ
 rw[h,O7];rfl
theorem aMD (l:List (List UInt8)) (hl:fit l) (hx: ∀x∈l,fit x):B9 l=some (KR l):=by
 unfold fit at hl
 have h:=O6 (f:=NC l) (n:=l.length) (a61 l) (fun _=>false) (fun i h=>by
  unfold NC
  have hf:fit (l.getD i []):=by rw[List.getD_eq_getElem?_getD,List.getElem?_eq_getElem h];exact hx _ (List.getElem_mem h)
  rw[if_pos (rO h),if_pos (qJ h),I6,aF2,SQ _ hf,Option.bind_some,SY]
  have h0: ∀q:Bool,((q==false)&&(decide (0<i)==true))=true→0<i:=fun q hq=>by
   simp only[Bool.and_eq_true,beq_iff_eq,decide_eq_true_eq] at hq
   exact hq.2
  rw[if_pos (fun _=>qJ h),if_pos (fun hq=>by have:=h0 _ hq;unfold p5;omega),if_pos (fun hq=>by have:=h0 _ hq;omega),if_pos (r5 (by omega)),←aFZ]
  rfl) (by
  unfold NC
  rw[if_neg (sG _)])
 unfold B9
 rw[h,O7];rfl
abbrev fD:qS:=([],([],()))
def a62 (l:List qS) (i:Nat):Bool:=((!rQ (l.getD i fD).1)||(!uF (l.getD i fD).2.1))||(decide (0<i)&& !Op.bytesLess (l.getD (i-1) fD).1 (l.getD i fD).1)
def BJ (l:List qS):Bool:= !((List.range l.length).any (a62 l))&&decide ((l.length:Int)≤20)
theorem SZ {l:List qS}{i:Nat}:pI (.pair .str (.pair .str .unit)) l (i:Int)=l.getD i fD:=by unfold pI;rw[Int.toNat_natCast];rfl
theorem aF3 {l:List qS}{i:Nat}:pI (.pair .str (.pair .str .unit)) l ((i:Int)-1)=l.getD (i-1) fD:=by
 unfold pI
 rw[show ((i:Int)-1).toNat=i-1 by omega];rfl
def FldFit (x:qS):Prop:=fit x.1∧fit x.2.1
theorem CJ {α:Type}{l:List α}{i:Nat}{d:α}(h:i<l.length):l.getD i d∈l:=by
 rw[List.getD_eq_getElem?_getD,List.getElem?_eq_getElem h];exact List.getElem_mem h
theorem T0 {i:Nat}{q:Bool}(hq:((q==false)&&(decide (0<i)==true))=true):0<i:=by
 simp only[Bool.and_eq_true,beq_iff_eq,decide_eq_true_eq] at hq
 exact hq.2
theorem aF4 (l:List qS) (hl:fit l) (hx: ∀x∈l,FldFit x):CB l=some (BJ l):=by
 unfold fit at hl
 have h:=O6 (f:=ND l) (n:=l.length) (a62 l) (fun _=>false) (fun i h=>by
  unfold ND
  have hf:=hx _ (CJ (d:=fD) h)
  rw[if_pos (rO h),if_pos (qJ h),SZ,aF3,SR,Option.bind_some,SY,KQ _ hf.2]
  rw[if_pos uG,if_pos (fun hq=>by have:=T0 hq;unfold p5;omega),if_pos (fun hq=>by have:=T0 hq;omega),if_pos (r5 (by omega))]
  rfl) (by
  unfold ND
  rw[if_neg (sG _)])
 unfold CB
 rw[h,O7];rfl
theorem aF5 (l:List qS) (hl:fit l) (hx: ∀x∈l,FldFit x):AC l=some (BJ l):=by
 unfold fit at hl
 have h:=O6 (f:=NR l) (n:=l.length) (a62 l) (fun _=>false) (fun i h=>by
  unfold NR
  have hf:=hx _ (CJ (d:=fD) h)
  obtain⟨h1,h2⟩:=KP _ hf.2
  rw[if_pos (rO h),if_pos (qJ h),SZ,aF3,SQ _ hf.1,Option.bind_some,SY,h1,h2]
  rw[if_pos (fun _=>qJ h),if_pos uG,if_pos (fun _=>qJ h),if_pos (fun hq=>by have:=T0 hq;unfold p5;omega),if_pos (fun hq=>by have:=T0 hq;omega),if_pos (r5 (by omega)),←aFZ]
  rfl) (by
  unfold NR
  rw[if_neg (sG _)])
 unfold AC
 rw[h,O7];rfl
abbrev Ent:=qR
structure EntFitP (x:Ent):Prop where
 id:fit x.1
 src:fit x.2.1
 tgt:fit x.2.2.1
 com:fit x.2.2.2.1∧∀y∈x.2.2.2.1,fit y
 flg:fit x.2.2.2.2.1∧∀y∈x.2.2.2.2.1,fit y
 fld:fit x.2.2.2.2.2.2.1∧∀y∈x.2.2.2.2.2.2.1,FldFit y
def G4 (x:Ent):Bool:=
 (((((((!decide (x.1=[]))&&decide ((x.1.length:Int)≤200))&&uF x.1)&&uF x.2.1)&&uF x.2.2.1)&&AF x.2.2.2.1)&&KR x.2.2.2.2.1)&&(decide (0≤x.2.2.2.2.2.1)&&decide (x.2.2.2.2.2.1≤4))&&BJ x.2.2.2.2.2.2.1
theorem aME (x:Ent) (h:EntFitP x):FX x=some (G4 x):=by
 obtain⟨t1,t2⟩:=aF1 _ h.com.1 h.com.2
 have e1:=aMC _ h.flg.1
 have e2:=aF4 _ h.fld.1 h.fld.2
 unfold FX
 rw[KQ _ h.id,KQ _ h.src,KQ _ h.tgt,t1,t2,e1,e2]
 have k: ∀s:List UInt8,(decide ((s.length:Int)≤4000)&&Lib.validD s)=uF s:=fun s=>rfl
 rw[if_pos uG,Option.bind_some,if_pos uG,if_pos uG,if_pos uG,if_pos uG,k,k,k]
 unfold G4
 show (if _ then some false else some _)=_
 have a1:decide ((200:Int)<(x.1.length:Int))= !decide ((x.1.length:Int)≤200):=by rw[←decide_not];exact decide_eq_decide.2 (by omega)
 have a2:decide (x.2.2.2.2.2.1<(0:Int))= !decide ((0:Int)≤x.2.2.2.2.2.1):=by rw[←decide_not];exact decide_eq_decide.2 (by omega)
 have a3:decide ((4:Int)<x.2.2.2.2.2.1)= !decide (x.2.2.2.2.2.1≤(4:Int)):=by rw[←decide_not];exact decide_eq_decide.2 (by omega)
 rw[a1,a2,a3]
 show (if _ then some false else some (((((uF x.2.1&&uF x.2.2.1)&&AF x.2.2.2.1)&&KR x.2.2.2.2.1))&&BJ x.2.2.2.2.2.2.1))=_
 generalize decide (x.1=[])=b1
 generalize decide ((x.1.length:Int)≤200)=b2
 generalize uF x.1=b3
 generalize uF x.2.1=b4
 generalize uF x.2.2.1=b5
 generalize AF x.2.2.2.1=b6
 generalize KR x.2.2.2.2.1=b7
 generalize decide ((0:Int)≤x.2.2.2.2.2.1)=b8
 generalize decide (x.2.2.2.2.2.1≤(4:Int))=b9
 generalize BJ x.2.2.2.2.2.2.1=b10
 cases b1<;>cases b2<;>cases b3<;>cases b8<;>cases b9<;>simp
theorem aMF (x:Ent) (h:EntFitP x):KD x=some ()∧((((((((((!decide (x.1=([]:List UInt8)))&&(decide ((List.length x.1:Int)≤(200:Int))))&&((decide ((List.length x.1:Int)≤(4000:Int)))&&(val (s5 x.1))))&&((decide ((List.length x.2.1:Int)≤(4000:Int)))&&(val (s5 x.2.1))))&&((decide ((List.length x.2.2.1:Int)≤(4000:Int)))&&(val (s5 x.2.2.1))))&&(val (y8 x.2.2.2.1)))&&(val (B9 x.2.2.2.2.1)))&&(decide ((0:Int)≤x.2.2.2.2.2.1)))&&(decide (x.2.2.2.2.2.1≤(4:Int))))&&(val (AC x.2.2.2.2.2.2.1)))=G4 x:=by
 obtain⟨u1,v1⟩:=KP _ h.id
 obtain⟨u2,v2⟩:=KP _ h.src
 obtain⟨u3,v3⟩:=KP _ h.tgt
 have e0:=aF0 _ h.com.1 h.com.2
 have e1:=aMD _ h.flg.1 h.flg.2
 have e2:=aF5 _ h.fld.1 h.fld.2
 unfold KD
 rw[u1,u2,u3,v1,v2,v3,e0,e1,e2]
 refine⟨?_,?_⟩
 ·rw[if_pos uG,if_pos uG,if_pos uG,if_pos uG,if_pos uG,if_pos uG]
 ·unfold G4
  show (((((((((!_&&_)&&_)&&_)&&_)&&AF x.2.2.2.1)&&KR x.2.2.2.2.1)&&_)&&_)&&BJ x.2.2.2.2.2.2.1)=_
  simp only[Bool.and_assoc]
end Go.Proofs.YtbbpilohihldiaaGreatDoor
namespace Go.Proofs.YtbbpilohihldiaaGreatDoor
open Vc
set_option maxRecDepth 100000
def sS (d:UInt8):List UInt8→Option Nat
 |[]=>none
 |[b]=>if b=d then some 0 else none
 |b::c::t=>if b=d then some 0 else if b=92 then(sS d t).map (· +2) else(sS d (c::t)).map (· +1)
def yE (c base:Int):Int:=
 let n:=if 48≤c∧c≤57 then c-48 else if 97≤c∧c≤102 then c-87 else if 65≤c∧c≤70 then c-55 else-1
 if base≤n then-1 else n
def w5 (base:Int):Int→List UInt8→Option Int
 |acc,[]=>some acc
 |acc,b::t=>if yE b.toNat base<0 then none else w5 base (base*acc+yE b.toNat base) t
end Go.Proofs.YtbbpilohihldiaaGreatDoor
namespace Go.Proofs.YtbbpilohihldiaaGreatDoor
open Vc
set_option maxRecDepth 100000
def I7:List UInt8:=[92,34,61,58,35,33,123,125,32]
def CK (l:List UInt8) (k:Nat) (ok:Int→Bool) (f:Int→List UInt8):List UInt8×Nat:=
 match w5 16 0 l with
 |some n=>if ok n=true then(f n,k) else([],0)
 |none=>([],0)
def CL (l:List UInt8):List UInt8×Nat:=
 match l with
 |_::c::t=>
  if c=110 then([10],2) else if c=114 then([13],2) else if c=116 then([9],2)
  else if I7.contains c=true then([c],2)
  else if c=120∧2≤t.length then CK (t.take 2) 4 (fun n=>decide (n≤127)) (fun n=>qY [n])
  else if c=117∧4≤t.length then CK (t.take 4) 6 uM Lib.encodeRune
  else([],0)
 |_=>([],0)
end Go.Proofs.YtbbpilohihldiaaGreatDoor
namespace Go.Proofs.YtbbpilohihldiaaGreatDoor
open Vc
set_option maxRecDepth 100000
def z8 (n:Int) (b:UInt8):Bool:=decide (b=10)||((decide (n=2)||decide (n=3))&&decide (b=34))
def sO (n:Int):List UInt8→List UInt8×Nat
 |[]=>([],0)
 |b::t=>if b=92 then CL (b::t) else if z8 n b=true then([b],0) else([b],1)
def vE (n:Int):Nat→List UInt8→List UInt8⊕Nat
 |0,_=> .inl []
 |_+1,[]=> .inl []
 |k+1,b::t=>if (sO n (b::t)).2=0 then .inr 0 else match vE n k ((b::t).drop (sO n (b::t)).2) with
  | .inl r=> .inl ((sO n (b::t)).1++r)
  | .inr e=> .inr ((sO n (b::t)).2+e)
def AG (n:Int) (s:List UInt8):List UInt8×Int×Int:=match vE n s.length s with
 | .inl r=>(r,0,0)
 | .inr e=>([],e,3)
theorem T4 (a b:List UInt8):rH (a++b)=rH a++rH b:=by simp [rH]
theorem OB (a:List UInt8):qY (rH a)=a:=by
 unfold qY rH
 rw[List.map_map]
 conv=>rhs;rw[←List.map_id a]
 congr 1
 funext b
 simp
end Go.Proofs.YtbbpilohihldiaaGreatDoor
namespace Go.Proofs.YtbbpilohihldiaaGreatDoor
open Vc
set_option maxRecDepth 100000
def zX (b:UInt8):Bool:=((decide (b=32)||decide (b=9))||decide (b=10))||decide (b=13)
def sH (x y:UInt8):List UInt8→Bool
 |b::c::_=>decide (b=x)&&decide (c=y)
 |_=>false
def tX (l:List UInt8):Nat:=(l.findIdx? fun b=>decide (b=10)).getD l.length
def vF:List UInt8→Option Nat
 |[]=>none
 |b::t=>if sH 42 47 (b::t)=true then some 0 else(vF t).map (· +1)
def BL (n:Nat) (g:Nat×Bool):Nat×Bool:=(n+g.1,g.2)
def w6:Nat→List UInt8→Nat×Bool
 |0,_=>(0,true)
 |_+1,[]=>(0,true)
 |k+1,b::t=>
  if zX b=true then BL 1 (w6 k t)
  else if sH 47 47 (b::t)=true then BL (tX (b::t)) (w6 k ((b::t).drop (tX (b::t))))
  else if sH 47 42 (b::t)=true then match vF ((b::t).drop 2) with
   |none=>(0,false)
   |some e=>BL (e+4) (w6 k ((b::t).drop (e+4)))
  else(0,true)
def G (l:List UInt8):Nat×Bool:=w6 l.length l
theorem OC {l:List UInt8}(h:sH 47 47 l=true):2≤tX l∧tX l≤l.length:=by
 unfold sH at h
 split at h
 ·rename_i b c t
  simp only[Bool.and_eq_true,decide_eq_true_eq] at h
  obtain⟨rfl,rfl⟩:=h
  unfold tX
  rw[List.findIdx?_cons,if_neg (by decide),List.findIdx?_cons,if_neg (by decide)]
  cases h:t.findIdx? fun b=>decide (b=10) with
  |none=>simp
  |some k=>
   have:=(List.findIdx?_eq_some_iff_getElem.1 h).1
   simp;omega
 ·cases h
theorem T6: ∀(n k k':Nat) (l:List UInt8),l.length≤n→l.length≤k→l.length≤k'→w6 k l=w6 k' l
 |n,k,k',[],_,_,_=>by cases k<;>cases k'<;>rfl
 |0,_,_,b::t,h,_,_=>by simp at h
 |n+1,0,_,b::t,_,h,_=>by simp at h
 |n+1,_,0,b::t,_,_,h=>by simp at h
 |n+1,k+1,k'+1,b::t,h,h1,h2=>by
  simp only[List.length_cons] at h h1 h2
  unfold w6
  split
  ·rw[T6 n k k' t (by omega) (by omega) (by omega)]
  ·split
   ·rename_i hb
    have:=OC hb
    rw[T6 n k k' _ (by rw[List.length_drop];simp only[List.length_cons];omega) (by rw[List.length_drop];simp only[List.length_cons];omega) (by rw[List.length_drop];simp only[List.length_cons];omega)]
   ·split
    ·cases hc:vF ((b::t).drop 2) with
     |none=>rfl
     |some e=>
      dsimp only
      rw[T6 n k k' _ (by rw[List.length_drop];simp only[List.length_cons];omega) (by rw[List.length_drop];simp only[List.length_cons];omega) (by rw[List.length_drop];simp only[List.length_cons];omega)]
    ·rfl
theorem aGn {k:Nat}{l:List UInt8}(h:l.length≤k):w6 k l=G l:=T6 l.length k l.length l (Nat.le_refl _) h (Nat.le_refl _)
theorem OD {b:UInt8}{t:List UInt8}(h:zX b=true):G (b::t)=BL 1 (G t):=by
 show w6 (t.length+1) (b::t)=_
 unfold w6
 rw[if_pos h];rfl
theorem T7 {b:UInt8}{t:List UInt8}(h: ¬zX b=true) (h1:sH 47 47 (b::t)=true):G (b::t)=BL (tX (b::t)) (G ((b::t).drop (tX (b::t)))):=by
 have:=OC h1
 show w6 (t.length+1) (b::t)=_
 unfold w6
 rw[if_neg h,if_pos h1,aGn (by rw[List.length_drop];simp only[List.length_cons];omega)]
theorem T8 {b:UInt8}{t:List UInt8}(h: ¬zX b=true) (h1: ¬sH 47 47 (b::t)=true) (h2:sH 47 42 (b::t)=true) (hc:vF ((b::t).drop 2)=none):G (b::t)=(0,false):=by
 show w6 (t.length+1) (b::t)=_
 unfold w6
 rw[if_neg h,if_neg h1,if_pos h2,hc]
theorem T9 {b:UInt8}{t:List UInt8}{e:Nat}(h: ¬zX b=true) (h1: ¬sH 47 47 (b::t)=true) (h2:sH 47 42 (b::t)=true) (hc:vF ((b::t).drop 2)=some e):G (b::t)=BL (e+4) (G ((b::t).drop (e+4))):=by
 show w6 (t.length+1) (b::t)=_
 unfold w6
 rw[if_neg h,if_neg h1,if_pos h2,hc]
 dsimp only
 rw[aGn (by rw[List.length_drop];simp only[List.length_cons];omega)]
theorem TA {b:UInt8}{t:List UInt8}(h: ¬zX b=true) (h1: ¬sH 47 47 (b::t)=true) (h2: ¬sH 47 42 (b::t)=true):G (b::t)=(0,true):=by
 show w6 (t.length+1) (b::t)=_
 unfold w6
 rw[if_neg h,if_neg h1,if_neg h2]
end Go.Proofs.YtbbpilohihldiaaGreatDoor
namespace Go.Proofs.YtbbpilohihldiaaGreatDoor
open Vc
set_option maxRecDepth 100000
end Go.Proofs.YtbbpilohihldiaaGreatDoor
namespace Go.Proofs.YtbbpilohihldiaaGreatDoor
open Vc
set_option maxRecDepth 100000
def AH (c:Int):Bool:=((decide ((97:Int)≤c))&&(decide (c≤(122:Int))))||((decide ((65:Int)≤c))&&(decide (c≤(90:Int))))
def a7b (c:Int):Bool:=((((AH c)||((decide ((48:Int)≤c))&&(decide (c≤(57:Int)))))||(decide (c=(45:Int))))||(decide (c=(95:Int))))||(decide (c=(46:Int)))
def zA (b:UInt8):Bool:=a7b b.toNat
def w7 (l:List UInt8):Nat:=(l.findIdx? fun b=> !zA b).getD l.length
def wP (t:List UInt8):Int×List UInt8×Nat:=
 match sS 34 t with
 |none=>(0,[],0)
 |some n=>if (AG 3 (t.take n)).2.2≠0∨uF (AG 3 (t.take n)).1=false then(0,[],0) else(1,(AG 3 (t.take n)).1,n+2)
def vN (r:List UInt8):Int×List UInt8×Nat:=
 match r with
 |[]=>(4,[],0)
 |b::t=>if b=123∨b=125 then(3,[b],1) else if b=34 then wP t else if AH b.toNat=true then(2,(b::t).take (w7 (b::t)),w7 (b::t)) else(0,[],0)
theorem TD {b:UInt8}{t:List UInt8}(h:b=123∨b=125):vN (b::t)=(3,[b],1):=if_pos h
theorem TE {b:UInt8}{t:List UInt8}(h: ¬(b=123∨b=125)) (h2:b=34):vN (b::t)=wP t:=(if_neg h).trans (if_pos h2)
theorem TF {b:UInt8}{t:List UInt8}(h: ¬(b=123∨b=125)) (h2: ¬b=34) (h3:AH b.toNat=true):vN (b::t)=(2,(b::t).take (w7 (b::t)),w7 (b::t)):=(if_neg h).trans ((if_neg h2).trans (if_pos h3))
theorem OF {b:UInt8}{t:List UInt8}(h: ¬(b=123∨b=125)) (h2: ¬b=34) (h3: ¬AH b.toNat=true):vN (b::t)=(0,[],0):=(if_neg h).trans ((if_neg h2).trans (if_neg h3))
def sP (l:List UInt8):Int×List UInt8×Nat×Nat:=
 if (G l).2=true then((vN (l.drop (G l).1)).1,(vN (l.drop (G l).1)).2.1,(G l).1,(G l).1+(vN (l.drop (G l).1)).2.2) else(0,[],(G l).1,(G l).1)
theorem OG: ∀(n:Nat) (l:List UInt8),l.length≤n→(G l).2=false→∃t,l.drop (G l).1=47::t
 |_,[],_,h=>by cases h
 |0,_::_,h,_=>by simp at h
 |n+1,b::t,hl,h=>by
  simp only[List.length_cons] at hl
  by_cases h0:zX b=true
  ·rw[OD h0] at h⊢
   obtain⟨u,hu⟩:=OG n t (by omega) h
   refine⟨u,?_⟩
   show (b::t).drop (1+(G t).1)=_
   rw[Nat.add_comm,List.drop_succ_cons];exact hu
  ·by_cases h1:sH 47 47 (b::t)=true
   ·rw[T7 h0 h1] at h⊢
    have hp:=OC h1
    obtain⟨u,hu⟩:=OG n ((b::t).drop (tX (b::t))) (by rw[List.length_drop];simp only[List.length_cons] at hp⊢;omega) h
    refine⟨u,?_⟩
    rw[List.drop_drop] at hu;exact hu
   ·by_cases h2:sH 47 42 (b::t)=true
    ·cases hc:vF ((b::t).drop 2) with
     |none=>
      rw[T8 h0 h1 h2 hc]
      unfold sH at h2
      split at h2
      ·rename_i b' c' t' he
       simp only[Bool.and_eq_true,decide_eq_true_eq] at h2
       exact⟨c'::t',by rw[he,h2.1];rfl⟩
      ·cases h2
     |some e=>
      rw[T9 h0 h1 h2 hc] at h⊢
      obtain⟨u,hu⟩:=OG n ((b::t).drop (e+4)) (by rw[List.length_drop];simp only[List.length_cons];omega) h
      refine⟨u,?_⟩
      rw[List.drop_drop] at hu;exact hu
    ·rw[TA h0 h1 h2] at h;cases h
end Go.Proofs.YtbbpilohihldiaaGreatDoor
namespace Go.Proofs.YtbbpilohihldiaaGreatDoor
open Vc
set_option maxRecDepth 100000
end Go.Proofs.YtbbpilohihldiaaGreatDoor
namespace Go.Proofs.YtbbpilohihldiaaGreatDoor
open Vc
set_option maxRecDepth 100000
def kS (s:List UInt8) (P:Nat):Int:=(sP (s.drop P)).1
theorem I8 {p:Prop}{α:Type}{v:α}:p→(some v).isSome=true:=fun _=>rfl
abbrev C4:=List UInt8×(List (List UInt8)×(List qS×(List qR×Unit)))
end Go.Proofs.YtbbpilohihldiaaGreatDoor
namespace Go.Proofs.YtbbpilohihldiaaGreatDoor
open Vc
set_option maxRecDepth 100000
end Go.Proofs.YtbbpilohihldiaaGreatDoor
namespace Go.Proofs.YtbbpilohihldiaaGreatDoor
open Vc
set_option maxRecDepth 100000
end Go.Proofs.YtbbpilohihldiaaGreatDoor
namespace Go.Proofs.YtbbpilohihldiaaGreatDoor
open Vc
set_option maxRecDepth 100000
end Go.Proofs.YtbbpilohihldiaaGreatDoor
namespace Go.Proofs.YtbbpilohihldiaaGreatDoor
open Vc
set_option maxRecDepth 100000
end Go.Proofs.YtbbpilohihldiaaGreatDoor
namespace Go.Proofs.YtbbpilohihldiaaGreatDoor
open Vc
set_option maxRecDepth 100000
end Go.Proofs.YtbbpilohihldiaaGreatDoor
namespace Go.Proofs.YtbbpilohihldiaaGreatDoor
open Vc
set_option maxRecDepth 100000
theorem BN {v:Ty}(a b:List UInt8) (y:v.den): ∀l:List (List UInt8×v.den),qP .str v (rR .str v a y l) b=if b=a then y else qP .str v l b
 |[]=>by
  show (if decide (b=a)=true then y else v.zero)=if b=a then y else v.zero
  by_cases h:b=a<;>simp [h]
 |(x,z)::r=>by
  have ih:=BN a b y r
  show qP .str v (if decide (a=x)=true then(a,y)::r else(x,z)::rR .str v a y r) b=if b=a then y else(if decide (b=x)=true then z else qP .str v r b)
  by_cases h:a=x
  ·rw[if_pos (decide_eq_true h)]
   show (if decide (b=a)=true then y else qP .str v r b)=_
   by_cases hb:b=a
   ·rw[if_pos (decide_eq_true hb),if_pos hb]
   ·rw[if_neg (by simpa using hb),if_neg hb,if_neg (by rw[←h];simpa using hb)]
  ·rw[if_neg (by simpa using h)]
   show (if decide (b=x)=true then z else qP .str v (rR .str v a y r) b)=_
   rw[ih]
   by_cases hb:b=a
   ·rw[if_pos hb,if_pos hb,if_neg (by rw[hb];simpa using h)]
   ·rw[if_neg hb,if_neg hb]
end Go.Proofs.YtbbpilohihldiaaGreatDoor
namespace Go.Proofs.YtbbpilohihldiaaGreatDoor
open Vc
set_option maxRecDepth 100000
end Go.Proofs.YtbbpilohihldiaaGreatDoor
namespace Go.Proofs.YtbbpilohihldiaaGreatDoor
open Vc
set_option maxRecDepth 100000
end Go.Proofs.YtbbpilohihldiaaGreatDoor
namespace Go.Proofs.YtbbpilohihldiaaGreatDoor
open Vc
set_option maxRecDepth 100000
end Go.Proofs.YtbbpilohihldiaaGreatDoor
namespace Go.Proofs.YtbbpilohihldiaaGreatDoor
open Vc
set_option maxRecDepth 100000
theorem TQ {σ ρ:Type}{f:σ→Option (σ⊕ρ)}{x y:σ}(h:f x=some (.inl y)):pQ f x=pQ f y:=by
 rw[vJ,h];rfl
theorem CR {σ ρ:Type}{f:σ→Option (σ⊕ρ)}{x:σ}{r:ρ}(h:f x=some (.inr r)):pQ f x=some r:=by
 rw[vJ,h];rfl
end Go.Proofs.YtbbpilohihldiaaGreatDoor
namespace Go.Proofs.YtbbpilohihldiaaGreatDoor
open Vc
set_option maxRecDepth 100000
end Go.Proofs.YtbbpilohihldiaaGreatDoor
namespace Go.Proofs.YtbbpilohihldiaaGreatDoor
open Vc
set_option maxRecDepth 100000
def ON (es:List qR) (x:List UInt8):Int×Bool:=sL (fun k=>((k:Int),true)) ((0:Int),false) (es.findIdx? fun y=>decide (y.1=x))
theorem aGL (c:C4) (x:List UInt8) (hl:c.2.2.2.1.length≤5000):DF c x=some (ON c.2.2.2.1 x):=by
 have h:=zQ (f:=MN c x) (l:=c.2.2.2.1) (fun y=>decide (y.1=x)) (fun k=>((k:Int),true)) (fun i h=>by
  unfold MN
  rw[if_pos (rO h),if_pos (qJ h),vS (t:=qQ) h,if_pos (r5 (by omega))]) (by
  unfold MN
  rw[if_neg (sG _)])
 unfold DF
 rw[h,CH]
 rfl
def OO (ids:List (List UInt8×Bool)) (es:List qR):Prop:= ∀x,qP .str .bool ids x=es.any fun y=>decide (y.1=x)
theorem aGM {ids:List (List UInt8×Bool)}{es:List qR}(h:OO ids es) (e:qR) (x:List UInt8) (he:e.1=x):OO (rR .str .bool x true ids) (es++[e]):=by
 intro y
 rw[BN,List.any_append,←h y]
 by_cases hy:y=x
 ·rw[if_pos hy];simp [he,hy]
 ·rw[if_neg hy]
  have:decide (e.1=y)=false:=by rw[he];simpa using fun hh=>hy hh.symm
  simp [this]
end Go.Proofs.YtbbpilohihldiaaGreatDoor
namespace Go.Proofs.YtbbpilohihldiaaGreatDoor
open Vc
set_option maxRecDepth 100000
abbrev eD:Ent:=([],([],([],([],([],(0,([],())))))))
def GA (es:List Ent) (i:Nat):Bool:=((es.take i).any fun y=>decide (y.1=(es.getD i eD).1))|| !G4 (es.getD i eD)
def wT (c:C4):Bool:=((EB c.1&&AF c.2.1)&&BJ c.2.2.1)&&(decide ((c.2.2.2.1.length:Int)≤1000)&& !((List.range c.2.2.2.1.length).any (GA c.2.2.2.1)))
theorem TR {l:List Ent}{i:Nat}:pI qQ l (i:Int)=l.getD i eD:=by unfold pI;rw[Int.toNat_natCast];rfl
structure CatFitP (c:C4):Prop where
 tag:fit c.1
 com:fit c.2.1∧∀y∈c.2.1,fit y
 fld:fit c.2.2.1∧∀y∈c.2.2.1,FldFit y
 len:c.2.2.2.1.length≤5000
 ent: ∀x∈c.2.2.2.1,EntFitP x
theorem aOh {α:Type}{l:List α}{i:Nat}{d:α}(h:i<l.length):l.take (i+1)=l.take i++[l.getD i d]:=by
 rw[List.take_add_one,List.getElem?_eq_getElem h,List.getD_eq_getElem?_getD,List.getElem?_eq_getElem h];rfl
theorem aGO {c:C4}(hc:CatFitP c): ∀(n i:Nat) (m:List (List UInt8×Bool)),i+n=c.2.2.2.1.length→OO m (c.2.2.2.1.take i)→
  pQ (I0 c) ((i:Int),m)=some (if (List.range' i n).any (GA c.2.2.2.1)=true then .inr false else .inl ())
 |0,i,m,hi,_=>by
  have:i=c.2.2.2.1.length:=by omega
  subst this
  refine tP ?_
  unfold I0
  dsimp only
  rw[if_neg (sG _)];rfl
 |n+1,i,m,hi,hm=>by
  have h:i<c.2.2.2.1.length:=by omega
  have he:=hc.ent _ (CJ (d:=eD) h)
  have hl:=hc.len
  have hst:I0 c ((i:Int),m)=if GA c.2.2.2.1 i=true then some (.inr (.inr false)) else some (.inl (((i+1:Nat):Int),rR .str .bool (c.2.2.2.1.getD i eD).1 true m)):=by
   unfold I0
   dsimp only
   rw[if_pos (rO h),if_pos (qJ h),TR,hm,aME _ he,if_pos uG,if_pos (r5 (by omega))]
   rfl
  rw[List.range'_succ,List.any_cons]
  by_cases hb:GA c.2.2.2.1 i=true
  ·rw[if_pos hb] at hst
   rw[hb,Bool.true_or,if_pos rfl]
   exact tP hst
  ·rw[if_neg hb] at hst
   rw[DC hst,aGO hc n (i+1) _ (by omega) (by rw[aOh (d:=eD) h];exact aGM hm _ _ rfl)]
   simp only[Bool.not_eq_true] at hb
   rw[hb,Bool.false_or]
theorem aOi {c:C4}(hc:CatFitP c):I1 c=some (wT c):=by
 obtain⟨t1,t2⟩:=aF1 _ hc.com.1 hc.com.2
 have e2:=aF4 _ hc.fld.1 hc.fld.2
 have hlp:=aGO hc c.2.2.2.1.length 0 [] (by omega) (fun x=>by rfl)
 rw[←List.range_eq_range'] at hlp
 have hlp':pQ (I0 c) ((0:Int),[])=_:=hlp
 have a1:decide ((1000:Int)<(c.2.2.2.1.length:Int))= !decide ((c.2.2.2.1.length:Int)≤1000):=by rw[←decide_not];exact decide_eq_decide.2 (by omega)
 unfold I1
 rw[aMf,Option.bind_some,t1,t2,e2,if_pos uG,if_pos uG,hlp',a1]
 unfold wT
 show (if (((!EB c.1)||(!AF c.2.1))||(!BJ c.2.2.1)||_)=true then some false else _)=_
 generalize EB c.1=b1
 generalize AF c.2.1=b2
 generalize BJ c.2.2.1=b3
 generalize decide ((c.2.2.2.1.length:Int)≤1000)=b4
 generalize (List.range c.2.2.2.1.length).any (GA c.2.2.2.1)=b5
 cases b1<;>cases b2<;>cases b3<;>cases b4<;>cases b5<;>rfl
theorem aOj {es:List Ent}{i:Nat}(h:i<es.length):decide ((ON es (es.getD i eD).1).1=(i:Int))= !((es.take i).any fun y=>decide (y.1=(es.getD i eD).1)):=by
 have hx:es.getD i eD=es[i]:=by rw[List.getD_eq_getElem?_getD,List.getElem?_eq_getElem h];rfl
 unfold ON
 cases hf:es.findIdx? fun y=>decide (y.1=(es.getD i eD).1) with
 |none=>
  have:=List.findIdx?_eq_none_iff.1 hf es[i] (List.getElem_mem h)
  rw[hx] at this
  simp at this
 |some k=>
  obtain⟨hk,h1,h2⟩:=List.findIdx?_eq_some_iff_getElem.1 hf
  simp only[decide_eq_true_eq,decide_eq_false_iff_not] at h1 h2
  show decide ((k:Int)=(i:Int))=_
  rw[Bool.eq_iff_iff,decide_eq_true_eq,Bool.not_eq_true',List.any_eq_false]
  have hki:k≤i:=by
   rcases Nat.lt_or_ge i k with hlt|hge
   ·exact absurd (congrArg Prod.fst hx.symm) (h2 i hlt)
   ·exact hge
  constructor
  ·intro he x hxm
   obtain⟨j,hj,rfl⟩:=List.getElem_of_mem hxm
   rw[List.length_take] at hj
   rw[List.getElem_take]
   have:=h2 j (by omega)
   simpa using this
  ·intro hall
   rcases Nat.lt_or_ge k i with hlt|hge
   ·have:=hall es[k] (by rw[List.mem_take_iff_getElem];exact⟨k,by omega,rfl⟩)
    simp [h1] at this
   ·omega
theorem aOk (c:C4) (hc:CatFitP c):HZ c=some ((EB c.1&&AF c.2.1)&&BJ c.2.2.1):=by
 unfold HZ
 rw[aMd _ hc.tag,Option.bind_some,aF0 _ hc.com.1 hc.com.2,aF5 _ hc.fld.1 hc.fld.2,if_pos uG,if_pos uG]
 rfl
theorem aOl {c:C4}(hc:CatFitP c):I2 c=some (wT c):=by
 have hl:=hc.len
 have h:=O6 (f:=NY c) (n:=c.2.2.2.1.length) (GA c.2.2.2.1) (fun _=>false) (fun i h=>by
  have he:=hc.ent _ (CJ (d:=eD) h)
  obtain⟨u,v⟩:=aMF _ he
  unfold NY
  rw[if_pos (rO h),if_pos (qJ h),TR,aGL c _ hl,Option.bind_some,if_pos (fun _=>qJ h),u,if_pos uG,v,aOj h,if_pos (r5 (by omega)),Bool.not_not]
  rfl) (by
  unfold NY
  rw[if_neg (sG _)])
 have a1:decide ((1000:Int)<(c.2.2.2.1.length:Int))= !decide ((c.2.2.2.1.length:Int)≤1000):=by rw[←decide_not];exact decide_eq_decide.2 (by omega)
 unfold I2
 rw[aOk c hc,Option.bind_some,h,O7,a1]
 unfold wT
 generalize ((EB c.1&&AF c.2.1)&&BJ c.2.2.1)=b1
 generalize decide ((c.2.2.2.1.length:Int)≤1000)=b2
 generalize (List.range c.2.2.2.1.length).any (GA c.2.2.2.1)=b3
 cases b1<;>cases b2<;>cases b3<;>rfl
def far:Nat:=140737488351232
theorem aGP {l:List (List UInt8)}(hl:l.length≤far) (hx: ∀x∈l,x.length≤far): ∀(m i:Nat) (n:Int),i+m=l.length→0≤n→n≤1125899906842624→
  ∃r,pQ (F6 l) (n,(i:Int))=some r∧n≤r∧r≤1125899906842624∧(r<1099511627776→∀x∈l.drop i,n+(x.length:Int)≤r)
 |0,i,n,hi,h0,h1=>by
  have:i=l.length:=by omega
  subst this
  refine⟨n,tP ?_,Int.le_refl _,h1,fun _ x hx=>by rw[List.drop_length] at hx;cases hx⟩
  unfold F6
  dsimp only
  rw[if_neg (by simp)]
 |m+1,i,n,hi,h0,h1=>by
  have h:i<l.length:=by omega
  by_cases hn:n<1099511627776
  ·have hxi:=hx _ (List.getElem_mem h)
   unfold far at hxi hl
   have hst:F6 l (n,(i:Int))=some (.inl (n+(l[i].length:Int),((i+1:Nat):Int))):=by
    unfold F6
    dsimp only
    rw[if_pos (by simp [h,hn]),if_pos (qJ h),vS (t:= .str) h,if_pos (by unfold p5;omega),if_pos (by unfold p5;omega)]
    rfl
   obtain⟨r,e,e1,e2,e3⟩:=aGP (by unfold far;exact hl) hx m (i+1) (n+(l[i].length:Int)) (by omega) (by omega) (by omega)
   refine⟨r,by rw[DC hst,e],by omega,e2,fun hr x hxm=> ?_⟩
   rw[List.drop_eq_getElem_cons h] at hxm
   rcases List.mem_cons.1 hxm with rfl|hxm
   ·omega
   ·have:=e3 hr x hxm
    omega
  ·refine⟨n,tP ?_,Int.le_refl _,h1,fun hr=>by omega⟩
   unfold F6
   dsimp only
   rw[if_neg (by simp [hn])]
theorem aGQ {l:List qS}(hl:l.length≤far) (hx: ∀x∈l,x.1.length≤far∧x.2.1.length≤far): ∀(m i:Nat) (n:Int),i+m=l.length→0≤n→n≤1125899906842624→
  ∃r,pQ (F7 l) (n,(i:Int))=some r∧n≤r∧r≤1125899906842624∧(r<1099511627776→∀x∈l.drop i,n+(x.1.length:Int)+(x.2.1.length:Int)≤r)
 |0,i,n,hi,h0,h1=>by
  have:i=l.length:=by omega
  subst this
  refine⟨n,tP ?_,Int.le_refl _,h1,fun _ x hx=>by rw[List.drop_length] at hx;cases hx⟩
  unfold F7
  dsimp only
  rw[if_neg (by simp)]
 |m+1,i,n,hi,h0,h1=>by
  have h:i<l.length:=by omega
  by_cases hn:n<1099511627776
  ·have hxi:=hx _ (List.getElem_mem h)
   unfold far at hxi hl
   have hst:F7 l (n,(i:Int))=some (.inl (n+(l[i].1.length:Int)+(l[i].2.1.length:Int),((i+1:Nat):Int))):=by
    unfold F7
    dsimp only
    rw[if_pos (by simp [h,hn]),if_pos (qJ h),vS (t:= .pair .str (.pair .str .unit)) h,if_pos (by unfold p5;omega),if_pos (qJ h),if_pos (by unfold p5;omega),if_pos (by unfold p5;omega)]
    rfl
   obtain⟨r,e,e1,e2,e3⟩:=aGQ (by unfold far;exact hl) hx m (i+1) (n+(l[i].1.length:Int)+(l[i].2.1.length:Int)) (by omega) (by omega) (by omega)
   refine⟨r,by rw[DC hst,e],by omega,e2,fun hr x hxm=> ?_⟩
   rw[List.drop_eq_getElem_cons h] at hxm
   rcases List.mem_cons.1 hxm with rfl|hxm
   ·omega
   ·have:=e3 hr x hxm
    omega
  ·refine⟨n,tP ?_,Int.le_refl _,h1,fun hr=>by omega⟩
   unfold F7
   dsimp only
   rw[if_neg (by simp [hn])]
def sml (l:List (List UInt8)):Prop:=l.length≤6000∧∀x∈l,x.length≤6000
def smlF (l:List qS):Prop:=l.length≤6000∧∀x∈l,x.1.length≤6000∧x.2.1.length≤6000
theorem a7l {l:List (List UInt8)}{f:List qS}(hl:l.length≤far) (hx: ∀x∈l,x.length≤far) (hf:f.length≤far) (hy: ∀x∈f,x.1.length≤far∧x.2.1.length≤far):
  ∃r,vU l f=some r∧0≤r∧r≤1125899906842624∧(r≤6000→sml l∧smlF f):=by
 have hl':=hl
 have hf':=hf
 unfold far at hl' hf'
 obtain⟨r,e,e1,e2,e3⟩:=aGP hl hx l.length 0 ((l.length:Int)+(f.length:Int)) (by omega) (by omega) (by omega)
 obtain⟨r',k,k1,k2,k3⟩:=aGQ hf hy f.length 0 r (by omega) (by omega) e2
 have e':pQ (F6 l) ((l.length:Int)+(f.length:Int),(0:Int))=some r:=e
 have k':pQ (F7 f) (r,(0:Int))=some r':=k
 refine⟨r',?_,by omega,k2,fun hr=>⟨⟨by omega,fun x hxm=> ?_⟩,⟨by omega,fun x hxm=> ?_⟩⟩⟩
 ·unfold vU
  rw[if_pos (by unfold p5;omega),e']
  unfold qD
  rw[Option.bind_some,k',Option.bind_some]
 ·have:=e3 (by omega) x (by rw[List.drop_zero];exact hxm)
  omega
 ·have:=k3 (by omega) x (by rw[List.drop_zero];exact hxm)
  omega
structure EntFar (x:Ent):Prop where
 id:x.1.length≤far
 src:x.2.1.length≤far
 tgt:x.2.2.1.length≤far
 com:x.2.2.2.1.length≤far∧∀y∈x.2.2.2.1,y.length≤far
 flg:x.2.2.2.2.1.length≤far∧∀y∈x.2.2.2.2.1,y.length≤far
 fld:x.2.2.2.2.2.2.1.length≤far∧∀y∈x.2.2.2.2.2.2.1,y.1.length≤far∧y.2.1.length≤far
structure EntFew (x:Ent):Prop where
 id:x.1.length≤6000
 src:x.2.1.length≤6000
 tgt:x.2.2.1.length≤6000
 com:sml x.2.2.2.1
 flg:sml x.2.2.2.2.1
 fld:smlF x.2.2.2.2.2.2.1
theorem aOm (x:Ent) (h:EntFar x): ∃b:Bool,K2 x=some ()∧
  ((decide ((((List.length x.1:Int)+(List.length x.2.1:Int))+(List.length x.2.2.1:Int))≤(6000:Int)))&&(decide (((val (vU x.2.2.2.1 x.2.2.2.2.2.2.1))+(val (vU x.2.2.2.2.1 ([]:List pO))))≤(6000:Int))))=b∧(b=true→EntFew x):=by
 obtain⟨r,e,e1,e2,e3⟩:=a7l h.com.1 h.com.2 h.fld.1 h.fld.2
 obtain⟨r',k,k1,k2,k3⟩:=a7l (f:=[]) h.flg.1 h.flg.2 (by unfold far;simp) (fun x hx=>by cases hx)
 have a1:=h.id
 have a2:=h.src
 have a3:=h.tgt
 unfold far at a1 a2 a3
 refine⟨_,?_,rfl,fun hb=> ?_⟩
 ·unfold K2
  rw[e,k,if_pos (by unfold p5;omega),if_pos (by unfold p5;omega),if_pos uG,if_pos uG,if_pos (fun _=>by show p5 (r+r');unfold p5;omega)]
 ·rw[e,k] at hb
  simp only[Bool.and_eq_true,decide_eq_true_eq] at hb
  obtain⟨h1,h2⟩:=hb
  have h2:r+r'≤6000:=h2
  obtain⟨p,q⟩:=e3 (by omega)
  obtain⟨p',_⟩:=k3 (by omega)
  exact⟨by omega,by omega,by omega,p,p',q⟩
structure CatFar (c:C4):Prop where
 tag:c.1.length≤far
 com:c.2.1.length≤far∧∀y∈c.2.1,y.length≤far
 fld:c.2.2.1.length≤far∧∀y∈c.2.2.1,y.1.length≤far∧y.2.1.length≤far
 ent: ∀x∈c.2.2.2.1,EntFar x
structure CatFew (c:C4):Prop where
 tag:c.1.length≤100
 com:sml c.2.1
 fld:smlF c.2.2.1
 len:c.2.2.2.1.length≤12
 ent: ∀x∈c.2.2.2.1,EntFew x
theorem aGR {c:C4}(hc:CatFar c) (hl:c.2.2.2.1.length≤12): ∀(n i:Nat),i+n=c.2.2.2.1.length→
  ∃r,pQ (HU c) (i:Int)=some r∧(r= .inr false∨(r= .inl ()∧∀x∈c.2.2.2.1.drop i,EntFew x))
 |0,i,hi=>by
  have:i=c.2.2.2.1.length:=by omega
  subst this
  refine⟨.inl (),tP ?_,.inr ⟨rfl,fun x hx=>by rw[List.drop_length] at hx;cases hx⟩⟩
  unfold HU
  rw[if_neg (sG _)]
 |n+1,i,hi=>by
  have h:i<c.2.2.2.1.length:=by omega
  obtain⟨b,e1,e2,e3⟩:=aOm _ (hc.ent _ (List.getElem_mem h))
  have hst:HU c (i:Int)=if (!b)=true then some (.inr (.inr false)) else some (.inl ((i+1:Nat):Int)):=by
   unfold HU
   rw[if_pos (rO h),if_pos (qJ h),vS (t:=qQ) h,e1,Option.bind_some,e2,if_pos (r5 (by omega))]
   rfl
  cases b with
  |false=>exact⟨_,tP hst,.inl rfl⟩
  |true=>
   obtain⟨r,k,k2⟩:=aGR hc hl n (i+1) (by omega)
   refine⟨r,by rw[DC hst,k],k2.imp id fun⟨a,b⟩=>⟨a,fun x hx=> ?_⟩⟩
   rw[List.drop_eq_getElem_cons h] at hx
   rcases List.mem_cons.1 hx with rfl|hx
   ·exact e3 rfl
   ·exact b x hx
theorem aOn {c:C4}(hc:CatFar c): ∃b,HV c=some b∧(b=true→CatFew c):=by
 obtain⟨r,e,e1,e2,e3⟩:=a7l hc.com.1 hc.com.2 hc.fld.1 hc.fld.2
 unfold HV
 rw[e,if_pos uG]
 by_cases hb:(((decide ((100:Int)<(List.length c.1:Int)))||(decide ((6000:Int)<(val (some r)))))||(decide ((12:Int)<(List.length c.2.2.2.1:Int))))=true
 ·rw[if_pos hb]
  exact⟨false,rfl,fun h=>by cases h⟩
 ·rw[if_neg hb]
  simp only[Bool.or_eq_true,decide_eq_true_eq] at hb
  have hr: ¬(6000:Int)<r:=fun h=>hb (.inl (.inr h))
  obtain⟨p,q⟩:=e3 (by omega)
  obtain⟨r',k,k2⟩:=aGR hc (by omega) c.2.2.2.1.length 0 (by omega)
  have k':pQ (HU c) (0:Int)=some r':=k
  rw[k']
  rcases k2 with rfl|⟨rfl,k3⟩
  ·exact⟨false,rfl,fun h=>by cases h⟩
  ·exact⟨true,rfl,fun _=>⟨by omega,p,q,by omega,by rw[List.drop_zero] at k3;exact k3⟩⟩
theorem EF {l:List UInt8}(h:l.length≤6000):fit l:=by unfold fit;omega
theorem a7m {l:List (List UInt8)}(h:sml l):fit l∧∀y∈l,fit y:=⟨by have:=h.1;unfold fit;omega,fun y hy=>EF (h.2 y hy)⟩
theorem aGS {l:List qS}(h:smlF l):fit l∧∀y∈l,FldFit y:=⟨by have:=h.1;unfold fit;omega,fun y hy=>⟨EF (h.2 y hy).1,EF (h.2 y hy).2⟩⟩
theorem EntFew.fitP {x:Ent}(h:EntFew x):EntFitP x:=⟨EF h.id,EF h.src,EF h.tgt,a7m h.com,a7m h.flg,aGS h.fld⟩
theorem CatFew.fitP {c:C4}(h:CatFew c):CatFitP c:=⟨EF (by have:=h.tag;omega),a7m h.com,aGS h.fld,by have:=h.len;omega,fun x hx=>(h.ent x hx).fitP⟩
end Go.Proofs.YtbbpilohihldiaaGreatDoor
namespace Go.Proofs.YtbbpilohihldiaaGreatDoor
open Vc
set_option maxRecDepth 100000
theorem aGT {σ ρ α:Type}{f:σ→Option (σ⊕ρ)}(st:Int→List α→σ) (out:List α→ρ) {n M B:Nat}(g:Nat→List α) (hg: ∀i,i<n→(g i).length≤B)
  (hf: ∀(i:Nat) s,i<n→s.length+B≤M→f (st i s)=some (.inl (st ((i:Int)+1) (s++g i)))) (he: ∀s,f (st n s)=some (.inr (out s))):
  ∀(k i:Nat) (s:List α),i+k=n→s.length+k*B≤M→pQ f (st i s)=some (out (s++(List.range' i k).flatMap g))
 |0,i,s,hi,_=>by
  have:i=n:=by omega
  subst this
  rw[tP (he s)]
  simp
 |k+1,i,s,hi,hM=>by
  rw[Nat.succ_mul] at hM
  have hgi:=hg i (by omega)
  rw[DC (hf i s (by omega) (by omega)),show ((i:Int)+1)=((i+1:Nat):Int) by omega,aGT st out g hg hf he k (i+1) (s++g i) (by omega) (by rw[List.length_append];omega),List.range'_succ,List.flatMap_cons,List.append_assoc]
theorem aGU {α:Type}{g:Nat→List α}{B:Nat}: ∀(k i:Nat),(∀j,i≤j→j<i+k→(g j).length≤B)→((List.range' i k).flatMap g).length≤k*B
 |0,i,_=>by simp
 |k+1,i,h=>by
  rw[List.range'_succ,List.flatMap_cons,List.length_append,Nat.succ_mul]
  have h1:=aGU k (i+1) fun j h1 h2=>h j (by omega) (by omega)
  have h2:=h i (by omega) (by omega)
  omega
theorem BO {σ ρ α:Type}{f:σ→Option (σ⊕ρ)}(st:Int→List α→σ) (out:List α→ρ) {n M B:Nat}(g:Nat→List α) (hg: ∀i,i<n→(g i).length≤B) (s:List α) (hM:s.length+n*B≤M)
  (hf: ∀(i:Nat) s,i<n→s.length+B≤M→f (st i s)=some (.inl (st ((i:Int)+1) (s++g i)))) (he: ∀s,f (st n s)=some (.inr (out s))):
  pQ f (st 0 s)=some (out (s++(List.range' 0 n).flatMap g)):=aGT st out g hg hf he n 0 s (by omega) hM
theorem EG {α β:Type}{l:List α}{d:α}(h:α→List β):(List.range' 0 l.length).flatMap (fun i=>h (l.getD i d))=l.flatMap h:=by
 have e:(List.range' 0 l.length).map (fun i=>l.getD i d)=l:=by
  apply List.ext_getElem
  ·simp
  ·intro i h1 h2
   simp [List.getD_eq_getElem?_getD,h2]
 conv=>rhs;rw[←e]
 rw[List.flatMap_map]
theorem TS {α β:Type}{l:List α}{h:α→List β}{B:Nat}(hb: ∀x∈l,(h x).length≤B):(l.flatMap h).length≤l.length*B:=by
 induction l with
 |nil=>simp
 |cons x l ih=>
  rw[List.flatMap_cons,List.length_append,List.length_cons,Nat.succ_mul]
  have h1:=hb x List.mem_cons_self
  have h2:=ih fun y hy=>hb y (List.mem_cons_of_mem _ hy)
  omega
def CS (n b:Nat) (first:Bool):List UInt8:=(DT (n:Int) (b:Int) first).getD []
theorem aOo:((List.range 256).all fun b=>[true,false].all fun f=>decide (DT 3 (b:Int) f=some (CS 3 b f))&&(decide (FD 3 (b:Int) f=some (CS 3 b f))&&decide ((CS 3 b f).length≤6)))=true:=by kernel_rfl
theorem aOp:((List.range 256).all fun b=>[true,false].all fun f=>decide (DT 1 (b:Int) f=some (CS 1 b f))&&(decide (FD 1 (b:Int) f=some (CS 1 b f))&&decide ((CS 1 b f).length≤6)))=true:=by kernel_rfl
theorem a7n {n b:Nat}(hn:n=1∨n=3) (hb:b<256) (f:Bool):DT (n:Int) (b:Int) f=some (CS n b f)∧FD (n:Int) (b:Int) f=some (CS n b f)∧(CS n b f).length≤6:=by
 have hf:f∈[true,false]:=by cases f<;>simp
 rcases hn with rfl|rfl
 ·have h:=List.all_eq_true.1 (List.all_eq_true.1 aOp b (by simpa using hb)) f hf
  simpa using h
 ·have h:=List.all_eq_true.1 (List.all_eq_true.1 aOo b (by simpa using hb)) f hf
  simpa using h
def OP (n:Nat) (s:List UInt8) (i:Nat):List UInt8:=CS n (s.getD i 0).toNat (decide (i=0))
def ID (n:Nat) (s:List UInt8):List UInt8:=(List.range' 0 s.length).flatMap (OP n s)
theorem a7o {n:Nat}(hn:n=1∨n=3) (s:List UInt8) (i:Nat):(OP n s i).length≤6:=(a7n hn (UInt8.toNat_lt _) _).2.2
theorem aOq {n:Nat}(hn:n=1∨n=3) (s:List UInt8):(ID n s).length≤6*s.length:=by
 have:=aGU (g:=OP n s) (B:=6) s.length 0 fun j _ _=>a7o hn s j
 unfold ID
 omega
theorem aGV {s:List UInt8}{i:Nat}:pF s (i:Int)=((s.getD i 0).toNat:Int):=by unfold pF;rw[Int.toNat_natCast]
theorem aGW {i:Nat}:decide ((i:Int)=0)=decide (i=0):=decide_eq_decide.2 (by omega)
theorem aGX {l:List Nat}{g:Nat→List UInt8}:l.flatMap (fun i=>rH (g i))=rH (l.flatMap g):=by
 induction l with
 |nil=>rfl
 |cons x l ih=>rw[List.flatMap_cons,List.flatMap_cons,T4,ih]
theorem a7p (l:List UInt8):(rH l).length=l.length:=by simp [rH]
theorem aOr {n:Nat}(hn:n=1∨n=3) {s:List UInt8}(hs:fit s):FM (n:Int) s=some (ID n s):=by
 unfold fit at hs
 have hn4: ¬decide ((n:Int)=4)=true:=by simp;omega
 have h:=BO (f:=NE (n:Int) s) (fun i b=>(i,b)) (fun b=>b) (n:=s.length) (M:=100000000) (B:=6) (fun i=>rH (OP n s i)) (fun i _=>by rw[a7p];exact a7o hn s i) [] (by simp;omega) (fun i b hi hM=>by
  obtain⟨e1,_,e3⟩:=a7n hn (UInt8.toNat_lt (s.getD i 0)) (decide (i=0))
  unfold NE
  dsimp only
  rw[if_pos (rO hi),if_neg hn4,if_pos (qJ hi),aGV,aGW,e1,Option.bind_some]
  unfold A8
  rw[if_pos (by dsimp only;omega),Option.bind_some,if_pos (r5 (by omega))]
  rfl) (fun b=>by
  unfold NE
  dsimp only
  rw[if_neg (sG _)])
 unfold FM
 rw[if_neg (by simp;omega),h,aGX]
 unfold qD
 rw[Option.bind_some,List.nil_append,OB];rfl
theorem aOs {n:Nat}(hn:n=1∨n=3) {s:List UInt8}(hs:fit s):FN (n:Int) s=some (ID n s):=by
 unfold fit at hs
 have h:=BO (f:=NF (n:Int) s) (fun i b=>(b,i)) (fun b=>b) (n:=s.length) (M:=100000000) (B:=6) (fun i=>rH (OP n s i)) (fun i _=>by rw[a7p];exact a7o hn s i) [] (by simp;omega) (fun i b hi hM=>by
  obtain⟨_,e2,e3⟩:=a7n hn (UInt8.toNat_lt (s.getD i 0)) (decide (i=0))
  unfold NF
  dsimp only
  rw[if_pos (rO hi),if_pos (qJ hi),aGV,aGW,e2,Option.bind_some,if_pos (by omega),if_pos (r5 (by omega))]
  rfl) (fun b=>by
  unfold NF
  dsimp only
  rw[if_neg (sG _)])
 unfold FN
 rw[if_neg (by simp;omega),h,aGX]
 unfold qD
 rw[Option.bind_some,List.nil_append,OB];rfl
def EH (h:List UInt8) (l:List (List UInt8)) (t:List UInt8):List UInt8:=h++(l.flatten++t)
theorem aGY {f:(Int×List UInt8)→List Int→Option (List Int⊕List UInt8)}(hf: ∀it b,b.length+it.2.length≤140737488355328→f it b=some (.inl (b++rH it.2))): ∀(l:List (Int×List UInt8)) (b:List Int),
  b.length+((l.map (·.2)).flatten).length≤140737488355328→AY f l b=some (.inl (b++rH (l.map (·.2)).flatten))
 |[],b,_=>by simp [AY,rH]
 |it::l,b,h=>by
  simp only[List.map_cons,List.flatten_cons,List.length_append] at h
  unfold AY
  rw[hf it b (by omega),Option.bind_some]
  show AY f l _=_
  rw[aGY hf l _ (by rw[List.length_append,a7p];omega)]
  simp only[List.map_cons,List.flatten_cons,T4,List.append_assoc]
theorem aGZ (d:s9):((zM d).map (·.2)).flatten=EH d.1 d.2.1 d.2.2.1:=by
 unfold zM EH
 have e:(List.range d.2.1.length).map (fun j=>d.2.1.getD j [])=d.2.1:=by
  apply List.ext_getElem
  ·simp
  ·intro i h1 h2
   simp [List.getD_eq_getElem?_getD,h2]
 have e2:(((List.range d.2.1.length).map fun j:Nat=>((j:Int)+1,d.2.1.getD j [])).map (·.2))=d.2.1:=by
  rw[List.map_map]
  exact e
 simp only[List.map_cons,List.map_append,List.map_nil,List.flatten_cons,List.flatten_append,List.flatten_nil,List.append_nil,e2,List.append_assoc]
theorem aG0 (d:s9) (hl:d.2.1.length≤900000) (hb:(EH d.1 d.2.1 d.2.2.1).length≤140737488355328):HI d=some (EH d.1 d.2.1 d.2.2.1):=by
 have h:=aGY (f:=S2) (fun it b h=>by
  unfold S2 A8
  rw[if_pos h,Option.bind_some]) (zM d) [] (by rw[aGZ];simpa using hb)
 unfold HI
 rw[if_pos (by omega),h,aGZ]
 unfold qW
 dsimp only
 rw[Option.bind_some]
 simp only[List.nil_append,OB]
theorem aOt (d:s9) (hl:d.2.1.length≤900000) (hb: ∀x∈([d.1]++d.2.1)++[d.2.2.1],x.length≤100000000000):HK d=some (EH d.1 d.2.1 d.2.2.1):=by
 obtain⟨L,hL⟩: ∃L,([d.1]++d.2.1)++[d.2.2.1]=L:=⟨_,rfl⟩
 have hLl:L.length=d.2.1.length+2:=by rw[←hL];simp
 rw[hL] at hb
 have h:=BO (f:=N3 d) (fun i s=>(s,i)) (fun s=>s) (n:=L.length) (M:=1000000000000000000) (B:=100000000000) (fun i=>L.getD i []) (fun i hi=>hb _ (CJ hi)) [] (by simp;omega) (fun i s hi hM=>by
  unfold N3
  dsimp only
  have:=hb _ (CJ (d:=[]) hi)
  rw[hL,if_pos (rO hi),if_pos (qJ hi),I6,if_pos (by rw[List.length_append];omega),if_pos (r5 (by omega))]) (fun b=>by
  unfold N3
  dsimp only
  rw[hL,if_neg (sG _)])
 unfold HK DG
 rw[if_pos (by simp;omega),if_pos (by simp;omega),Option.bind_some,h]
 unfold qD
 rw[Option.bind_some,EG (l:=L) (d:=[]) (fun x=>x)]
 congr 1
 rw[List.nil_append,←hL]
 unfold EH
 simp
end Go.Proofs.YtbbpilohihldiaaGreatDoor
namespace Go.Proofs.YtbbpilohihldiaaGreatDoor
open Vc
set_option maxRecDepth 100000
end Go.Proofs.YtbbpilohihldiaaGreatDoor
namespace Go.Proofs.YtbbpilohihldiaaGreatDoor
open Vc
set_option maxRecDepth 100000
theorem aOu {l:List UInt8}:(vN l).1=4↔l=[]:=by
 cases l with
 |nil=>exact⟨fun _=>rfl,fun _=>rfl⟩
 |cons b t=>
  refine⟨fun h=> ?_,fun h=>by cases h⟩
  exfalso
  by_cases h1:b=123∨b=125
  ·rw[TD h1] at h;exact absurd h (show¬(3:Int)=4 by decide)
  ·by_cases h2:b=34
   ·rw[TE h1 h2] at h
    unfold wP at h
    cases he:sS 34 t with
    |none=>rw[he] at h;exact absurd h (show¬(0:Int)=4 by decide)
    |some n=>
     rw[he] at h
     dsimp only at h
     split at h
     ·exact absurd h (show¬(0:Int)=4 by decide)
     ·exact absurd h (show¬(1:Int)=4 by decide)
   ·by_cases h3:AH b.toNat=true
    ·rw[TF h1 h2 h3] at h;exact absurd h (show¬(2:Int)=4 by decide)
    ·rw[OF h1 h2 h3] at h;exact absurd h (show¬(0:Int)=4 by decide)
theorem k4 {s:List UInt8}{P:Nat}(hP:P≤s.length):kS s P=4↔¬P+(G (s.drop P)).1<s.length:=by
 unfold kS sP
 by_cases hg:(G (s.drop P)).2=true
 ·rw[if_pos hg]
  dsimp only
  rw[aOu,List.drop_drop,List.drop_eq_nil_iff]
  omega
 ·rw[if_neg hg]
  obtain⟨t,ht⟩:=OG (s.drop P).length (s.drop P) (Nat.le_refl _) (by simpa using hg)
  refine⟨fun h=>absurd h (show¬(0:Int)=4 by decide),fun h=> ?_⟩
  rw[List.drop_drop,List.drop_eq_nil_of_le (by omega)] at ht
  cases ht
end Go.Proofs.YtbbpilohihldiaaGreatDoor
namespace Go.Proofs.YtbbpilohihldiaaGreatDoor
open Vc
set_option maxRecDepth 1000000
theorem aOv:KJ=some true:=by kernel_rfl
end Go.Proofs.YtbbpilohihldiaaGreatDoor
namespace Go.Proofs.YtbbpilohihldiaaGreatDoor
open Vc
set_option maxRecDepth 100000
theorem aG1 {σ ρ:Type}{f:σ→Option (σ⊕ρ)}{n:Nat}(st:Nat→σ) {r:ρ}(h: ∀i,i<n→f (st i)=some (.inl (st (i+1)))) (he:f (st n)=some (.inr r)): ∀(k i:Nat),i+k=n→pQ f (st i)=some r
 |0,i,hi=>by
  have:i=n:=by omega
  subst this
  exact CR he
 |k+1,i,hi=>by
  rw[TQ (h i (by omega))]
  exact aG1 st h he k (i+1) (by omega)
theorem aOw (d:s9) (h:d.2.1.length≤5000):DR d d=some ([],0):=by
 have hn:((([d.1]:List (List UInt8))++d.2.1)++([d.2.2.1]:List (List UInt8))).length=d.2.1.length+2:=by simp
 have hA:DG d=some ():=by
  unfold DG
  rw[if_pos (by simp;omega),if_pos (by simp;omega)]
 have hloop:=aG1 (f:=N4 d d) (n:=d.2.1.length+2) (fun i=>(([]:List (Int×List UInt8×Unit)),(i:Int))) (r:=[])
  (fun i hi=>by
   unfold N4
   dsimp only
   rw[hn,if_pos (rO hi),if_pos (qJ hi),if_pos (qJ hi),if_neg (by simp),if_pos (r5 (by omega))]
   rfl)
  (by
   unfold N4
   dsimp only
   rw[hn,if_neg (sG _)]) (d.2.1.length+2) 0 (by omega)
 unfold DR
 rw[if_neg (by simp),hA,Option.bind_some,Option.bind_some,show (([]:List (Int×List UInt8×Unit)),(0:Int))=(([]:List (Int×List UInt8×Unit)),((0:Nat):Int)) from rfl,hloop]
 rfl
theorem aOx (d:s9) (h:d.2.1.length≤5000):FK d d=some true:=by
 unfold FK
 rw[aOw d h]
 rfl
end Go.Proofs.YtbbpilohihldiaaGreatDoor
namespace Go.Proofs.YtbbpilohihldiaaGreatDoor
open Vc
set_option maxRecDepth 100000
def q3 (s:List UInt8):List UInt8:=([34]++ID 3 s)++[34]
theorem uN {s:List UInt8}(h:s.length≤6000):(q3 s).length≤36002:=by
  have:=aOq (n:=3) (.inr rfl) s
  simp only[q3,List.length_append,List.length_cons,List.length_nil]
  omega
theorem IE {s:List UInt8}(h:s.length≤6000):y5 s=some (q3 s):=by
  have h1:=uN h
  have h2:FM (3:Int) s=some (ID 3 s):=aOr (n:=3) (.inr rfl) (EF h)
  unfold q3 at*
  simp only[List.length_append] at h1
  unfold y5
  rw[h2,Option.bind_some,if_pos (by simp only[List.length_append];omega),if_pos (by simp only[List.length_append];omega)]
theorem IF {s:List UInt8}(h:s.length≤6000):y6 s=some (q3 s):=by
  have h1:=uN h
  have h2:FN (3:Int) s=some (ID 3 s):=aOs (n:=3) (.inr rfl) (EF h)
  unfold q3 at*
  simp only[List.length_append] at h1
  unfold y6
  rw[h2,Option.bind_some,if_pos (by simp only[List.length_append];omega),if_pos (by simp only[List.length_append];omega)]
theorem r8 {l:List UInt8}{n:Nat}(h:l.length≤n) (hn:n≤9223372036854775807):(l.length:Int)≤9223372036854775807:=by omega
theorem CT {l:List (List UInt8)}(h:sml l) {i:Nat}(hi:i<l.length):(l.getD i []).length≤6000:=h.2 _ (CJ hi)
theorem CU {l:List qS}(h:smlF l) {i:Nat}(hi:i<l.length):(l.getD i fD).1.length≤6000∧(l.getD i fD).2.1.length≤6000:=h.2 _ (CJ hi)
abbrev aOy:List UInt8:=[10,32,32,99,111,109,109,101,110,116,32]
def GB (s:List UInt8):List UInt8:=aOy++q3 s
def KY (l:List (List UInt8)):List UInt8:=l.flatMap GB
theorem a7q {s:List UInt8}(h:s.length≤6000):(GB s).length≤36013:=by
  have:=uN h
  simp only[GB,List.length_append,List.length_cons,List.length_nil]
  omega
theorem TT {l:List (List UInt8)}(h:sml l):(KY l).length≤216078000:=by
  have:=TS (l:=l) (h:=GB) (B:=36013) fun x hx=>a7q (h.2 x hx)
  have h1:=h.1
  unfold KY
  calc _≤l.length*36013:=this
    _≤6000*36013:=Nat.mul_le_mul_right _ h1
theorem aG2 {l:List (List UInt8)}(h:sml l):FP l=some (KY l):=by
  have hl:=h.1
  have k:=BO (f:=NM l) (fun i s=>(s,i)) (fun s=>s) (n:=l.length) (M:=1000000000) (B:=36013) (fun i=>GB (l.getD i [])) (fun i hi=>a7q (CT h hi)) [] (by simp;omega) (fun i s hi hM=>by
    have h1:=uN (CT h hi)
    unfold NM
    dsimp only
    rw[if_pos (rO hi),if_pos (qJ hi),I6,IE (CT h hi),Option.bind_some,if_pos (r8 (n:=1000000000) (by simp only[List.length_append,List.length_cons,List.length_nil];omega) (by decide)),if_pos (r8 (n:=1000000000) (by simp only[List.length_append,List.length_cons,List.length_nil];omega) (by decide)),if_pos (r5 (by omega))]
    rfl) (fun b=>by
    unfold NM
    dsimp only
    rw[if_neg (sG _)])
  unfold FP
  rw[k,EG (l:=l) (d:=[]) GB]
  rfl
theorem aG3 {l:List (List UInt8)}(h:sml l):FR l=some (KY l):=by
  have hl:=h.1
  have k:=BO (f:=NO l) (fun i s=>(s,i)) (fun s=>s) (n:=l.length) (M:=1000000000) (B:=36013) (fun i=>GB (l.getD i [])) (fun i hi=>a7q (CT h hi)) [] (by simp;omega) (fun i s hi hM=>by
    have h1:=uN (CT h hi)
    unfold NO
    dsimp only
    rw[if_pos (rO hi),if_pos (r8 (n:=1000000000) (by simp only[List.length_append,List.length_cons,List.length_nil];omega) (by decide)),if_pos (qJ hi),I6,IF (CT h hi),Option.bind_some,if_pos (r8 (n:=1000000000) (by simp only[List.length_append,List.length_cons,List.length_nil];omega) (by decide)),if_pos (r5 (by omega)),List.append_assoc]
    rfl) (fun b=>by
    unfold NO
    dsimp only
    rw[if_neg (sG _)])
  unfold FR
  rw[k,EG (l:=l) (d:=[]) GB]
  rfl
abbrev aOz:List UInt8:=[10,32,32,102,105,101,108,100,32]
def EI (f:qS):List UInt8:=((aOz++q3 f.1)++[32])++q3 f.2.1
def KZ (l:List qS):List UInt8:=l.flatMap EI
theorem a7r {f:qS}(h:f.1.length≤6000∧f.2.1.length≤6000):(EI f).length≤72014:=by
  have h1:=uN h.1
  have h2:=uN h.2
  simp only[EI,List.length_append,List.length_cons,List.length_nil]
  omega
theorem L1 {l:List qS}(h:smlF l):(KZ l).length≤432084000:=by
  have:=TS (l:=l) (h:=EI) (B:=72014) fun x hx=>a7r (h.2 x hx)
  have h1:=h.1
  unfold KZ
  calc _≤l.length*72014:=this
    _≤6000*72014:=Nat.mul_le_mul_right _ h1
theorem aG4 {l:List qS}(h:smlF l):FQ l=some (KZ l):=by
  have hl:=h.1
  have k:=BO (f:=NN l) (fun i s=>(s,i)) (fun s=>s) (n:=l.length) (M:=1000000000) (B:=72014) (fun i=>EI (l.getD i fD)) (fun i hi=>a7r (CU h hi)) [] (by simp;omega) (fun i s hi hM=>by
    have h1:=uN (CU h hi).1
    have h2:=uN (CU h hi).2
    unfold NN
    dsimp only
    rw[if_pos (rO hi),if_pos (qJ hi),SZ,IE (CU h hi).1,Option.bind_some,if_pos (r8 (n:=1000000000) (by simp only[List.length_append,List.length_cons,List.length_nil];omega) (by decide)),if_pos (r8 (n:=1000000000) (by simp only[List.length_append,List.length_cons,List.length_nil];omega) (by decide)),IE (CU h hi).2,Option.bind_some,if_pos (r8 (n:=1000000000) (by simp only[List.length_append,List.length_cons,List.length_nil];omega) (by decide)),if_pos (r8 (n:=1000000000) (by simp only[List.length_append,List.length_cons,List.length_nil];omega) (by decide)),if_pos (r5 (by omega))]
    rfl) (fun b=>by
    unfold NN
    dsimp only
    rw[if_neg (sG _)])
  unfold FQ
  rw[k,EG (l:=l) (d:=fD) EI]
  rfl
theorem aG5 {l:List qS}(h:smlF l):FT l=some (KZ l):=by
  have hl:=h.1
  have k:=BO (f:=NP l) (fun i s=>(s,i)) (fun s=>s) (n:=l.length) (M:=1000000000) (B:=72014) (fun i=>EI (l.getD i fD)) (fun i hi=>a7r (CU h hi)) [] (by simp;omega) (fun i s hi hM=>by
    have h1:=uN (CU h hi).1
    have h2:=uN (CU h hi).2
    unfold NP
    dsimp only
    rw[if_pos (rO hi),if_pos (r8 (n:=1000000000) (by simp only[List.length_append,List.length_cons,List.length_nil];omega) (by decide)),if_pos (qJ hi),SZ,IF (CU h hi).1,Option.bind_some,if_pos (r8 (n:=1000000000) (by simp only[List.length_append,List.length_cons,List.length_nil];omega) (by decide)),if_pos (r8 (n:=1000000000) (by simp only[List.length_append,List.length_cons,List.length_nil];omega) (by decide)),if_pos (qJ hi),IF (CU h hi).2,Option.bind_some,if_pos (r8 (n:=1000000000) (by simp only[List.length_append,List.length_cons,List.length_nil];omega) (by decide)),if_pos (r5 (by omega))]
    unfold EI
    simp only[List.append_assoc]) (fun b=>by
    unfold NP
    dsimp only
    rw[if_neg (sG _)])
  unfold FT
  rw[k,EG (l:=l) (d:=fD) EI]
  rfl
abbrev aOA:List UInt8:=[10,32,32,102,108,97,103,32]
def GC (s:List UInt8):List UInt8:=aOA++s
def OQ (l:List (List UInt8)):List UInt8:=l.flatMap GC
theorem a7s {s:List UInt8}(h:s.length≤6000):(GC s).length≤6008:=by
  simp only[GC,List.length_append,List.length_cons,List.length_nil]
  omega
theorem a7t {l:List (List UInt8)}(h:sml l):(OQ l).length≤36048000:=by
  have:=TS (l:=l) (h:=GC) (B:=6008) fun x hx=>a7s (h.2 x hx)
  have h1:=h.1
  unfold OQ
  calc _≤l.length*6008:=this
    _≤6000*6008:=Nat.mul_le_mul_right _ h1
theorem aOB {x:Ent}(h:EntFew x) (s:List UInt8) (hs:s.length≤500000000):pQ (KA x) (s,(0:Int))=some (s++OQ x.2.2.2.2.1):=by
  have hl:=h.flg.1
  have k:=BO (f:=KA x) (fun i s=>(s,i)) (fun s=>s) (n:=x.2.2.2.2.1.length) (M:=1000000000) (B:=6008) (fun i=>GC (x.2.2.2.2.1.getD i [])) (fun i hi=>a7s (CT h.flg hi)) s (by omega) (fun i s hi hM=>by
    have h1:=CT h.flg hi
    unfold KA
    dsimp only
    rw[if_pos (rO hi),if_pos (qJ hi),I6,if_pos (r8 (n:=1000000000) (by simp only[List.length_append,List.length_cons,List.length_nil];omega) (by decide)),if_pos (r8 (n:=1000000000) (by simp only[List.length_append,List.length_cons,List.length_nil];omega) (by decide)),if_pos (r5 (by omega))]
    rfl) (fun b=>by
    unfold KA
    dsimp only
    rw[if_neg (sG _)])
  rw[k,EG (l:=x.2.2.2.2.1) (d:=[]) GC]
  rfl
theorem aOC {x:Ent}(h:EntFew x) (s:List UInt8) (hs:s.length≤500000000):pQ (KB x) (s,(0:Int))=some (s++OQ x.2.2.2.2.1):=by
  have hl:=h.flg.1
  have k:=BO (f:=KB x) (fun i s=>(s,i)) (fun s=>s) (n:=x.2.2.2.2.1.length) (M:=1000000000) (B:=6008) (fun i=>GC (x.2.2.2.2.1.getD i [])) (fun i hi=>a7s (CT h.flg hi)) s (by omega) (fun i s hi hM=>by
    have h1:=CT h.flg hi
    unfold KB
    dsimp only
    rw[if_pos (rO hi),if_pos (r8 (n:=1000000000) (by simp only[List.length_append,List.length_cons,List.length_nil];omega) (by decide)),if_pos (qJ hi),I6,if_pos (r8 (n:=1000000000) (by simp only[List.length_append,List.length_cons,List.length_nil];omega) (by decide)),if_pos (r5 (by omega)),List.append_assoc]
    rfl) (fun b=>by
    unfold KB
    dsimp only
    rw[if_neg (sG _)])
  rw[k,EG (l:=x.2.2.2.2.1) (d:=[]) GC]
  rfl
abbrev aOD:List UInt8:=[10,10,101,110,116,114,121,32]
abbrev aG6:List UInt8:=[10,32,32,115,111,117,114,99,101,32]
abbrev aG7:List UInt8:=[10,32,32,116,97,114,103,101,116,32]
abbrev aOE:List UInt8:=[10,32,32,115,116,97,116,101,32]
def GD (p s:List UInt8):List UInt8:=if s=[] then[] else p++q3 s
def OR (n:Int):List UInt8:=if n=0 then[] else aOE++pI .str vZ n
def AJ (x:Ent):List UInt8:=((aOD++q3 x.1)++[32,123])++KY x.2.2.2.1
def xT (x:Ent):List UInt8:=AJ x++GD aG6 x.2.1
def xU (x:Ent):List UInt8:=xT x++GD aG7 x.2.2.1
def IG (x:Ent):List UInt8:=xU x++OR x.2.2.2.2.2.1
def wU (x:Ent):List UInt8:=((IG x++OQ x.2.2.2.2.1)++KZ x.2.2.2.2.2.2.1)++[10,125]
theorem aG8 {p s:List UInt8}(hp:p.length≤10) (h:s.length≤6000):(GD p s).length≤36012:=by
  have:=uN h
  unfold GD
  split
  ·simp
  ·rw[List.length_append];omega
theorem a7u {n:Int}(h0:0≤n) (h1:n≤4):(pI .str vZ n).length≤10:=by
  have:n=0∨n=1∨n=2∨n=3∨n=4:=by omega
  rcases this with rfl|rfl|rfl|rfl|rfl<;>decide
theorem aOF {n:Int}(h0:0≤n) (h1:n≤4):(OR n).length≤19:=by
  have:=a7u h0 h1
  unfold OR
  split
  ·simp
  ·simp only[List.length_append,List.length_cons,List.length_nil];omega
section
variable {x:Ent}(h:EntFew x) (h0:0≤x.2.2.2.2.2.1) (h4:x.2.2.2.2.2.1≤4)
include h
theorem a7v:(AJ x).length≤216114012:=by
  have h1:=uN h.id
  have h2:=TT h.com
  simp only[AJ,List.length_append,List.length_cons,List.length_nil]
  omega
theorem a7w:(xT x).length≤216150024:=by
  have h1:=a7v h
  have h2:=aG8 (p:=aG6) (by decide) h.src
  simp only[xT,List.length_append]
  omega
theorem a7x:(xU x).length≤216186036:=by
  have h1:=a7w h
  have h2:=aG8 (p:=aG7) (by decide) h.tgt
  simp only[xU,List.length_append]
  omega
include h0 h4
theorem a7y:(IG x).length≤216186055:=by
  have h1:=a7x h
  have h2:=aOF h0 h4
  simp only[IG,List.length_append]
  omega
theorem a7z:(wU x).length≤900000000:=by
  have h1:=a7y h h0 h4
  have h2:=a7t h.flg
  have h3:=L1 h.fld
  simp only[wU,List.length_append,List.length_cons,List.length_nil]
  omega
theorem aOG:HW x=some (wU x):=by
  have lA:=a7v h
  have lB:=a7w h
  have lC:=a7x h
  have lD:=a7y h h0 h4
  have lf:=a7t h.flg
  have lg:=L1 h.fld
  have li:=a7z h h0 h4
  have q1:=uN h.id
  have q2:=uN h.src
  have q4:=uN h.tgt
  have s4:=a7u h0 h4
  have eB:(if (!decide (x.2.1=([]:List UInt8)))=true then(y5 x.2.1).bind fun O=>if ((([10,32,32,115,111,117,114,99,101,32]:List UInt8)++O).length:Int)≤9223372036854775807 then if ((AJ x++(([10,32,32,115,111,117,114,99,101,32]:List UInt8)++O)).length:Int)≤9223372036854775807 then some (AJ x++(([10,32,32,115,111,117,114,99,101,32]:List UInt8)++O)) else none else none else some (AJ x))=some (xT x):=by
    unfold xT GD
    by_cases he:x.2.1=[]
    ·rw[if_neg (by simp [he]),if_pos he,List.append_nil]
    ·rw[if_pos (by simp [he]),if_neg he,IE h.src,Option.bind_some,if_pos (r8 (n:=1000000000) (by simp only[List.length_append,List.length_cons,List.length_nil];omega) (by decide)),if_pos (r8 (n:=1000000000) (by simp only[List.length_append,List.length_cons,List.length_nil];omega) (by decide))]
  have eC:(if (!decide (x.2.2.1=([]:List UInt8)))=true then(y5 x.2.2.1).bind fun O=>if ((([10,32,32,116,97,114,103,101,116,32]:List UInt8)++O).length:Int)≤9223372036854775807 then if ((xT x++(([10,32,32,116,97,114,103,101,116,32]:List UInt8)++O)).length:Int)≤9223372036854775807 then some (xT x++(([10,32,32,116,97,114,103,101,116,32]:List UInt8)++O)) else none else none else some (xT x))=some (xU x):=by
    unfold xU GD
    by_cases he:x.2.2.1=[]
    ·rw[if_neg (by simp [he]),if_pos he,List.append_nil]
    ·rw[if_pos (by simp [he]),if_neg he,IE h.tgt,Option.bind_some,if_pos (r8 (n:=1000000000) (by simp only[List.length_append,List.length_cons,List.length_nil];omega) (by decide)),if_pos (r8 (n:=1000000000) (by simp only[List.length_append,List.length_cons,List.length_nil];omega) (by decide))]
  unfold HW
  rw[IE h.id,Option.bind_some,if_pos (r8 (n:=1000000000) (by simp only[List.length_append,List.length_cons,List.length_nil];omega) (by decide)),if_pos (r8 (n:=1000000000) (by simp only[List.length_append,List.length_cons,List.length_nil];omega) (by decide)),aG2 h.com,Option.bind_some]
  show (if ((AJ x).length:Int)≤_ then _ else _)=_
  rw[if_pos (r8 (n:=1000000000) (by omega) (by decide))]
  refine(congrArg (fun o=>qD o _) (show _=some (xT x) from eB)).trans ?_
  unfold qD
  rw[Option.bind_some]
  refine(congrArg (fun o=>Option.bind o _) (show _=some (xU x) from eC)).trans ?_
  rw[Option.bind_some]
  have eD: ∀K:List UInt8→Option (List UInt8),((if (!decide (x.2.2.2.2.2.1=(0:Int)))=true then
       if 0≤x.2.2.2.2.2.1∧x.2.2.2.2.2.1<(List.length vZ:Int) then
        if ((([10,32,32,115,116,97,116,101,32]:List UInt8)++(pI .str vZ x.2.2.2.2.2.1)).length:Int)≤9223372036854775807 then
         if ((xU x++(([10,32,32,115,116,97,116,101,32]:List UInt8)++(pI .str vZ x.2.2.2.2.2.1))).length:Int)≤9223372036854775807 then
          some ((xU x++(([10,32,32,115,116,97,116,101,32]:List UInt8)++(pI .str vZ x.2.2.2.2.2.1))))
         else none
        else none
       else none
      else
       some (xU x)).bind K)=K (IG x):=by
    intro K
    unfold IG OR
    by_cases he:x.2.2.2.2.2.1=0
    ·rw[if_neg (by simp [he]),if_pos he,List.append_nil,Option.bind_some]
    ·rw[if_pos (by simp [he]),if_neg he,if_pos ⟨h0,by show _<(5:Int);omega⟩,if_pos (r8 (n:=1000000000) (by simp only[List.length_append,List.length_cons,List.length_nil];omega) (by decide)),if_pos (r8 (n:=1000000000) (by simp only[List.length_append,List.length_cons,List.length_nil];omega) (by decide)),Option.bind_some]
  refine(eD _).trans ?_
  rw[aOB h _ (by omega),Option.bind_some,aG4 h.fld,Option.bind_some,if_pos (r8 (n:=1000000000) (by simp only[List.length_append,List.length_cons,List.length_nil];omega) (by decide)),if_pos (r8 (n:=1000000000) (by simp only[List.length_append,List.length_cons,List.length_nil];omega) (by decide))]
  rfl
theorem aOH:HX x=some (wU x):=by
  have lA:=a7v h
  have lB:=a7w h
  have lC:=a7x h
  have lD:=a7y h h0 h4
  have lf:=a7t h.flg
  have lg:=L1 h.fld
  have li:=a7z h h0 h4
  have q1:=uN h.id
  have q2:=uN h.src
  have q4:=uN h.tgt
  have s4:=a7u h0 h4
  unfold HX
  rw[IF h.id,Option.bind_some,if_pos (r8 (n:=1000000000) (by simp only[List.length_append,List.length_cons,List.length_nil];omega) (by decide)),if_pos (r8 (n:=1000000000) (by simp only[List.length_append,List.length_cons,List.length_nil];omega) (by decide)),aG3 h.com,Option.bind_some]
  show (if ((AJ x).length:Int)≤_ then _ else _)=_
  rw[if_pos (r8 (n:=1000000000) (by omega) (by decide))]
  have eB:(if (!decide (x.2.1=([]:List UInt8)))=true then
       if ((AJ x++([10,32,32,115,111,117,114,99,101,32]:List UInt8)).length:Int)≤9223372036854775807 then
        (y6 x.2.1).bind fun Z=>
        if (((AJ x++([10,32,32,115,111,117,114,99,101,32]:List UInt8))++Z).length:Int)≤9223372036854775807 then
         some (((AJ x++([10,32,32,115,111,117,114,99,101,32]:List UInt8))++Z))
        else none
       else none
      else
       some (AJ x))=some (xT x):=by
    unfold xT GD
    by_cases he:x.2.1=[]
    ·rw[if_neg (by simp [he]),if_pos he,List.append_nil]
    ·rw[if_pos (by simp [he]),if_neg he,if_pos (r8 (n:=1000000000) (by simp only[List.length_append,List.length_cons,List.length_nil];omega) (by decide)),IF h.src,Option.bind_some,if_pos (r8 (n:=1000000000) (by simp only[List.length_append,List.length_cons,List.length_nil];omega) (by decide)),List.append_assoc]
  have eC:(if (!decide (x.2.2.1=([]:List UInt8)))=true then
       if ((xT x++([10,32,32,116,97,114,103,101,116,32]:List UInt8)).length:Int)≤9223372036854775807 then
        (y6 x.2.2.1).bind fun Z=>
        if (((xT x++([10,32,32,116,97,114,103,101,116,32]:List UInt8))++Z).length:Int)≤9223372036854775807 then
         some (((xT x++([10,32,32,116,97,114,103,101,116,32]:List UInt8))++Z))
        else none
       else none
      else
       some (xT x))=some (xU x):=by
    unfold xU GD
    by_cases he:x.2.2.1=[]
    ·rw[if_neg (by simp [he]),if_pos he,List.append_nil]
    ·rw[if_pos (by simp [he]),if_neg he,if_pos (r8 (n:=1000000000) (by simp only[List.length_append,List.length_cons,List.length_nil];omega) (by decide)),IF h.tgt,Option.bind_some,if_pos (r8 (n:=1000000000) (by simp only[List.length_append,List.length_cons,List.length_nil];omega) (by decide)),List.append_assoc]
  refine(congrArg (fun o=>qD o _) (show _=some (xT x) from eB)).trans ?_
  unfold qD
  rw[Option.bind_some]
  refine(congrArg (fun o=>Option.bind o _) (show _=some (xU x) from eC)).trans ?_
  rw[Option.bind_some]
  have hS:DH x.2.2.2.2.2.1=some ():=by
    unfold DH
    rw[if_pos ⟨h0,by show _<(5:Int);omega⟩]
  have eD: ∀K:List UInt8→Option (List UInt8),((if (!decide (x.2.2.2.2.2.1=(0:Int)))=true then
       if ((xU x++([10,32,32,115,116,97,116,101,32]:List UInt8)).length:Int)≤9223372036854775807 then
        (DH x.2.2.2.2.2.1).bind fun aA=>
        if (((xU x++([10,32,32,115,116,97,116,101,32]:List UInt8))++(pI .str vZ x.2.2.2.2.2.1)).length:Int)≤9223372036854775807 then
         some (((xU x++([10,32,32,115,116,97,116,101,32]:List UInt8))++(pI .str vZ x.2.2.2.2.2.1)))
        else none
       else none
      else
       some (xU x)).bind K)=K (IG x):=by
    intro K
    unfold IG OR
    by_cases he:x.2.2.2.2.2.1=0
    ·rw[if_neg (by simp [he]),if_pos he,List.append_nil,Option.bind_some]
    ·rw[if_pos (by simp [he]),if_neg he,if_pos (r8 (n:=1000000000) (by simp only[List.length_append,List.length_cons,List.length_nil];omega) (by decide)),hS,Option.bind_some,if_pos (r8 (n:=1000000000) (by simp only[List.length_append,List.length_cons,List.length_nil];omega) (by decide)),Option.bind_some,List.append_assoc]
  refine(eD _).trans ?_
  rw[aOC h _ (by omega),Option.bind_some,aG5 h.fld,Option.bind_some,if_pos (r8 (n:=1000000000) (by simp only[List.length_append,List.length_cons,List.length_nil];omega) (by decide)),if_pos (r8 (n:=1000000000) (by simp only[List.length_append,List.length_cons,List.length_nil];omega) (by decide))]
  rfl
end
theorem aG9 {α β:Type}{f:α→β}{l:List α}:l.flatMap (fun x=>[f x])=l.map f:=by
  induction l with
  |nil=>rfl
  |cons x l ih=>rw[List.flatMap_cons,ih];rfl
abbrev aOI:List UInt8:=[99,97,116,97,108,111,103,32]
def BP (c:C4):List UInt8:=((((aOI++q3 c.1)++[32,123])++KY c.2.1)++KZ c.2.2.1)++[10,125]
theorem aOJ {c:C4}(hc:CatFew c):(BP c).length≤900000000:=by
  have h1:=uN (s:=c.1) (by have:=hc.tag;omega)
  have h2:=TT hc.com
  have h3:=L1 hc.fld
  simp only[BP,List.length_append,List.length_cons,List.length_nil]
  omega
theorem a7A {c:C4}(hok:wT c=true) {i:Nat}(hi:i<c.2.2.2.1.length):G4 (c.2.2.2.1.getD i eD)=true:=by
  unfold wT at hok
  simp only[Bool.and_eq_true,Bool.not_eq_true',List.any_eq_false,List.mem_range] at hok
  have:=hok.2.2 i hi
  unfold GA at this
  simp only[Bool.or_eq_true,Bool.not_eq_true',not_or,Bool.not_eq_false] at this
  exact this.2
theorem a7B {x:Ent}(h:G4 x=true):0≤x.2.2.2.2.2.1∧x.2.2.2.2.2.1≤4:=by
  unfold G4 at h
  simp only[Bool.and_eq_true,decide_eq_true_eq] at h
  exact h.1.2
theorem aHa {c:C4}(hc:CatFew c):BB c=some (if wT c=true then(BP c,c.2.2.2.1.map wU,[10],0) else([],[],[],1)):=by
  unfold BB
  rw[aOi hc.fitP,Option.bind_some]
  by_cases hok:wT c=true
  · have hl:=hc.len
    have q1:=uN (s:=c.1) (by have:=hc.tag;omega)
    have h2:=TT hc.com
    have h3:=L1 hc.fld
    have k:=BO (f:=NX c) (fun i b=>(i,b)) (fun b=>b) (n:=c.2.2.2.1.length) (M:=1000000) (B:=1) (fun i=>[wU (c.2.2.2.1.getD i eD)]) (fun i hi=>by simp) [] (by simp;omega) (fun i b hi hM=>by
      obtain⟨r0,r4⟩:=a7B (a7A hok hi)
      unfold NX
      dsimp only
      rw[if_pos (rO hi),if_pos (qJ hi),TR,aOG (hc.ent _ (CJ hi)) r0 r4,Option.bind_some,if_pos (by simp;omega),if_pos (r5 (by omega))]) (fun b=>by
      unfold NX
      dsimp only
      rw[if_neg (sG _)])
    rw[hok,if_neg (by decide),if_pos rfl,IE (by have:=hc.tag;omega),Option.bind_some,if_pos (r8 (n:=1000000000) (by simp only[List.length_append,List.length_cons,List.length_nil];omega) (by decide)),if_pos (r8 (n:=1000000000) (by simp only[List.length_append,List.length_cons,List.length_nil];omega) (by decide)),aG2 hc.com,Option.bind_some,if_pos (r8 (n:=1000000000) (by simp only[List.length_append,List.length_cons,List.length_nil];omega) (by decide)),aG4 hc.fld,Option.bind_some,if_pos (r8 (n:=1000000000) (by simp only[List.length_append,List.length_cons,List.length_nil];omega) (by decide)),if_pos (r8 (n:=1000000000) (by simp only[List.length_append,List.length_cons,List.length_nil];omega) (by decide)),k,EG (l:=c.2.2.2.1) (d:=eD) (fun x=>[wU x])]
    unfold qD
    rw[Option.bind_some]
    rw[List.nil_append,aG9]
    rfl
  · simp only[Bool.not_eq_true] at hok
    rw[hok,if_pos (show (!false)=true from rfl),if_neg (by decide)]
theorem aHb {c:C4}(hc:CatFew c):BE c=some (if wT c=true then(BP c,c.2.2.2.1.map wU,[10],0) else([],[],[],1)):=by
  unfold BE
  rw[aOl hc.fitP,Option.bind_some]
  by_cases hok:wT c=true
  · have hl:=hc.len
    have q1:=uN (s:=c.1) (by have:=hc.tag;omega)
    have h2:=TT hc.com
    have h3:=L1 hc.fld
    have k:=BO (f:=NZ c) (fun i b=>(i,b)) (fun b=>b) (n:=c.2.2.2.1.length) (M:=1000000) (B:=1) (fun i=>[wU (c.2.2.2.1.getD i eD)]) (fun i hi=>by simp) [] (by simp;omega) (fun i b hi hM=>by
      obtain⟨r0,r4⟩:=a7B (a7A hok hi)
      unfold NZ
      dsimp only
      rw[if_pos (rO hi),if_pos (qJ hi),TR,aOH (hc.ent _ (CJ hi)) r0 r4,Option.bind_some,if_pos (by simp;omega),if_pos (r5 (by omega))]) (fun b=>by
      unfold NZ
      dsimp only
      rw[if_neg (sG _)])
    rw[hok,if_neg (by decide),if_pos rfl,IF (by have:=hc.tag;omega),Option.bind_some,if_pos (r8 (n:=1000000000) (by simp only[List.length_append,List.length_cons,List.length_nil];omega) (by decide)),if_pos (r8 (n:=1000000000) (by simp only[List.length_append,List.length_cons,List.length_nil];omega) (by decide)),aG3 hc.com,Option.bind_some,if_pos (r8 (n:=1000000000) (by simp only[List.length_append,List.length_cons,List.length_nil];omega) (by decide)),aG5 hc.fld,Option.bind_some,if_pos (r8 (n:=1000000000) (by simp only[List.length_append,List.length_cons,List.length_nil];omega) (by decide)),if_pos (r8 (n:=1000000000) (by simp only[List.length_append,List.length_cons,List.length_nil];omega) (by decide)),k,EG (l:=c.2.2.2.1) (d:=eD) (fun x=>[wU x])]
    unfold qD
    rw[Option.bind_some]
    rw[List.nil_append,aG9]
    rfl
  · simp only[Bool.not_eq_true] at hok
    rw[hok,if_pos (show (!false)=true from rfl),if_neg (by decide)]
theorem aHc {c:C4}(hc:CatFew c) (hok:wT c=true): ∀x∈([BP c]++c.2.2.2.1.map wU)++[[10]],x.length≤1000000000:=by
  intro x hx
  simp only[List.mem_append,List.mem_singleton,List.mem_map] at hx
  rcases hx with(rfl|⟨y,hy,rfl⟩) |rfl
  ·have:=aOJ hc;omega
  · obtain⟨i,hi,rfl⟩:=List.getElem_of_mem hy
    have he:=a7A hok hi
    rw[List.getD_eq_getElem?_getD,List.getElem?_eq_getElem hi] at he
    obtain⟨r0,r4⟩:=a7B he
    have:=a7z (hc.ent _ hy) r0 r4
    omega
  ·simp
def L2 (c:C4):List UInt8:=EH (BP c) (c.2.2.2.1.map wU) [10]
theorem aOK {c:C4}(hc:CatFew c) (hok:wT c=true):(L2 c).length≤14000000000:=by
  have h:=aHc hc hok
  have hl:=hc.len
  have e:L2 c=(([BP c]++c.2.2.2.1.map wU)++[[10]]).flatMap (fun x=>x):=by
    unfold L2 EH
    simp [List.flatMap_def]
    rfl
  have:=TS (l:=([BP c]++c.2.2.2.1.map wU)++[[10]]) (h:=fun x=>x) (B:=1000000000) h
  rw[e]
  simp only[List.length_append,List.length_singleton,List.length_map] at this
  omega
theorem aOL {c:C4}(hc:CatFew c):FZ c=some (if wT c=true then(L2 c,0) else([],1)):=by
  unfold FZ
  rw[aHa hc,Option.bind_some]
  by_cases hok:wT c=true
  · have hl:=hc.len
    have:=aOK hc hok
    rw[if_pos hok,if_pos hok]
    dsimp only
    rw[aG0 (BP c,(c.2.2.2.1.map wU,([10],()))) (by simp;omega) (by show (L2 c).length≤_;omega),Option.bind_some]
    rfl
  · rw[if_neg hok,if_neg hok]
    dsimp only
    rw[aG0 ([],([],([],()))) (by simp) (by simp [EH]),Option.bind_some]
    rfl
theorem aOM {c:C4}(hc:CatFew c):G0 c=some (if wT c=true then(L2 c,0) else([],1)):=by
  unfold G0
  rw[aHb hc,Option.bind_some]
  by_cases hok:wT c=true
  · have hl:=hc.len
    rw[if_pos hok,if_pos hok]
    dsimp only
    rw[if_neg (show¬(!decide ((0:Int)=0))=true from by decide),aOt (BP c,(c.2.2.2.1.map wU,([10],()))) (by simp;omega) (fun x hx=>by have:=aHc hc hok x hx;omega),Option.bind_some]
    rfl
  · rw[if_neg hok,if_neg hok]
    dsimp only
    rw[if_pos (show (!decide ((1:Int)=0))=true from by decide)]
theorem aON {c:C4}(hc:CatFar c):I4 c=some true:=by
  unfold I4
  rw[aOv,Option.bind_some,if_neg (by decide)]
  obtain⟨b,hb,hf⟩:=aOn hc
  rw[hb,Option.bind_some]
  cases b with
  |false=>rw[if_pos (show (!false)=true from rfl)]
  | true=>
    have hw:=hf rfl
    rw[if_neg (by decide),aOL hw,aOM hw,aHa hw,aHb hw]
    simp only[Option.bind_some]
    obtain⟨d,hd⟩: ∃d,(if wT c=true then(BP c,c.2.2.2.1.map wU,([10]:List UInt8),(0:Int)) else([],[],[],1))=d:=⟨_,rfl⟩
    have hdl:d.2.1.length≤5000:=by
      have hl:=hw.len
      rw[←hd]
      split
      ·simp;omega
      ·simp
    have hS:=aOx (d.1,(d.2.1,(d.2.2.1,()))) hdl
    rw[hd,hS,if_pos I8]
    simp [val]
end Go.Proofs.YtbbpilohihldiaaGreatDoor
namespace Go.Proofs.YtbbpilohihldiaaGreatDoor
open Go.ChangeShapes Go.WideShapes Go.ChangeAt Go.RowKit
section
variable {H:Type}{enc:TypeId×Value→H}{P:Program}
theorem aOO (hl:laidOutB P=true) {W W':World}(hb:Below W.heap.size W W'):
  ∀{ts:List TypeId}{vs:List Value}{ds:List (DataW H)}{ps:List MemPlace},(∀t∈ts,P.readableRec t=true∧t<P.types.size)→
  DataW.TrodAll enc P W 0 (fun _=>true) true ts vs ds ps→(∀x∈ps,x.block<W.heap.size)→
  DataW.TrodAll enc P W' 0 (fun b=>decide (b<W.heap.size)) true ts vs ds ps:=by
 intro ts
 induction ts with
 |nil=>
  intro vs ds ps _ h _
  obtain⟨rfl,rfl,rfl⟩:=trodAll_nil h
  exact trodAll_mk0
 |cons t ts ih=>
  intro vs ds ps hr h hlt
  obtain⟨v,vs',d,ds',p,q,rfl,rfl,rfl,h0,r0⟩:=trodAll_cons h
  exact trodAll_cons_mk (Below.trod hl (hr t (by simp)).1 (hr t (by simp)).2 h0 hb (fun x hx=>hlt x (by simp [hx]))) (ih (fun t' ht'=>hr t' (by simp [ht'])) r0 (fun x hx=>hlt x (by simp [hx])))
theorem aOP {f:Func}{s:ChangeSpec}{W W':World}{args:Array Value}{ds gs:List (DataW H)}{before:List MemPlace}{tb:TypeId}
  (hl:laidOutB P=true) (hr: ∀t∈f.params.toList,P.readableRec t=true∧t<P.types.size)
  (hW:DataW.Whole enc P f.params.toList s.vars false W args.toList ds gs before) (hv:s.vars=[])
  (hfn:s.fn H ds={results:=[.lit (.bool true)],args:=ds}) (hrt:f.resultTypes= #[tb]) (htb:P.underlying tb=some .bool)
  (hb:Below W.heap.size W W'):s.post enc P f false true false false W args (.bool true) W':=by
 have hW':=hW
 obtain⟨p,q,hA,hV,rfl,hfz,hnd⟩:=hW
 rw[hv] at hV
 obtain⟨rfl,rfl⟩:=trodVars_none hV
 have hlt: ∀x∈p,x.block<W.heap.size:=fun x hx=>by simpa using hW'.lt x (by simp [hx])
 refine⟨ds,[],p++[],[],p,[],hW',?_,?_,?_,hb.frame _,fun h=>by cases h⟩
 ·rw[List.append_nil,hfn,hrt]
  exact trodAll_mk1 (shut_bool htb true)
 ·rw[List.append_nil,hfn]
  exact aOO hl hb hr hA hlt
 ·rw[hv,List.append_nil,hfn]
  rfl
end
end Go.Proofs.YtbbpilohihldiaaGreatDoor
namespace Go.Proofs.YtbbpilohihldiaaGreatDoor
open Go.ChangeShapes Go.WideShapes Go.ChangeAt Go.RowKit
end Go.Proofs.YtbbpilohihldiaaGreatDoor
namespace Go.Proofs.YtbbpilohihldiaaGreatDoor
open Go.ChangeShapes Go.WideShapes Go.ChangeAt Go.RowKit
section
variable {H:Type}{enc:TypeId×Value→H}
theorem aOQ {C:Checked}{f:FuncId}{fn:Func}{s:ChangeSpec}{tb:TypeId}{CV:List (String×DataW Unit)}(own:ownKnob C.prog.godebug=none) {os:Os}(started:os.Started) (F:Stop.Interp)
  (noInit:C.prog.inits.idxOf? f=none) (hfn:C.prog.funcs[f]? =some fn)
  (hl:laidOutB C.prog=true) (hr: ∀t∈fn.params.toList,C.prog.readableRec t=true∧t<C.prog.types.size) (hv:s.vars=[])
  (hrt:fn.resultTypes= #[tb]) (htb:C.prog.underlying tb=some .bool)
  (hspec: ∀(ds:List (DataW H)) (W:World) (args:Array Value) ps,DataW.TrodAll enc C.prog W 0 (fun _=>true) true fn.params.toList args.toList ds ps→s.fn H ds={results:=[.lit (.bool true)],args:=ds})
  (witness: ∃(w:World) (tape:Tape) (i:Input),w.os=os∧(w.forCall tape i).Shaped C.prog∧i.vars=[]∧Input.okWide C.prog (w.forCall tape i) .any w.heap.size f i∧
   (OpenSpec.ofChange s).preRow enc C.prog fn [] false CV (w.forCall tape i).memory i.args∧Assume.holds {} C.prog (lone (Frame.enter C.prog f i.args .normal) [] (w.forCall tape i)))
  (contract: ∀(W:World) (base:Nat) (args:Array Value) (ds:List (DataW H)) (ps:List MemPlace),
   (∀(j:Nat) t v,fn.params[j]? =some t→args[j]? =some v→Value.okWide C.prog W .any base t v)→
   DataW.TrodAll enc C.prog W 0 (fun _=>true) true fn.params.toList args.toList ds ps→
   (∀x∈ps,x.block<W.heap.size)→(DataW.weightsEach C.prog fn.params.toList ds).all (·≤reachBytes)=true→laidMetH C.prog CV W→W.ShapedOpen C.prog→
   Calls C.prog f args W fun e W'=>e= .returned (.bool true)∧Below W.heap.size W W'):
  ReturnsInHanded {} C os f .any ((OpenSpec.ofChange s).preRow enc C.prog fn [] false CV) (s.post enc C.prog fn false true false false):=by
 refine returnsInHanded_of_row (C:=C) (s:=OpenSpec.ofChange s) (F:=F) own started noInit hfn witness ?_
 intro W base args ds gs before hval hW _ _ hsz hL hsh _
 have hW':=hW
 obtain⟨p,q,hA,hV,rfl,hfz,hnd⟩:=hW
 have hV':DataW.TrodVars enc C.prog W (fun _=>true) s.vars gs q:=hV
 rw[hv] at hV'
 obtain⟨rfl,rfl⟩:=trodVars_none hV'
 have hlt: ∀x∈p,x.block<W.heap.size:=fun x hx=>by simpa using hW'.lt x (by simp [hx])
 have hvt:(OpenSpec.ofChange s).bare.plain.varTypes C.prog=[]:=by
  simp [OpenSpec.ofChange,ChangeSpec.plain,hv];rfl
 rw[hvt,List.append_nil,List.append_nil] at hsz
 refine(contract W base args ds p hval hA hlt hsz hL hsh).mono fun e W' ⟨he,hb⟩=> ?_
 subst he
 exact⟨_,rfl,aOP hl hr hW' hv (hspec ds W args p hA) hrt htb hb⟩
end
end Go.Proofs.YtbbpilohihldiaaGreatDoor
namespace Go.Proofs.YtbbpilohihldiaaGreatDoor
open Go.Shelf Go.Lib
open Vc
set_option maxRecDepth 100000
theorem aOR:(Rows.laid_unicode_utf8_first:DataW Unit)=Lib.firstData:=by kernel_rfl
theorem aOS:(Rows.laid_unicode_utf8_acceptRanges:DataW Unit)=Lib.acceptData:=by kernel_rfl
def aHd:List Int:=[0,1,56,2,57,49,28,3,61,58,42,50,38,29,17,4,62,47,59,36,45,43,51,22,53,39,33,30,24,18,12,5,63,55,48,27,60,41,37,16,46,35,44,21,52,32,23,11,54,26,40,15,34,20,31,10,25,14,19,9,13,8,7,6]
theorem aOT:(Rows.laid_math_bits_deBruijn64tab:DataW Unit)=Lib.tabData .u8 aHd:=by kernel_rfl
theorem aOU {P:Program}{w:World}{g:Nat}{t:TypeId}{k:IntKind}{zero:Array Value}(h:w.ShapedOpen P) (hg:g<P.globals.size)
  (h0:((begin P (fun _ _=>0) default).world.heap[g]?).bind Obj.row? =some (zero,t)) (hz:zero.size=1)
  (hb:P.buildable t=true) (hc:P.cellTypes P.depth t=some [t]) (hu:P.underlying t=some (.int k)): ∃m,w.cell? ⟨g,0,none⟩=some (.int k m):=by
 obtain⟨cs,hh,hs,hr⟩:=h.1 g zero t hg h0
 obtain⟨ts,hts,_,hall⟩:=hr hb
 rw[hc] at hts
 cases hts
 have h1:0<cs.size:=by omega
 obtain⟨u,hu',hok⟩:=hall 0 cs[0] (by simp [h1])
 have:u=t:=by simpa using hu'.symm
 subst this
 have hcell:w.cell? ⟨g,0,none⟩=some cs[0]:=by simp [World.cell?,hh,h1]
 rw[hcell]
 unfold Cell.ok at hok
 rw[hu] at hok
 cases hv:cs[0]<;>rw[hv] at hok<;>simp at hok
 rename_i k' m
 exact⟨m,by rw[hok.1]⟩
theorem aOV {W:World}(hsh:W.ShapedOpen Tryz.prog): ∃m,W.cell? ⟨0,0,none⟩=some (.int .i64 m):=
 aOU (t:=3) (zero:= #[.int .i64 0]) hsh (of_decide_eq_true (by kernel_rfl)) (by kernel_rfl) rfl (by kernel_rfl) (by kernel_rfl) Tryz.underlying3
def aOW:Ren:=⟨fun x=>x,fun x=>if x=5 then 5 else if x=119 then 254 else if x=138 then 256 else 257,fun x=>if x=3 then 1 else 2⟩
theorem aOX {w:World}{a:Addr}{v:Value}(h:w.cell? a=some v):a.block<w.heap.size:=by
 unfold World.cell? at h
 split at h
 ·rename_i hb;exact(Array.getElem?_eq_some_iff.1 hb).1
 ·cases h
theorem aOY {W:World}(hL:laidMet Tryz.prog Rows.treePrintRow.laid W) (hsh:W.ShapedOpen Tryz.prog):Tabs W:=by
 obtain⟨m,hm⟩:=aOV hsh
 have h0:=laidMet.reads hL (.tail _ (.head _))
 have h1:=laidMet.reads hL (.tail _ (.tail _ (.tail _ (.head _))))
 have h2:=laidMet.reads hL (.tail _ (.tail _ (.tail _ (.tail _ (.head _)))))
 rw[aOT] at h0
 rw[aOR] at h2
 rw[aOS] at h1
 have hU:Lib.Utf8Tabs 1 2 W:=utf8Tabs_of_readsT (ρ:=aOW) ⟨by kernel_rfl,by kernel_rfl,by kernel_rfl,by kernel_rfl⟩ ⟨by kernel_rfl,by kernel_rfl,by kernel_rfl,by kernel_rfl,by kernel_rfl,by kernel_rfl,by kernel_rfl⟩ h2 h1
 have hT:W.cell? ⟨5,15,none⟩=some (.int .u8 4):=by
  obtain⟨g,t,cs,fuel,p,hg,ht,hv,hd⟩:=h0
  have hg0:Tryz.prog.globalNamed "math/bits.deBruijn64tab" =some 5:=by kernel_rfl
  have ht0:(Tryz.prog.globals[5]?).map (·.type)=some 289:=by kernel_rfl
  obtain rfl:=Option.some.inj (hg0.symm.trans hg)
  obtain rfl:=Option.some.inj (ht0.symm.trans ht)
  have hc:=cells_of_tab Tryz.underlying289 Tryz.underlying5 (by kernel_rfl) (by kernel_rfl) hd
  rw[World.var?_cell hg hv 15,←Array.getElem?_toList,hc]
  rfl
 refine⟨?_,hU,⟨m,hm⟩,fun x hx=> ?_⟩
 ·have b0:5<W.heap.size:=aOX hT
  show 6≤W.heap.size
  omega
 ·unfold a7E at hx
  obtain rfl:=List.mem_singleton.1 hx
  exact⟨by decide,hT⟩
noncomputable def TU (os:Os):World:=
 let w0:=World.holding Tryz.prog os ⟨#[],#[],[]⟩
 let rT (h:Array Obj) (g:Nat) (cs:Array Value):Array Obj:=h.modify g fun
  | .cells _ t frozen=> .cells cs t frozen
  |o=>o
 let h1:=rT w0.heap 1 (Lib.firstTab.map fun z=>Value.int .u8 z).toArray
 let h2:=rT h1 2 ((List.range 16).flatMap fun i=>[Value.int .u8 (Lib.accLo i),Value.int .u8 (Lib.accHi i)]).toArray
 let h3:=rT h2 5 (aHd.map fun z=>Value.int .u8 z).toArray
 let h4:=rT h3 4 (([0,1,28,2,29,14,24,3,30,22,20,15,25,17,4,8,31,27,13,23,21,19,16,7,26,12,18,6,11,5,10,9]:List Int).map fun z=>Value.int .u8 z).toArray
 let h5:=rT h4 3 ((List.range 20).map fun i=>Value.int .u64 (10^i)).toArray
 {w0 with heap:=h5}
theorem aOZ (os:Os) (args:Array Value):laidMet Tryz.prog Rows.treePrintRow.laid ((TU os).forCall (fun _ _=>0) ⟨#[],args,[]⟩).memory:=
 (LaidIn.of_run [4,5,3,2,1] 8 (by kernel_rfl) (by kernel_rfl) (by kernel_rfl) (by kernel_rfl):LaidIn Tryz.prog _ Rows.treePrintRow.laid _).met
end Go.Proofs.YtbbpilohihldiaaGreatDoor
namespace Go.Proofs.YtbbpilohihldiaaGreatDoor
open Vc Go.RowKit
inductive IsIx where
 |ty (t:TypeId) |fs (o:Nat) (l:List Field)
inductive IsT (P:Program):IsIx→Ty→Prop
 |bool {t}:P.underlying t=some .bool→IsT P (.ty t) .bool
 |int {t k}:P.underlying t=some (.int k)→IsT P (.ty t) (.int k)
 |str {t}:P.underlying t=some .string→IsT P (.ty t) .str
 |list {t e u}:P.underlying t=some (.slice e)→P.cellsOf e=u.cells→0<u.cells→0<P.bytesOf e→IsT P (.ty e) u→IsT P (.ty t) (.list u)
 |struct {t fs ty}:ty.isRow=true→P.underlying t=some (.struct fs)→P.cellsOf t=ty.cells→IsT P (.fs 0 fs.toList) ty→IsT P (.ty t) ty
 |nil {o}:IsT P (.fs o []) .unit
 |cons {o}{f:Field}{r a b}:f.offset=o→P.cellsOf f.type=a.cells→IsT P (.ty f.type) a→IsT P (.fs (o+a.cells) r) b→IsT P (.fs o (f::r)) (.pair a b)
def Bd:(t:Ty)→t.den→Prop
 | .str,s=>List.length s≤140737488351232
 | .int k,n=>(Lit.int k n).wf=true
 | .list u,l=>List.length l≤140737488351232∧∀x:u.den,x∈(l:List u.den)→Bd u x
 | .pair a b,x=>Bd a x.1∧Bd b x.2
 |_,_=>True
def GE (w:World):Gh:=⟨fun b _=>b<w.heap.size,fun _=>none,fun _ _=>none⟩
theorem aHe {α:Type}{R:α→List Value→Prop}{w:World}{S:Nat→Nat→Prop}{c b:Nat}: ∀{l:List α}{o:Nat},(∀i x,l[i]? =some x→∃cs,cs.length=c∧w.rangeAt b (o+i*c) cs∧(∀j,j<c→S b (o+i*c+j))∧R x cs)→vH R w S c b o l
 |[],_,_=>trivial
 |x::l,o,h=>by
  refine⟨?_,aHe fun i y hy=> ?_⟩
  ·obtain⟨cs,h1,h2,h3,h4⟩:=h 0 x rfl
   exact⟨cs,h1,by simpa using h2,by simpa using h3,h4⟩
  ·obtain⟨cs,h1,h2,h3,h4⟩:=h (i+1) y (by simpa using hy)
   have e:o+(i+1)*c=o+c+i*c:=by rw[Nat.succ_mul];omega
   exact⟨cs,h1,by rw[←e];exact h2,by rw[←e];exact h3,h4⟩
section
variable {H:Type}{enc:TypeId×Value→H}{P:Program}{W:World}
theorem aHf {e:TypeId}: ∀{l:List (DataW H)}{i:Nat}{d:DataW H},l[i]? =some d→∀n∈d.weights P e,n∈DataW.weightsAll P e l
 |d0::l,0,d,h,n,hn=>by
  simp only[List.getElem?_cons_zero,Option.some.injEq] at h
  subst h
  simp only[DataW.weightsAll,List.mem_append]
  exact .inl hn
 |d0::l,i+1,d,h,n,hn=>by
  simp only[List.getElem?_cons_succ] at h
  simp only[DataW.weightsAll,List.mem_append]
  exact .inr (aHf h n hn)
 |[],_,_,h,_,_=>by simp at h
def aO0 (enc:TypeId×Value→H) (P:Program) (W:World):IsIx→Ty→Prop
 | .ty t,u=> ∀(fuel:Nat) (cs:List Value) (y:DataW H×List MemPlace),DataW.trod enc P W 0 (fun _=>true) true fuel t cs=some y→(∀n∈y.1.weights P t,n≤reachBytes)→∃x:u.den,Rd (GE W) W u x cs∧Bd u x
 | .fs o l,u=> ∀(fuel:Nat) (cs:List Value) (xs:List (DataW H×List MemPlace)),cs.length=o+u.cells→xs.length=l.length→(∀(i:Nat) (f:Field),l[i]? =some f→DataW.trod enc P W 0 (fun _=>true) true fuel f.type ((cs.drop f.offset).take (P.cellsOf f.type))=xs[i]?)→(∀n∈DataW.weightsEach P (l.map (·.type)) (xs.map (·.1)),n≤reachBytes)→∃x:u.den,Rd (GE W) W u x (cs.drop o)∧Bd u x
theorem aO1 {e:TypeId}{u:Ty}{a:Addr}{len cap:Nat}(hc:P.cellsOf e=u.cells) (hpos:0<u.cells) (hcap:len≤cap)
  (each: ∀i,i<len→∃(cs:List Value) (x:u.den),W.cells? 0 (a.add (i*u.cells)) u.cells=some cs∧Rd (GE W) W u x cs∧Bd u x):
  ∃l:List u.den,l.length=len∧Rd (GE W) W (.list u) l [.slice (some a) len cap]∧∀x∈l,Bd u x:=by
 have build: ∀k,k≤len→∃l:List u.den,l.length=k∧∀i x,l[i]? =some x→∃cs:List Value,W.cells? 0 (a.add (i*u.cells)) u.cells=some cs∧Rd (GE W) W u x cs∧Bd u x:=by
  intro k
  induction k with
  |zero=>intro _;exact⟨[],rfl,fun i x h=>by simp at h⟩
  |succ k ih=>
   intro hk
   obtain⟨l,h1,h2⟩:=ih (by omega)
   obtain⟨cs,x,h3,h4⟩:=each k (by omega)
   refine⟨l++[x],by simp [h1],fun i y hy=> ?_⟩
   rw[List.getElem?_append] at hy
   split at hy
   ·exact h2 i y hy
   ·rename_i hi
    obtain⟨j,hj⟩: ∃j,i=l.length+j:=⟨i-l.length,by omega⟩
    subst hj
    rw[Nat.add_sub_cancel_left] at hy
    cases j with
    |zero=>
     simp only[List.getElem?_cons_zero,Option.some.injEq] at hy
     subst hy
     exact⟨cs,by rw[Nat.add_zero,h1];exact h3,h4⟩
    |succ j=>simp at hy
 obtain⟨l,hll,hle⟩:=build len (Nat.le_refl _)
 refine⟨l,hll,?_,fun x hx=> ?_⟩
 ·subst hll
  by_cases hl0:l=[]
  ·subst hl0
   exact⟨some a,cap,rfl,hcap,.inl rfl⟩
  ·obtain⟨b,off,spot⟩:=a
   have hlp:0<l.length:=List.length_pos_iff.2 hl0
   have hspot:spot=none:=by
    obtain⟨cs,x,h3,_⟩:=each 0 hlp
    have h4:=(World.cells?_some h3).2.2 0 hpos
    have hlen0:=(World.cells?_some h3).2.1
    rw[List.getElem?_eq_getElem (by omega)] at h4
    simpa[Addr.add] using World.cell?_spot h4
   subst hspot
   refine⟨_,cap,rfl,hcap,.inr ⟨b,off,rfl,aHe fun i x hx=> ?_⟩⟩
   obtain⟨cs,h3,h4,_⟩:=hle i x hx
   obtain⟨_,h5,h6⟩:=World.cells?_some h3
   have hcell: ∀j v,cs[j]? =some v→W.cell? ⟨b,off+i*u.cells+j,none⟩=some v:=by
    intro j v hv
    have hj:j<u.cells:=by have:=(List.getElem?_eq_some_iff.1 hv).1;omega
    have:=h6 j hj
    rw[hv] at this
    rw[Addr.add_lit,Addr.add_lit] at this
    exact this
   refine⟨cs,h5,hcell,fun j hj=> ?_,h4⟩
   exact Vc.Q9 (hcell 0 _ (List.getElem?_eq_getElem (by omega)))
 ·obtain⟨i,hi,he⟩:=List.getElem_of_mem hx
  obtain⟨cs,h3,h4,h5⟩:=hle i x (by rw[List.getElem?_eq_getElem hi,he])
  exact h5
theorem aO2 {ix:IsIx}{u:Ty}(h:IsT P ix u):aO0 enc P W ix u:=by
 induction h with
 |bool ht=>
  intro fuel cs y hy _
  obtain⟨b,rfl,_⟩:=DataW.trod_bool ht hy
  exact⟨b,rfl,trivial⟩
 |int ht=>
  intro fuel cs y hy _
  obtain⟨n,rfl,_,hw⟩:=DataW.trod_int ht hy
  exact⟨n,rfl,hw⟩
 |str ht=>
  intro fuel cs y hy hw
  obtain⟨s,rfl,rfl,_⟩:=DataW.trod_string ht hy
  refine⟨s.data.toList,by show [Value.string s]=[Value.string ⟨s.data.toList.toArray⟩];rw[Array.toArray_toList],?_⟩
  exact hw _ (by simp [DataW.weights])
 | @list t e u ht hc hpos hb _ ih=>
  intro fuel cs y hy hw
  rcases DataW.trod_slice ht hy with⟨rfl,_⟩ |⟨a,len,cap,elems,rest,n,_,rfl,rfl,_,hl,_,hlen,hall,_,_⟩
  ·exact⟨[],⟨none,0,rfl,Nat.le_refl _,.inl rfl⟩,by simp,fun x hx=>by cases hx⟩
  ·have hws:DataW.weights P t (.slice (elems.map (·.1)) (rest.map (·.1)))=((elems.map (·.1)).length+(rest.map (·.1)).length)*P.bytesOf e::(DataW.weightsAll P e (elems.map (·.1))++DataW.weightsAll P e (rest.map (·.1))):=by
    simp [DataW.weights,ht]
   rw[hws] at hw
   have hn:=hw _ List.mem_cons_self
   obtain⟨l,h1,h2,h3⟩:=aO1 (W:=W) (a:=a) (cap:=cap) hc hpos hl fun i hi=>by
    have h1:=hall i hi
    rw[hc,List.getElem?_eq_getElem (by omega),Option.bind_eq_some_iff] at h1
    obtain⟨cs,h2,h3⟩:=h1
    obtain⟨x,hx⟩:=ih n cs _ h3 fun m hm=>hw m (by
     refine List.mem_cons_of_mem _ (List.mem_append.2 (.inl (aHf (i:=i) ?_ m hm)))
     rw[List.getElem?_map,List.getElem?_eq_getElem (by omega)];rfl)
    exact⟨cs,x,h2,hx⟩
   refine⟨l,h2,?_,h3⟩
   have:elems.length≤(elems.length+rest.length)*P.bytesOf e:=by
    calc elems.length≤(elems.length+rest.length)*1:=by omega
     _≤_:=Nat.mul_le_mul_left _ hb
   simp only[List.length_map] at hn
   have hr:reachBytes=140737488351232:=rfl
   show l.length≤_
   omega
 |struct hrow ht hcl _ ih=>
  intro fuel cs y hy hw
  obtain⟨xs,n,rfl,rfl,hl,hlen,hf⟩:=DataW.trod_struct ht hy
  have:=ih n cs xs (by rw[hl,hcl];omega) (by rw[hlen];simp) (fun i f hi=>hf i f (by simpa using hi)) fun m hm=>hw m (by simpa[DataW.weights,ht] using hm)
  rwa [List.drop_zero] at this
 |nil=>
  intro fuel cs xs hl _ _ _
  refine⟨(),?_,trivial⟩
  show cs.drop _=[]
  exact List.drop_of_length_le (by simp [Ty.cells] at hl;omega)
 | @cons o f r a b ho hc _ _ iha ihb=>
  intro fuel cs xs hl hx hf hw
  cases xs with
  |nil=>simp at hx
  |cons x0 xs=>
   have h0:=hf 0 f rfl
   rw[hc,ho] at h0
   obtain⟨xa,ra,ba⟩:=iha fuel _ x0 h0 fun m hm=>hw m (by simp only[List.map_cons,DataW.weightsEach,List.mem_append];exact .inl hm)
   obtain⟨xb,rb,bb⟩:=ihb fuel cs xs (by simp only[Ty.cells] at hl;omega) (by simpa using hx) (fun i f' hi=>by have:=hf (i+1) f' (by simpa using hi);simpa using this) fun m hm=>hw m (by simp only[List.map_cons,DataW.weightsEach,List.mem_append];exact .inr hm)
   refine⟨(xa,xb),⟨_,_,(List.take_append_drop a.cells (cs.drop o)).symm,ra,?_⟩,ba,bb⟩
   rw[List.drop_drop]
   exact rb
theorem aO3 {t:TypeId}{u:Ty}{base:Nat}{v:Value}{d:DataW H}{ps:List MemPlace}(h:IsT P (.ty t) u) (hok:Value.okWide P W .any base t v) (hT:DataW.Trod enc P W 0 (fun _=>true) true t v d ps) (hw: ∀n∈d.weights P t,n≤reachBytes): ∃x:u.den,rD (GE W) W u x v∧Bd u x:=by
 obtain⟨fuel,hf⟩:=hT
 obtain⟨x,hx,hb⟩:=aO2 (enc:=enc) (W:=W) h fuel _ _ hf hw
 refine⟨x,?_,hb⟩
 cases h with
 |bool ht=>obtain⟨b,rfl⟩:=Go.WideShapes.okWide_bool ht hok;exact .inr ⟨rfl,hx⟩
 |int ht=>obtain⟨b,rfl⟩:=Go.WideShapes.okWide_int ht hok;exact .inr ⟨rfl,hx⟩
 |str ht=>obtain⟨b,rfl⟩:=Go.WideShapes.okWide_string ht hok;exact .inr ⟨rfl,hx⟩
 |list ht=>obtain⟨a,l,c,rfl⟩:=Go.WideShapes.okWide_slice ht hok;exact .inr ⟨rfl,hx⟩
 |struct hrow ht=>obtain⟨cs,rfl,_⟩:=Go.WideShapes.okWide_struct ht hok;exact .inl ⟨hrow,cs.toList,by rw[Array.toArray_toList],hx⟩
end
end Go.Proofs.YtbbpilohihldiaaGreatDoor
namespace Go.Proofs.YtbbpilohihldiaaGreatDoor
open Vc
open Go.ChangeShapes Go.WideShapes Go.ChangeAt Go.RowKit
set_option maxRecDepth 100000
theorem IH:IsT Tryz.prog (.ty 9) .str:= .str Tryz.underlying9
theorem a7C:IsT Tryz.prog (.ty 23) (.list .str):= .list Tryz.underlying23 (by kernel_rfl) (by decide) (of_decide_eq_true (by kernel_rfl)) IH
theorem aO4:IsT Tryz.prog (.ty 149) (.pair .str (.pair .str .unit)):=by
 refine .struct rfl Tryz.underlying149 (by kernel_rfl) ?_
 exact .cons rfl (by kernel_rfl) IH (.cons rfl (by kernel_rfl) IH .nil)
theorem aHg:IsT Tryz.prog (.ty 24) (.list (.pair .str (.pair .str .unit))):= .list Tryz.underlying24 (by kernel_rfl) (by decide) (of_decide_eq_true (by kernel_rfl)) aO4
theorem aO5:IsT Tryz.prog (.ty 55) qQ:=by
 refine .struct rfl Tryz.underlying55 (by kernel_rfl) ?_
 exact .cons rfl (by kernel_rfl) IH (.cons rfl (by kernel_rfl) IH (.cons rfl (by kernel_rfl) IH (.cons rfl (by kernel_rfl) a7C (.cons rfl (by kernel_rfl) a7C (.cons rfl (by kernel_rfl) (.int Tryz.underlying3) (.cons rfl (by kernel_rfl) aHg .nil))))))
theorem aO6:IsT Tryz.prog (.ty 25) (.list qQ):= .list Tryz.underlying25 (by kernel_rfl) (by decide) (of_decide_eq_true (by kernel_rfl)) aO5
theorem aO7:IsT Tryz.prog (.ty 27) uW:=by
 refine .struct rfl Tryz.underlying27 (by kernel_rfl) ?_
 exact .cons rfl (by kernel_rfl) IH (.cons rfl (by kernel_rfl) a7C (.cons rfl (by kernel_rfl) aHg (.cons rfl (by kernel_rfl) aO6 .nil)))
theorem aO8 {x:Ent}(h:Bd qQ x):EntFar x:=by
 obtain⟨h1,h2,h3,⟨h4,k4⟩,⟨h5,k5⟩,_,⟨h7,k7⟩,_⟩:=h
 exact⟨h1,h2,h3,⟨h4,k4⟩,⟨h5,k5⟩,h7,fun y hy=>⟨(k7 y hy).1,(k7 y hy).2.1⟩⟩
theorem aO9 {c:C4}(h:Bd uW c):CatFar c:=by
 obtain⟨h1,⟨h2,k2⟩,⟨h3,k3⟩,⟨h4,k4⟩,_⟩:=h
 exact⟨h1,⟨h2,k2⟩,⟨h3,fun y hy=>⟨(k3 y hy).1,(k3 y hy).2.1⟩⟩,fun x hx=>aO8 (k4 x hx)⟩
theorem aPa {W:World}(hT:Tabs W) (v:Value) (c:C4) (hv:rD (GE W) W uW c v) (hB:Bd uW c):
  Calls Tryz.prog 7 #[v] W fun e W'=>e= .returned (.bool true)∧Below W.heap.size W W':=by
 have hC:a6R (O4 c) SO=some (KK c):=aMa _
 have ht:=aON (aO9 hB)
 refine(aMc.1.2 (GE W) W (O4 c) [v] [] _ ⟨(fun i b h=>by cases h),(fun i j bi bj b o _ h=>by cases h),fun b o h=>h,hT,(fun i blk b o h=>by cases h)⟩ ⟨v,[],rfl,⟨hv,trivial⟩,rfl⟩ hC ?_).mono fun e W' ⟨v,g',he,r⟩=> ?_
 ·intro p hp
  have:p=((I4 c).isSome=true):=by simpa[KK] using hp
  rw[this,ht];rfl
 ·have hv:v= .bool true:=by
   have h1:=r.ret
   unfold KK at h1
   rw[ht] at h1
   exact uJ h1.1
  subst hv
  exact⟨he,⟨r.fr.os,r.fr.tape,r.fr.output,r.fr.size,fun k hk=>r.fr.blk k hk (fun o ⟨i,blk,hi,_⟩=>by cases hi)⟩⟩
end Go.Proofs.YtbbpilohihldiaaGreatDoor
namespace Go.Proofs.YtbbpilohihldiaaGreatDoor
open Go.ChangeShapes Go.WideShapes Go.ChangeAt Go.RowKit Go.Lib
set_option maxRecDepth 100000
theorem aPb:(Rows.treePrintRow.inPlace==Tryz.prog.inPlace 7)=true:=by kernel_rfl
theorem aPc:(Rows.treePrintRow.unfollowed==Tryz.prog.unfollowed 7)=true:=by kernel_rfl
theorem aPd:(Rows.treePrintRow.recurses==Tryz.prog.recurses 7)=true:=by kernel_rfl
theorem aPe:(Rows.treePrintRow.named==Tryz.prog.varsNamed 7)=true:=by kernel_rfl
theorem aPf:joinedFacts Tryz.prog 7 Tryz.f7 Rows.treePrintSpec Rows.treePrintRow=true:=by
 unfold joinedFacts
 rw[aPb,aPc,aPd,aPe]
 kernel_rfl
end Go.Proofs.YtbbpilohihldiaaGreatDoor
namespace Go.Proofs.YtbbpilohihldiaaGreatDoor
open Go.ChangeShapes Go.WideShapes Go.ChangeAt Go.RowKit Go.Lib
set_option maxRecDepth 100000
namespace treePrintLaw
theorem own:ownKnob Tryz.prog.godebug=none:=by kernel_rfl
theorem CV:laidOutB Tryz.prog=true:=by kernel_rfl
theorem aPg:Tryz.prog.readableRec 27=true:=by kernel_rfl
theorem kR:27<Tryz.prog.types.size:=of_decide_eq_true (by kernel_rfl)
def OS:Value:= .agg #[.string ⟨#[]⟩,.slice none 0 0,.slice none 0 0,.slice none 0 0]
theorem aPi (os:Os) {H:Type}(enc:TypeId×Value→H):
  (OpenSpec.ofChange Rows.treePrintSpec).preRow enc Tryz.prog Tryz.f7 [] false Rows.treePrintRow.laid ((TU os).forCall (fun _ _=>0) ⟨#[],#[OS],[]⟩).memory #[OS]:=by
 have hw:(DataW.whole enc Tryz.prog ((TU os).forCall (fun _ _=>0) ⟨#[],#[OS],[]⟩).memory Tryz.f7.params.toList (OpenSpec.ofChange Rows.treePrintSpec).vars false #[OS].toList 8).map (fun x=>(x.1,x.2.1))=
   some ([.agg [.lit (.string []),.nil,.nil,.nil]],[]):=by kernel_rfl
 obtain⟨⟨x1,x2,x3⟩,hx,hx1⟩:=Option.map_eq_some_iff.1 hw
 simp only[Prod.mk.injEq] at hx1
 obtain⟨rfl,rfl⟩:=hx1
 exact OpenSpec.preRow_of_cond 8 hx (by kernel_rfl) (fun k hk=>by cases hk) (by kernel_rfl) (aOZ os _)
theorem lifted (os:Os) (started:os.Started) (H:Type) (enc:TypeId×Value→H) (F:Stop.Interp):
  ReturnsInHanded {} Tryz.checked os 7 .any ((OpenSpec.ofChange Rows.treePrintSpec).preRow enc Tryz.prog Tryz.f7 [] false Rows.treePrintRow.laid) (Rows.treePrintSpec.post enc Tryz.prog Tryz.f7 false true false false):=by
 refine aOQ (C:=Tryz.checked) (tb:=4) own started F (by kernel_rfl) Tryz.func7 CV ?_ rfl rfl Tryz.underlying4 ?_
  (witness_row_atRef (enc:=enc) (C:=Tryz.checked) false (TU os) #[OS] rfl (by kernel_rfl) (by kernel_rfl) (by kernel_rfl) (aPi os enc)) ?_
 ·intro t ht
  rw[Tryz.params7] at ht
  simp only[List.mem_cons,List.not_mem_nil,or_false] at ht
  rcases ht with rfl
  exact⟨aPg,kR⟩
 ·intro ds W args ps h
  have h':DataW.TrodAll enc Tryz.prog W 0 (fun _=>true) true Tryz.f7.params.toList args.toList ds ps:=h
  rw[Tryz.params7] at h'
  obtain⟨v0,d0,rfl,rfl,h0⟩:=trodAll_one h'
  rfl
 ·intro W base args ds ps hval0 hA0 hlt hsz0 hL hsh
  have hval: ∀(j:Nat) t v,Tryz.f7.params[j]? =some t→args[j]? =some v→Value.okWide Tryz.prog W .any base t v:=hval0
  have hA:DataW.TrodAll enc Tryz.prog W 0 (fun _=>true) true Tryz.f7.params.toList args.toList ds ps:=hA0
  have hsz:(DataW.weightsEach Tryz.prog Tryz.f7.params.toList ds).all (·≤reachBytes)=true:=hsz0
  rw[Tryz.params7] at hA hval hsz
  obtain⟨v0,d0,rfl,rfl,h0⟩:=trodAll_one hA
  obtain⟨c,hv,hB⟩:=aO3 aO7 (hval 0 27 v0 rfl rfl) h0 (fun n hn=>by
   have:=List.all_eq_true.1 hsz n (DataW.weights_mem_each (j:=0) rfl rfl n hn)
   simpa using this)
  exact aPa (aOY hL hsh) v0 c hv hB
end treePrintLaw
theorem aHh:Rows.TreePrintSaid:=
 OpenClaim.holds_of_wide 7 Tryz.f7 rfl rfl rfl rfl rfl rfl rfl ⟨rfl,rfl,rfl,rfl,rfl⟩ rfl rfl rfl rfl rfl (by kernel_rfl) Tryz.func7 aPf
  (of_decide_eq_true (by kernel_rfl)) (by unfold Func.isWrapper;first|(rw[if_pos (by decide+kernel)];kernel_rfl) |(rw[if_neg (by decide+kernel)];exact⟨rfl,rfl⟩))
  (fun os started H enc _=>by rw[OpenClaim.pre_eq_preRow];exact treePrintLaw.lifted os started H enc (fun _ _ _=>0))
#print axioms aHh
end Go.Proofs.YtbbpilohihldiaaGreatDoor
namespace Go.Proofs.YtbbpilohihldiaaGreatDoor
open Go
set_option maxRecDepth 100000
theorem aPj:Rows.treePrintRow.wfByText (OpenSpec.ofChange Rows.treePrintSpec)=true:=by kernel_rfl
theorem aPk:Tryz.prog.mainIs=some (true, "a32bce6e8aa7af12dc4e9cc10fcfd390a8b62eedc0063c9f8df073b3dc5897a3".toList):=by kernel_rfl
theorem aPl:false=Tryz.prog.looks []:=by kernel_rfl
theorem aPm:false=Rows.treePrintRow.goesBy Tryz.prog:=by kernel_rfl
theorem aPn:Tryz.prog.funcNamed "calque/calquelaw40.TreePrint" =some 7:=by kernel_rfl
theorem aPo:([27].all fun u=> !Tryz.prog.wantsStandIn u)=true:=by kernel_rfl
theorem treePrintCard_holds:Rows.TreePrintCardSaid:=
 Claim7.holds_tied_plain_at .later [] [.data,.data,.data,.data,.pinned] true (true, "a32bce6e8aa7af12dc4e9cc10fcfd390a8b62eedc0063c9f8df073b3dc5897a3") false
  aHh (fun _ h=>by cases h) aPj (fun _ h=>by cases h) treePrint_row_tie rfl ⟨rfl,rfl⟩ aPk rfl
  (fun f fn hf hfn=>by
   obtain rfl:f=7:=Option.some.inj (aPn.symm.trans hf) |>.symm
   obtain rfl:fn=Tryz.f7:=(Option.some.inj (Tryz.func7.symm.trans hfn)).symm
   exact⟨aPl,fun j t ht=>by
    rw[Tryz.params7] at ht
    have hm:t∈[27]:=by simpa using Array.mem_of_getElem? ht
    exact(show Tryz.prog.wantsStandIn t=false by simpa using List.all_eq_true.1 aPo t hm)⟩)
  aPm
#print axioms treePrintCard_holds
end Go.Proofs.YtbbpilohihldiaaGreatDoor
