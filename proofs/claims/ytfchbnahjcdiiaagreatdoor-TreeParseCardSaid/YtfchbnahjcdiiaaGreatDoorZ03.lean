/- Packed by a program of mine (wip/tools/pack.py): the same texts with short names and few blanks. -/
import Derived.KernelRfl
import Derived.Test.YtfchbnahjcdiiaaGreatDoorZ02
set_option linter.unusedVariables false
set_option linter.unusedSimpArgs false
namespace Go.Proofs.YtfchbnahjcdiiaaGreatDoor
open Vc
set_option maxRecDepth 100000
set_option maxHeartbeats 4000000
set_option linter.unusedSimpArgs false
set_option linter.unusedVariables false
noncomputable section
def CX (O:((List UInt8)×(Int×Unit))):Int→Option (Int⊕(Int⊕(Bool×Int))):=fun Z=>
 if (decide (Z<(List.length O.1:Int)))=true then
  if 0≤Z∧Z≤(List.length O.1:Int)∧(List.length O.1:Int)≤(List.length O.1:Int) then
   if 0≤(0:Int)∧(0:Int)<(List.length (p5 O.1 Z (List.length O.1:Int)):Int) then
    if (decide ((0:Int)≤(rW ([32,9,10,13]:List UInt8) (pA (p5 O.1 Z (List.length O.1:Int)) (0:Int)))))=true then
     if oT (Z+(1:Int)) then
      some (.inl (Z+(1:Int)))
     else none
    else
     (G4 (p5 O.1 Z (List.length O.1:Int)) ([47,47]:List UInt8)).bind fun aA=>
     if ((decide ((List.length ([47,47]:List UInt8):Int)≤(List.length (p5 O.1 Z (List.length O.1:Int)):Int)))&&(decide ((p5 (p5 O.1 Z (List.length O.1:Int)) (0:Int) (List.length ([47,47]:List UInt8):Int))=([47,47]:List UInt8))))=true then
      if (decide ((rW (p5 O.1 Z (List.length O.1:Int)) (10:Int))<(0:Int)))=true then
       if oT ((List.length (p5 O.1 Z (List.length O.1:Int)):Int)- (1:Int)) then
        if oT (((List.length (p5 O.1 Z (List.length O.1:Int)):Int)- (1:Int))+(1:Int)) then
         if oT (Z+(((List.length (p5 O.1 Z (List.length O.1:Int)):Int)- (1:Int))+(1:Int))) then
          some (.inl (Z+(((List.length (p5 O.1 Z (List.length O.1:Int)):Int)- (1:Int))+(1:Int))))
         else none
        else none
       else none
      else
       if oT ((rW (p5 O.1 Z (List.length O.1:Int)) (10:Int))+(1:Int)) then
        if oT (Z+((rW (p5 O.1 Z (List.length O.1:Int)) (10:Int))+(1:Int))) then
         some (.inl (Z+((rW (p5 O.1 Z (List.length O.1:Int)) (10:Int))+(1:Int))))
        else none
       else none
     else
      (G4 (p5 O.1 Z (List.length O.1:Int)) ([47,42]:List UInt8)).bind fun aB=>
      if ((decide ((List.length ([47,42]:List UInt8):Int)≤(List.length (p5 O.1 Z (List.length O.1:Int)):Int)))&&(decide ((p5 (p5 O.1 Z (List.length O.1:Int)) (0:Int) (List.length ([47,42]:List UInt8):Int))=([47,42]:List UInt8))))=true then
       if 0≤(2:Int)∧(2:Int)≤(List.length (p5 O.1 Z (List.length O.1:Int)):Int)∧(List.length (p5 O.1 Z (List.length O.1:Int)):Int)≤(List.length (p5 O.1 Z (List.length O.1:Int)):Int) then
        if List.length (p5 (p5 O.1 Z (List.length O.1:Int)) (2:Int) (List.length (p5 O.1 Z (List.length O.1:Int)):Int))<4294967281 then
         if (decide ((HH (p5 (p5 O.1 Z (List.length O.1:Int)) (2:Int) (List.length (p5 O.1 Z (List.length O.1:Int)):Int)) ([42,47]:List UInt8))<(0:Int)))=true then
          some (.inr (.inr ((false,Z))))
         else
          if oT ((HH (p5 (p5 O.1 Z (List.length O.1:Int)) (2:Int) (List.length (p5 O.1 Z (List.length O.1:Int)):Int)) ([42,47]:List UInt8))+(4:Int)) then
           if oT (Z+((HH (p5 (p5 O.1 Z (List.length O.1:Int)) (2:Int) (List.length (p5 O.1 Z (List.length O.1:Int)):Int)) ([42,47]:List UInt8))+(4:Int))) then
            some (.inl (Z+((HH (p5 (p5 O.1 Z (List.length O.1:Int)) (2:Int) (List.length (p5 O.1 Z (List.length O.1:Int)):Int)) ([42,47]:List UInt8))+(4:Int))))
           else none
          else none
        else none
       else none
      else
       some (.inr (.inl Z))
   else none
  else none
 else
  some (.inr (.inl Z))
def EN (O:((List UInt8)×(Int×Unit))):Option (Bool×Int):=
 qQ (pT (CX O) O.2.1) fun Z=>
 some ((true,Z))
section
variable (O:((List UInt8)×(Int×Unit)))
@[reducible] def a0M:List Slot:=[(.val .ref (some (0,0)),none)]
@[reducible] def a0N:List Blk:=[.cells AF O []]
@[go_sem] def a0O:Ret:=⟨[((EN O)).isSome=true],[(.val .bool ((val (EN O)).1),none)],[.cells AF (O.1,((val (EN O)).2,())) []]⟩
def a9U:List Slot→List Blk→Option Ret:=pM (V:=((List UInt8)×(Int×Unit))) (fun x=>a0M) (fun x=>a0N x) fun x=>a0O x
@[go_sem] theorem aLs:a9U (no_index a0M) (no_index (a0N O))=some (a0O O):=pN (fun a0 b0 h1 h2=>by cases h1;cases h2;rfl) O
end
@[reducible,go_sem] def a9V:Nat×Sig:=(64,⟨[.p AF []],a9U,[],[],none⟩)
theorem vG:Env Tryz.prog [sE,q8,KG] (pE [KH,a8Z,a7d]):=⟨⟨sL,⟨qA,⟨TA,trivial⟩⟩⟩,oZ OC (oZ aFU (oZ aFq pP)),pH⟩
theorem aGi:pI Tryz.prog a9V:=by
 refine pO vG Tryz.func64 (c:=_) rfl (N:=73) (by kernel_rfl) (ts:=[(2,none)]) rfl (fun _ _=>rfl) ?_
 intro O hs hrow
 dsimp only[a0M,a0N,a0O,pK,enumH,pD,pG,pL,Nat.reduceAdd] at hs hrow⊢
 have hz:=hs
 obtain⟨z0,hC0⟩:=Option.isSome_iff_exists.1 hz
 try rw[pW hC0]
 clear hz hs
 unfold EN at hC0
 refine oS vG ?_
 refine aEE (p4 (aEB (oW (p4 (pU ?_)))))
 obtain⟨y1,hy1,hC0⟩:=sK hC0
 refine rI 0 (fun s=> ∃v,y1= .inl v∧s=(fun x=>⟨[],[(0,.cells AF (O.1,(x,())) [])],1,73,1⟩) v) ?_ ?_
 ·refine rH hy1 (fun x=>⟨[(0,(.val .ref (some (0,0)),none))],[(0,.cells AF (O.1,(x,())) [])],1,73,1⟩) ⟨[0],[(0,0)]⟩ (by rfl) ?_
  intro Z w1 n1 hC1 hN1
  unfold CX at hC1
  dsimp only at hC1⊢
  refine p4 ?_
  refine qR vG ?_
  refine oX hC1 (fun hC1 hc1=> ?_) (fun hC1 hc1=> ?_)
  ·refine p7 (oW (pU ?_))
   obtain⟨hg1,hC1⟩:=oU hC1
   refine qR vG ?_ (hp:=by exact hg1)
   refine pU ?_
   obtain⟨hg2,hC1⟩:=oU hC1
   refine oS vG ?_ (hp:=by exact hg2)
   refine oX hC1 (fun hC1 hc2=> ?_) (fun hC1 hc2=> ?_)
   ·obtain⟨hg3,hC1⟩:=oU hC1
    refine pF vG ?_ (hp:=by exact hg3)
    refine pB (pB ?_)
    cases hC1
    exact qG ⟨⟨[0],[(0,0)]⟩,_,by rfl,hN1⟩
   ·obtain⟨aA,hv4,hw4,hC1⟩:=p9 hC1
    try simp only[go_sem] at hw4
    refine oS vG ?_ (hp:=by exact(p8 hv4)) (h:=by simp only[go_sem,hw4];rfl)
    refine oX hC1 (fun hC1 hc3=> ?_) (fun hC1 hc3=> ?_)
    ·refine oS vG ?_
     refine p4 ?_
     refine oS vG ?_
     refine oX hC1 (fun hC1 hc4=> ?_) (fun hC1 hc4=> ?_)
     ·obtain⟨hg5,hC1⟩:=oU hC1
      refine pF vG ?_ (hp:=by exact hg5)
      refine oW ?_
      obtain⟨hg6,hC1⟩:=oU hC1
      obtain⟨hg7,hC1⟩:=oU hC1
      refine pF vG ?_ (hp:=by exact And.intro hg6 (hg7))
      refine pB (pB ?_)
      cases hC1
      exact qG ⟨⟨[0],[(0,0)]⟩,_,by rfl,hN1⟩
     ·refine p7 (oW ?_)
      obtain⟨hg8,hC1⟩:=oU hC1
      obtain⟨hg9,hC1⟩:=oU hC1
      refine pF vG ?_ (hp:=by exact And.intro hg8 (hg9))
      refine pB (pB ?_)
      cases hC1
      exact qG ⟨⟨[0],[(0,0)]⟩,_,by rfl,hN1⟩
    ·obtain⟨aB,hv10,hw10,hC1⟩:=p9 hC1
     try simp only[go_sem] at hw10
     refine oS vG ?_ (hp:=by exact(p8 hv10)) (h:=by simp only[go_sem,hw10];rfl)
     refine oX hC1 (fun hC1 hc5=> ?_) (fun hC1 hc5=> ?_)
     ·obtain⟨hg11,hC1⟩:=oU hC1
      obtain⟨hg12,hC1⟩:=oU hC1
      refine oS vG ?_ (hp:=by exact And.intro hg11 (hg12))
      refine p4 ?_
      refine oS vG ?_
      refine oX hC1 (fun hC1 hc6=> ?_) (fun hC1 hc6=> ?_)
      ·refine oS vG ?_
       refine oV (pC (pR (pR (s8 (s7 (pR (pC ?_)))))))
       cases hC1
       cases hN1
       dsimp only at hC0
       cases hC0
       exact⟨[(0,0)],by rfl,by rfl,by rfl⟩
      ·refine p7 (oW ?_)
       obtain⟨hg13,hC1⟩:=oU hC1
       obtain⟨hg14,hC1⟩:=oU hC1
       refine pF vG ?_ (hp:=by exact And.intro hg13 (hg14))
       refine pB (pB ?_)
       cases hC1
       exact qG ⟨⟨[0],[(0,0)]⟩,_,by rfl,hN1⟩
     ·refine qY (SQ (by decide) (SQ (by decide) (r5 ?_)))
      cases hC1
      cases hN1
      exact qZ ⟨⟨[],[(0,0)]⟩,_,rfl,by rfl⟩
  ·refine qY (r8 (r5 ?_))
   cases hC1
   cases hN1
   exact qZ ⟨⟨[],[(0,0)]⟩,_,rfl,by rfl⟩
 ·rintro _ ⟨aC,rfl,rfl⟩
  dsimp only at hC0⊢
  refine rF (oW ?_)
  refine oS vG ?_
  refine oV ?_
  cases hC0
  exact⟨[(0,0)],by rfl,by rfl,by rfl⟩
attribute [irreducible] EN
def CY (O:(List UInt8)):Option ((List UInt8)×Int):=
 if (decide ((List.length O:Int)<(2:Int)))=true then
  some ((([]:List UInt8),(0:Int)))
 else
  if 0≤(1:Int)∧(1:Int)<(List.length O:Int) then
   if (decide ((pA O (1:Int))=(110:Int)))=true then
    some ((([10]:List UInt8),(2:Int)))
   else
    if (decide ((pA O (1:Int))=(114:Int)))=true then
     some ((([13]:List UInt8),(2:Int)))
    else
     if (decide ((pA O (1:Int))=(116:Int)))=true then
      some ((([9]:List UInt8),(2:Int)))
     else
      (CM (pA O (1:Int)) ([92,34,61,58,35,33,123,125,32]:List UInt8)).bind fun Z=>
      if Z=true then
       if 0≤(1:Int)∧(1:Int)≤(2:Int)∧(2:Int)≤(List.length O:Int) then
        some (((p5 O (1:Int) (2:Int)),(2:Int)))
       else none
      else
       if ((decide ((pA O (1:Int))=(120:Int)))&&(decide ((4:Int)≤(List.length O:Int))))=true then
        if 0≤(2:Int)∧(2:Int)≤(4:Int)∧(4:Int)≤(List.length O:Int) then
         (BM (p5 O (2:Int) (4:Int)) (16:Int)).bind fun aA=>
         if ((decide ((0:Int)≤aA))&&(decide (aA≤(127:Int))))=true then
          some (((rB ([(IntKind.wrap .u8 aA)]:List Int)),(4:Int)))
         else
          some ((([]:List UInt8),(0:Int)))
        else none
       else
        if ((decide ((pA O (1:Int))=(117:Int)))&&(decide ((6:Int)≤(List.length O:Int))))=true then
         if 0≤(2:Int)∧(2:Int)≤(6:Int)∧(6:Int)≤(List.length O:Int) then
          (BM (p5 O (2:Int) (6:Int)) (16:Int)).bind fun aB=>
          if ((decide ((0:Int)≤aB))&&(((decide ((0:Int)≤aB))&&(decide (aB≤(1114111:Int))))&&((decide (aB<(55296:Int)))||(decide ((57343:Int)<aB)))))=true then
           (yG aB).bind fun aC=>
           some ((aC,(6:Int)))
          else
           some ((([]:List UInt8),(0:Int)))
         else none
        else
         some ((([]:List UInt8),(0:Int)))
  else none
section
variable (O:(List UInt8))
@[reducible] def a0P:List Slot:=[(.val .str O,none)]
@[reducible] def a0Q:List Blk:=[]
@[go_sem] def a0R:Ret:=⟨[((CY O)).isSome=true],[(.val .str ((val (CY O)).1),none),(.val (.int .i64) ((val (CY O)).2),none)],[]⟩
def a9W:List Slot→List Blk→Option Ret:=pM (V:=(List UInt8)) (fun x=>a0P x) (fun x=>a0Q) fun x=>a0R x
@[go_sem] theorem aLt:a9W (no_index (a0P O)) (no_index a0Q)=some (a0R O):=pN (fun a0 b0 h1 h2=>by cases h1;cases h2;rfl) O
end
@[reducible,go_sem] def a9X:Nat×Sig:=(176,⟨[.v],a9W,[],[],none⟩)
theorem tH:Env Tryz.prog [sE,zS,q8,AG] (pE [X0,a0s,KV,KW]):=⟨⟨sL,⟨BD,⟨qA,⟨CE,trivial⟩⟩⟩⟩,oZ a8y (oZ a9K (oZ OK (oZ OL pP))),pH⟩
theorem aGj:pI Tryz.prog a9X:=by
 refine pO tH Tryz.func176 (c:=_) rfl (N:=66) (by kernel_rfl) (ts:=[(2,none),(3,none)]) rfl (fun _ _=>rfl) ?_
 intro O hs hrow
 dsimp only[a0P,a0Q,a0R,pK,enumH,pD,pG,pL,Nat.reduceAdd] at hs hrow⊢
 have hz:=hs
 obtain⟨z0,hC0⟩:=Option.isSome_iff_exists.1 hz
 try rw[pW hC0]
 clear hz hs
 unfold CY at hC0
 refine oS tH ?_
 refine p4 ?_
 refine oS tH ?_
 refine oX hC0 (fun hC0 hc1=> ?_) (fun hC0 hc1=> ?_)
 ·refine oS tH ?_
  refine oV (pC ?_)
  cases hC0
  exact⟨[],by rfl,by rfl,by rfl⟩
 ·refine p7 (oW (p4 ?_))
  obtain⟨hg1,hC0⟩:=oU hC0
  refine oS tH ?_ (hp:=by exact hg1)
  refine pU ?_
  refine oS tH ?_
  refine oX hC0 (fun hC0 hc2=> ?_) (fun hC0 hc2=> ?_)
  ·refine oS tH ?_
   refine oV (pR (pC ?_))
   cases hC0
   exact⟨[],by rfl,by rfl,by rfl⟩
  ·refine oS tH ?_
   refine oX hC0 (fun hC0 hc3=> ?_) (fun hC0 hc3=> ?_)
   ·refine oS tH ?_
    refine oV (pR (pC ?_))
    cases hC0
    exact⟨[],by rfl,by rfl,by rfl⟩
   ·refine oS tH ?_
    refine oX hC0 (fun hC0 hc4=> ?_) (fun hC0 hc4=> ?_)
    ·refine oS tH ?_
     refine oV (pR (pC ?_))
     cases hC0
     exact⟨[],by rfl,by rfl,by rfl⟩
    ·obtain⟨Z,hv2,hw2,hC0⟩:=p9 hC0
     try simp only[go_sem] at hw2
     refine oS tH ?_ (hp:=by exact(p8 hv2)) (h:=by simp only[go_sem,hw2];rfl)
     refine oX hC0 (fun hC0 hc5=> ?_) (fun hC0 hc5=> ?_)
     ·obtain⟨hg3,hC0⟩:=oU hC0
      refine oS tH ?_ (hp:=by exact hg3)
      refine oV (pR (pC ?_))
      cases hC0
      exact⟨[],by rfl,by rfl,by rfl⟩
     ·refine oS tH ?_ (hp:=by exact And.intro (fun hh=>hh) (And.intro (fun hh=>hh) ((fun hh=>pY hh))))
      refine oX hC0 (fun hC0 hc6=> ?_) (fun hC0 hc6=> ?_)
      ·obtain⟨hg4,hC0⟩:=oU hC0
       obtain⟨aA,hv5,hw5,hC0⟩:=p9 hC0
       try simp only[go_sem] at hw5
       refine oS tH ?_ (hp:=by exact And.intro hg4 ((p8 hv5))) (h:=by simp only[go_sem,hw5];rfl)
       refine oS tH ?_ (hp:=by exact And.intro (fun hh=>hh) ((fun hh=>pY hh)))
       refine oX hC0 (fun hC0 hc7=> ?_) (fun hC0 hc7=> ?_)
       ·refine oS tH ?_
        refine oV (pR (pC ?_))
        cases hC0
        exact⟨[],by rfl,by rfl,by rfl⟩
       ·refine p7 (pB (oW ?_))
        refine oS tH ?_
        refine oV ?_
        cases hC0
        exact⟨[],by rfl,by rfl,by rfl⟩
      ·refine oS tH ?_ (hp:=by exact And.intro (fun hh=>hh) (And.intro (fun hh=>hh) ((fun hh=>pY hh))))
       refine oX hC0 (fun hC0 hc8=> ?_) (fun hC0 hc8=> ?_)
       ·obtain⟨hg6,hC0⟩:=oU hC0
        obtain⟨aB,hv7,hw7,hC0⟩:=p9 hC0
        try simp only[go_sem] at hw7
        refine oS tH ?_ (hp:=by exact And.intro hg6 ((p8 hv7))) (h:=by simp only[go_sem,hw7];rfl)
        refine oS tH ?_ (hp:=by exact And.intro (fun hh=>hh) ((fun hh=>pY hh)))
        refine oX hC0 (fun hC0 hc9=> ?_) (fun hC0 hc9=> ?_)
        ·obtain⟨aC,hv8,hw8,hC0⟩:=p9 hC0
         try simp only[go_sem] at hw8
         refine oS tH ?_ (hp:=by exact(p8 hv8)) (h:=by simp only[go_sem,hw8];rfl)
         refine oV (pR (pC ?_))
         cases hC0
         exact⟨[],by rfl,by rfl,by rfl⟩
        ·refine p7 (pB (oW ?_))
         refine oS tH ?_
         refine oV ?_
         cases hC0
         exact⟨[],by rfl,by rfl,by rfl⟩
       ·refine p7 (pB (oW ?_))
        refine oS tH ?_
        refine oV ?_
        cases hC0
        exact⟨[],by rfl,by rfl,by rfl⟩
attribute [irreducible] CY
def BO (O:((List Int)×Unit)) (Z:Int):Option (Int×(List Int)):=
 (EL O.1 Z).bind fun aA=>
 if oT ((List.length aA:Int)- (List.length O.1:Int)) then
  some ((((List.length aA:Int)- (List.length O.1:Int)),aA))
 else none
section
variable (O:Int) (Z:((List Int)×Unit)) (aA:Nat)
@[reducible] def a0S:List Slot:=[(.val .ref (some (0,0)),none),(.val (.int .i32) O,none)]
@[reducible] def a0T:List Blk:=[.cells vD ((some (0,0)),Z) [(1,1)],.grow 5 1 aA]
@[go_sem] def a0U:Ret:=⟨[aA=(List.length Z.1),((BO Z O)).isSome=true],[(.val (.int .i64) ((val (BO Z O)).1),none),(.any,none)],[.cells vD ((some (0,0)),((val (BO Z O)).2,())) [(1,1)],.grow 5 1 (List.length ((val (BO Z O)).2))]⟩
def a9Y:List Slot→List Blk→Option Ret:=pM (V:=(Int×((List Int)×Unit)×Nat)) (fun x=>a0S x.1) (fun x=>a0T x.2.1 x.2.2) fun x=>a0U x.1 x.2.1 x.2.2
@[go_sem] theorem aLu:a9Y (no_index (a0S O)) (no_index (a0T Z aA))=some (a0U O Z aA):=pN (fun⟨a0,a1,a2⟩ ⟨b0,b1,b2⟩ h1 h2=>by cases h1;cases h2;rfl) (O,Z,aA)
end
@[reducible,go_sem] def a9Z:Nat×Sig:=(218,⟨[.p vD [1],.v],a9Y,[],[],none⟩)
theorem I3:Env Tryz.prog [AG,FT] (pE [OD,a9O]):=⟨⟨CE,⟨KD,trivial⟩⟩,oZ TC (oZ aGe pP),pH⟩
theorem aGk:pI Tryz.prog a9Z:=by
 refine pO I3 Tryz.func218 (c:=_) rfl (N:=30) (by kernel_rfl) (ts:=[(4,none),(5,none)]) rfl (fun _ _=>rfl) ?_
 intro⟨O,Z,aA⟩ hs hrow
 dsimp only[a0S,a0T,a0U,pK,enumH,pD,pG,pL,Nat.reduceAdd] at hs hrow⊢
 obtain⟨rfl,hz⟩:=hs
 obtain⟨z0,hC0⟩:=Option.isSome_iff_exists.1 hz
 try rw[pW hC0]
 clear hz
 unfold BO at hC0
 refine oS I3 ?_
 refine oS I3 ?_ (hp:=by exact(by first|exact rfl|exact trivial))
 refine oS I3 ?_
 obtain⟨aB,hv1,hw1,hC0⟩:=p9 hC0
 try simp only[go_sem] at hw1
 refine oS I3 ?_ (hp:=by exact And.intro (by first|exact rfl|exact trivial) ((p8 hv1))) (h:=by simp only[go_sem,hw1];rfl)
 obtain⟨hg2,hC0⟩:=oU hC0
 refine oS I3 ?_ (hp:=by exact hg2)
 refine oV ?_
 cases hC0
 exact⟨[(0,0),(1,1)],by rfl,by rfl,by rfl⟩
attribute [irreducible] BO
def I4 (O:(List UInt8)):Option Unit:=
 if (((decide ((List.length O:Int)≤(4000:Int)))==true)=true→((BN O)).isSome=true) then
  some (())
 else none
section
variable (O:(List UInt8))
@[reducible] def a0V:List Slot:=[(.val .str O,none)]
@[reducible] def a0W:List Blk:=[]
@[go_sem] def a0X:Ret:=⟨[((I4 O)).isSome=true],[(.val .bool ((decide ((List.length O:Int)≤(4000:Int)))&&(val (BN O))),none)],[]⟩
def a90:List Slot→List Blk→Option Ret:=pM (V:=(List UInt8)) (fun x=>a0V x) (fun x=>a0W) fun x=>a0X x
@[go_sem] theorem aLv:a90 (no_index (a0V O)) (no_index a0W)=some (a0X O):=pN (fun a0 b0 h1 h2=>by cases h1;cases h2;rfl) O
end
@[reducible,go_sem] def a91:Nat×Sig:=(138,⟨[.v],a90,[],[],none⟩)
theorem a0Y:Env Tryz.prog [q8] (pE [a9R]):=⟨⟨qA,trivial⟩,oZ aGg pP,pH⟩
theorem aGl:pI Tryz.prog a91:=by
 refine pO a0Y Tryz.func138 (c:=_) rfl (N:=10) (by kernel_rfl) (ts:=[(2,none)]) rfl (fun _ _=>rfl) ?_
 intro O hs hrow
 dsimp only[a0V,a0W,a0X,pK,enumH,pD,pG,pL,Nat.reduceAdd] at hs hrow⊢
 have hz:=hs
 obtain⟨z0,hC0⟩:=Option.isSome_iff_exists.1 hz
 try rw[pW hC0]
 clear hz hs
 unfold I4 at hC0
 refine oS a0Y ?_
 obtain⟨hg1,hC0⟩:=oU hC0
 refine oS a0Y ?_ (hp:=by exact And.intro (fun hh=>hh) (And.intro hg1 ((fun hh=>pY hh))))
 refine oV ?_
 cases hC0
 exact⟨[],by rfl,by rfl,by rfl⟩
attribute [irreducible] I4
end
end Go.Proofs.YtfchbnahjcdiiaaGreatDoor
namespace Go.Proofs.YtfchbnahjcdiiaaGreatDoor
open Vc
set_option maxRecDepth 100000
set_option maxHeartbeats 4000000
set_option linter.unusedSimpArgs false
set_option linter.unusedVariables false
noncomputable section
def a92 (O:(List UInt8)):Int→Option (Int⊕Int):=fun Z=>
 if ((((decide (Z<(List.length O:Int)))&&(decide (Z<(12:Int))))==true)=true→0≤Z∧Z<(List.length O:Int)) then
  if (((decide (Z<(List.length O:Int)))&&(decide (Z<(12:Int))))&&(!decide ((pA O Z)=(59:Int))))=true then
   if oT (Z+(1:Int)) then
    some (.inl (Z+(1:Int)))
   else none
  else
   some (.inr Z)
 else none
def I5 (O:(List UInt8)):Option ((List UInt8)×Int):=
 qE (pT (a92 O) (0:Int)) fun Z=>
 if (((decide (Z=(List.length O:Int)))==false)=true→0≤Z∧Z<(List.length O:Int)) then
  if ((decide (Z=(List.length O:Int)))||(!decide ((pA O Z)=(59:Int))))=true then
   some ((([]:List UInt8),(0:Int)))
  else
   if 0≤(1:Int)∧(1:Int)≤Z∧Z≤(List.length O:Int) then
    if (decide ((p5 O (1:Int) Z)=([97,109,112]:List UInt8)))=true then
     if oT (Z+(1:Int)) then
      some ((([38]:List UInt8),(Z+(1:Int))))
     else none
    else
     if (decide ((p5 O (1:Int) Z)=([108,116]:List UInt8)))=true then
      if oT (Z+(1:Int)) then
       some ((([60]:List UInt8),(Z+(1:Int))))
      else none
     else
      if (decide ((p5 O (1:Int) Z)=([103,116]:List UInt8)))=true then
       if oT (Z+(1:Int)) then
        some ((([62]:List UInt8),(Z+(1:Int))))
       else none
      else
       if (decide ((p5 O (1:Int) Z)=([113,117,111,116]:List UInt8)))=true then
        if oT (Z+(1:Int)) then
         some ((([34]:List UInt8),(Z+(1:Int))))
        else none
       else
        if (decide ((p5 O (1:Int) Z)=([97,112,111,115]:List UInt8)))=true then
         if oT (Z+(1:Int)) then
          some ((([39]:List UInt8),(Z+(1:Int))))
         else none
        else
         qE (σ:=Int) (
           if ((((decide ((3:Int)≤(List.length (p5 O (1:Int) Z):Int)))&&(decide ((List.length (p5 O (1:Int) Z):Int)≤(8:Int))))==true)=true→0≤(0:Int)∧(0:Int)≤(2:Int)∧(2:Int)≤(List.length (p5 O (1:Int) Z):Int)) then
            if (((decide ((3:Int)≤(List.length (p5 O (1:Int) Z):Int)))&&(decide ((List.length (p5 O (1:Int) Z):Int)≤(8:Int))))&&(decide ((p5 (p5 O (1:Int) Z) (0:Int) (2:Int))=([35,120]:List UInt8))))=true then
             if 0≤(2:Int)∧(2:Int)≤(List.length (p5 O (1:Int) Z):Int)∧(List.length (p5 O (1:Int) Z):Int)≤(List.length (p5 O (1:Int) Z):Int) then
              (BM (p5 (p5 O (1:Int) Z) (2:Int) (List.length (p5 O (1:Int) Z):Int)) (16:Int)).bind fun aA=>
              some (aA)
             else none
            else
             if ((((decide ((2:Int)≤(List.length (p5 O (1:Int) Z):Int)))&&(decide ((List.length (p5 O (1:Int) Z):Int)≤(8:Int))))==true)=true→0≤(0:Int)∧(0:Int)≤(1:Int)∧(1:Int)≤(List.length (p5 O (1:Int) Z):Int)) then
              if (((decide ((2:Int)≤(List.length (p5 O (1:Int) Z):Int)))&&(decide ((List.length (p5 O (1:Int) Z):Int)≤(8:Int))))&&(decide ((p5 (p5 O (1:Int) Z) (0:Int) (1:Int))=([35]:List UInt8))))=true then
               if 0≤(1:Int)∧(1:Int)≤(List.length (p5 O (1:Int) Z):Int)∧(List.length (p5 O (1:Int) Z):Int)≤(List.length (p5 O (1:Int) Z):Int) then
                (BM (p5 (p5 O (1:Int) Z) (1:Int) (List.length (p5 O (1:Int) Z):Int)) (10:Int)).bind fun aB=>
                some (aB)
               else none
              else
               some ((-1:Int))
             else none
           else none
          ) fun aC=>
         if ((decide (aC<(0:Int)))||(!(((decide ((0:Int)≤aC))&&(decide (aC≤(1114111:Int))))&&((decide (aC<(55296:Int)))||(decide ((57343:Int)<aC))))))=true then
          some ((([]:List UInt8),(0:Int)))
         else
          (yG aC).bind fun aD=>
          if oT (Z+(1:Int)) then
           some ((aD,(Z+(1:Int))))
          else none
   else none
 else none
section
variable (O:(List UInt8))
@[reducible] def a0Z:List Slot:=[(.val .str O,none)]
@[reducible] def a00:List Blk:=[]
@[go_sem] def a01:Ret:=⟨[((I5 O)).isSome=true],[(.val .str ((val (I5 O)).1),none),(.val (.int .i64) ((val (I5 O)).2),none)],[]⟩
def a93:List Slot→List Blk→Option Ret:=pM (V:=(List UInt8)) (fun x=>a0Z x) (fun x=>a00) fun x=>a01 x
@[go_sem] theorem aLw:a93 (no_index (a0Z O)) (no_index a00)=some (a01 O):=pN (fun a0 b0 h1 h2=>by cases h1;cases h2;rfl) O
end
@[reducible,go_sem] def a94:Nat×Sig:=(177,⟨[.v],a93,[],[],none⟩)
theorem sS:Env Tryz.prog [q8] (pE [a0s,KV,KW]):=⟨⟨qA,trivial⟩,oZ a9K (oZ OK (oZ OL pP)),pH⟩
theorem aGm:pI Tryz.prog a94:=by
 refine pO sS Tryz.func177 (c:=_) rfl (N:=102) (by kernel_rfl) (ts:=[(2,none),(3,none)]) rfl (fun _ _=>rfl) ?_
 intro O hs hrow
 dsimp only[a0Z,a00,a01,pK,enumH,pD,pG,pL,Nat.reduceAdd] at hs hrow⊢
 have hz:=hs
 obtain⟨z0,hC0⟩:=Option.isSome_iff_exists.1 hz
 try rw[pW hC0]
 clear hz hs
 unfold I5 at hC0
 refine oS sS ?_
 refine oS sS ?_
 refine p4 (pU ?_)
 obtain⟨Z,hy1,hC0⟩:=oY hC0
 refine rI 0 (fun s=>s=(fun x=>⟨[(0,(.val .str O,none)),(4,(.val (.int .i64) x,none))],[],0,102,0⟩) Z) ?_ ?_
 ·refine rH hy1 (fun x=>⟨[(0,(.val .str O,none)),(4,(.val (.int .i64) x,none))],[],0,102,0⟩) ⟨[0,4],[]⟩ (by rfl) ?_
  intro aA w1 n1 hC1 hN1
  unfold a92 at hC1
  dsimp only at hC1⊢
  refine p4 ?_
  obtain⟨hg1,hC1⟩:=oU hC1
  refine oS sS ?_ (hp:=by exact And.intro (fun hh=>hh) (And.intro (fun hh=>pY hh) (And.intro (fun hh=>hh) (And.intro (fun hh=>hh) (And.intro hg1 (And.intro (fun hh=>hh) ((fun hh=>pY hh))))))))
  refine oX hC1 (fun hC1 hc1=> ?_) (fun hC1 hc1=> ?_)
  ·refine p7 (oW (pU ?_))
   obtain⟨hg2,hC1⟩:=oU hC1
   refine pF sS ?_ (hp:=by exact hg2)
   refine pB ?_
   cases hC1
   exact qG ⟨⟨[0,4],[]⟩,_,by rfl,hN1⟩
  ·refine qY (r8 (r5 ?_))
   cases hC1
   cases hN1
   exact qZ ⟨⟨[0,4],[]⟩,by rfl⟩
 ·rintro _ rfl
  dsimp only at hC0⊢
  refine rF (oW (p4 ?_))
  obtain⟨hg3,hC0⟩:=oU hC0
  refine oS sS ?_ (hp:=by exact And.intro (fun hh=>hh) (And.intro (fun hh=>hh) (And.intro hg3 (And.intro (fun hh=>hh) ((fun hh=>sH hh))))))
  refine oX hC0 (fun hC0 hc2=> ?_) (fun hC0 hc2=> ?_)
  ·refine oS sS ?_
   refine oV (pC ?_)
   cases hC0
   exact⟨[],by rfl,by rfl,by rfl⟩
  ·refine p7 (oW ?_)
   obtain⟨hg4,hC0⟩:=oU hC0
   refine oS sS ?_ (hp:=by exact hg4)
   refine p4 ?_
   refine oS sS ?_
   refine pU ?_
   refine oS sS ?_
   refine oX hC0 (fun hC0 hc3=> ?_) (fun hC0 hc3=> ?_)
   ·obtain⟨hg5,hC0⟩:=oU hC0
    refine oS sS ?_ (hp:=by exact hg5)
    refine oV (pR (pC ?_))
    cases hC0
    exact⟨[],by rfl,by rfl,by rfl⟩
   ·refine oS sS ?_
    refine oX hC0 (fun hC0 hc4=> ?_) (fun hC0 hc4=> ?_)
    ·obtain⟨hg6,hC0⟩:=oU hC0
     refine oS sS ?_ (hp:=by exact hg6)
     refine oV (pR (pC ?_))
     cases hC0
     exact⟨[],by rfl,by rfl,by rfl⟩
    ·refine oS sS ?_
     refine oX hC0 (fun hC0 hc5=> ?_) (fun hC0 hc5=> ?_)
     ·obtain⟨hg7,hC0⟩:=oU hC0
      refine oS sS ?_ (hp:=by exact hg7)
      refine oV (pR (pC ?_))
      cases hC0
      exact⟨[],by rfl,by rfl,by rfl⟩
     ·refine oS sS ?_
      refine oX hC0 (fun hC0 hc6=> ?_) (fun hC0 hc6=> ?_)
      ·obtain⟨hg8,hC0⟩:=oU hC0
       refine oS sS ?_ (hp:=by exact hg8)
       refine oV (pR (pC ?_))
       cases hC0
       exact⟨[],by rfl,by rfl,by rfl⟩
      ·refine oS sS ?_
       refine oX hC0 (fun hC0 hc7=> ?_) (fun hC0 hc7=> ?_)
       ·obtain⟨hg9,hC0⟩:=oU hC0
        refine oS sS ?_ (hp:=by exact hg9)
        refine oV (pR (pC ?_))
        cases hC0
        exact⟨[],by rfl,by rfl,by rfl⟩
       ·refine p7 (pB (oW ?_))
        refine oS sS ?_
        refine p4 ?_
        obtain⟨aB,hC1,hC0⟩:=oY hC0
        refine y6 (fun s=>s=(fun x=>⟨[(4,(.val (.int .i64) Z,none)),(6,(.val (.int .i64) x,none))],[],0,102,0⟩) aB) ?_ ?_
        ·refine pU ?_
         obtain⟨hg10,hC1⟩:=oU hC1
         refine oS sS ?_ (hp:=by exact And.intro (fun hh=>hh) (And.intro (fun hh=>hh) (And.intro (fun hh=>pY hh) (And.intro (fun hh=>hh) (And.intro hg10 (And.intro (fun hh=>hh) ((fun hh=>pY hh))))))))
         refine oX hC1 (fun hC1 hc8=> ?_) (fun hC1 hc8=> ?_)
         ·obtain⟨hg11,hC1⟩:=oU hC1
          obtain⟨aC,hv12,hw12,hC1⟩:=p9 hC1
          try simp only[go_sem] at hw12
          refine pF sS ?_ (hp:=by exact And.intro hg11 ((p8 hv12))) (h:=by simp only[go_sem,hw12];rfl)
          refine pB ?_
          cases hC1
          exact rL ⟨⟨[4,6],[]⟩,by rfl⟩
         ·obtain⟨hg13,hC1⟩:=oU hC1
          refine oS sS ?_ (hp:=by exact And.intro (fun hh=>hh) (And.intro (fun hh=>hh) (And.intro (fun hh=>pY hh) (And.intro (fun hh=>hh) (And.intro hg13 (And.intro (fun hh=>hh) ((fun hh=>pY hh))))))))
          refine oX hC1 (fun hC1 hc9=> ?_) (fun hC1 hc9=> ?_)
          ·obtain⟨hg14,hC1⟩:=oU hC1
           obtain⟨aD,hv15,hw15,hC1⟩:=p9 hC1
           try simp only[go_sem] at hw15
           refine pF sS ?_ (hp:=by exact And.intro hg14 ((p8 hv15))) (h:=by simp only[go_sem,hw15];rfl)
           refine pB ?_
           cases hC1
           exact rL ⟨⟨[4,6],[]⟩,by rfl⟩
          ·refine p7 (pB ?_)
           cases hC1
           exact rL ⟨⟨[4,6],[]⟩,by rfl⟩
        ·rintro _ rfl
         dsimp only at hC0⊢
         refine oW (p4 ?_)
         refine oS sS ?_ (hp:=by exact And.intro (fun hh=>hh) (And.intro (fun hh=>hh) ((fun hh=>sH hh))))
         refine oX hC0 (fun hC0 hc10=> ?_) (fun hC0 hc10=> ?_)
         ·refine oS sS ?_
          refine oV (pC ?_)
          cases hC0
          exact⟨[],by rfl,by rfl,by rfl⟩
         ·refine p7 (oW ?_)
          obtain⟨aE,hv16,hw16,hC0⟩:=p9 hC0
          try simp only[go_sem] at hw16
          obtain⟨hg17,hC0⟩:=oU hC0
          refine oS sS ?_ (hp:=by exact And.intro (p8 hv16) (hg17)) (h:=by simp only[go_sem,hw16];rfl)
          refine oV ?_
          cases hC0
          exact⟨[],by rfl,by rfl,by rfl⟩
attribute [irreducible] I5
def I6 (O:Int) (Z:(List UInt8)):((List Int)×Int)→Option (((List Int)×Int)⊕((List Int)⊕((List UInt8)×Int×Int))):=fun(aA,aB)=>
 if (decide (aB<(List.length Z:Int)))=true then
  if 0≤aB∧aB<(List.length Z:Int) then
   if oT (aB+(1:Int)) then
    if 0≤aB∧aB≤(aB+(1:Int))∧(aB+(1:Int))≤(List.length Z:Int) then
     qE (σ:=((List UInt8)×Int)) (
       if ((!decide (O=(4:Int)))&&(decide ((pA Z aB)=(92:Int))))=true then
        if 0≤aB∧aB≤(List.length Z:Int)∧(List.length Z:Int)≤(List.length Z:Int) then
         (CY (p5 Z aB (List.length Z:Int))).bind fun aC=>
         some ((aC.1,aC.2))
        else none
       else
        if ((decide (O=(4:Int)))&&(decide ((pA Z aB)=(38:Int))))=true then
         if 0≤aB∧aB≤(List.length Z:Int)∧(List.length Z:Int)≤(List.length Z:Int) then
          (I5 (p5 Z aB (List.length Z:Int))).bind fun aD=>
          some ((aD.1,aD.2))
         else none
        else
         if ((!decide (O=(4:Int)))&&(decide ((pA Z aB)=(10:Int))))=true then
          if ((!decide (O=(4:Int)))&&(decide ((pA Z aB)=(10:Int))))=true then
           some (((p5 Z aB (aB+(1:Int))),(0:Int)))
          else
           some (((p5 Z aB (aB+(1:Int))),(1:Int)))
         else
          if (((decide (O=(2:Int)))||(decide (O=(3:Int))))&&(decide ((pA Z aB)=(34:Int))))=true then
           if (((decide (O=(2:Int)))||(decide (O=(3:Int))))&&(decide ((pA Z aB)=(34:Int))))=true then
            some (((p5 Z aB (aB+(1:Int))),(0:Int)))
           else
            some (((p5 Z aB (aB+(1:Int))),(1:Int)))
          else
           if (((decide (O=(4:Int)))==true)=true→((CM (pA Z aB) ([60,34]:List UInt8))).isSome=true) then
            if ((decide (O=(4:Int)))&&(val (CM (pA Z aB) ([60,34]:List UInt8))))=true then
             some (((p5 Z aB (aB+(1:Int))),(0:Int)))
            else
             some (((p5 Z aB (aB+(1:Int))),(1:Int)))
           else none
      ) fun(aE,aF)=>
     if (decide (aF=(0:Int)))=true then
      some (.inr (.inr ((([]:List UInt8),aB,(3:Int)))))
     else
      if List.length aA+List.length aE≤140737488355328 then
       if oT (aB+aF) then
        some (.inl ((aA++s4 aE),(aB+aF)))
       else none
      else none
    else none
   else none
  else none
 else
  some (.inr (.inl aA))
def BP (O:Int) (Z:(List UInt8)):Option ((List UInt8)×Int×Int):=
 if (!((decide ((1:Int)≤O))&&(decide (O≤(4:Int)))))=true then
  some ((([]:List UInt8),(0:Int),(1:Int)))
 else
  qQ (pT (I6 O Z) (([]:List Int),(0:Int))) fun aA=>
  some (((rB aA),(0:Int),(0:Int)))
section
variable (O:Int) (Z:(List UInt8))
@[reducible] def a02:List Slot:=[(.val (.int .i64) O,none),(.val .str Z,none)]
@[reducible] def a03:List Blk:=[]
@[go_sem] def a04:Ret:=⟨[((BP O Z)).isSome=true],[(.val .str ((val (BP O Z)).1),none),(.val (.int .i64) ((val (BP O Z)).2.1),none),(.val (.int .i64) ((val (BP O Z)).2.2),none)],[]⟩
def a95:List Slot→List Blk→Option Ret:=pM (V:=(Int×(List UInt8))) (fun x=>a02 x.1 x.2) (fun x=>a03) fun x=>a04 x.1 x.2
@[go_sem] theorem aLx:a95 (no_index (a02 O Z)) (no_index a03)=some (a04 O Z):=pN (fun⟨a0,a1⟩ ⟨b0,b1⟩ h1 h2=>by cases h1;cases h2;rfl) (O,Z)
end
@[reducible,go_sem] def a96:Nat×Sig:=(137,⟨[.v,.v],a95,[],[],none⟩)
theorem tI:Env Tryz.prog [zS,q8,AG] (pE [WV,a9X,a94,X0]):=⟨⟨BD,⟨qA,⟨CE,trivial⟩⟩⟩,oZ a8w (oZ aGj (oZ aGm (oZ a8y pP))),pH⟩
theorem aGn:pI Tryz.prog a96:=by
 refine pO tI Tryz.func137 (c:=_) rfl (N:=89) (by kernel_rfl) (ts:=[(4,none),(5,none),(6,none)]) rfl (fun _ _=>rfl) ?_
 intro⟨O,Z⟩ hs hrow
 dsimp only[a02,a03,a04,pK,enumH,pD,pG,pL,Nat.reduceAdd] at hs hrow⊢
 have hz:=hs
 obtain⟨z0,hC0⟩:=Option.isSome_iff_exists.1 hz
 try rw[pW hC0]
 clear hz hs
 unfold BP at hC0
 refine oS tI ?_
 refine p4 ?_
 refine oS tI ?_
 refine oX hC0 (fun hC0 hc1=> ?_) (fun hC0 hc1=> ?_)
 ·refine oS tI ?_
  refine oV (pC ?_)
  cases hC0
  exact⟨[],by rfl,by rfl,by rfl⟩
 ·refine p7 (oW ?_)
  refine oS tI ?_
  refine oS tI ?_
  refine p4 (pU ?_)
  obtain⟨y1,hy1,hC0⟩:=sK hC0
  refine rI 0 (fun s=> ∃v,y1= .inl v∧s=(fun x=>⟨[(7,(.val (.list (.int .u8)) x,some 0))],[(0,.grow 5 1 (List.length x))],1,89,0⟩) v) ?_ ?_
  ·refine rH hy1 (fun x=>⟨[(0,(.val (.int .i64) O,none)),(1,(.val .str Z,none)),(7,(.val (.list (.int .u8)) x.1,some 0)),(8,(.val (.int .i64) x.2,none))],[(0,.grow 5 1 (List.length x.1))],1,89,0⟩) ⟨[0,1,7,8],[(0,96)]⟩ (by rfl) ?_
   intro x1 w1 n1 hC1 hN1
   obtain⟨aA,aB⟩:=x1
   unfold I6 at hC1
   dsimp only at hC1⊢
   refine p4 ?_
   refine oS tI ?_
   refine oX hC1 (fun hC1 hc2=> ?_) (fun hC1 hc2=> ?_)
   ·refine p7 (oW (pU ?_))
    obtain⟨hg1,hC1⟩:=oU hC1
    refine oS tI ?_ (hp:=by exact hg1)
    obtain⟨hg2,hC1⟩:=oU hC1
    obtain⟨hg3,hC1⟩:=oU hC1
    refine oS tI ?_ (hp:=by exact And.intro hg2 (hg3))
    refine p4 ?_
    obtain⟨y2,hC2,hC1⟩:=oY hC1
    refine y6 (fun s=>s=(fun x=>⟨[(0,(.val (.int .i64) O,none)),(1,(.val .str Z,none)),(7,(.val (.list (.int .u8)) aA,some 0)),(8,(.val (.int .i64) aB,none)),(10,(.val .str x.1,none)),(11,(.val (.int .i64) x.2,none))],[(0,.grow 5 1 (List.length aA))],1,89,0⟩) y2) ?_ ?_
    ·refine pU ?_
     refine oS tI ?_ (hp:=by exact And.intro (fun hh=>hh) ((fun hh=>pY hh)))
     refine oX hC2 (fun hC2 hc3=> ?_) (fun hC2 hc3=> ?_)
     ·obtain⟨hg4,hC2⟩:=oU hC2
      obtain⟨aC,hv5,hw5,hC2⟩:=p9 hC2
      try simp only[go_sem] at hw5
      refine pF tI ?_ (hp:=by exact And.intro hg4 ((p8 hv5))) (h:=by simp only[go_sem,hw5];rfl)
      refine pB ?_
      cases hC2
      exact rL ⟨⟨[0,1,7,8,10,11],[(0,0)]⟩,by rfl⟩
     ·refine oS tI ?_ (hp:=by exact And.intro (fun hh=>hh) ((fun hh=>pY hh)))
      refine oX hC2 (fun hC2 hc4=> ?_) (fun hC2 hc4=> ?_)
      ·obtain⟨hg6,hC2⟩:=oU hC2
       obtain⟨aD,hv7,hw7,hC2⟩:=p9 hC2
       try simp only[go_sem] at hw7
       refine pF tI ?_ (hp:=by exact And.intro hg6 ((p8 hv7))) (h:=by simp only[go_sem,hw7];rfl)
       refine pB ?_
       cases hC2
       exact rL ⟨⟨[0,1,7,8,10,11],[(0,0)]⟩,by rfl⟩
      ·refine p4 ?_
       refine oS tI ?_ (hp:=by exact And.intro (fun hh=>hh) ((fun hh=>pY hh)))
       refine oX hC2 (fun hC2 hc5=> ?_) (fun hC2 hc5=> ?_)
       ·refine p7 (oW ?_)
        refine oX hC2 (fun hC2 hc6=> ?_) (fun hC2 hc6=> ?_)
        ·refine pF tI ?_
         refine pB ?_
         cases hC2
         exact rL ⟨⟨[0,1,7,8,10,11],[(0,0)]⟩,by rfl⟩
        ·refine p7 (pB ?_)
         cases hC2
         exact rL ⟨⟨[0,1,7,8,10,11],[(0,0)]⟩,by rfl⟩
       ·refine oS tI ?_ (hp:=by exact And.intro (fun hh=>hh) (And.intro (fun hh=>sH hh) (And.intro (fun hh=>hh) ((fun hh=>pY hh)))))
        refine oX hC2 (fun hC2 hc7=> ?_) (fun hC2 hc7=> ?_)
        ·refine p7 (oW ?_)
         refine oX hC2 (fun hC2 hc8=> ?_) (fun hC2 hc8=> ?_)
         ·refine pF tI ?_
          refine pB ?_
          cases hC2
          exact rL ⟨⟨[0,1,7,8,10,11],[(0,0)]⟩,by rfl⟩
         ·refine p7 (pB ?_)
          cases hC2
          exact rL ⟨⟨[0,1,7,8,10,11],[(0,0)]⟩,by rfl⟩
        ·obtain⟨hg8,hC2⟩:=oU hC2
         refine pF tI ?_ (hp:=by exact And.intro (fun hh=>hh) (And.intro hg8 ((fun hh=>pY hh))))
         refine oW ?_
         refine oX hC2 (fun hC2 hc9=> ?_) (fun hC2 hc9=> ?_)
         ·refine pF tI ?_
          refine pB ?_
          cases hC2
          exact rL ⟨⟨[0,1,7,8,10,11],[(0,0)]⟩,by rfl⟩
         ·refine p7 (pB ?_)
          cases hC2
          exact rL ⟨⟨[0,1,7,8,10,11],[(0,0)]⟩,by rfl⟩
    ·rintro _ rfl
     obtain⟨aE,aF⟩:=y2
     dsimp only at hC1⊢
     refine oW (p4 ?_)
     refine oS tI ?_
     refine oX hC1 (fun hC1 hc10=> ?_) (fun hC1 hc10=> ?_)
     ·refine oS tI ?_
      refine oV (pC (pR (s8 (s7 (pR (pC ?_))))))
      cases hC1
      cases hN1
      dsimp only at hC0
      cases hC0
      exact⟨[],by rfl,by rfl,by rfl⟩
     ·refine p7 (oW ?_)
      obtain⟨hg9,hC1⟩:=oU hC1
      refine oS tI ?_ (hp:=by exact And.intro (by first|exact rfl|exact trivial) (hg9))
      obtain⟨hg10,hC1⟩:=oU hC1
      refine pF tI ?_ (hp:=by exact hg10)
      refine pB ?_
      cases hC1
      exact qG ⟨⟨[0,1,7,8],[(0,0)]⟩,_,by rfl,hN1⟩
   ·refine qY (r8 (r5 ?_))
    cases hC1
    cases hN1
    exact qZ ⟨⟨[7],[(0,0)]⟩,_,rfl,by rfl⟩
  ·rintro _ ⟨aG,rfl,rfl⟩
   dsimp only at hC0⊢
   refine rF (oW ?_)
   refine oS tI ?_
   refine oV ?_
   cases hC0
   exact⟨[],by rfl,by rfl,by rfl⟩
attribute [irreducible] BP
end
end Go.Proofs.YtfchbnahjcdiiaaGreatDoor
namespace Go.Proofs.YtfchbnahjcdiiaaGreatDoor
open Vc
set_option maxRecDepth 100000
set_option maxHeartbeats 4000000
set_option linter.unusedSimpArgs false
set_option linter.unusedVariables false
noncomputable section
def L7 (O:(List Int)):(Int×(List Int))→Option ((Int×(List Int))⊕(List Int)):=fun(Z,aA)=>
 if (decide (Z<(List.length O:Int)))=true then
  if 0≤Z∧Z<(List.length O:Int) then
   if (!(((decide ((0:Int)≤(qB (.int .i64) O Z)))&&(decide ((qB (.int .i64) O Z)≤(1114111:Int))))&&((decide ((qB (.int .i64) O Z)<(55296:Int)))||(decide ((57343:Int)<(qB (.int .i64) O Z))))))=true then
    (BO (aA,()) (IntKind.wrap .i32 (65533:Int))).bind fun aB=>
    if oT (Z+(1:Int)) then
     some (.inl ((Z+(1:Int)),aB.2))
    else none
   else
    (BO (aA,()) (IntKind.wrap .i32 (qB (.int .i64) O Z))).bind fun aC=>
    if oT (Z+(1:Int)) then
     some (.inl ((Z+(1:Int)),aC.2))
    else none
  else none
 else
  some (.inr aA)
def I7 (O:(List Int)):Option (List UInt8):=
 qE (pT (L7 O) ((0:Int),([]:List Int))) fun Z=>
 some ((rB Z))
section
variable (O:(List Int))
@[reducible] def a05:List Slot:=[(.val (.list (.int .i64)) O,none)]
@[reducible] def a06:List Blk:=[]
@[go_sem] def a07:Ret:=⟨[((I7 O)).isSome=true],[(.val .str (val (I7 O)),none)],[]⟩
def a97:List Slot→List Blk→Option Ret:=pM (V:=(List Int)) (fun x=>a05 x) (fun x=>a06) fun x=>a07 x
@[go_sem] theorem aLy:a97 (no_index (a05 O)) (no_index a06)=some (a07 O):=pN (fun a0 b0 h1 h2=>by cases h1;cases h2;rfl) O
end
@[reducible,go_sem] def a98:Nat×Sig:=(210,⟨[.v],a97,[],[],none⟩)
theorem zA:Env Tryz.prog [sE,HI,CI,FT] (pE [a8V,a9Z,TD]):=⟨⟨sL,⟨O5,⟨FV,⟨KD,trivial⟩⟩⟩⟩,oZ aFS (oZ aGk (oZ a7e pP)),pH⟩
theorem aGo:pI Tryz.prog a98:=by
 refine pO zA Tryz.func210 (c:=_) rfl (N:=20) (by kernel_rfl) (ts:=[(2,none)]) rfl (fun _ _=>rfl) ?_
 intro O hs hrow
 dsimp only[a05,a06,a07,pK,enumH,pD,pG,pL,Nat.reduceAdd] at hs hrow⊢
 have hz:=hs
 obtain⟨z0,hC0⟩:=Option.isSome_iff_exists.1 hz
 try rw[pW hC0]
 clear hz hs
 unfold I7 at hC0
 refine oS zA ?_
 refine oS zA ?_
 refine p4 ?_
 refine oS zA ?_
 refine pU ?_
 obtain⟨Z,hy1,hC0⟩:=oY hC0
 refine rI 0 (fun s=>s=(fun x=>⟨[(3,(.val .ref (some (0,0)),none))],[(0,.cells vD ((some (0,0)),(x,())) [(1,1)]),(1,.grow 5 1 (List.length x))],2,20,0⟩) Z) ?_ ?_
 ·refine rH hy1 (fun x=>⟨[(3,(.val .ref (some (0,0)),none)),(6,(.val (.list (.int .i64)) O,none)),(7,(.val (.int .i64) (List.length O:Int),none)),(8,(.val (.int .i64) x.1,none))],[(0,.cells vD ((some (0,0)),(x.2,())) [(1,1)]),(1,.grow 5 1 (List.length x.2))],2,20,0⟩) ⟨[3,6,7,8],[(0,16),(1,17)]⟩ (by rfl) ?_
  intro x1 w1 n1 hC1 hN1
  obtain⟨aA,aB⟩:=x1
  unfold L7 at hC1
  dsimp only at hC1⊢
  refine oS zA ?_
  refine p4 ?_
  refine oX hC1 (fun hC1 hc1=> ?_) (fun hC1 hc1=> ?_)
  ·refine p7 (oW (p4 (pU ?_)))
   obtain⟨hg1,hC1⟩:=oU hC1
   refine oS zA ?_ (hp:=by exact hg1)
   refine p4 ?_
   refine oS zA ?_
   refine oX hC1 (fun hC1 hc2=> ?_) (fun hC1 hc2=> ?_)
   ·refine pF zA ?_
    refine oW ?_
    obtain⟨aC,hv2,hw2,hC1⟩:=p9 hC1
    try simp only[go_sem] at hw2
    refine pF zA ?_ (hp:=by exact And.intro (by first|exact rfl|exact trivial) ((p8 hv2))) (h:=by simp only[go_sem,hw2];rfl)
    refine pB (oW ?_)
    obtain⟨hg3,hC1⟩:=oU hC1
    refine pF zA ?_ (hp:=by exact hg3)
    cases hC1
    exact qG ⟨⟨[3,6,7,8],[(0,0),(1,1)]⟩,_,by rfl,hN1⟩
   ·refine p7 (oW ?_)
    obtain⟨aD,hv4,hw4,hC1⟩:=p9 hC1
    try simp only[go_sem] at hw4
    refine pF zA ?_ (hp:=by exact And.intro (by first|exact rfl|exact trivial) ((p8 hv4))) (h:=by simp only[go_sem,hw4];rfl)
    refine pB (oW ?_)
    obtain⟨hg5,hC1⟩:=oU hC1
    refine pF zA ?_ (hp:=by exact hg5)
    cases hC1
    exact qG ⟨⟨[3,6,7,8],[(0,0),(1,1)]⟩,_,by rfl,hN1⟩
  ·refine qY (r8 (r5 ?_))
   cases hC1
   cases hN1
   exact qZ ⟨⟨[3],[(0,0),(1,1)]⟩,by rfl⟩
 ·rintro _ rfl
  dsimp only at hC0⊢
  refine rF (oW ?_)
  refine oS zA ?_ (hp:=by exact(by first|exact rfl|exact trivial))
  refine oV ?_
  cases hC0
  exact⟨[],by rfl,by rfl,by rfl⟩
attribute [irreducible] I7
def I8 (O:(List UInt8)):Int→Option (Int⊕Int):=fun Z=>
 if (((decide (Z<(List.length O:Int)))==true)=true→0≤Z∧Z<(List.length O:Int)) then
  if ((((decide (Z<(List.length O:Int)))==true)&&((((decide ((97:Int)≤(pA O Z)))&&(decide ((pA O Z)≤(122:Int))))||((decide ((65:Int)≤(pA O Z)))&&(decide ((pA O Z)≤(90:Int)))))==false))=true→0≤Z∧Z<(List.length O:Int)) then
   if (((((decide (Z<(List.length O:Int)))==true)&&((((decide ((97:Int)≤(pA O Z)))&&(decide ((pA O Z)≤(122:Int))))||((decide ((65:Int)≤(pA O Z)))&&(decide ((pA O Z)≤(90:Int)))))==false))&&((decide ((48:Int)≤(pA O Z)))==true))=true→0≤Z∧Z<(List.length O:Int)) then
    if ((((decide (Z<(List.length O:Int)))==true)&&(((((decide ((97:Int)≤(pA O Z)))&&(decide ((pA O Z)≤(122:Int))))||((decide ((65:Int)≤(pA O Z)))&&(decide ((pA O Z)≤(90:Int)))))||((decide ((48:Int)≤(pA O Z)))&&(decide ((pA O Z)≤(57:Int)))))==false))=true→0≤Z∧Z<(List.length O:Int)) then
     if ((((decide (Z<(List.length O:Int)))==true)&&((((((decide ((97:Int)≤(pA O Z)))&&(decide ((pA O Z)≤(122:Int))))||((decide ((65:Int)≤(pA O Z)))&&(decide ((pA O Z)≤(90:Int)))))||((decide ((48:Int)≤(pA O Z)))&&(decide ((pA O Z)≤(57:Int)))))||(decide ((pA O Z)=(45:Int))))==false))=true→0≤Z∧Z<(List.length O:Int)) then
      if ((((decide (Z<(List.length O:Int)))==true)&&(((((((decide ((97:Int)≤(pA O Z)))&&(decide ((pA O Z)≤(122:Int))))||((decide ((65:Int)≤(pA O Z)))&&(decide ((pA O Z)≤(90:Int)))))||((decide ((48:Int)≤(pA O Z)))&&(decide ((pA O Z)≤(57:Int)))))||(decide ((pA O Z)=(45:Int))))||(decide ((pA O Z)=(95:Int))))==false))=true→0≤Z∧Z<(List.length O:Int)) then
       if ((decide (Z<(List.length O:Int)))&&(((((((decide ((97:Int)≤(pA O Z)))&&(decide ((pA O Z)≤(122:Int))))||((decide ((65:Int)≤(pA O Z)))&&(decide ((pA O Z)≤(90:Int)))))||((decide ((48:Int)≤(pA O Z)))&&(decide ((pA O Z)≤(57:Int)))))||(decide ((pA O Z)=(45:Int))))||(decide ((pA O Z)=(95:Int))))||(decide ((pA O Z)=(46:Int)))))=true then
        if oT (Z+(1:Int)) then
         some (.inl (Z+(1:Int)))
        else none
       else
        some (.inr Z)
      else none
     else none
    else none
   else none
  else none
 else none
def zW (O:(List UInt8)) (Z:Int):Option (Int×(List UInt8)×Int×Int):=
 (CS O Z).bind fun aA=>
 if (decide (aA=(List.length O:Int)))=true then
  some (((0:Int),([]:List UInt8),aA,aA))
 else
  if 0≤aA∧aA<(List.length O:Int) then
   if ((decide ((pA O aA)=(123:Int)))||(decide ((pA O aA)=(125:Int))))=true then
    if oT (aA+(1:Int)) then
     if 0≤aA∧aA≤(aA+(1:Int))∧(aA+(1:Int))≤(List.length O:Int) then
      if oT (aA+(1:Int)) then
       some (((3:Int),(p5 O aA (aA+(1:Int))),aA,(aA+(1:Int))))
      else none
     else none
    else none
   else
    if (decide ((pA O aA)=(34:Int)))=true then
     if oT (aA+(1:Int)) then
      if 0≤(aA+(1:Int))∧(aA+(1:Int))≤(List.length O:Int)∧(List.length O:Int)≤(List.length O:Int) then
       (CV (3:Int) (p5 O (aA+(1:Int)) (List.length O:Int)) (34:Int)).bind fun aB=>
       if (decide (aB<(0:Int)))=true then
        some (((0:Int),([]:List UInt8),aA,aA))
       else
        if oT (aA+(1:Int)) then
         if oT (aA+(1:Int)) then
          if oT ((aA+(1:Int))+aB) then
           if 0≤(aA+(1:Int))∧(aA+(1:Int))≤((aA+(1:Int))+aB)∧((aA+(1:Int))+aB)≤(List.length O:Int) then
            (BP (3:Int) (p5 O (aA+(1:Int)) ((aA+(1:Int))+aB))).bind fun aC=>
            if (((!decide (aC.2.2=(0:Int)))==false)=true→((I4 aC.1)).isSome=true) then
             if ((!decide (aC.2.2=(0:Int)))||(!((decide ((List.length aC.1:Int)≤(4000:Int)))&&(val (BN aC.1)))))=true then
              some (((0:Int),([]:List UInt8),aA,aA))
             else
              if oT (aA+aB) then
               if oT ((aA+aB)+(2:Int)) then
                some (((1:Int),aC.1,aA,((aA+aB)+(2:Int))))
               else none
              else none
            else none
           else none
          else none
         else none
        else none
      else none
     else none
    else
     if (((decide ((97:Int)≤(pA O aA)))&&(decide ((pA O aA)≤(122:Int))))||((decide ((65:Int)≤(pA O aA)))&&(decide ((pA O aA)≤(90:Int)))))=true then
      qE (pT (I8 O) aA) fun aD=>
      if 0≤aA∧aA≤aD∧aD≤(List.length O:Int) then
       some (((2:Int),(p5 O aA aD),aA,aD))
      else none
     else
      some (((0:Int),([]:List UInt8),aA,aA))
  else none
section
variable (O:(List UInt8)) (Z:Int)
@[reducible] def a08:List Slot:=[(.val .str O,none),(.val (.int .i64) Z,none)]
@[reducible] def a09:List Blk:=[]
@[go_sem] def a1a:Ret:=⟨[((zW O Z)).isSome=true],[(.val uT ((val (zW O Z)).1,((val (zW O Z)).2.1,((val (zW O Z)).2.2.1,((val (zW O Z)).2.2.2,())))),none)],[]⟩
def a99:List Slot→List Blk→Option Ret:=pM (V:=((List UInt8)×Int)) (fun x=>a08 x.1 x.2) (fun x=>a09) fun x=>a1a x.1 x.2
@[go_sem] theorem aLz:a99 (no_index (a08 O Z)) (no_index a09)=some (a1a O Z):=pN (fun⟨a0,a1⟩ ⟨b0,b1⟩ h1 h2=>by cases h1;cases h2;rfl) (O,Z)
end
@[reducible,go_sem] def a1b:Nat×Sig:=(117,⟨[.v,.v],a99,[],[],none⟩)
theorem tT:Env Tryz.prog [q8,AJ] (pE [Z8,a9y,a96,a91,a8q]):=⟨⟨qA,⟨CH,trivial⟩⟩,oZ a9l (oZ aF8 (oZ aGn (oZ aGl (oZ aFL pP)))),pH⟩
theorem aAa:pI Tryz.prog a1b:=by
 refine pO tT Tryz.func117 (c:=_) rfl (N:=135) (by kernel_rfl) (ts:=[(4,some 134)]) rfl (fun _ _=>rfl) ?_
 intro⟨O,Z⟩ hs hrow
 dsimp only[a08,a09,a1a,pK,enumH,pD,pG,pL,Nat.reduceAdd] at hs hrow⊢
 have hz:=hs
 obtain⟨z0,hC0⟩:=Option.isSome_iff_exists.1 hz
 try rw[pW hC0]
 clear hz hs
 unfold zW at hC0
 refine oS tT ?_
 obtain⟨aA,hv1,hw1,hC0⟩:=p9 hC0
 try simp only[go_sem] at hw1
 refine oS tT ?_ (hp:=by exact(p8 hv1)) (h:=by simp only[go_sem,hw1];rfl)
 refine oS tT ?_
 refine p4 ?_
 refine oS tT ?_
 refine oX hC0 (fun hC0 hc1=> ?_) (fun hC0 hc1=> ?_)
 ·refine oS tT ?_
  refine oV (pC ?_)
  cases hC0
  exact⟨[],by rfl,by rfl,by rfl⟩
 ·refine p7 (oW (p4 ?_))
  obtain⟨hg2,hC0⟩:=oU hC0
  refine oS tT ?_ (hp:=by exact hg2)
  refine pU ?_
  refine oS tT ?_ (hp:=by exact And.intro (fun hh=>hh) ((fun hh=>sH hh)))
  refine oX hC0 (fun hC0 hc2=> ?_) (fun hC0 hc2=> ?_)
  ·obtain⟨hg3,hC0⟩:=oU hC0
   obtain⟨hg4,hC0⟩:=oU hC0
   obtain⟨hg5,hC0⟩:=oU hC0
   refine oS tT ?_ (hp:=by exact And.intro hg3 (And.intro hg4 (hg5)))
   refine oV (pR (pC ?_))
   cases hC0
   exact⟨[],by rfl,by rfl,by rfl⟩
  ·refine oS tT ?_
   refine oX hC0 (fun hC0 hc3=> ?_) (fun hC0 hc3=> ?_)
   ·obtain⟨hg6,hC0⟩:=oU hC0
    obtain⟨hg7,hC0⟩:=oU hC0
    obtain⟨aB,hv8,hw8,hC0⟩:=p9 hC0
    try simp only[go_sem] at hw8
    refine oS tT ?_ (hp:=by exact And.intro hg6 (And.intro hg7 ((p8 hv8)))) (h:=by simp only[go_sem,hw8];rfl)
    refine p4 ?_
    refine oS tT ?_
    refine oX hC0 (fun hC0 hc4=> ?_) (fun hC0 hc4=> ?_)
    ·refine oS tT ?_
     refine oV (pC (pR (pC ?_)))
     cases hC0
     exact⟨[],by rfl,by rfl,by rfl⟩
    ·refine p7 (oW ?_)
     obtain⟨hg9,hC0⟩:=oU hC0
     obtain⟨hg10,hC0⟩:=oU hC0
     obtain⟨hg11,hC0⟩:=oU hC0
     obtain⟨hg12,hC0⟩:=oU hC0
     obtain⟨aC,hv13,hw13,hC0⟩:=p9 hC0
     try simp only[go_sem] at hw13
     refine oS tT ?_ (hp:=by exact And.intro hg9 (And.intro hg10 (And.intro hg11 (And.intro hg12 ((p8 hv13)))))) (h:=by simp only[go_sem,hw13];rfl)
     refine p4 ?_
     obtain⟨hg14,hC0⟩:=oU hC0
     refine oS tT ?_ (hp:=by exact And.intro (fun hh=>hh) (And.intro hg14 (And.intro (fun hh=>hh) ((fun hh=>sH hh)))))
     refine oX hC0 (fun hC0 hc5=> ?_) (fun hC0 hc5=> ?_)
     ·refine oS tT ?_
      refine oV (pC (pR (pC ?_)))
      cases hC0
      exact⟨[],by rfl,by rfl,by rfl⟩
     ·refine p7 (oW ?_)
      obtain⟨hg15,hC0⟩:=oU hC0
      obtain⟨hg16,hC0⟩:=oU hC0
      refine oS tT ?_ (hp:=by exact And.intro hg15 (hg16))
      refine oV (pR (pC ?_))
      cases hC0
      exact⟨[],by rfl,by rfl,by rfl⟩
   ·refine oS tT ?_
    refine oX hC0 (fun hC0 hc6=> ?_) (fun hC0 hc6=> ?_)
    ·refine oS tT ?_
     refine p4 (pU ?_)
     obtain⟨aD,hy1,hC0⟩:=oY hC0
     refine rI 1 (fun s=>s=(fun x=>⟨[(0,(.val .str O,none)),(1,(.val (.int .i64) aA,none)),(4,(.val .ref (some (0,0)),none)),(11,(.val (.int .i64) x,none))],[(0,.cells uT ((0:Int),(([]:List UInt8),((0:Int),((0:Int),())))) [])],1,135,0⟩) aD) ?_ ?_
     ·refine rH hy1 (fun x=>⟨[(0,(.val .str O,none)),(1,(.val (.int .i64) aA,none)),(4,(.val .ref (some (0,0)),none)),(11,(.val (.int .i64) x,none))],[(0,.cells uT ((0:Int),(([]:List UInt8),((0:Int),((0:Int),())))) [])],1,135,0⟩) ⟨[0,1,4,11],[(0,0)]⟩ (by rfl) ?_
      intro aE w1 n1 hC1 hN1
      unfold I8 at hC1
      dsimp only at hC1⊢
      refine p4 ?_
      obtain⟨hg17,hC1⟩:=oU hC1
      obtain⟨hg18,hC1⟩:=oU hC1
      obtain⟨hg19,hC1⟩:=oU hC1
      obtain⟨hg20,hC1⟩:=oU hC1
      obtain⟨hg21,hC1⟩:=oU hC1
      obtain⟨hg22,hC1⟩:=oU hC1
      refine oS tT ?_ (hp:=by exact And.intro (fun hh=>hh) (And.intro (fun hh=>hh) (And.intro hg17 (And.intro (fun hh=>hh) (And.intro (fun hh=>hh) (And.intro (fun hh=>hh) (And.intro (fun hh=>hh) (And.intro hg18 (And.intro (fun hh=>hh) (And.intro (fun hh=>hh) (And.intro (fun hh=>hh) (And.intro (fun hh=>hh) (And.intro hg19 (And.intro (fun hh=>hh) (And.intro (fun hh=>hh) (And.intro (fun hG hh=>CD hG hh) (And.intro (fun hh=>hh) (And.intro (fun hG hh=>y7 hG hh) (And.intro (fun hh=>hh) (And.intro (fun hh=>hh) (And.intro (fun hh=>hh) (And.intro hg20 (And.intro (fun hh=>hh) (And.intro (fun hh=>hh) (And.intro (fun hG hh=>y7 hG hh) (And.intro (fun hh=>hh) (And.intro (fun hh=>hh) (And.intro (fun hh=>hh) (And.intro hg21 (And.intro (fun hh=>hh) (And.intro (fun hh=>hh) (And.intro (fun hG hh=>y7 hG hh) (And.intro (fun hh=>hh) (And.intro (fun hh=>hh) (And.intro (fun hh=>hh) (And.intro hg22 (And.intro (fun hh=>hh) (And.intro (fun hh=>hh) (And.intro (fun hG hh=>y7 hG hh) ((fun hh=>pY hh)))))))))))))))))))))))))))))))))))))))))
      refine oX hC1 (fun hC1 hc7=> ?_) (fun hC1 hc7=> ?_)
      ·refine p7 (oW (pU ?_))
       obtain⟨hg23,hC1⟩:=oU hC1
       refine pF tT ?_ (hp:=by exact hg23)
       refine pB ?_
       cases hC1
       exact qG ⟨⟨[0,1,4,11],[(0,0)]⟩,_,by rfl,hN1⟩
      ·refine qY (r8 (r5 ?_))
       cases hC1
       cases hN1
       exact qZ ⟨⟨[0,1,4,11],[(0,0)]⟩,by rfl⟩
     ·rintro _ rfl
      dsimp only at hC0⊢
      refine rF (oW ?_)
      obtain⟨hg24,hC0⟩:=oU hC0
      refine oS tT ?_ (hp:=by exact hg24)
      refine oV (pR (pC ?_))
      cases hC0
      exact⟨[],by rfl,by rfl,by rfl⟩
    ·refine p7 (pB (oW ?_))
     refine oS tT ?_
     refine oV ?_
     cases hC0
     exact⟨[],by rfl,by rfl,by rfl⟩
attribute [irreducible] zW
def EO (O:Int):Option (List UInt8):=
 (I7 ([O]:List Int)).bind fun Z=>
 some (Z)
section
variable (O:Int)
@[reducible] def a1c:List Slot:=[(.val (.int .i64) O,none)]
@[reducible] def a1d:List Blk:=[]
@[go_sem] def a1e:Ret:=⟨[((EO O)).isSome=true],[(.val .str (val (EO O)),none),(.val .bool ((decide (O≤(1114111:Int)))&&((decide (O<(55296:Int)))||(decide ((57343:Int)<O)))),none)],[]⟩
def aAb:List Slot→List Blk→Option Ret:=pM (V:=Int) (fun x=>a1c x) (fun x=>a1d) fun x=>a1e x
@[go_sem] theorem aLA:aAb (no_index (a1c O)) (no_index a1d)=some (a1e O):=pN (fun a0 b0 h1 h2=>by cases h1;cases h2;rfl) O
end
@[reducible,go_sem] def a1f:Nat×Sig:=(184,⟨[.v],aAb,[],[],none⟩)
theorem OO:Env Tryz.prog [CI] (pE [a98]):=⟨⟨FV,trivial⟩,oZ aGo pP,pH⟩
theorem aAc:pI Tryz.prog a1f:=by
 refine pO OO Tryz.func184 (c:=_) rfl (N:=19) (by kernel_rfl) (ts:=[(2,none),(3,none)]) rfl (fun _ _=>rfl) ?_
 intro O hs hrow
 dsimp only[a1c,a1d,a1e,pK,enumH,pD,pG,pL,Nat.reduceAdd] at hs hrow⊢
 have hz:=hs
 obtain⟨z0,hC0⟩:=Option.isSome_iff_exists.1 hz
 try rw[pW hC0]
 clear hz hs
 unfold EO at hC0
 refine oS OO ?_
 refine oS OO ?_ (hp:=by exact And.intro (fun hh=>hh) (And.intro (fun hh=>hh) (And.intro (fun hh=>hh) (And.intro (fun hh=>hh) (And.intro (fun hG hh=>y7 hG hh) ((fun hh=>pY hh)))))))
 obtain⟨Z,hv1,hw1,hC0⟩:=p9 hC0
 try simp only[go_sem] at hw1
 refine oS OO ?_ (hp:=by exact(p8 hv1)) (h:=by simp only[go_sem,hw1];rfl)
 refine oV ?_
 cases hC0
 exact⟨[],by rfl,by rfl,by rfl⟩
attribute [irreducible] EO
end
end Go.Proofs.YtfchbnahjcdiiaaGreatDoor
namespace Go.Proofs.YtfchbnahjcdiiaaGreatDoor
open Vc
set_option maxRecDepth 100000
set_option maxHeartbeats 4000000
set_option linter.unusedSimpArgs false
set_option linter.unusedVariables false
noncomputable section
def sU (O:tC) (Z:Int) (aA:(List UInt8)):Option (Int×Int×Int×Int×(List UInt8)×Int×Int):=
 (zW O.1 O.2.1).bind fun aB=>
 if (!decide (O.2.2.2.1=(0:Int)))=true then
  some ((O.2.1,O.2.2.1,O.2.2.2.1,aB.1,aB.2.1,aB.2.2.1,aB.2.2.2))
 else
  if ((!decide (aB.1=Z))||((!decide (aA=([]:List UInt8)))&&(!decide (aB.2.1=aA))))=true then
   q6 (tP O (aB.1,(aB.2.1,(aB.2.2.1,(aB.2.2.2,())))) (3:Int)) fun aC=>
   some ((O.2.1,aC.1,aC.2,aB.1,aB.2.1,aB.2.2.1,aB.2.2.2))
  else
   some ((aB.2.2.2,O.2.2.1,O.2.2.2.1,aB.1,aB.2.1,aB.2.2.1,aB.2.2.2))
section
variable (O:tC) (Z:Int) (aA:(List UInt8))
@[reducible] def a1g:List Slot:=[(.val s0 O,none),(.val (.int .i64) Z,none),(.val .str aA,none)]
@[reducible] def a1h:List Blk:=[]
@[go_sem] def a1i:Ret:=⟨[((sU O Z aA)).isSome=true],[(.val s0 (O.1,((val (sU O Z aA)).1,((val (sU O Z aA)).2.1,((val (sU O Z aA)).2.2.1,((O.2.2.2.2.1.1,(O.2.2.2.2.1.2.1,(O.2.2.2.2.1.2.2.1,(O.2.2.2.2.1.2.2.2.1,())))),(O.2.2.2.2.2.1,())))))),none),(.val uT ((val (sU O Z aA)).2.2.2.1,((val (sU O Z aA)).2.2.2.2.1,((val (sU O Z aA)).2.2.2.2.2.1,((val (sU O Z aA)).2.2.2.2.2.2,())))),none)],[]⟩
def aAd:List Slot→List Blk→Option Ret:=pM (V:=(tC×Int×(List UInt8))) (fun x=>a1g x.1 x.2.1 x.2.2) (fun x=>a1h) fun x=>a1i x.1 x.2.1 x.2.2
@[go_sem] theorem aLB:aAd (no_index (a1g O Z aA)) (no_index a1h)=some (a1i O Z aA):=pN (fun⟨a0,a1,a2⟩ ⟨b0,b1,b2⟩ h1 h2=>by cases h1;cases h2;rfl) (O,Z,aA)
end
@[reducible,go_sem] def GC:Nat×Sig:=(76,⟨[.v,.v,.v],aAd,[],[],none⟩)
theorem CZ:Env Tryz.prog [sE,q8,w4,AI,AJ] (pE [a1b,DZ]):=⟨⟨sL,⟨qA,⟨xI,⟨CG,⟨CH,trivial⟩⟩⟩⟩⟩,oZ aAa (oZ FX pP),pH⟩
theorem I9:pI Tryz.prog GC:=by
 refine pO CZ Tryz.func76 (c:=_) rfl (N:=42) (by kernel_rfl) (ts:=[(6,some 91),(7,some 134)]) rfl (fun _ _=>rfl) ?_
 intro⟨O,Z,aA⟩ hs hrow
 dsimp only[a1g,a1h,a1i,pK,enumH,pD,pG,pL,Nat.reduceAdd] at hs hrow⊢
 have hz:=hs
 obtain⟨z0,hC0⟩:=Option.isSome_iff_exists.1 hz
 try rw[pW hC0]
 clear hz hs
 unfold sU at hC0
 refine oS CZ ?_
 obtain⟨aB,hv1,hw1,hC0⟩:=p9 hC0
 try simp only[go_sem] at hw1
 refine oS CZ ?_ (hp:=by exact(p8 hv1)) (h:=by simp only[go_sem,hw1];rfl)
 refine p4 ?_
 refine oS CZ ?_
 refine oX hC0 (fun hC0 hc1=> ?_) (fun hC0 hc1=> ?_)
 ·refine qR CZ ?_
  refine oV (pC ?_)
  cases hC0
  exact⟨[],by rfl,by rfl,by rfl⟩
 ·refine p7 (oW (p4 ?_))
  refine oS CZ ?_ (hp:=by exact And.intro (fun hh=>hh) (And.intro (fun hh=>hh) (And.intro (fun hh=>hh) (And.intro (fun hh=>hh) (And.intro (fun hh=>hh) (And.intro (fun hh=>hh) (And.intro (fun hG hh=>CD hG hh) ((fun hh=>sH hh)))))))))
  refine oX hC0 (fun hC0 hc2=> ?_) (fun hC0 hc2=> ?_)
  ·obtain⟨aC,hw_14,hC0⟩:=rJ hC0
   try simp only[go_sem] at hw_14
   refine qR CZ ?_ (h:=by simp only[go_sem,hw_14];rfl)
   refine oV (pC ?_)
   cases hC0
   exact⟨[],by rfl,by rfl,by rfl⟩
  ·refine p7 (oW ?_)
   refine oS CZ ?_
   refine qR CZ ?_
   refine oV ?_
   cases hC0
   exact⟨[],by rfl,by rfl,by rfl⟩
attribute [irreducible] sU
def D0 (O:(List UInt8)):Option ((List UInt8)×Int):=
 if (decide ((List.length O:Int)<(2:Int)))=true then
  some ((([]:List UInt8),(0:Int)))
 else
  if 0≤(1:Int)∧(1:Int)<(List.length O:Int) then
   if (decide ((pA O (1:Int))=(110:Int)))=true then
    some ((([10]:List UInt8),(2:Int)))
   else
    if (decide ((pA O (1:Int))=(114:Int)))=true then
     some ((([13]:List UInt8),(2:Int)))
    else
     if (decide ((pA O (1:Int))=(116:Int)))=true then
      some ((([9]:List UInt8),(2:Int)))
     else
      if (decide ((pA O (1:Int))=(120:Int)))=true then
       if (decide ((4:Int)≤(List.length O:Int)))=true then
        if 0≤(2:Int)∧(2:Int)≤(4:Int)∧(4:Int)≤(List.length O:Int) then
         (BK (p5 O (2:Int) (4:Int)) (16:Int)).bind fun Z=>
         if (Z.2&&(decide (Z.1≤(127:Int))))=true then
          some (((rB ([(IntKind.wrap .u8 Z.1)]:List Int)),(4:Int)))
         else
          some ((([]:List UInt8),(0:Int)))
        else none
       else
        some ((([]:List UInt8),(0:Int)))
      else
       if (decide ((pA O (1:Int))=(117:Int)))=true then
        if (decide ((6:Int)≤(List.length O:Int)))=true then
         if 0≤(2:Int)∧(2:Int)≤(6:Int)∧(6:Int)≤(List.length O:Int) then
          (BK (p5 O (2:Int) (6:Int)) (16:Int)).bind fun aA=>
          if aA.2=true then
           (EO aA.1).bind fun aB=>
           if ((decide (aA.1≤(1114111:Int)))&&((decide (aA.1<(55296:Int)))||(decide ((57343:Int)<aA.1))))=true then
            some ((aB,(6:Int)))
           else
            some ((([]:List UInt8),(0:Int)))
          else
           some ((([]:List UInt8),(0:Int)))
         else none
        else
         some ((([]:List UInt8),(0:Int)))
       else
        if (decide ((0:Int)≤(rW ([92,34,61,58,35,33,123,125,32]:List UInt8) (pA O (1:Int)))))=true then
         if 0≤(1:Int)∧(1:Int)≤(2:Int)∧(2:Int)≤(List.length O:Int) then
          some (((p5 O (1:Int) (2:Int)),(2:Int)))
         else none
        else
         some ((([]:List UInt8),(0:Int)))
  else none
section
variable (O:(List UInt8))
@[reducible] def a1j:List Slot:=[(.val .str O,none)]
@[reducible] def a1k:List Blk:=[]
@[go_sem] def a1l:Ret:=⟨[((D0 O)).isSome=true],[(.val .str ((val (D0 O)).1),none),(.val (.int .i64) ((val (D0 O)).2),none)],[]⟩
def aAe:List Slot→List Blk→Option Ret:=pM (V:=(List UInt8)) (fun x=>a1j x) (fun x=>a1k) fun x=>a1l x
@[go_sem] theorem aLC:aAe (no_index (a1j O)) (no_index a1k)=some (a1l O):=pN (fun a0 b0 h1 h2=>by cases h1;cases h2;rfl) O
end
@[reducible,go_sem] def aAf:Nat×Sig:=(142,⟨[.v],aAe,[],[],none⟩)
theorem sA:Env Tryz.prog [sE,zS,q8,AG] (pE [X4,a1f,KH]):=⟨⟨sL,⟨BD,⟨qA,⟨CE,trivial⟩⟩⟩⟩,oZ a8A (oZ aAc (oZ OC pP)),pH⟩
theorem aGp:pI Tryz.prog aAf:=by
 refine pO sA Tryz.func142 (c:=_) rfl (N:=67) (by kernel_rfl) (ts:=[(2,none),(3,none)]) rfl (fun _ _=>rfl) ?_
 intro O hs hrow
 dsimp only[a1j,a1k,a1l,pK,enumH,pD,pG,pL,Nat.reduceAdd] at hs hrow⊢
 have hz:=hs
 obtain⟨z0,hC0⟩:=Option.isSome_iff_exists.1 hz
 try rw[pW hC0]
 clear hz hs
 unfold D0 at hC0
 refine oS sA ?_
 refine p4 ?_
 refine oS sA ?_
 refine oX hC0 (fun hC0 hc1=> ?_) (fun hC0 hc1=> ?_)
 ·refine oS sA ?_
  refine oV (pC ?_)
  cases hC0
  exact⟨[],by rfl,by rfl,by rfl⟩
 ·refine p7 (oW (p4 ?_))
  obtain⟨hg1,hC0⟩:=oU hC0
  refine oS sA ?_ (hp:=by exact hg1)
  refine oS sA ?_
  refine pU ?_
  refine oS sA ?_
  refine oX hC0 (fun hC0 hc2=> ?_) (fun hC0 hc2=> ?_)
  ·refine oS sA ?_
   refine oV (pR (pC ?_))
   cases hC0
   exact⟨[],by rfl,by rfl,by rfl⟩
  ·refine oS sA ?_
   refine oX hC0 (fun hC0 hc3=> ?_) (fun hC0 hc3=> ?_)
   ·refine oS sA ?_
    refine oV (pR (pC ?_))
    cases hC0
    exact⟨[],by rfl,by rfl,by rfl⟩
   ·refine oS sA ?_
    refine oX hC0 (fun hC0 hc4=> ?_) (fun hC0 hc4=> ?_)
    ·refine oS sA ?_
     refine oV (pR (pC ?_))
     cases hC0
     exact⟨[],by rfl,by rfl,by rfl⟩
    ·refine oS sA ?_
     refine oX hC0 (fun hC0 hc5=> ?_) (fun hC0 hc5=> ?_)
     ·refine oS sA ?_
      refine oX hC0 (fun hC0 hc6=> ?_) (fun hC0 hc6=> ?_)
      ·obtain⟨hg2,hC0⟩:=oU hC0
       obtain⟨Z,hv3,hw3,hC0⟩:=p9 hC0
       try simp only[go_sem] at hw3
       refine oS sA ?_ (hp:=by exact And.intro hg2 ((p8 hv3))) (h:=by simp only[go_sem,hw3];rfl)
       refine oS sA ?_ (hp:=by exact And.intro (fun hh=>hh) ((fun hh=>pY hh)))
       refine oX hC0 (fun hC0 hc7=> ?_) (fun hC0 hc7=> ?_)
       ·refine oS sA ?_
        refine oV (pR (pC ?_))
        cases hC0
        exact⟨[],by rfl,by rfl,by rfl⟩
       ·refine p7 (pB (oW ?_))
        refine oS sA ?_
        refine oV ?_
        cases hC0
        exact⟨[],by rfl,by rfl,by rfl⟩
      ·refine p7 (pB (oW ?_))
       refine oS sA ?_
       refine oV ?_
       cases hC0
       exact⟨[],by rfl,by rfl,by rfl⟩
     ·refine oS sA ?_
      refine oX hC0 (fun hC0 hc8=> ?_) (fun hC0 hc8=> ?_)
      ·refine oS sA ?_
       refine oX hC0 (fun hC0 hc9=> ?_) (fun hC0 hc9=> ?_)
       ·obtain⟨hg4,hC0⟩:=oU hC0
        obtain⟨aA,hv5,hw5,hC0⟩:=p9 hC0
        try simp only[go_sem] at hw5
        refine oS sA ?_ (hp:=by exact And.intro hg4 ((p8 hv5))) (h:=by simp only[go_sem,hw5];rfl)
        refine oS sA ?_
        refine oX hC0 (fun hC0 hc10=> ?_) (fun hC0 hc10=> ?_)
        ·obtain⟨aB,hv6,hw6,hC0⟩:=p9 hC0
         try simp only[go_sem] at hw6
         refine oS sA ?_ (hp:=by exact(p8 hv6)) (h:=by simp only[go_sem,hw6];rfl)
         refine oS sA ?_
         refine oX hC0 (fun hC0 hc11=> ?_) (fun hC0 hc11=> ?_)
         ·refine oS sA ?_
          refine oV (pR (pC ?_))
          cases hC0
          exact⟨[],by rfl,by rfl,by rfl⟩
         ·refine p7 (pB (oW ?_))
          refine oS sA ?_
          refine oV ?_
          cases hC0
          exact⟨[],by rfl,by rfl,by rfl⟩
        ·refine p7 (pB (oW ?_))
         refine oS sA ?_
         refine oV ?_
         cases hC0
         exact⟨[],by rfl,by rfl,by rfl⟩
       ·refine p7 (pB (oW ?_))
        refine oS sA ?_
        refine oV ?_
        cases hC0
        exact⟨[],by rfl,by rfl,by rfl⟩
      ·refine oS sA ?_
       refine oX hC0 (fun hC0 hc12=> ?_) (fun hC0 hc12=> ?_)
       ·obtain⟨hg7,hC0⟩:=oU hC0
        refine oS sA ?_ (hp:=by exact hg7)
        refine oV (pR (pC ?_))
        cases hC0
        exact⟨[],by rfl,by rfl,by rfl⟩
       ·refine p7 (pB (oW ?_))
        refine oS sA ?_
        refine oV ?_
        cases hC0
        exact⟨[],by rfl,by rfl,by rfl⟩
attribute [irreducible] D0
def IA (O:(List UInt8)):Option ((List UInt8)×Int):=
 if (decide ((rW O (59:Int))<(0:Int)))=true then
  some ((([]:List UInt8),(0:Int)))
 else
  if 0≤(1:Int)∧(1:Int)≤(rW O (59:Int))∧(rW O (59:Int))≤(List.length O:Int) then
   if (decide ((p5 O (1:Int) (rW O (59:Int)))=([97,109,112]:List UInt8)))=true then
    if oT ((rW O (59:Int))+(1:Int)) then
     some ((([38]:List UInt8),((rW O (59:Int))+(1:Int))))
    else none
   else
    if (decide ((p5 O (1:Int) (rW O (59:Int)))=([108,116]:List UInt8)))=true then
     if oT ((rW O (59:Int))+(1:Int)) then
      some ((([60]:List UInt8),((rW O (59:Int))+(1:Int))))
     else none
    else
     if (decide ((p5 O (1:Int) (rW O (59:Int)))=([103,116]:List UInt8)))=true then
      if oT ((rW O (59:Int))+(1:Int)) then
       some ((([62]:List UInt8),((rW O (59:Int))+(1:Int))))
      else none
     else
      if (decide ((p5 O (1:Int) (rW O (59:Int)))=([113,117,111,116]:List UInt8)))=true then
       if oT ((rW O (59:Int))+(1:Int)) then
        some ((([34]:List UInt8),((rW O (59:Int))+(1:Int))))
       else none
      else
       if (decide ((p5 O (1:Int) (rW O (59:Int)))=([97,112,111,115]:List UInt8)))=true then
        if oT ((rW O (59:Int))+(1:Int)) then
         some ((([39]:List UInt8),((rW O (59:Int))+(1:Int))))
        else none
       else
        (G7 (p5 O (1:Int) (rW O (59:Int))) ([35]:List UInt8)).bind fun Z=>
        if (!Z.2)=true then
         some ((([]:List UInt8),(0:Int)))
        else
         (G7 Z.1 ([120]:List UInt8)).bind fun aA=>
         qE (σ:=((List UInt8)×Int×Int)) (
           if aA.2=true then
            some ((aA.1,(16:Int),(6:Int)))
           else
            some ((Z.1,(10:Int),(7:Int)))
          ) fun(aB,aC,aD)=>
         (BK aB aC).bind fun aE=>
         if ((!aE.2)||(decide (aD<(List.length aB:Int))))=true then
          some ((([]:List UInt8),(0:Int)))
         else
          (EO aE.1).bind fun aF=>
          if (!((decide (aE.1≤(1114111:Int)))&&((decide (aE.1<(55296:Int)))||(decide ((57343:Int)<aE.1)))))=true then
           some ((([]:List UInt8),(0:Int)))
          else
           if oT ((rW O (59:Int))+(1:Int)) then
            some ((aF,((rW O (59:Int))+(1:Int))))
           else none
  else none
section
variable (O:(List UInt8))
@[reducible] def a1m:List Slot:=[(.val .str O,none)]
@[reducible] def a1n:List Blk:=[]
@[go_sem] def a1o:Ret:=⟨[((IA O)).isSome=true],[(.val .str ((val (IA O)).1),none),(.val (.int .i64) ((val (IA O)).2),none)],[]⟩
def aAg:List Slot→List Blk→Option Ret:=pM (V:=(List UInt8)) (fun x=>a1m x) (fun x=>a1n) fun x=>a1o x
@[go_sem] theorem aLD:aAg (no_index (a1m O)) (no_index a1n)=some (a1o O):=pN (fun a0 b0 h1 h2=>by cases h1;cases h2;rfl) O
end
@[reducible,go_sem] def aAh:Nat×Sig:=(143,⟨[.v],aAg,[],[],none⟩)
theorem sF:Env Tryz.prog [q8] (pE [KH,a9j,X4,a1f]):=⟨⟨qA,trivial⟩,oZ OC (oZ aF4 (oZ a8A (oZ aAc pP))),pH⟩
theorem aGq:pI Tryz.prog aAh:=by
 refine pO sF Tryz.func143 (c:=_) rfl (N:=80) (by kernel_rfl) (ts:=[(2,none),(3,none)]) rfl (fun _ _=>rfl) ?_
 intro O hs hrow
 dsimp only[a1m,a1n,a1o,pK,enumH,pD,pG,pL,Nat.reduceAdd] at hs hrow⊢
 have hz:=hs
 obtain⟨z0,hC0⟩:=Option.isSome_iff_exists.1 hz
 try rw[pW hC0]
 clear hz hs
 unfold IA at hC0
 refine oS sF ?_
 refine oS sF ?_
 refine p4 ?_
 refine oS sF ?_
 refine oX hC0 (fun hC0 hc1=> ?_) (fun hC0 hc1=> ?_)
 ·refine oS sF ?_
  refine oV (pC ?_)
  cases hC0
  exact⟨[],by rfl,by rfl,by rfl⟩
 ·refine p7 (oW ?_)
  obtain⟨hg1,hC0⟩:=oU hC0
  refine oS sF ?_ (hp:=by exact hg1)
  refine p4 ?_
  refine oS sF ?_
  refine pU ?_
  refine oS sF ?_
  refine oX hC0 (fun hC0 hc2=> ?_) (fun hC0 hc2=> ?_)
  ·obtain⟨hg2,hC0⟩:=oU hC0
   refine oS sF ?_ (hp:=by exact hg2)
   refine oV (pR (pC ?_))
   cases hC0
   exact⟨[],by rfl,by rfl,by rfl⟩
  ·refine oS sF ?_
   refine oX hC0 (fun hC0 hc3=> ?_) (fun hC0 hc3=> ?_)
   ·obtain⟨hg3,hC0⟩:=oU hC0
    refine oS sF ?_ (hp:=by exact hg3)
    refine oV (pR (pC ?_))
    cases hC0
    exact⟨[],by rfl,by rfl,by rfl⟩
   ·refine oS sF ?_
    refine oX hC0 (fun hC0 hc4=> ?_) (fun hC0 hc4=> ?_)
    ·obtain⟨hg4,hC0⟩:=oU hC0
     refine oS sF ?_ (hp:=by exact hg4)
     refine oV (pR (pC ?_))
     cases hC0
     exact⟨[],by rfl,by rfl,by rfl⟩
    ·refine oS sF ?_
     refine oX hC0 (fun hC0 hc5=> ?_) (fun hC0 hc5=> ?_)
     ·obtain⟨hg5,hC0⟩:=oU hC0
      refine oS sF ?_ (hp:=by exact hg5)
      refine oV (pR (pC ?_))
      cases hC0
      exact⟨[],by rfl,by rfl,by rfl⟩
     ·refine oS sF ?_
      refine oX hC0 (fun hC0 hc6=> ?_) (fun hC0 hc6=> ?_)
      ·obtain⟨hg6,hC0⟩:=oU hC0
       refine oS sF ?_ (hp:=by exact hg6)
       refine oV (pR (pC ?_))
       cases hC0
       exact⟨[],by rfl,by rfl,by rfl⟩
      ·refine p7 (pB (oW ?_))
       obtain⟨Z,hv7,hw7,hC0⟩:=p9 hC0
       try simp only[go_sem] at hw7
       refine oS sF ?_ (hp:=by exact(p8 hv7)) (h:=by simp only[go_sem,hw7];rfl)
       refine p4 ?_
       refine oS sF ?_
       refine oX hC0 (fun hC0 hc7=> ?_) (fun hC0 hc7=> ?_)
       ·refine oS sF ?_
        refine oV (pC ?_)
        cases hC0
        exact⟨[],by rfl,by rfl,by rfl⟩
       ·refine p7 (oW ?_)
        refine oS sF ?_
        refine p4 ?_
        obtain⟨aA,hv8,hw8,hC0⟩:=p9 hC0
        try simp only[go_sem] at hw8
        refine oS sF ?_ (hp:=by exact(p8 hv8)) (h:=by simp only[go_sem,hw8];rfl)
        refine oS sF ?_
        obtain⟨y1,hC1,hC0⟩:=oY hC0
        refine y6 (fun s=>s=(fun x=>⟨[(4,(.val (.int .i64) (rW O (59:Int)),none)),(6,(.val .str x.1,none)),(8,(.val (.int .i64) x.2.1,none)),(9,(.val (.int .i64) x.2.2,none))],[],0,80,0⟩) y1) ?_ ?_
        ·refine oX hC1 (fun hC1 hc8=> ?_) (fun hC1 hc8=> ?_)
         ·refine pF sF ?_
          cases hC1
          exact rL ⟨⟨[4,6,8,9],[]⟩,by rfl⟩
         ·refine p7 ?_
          cases hC1
          exact rL ⟨⟨[4,6,8,9],[]⟩,by rfl⟩
        ·rintro _ rfl
         obtain⟨aB,aC,aD⟩:=y1
         dsimp only at hC0⊢
         refine oW ?_
         obtain⟨aE,hv9,hw9,hC0⟩:=p9 hC0
         try simp only[go_sem] at hw9
         refine oS sF ?_ (hp:=by exact(p8 hv9)) (h:=by simp only[go_sem,hw9];rfl)
         refine p4 ?_
         refine oS sF ?_ (hp:=by exact And.intro (fun hh=>hh) (And.intro (fun hh=>hh) (And.intro (fun hh=>hh) ((fun hh=>sH hh)))))
         refine oX hC0 (fun hC0 hc9=> ?_) (fun hC0 hc9=> ?_)
         ·refine oS sF ?_
          refine oV (pC ?_)
          cases hC0
          exact⟨[],by rfl,by rfl,by rfl⟩
         ·refine p7 (oW ?_)
          obtain⟨aF,hv10,hw10,hC0⟩:=p9 hC0
          try simp only[go_sem] at hw10
          refine oS sF ?_ (hp:=by exact(p8 hv10)) (h:=by simp only[go_sem,hw10];rfl)
          refine p4 ?_
          refine oS sF ?_
          refine oX hC0 (fun hC0 hc10=> ?_) (fun hC0 hc10=> ?_)
          ·refine oS sF ?_
           refine oV (pC ?_)
           cases hC0
           exact⟨[],by rfl,by rfl,by rfl⟩
          ·refine p7 (oW ?_)
           obtain⟨hg11,hC0⟩:=oU hC0
           refine oS sF ?_ (hp:=by exact hg11)
           refine oV ?_
           cases hC0
           exact⟨[],by rfl,by rfl,by rfl⟩
attribute [irreducible] IA
end
end Go.Proofs.YtfchbnahjcdiiaaGreatDoor
namespace Go.Proofs.YtfchbnahjcdiiaaGreatDoor
open Vc
set_option maxRecDepth 100000
set_option maxHeartbeats 4000000
set_option linter.unusedSimpArgs false
set_option linter.unusedVariables false
noncomputable section
def BQ (O:tC) (Z:pX):Option (Int×Int×Int×(List p6)):=
 (sU O (1:Int) ([]:List UInt8)).bind fun aA=>
 if (!decide (aA.2.2.1=(0:Int)))=true then
  some ((aA.1,aA.2.1,aA.2.2.1,Z.2.2.2.2.2.2.1))
 else
  (E3 Z.2.2.2.2.2.2.1 aA.2.2.2.2.1).bind fun aB=>
  (EG aA.2.2.2.2.1).bind fun aC=>
  if (!aC)=true then
   q6 (tP (O.1,(aA.1,(aA.2.1,(aA.2.2.1,((O.2.2.2.2.1.1,(O.2.2.2.2.1.2.1,(O.2.2.2.2.1.2.2.1,(O.2.2.2.2.1.2.2.2.1,())))),(O.2.2.2.2.2.1,())))))) (aA.2.2.2.1,(aA.2.2.2.2.1,(aA.2.2.2.2.2.1,(aA.2.2.2.2.2.2,())))) (3:Int)) fun aD=>
   some ((aA.1,aD.1,aD.2,Z.2.2.2.2.2.2.1))
  else
   if aB.2=true then
    q6 (tP (O.1,(aA.1,(aA.2.1,(aA.2.2.1,((O.2.2.2.2.1.1,(O.2.2.2.2.1.2.1,(O.2.2.2.2.1.2.2.1,(O.2.2.2.2.1.2.2.2.1,())))),(O.2.2.2.2.2.1,())))))) (aA.2.2.2.1,(aA.2.2.2.2.1,(aA.2.2.2.2.2.1,(aA.2.2.2.2.2.2,())))) (9:Int)) fun aE=>
    some ((aA.1,aE.1,aE.2,Z.2.2.2.2.2.2.1))
   else
    if (decide ((20:Int)≤(List.length Z.2.2.2.2.2.2.1:Int)))=true then
     q6 (tP (O.1,(aA.1,(aA.2.1,(aA.2.2.1,((O.2.2.2.2.1.1,(O.2.2.2.2.1.2.1,(O.2.2.2.2.1.2.2.1,(O.2.2.2.2.1.2.2.2.1,())))),(O.2.2.2.2.2.1,())))))) (aA.2.2.2.1,(aA.2.2.2.2.1,(aA.2.2.2.2.2.1,(aA.2.2.2.2.2.2,())))) (6:Int)) fun aF=>
     some ((aA.1,aF.1,aF.2,Z.2.2.2.2.2.2.1))
    else
     (sU (O.1,(aA.1,(aA.2.1,(aA.2.2.1,((O.2.2.2.2.1.1,(O.2.2.2.2.1.2.1,(O.2.2.2.2.1.2.2.1,(O.2.2.2.2.1.2.2.2.1,())))),(O.2.2.2.2.2.1,())))))) (1:Int) ([]:List UInt8)).bind fun aG=>
     (E6 Z.2.2.2.2.2.2.1 aA.2.2.2.2.1 aG.2.2.2.2.1).bind fun aH=>
     some ((aG.1,aG.2.1,aG.2.2.1,aH))
section
variable (O:tC) (Z:pX)
@[reducible] def a1p:List Slot:=[(.val s0 O,none),(.val qH Z,none)]
@[reducible] def a1q:List Blk:=[]
@[go_sem] def a1r:Ret:=⟨[((BQ O Z)).isSome=true],[(.val s0 (O.1,((val (BQ O Z)).1,((val (BQ O Z)).2.1,((val (BQ O Z)).2.2.1,((O.2.2.2.2.1.1,(O.2.2.2.2.1.2.1,(O.2.2.2.2.1.2.2.1,(O.2.2.2.2.1.2.2.2.1,())))),(O.2.2.2.2.2.1,())))))),none),(.val qH (Z.1,(Z.2.1,(Z.2.2.1,(Z.2.2.2.1,(Z.2.2.2.2.1,(Z.2.2.2.2.2.1,((val (BQ O Z)).2.2.2,()))))))),none)],[]⟩
def aAi:List Slot→List Blk→Option Ret:=pM (V:=(tC×pX)) (fun x=>a1p x.1 x.2) (fun x=>a1q) fun x=>a1r x.1 x.2
@[go_sem] theorem aLE:aAi (no_index (a1p O Z)) (no_index a1q)=some (a1r O Z):=pN (fun⟨a0,a1⟩ ⟨b0,b1⟩ h1 h2=>by cases h1;cases h2;rfl) (O,Z)
end
@[reducible,go_sem] def aAj:Nat×Sig:=(154,⟨[.v,.v],aAi,[],[],none⟩)
theorem xJ:Env Tryz.prog [q8,yA,w4,xH,AI,AJ] (pE [GC,a7O,ZI,DZ,a7T]):=⟨⟨qA,⟨zR,⟨xI,⟨yW,⟨CG,⟨CH,trivial⟩⟩⟩⟩⟩⟩,oZ I9 (oZ aFC (oZ a9s (oZ FX (oZ aFE pP)))),pH⟩
theorem aGr:pI Tryz.prog aAj:=by
 refine pO xJ Tryz.func154 (c:=_) rfl (N:=67) (by kernel_rfl) (ts:=[(4,some 91),(5,some 52)]) rfl (fun _ _=>rfl) ?_
 intro⟨O,Z⟩ hs hrow
 dsimp only[a1p,a1q,a1r,pK,enumH,pD,pG,pL,Nat.reduceAdd] at hs hrow⊢
 have hz:=hs
 obtain⟨z0,hC0⟩:=Option.isSome_iff_exists.1 hz
 try rw[pW hC0]
 clear hz hs
 unfold BQ at hC0
 refine oS xJ ?_
 obtain⟨aA,hv1,hw1,hC0⟩:=p9 hC0
 try simp only[go_sem] at hw1
 refine oS xJ ?_ (hp:=by exact(p8 hv1)) (h:=by simp only[go_sem,hw1];rfl)
 refine p4 ?_
 refine oS xJ ?_
 refine oX hC0 (fun hC0 hc1=> ?_) (fun hC0 hc1=> ?_)
 ·refine qR xJ ?_
  refine oV (pC ?_)
  cases hC0
  exact⟨[],by rfl,by rfl,by rfl⟩
 ·refine p7 (oW ?_)
  obtain⟨aB,hv2,hw2,hC0⟩:=p9 hC0
  try simp only[go_sem] at hw2
  refine oS xJ ?_ (hp:=by exact(p8 hv2)) (h:=by simp only[go_sem,hw2];rfl)
  refine p4 (pU ?_)
  obtain⟨aC,hv3,hw3,hC0⟩:=p9 hC0
  try simp only[go_sem] at hw3
  refine oS xJ ?_ (hp:=by exact(p8 hv3)) (h:=by simp only[go_sem,hw3];rfl)
  refine oX hC0 (fun hC0 hc2=> ?_) (fun hC0 hc2=> ?_)
  ·obtain⟨aD,hw_35,hC0⟩:=rJ hC0
   try simp only[go_sem] at hw_35
   refine qR xJ ?_ (h:=by simp only[go_sem,hw_35];rfl)
   refine oV (pR (pC ?_))
   cases hC0
   exact⟨[],by rfl,by rfl,by rfl⟩
  ·refine oS xJ ?_
   refine oX hC0 (fun hC0 hc3=> ?_) (fun hC0 hc3=> ?_)
   ·obtain⟨aE,hw_38,hC0⟩:=rJ hC0
    try simp only[go_sem] at hw_38
    refine qR xJ ?_ (h:=by simp only[go_sem,hw_38];rfl)
    refine oV (pR (pC ?_))
    cases hC0
    exact⟨[],by rfl,by rfl,by rfl⟩
   ·refine oS xJ ?_
    refine oX hC0 (fun hC0 hc4=> ?_) (fun hC0 hc4=> ?_)
    ·obtain⟨aF,hw_40,hC0⟩:=rJ hC0
     try simp only[go_sem] at hw_40
     refine qR xJ ?_ (h:=by simp only[go_sem,hw_40];rfl)
     refine oV (pR (pC ?_))
     cases hC0
     exact⟨[],by rfl,by rfl,by rfl⟩
    ·refine p7 (pB (oW ?_))
     obtain⟨aG,hv4,hw4,hC0⟩:=p9 hC0
     try simp only[go_sem] at hw4
     refine oS xJ ?_ (hp:=by exact(p8 hv4)) (h:=by simp only[go_sem,hw4];rfl)
     obtain⟨aH,hv5,hw5,hC0⟩:=p9 hC0
     try simp only[go_sem] at hw5
     refine oS xJ ?_ (hp:=by exact(p8 hv5)) (h:=by simp only[go_sem,hw5];rfl)
     refine qR xJ ?_
     refine oV ?_
     cases hC0
     exact⟨[],by rfl,by rfl,by rfl⟩
attribute [irreducible] BQ
def L8 (O:pX) (Z:(Int×Int×Int×Int×(List UInt8)×Int×Int)):Int→Option (Int⊕Int):=fun aA=>
 if (((decide (aA<(List.length O.2.2.2.2.1:Int)))==true)=true→0≤aA∧aA<(List.length O.2.2.2.2.1:Int)) then
  if ((decide (aA<(List.length O.2.2.2.2.1:Int)))&&(Op.bytesLess (qB .str O.2.2.2.2.1 aA) Z.2.2.2.2.1))=true then
   if oT (aA+(1:Int)) then
    some (.inl (aA+(1:Int)))
   else none
  else
   some (.inr aA)
 else none
def BR (O:tC) (Z:pX):Option (Int×Int×Int×(List (List UInt8))):=
 (sU O (2:Int) ([]:List UInt8)).bind fun aA=>
 if (!decide (aA.2.2.1=(0:Int)))=true then
  some ((aA.1,aA.2.1,aA.2.2.1,Z.2.2.2.2.1))
 else
  (EG aA.2.2.2.2.1).bind fun aB=>
  if (!aB)=true then
   q6 (tP (O.1,(aA.1,(aA.2.1,(aA.2.2.1,((O.2.2.2.2.1.1,(O.2.2.2.2.1.2.1,(O.2.2.2.2.1.2.2.1,(O.2.2.2.2.1.2.2.2.1,())))),(O.2.2.2.2.2.1,())))))) (aA.2.2.2.1,(aA.2.2.2.2.1,(aA.2.2.2.2.2.1,(aA.2.2.2.2.2.2,())))) (3:Int)) fun aC=>
   some ((aA.1,aC.1,aC.2,Z.2.2.2.2.1))
  else
   (G1 Z.2.2.2.2.1 aA.2.2.2.2.1).bind fun aD=>
   if aD=true then
    q6 (tP (O.1,(aA.1,(aA.2.1,(aA.2.2.1,((O.2.2.2.2.1.1,(O.2.2.2.2.1.2.1,(O.2.2.2.2.1.2.2.1,(O.2.2.2.2.1.2.2.2.1,())))),(O.2.2.2.2.2.1,())))))) (aA.2.2.2.1,(aA.2.2.2.2.1,(aA.2.2.2.2.2.1,(aA.2.2.2.2.2.2,())))) (9:Int)) fun aE=>
    some ((aA.1,aE.1,aE.2,Z.2.2.2.2.1))
   else
    if (decide ((20:Int)≤(List.length Z.2.2.2.2.1:Int)))=true then
     q6 (tP (O.1,(aA.1,(aA.2.1,(aA.2.2.1,((O.2.2.2.2.1.1,(O.2.2.2.2.1.2.1,(O.2.2.2.2.1.2.2.1,(O.2.2.2.2.1.2.2.2.1,())))),(O.2.2.2.2.2.1,())))))) (aA.2.2.2.1,(aA.2.2.2.2.1,(aA.2.2.2.2.2.1,(aA.2.2.2.2.2.2,())))) (6:Int)) fun aF=>
     some ((aA.1,aF.1,aF.2,Z.2.2.2.2.1))
    else
     qE (pT (L8 Z aA) (0:Int)) fun aG=>
     if 0≤(0:Int)∧(0:Int)≤aG∧aG≤(List.length Z.2.2.2.2.1:Int) then
      if (List.length ([]:List (List UInt8))+List.length (p5 Z.2.2.2.2.1 (0:Int) aG))*16≤140737488355328 then
       if (List.length (([]:List (List UInt8))++(p5 Z.2.2.2.2.1 (0:Int) aG))+List.length ([aA.2.2.2.2.1]:List (List UInt8)))*16≤140737488355328 then
        if 0≤aG∧aG≤(List.length Z.2.2.2.2.1:Int)∧(List.length Z.2.2.2.2.1:Int)≤(List.length Z.2.2.2.2.1:Int) then
         if (List.length ((([]:List (List UInt8))++(p5 Z.2.2.2.2.1 (0:Int) aG))++([aA.2.2.2.2.1]:List (List UInt8)))+List.length (p5 Z.2.2.2.2.1 aG (List.length Z.2.2.2.2.1:Int)))*16≤140737488355328 then
          some ((aA.1,aA.2.1,aA.2.2.1,(((([]:List (List UInt8))++(p5 Z.2.2.2.2.1 (0:Int) aG))++([aA.2.2.2.2.1]:List (List UInt8)))++(p5 Z.2.2.2.2.1 aG (List.length Z.2.2.2.2.1:Int)))))
         else none
        else none
       else none
      else none
     else none
section
variable (O:tC) (Z:pX)
@[reducible] def a1s:List Slot:=[(.val s0 O,none),(.val qH Z,none)]
@[reducible] def a1t:List Blk:=[]
@[go_sem] def a1u:Ret:=⟨[((BR O Z)).isSome=true],[(.val s0 (O.1,((val (BR O Z)).1,((val (BR O Z)).2.1,((val (BR O Z)).2.2.1,((O.2.2.2.2.1.1,(O.2.2.2.2.1.2.1,(O.2.2.2.2.1.2.2.1,(O.2.2.2.2.1.2.2.2.1,())))),(O.2.2.2.2.2.1,())))))),none),(.val qH (Z.1,(Z.2.1,(Z.2.2.1,(Z.2.2.2.1,((val (BR O Z)).2.2.2,(Z.2.2.2.2.2.1,(Z.2.2.2.2.2.2.1,()))))))),none)],[]⟩
def aAk:List Slot→List Blk→Option Ret:=pM (V:=(tC×pX)) (fun x=>a1s x.1 x.2) (fun x=>a1t) fun x=>a1u x.1 x.2
@[go_sem] theorem aLF:aAk (no_index (a1s O Z)) (no_index a1t)=some (a1u O Z):=pN (fun⟨a0,a1⟩ ⟨b0,b1⟩ h1 h2=>by cases h1;cases h2;rfl) (O,Z)
end
@[reducible,go_sem] def aAl:Nat×Sig:=(155,⟨[.v,.v],aAk,[],[],none⟩)
theorem uV:Env Tryz.prog [q8,vZ,w4,xH,AI,AJ] (pE [GC,ZI,DZ,a8F]):=⟨⟨qA,⟨xG,⟨xI,⟨yW,⟨CG,⟨CH,trivial⟩⟩⟩⟩⟩⟩,oZ I9 (oZ a9s (oZ FX (oZ aFN pP))),pH⟩
theorem aGs:pI Tryz.prog aAl:=by
 refine pO uV Tryz.func155 (c:=_) rfl (N:=77) (by kernel_rfl) (ts:=[(4,some 91),(5,some 52)]) rfl (fun _ _=>rfl) ?_
 intro⟨O,Z⟩ hs hrow
 dsimp only[a1s,a1t,a1u,pK,enumH,pD,pG,pL,Nat.reduceAdd] at hs hrow⊢
 have hz:=hs
 obtain⟨z0,hC0⟩:=Option.isSome_iff_exists.1 hz
 try rw[pW hC0]
 clear hz hs
 unfold BR at hC0
 refine oS uV ?_
 obtain⟨aA,hv1,hw1,hC0⟩:=p9 hC0
 try simp only[go_sem] at hw1
 refine oS uV ?_ (hp:=by exact(p8 hv1)) (h:=by simp only[go_sem,hw1];rfl)
 refine p4 (pU ?_)
 refine oS uV ?_
 refine oX hC0 (fun hC0 hc1=> ?_) (fun hC0 hc1=> ?_)
 ·refine p7 (pB (oW ?_))
  refine qR uV ?_
  refine oV ?_
  cases hC0
  exact⟨[],by rfl,by rfl,by rfl⟩
 ·obtain⟨aB,hv2,hw2,hC0⟩:=p9 hC0
  try simp only[go_sem] at hw2
  refine oS uV ?_ (hp:=by exact(p8 hv2)) (h:=by simp only[go_sem,hw2];rfl)
  refine oX hC0 (fun hC0 hc2=> ?_) (fun hC0 hc2=> ?_)
  ·obtain⟨aC,hw_23,hC0⟩:=rJ hC0
   try simp only[go_sem] at hw_23
   refine pF uV ?_ (h:=by simp only[go_sem,hw_23];rfl)
   refine pB (oW ?_)
   refine qR uV ?_
   refine oV ?_
   cases hC0
   exact⟨[],by rfl,by rfl,by rfl⟩
  ·obtain⟨aD,hv3,hw3,hC0⟩:=p9 hC0
   try simp only[go_sem] at hw3
   refine oS uV ?_ (hp:=by exact(p8 hv3)) (h:=by simp only[go_sem,hw3];rfl)
   refine oX hC0 (fun hC0 hc3=> ?_) (fun hC0 hc3=> ?_)
   ·obtain⟨aE,hw_25,hC0⟩:=rJ hC0
    try simp only[go_sem] at hw_25
    refine pF uV ?_ (h:=by simp only[go_sem,hw_25];rfl)
    refine pB (oW ?_)
    refine qR uV ?_
    refine oV ?_
    cases hC0
    exact⟨[],by rfl,by rfl,by rfl⟩
   ·refine oS uV ?_
    refine oX hC0 (fun hC0 hc4=> ?_) (fun hC0 hc4=> ?_)
    ·obtain⟨aF,hw_26,hC0⟩:=rJ hC0
     try simp only[go_sem] at hw_26
     refine pF uV ?_ (h:=by simp only[go_sem,hw_26];rfl)
     refine pB (oW ?_)
     refine qR uV ?_
     refine oV ?_
     cases hC0
     exact⟨[],by rfl,by rfl,by rfl⟩
    ·refine oS uV ?_
     refine p4 (pU ?_)
     obtain⟨aG,hy1,hC0⟩:=oY hC0
     refine rI 1 (fun s=>s=(fun x=>⟨[(2,(.val .ref (some (0,0)),none)),(3,(.val .ref (some (1,0)),none)),(4,(.val .ref (some (2,0)),none)),(5,(.val .ref (some (3,0)),none)),(6,(.val .ref (some (4,0)),none)),(7,(.val (.int .i64) x,none))],[(0,.cells s0 (O.1,(aA.1,(aA.2.1,(aA.2.2.1,((O.2.2.2.2.1.1,(O.2.2.2.2.1.2.1,(O.2.2.2.2.1.2.2.1,(O.2.2.2.2.1.2.2.2.1,())))),(O.2.2.2.2.2.1,())))))) []),(1,.cells qH Z []),(2,.cells s0 (([]:List UInt8),((0:Int),((0:Int),((0:Int),((([]:List UInt8),(([]:List (List UInt8)),(([]:List p6),(([]:List pX),())))),(([]:List Int),())))))) [(5,5),(6,6),(7,7),(8,8)]),(3,.cells qH (([]:List UInt8),(([]:List UInt8),(([]:List UInt8),(([]:List (List UInt8)),(([]:List (List UInt8)),((0:Int),(([]:List p6),()))))))) [(3,9),(4,10),(6,11)]),(4,.cells uT (aA.2.2.2.1,(aA.2.2.2.2.1,(aA.2.2.2.2.2.1,(aA.2.2.2.2.2.2,())))) []),(5,.grow 9 1 (List.length ([]:List (List UInt8)))),(6,.grow 144 2 (List.length ([]:List p6))),(7,.grow 52 7 (List.length ([]:List pX))),(8,.grow 3 1 (List.length ([]:List Int))),(9,.grow 9 1 (List.length ([]:List (List UInt8)))),(10,.grow 9 1 (List.length ([]:List (List UInt8)))),(11,.grow 144 2 (List.length ([]:List p6)))],12,77,0⟩) aG) ?_ ?_
     ·refine rH hy1 (fun x=>⟨[(2,(.val .ref (some (0,0)),none)),(3,(.val .ref (some (1,0)),none)),(4,(.val .ref (some (2,0)),none)),(5,(.val .ref (some (3,0)),none)),(6,(.val .ref (some (4,0)),none)),(7,(.val (.int .i64) x,none))],[(0,.cells s0 (O.1,(aA.1,(aA.2.1,(aA.2.2.1,((O.2.2.2.2.1.1,(O.2.2.2.2.1.2.1,(O.2.2.2.2.1.2.2.1,(O.2.2.2.2.1.2.2.2.1,())))),(O.2.2.2.2.2.1,())))))) []),(1,.cells qH Z []),(2,.cells s0 (([]:List UInt8),((0:Int),((0:Int),((0:Int),((([]:List UInt8),(([]:List (List UInt8)),(([]:List p6),(([]:List pX),())))),(([]:List Int),())))))) [(5,5),(6,6),(7,7),(8,8)]),(3,.cells qH (([]:List UInt8),(([]:List UInt8),(([]:List UInt8),(([]:List (List UInt8)),(([]:List (List UInt8)),((0:Int),(([]:List p6),()))))))) [(3,9),(4,10),(6,11)]),(4,.cells uT (aA.2.2.2.1,(aA.2.2.2.2.1,(aA.2.2.2.2.2.1,(aA.2.2.2.2.2.2,())))) []),(5,.grow 9 1 (List.length ([]:List (List UInt8)))),(6,.grow 144 2 (List.length ([]:List p6))),(7,.grow 52 7 (List.length ([]:List pX))),(8,.grow 3 1 (List.length ([]:List Int))),(9,.grow 9 1 (List.length ([]:List (List UInt8)))),(10,.grow 9 1 (List.length ([]:List (List UInt8)))),(11,.grow 144 2 (List.length ([]:List p6)))],12,77,0⟩) ⟨[2,3,4,5,6,7],[(0,0),(1,16),(2,32),(3,48),(4,144),(5,33),(6,34),(7,35),(8,36),(9,49),(10,50),(11,51)]⟩ (by rfl) ?_
      intro aH w1 n1 hC1 hN1
      unfold L8 at hC1
      dsimp only at hC1⊢
      refine p4 ?_
      obtain⟨hg4,hC1⟩:=oU hC1
      refine qR uV ?_ (hp:=by exact And.intro (fun hh=>hh) (And.intro (fun hh=>hh) (And.intro (fun hh=>hh) (And.intro hg4 (And.intro (fun hh=>hh) (And.intro (fun hh=>hh) (And.intro (fun hh=>hh) (And.intro (fun hh=>hh) ((fun hh=>pY hh))))))))))
      refine oX hC1 (fun hC1 hc5=> ?_) (fun hC1 hc5=> ?_)
      ·refine p7 (oW (pU ?_))
       obtain⟨hg5,hC1⟩:=oU hC1
       refine pF uV ?_ (hp:=by exact hg5)
       refine pB ?_
       cases hC1
       exact qG ⟨⟨[2,3,4,5,6,7],[(0,0),(1,1),(2,2),(3,3),(4,4),(5,5),(6,6),(7,7),(8,8),(9,9),(10,10),(11,11)]⟩,_,by rfl,hN1⟩
      ·refine qY (r8 (r5 ?_))
       cases hC1
       cases hN1
       exact qZ ⟨⟨[2,3,4,5,6,7],[(0,0),(1,1),(2,2),(3,3),(4,4),(5,5),(6,6),(7,7),(8,8),(9,9),(10,10),(11,11)]⟩,by rfl⟩
     ·rintro _ rfl
      dsimp only at hC0⊢
      refine rF (oW ?_)
      obtain⟨hg6,hC0⟩:=oU hC0
      obtain⟨hg7,hC0⟩:=oU hC0
      obtain⟨hg8,hC0⟩:=oU hC0
      obtain⟨hg9,hC0⟩:=oU hC0
      obtain⟨hg10,hC0⟩:=oU hC0
      refine FS uV ?_ (hp:=by exact And.intro hg6 (And.intro (by first|exact rfl|exact trivial) (And.intro hg7 (And.intro (by first|exact rfl|exact trivial) (And.intro hg8 (And.intro hg9 (And.intro (by first|exact rfl|exact trivial) (hg10))))))))
      refine pB (oW ?_)
      refine qR uV ?_
      refine oV ?_
      cases hC0
      exact⟨[],by rfl,by rfl,by rfl⟩
attribute [irreducible] BR
end
end Go.Proofs.YtfchbnahjcdiiaaGreatDoor
namespace Go.Proofs.YtfchbnahjcdiiaaGreatDoor
open Vc
set_option maxRecDepth 100000
set_option maxHeartbeats 4000000
set_option linter.unusedSimpArgs false
set_option linter.unusedVariables false
noncomputable section
def aAm (O:Int) (Z:(List UInt8)):(Int×(List Int))→Option ((Int×(List Int))⊕((List Int)⊕((List UInt8)×Int×Int))):=fun(aA,aB)=>
 if (decide (aA<(List.length Z:Int)))=true then
  if 0≤aA∧aA<(List.length Z:Int) then
   if (decide ((pA Z aA)=(38:Int)))=true then
    if 0≤aA∧aA≤(List.length Z:Int)∧(List.length Z:Int)≤(List.length Z:Int) then
     (IA (p5 Z aA (List.length Z:Int))).bind fun aC=>
     if (decide (aC.2=(0:Int)))=true then
      some (.inr (.inr ((([]:List UInt8),aA,(3:Int)))))
     else
      (FW (aB,()) aC.1).bind fun aD=>
      if oT (aA+aC.2) then
       some (.inl ((aA+aC.2),(aB++s4 aC.1)))
      else none
    else none
   else
    if 0≤aA∧aA<(List.length Z:Int) then
     if (FZ O (pA Z aA))=true then
      some (.inr (.inr ((([]:List UInt8),aA,(3:Int)))))
     else
      if 0≤aA∧aA<(List.length Z:Int) then
       (G0 (aB,()) (pA Z aA)).bind fun aE=>
       if oT (aA+(1:Int)) then
        some (.inl ((aA+(1:Int)),(aB++([(pA Z aA)]:List Int))))
       else none
      else none
    else none
  else none
 else
  some (.inr (.inl aB))
def IB (O:Int) (Z:(List UInt8)):(Int×(List Int))→Option ((Int×(List Int))⊕((List Int)⊕((List UInt8)×Int×Int))):=fun(aA,aB)=>
 if (decide (aA<(List.length Z:Int)))=true then
  if 0≤aA∧aA<(List.length Z:Int) then
   if (decide ((pA Z aA)=(92:Int)))=true then
    if 0≤aA∧aA≤(List.length Z:Int)∧(List.length Z:Int)≤(List.length Z:Int) then
     (D0 (p5 Z aA (List.length Z:Int))).bind fun aC=>
     if (decide (aC.2=(0:Int)))=true then
      some (.inr (.inr ((([]:List UInt8),aA,(3:Int)))))
     else
      (FW (aB,()) aC.1).bind fun aD=>
      if oT (aA+aC.2) then
       some (.inl ((aA+aC.2),(aB++s4 aC.1)))
      else none
    else none
   else
    if 0≤aA∧aA<(List.length Z:Int) then
     if (FZ O (pA Z aA))=true then
      some (.inr (.inr ((([]:List UInt8),aA,(3:Int)))))
     else
      if 0≤aA∧aA<(List.length Z:Int) then
       (G0 (aB,()) (pA Z aA)).bind fun aE=>
       if oT (aA+(1:Int)) then
        some (.inl ((aA+(1:Int)),(aB++([(pA Z aA)]:List Int))))
       else none
      else none
    else none
  else none
 else
  some (.inr (.inl aB))
def BS (O:Int) (Z:(List UInt8)):Option ((List UInt8)×Int×Int):=
 if (!((decide ((1:Int)≤O))&&(decide (O≤(4:Int)))))=true then
  some ((([]:List UInt8),(0:Int),(1:Int)))
 else
  if (decide (O=(4:Int)))=true then
   qQ (pT (aAm O Z) ((0:Int),([]:List Int))) fun aA=>
   some (((rB aA),(0:Int),(0:Int)))
  else
   qQ (pT (IB O Z) ((0:Int),([]:List Int))) fun aB=>
   some (((rB aB),(0:Int),(0:Int)))
section
variable (O:Int) (Z:(List UInt8))
@[reducible] def a1v:List Slot:=[(.val (.int .i64) O,none),(.val .str Z,none)]
@[reducible] def a1w:List Blk:=[]
@[go_sem] def a1x:Ret:=⟨[((BS O Z)).isSome=true],[(.val .str ((val (BS O Z)).1),none),(.val (.int .i64) ((val (BS O Z)).2.1),none),(.val (.int .i64) ((val (BS O Z)).2.2),none)],[]⟩
def aAn:List Slot→List Blk→Option Ret:=pM (V:=(Int×(List UInt8))) (fun x=>a1v x.1 x.2) (fun x=>a1w) fun x=>a1x x.1 x.2
@[go_sem] theorem aLG:aAn (no_index (a1v O Z)) (no_index a1w)=some (a1x O Z):=pN (fun⟨a0,a1⟩ ⟨b0,b1⟩ h1 h2=>by cases h1;cases h2;rfl) (O,Z)
end
@[reducible,go_sem] def aAo:Nat×Sig:=(110,⟨[.v,.v],aAn,[],[],none⟩)
theorem rU:Env Tryz.prog [q8,FT] (pE [VY,aAh,a7l,a8j,a8l,TD,aAf]):=⟨⟨qA,⟨KD,trivial⟩⟩,oZ a8b (oZ aGq (oZ aFu (oZ aFI (oZ aFJ (oZ a7e (oZ aGp pP)))))),pH⟩
theorem aGt:pI Tryz.prog aAo:=by
 refine pO rU Tryz.func110 (c:=_) rfl (N:=58) (by kernel_rfl) (ts:=[(4,none),(5,none),(6,none)]) rfl (fun _ _=>rfl) ?_
 intro⟨O,Z⟩ hs hrow
 dsimp only[a1v,a1w,a1x,pK,enumH,pD,pG,pL,Nat.reduceAdd] at hs hrow⊢
 have hz:=hs
 obtain⟨z0,hC0⟩:=Option.isSome_iff_exists.1 hz
 try rw[pW hC0]
 clear hz hs
 unfold BS at hC0
 refine oS rU ?_
 refine p4 ?_
 refine oS rU ?_
 refine oX hC0 (fun hC0 hc1=> ?_) (fun hC0 hc1=> ?_)
 ·refine oS rU ?_
  refine oV (pC ?_)
  cases hC0
  exact⟨[],by rfl,by rfl,by rfl⟩
 ·refine p7 (oW ?_)
  refine oS rU ?_
  refine p4 ?_
  refine oS rU ?_
  refine oX hC0 (fun hC0 hc2=> ?_) (fun hC0 hc2=> ?_)
  ·refine pF rU ?_
   refine oW ?_
   refine oS rU ?_
   refine p4 ?_
   refine oS rU ?_
   refine pU ?_
   obtain⟨y1,hy1,hC0⟩:=sK hC0
   refine rI 0 (fun s=> ∃v,y1= .inl v∧s=(fun x=>⟨[(9,(.val .ref (some (0,0)),none))],[(0,.cells vD ((some (0,0)),(x,())) [(1,1)]),(1,.grow 5 1 (List.length x))],2,58,0⟩) v) ?_ ?_
   ·refine rH hy1 (fun x=>⟨[(0,(.val (.int .i64) O,none)),(1,(.val .str Z,none)),(7,(.val (.int .u8) (38:Int),none)),(8,(.val .clo (some (143,[])),none)),(9,(.val .ref (some (0,0)),none)),(10,(.val (.int .i64) x.1,none))],[(0,.cells vD ((some (0,0)),(x.2,())) [(1,1)]),(1,.grow 5 1 (List.length x.2))],2,58,0⟩) ⟨[0,1,7,8,9,10],[(0,192),(1,193)]⟩ (by rfl) ?_
    intro x1 w1 n1 hC1 hN1
    obtain⟨aA,aB⟩:=x1
    unfold aAm at hC1
    dsimp only at hC1⊢
    refine p4 ?_
    refine oS rU ?_
    refine oX hC1 (fun hC1 hc3=> ?_) (fun hC1 hc3=> ?_)
    ·refine p7 (oW (pU (pU ?_)))
     obtain⟨hg1,hC1⟩:=oU hC1
     refine oS rU ?_ (hp:=by exact hg1)
     refine oX hC1 (fun hC1 hc4=> ?_) (fun hC1 hc4=> ?_)
     ·obtain⟨hg2,hC1⟩:=oU hC1
      obtain⟨aC,hv3,hw3,hC1⟩:=p9 hC1
      try simp only[go_sem] at hw3
      refine oS rU ?_ (hp:=by exact And.intro hg2 ((p8 hv3))) (h:=by simp only[go_sem,hw3];rfl)
      refine p4 ?_
      refine oS rU ?_
      refine oX hC1 (fun hC1 hc5=> ?_) (fun hC1 hc5=> ?_)
      ·refine oS rU ?_
       refine oV (pC (pR (pR (s8 (s7 (pR (pC ?_)))))))
       cases hC1
       cases hN1
       dsimp only at hC0
       cases hC0
       exact⟨[],by rfl,by rfl,by rfl⟩
      ·refine p7 (oW ?_)
       obtain⟨aD,hv4,hw4,hC1⟩:=p9 hC1
       try simp only[go_sem] at hw4
       refine oS rU ?_ (hp:=by exact And.intro (by first|exact rfl|exact trivial) ((p8 hv4))) (h:=by simp only[go_sem,hw4];rfl)
       obtain⟨hg5,hC1⟩:=oU hC1
       refine pF rU ?_ (hp:=by exact hg5)
       refine pB (pB ?_)
       cases hC1
       exact qG ⟨⟨[0,1,7,8,9,10],[(0,0),(1,1)]⟩,_,by rfl,hN1⟩
     ·obtain⟨hg6,hC1⟩:=oU hC1
      refine oS rU ?_ (hp:=by exact hg6)
      refine oX hC1 (fun hC1 hc6=> ?_) (fun hC1 hc6=> ?_)
      ·refine oS rU ?_
       refine oV (pR (pR (s8 (s7 (pR (pC ?_))))))
       cases hC1
       cases hN1
       dsimp only at hC0
       cases hC0
       exact⟨[],by rfl,by rfl,by rfl⟩
      ·obtain⟨hg7,hC1⟩:=oU hC1
       obtain⟨aE,hv8,hw8,hC1⟩:=p9 hC1
       try simp only[go_sem] at hw8
       refine oS rU ?_ (hp:=by exact And.intro hg7 (And.intro (by first|exact rfl|exact trivial) ((p8 hv8)))) (h:=by simp only[go_sem,hw8];rfl)
       obtain⟨hg9,hC1⟩:=oU hC1
       refine pF rU ?_ (hp:=by exact hg9)
       refine pB (pB ?_)
       cases hC1
       exact qG ⟨⟨[0,1,7,8,9,10],[(0,0),(1,1)]⟩,_,by rfl,hN1⟩
    ·refine qY (r8 (r5 ?_))
     cases hC1
     cases hN1
     exact qZ ⟨⟨[9],[(0,0),(1,1)]⟩,_,rfl,by rfl⟩
   ·rintro _ ⟨aF,rfl,rfl⟩
    dsimp only at hC0⊢
    refine rF (oW ?_)
    refine oS rU ?_ (hp:=by exact(by first|exact rfl|exact trivial))
    refine oV ?_
    cases hC0
    exact⟨[],by rfl,by rfl,by rfl⟩
  ·refine p7 (oW ?_)
   refine oS rU ?_
   refine p4 ?_
   refine oS rU ?_
   refine pU ?_
   obtain⟨y1,hy1,hC0⟩:=sK hC0
   refine rI 0 (fun s=> ∃v,y1= .inl v∧s=(fun x=>⟨[(9,(.val .ref (some (0,0)),none))],[(0,.cells vD ((some (0,0)),(x,())) [(1,1)]),(1,.grow 5 1 (List.length x))],2,58,0⟩) v) ?_ ?_
   ·refine rH hy1 (fun x=>⟨[(0,(.val (.int .i64) O,none)),(1,(.val .str Z,none)),(7,(.val (.int .u8) (92:Int),none)),(8,(.val .clo (some (142,[])),none)),(9,(.val .ref (some (0,0)),none)),(10,(.val (.int .i64) x.1,none))],[(0,.cells vD ((some (0,0)),(x.2,())) [(1,1)]),(1,.grow 5 1 (List.length x.2))],2,58,0⟩) ⟨[0,1,7,8,9,10],[(0,160),(1,161)]⟩ (by rfl) ?_
    intro x1 w1 n1 hC1 hN1
    obtain⟨aG,aH⟩:=x1
    unfold IB at hC1
    dsimp only at hC1⊢
    refine p4 ?_
    refine oS rU ?_
    refine oX hC1 (fun hC1 hc7=> ?_) (fun hC1 hc7=> ?_)
    ·refine p7 (oW (pU (pU ?_)))
     obtain⟨hg10,hC1⟩:=oU hC1
     refine oS rU ?_ (hp:=by exact hg10)
     refine oX hC1 (fun hC1 hc8=> ?_) (fun hC1 hc8=> ?_)
     ·obtain⟨hg11,hC1⟩:=oU hC1
      obtain⟨aI,hv12,hw12,hC1⟩:=p9 hC1
      try simp only[go_sem] at hw12
      refine oS rU ?_ (hp:=by exact And.intro hg11 ((p8 hv12))) (h:=by simp only[go_sem,hw12];rfl)
      refine p4 ?_
      refine oS rU ?_
      refine oX hC1 (fun hC1 hc9=> ?_) (fun hC1 hc9=> ?_)
      ·refine oS rU ?_
       refine oV (pC (pR (pR (s8 (s7 (pR (pC ?_)))))))
       cases hC1
       cases hN1
       dsimp only at hC0
       cases hC0
       exact⟨[],by rfl,by rfl,by rfl⟩
      ·refine p7 (oW ?_)
       obtain⟨aJ,hv13,hw13,hC1⟩:=p9 hC1
       try simp only[go_sem] at hw13
       refine oS rU ?_ (hp:=by exact And.intro (by first|exact rfl|exact trivial) ((p8 hv13))) (h:=by simp only[go_sem,hw13];rfl)
       obtain⟨hg14,hC1⟩:=oU hC1
       refine pF rU ?_ (hp:=by exact hg14)
       refine pB (pB ?_)
       cases hC1
       exact qG ⟨⟨[0,1,7,8,9,10],[(0,0),(1,1)]⟩,_,by rfl,hN1⟩
     ·obtain⟨hg15,hC1⟩:=oU hC1
      refine oS rU ?_ (hp:=by exact hg15)
      refine oX hC1 (fun hC1 hc10=> ?_) (fun hC1 hc10=> ?_)
      ·refine oS rU ?_
       refine oV (pR (pR (s8 (s7 (pR (pC ?_))))))
       cases hC1
       cases hN1
       dsimp only at hC0
       cases hC0
       exact⟨[],by rfl,by rfl,by rfl⟩
      ·obtain⟨hg16,hC1⟩:=oU hC1
       obtain⟨aK,hv17,hw17,hC1⟩:=p9 hC1
       try simp only[go_sem] at hw17
       refine oS rU ?_ (hp:=by exact And.intro hg16 (And.intro (by first|exact rfl|exact trivial) ((p8 hv17)))) (h:=by simp only[go_sem,hw17];rfl)
       obtain⟨hg18,hC1⟩:=oU hC1
       refine pF rU ?_ (hp:=by exact hg18)
       refine pB (pB ?_)
       cases hC1
       exact qG ⟨⟨[0,1,7,8,9,10],[(0,0),(1,1)]⟩,_,by rfl,hN1⟩
    ·refine qY (r8 (r5 ?_))
     cases hC1
     cases hN1
     exact qZ ⟨⟨[9],[(0,0),(1,1)]⟩,_,rfl,by rfl⟩
   ·rintro _ ⟨aL,rfl,rfl⟩
    dsimp only at hC0⊢
    refine rF (oW ?_)
    refine oS rU ?_ (hp:=by exact(by first|exact rfl|exact trivial))
    refine oV ?_
    cases hC0
    exact⟨[],by rfl,by rfl,by rfl⟩
attribute [irreducible] BS
def D1 (O:(List UInt8)) (Z:Int):Option (Int×(List UInt8)×Int):=
 if 0≤(1:Int)∧(1:Int)≤(List.length O:Int)∧(List.length O:Int)≤(List.length O:Int) then
  (G8 (3:Int) (p5 O (1:Int) (List.length O:Int)) (34:Int)).bind fun aA=>
  if (decide (aA<(0:Int)))=true then
   some (((0:Int),([]:List UInt8),Z))
  else
   if oT (aA+(1:Int)) then
    if 0≤(1:Int)∧(1:Int)≤(aA+(1:Int))∧(aA+(1:Int))≤(List.length O:Int) then
     (BS (3:Int) (p5 O (1:Int) (aA+(1:Int)))).bind fun aB=>
     if (((!decide (aB.2.2=(0:Int)))==false)=true→((HY aB.1)).isSome=true) then
      if ((!decide (aB.2.2=(0:Int)))||(!((decide ((List.length aB.1:Int)≤(4000:Int)))&&(Lib.validD aB.1))))=true then
       some (((0:Int),([]:List UInt8),Z))
      else
       if oT (Z+aA) then
        if oT ((Z+aA)+(2:Int)) then
         some (((1:Int),aB.1,((Z+aA)+(2:Int))))
        else none
       else none
     else none
    else none
   else none
 else none
section
variable (O:(List UInt8)) (Z:Int)
@[reducible] def a1y:List Slot:=[(.val .str O,none),(.val (.int .i64) Z,none)]
@[reducible] def a1z:List Blk:=[]
@[go_sem] def a1A:Ret:=⟨[((D1 O Z)).isSome=true],[(.val uT ((val (D1 O Z)).1,((val (D1 O Z)).2.1,(Z,((val (D1 O Z)).2.2,())))),none)],[]⟩
def aAp:List Slot→List Blk→Option Ret:=pM (V:=((List UInt8)×Int)) (fun x=>a1y x.1 x.2) (fun x=>a1z) fun x=>a1A x.1 x.2
@[go_sem] theorem aLH:aAp (no_index (a1y O Z)) (no_index a1z)=some (a1A O Z):=pN (fun⟨a0,a1⟩ ⟨b0,b1⟩ h1 h2=>by cases h1;cases h2;rfl) (O,Z)
end
@[reducible,go_sem] def aAq:Nat×Sig:=(65,⟨[.v,.v],aAp,[],[],none⟩)
theorem D2:Env Tryz.prog [q8,wM] (pE [a9o,aAo,a9u]):=⟨⟨qA,⟨yC,trivial⟩⟩,oZ aF5 (oZ aGt (oZ aF7 pP)),pH⟩
theorem aGu:pI Tryz.prog aAq:=by
 refine pO D2 Tryz.func65 (c:=_) rfl (N:=43) (by kernel_rfl) (ts:=[(4,some 58)]) rfl (fun _ _=>rfl) ?_
 intro⟨O,Z⟩ hs hrow
 dsimp only[a1y,a1z,a1A,pK,enumH,pD,pG,pL,Nat.reduceAdd] at hs hrow⊢
 have hz:=hs
 obtain⟨z0,hC0⟩:=Option.isSome_iff_exists.1 hz
 try rw[pW hC0]
 clear hz hs
 unfold D1 at hC0
 refine oS D2 ?_
 obtain⟨hg1,hC0⟩:=oU hC0
 obtain⟨aA,hv2,hw2,hC0⟩:=p9 hC0
 try simp only[go_sem] at hw2
 refine oS D2 ?_ (hp:=by exact And.intro hg1 ((p8 hv2))) (h:=by simp only[go_sem,hw2];rfl)
 refine p4 ?_
 refine oS D2 ?_
 refine oX hC0 (fun hC0 hc1=> ?_) (fun hC0 hc1=> ?_)
 ·refine oS D2 ?_
  refine oV (pC ?_)
  cases hC0
  exact⟨[],by rfl,by rfl,by rfl⟩
 ·refine p7 (oW ?_)
  obtain⟨hg3,hC0⟩:=oU hC0
  obtain⟨hg4,hC0⟩:=oU hC0
  obtain⟨aB,hv5,hw5,hC0⟩:=p9 hC0
  try simp only[go_sem] at hw5
  refine oS D2 ?_ (hp:=by exact And.intro hg3 (And.intro hg4 ((p8 hv5)))) (h:=by simp only[go_sem,hw5];rfl)
  refine p4 ?_
  obtain⟨hg6,hC0⟩:=oU hC0
  refine oS D2 ?_ (hp:=by exact And.intro (fun hh=>hh) (And.intro hg6 (And.intro (fun hh=>hh) ((fun hh=>sH hh)))))
  refine oX hC0 (fun hC0 hc2=> ?_) (fun hC0 hc2=> ?_)
  ·refine oS D2 ?_
   refine oV (pC ?_)
   cases hC0
   exact⟨[],by rfl,by rfl,by rfl⟩
  ·refine p7 (oW ?_)
   obtain⟨hg7,hC0⟩:=oU hC0
   obtain⟨hg8,hC0⟩:=oU hC0
   refine oS D2 ?_ (hp:=by exact And.intro hg7 (hg8))
   refine oV ?_
   cases hC0
   exact⟨[],by rfl,by rfl,by rfl⟩
attribute [irreducible] D1
end
end Go.Proofs.YtfchbnahjcdiiaaGreatDoor
namespace Go.Proofs.YtfchbnahjcdiiaaGreatDoor
open Vc
set_option maxRecDepth 100000
set_option maxHeartbeats 4000000
set_option linter.unusedSimpArgs false
set_option linter.unusedVariables false
noncomputable section
def sN (O:tC) (Z:pX) (aA:(Bool×(Bool×(Bool×Unit)))) (aB:q9) (aC:Bool):Option (Int×Int×Int×(List UInt8)×(List UInt8)×(List (List UInt8))×(List (List UInt8))×Int×(List p6)×Bool×Bool×Bool):=
 if (decide (aB.2.1=([99,111,109,109,101,110,116]:List UInt8)))=true then
  if (decide ((20:Int)≤(List.length Z.2.2.2.1:Int)))=true then
   q6 (tP O aB (6:Int)) fun aD=>
   some ((O.2.1,aD.1,aD.2,Z.2.1,Z.2.2.1,Z.2.2.2.1,Z.2.2.2.2.1,Z.2.2.2.2.2.1,Z.2.2.2.2.2.2.1,aA.1,aA.2.1,aA.2.2.1))
  else
   (sU O (1:Int) ([]:List UInt8)).bind fun aE=>
   if (List.length ([]:List (List UInt8))+List.length Z.2.2.2.1)*16≤140737488355328 then
    if (List.length (([]:List (List UInt8))++Z.2.2.2.1)+List.length ([aE.2.2.2.2.1]:List (List UInt8)))*16≤140737488355328 then
     some ((aE.1,aE.2.1,aE.2.2.1,Z.2.1,Z.2.2.1,((([]:List (List UInt8))++Z.2.2.2.1)++([aE.2.2.2.2.1]:List (List UInt8))),Z.2.2.2.2.1,Z.2.2.2.2.2.1,Z.2.2.2.2.2.2.1,aA.1,aA.2.1,aA.2.2.1))
    else none
   else none
 else
  if (decide (aB.2.1=([102,105,101,108,100]:List UInt8)))=true then
   (BQ O Z).bind fun aF=>
   some ((aF.1,aF.2.1,aF.2.2.1,Z.2.1,Z.2.2.1,Z.2.2.2.1,Z.2.2.2.2.1,Z.2.2.2.2.2.1,aF.2.2.2,aA.1,aA.2.1,aA.2.2.1))
  else
   if aC=true then
    q6 (tP O aB (3:Int)) fun aG=>
    some ((O.2.1,aG.1,aG.2,Z.2.1,Z.2.2.1,Z.2.2.2.1,Z.2.2.2.2.1,Z.2.2.2.2.2.1,Z.2.2.2.2.2.2.1,aA.1,aA.2.1,aA.2.2.1))
   else
    if (decide (aB.2.1=([102,108,97,103]:List UInt8)))=true then
     (BR O Z).bind fun aH=>
     some ((aH.1,aH.2.1,aH.2.2.1,Z.2.1,Z.2.2.1,Z.2.2.2.1,aH.2.2.2,Z.2.2.2.2.2.1,Z.2.2.2.2.2.2.1,aA.1,aA.2.1,aA.2.2.1))
    else
     qE (σ:=Bool) (
       if ((decide (aB.2.1=([115,111,117,114,99,101]:List UInt8)))&&aA.1)=true then
        some (((decide (aB.2.1=([115,111,117,114,99,101]:List UInt8)))&&aA.1))
       else
        if ((decide (aB.2.1=([116,97,114,103,101,116]:List UInt8)))&&aA.2.1)=true then
         some (((decide (aB.2.1=([116,97,114,103,101,116]:List UInt8)))&&aA.2.1))
        else
         some (((decide (aB.2.1=([115,116,97,116,101]:List UInt8)))&&aA.2.2.1))
      ) fun aI=>
     if aI=true then
      q6 (tP O aB (9:Int)) fun aJ=>
      some ((O.2.1,aJ.1,aJ.2,Z.2.1,Z.2.2.1,Z.2.2.2.1,Z.2.2.2.2.1,Z.2.2.2.2.2.1,Z.2.2.2.2.2.2.1,aA.1,aA.2.1,aA.2.2.1))
     else
      if (decide (aB.2.1=([115,111,117,114,99,101]:List UInt8)))=true then
       (sU O (1:Int) ([]:List UInt8)).bind fun aK=>
       some ((aK.1,aK.2.1,aK.2.2.1,aK.2.2.2.2.1,Z.2.2.1,Z.2.2.2.1,Z.2.2.2.2.1,Z.2.2.2.2.2.1,Z.2.2.2.2.2.2.1,true,aA.2.1,aA.2.2.1))
      else
       if (decide (aB.2.1=([116,97,114,103,101,116]:List UInt8)))=true then
        (sU O (1:Int) ([]:List UInt8)).bind fun aL=>
        some ((aL.1,aL.2.1,aL.2.2.1,Z.2.1,aL.2.2.2.2.1,Z.2.2.2.1,Z.2.2.2.2.1,Z.2.2.2.2.2.1,Z.2.2.2.2.2.2.1,aA.1,true,aA.2.2.1))
       else
        if (decide (aB.2.1=([115,116,97,116,101]:List UInt8)))=true then
         (sU O (2:Int) ([]:List UInt8)).bind fun aM=>
         if (((decide (aM.2.2.1=(0:Int)))==true)=true→((CT aM.2.2.2.2.1)).isSome=true) then
          qE (σ:=(Int×Int)) (
            if ((decide (aM.2.2.1=(0:Int)))&&(decide ((val (CT aM.2.2.2.2.1))<(0:Int))))=true then
             q6 (tP (O.1,(aM.1,(aM.2.1,(aM.2.2.1,((O.2.2.2.2.1.1,(O.2.2.2.2.1.2.1,(O.2.2.2.2.1.2.2.1,(O.2.2.2.2.1.2.2.2.1,())))),(O.2.2.2.2.2.1,())))))) (aM.2.2.2.1,(aM.2.2.2.2.1,(aM.2.2.2.2.2.1,(aM.2.2.2.2.2.2,())))) (3:Int)) fun aN=>
             some ((aN.1,aN.2))
            else
             some ((aM.2.1,aM.2.2.1))
           ) fun(aO,aP)=>
          (CT aM.2.2.2.2.1).bind fun aQ=>
          some ((aM.1,aO,aP,Z.2.1,Z.2.2.1,Z.2.2.2.1,Z.2.2.2.2.1,aQ,Z.2.2.2.2.2.2.1,aA.1,aA.2.1,true))
         else none
        else
         q6 (tP O aB (3:Int)) fun aR=>
         some ((O.2.1,aR.1,aR.2,Z.2.1,Z.2.2.1,Z.2.2.2.1,Z.2.2.2.2.1,Z.2.2.2.2.2.1,Z.2.2.2.2.2.2.1,aA.1,aA.2.1,aA.2.2.1))
section
variable (O:tC) (Z:pX) (aA:(Bool×(Bool×(Bool×Unit)))) (aB:q9) (aC:Bool)
@[reducible] def a1B:List Slot:=[(.val s0 O,none),(.val qH Z,none),(.val DT aA,none),(.val uT aB,none),(.val .bool aC,none)]
@[reducible] def a1C:List Blk:=[]
@[go_sem] def a1D:Ret:=⟨[((sN O Z aA aB aC)).isSome=true],[(.val s0 (O.1,((val (sN O Z aA aB aC)).1,((val (sN O Z aA aB aC)).2.1,((val (sN O Z aA aB aC)).2.2.1,((O.2.2.2.2.1.1,(O.2.2.2.2.1.2.1,(O.2.2.2.2.1.2.2.1,(O.2.2.2.2.1.2.2.2.1,())))),(O.2.2.2.2.2.1,())))))),none),(.val qH (Z.1,((val (sN O Z aA aB aC)).2.2.2.1,((val (sN O Z aA aB aC)).2.2.2.2.1,((val (sN O Z aA aB aC)).2.2.2.2.2.1,((val (sN O Z aA aB aC)).2.2.2.2.2.2.1,((val (sN O Z aA aB aC)).2.2.2.2.2.2.2.1,((val (sN O Z aA aB aC)).2.2.2.2.2.2.2.2.1,()))))))),none),(.val DT ((val (sN O Z aA aB aC)).2.2.2.2.2.2.2.2.2.1,((val (sN O Z aA aB aC)).2.2.2.2.2.2.2.2.2.2.1,((val (sN O Z aA aB aC)).2.2.2.2.2.2.2.2.2.2.2,()))),none)],[]⟩
def aAr:List Slot→List Blk→Option Ret:=pM (V:=(tC×pX×(Bool×(Bool×(Bool×Unit)))×q9×Bool)) (fun x=>a1B x.1 x.2.1 x.2.2.1 x.2.2.2.1 x.2.2.2.2) (fun x=>a1C) fun x=>a1D x.1 x.2.1 x.2.2.1 x.2.2.2.1 x.2.2.2.2
@[go_sem] theorem aLI:aAr (no_index (a1B O Z aA aB aC)) (no_index a1C)=some (a1D O Z aA aB aC):=pN (fun⟨a0,a1,a2,a3,a4⟩ ⟨b0,b1,b2,b3,b4⟩ h1 h2=>by cases h1;cases h2;rfl) (O,Z,aA,aB,aC)
end
@[reducible,go_sem] def aAs:Nat×Sig:=(120,⟨[.v,.v,.v,.v,.v],aAr,[],[],none⟩)
theorem rM:Env Tryz.prog [sE,BE,q8,vZ,w4,xH,AI,AJ,OB] (pE [DZ,GC,aAj,aAl,a9q]):=⟨⟨sL,⟨DU,⟨qA,⟨xG,⟨xI,⟨yW,⟨CG,⟨CH,⟨a7b,trivial⟩⟩⟩⟩⟩⟩⟩⟩⟩,oZ FX (oZ I9 (oZ aGr (oZ aGs (oZ aF6 pP)))),pH⟩
theorem aGv:pI Tryz.prog aAs:=by
 refine pO rM Tryz.func120 (c:=_) rfl (N:=149) (by kernel_rfl) (ts:=[(10,some 91),(11,some 52),(12,some 184)]) rfl (fun _ _=>rfl) ?_
 intro⟨O,Z,aA,aB,aC⟩ hs hrow
 dsimp only[a1B,a1C,a1D,pK,enumH,pD,pG,pL,Nat.reduceAdd] at hs hrow⊢
 have hz:=hs
 obtain⟨z0,hC0⟩:=Option.isSome_iff_exists.1 hz
 try rw[pW hC0]
 clear hz hs
 unfold sN at hC0
 refine oS rM ?_
 refine oS rM ?_
 refine p4 (pU ?_)
 refine oS rM ?_
 refine oX hC0 (fun hC0 hc1=> ?_) (fun hC0 hc1=> ?_)
 ·refine p4 ?_
  refine oS rM ?_
  refine oX hC0 (fun hC0 hc2=> ?_) (fun hC0 hc2=> ?_)
  ·obtain⟨aD,hw_36,hC0⟩:=rJ hC0
   try simp only[go_sem] at hw_36
   refine qR rM ?_ (h:=by simp only[go_sem,hw_36];rfl)
   refine oV (pC (pR (pC ?_)))
   cases hC0
   exact⟨[],by rfl,by rfl,by rfl⟩
  ·refine p7 (oW ?_)
   obtain⟨aE,hv1,hw1,hC0⟩:=p9 hC0
   try simp only[go_sem] at hw1
   refine oS rM ?_ (hp:=by exact(p8 hv1)) (h:=by simp only[go_sem,hw1];rfl)
   obtain⟨hg2,hC0⟩:=oU hC0
   obtain⟨hg3,hC0⟩:=oU hC0
   refine FS rM ?_ (hp:=by exact And.intro (by first|exact rfl|exact trivial) (And.intro hg2 (And.intro (by first|exact rfl|exact trivial) (hg3))))
   refine pB (oW ?_)
   refine qR rM ?_
   refine oV ?_
   cases hC0
   exact⟨[],by rfl,by rfl,by rfl⟩
 ·refine oS rM ?_
  refine oX hC0 (fun hC0 hc3=> ?_) (fun hC0 hc3=> ?_)
  ·obtain⟨aF,hv4,hw4,hC0⟩:=p9 hC0
   try simp only[go_sem] at hw4
   refine pF rM ?_ (hp:=by exact(p8 hv4)) (h:=by simp only[go_sem,hw4];rfl)
   refine pB (oW ?_)
   refine qR rM ?_
   refine oV ?_
   cases hC0
   exact⟨[],by rfl,by rfl,by rfl⟩
  ·refine oS rM ?_
   refine oX hC0 (fun hC0 hc4=> ?_) (fun hC0 hc4=> ?_)
   ·obtain⟨aG,hw_39,hC0⟩:=rJ hC0
    try simp only[go_sem] at hw_39
    refine pF rM ?_ (h:=by simp only[go_sem,hw_39];rfl)
    refine pB (oW ?_)
    refine qR rM ?_
    refine oV ?_
    cases hC0
    exact⟨[],by rfl,by rfl,by rfl⟩
   ·refine oS rM ?_
    refine oX hC0 (fun hC0 hc5=> ?_) (fun hC0 hc5=> ?_)
    ·obtain⟨aH,hv5,hw5,hC0⟩:=p9 hC0
     try simp only[go_sem] at hw5
     refine pF rM ?_ (hp:=by exact(p8 hv5)) (h:=by simp only[go_sem,hw5];rfl)
     refine pB (oW ?_)
     refine qR rM ?_
     refine oV ?_
     cases hC0
     exact⟨[],by rfl,by rfl,by rfl⟩
    ·refine p4 ?_
     refine oS rM ?_ (hp:=by exact And.intro (fun hh=>hh) ((fun hh=>pY hh)))
     obtain⟨aI,hC1,hC0⟩:=oY hC0
     refine y6 (fun s=>s=(fun x=>⟨[(5,(.val .ref (some (0,0)),none)),(6,(.val .ref (some (1,0)),none)),(7,(.val .ref (some (2,0)),none)),(8,(.val .ref (some (3,0)),none)),(10,(.val .ref (some (4,0)),none)),(11,(.val .ref (some (5,0)),none)),(12,(.val .ref (some (6,0)),none)),(13,(.val .ref (some (7,0)),none)),(69,(.val .bool x,none))],[(0,.cells s0 O []),(1,.cells qH Z []),(2,.cells DT aA []),(3,.cells uT aB []),(4,.cells s0 (([]:List UInt8),((0:Int),((0:Int),((0:Int),((([]:List UInt8),(([]:List (List UInt8)),(([]:List p6),(([]:List pX),())))),(([]:List Int),())))))) [(5,8),(6,9),(7,10),(8,11)]),(5,.cells qH (([]:List UInt8),(([]:List UInt8),(([]:List UInt8),(([]:List (List UInt8)),(([]:List (List UInt8)),((0:Int),(([]:List p6),()))))))) [(3,12),(4,13),(6,14)]),(6,.cells DT (false,(false,(false,()))) []),(7,.cells uT ((0:Int),(([]:List UInt8),((0:Int),((0:Int),())))) []),(8,.grow 9 1 (List.length ([]:List (List UInt8)))),(9,.grow 144 2 (List.length ([]:List p6))),(10,.grow 52 7 (List.length ([]:List pX))),(11,.grow 3 1 (List.length ([]:List Int))),(12,.grow 9 1 (List.length ([]:List (List UInt8)))),(13,.grow 9 1 (List.length ([]:List (List UInt8)))),(14,.grow 144 2 (List.length ([]:List p6)))],15,149,0⟩) aI) ?_ ?_
     ·refine oX hC1 (fun hC1 hc6=> ?_) (fun hC1 hc6=> ?_)
      ·refine p7 ?_
       cases hC1
       exact rL ⟨⟨[5,6,7,8,10,11,12,13,69],[(0,0),(1,16),(2,32),(3,48),(4,64),(5,80),(6,96),(7,112),(8,65),(9,66),(10,67),(11,68),(12,81),(13,82),(14,83)]⟩,by rfl⟩
      ·refine oS rM ?_ (hp:=by exact And.intro (fun hh=>hh) ((fun hh=>pY hh)))
       refine oX hC1 (fun hC1 hc7=> ?_) (fun hC1 hc7=> ?_)
       ·refine p7 ?_
        cases hC1
        exact rL ⟨⟨[5,6,7,8,10,11,12,13,69],[(0,0),(1,16),(2,32),(3,48),(4,64),(5,80),(6,96),(7,112),(8,65),(9,66),(10,67),(11,68),(12,81),(13,82),(14,83)]⟩,by rfl⟩
       ·refine pF rM ?_ (hp:=by exact And.intro (fun hh=>hh) ((fun hh=>pY hh)))
        cases hC1
        exact rL ⟨⟨[5,6,7,8,10,11,12,13,69],[(0,0),(1,16),(2,32),(3,48),(4,64),(5,80),(6,96),(7,112),(8,65),(9,66),(10,67),(11,68),(12,81),(13,82),(14,83)]⟩,by rfl⟩
     ·rintro _ rfl
      dsimp only at hC0⊢
      refine oW ?_
      refine oX hC0 (fun hC0 hc8=> ?_) (fun hC0 hc8=> ?_)
      ·obtain⟨aJ,hw_42,hC0⟩:=rJ hC0
       try simp only[go_sem] at hw_42
       refine pF rM ?_ (h:=by simp only[go_sem,hw_42];rfl)
       refine pB (oW ?_)
       refine qR rM ?_
       refine oV ?_
       cases hC0
       exact⟨[],by rfl,by rfl,by rfl⟩
      ·refine oS rM ?_
       refine oX hC0 (fun hC0 hc9=> ?_) (fun hC0 hc9=> ?_)
       ·obtain⟨aK,hv6,hw6,hC0⟩:=p9 hC0
        try simp only[go_sem] at hw6
        refine oS rM ?_ (hp:=by exact(p8 hv6)) (h:=by simp only[go_sem,hw6];rfl)
        refine pF rM ?_
        refine pB (oW ?_)
        refine qR rM ?_
        refine oV ?_
        cases hC0
        exact⟨[],by rfl,by rfl,by rfl⟩
       ·refine oS rM ?_
        refine oX hC0 (fun hC0 hc10=> ?_) (fun hC0 hc10=> ?_)
        ·obtain⟨aL,hv7,hw7,hC0⟩:=p9 hC0
         try simp only[go_sem] at hw7
         refine oS rM ?_ (hp:=by exact(p8 hv7)) (h:=by simp only[go_sem,hw7];rfl)
         refine pF rM ?_
         refine pB (oW ?_)
         refine qR rM ?_
         refine oV ?_
         cases hC0
         exact⟨[],by rfl,by rfl,by rfl⟩
        ·refine oS rM ?_
         refine oX hC0 (fun hC0 hc11=> ?_) (fun hC0 hc11=> ?_)
         ·obtain⟨aM,hv8,hw8,hC0⟩:=p9 hC0
          try simp only[go_sem] at hw8
          refine oS rM ?_ (hp:=by exact(p8 hv8)) (h:=by simp only[go_sem,hw8];rfl)
          refine p4 ?_
          obtain⟨hg9,hC0⟩:=oU hC0
          refine oS rM ?_ (hp:=by exact And.intro (fun hh=>hh) (And.intro (fun hh=>hh) (And.intro hg9 (And.intro (fun hh=>hh) ((fun hh=>pY hh))))))
          obtain⟨y1,hC1,hC0⟩:=oY hC0
          refine y6 (fun s=>s=(fun x=>⟨[(5,(.val .ref (some (0,0)),none)),(6,(.val .ref (some (1,0)),none)),(7,(.val .ref (some (2,0)),none)),(10,(.val .ref (some (3,0)),none)),(11,(.val .ref (some (4,0)),none)),(12,(.val .ref (some (5,0)),none)),(13,(.val .ref (some (6,0)),none))],[(0,.cells s0 (O.1,(aM.1,(x.1,(x.2,((O.2.2.2.2.1.1,(O.2.2.2.2.1.2.1,(O.2.2.2.2.1.2.2.1,(O.2.2.2.2.1.2.2.2.1,())))),(O.2.2.2.2.2.1,())))))) []),(1,.cells qH Z []),(2,.cells DT aA []),(3,.cells s0 (([]:List UInt8),((0:Int),((0:Int),((0:Int),((([]:List UInt8),(([]:List (List UInt8)),(([]:List p6),(([]:List pX),())))),(([]:List Int),())))))) [(5,7),(6,8),(7,9),(8,10)]),(4,.cells qH (([]:List UInt8),(([]:List UInt8),(([]:List UInt8),(([]:List (List UInt8)),(([]:List (List UInt8)),((0:Int),(([]:List p6),()))))))) [(3,11),(4,12),(6,13)]),(5,.cells DT (false,(false,(false,()))) []),(6,.cells uT (aM.2.2.2.1,(aM.2.2.2.2.1,(aM.2.2.2.2.2.1,(aM.2.2.2.2.2.2,())))) []),(7,.grow 9 1 (List.length ([]:List (List UInt8)))),(8,.grow 144 2 (List.length ([]:List p6))),(9,.grow 52 7 (List.length ([]:List pX))),(10,.grow 3 1 (List.length ([]:List Int))),(11,.grow 9 1 (List.length ([]:List (List UInt8)))),(12,.grow 9 1 (List.length ([]:List (List UInt8)))),(13,.grow 144 2 (List.length ([]:List p6)))],14,149,0⟩) y1) ?_ ?_
          ·refine oX hC1 (fun hC1 hc12=> ?_) (fun hC1 hc12=> ?_)
           ·obtain⟨aN,hw_49,hC1⟩:=rJ hC1
            try simp only[go_sem] at hw_49
            refine pF rM ?_ (h:=by simp only[go_sem,hw_49];rfl)
            cases hC1
            exact rL ⟨⟨[5,6,7,10,11,12,13],[(0,0),(1,1),(2,2),(3,4),(4,5),(5,6),(6,7),(7,8),(8,9),(9,10),(10,11),(11,12),(12,13),(13,14)]⟩,by rfl⟩
           ·refine p7 ?_
            cases hC1
            exact rL ⟨⟨[5,6,7,10,11,12,13],[(0,0),(1,1),(2,2),(3,4),(4,5),(5,6),(6,7),(7,8),(8,9),(9,10),(10,11),(11,12),(12,13),(13,14)]⟩,by rfl⟩
          ·rintro _ rfl
           obtain⟨aO,aP⟩:=y1
           dsimp only at hC0⊢
           refine oW ?_
           obtain⟨aQ,hv10,hw10,hC0⟩:=p9 hC0
           try simp only[go_sem] at hw10
           refine pF rM ?_ (hp:=by exact(p8 hv10)) (h:=by simp only[go_sem,hw10];rfl)
           refine pB (oW ?_)
           refine qR rM ?_
           refine oV ?_
           cases hC0
           exact⟨[],by rfl,by rfl,by rfl⟩
         ·obtain⟨aR,hw_51,hC0⟩:=rJ hC0
          try simp only[go_sem] at hw_51
          refine pF rM ?_ (h:=by simp only[go_sem,hw_51];rfl)
          refine pB (oW ?_)
          refine qR rM ?_
          refine oV ?_
          cases hC0
          exact⟨[],by rfl,by rfl,by rfl⟩
attribute [irreducible] sN
end
end Go.Proofs.YtfchbnahjcdiiaaGreatDoor
namespace Go.Proofs.YtfchbnahjcdiiaaGreatDoor
open Vc
set_option maxRecDepth 100000
set_option maxHeartbeats 4000000
set_option linter.unusedSimpArgs false
set_option linter.unusedVariables false
noncomputable section
def yH (O:((List UInt8)×(Int×Unit))):Option (Int×(List UInt8)×Int×Int×Int):=
 (EN O).bind fun Z=>
 if (!Z.1)=true then
  some (((0:Int),([]:List UInt8),Z.2,Z.2,Z.2))
 else
  if (decide (Z.2=(List.length O.1:Int)))=true then
   some (((4:Int),([]:List UInt8),Z.2,Z.2,Z.2))
  else
   if 0≤Z.2∧Z.2≤(List.length O.1:Int)∧(List.length O.1:Int)≤(List.length O.1:Int) then
    if 0≤(0:Int)∧(0:Int)<(List.length (p5 O.1 Z.2 (List.length O.1:Int)):Int) then
     if ((decide ((pA (p5 O.1 Z.2 (List.length O.1:Int)) (0:Int))=(123:Int)))||(decide ((pA (p5 O.1 Z.2 (List.length O.1:Int)) (0:Int))=(125:Int))))=true then
      if 0≤(0:Int)∧(0:Int)≤(1:Int)∧(1:Int)≤(List.length (p5 O.1 Z.2 (List.length O.1:Int)):Int) then
       if oT (Z.2+(1:Int)) then
        some (((3:Int),(p5 (p5 O.1 Z.2 (List.length O.1:Int)) (0:Int) (1:Int)),Z.2,(Z.2+(1:Int)),(Z.2+(1:Int))))
       else none
      else none
     else
      if (decide ((pA (p5 O.1 Z.2 (List.length O.1:Int)) (0:Int))=(34:Int)))=true then
       (D1 (p5 O.1 Z.2 (List.length O.1:Int)) Z.2).bind fun aA=>
       some ((aA.1,aA.2.1,Z.2,aA.2.2,aA.2.2))
      else
       if (((decide ((97:Int)≤(pA (p5 O.1 Z.2 (List.length O.1:Int)) (0:Int))))&&(decide ((pA (p5 O.1 Z.2 (List.length O.1:Int)) (0:Int))≤(122:Int))))||((decide ((65:Int)≤(pA (p5 O.1 Z.2 (List.length O.1:Int)) (0:Int))))&&(decide ((pA (p5 O.1 Z.2 (List.length O.1:Int)) (0:Int))≤(90:Int)))))=true then
        (G6 (p5 O.1 Z.2 (List.length O.1:Int))).bind fun aB=>
        qE (σ:=Int) (
          if (decide (aB<(0:Int)))=true then
           some ((List.length (p5 O.1 Z.2 (List.length O.1:Int)):Int))
          else
           some (aB)
         ) fun aC=>
        if 0≤(0:Int)∧(0:Int)≤aC∧aC≤(List.length (p5 O.1 Z.2 (List.length O.1:Int)):Int) then
         if oT (Z.2+aC) then
          some (((2:Int),(p5 (p5 O.1 Z.2 (List.length O.1:Int)) (0:Int) aC),Z.2,(Z.2+aC),(Z.2+aC)))
         else none
        else none
       else
        some (((0:Int),([]:List UInt8),Z.2,Z.2,Z.2))
    else none
   else none
section
variable (O:((List UInt8)×(Int×Unit)))
@[reducible] def a1E:List Slot:=[(.val .ref (some (0,0)),none)]
@[reducible] def a1F:List Blk:=[.cells AF O []]
@[go_sem] def a1G:Ret:=⟨[((yH O)).isSome=true],[(.val uT ((val (yH O)).1,((val (yH O)).2.1,((val (yH O)).2.2.1,((val (yH O)).2.2.2.1,())))),none)],[.cells AF (O.1,((val (yH O)).2.2.2.2,())) []]⟩
def aAt:List Slot→List Blk→Option Ret:=pM (V:=((List UInt8)×(Int×Unit))) (fun x=>a1E) (fun x=>a1F x) fun x=>a1G x
@[go_sem] theorem aLJ:aAt (no_index a1E) (no_index (a1F O))=some (a1G O):=pN (fun a0 b0 h1 h2=>by cases h1;cases h2;rfl) O
end
@[reducible,go_sem] def a1H:Nat×Sig:=(40,⟨[.p AF []],aAt,[],[],none⟩)
theorem sV:Env Tryz.prog [sE,q8,KG,wM] (pE [a9V,aAq,TZ,a9b]):=⟨⟨sL,⟨qA,⟨TA,⟨yC,trivial⟩⟩⟩⟩,oZ aGi (oZ aGu (oZ a7u (oZ aF0 pP))),pH⟩
theorem aAu:pI Tryz.prog a1H:=by
 refine pO sV Tryz.func40 (c:=_) rfl (N:=87) (by kernel_rfl) (ts:=[(2,some 58)]) rfl (fun _ _=>rfl) ?_
 intro O hs hrow
 dsimp only[a1E,a1F,a1G,pK,enumH,pD,pG,pL,Nat.reduceAdd] at hs hrow⊢
 have hz:=hs
 obtain⟨z0,hC0⟩:=Option.isSome_iff_exists.1 hz
 try rw[pW hC0]
 clear hz hs
 unfold yH at hC0
 refine oS sV ?_
 refine p4 ?_
 obtain⟨Z,hv1,hw1,hC0⟩:=p9 hC0
 try simp only[go_sem] at hw1
 refine oS sV ?_ (hp:=by exact(p8 hv1)) (h:=by simp only[go_sem,hw1];rfl)
 refine oX hC0 (fun hC0 hc1=> ?_) (fun hC0 hc1=> ?_)
 ·refine qR sV ?_
  refine oV (pC ?_)
  cases hC0
  exact⟨[(0,0)],by rfl,by rfl,by rfl⟩
 ·refine p7 (oW ?_)
  refine oS sV ?_
  refine p4 ?_
  refine oS sV ?_
  refine oX hC0 (fun hC0 hc2=> ?_) (fun hC0 hc2=> ?_)
  ·refine oS sV ?_
   refine oV (pC ?_)
   cases hC0
   exact⟨[(0,0)],by rfl,by rfl,by rfl⟩
  ·refine p7 (oW ?_)
   obtain⟨hg2,hC0⟩:=oU hC0
   refine oS sV ?_ (hp:=by exact hg2)
   refine oS sV ?_
   refine p4 ?_
   obtain⟨hg3,hC0⟩:=oU hC0
   refine oS sV ?_ (hp:=by exact hg3)
   refine pU ?_
   refine oS sV ?_ (hp:=by exact And.intro (fun hh=>hh) ((fun hh=>sH hh)))
   refine oX hC0 (fun hC0 hc3=> ?_) (fun hC0 hc3=> ?_)
   ·obtain⟨hg4,hC0⟩:=oU hC0
    obtain⟨hg5,hC0⟩:=oU hC0
    refine pF sV ?_ (hp:=by exact And.intro hg4 (hg5))
    refine pB (oW ?_)
    refine oS sV ?_
    refine oS sV ?_
    refine oV ?_
    cases hC0
    exact⟨[(0,0)],by rfl,by rfl,by rfl⟩
   ·refine oS sV ?_
    refine oX hC0 (fun hC0 hc4=> ?_) (fun hC0 hc4=> ?_)
    ·obtain⟨aA,hv6,hw6,hC0⟩:=p9 hC0
     try simp only[go_sem] at hw6
     refine pF sV ?_ (hp:=by exact(p8 hv6)) (h:=by simp only[go_sem,hw6];rfl)
     refine pB (oW ?_)
     refine oS sV ?_
     refine oS sV ?_
     refine oV ?_
     cases hC0
     exact⟨[(0,0)],by rfl,by rfl,by rfl⟩
    ·refine oS sV ?_
     refine oX hC0 (fun hC0 hc5=> ?_) (fun hC0 hc5=> ?_)
     ·obtain⟨aB,hv7,hw7,hC0⟩:=p9 hC0
      try simp only[go_sem] at hw7
      refine oS sV ?_ (hp:=by exact(p8 hv7)) (h:=by simp only[go_sem,hw7];rfl)
      refine p4 ?_
      refine oS sV ?_
      obtain⟨aC,hC1,hC0⟩:=oY hC0
      refine y6 (fun s=>s=(fun x=>⟨[(0,(.val .ref (some (0,0)),none)),(2,(.val .ref (some (1,0)),none)),(3,(.val (.int .i64) Z.2,none)),(4,(.val .str (p5 O.1 Z.2 (List.length O.1:Int)),none)),(5,(.val .ref (some (2,0)),none)),(7,(.val (.int .i64) x,none))],[(0,.cells AF (O.1,(Z.2,())) []),(1,.cells uT ((0:Int),(([]:List UInt8),((0:Int),((0:Int),())))) []),(2,.cells uT ((0:Int),(([]:List UInt8),(Z.2,(Z.2,())))) [])],3,87,1⟩) aC) ?_ ?_
      ·refine oX hC1 (fun hC1 hc6=> ?_) (fun hC1 hc6=> ?_)
       ·refine pF sV ?_
        cases hC1
        exact rL ⟨⟨[0,2,3,4,5,7],[(0,0),(1,1),(2,417)]⟩,by rfl⟩
       ·refine p7 ?_
        cases hC1
        exact rL ⟨⟨[0,2,3,4,5,7],[(0,0),(1,1),(2,417)]⟩,by rfl⟩
      ·rintro _ rfl
       dsimp only at hC0⊢
       refine oW ?_
       obtain⟨hg8,hC0⟩:=oU hC0
       obtain⟨hg9,hC0⟩:=oU hC0
       refine pF sV ?_ (hp:=by exact And.intro hg8 (hg9))
       refine pB (oW ?_)
       refine oS sV ?_
       refine oS sV ?_
       refine oV ?_
       cases hC0
       exact⟨[(0,0)],by rfl,by rfl,by rfl⟩
     ·refine p7 (pB (oW ?_))
      refine oS sV ?_
      refine oS sV ?_
      refine oV ?_
      cases hC0
      exact⟨[(0,0)],by rfl,by rfl,by rfl⟩
attribute [irreducible] yH
def zX (O:tC) (Z:pX) (aA:Bool):(Int×Int×Int×(List UInt8)×(List UInt8)×(List (List UInt8))×(List (List UInt8))×Int×(List p6)×Bool×Bool×Bool)→Option ((Int×Int×Int×(List UInt8)×(List UInt8)×(List (List UInt8))×(List (List UInt8))×Int×(List p6)×Bool×Bool×Bool)⊕((Int×Int×Int×(List UInt8)×(List UInt8)×(List (List UInt8))×(List (List UInt8))×Int×(List p6))⊕(Int×Int×Int×(List Int)×(List UInt8)×(List UInt8)×(List (List UInt8))×(List (List UInt8))×Int×(List p6)))):=fun(aB,aC,aD,aE,aF,aG,aH,aI,aJ,aK,aL,aM)=>
 if (decide (aD=(0:Int)))=true then
  (zW O.1 aB).bind fun aN=>
  if ((decide (aN.1=(3:Int)))&&(decide (aN.2.1=([125]:List UInt8))))=true then
   if (List.length ([]:List Int)+List.length O.2.2.2.2.2.1)*8≤140737488355328 then
    if (List.length (([]:List Int)++O.2.2.2.2.2.1)+List.length ([aN.2.2.2]:List Int))*8≤140737488355328 then
     some (.inr (.inr ((aN.2.2.2,aC,aD,((([]:List Int)++O.2.2.2.2.2.1)++([aN.2.2.2]:List Int)),aE,aF,aG,aH,aI,aJ))))
    else none
   else none
  else
   if (!decide (aN.1=(2:Int)))=true then
    q6 (tP (O.1,(aB,(aC,(aD,((O.2.2.2.2.1.1,(O.2.2.2.2.1.2.1,(O.2.2.2.2.1.2.2.1,(O.2.2.2.2.1.2.2.2.1,())))),(O.2.2.2.2.2.1,())))))) (aN.1,(aN.2.1,(aN.2.2.1,(aN.2.2.2,())))) (3:Int)) fun aO=>
    some (.inr (.inr ((aB,aO.1,aO.2,O.2.2.2.2.2.1,aE,aF,aG,aH,aI,aJ))))
   else
    (sN (O.1,(aN.2.2.2,(aC,(aD,((O.2.2.2.2.1.1,(O.2.2.2.2.1.2.1,(O.2.2.2.2.1.2.2.1,(O.2.2.2.2.1.2.2.2.1,())))),(O.2.2.2.2.2.1,())))))) (Z.1,(aE,(aF,(aG,(aH,(aI,(aJ,()))))))) (aK,(aL,(aM,()))) (aN.1,(aN.2.1,(aN.2.2.1,(aN.2.2.2,())))) aA).bind fun aP=>
    some (.inl (aP.1,aP.2.1,aP.2.2.1,aP.2.2.2.1,aP.2.2.2.2.1,aP.2.2.2.2.2.1,aP.2.2.2.2.2.2.1,aP.2.2.2.2.2.2.2.1,aP.2.2.2.2.2.2.2.2.1,aP.2.2.2.2.2.2.2.2.2.1,aP.2.2.2.2.2.2.2.2.2.2.1,aP.2.2.2.2.2.2.2.2.2.2.2))
 else
  some (.inr (.inl (aB,aC,aD,aE,aF,aG,aH,aI,aJ)))
def uW (O:tC) (Z:pX) (aA:Bool):Option (Int×Int×Int×(List Int)×(List UInt8)×(List UInt8)×(List (List UInt8))×(List (List UInt8))×Int×(List p6)):=
 (sU O (3:Int) ([123]:List UInt8)).bind fun aB=>
 qQ (pT (zX O Z aA) (aB.1,aB.2.1,aB.2.2.1,Z.2.1,Z.2.2.1,Z.2.2.2.1,Z.2.2.2.2.1,Z.2.2.2.2.2.1,Z.2.2.2.2.2.2.1,false,false,false)) fun(aC,aD,aE,aF,aG,aH,aI,aJ,aK)=>
 some ((aC,aD,aE,O.2.2.2.2.2.1,aF,aG,aH,aI,aJ,aK))
section
variable (O:tC) (Z:pX) (aA:Bool)
@[reducible] def a1I:List Slot:=[(.val s0 O,none),(.val qH Z,none),(.val .bool aA,none)]
@[reducible] def a1J:List Blk:=[]
@[go_sem] def a1K:Ret:=⟨[((uW O Z aA)).isSome=true],[(.val s0 (O.1,((val (uW O Z aA)).1,((val (uW O Z aA)).2.1,((val (uW O Z aA)).2.2.1,((O.2.2.2.2.1.1,(O.2.2.2.2.1.2.1,(O.2.2.2.2.1.2.2.1,(O.2.2.2.2.1.2.2.2.1,())))),((val (uW O Z aA)).2.2.2.1,())))))),none),(.val qH (Z.1,((val (uW O Z aA)).2.2.2.2.1,((val (uW O Z aA)).2.2.2.2.2.1,((val (uW O Z aA)).2.2.2.2.2.2.1,((val (uW O Z aA)).2.2.2.2.2.2.2.1,((val (uW O Z aA)).2.2.2.2.2.2.2.2.1,((val (uW O Z aA)).2.2.2.2.2.2.2.2.2,()))))))),none)],[]⟩
def aAv:List Slot→List Blk→Option Ret:=pM (V:=(tC×pX×Bool)) (fun x=>a1I x.1 x.2.1 x.2.2) (fun x=>a1J) fun x=>a1K x.1 x.2.1 x.2.2
@[go_sem] theorem aLK:aAv (no_index (a1I O Z aA)) (no_index a1J)=some (a1K O Z aA):=pN (fun⟨a0,a1,a2⟩ ⟨b0,b1,b2⟩ h1 h2=>by cases h1;cases h2;rfl) (O,Z,aA)
end
@[reducible,go_sem] def a1L:Nat×Sig:=(79,⟨[.v,.v,.v],aAv,[],[],none⟩)
theorem xK:Env Tryz.prog [sE,q8,w4,xH,CI,AI,AJ,OB] (pE [GC,a1b,DZ,aAs]):=⟨⟨sL,⟨qA,⟨xI,⟨yW,⟨FV,⟨CG,⟨CH,⟨a7b,trivial⟩⟩⟩⟩⟩⟩⟩⟩,oZ I9 (oZ aAa (oZ FX (oZ aGv pP))),pH⟩
theorem aAw:pI Tryz.prog a1L:=by
 refine pO xK Tryz.func79 (c:=_) rfl (N:=67) (by kernel_rfl) (ts:=[(6,some 91),(7,some 52)]) rfl (fun _ _=>rfl) ?_
 intro⟨O,Z,aA⟩ hs hrow
 dsimp only[a1I,a1J,a1K,pK,enumH,pD,pG,pL,Nat.reduceAdd] at hs hrow⊢
 have hz:=hs
 obtain⟨z0,hC0⟩:=Option.isSome_iff_exists.1 hz
 try rw[pW hC0]
 clear hz hs
 unfold uW at hC0
 refine oS xK ?_
 obtain⟨aB,hv1,hw1,hC0⟩:=p9 hC0
 try simp only[go_sem] at hw1
 refine oS xK ?_ (hp:=by exact(p8 hv1)) (h:=by simp only[go_sem,hw1];rfl)
 refine oS xK ?_
 refine p4 (pU ?_)
 obtain⟨y1,hy1,hC0⟩:=sK hC0
 refine rI 0 (fun s=> ∃v,y1= .inl v∧s=(fun x=>⟨[(3,(.val .ref (some (0,0)),none)),(4,(.val .ref (some (1,0)),none)),(6,(.val .ref (some (2,0)),none)),(7,(.val .ref (some (3,0)),none))],[(0,.cells s0 (O.1,(x.1,(x.2.1,(x.2.2.1,((O.2.2.2.2.1.1,(O.2.2.2.2.1.2.1,(O.2.2.2.2.1.2.2.1,(O.2.2.2.2.1.2.2.2.1,())))),(O.2.2.2.2.2.1,())))))) []),(1,.cells qH (Z.1,(x.2.2.2.1,(x.2.2.2.2.1,(x.2.2.2.2.2.1,(x.2.2.2.2.2.2.1,(x.2.2.2.2.2.2.2.1,(x.2.2.2.2.2.2.2.2,()))))))) []),(2,.cells s0 (([]:List UInt8),((0:Int),((0:Int),((0:Int),((([]:List UInt8),(([]:List (List UInt8)),(([]:List p6),(([]:List pX),())))),(([]:List Int),())))))) [(5,4),(6,5),(7,6),(8,7)]),(3,.cells qH (([]:List UInt8),(([]:List UInt8),(([]:List UInt8),(([]:List (List UInt8)),(([]:List (List UInt8)),((0:Int),(([]:List p6),()))))))) [(3,8),(4,9),(6,10)]),(4,.grow 9 1 (List.length ([]:List (List UInt8)))),(5,.grow 144 2 (List.length ([]:List p6))),(6,.grow 52 7 (List.length ([]:List pX))),(7,.grow 3 1 (List.length ([]:List Int))),(8,.grow 9 1 (List.length ([]:List (List UInt8)))),(9,.grow 9 1 (List.length ([]:List (List UInt8)))),(10,.grow 144 2 (List.length ([]:List p6)))],11,67,0⟩) v) ?_ ?_
 ·refine rH hy1 (fun x=>⟨[(2,(.val .bool aA,none)),(3,(.val .ref (some (0,0)),none)),(4,(.val .ref (some (1,0)),none)),(6,(.val .ref (some (2,0)),none)),(7,(.val .ref (some (3,0)),none)),(8,(.val .ref (some (4,0)),none))],[(0,.cells s0 (O.1,(x.1,(x.2.1,(x.2.2.1,((O.2.2.2.2.1.1,(O.2.2.2.2.1.2.1,(O.2.2.2.2.1.2.2.1,(O.2.2.2.2.1.2.2.2.1,())))),(O.2.2.2.2.2.1,())))))) []),(1,.cells qH (Z.1,(x.2.2.2.1,(x.2.2.2.2.1,(x.2.2.2.2.2.1,(x.2.2.2.2.2.2.1,(x.2.2.2.2.2.2.2.1,(x.2.2.2.2.2.2.2.2.1,()))))))) []),(2,.cells s0 (([]:List UInt8),((0:Int),((0:Int),((0:Int),((([]:List UInt8),(([]:List (List UInt8)),(([]:List p6),(([]:List pX),())))),(([]:List Int),())))))) [(5,5),(6,6),(7,7),(8,8)]),(3,.cells qH (([]:List UInt8),(([]:List UInt8),(([]:List UInt8),(([]:List (List UInt8)),(([]:List (List UInt8)),((0:Int),(([]:List p6),()))))))) [(3,9),(4,10),(6,11)]),(4,.cells DT (x.2.2.2.2.2.2.2.2.2.1,(x.2.2.2.2.2.2.2.2.2.2.1,(x.2.2.2.2.2.2.2.2.2.2.2,()))) []),(5,.grow 9 1 (List.length ([]:List (List UInt8)))),(6,.grow 144 2 (List.length ([]:List p6))),(7,.grow 52 7 (List.length ([]:List pX))),(8,.grow 3 1 (List.length ([]:List Int))),(9,.grow 9 1 (List.length ([]:List (List UInt8)))),(10,.grow 9 1 (List.length ([]:List (List UInt8)))),(11,.grow 144 2 (List.length ([]:List p6)))],12,67,0⟩) ⟨[2,3,4,6,7,8],[(0,0),(1,16),(2,32),(3,48),(4,160),(5,33),(6,34),(7,35),(8,36),(9,49),(10,50),(11,51)]⟩ (by rfl) ?_
  intro x1 w1 n1 hC1 hN1
  obtain⟨aC,aD,aE,aF,aG,aH,aI,aJ,aK,aL,aM,aN⟩:=x1
  unfold zX at hC1
  dsimp only at hC1⊢
  refine p4 ?_
  refine oS xK ?_
  refine oX hC1 (fun hC1 hc1=> ?_) (fun hC1 hc1=> ?_)
  ·refine p7 (oW (pU ?_))
   obtain⟨aO,hv2,hw2,hC1⟩:=p9 hC1
   try simp only[go_sem] at hw2
   refine oS xK ?_ (hp:=by exact(p8 hv2)) (h:=by simp only[go_sem,hw2];rfl)
   refine p4 ?_
   refine oS xK ?_ (hp:=by exact And.intro (fun hh=>hh) (And.intro (fun hh=>hh) ((fun hh=>pY hh))))
   refine oX hC1 (fun hC1 hc2=> ?_) (fun hC1 hc2=> ?_)
   ·refine oS xK ?_
    obtain⟨hg3,hC1⟩:=oU hC1
    obtain⟨hg4,hC1⟩:=oU hC1
    refine qR xK ?_ (hp:=by exact And.intro (by first|exact rfl|exact trivial) (And.intro hg3 (And.intro (by first|exact rfl|exact trivial) (hg4))))
    refine qR xK ?_
    refine oV (pC (pR (s8 (s7 (pR (pC ?_))))))
    cases hC1
    cases hN1
    dsimp only at hC0
    cases hC0
    exact⟨[],by rfl,by rfl,by rfl⟩
   ·refine p7 (oW (p4 ?_))
    refine oS xK ?_
    refine oX hC1 (fun hC1 hc3=> ?_) (fun hC1 hc3=> ?_)
    ·obtain⟨aP,hw_128,hC1⟩:=rJ hC1
     try simp only[go_sem] at hw_128
     refine qR xK ?_ (h:=by simp only[go_sem,hw_128];rfl)
     refine oV (pC (pR (s8 (s7 (pR (pC ?_))))))
     cases hC1
     cases hN1
     dsimp only at hC0
     cases hC0
     exact⟨[],by rfl,by rfl,by rfl⟩
    ·refine p7 (oW ?_)
     refine oS xK ?_
     obtain⟨aQ,hv5,hw5,hC1⟩:=p9 hC1
     try simp only[go_sem] at hw5
     refine pF xK ?_ (hp:=by exact(p8 hv5)) (h:=by simp only[go_sem,hw5];rfl)
     refine pB ?_
     cases hC1
     exact qG ⟨⟨[2,3,4,6,7,8],[(0,0),(1,1),(2,2),(3,3),(4,4),(5,5),(6,6),(7,7),(8,8),(9,9),(10,10),(11,11)]⟩,_,by rfl,hN1⟩
  ·refine qY (r8 (r5 ?_))
   cases hC1
   cases hN1
   exact qZ ⟨⟨[3,4,6,7],[(0,0),(1,1),(2,2),(3,3),(4,5),(5,6),(6,7),(7,8),(8,9),(9,10),(10,11)]⟩,_,rfl,by rfl⟩
 ·rintro _ ⟨v,rfl,rfl⟩
  obtain⟨aR,aS,aT,aU,aV,aW,aX,aY,aZ⟩:=v
  dsimp only at hC0⊢
  refine rF (oW ?_)
  refine qR xK ?_
  refine oV ?_
  cases hC0
  exact⟨[],by rfl,by rfl,by rfl⟩
attribute [irreducible] uW
end
end Go.Proofs.YtfchbnahjcdiiaaGreatDoor
namespace Go.Proofs.YtfchbnahjcdiiaaGreatDoor
open Vc
set_option maxRecDepth 100000
set_option maxHeartbeats 4000000
set_option linter.unusedSimpArgs false
set_option linter.unusedVariables false
noncomputable section
def qO (O:((List UInt8)×(Int×Unit))) (Z:q9) (aA:Int) (aB:Int) (aC:pZ) (aD:((List Int)×(Int×Unit))) (aE:(List ((List UInt8)×Bool))):Option (Int×Int×(List UInt8)×Int×Int×Int):=
 if (decide (aB=(0:Int)))=true then
  (yH O).bind fun aF=>
  some ((aF.2.2.2.2,aF.1,aF.2.1,aF.2.2.1,aF.2.2.2.1,Z.2.2.2.1))
 else
  some ((O.2.1,Z.1,Z.2.1,Z.2.2.1,Z.2.2.2.1,aD.2.1))
section
variable (O:((List UInt8)×(Int×Unit))) (Z:q9) (aA:Int) (aB:Int) (aC:pZ) (aD:((List Int)×(Int×Unit))) (aE:Nat) (aF:Nat) (aG:(List ((List UInt8)×Bool)))
@[reducible] def a1M:List Slot:=[(.val .ref (some (0,0)),none)]
@[reducible] def a1N:List Blk:=[.cells q7 (O,(Z,(aA,(aB,(aC,((some 3),aD)))))) [(11,1),(13,2)],.grow 52 7 aE,.grow 3 1 aF,.map .str .bool aG]
@[go_sem] def a1O:Ret:=⟨[aE=(List.length aC.2.2.2.1),aF=(List.length aD.1),((qO O Z aA aB aC aD aG)).isSome=true],[],[.cells q7 ((O.1,((val (qO O Z aA aB aC aD aG)).1,())),(((val (qO O Z aA aB aC aD aG)).2.1,((val (qO O Z aA aB aC aD aG)).2.2.1,((val (qO O Z aA aB aC aD aG)).2.2.2.1,((val (qO O Z aA aB aC aD aG)).2.2.2.2.1,())))),(aA,(aB,((aC.1,(aC.2.1,(aC.2.2.1,(aC.2.2.2.1,())))),((some 3),(aD.1,((val (qO O Z aA aB aC aD aG)).2.2.2.2.2,())))))))) [(11,1),(13,2)],.grow 52 7 (List.length aC.2.2.2.1),.grow 3 1 (List.length aD.1),.map .str .bool aG]⟩
def aAx:List Slot→List Blk→Option Ret:=pM (V:=(((List UInt8)×(Int×Unit))×q9×Int×Int×pZ×((List Int)×(Int×Unit))×Nat×Nat×(List ((List UInt8)×Bool)))) (fun x=>a1M) (fun x=>a1N x.1 x.2.1 x.2.2.1 x.2.2.2.1 x.2.2.2.2.1 x.2.2.2.2.2.1 x.2.2.2.2.2.2.1 x.2.2.2.2.2.2.2.1 x.2.2.2.2.2.2.2.2) fun x=>a1O x.1 x.2.1 x.2.2.1 x.2.2.2.1 x.2.2.2.2.1 x.2.2.2.2.2.1 x.2.2.2.2.2.2.1 x.2.2.2.2.2.2.2.1 x.2.2.2.2.2.2.2.2
@[go_sem] theorem aLL:aAx (no_index a1M) (no_index (a1N O Z aA aB aC aD aE aF aG))=some (a1O O Z aA aB aC aD aE aF aG):=pN (fun⟨a0,a1,a2,a3,a4,a5,a6,a7,a8⟩ ⟨b0,b1,b2,b3,b4,b5,b6,b7,b8⟩ h1 h2=>by cases h1;cases h2;rfl) (O,Z,aA,aB,aC,aD,aE,aF,aG)
end
@[reducible,go_sem] def vH:Nat×Sig:=(115,⟨[.p q7 [11,13]],aAx,[(0,12,.m)],[1,2,3],none⟩)
theorem OP:Env Tryz.prog [sE,w4,wM,vE] (pE [a1H]):=⟨⟨sL,⟨xI,⟨yC,⟨wL,trivial⟩⟩⟩⟩,oZ aAu pP,pH⟩
theorem AR:pI Tryz.prog vH:=by
 refine pO OP Tryz.func115 (c:=_) rfl (N:=22) (by kernel_rfl) (ts:=[]) rfl (fun _ _=>rfl) ?_
 intro⟨O,Z,aA,aB,aC,aD,aE,aF,aG⟩ hs hrow
 dsimp only[a1M,a1N,a1O,pK,enumH,pD,pG,pL,Nat.reduceAdd] at hs hrow⊢
 obtain⟨rfl,rfl,hz⟩:=hs
 obtain⟨z0,hC0⟩:=Option.isSome_iff_exists.1 hz
 try rw[pW hC0]
 clear hz
 unfold qO at hC0
 refine oS OP ?_
 refine oX hC0 (fun hC0 hc1=> ?_) (fun hC0 hc1=> ?_)
 ·refine oS OP ?_
  obtain⟨aH,hv1,hw1,hC0⟩:=p9 hC0
  try simp only[go_sem] at hw1
  refine pF OP ?_ (hp:=by exact(p8 hv1)) (h:=by simp only[go_sem,hw1];rfl)
  cases hC0
  exact⟨[(0,0),(1,1),(2,2),(3,3)],by rfl,by rfl,by rfl⟩
 ·refine p7 ?_
  cases hC0
  exact⟨[(0,0),(1,1),(2,2),(3,3)],by rfl,by rfl,by rfl⟩
attribute [irreducible] qO
def vI (O:((List UInt8)×(Int×Unit))) (Z:q9) (aA:Int) (aB:Int) (aC:pZ) (aD:((List Int)×(Int×Unit))) (aE:(List UInt8)) (aF:(List UInt8)) (aG:(List UInt8)) (aH:(List (List UInt8))) (aI:(Int×((List p6)×Unit))) (aJ:Bool) (aK:(List ((List UInt8)×Bool))) (aL:(List (List UInt8))) (aM:(List ((List UInt8)×Bool))):Option (Int×Int×(List UInt8)×Int×Int×Int×Int×Int):=
 qE (σ:=(Int×Int)) (
   if (qD .str .bool aM Z.2.1)=true then
    q6 (s9 O Z aA aB aC aD (9:Int) aK) fun aN=>
    some ((aN.1,aN.2))
   else
    some ((aA,aB))
  ) fun(aO,aP)=>
 (qO (O.1,(O.2.1,())) (Z.1,(Z.2.1,(Z.2.2.1,(Z.2.2.2.1,())))) aO aP (aC.1,(aC.2.1,(aC.2.2.1,(aC.2.2.2.1,())))) (aD.1,(aD.2.1,())) aK).bind fun aQ=>
 some ((aQ.1,aQ.2.1,aQ.2.2.1,aQ.2.2.2.1,aQ.2.2.2.2.1,aO,aP,aQ.2.2.2.2.2))
section
variable (O:((List UInt8)×(Int×Unit))) (Z:q9) (aA:Int) (aB:Int) (aC:pZ) (aD:((List Int)×(Int×Unit))) (aE:Nat) (aF:Nat) (aG:(List UInt8)) (aH:(List UInt8)) (aI:(List UInt8)) (aJ:(List (List UInt8))) (aK:Nat) (aL:(Int×((List p6)×Unit))) (aM:Bool) (aN:Nat) (aO:Nat) (aP:(List ((List UInt8)×Bool))) (aQ:(List (List UInt8))) (aR:Nat) (aS:(List ((List UInt8)×Bool)))
@[reducible] def a1P:List Slot:=[(.val .ref (some (0,0)),none),(.val .ref (some (3,0)),none)]
@[reducible] def a1Q:List Blk:=[.cells q7 (O,(Z,(aA,(aB,(aC,((some 6),aD)))))) [(11,1),(13,2)],.grow 52 7 aE,.grow 3 1 aF,.cells rA ((aG,(aH,(aI,(aJ,((some (7,aK)),aL))))),(aM,((some 8),()))) [(3,4),(6,5)],.grow 9 1 aN,.grow 144 2 aO,.map .str .bool aP,.row 9 .str aQ aR,.map .str .bool aS]
@[go_sem] def a1R:Ret:=⟨[aE=(List.length aC.2.2.2.1),aF=(List.length aD.1),aN=(List.length aJ),aO=(List.length aL.2.1),aK=aR,((vI O Z aA aB aC aD aG aH aI aJ aL aM aP aQ aS)).isSome=true],[],[.cells q7 ((O.1,((val (vI O Z aA aB aC aD aG aH aI aJ aL aM aP aQ aS)).1,())),(((val (vI O Z aA aB aC aD aG aH aI aJ aL aM aP aQ aS)).2.1,((val (vI O Z aA aB aC aD aG aH aI aJ aL aM aP aQ aS)).2.2.1,((val (vI O Z aA aB aC aD aG aH aI aJ aL aM aP aQ aS)).2.2.2.1,((val (vI O Z aA aB aC aD aG aH aI aJ aL aM aP aQ aS)).2.2.2.2.1,())))),((val (vI O Z aA aB aC aD aG aH aI aJ aL aM aP aQ aS)).2.2.2.2.2.1,((val (vI O Z aA aB aC aD aG aH aI aJ aL aM aP aQ aS)).2.2.2.2.2.2.1,((aC.1,(aC.2.1,(aC.2.2.1,(aC.2.2.2.1,())))),((some 6),(aD.1,((val (vI O Z aA aB aC aD aG aH aI aJ aL aM aP aQ aS)).2.2.2.2.2.2.2,())))))))) [(11,1),(13,2)],.grow 52 7 (List.length aC.2.2.2.1),.grow 3 1 (List.length aD.1),.cells rA ((aG,(aH,(aI,(aJ,((some (7,(List.length aQ))),(aL.1,(aL.2.1,()))))))),(aM,((some 8),()))) [(3,4),(6,5)],.grow 9 1 (List.length aJ),.grow 144 2 (List.length aL.2.1),.map .str .bool aP,.row 9 .str aQ (List.length aQ),.map .str .bool (rC .str .bool Z.2.1 true aS)]⟩
def aAy:List Slot→List Blk→Option Ret:=pM (V:=(((List UInt8)×(Int×Unit))×q9×Int×Int×pZ×((List Int)×(Int×Unit))×Nat×Nat×(List UInt8)×(List UInt8)×(List UInt8)×(List (List UInt8))×Nat×(Int×((List p6)×Unit))×Bool×Nat×Nat×(List ((List UInt8)×Bool))×(List (List UInt8))×Nat×(List ((List UInt8)×Bool)))) (fun x=>a1P) (fun x=>a1Q x.1 x.2.1 x.2.2.1 x.2.2.2.1 x.2.2.2.2.1 x.2.2.2.2.2.1 x.2.2.2.2.2.2.1 x.2.2.2.2.2.2.2.1 x.2.2.2.2.2.2.2.2.1 x.2.2.2.2.2.2.2.2.2.1 x.2.2.2.2.2.2.2.2.2.2.1 x.2.2.2.2.2.2.2.2.2.2.2.1 x.2.2.2.2.2.2.2.2.2.2.2.2.1 x.2.2.2.2.2.2.2.2.2.2.2.2.2.1 x.2.2.2.2.2.2.2.2.2.2.2.2.2.2.1 x.2.2.2.2.2.2.2.2.2.2.2.2.2.2.2.1 x.2.2.2.2.2.2.2.2.2.2.2.2.2.2.2.2.1 x.2.2.2.2.2.2.2.2.2.2.2.2.2.2.2.2.2.1 x.2.2.2.2.2.2.2.2.2.2.2.2.2.2.2.2.2.2.1 x.2.2.2.2.2.2.2.2.2.2.2.2.2.2.2.2.2.2.2.1 x.2.2.2.2.2.2.2.2.2.2.2.2.2.2.2.2.2.2.2.2) fun x=>a1R x.1 x.2.1 x.2.2.1 x.2.2.2.1 x.2.2.2.2.1 x.2.2.2.2.2.1 x.2.2.2.2.2.2.1 x.2.2.2.2.2.2.2.1 x.2.2.2.2.2.2.2.2.1 x.2.2.2.2.2.2.2.2.2.1 x.2.2.2.2.2.2.2.2.2.2.1 x.2.2.2.2.2.2.2.2.2.2.2.1 x.2.2.2.2.2.2.2.2.2.2.2.2.1 x.2.2.2.2.2.2.2.2.2.2.2.2.2.1 x.2.2.2.2.2.2.2.2.2.2.2.2.2.2.1 x.2.2.2.2.2.2.2.2.2.2.2.2.2.2.2.1 x.2.2.2.2.2.2.2.2.2.2.2.2.2.2.2.2.1 x.2.2.2.2.2.2.2.2.2.2.2.2.2.2.2.2.2.1 x.2.2.2.2.2.2.2.2.2.2.2.2.2.2.2.2.2.2.1 x.2.2.2.2.2.2.2.2.2.2.2.2.2.2.2.2.2.2.2.1 x.2.2.2.2.2.2.2.2.2.2.2.2.2.2.2.2.2.2.2.2
@[go_sem] theorem aLM:aAy (no_index a1P) (no_index (a1Q O Z aA aB aC aD aE aF aG aH aI aJ aK aL aM aN aO aP aQ aR aS))=some (a1R O Z aA aB aC aD aE aF aG aH aI aJ aK aL aM aN aO aP aQ aR aS):=pN (fun⟨a0,a1,a2,a3,a4,a5,a6,a7,a8,a9,a10,a11,a12,a13,a14,a15,a16,a17,a18,a19,a20⟩ ⟨b0,b1,b2,b3,b4,b5,b6,b7,b8,b9,b10,b11,b12,b13,b14,qI,b16,b17,b18,b19,b20⟩ h1 h2=>by cases h1;cases h2;rfl) (O,Z,aA,aB,aC,aD,aE,aF,aG,aH,aI,aJ,aK,aL,aM,aN,aO,aP,aQ,aR,aS)
end
@[reducible,go_sem] def GD:Nat×Sig:=(189,⟨[.p q7 [11,13],.p rA [3,6]],aAy,[(0,12,.m),(3,4,.r),(3,8,.m)],[1,2,3,4,5,6,7],none⟩)
theorem aAz:Env Tryz.prog [] (pE [wN,vH]):=⟨trivial,oZ BH (oZ AR pP),pH⟩
theorem OQ:Env Tryz.prog [BE,q8,wM,FU,vE,yX] (pE [wN,vH]):=⟨⟨DU,⟨qA,⟨yC,⟨KE,⟨wL,⟨AK,trivial⟩⟩⟩⟩⟩⟩,aAz.Γ,pH⟩
theorem a1S:pI Tryz.prog GD:=by
 refine pO aAz Tryz.func189 (c:=_) rfl (N:=27) (by kernel_rfl) (ts:=[]) rfl (fun _ _=>rfl) ?_
 intro⟨O,Z,aA,aB,aC,aD,aE,aF,aG,aH,aI,aJ,aK,aL,aM,aN,aO,aP,aQ,aR,aS⟩ hs hrow
 dsimp only[a1P,a1Q,a1R,pK,enumH,pD,pG,pL,Nat.reduceAdd] at hs hrow⊢
 obtain⟨rfl,rfl,rfl,rfl,rfl,hz⟩:=hs
 obtain⟨rfl,_⟩:=hrow
 obtain⟨z0,hC0⟩:=Option.isSome_iff_exists.1 hz
 try rw[pW hC0]
 clear hz
 unfold vI at hC0
 refine p4 ?_
 refine qR OQ ?_
 obtain⟨y1,hC1,hC0⟩:=oY hC0
 refine y6 (fun s=>s=(fun x=>⟨[(0,(.val .ref (some (0,0)),none)),(1,(.val .ref (some (3,0)),none))],[(0,.cells q7 ((O.1,(O.2.1,())),((Z.1,(Z.2.1,(Z.2.2.1,(Z.2.2.2.1,())))),(x.1,(x.2,((aC.1,(aC.2.1,(aC.2.2.1,(aC.2.2.2.1,())))),((some 6),(aD.1,(aD.2.1,())))))))) [(11,1),(13,2)]),(1,.grow 52 7 (List.length aC.2.2.2.1)),(2,.grow 3 1 (List.length aD.1)),(3,.cells rA ((aG,(aH,(aI,(aJ,((some (7,(List.length aQ))),(aL.1,(aL.2.1,()))))))),(aM,((some 8),()))) [(3,4),(6,5)]),(4,.grow 9 1 (List.length aJ)),(5,.grow 144 2 (List.length aL.2.1)),(6,.map .str .bool aP),(7,.row 9 .str aQ (List.length aQ)),(8,.map .str .bool aS)],9,27,9⟩) y1) ?_ ?_
 ·refine oX hC1 (fun hC1 hc1=> ?_) (fun hC1 hc1=> ?_)
  ·obtain⟨aT,hw_38,hC1⟩:=rJ hC1
   try simp only[go_sem] at hw_38
   refine pF OQ ?_ (hp:=by exact And.intro (by first|exact rfl|exact trivial) (And.intro (by first|exact rfl|exact trivial) (And.intro (by first|exact rfl|exact trivial) (And.intro (by first|exact rfl|exact trivial) ((by first|exact rfl|exact trivial)))))) (h:=by simp only[go_sem,hw_38];rfl)
   cases hC1
   exact rL ⟨⟨[0,1],[(0,0),(1,1),(2,2),(3,3),(4,4),(5,5),(6,6),(7,7),(8,8)]⟩,by rfl⟩
  ·refine p7 ?_
   cases hC1
   exact rL ⟨⟨[0,1],[(0,0),(1,1),(2,2),(3,3),(4,4),(5,5),(6,6),(7,7),(8,8)]⟩,by rfl⟩
 ·rintro _ rfl
  obtain⟨aU,aV⟩:=y1
  dsimp only at hC0⊢
  refine oW ?_
  refine qR OQ ?_
  obtain⟨aW,hv1,hw1,hC0⟩:=p9 hC0
  try simp only[go_sem] at hw1
  refine pF OQ ?_ (hp:=by exact And.intro (by first|exact rfl|exact trivial) (And.intro (by first|exact rfl|exact trivial) (And.intro (by first|exact rfl|exact trivial) (And.intro (by first|exact rfl|exact trivial) (And.intro (by first|exact rfl|exact trivial) ((p8 hv1))))))) (h:=by simp only[go_sem,hw1];rfl)
  cases hC0
  exact⟨[(0,0),(1,1),(2,2),(3,3),(4,4),(5,5),(6,6),(7,7),(8,8)],by rfl,by rfl,by rfl⟩
attribute [irreducible] vI
def xL (O:tC):Option (Int×Int×Int×(List UInt8)×(List (List UInt8))×(List p6)×(List Int)):=
 (sU O (2:Int) ([99,97,116,97,108,111,103]:List UInt8)).bind fun Z=>
 (sU (O.1,(Z.1,(Z.2.1,(Z.2.2.1,((O.2.2.2.2.1.1,(O.2.2.2.2.1.2.1,(O.2.2.2.2.1.2.2.1,(O.2.2.2.2.1.2.2.2.1,())))),(O.2.2.2.2.2.1,())))))) (1:Int) ([]:List UInt8)).bind fun aA=>
 if (((decide (aA.2.2.1=(0:Int)))==true)=true→((ED aA.2.2.2.2.1)).isSome=true) then
  qE (σ:=(Int×Int)) (
    if ((decide (aA.2.2.1=(0:Int)))&&(!(val (ED aA.2.2.2.2.1))))=true then
     q6 (tP (O.1,(aA.1,(aA.2.1,(aA.2.2.1,((O.2.2.2.2.1.1,(O.2.2.2.2.1.2.1,(O.2.2.2.2.1.2.2.1,(O.2.2.2.2.1.2.2.2.1,())))),(O.2.2.2.2.2.1,())))))) (aA.2.2.2.1,(aA.2.2.2.2.1,(aA.2.2.2.2.2.1,(aA.2.2.2.2.2.2,())))) (3:Int)) fun aB=>
     some ((aB.1,aB.2))
    else
     some ((aA.2.1,aA.2.2.1))
   ) fun(aC,aD)=>
  (uW (O.1,(aA.1,(aC,(aD,((O.2.2.2.2.1.1,(O.2.2.2.2.1.2.1,(O.2.2.2.2.1.2.2.1,(O.2.2.2.2.1.2.2.2.1,())))),(O.2.2.2.2.2.1,())))))) (([]:List UInt8),(([]:List UInt8),(([]:List UInt8),(([]:List (List UInt8)),(([]:List (List UInt8)),((0:Int),(([]:List p6),()))))))) true).bind fun aE=>
  some ((aE.1,aE.2.1,aE.2.2.1,aA.2.2.2.2.1,aE.2.2.2.2.2.2.1,aE.2.2.2.2.2.2.2.2.2,aE.2.2.2.1))
 else none
section
variable (O:tC)
@[reducible] def a1T:List Slot:=[(.val s0 O,none)]
@[reducible] def a1U:List Blk:=[]
@[go_sem] def a1V:Ret:=⟨[((xL O)).isSome=true],[(.val s0 (O.1,((val (xL O)).1,((val (xL O)).2.1,((val (xL O)).2.2.1,(((val (xL O)).2.2.2.1,((val (xL O)).2.2.2.2.1,((val (xL O)).2.2.2.2.2.1,(([]:List pX),())))),((val (xL O)).2.2.2.2.2.2,())))))),none)],[]⟩
def aAA:List Slot→List Blk→Option Ret:=pM (V:=tC) (fun x=>a1T x) (fun x=>a1U) fun x=>a1V x
@[go_sem] theorem aLN:aAA (no_index (a1T O)) (no_index a1U)=some (a1V O):=pN (fun a0 b0 h1 h2=>by cases h1;cases h2;rfl) O
end
@[reducible,go_sem] def aAB:Nat×Sig:=(43,⟨[.v],aAA,[],[],none⟩)
theorem D3:Env Tryz.prog [q8,vZ,yA,yB,w4,xH,AI,AJ] (pE [GC,a9h,DZ,a1L]):=⟨⟨qA,⟨xG,⟨zR,⟨zT,⟨xI,⟨yW,⟨CG,⟨CH,trivial⟩⟩⟩⟩⟩⟩⟩⟩,oZ I9 (oZ aF3 (oZ FX (oZ aAw pP))),pH⟩
theorem aGw:pI Tryz.prog aAB:=by
 refine pO D3 Tryz.func43 (c:=_) rfl (N:=42) (by kernel_rfl) (ts:=[(2,some 91)]) rfl (fun _ _=>rfl) ?_
 intro O hs hrow
 dsimp only[a1T,a1U,a1V,pK,enumH,pD,pG,pL,Nat.reduceAdd] at hs hrow⊢
 have hz:=hs
 obtain⟨z0,hC0⟩:=Option.isSome_iff_exists.1 hz
 try rw[pW hC0]
 clear hz hs
 unfold xL at hC0
 refine oS D3 ?_
 obtain⟨Z,hv1,hw1,hC0⟩:=p9 hC0
 try simp only[go_sem] at hw1
 refine oS D3 ?_ (hp:=by exact(p8 hv1)) (h:=by simp only[go_sem,hw1];rfl)
 obtain⟨aA,hv2,hw2,hC0⟩:=p9 hC0
 try simp only[go_sem] at hw2
 refine oS D3 ?_ (hp:=by exact(p8 hv2)) (h:=by simp only[go_sem,hw2];rfl)
 refine p4 ?_
 obtain⟨hg3,hC0⟩:=oU hC0
 refine oS D3 ?_ (hp:=by exact And.intro (fun hh=>hh) (And.intro (fun hh=>hh) (And.intro hg3 (And.intro (fun hh=>hh) ((fun hh=>pY hh))))))
 obtain⟨y1,hC1,hC0⟩:=oY hC0
 refine y6 (fun s=>s=(fun x=>⟨[(1,(.val .ref (some (0,0)),none)),(2,(.val .ref (some (1,0)),none)),(3,(.val .ref (some (2,0)),none))],[(0,.cells s0 (O.1,(aA.1,(x.1,(x.2,((O.2.2.2.2.1.1,(O.2.2.2.2.1.2.1,(O.2.2.2.2.1.2.2.1,(O.2.2.2.2.1.2.2.2.1,())))),(O.2.2.2.2.2.1,())))))) []),(1,.cells s0 (([]:List UInt8),((0:Int),((0:Int),((0:Int),((([]:List UInt8),(([]:List (List UInt8)),(([]:List p6),(([]:List pX),())))),(([]:List Int),())))))) [(5,3),(6,4),(7,5),(8,6)]),(2,.cells uT (aA.2.2.2.1,(aA.2.2.2.2.1,(aA.2.2.2.2.2.1,(aA.2.2.2.2.2.2,())))) []),(3,.grow 9 1 (List.length ([]:List (List UInt8)))),(4,.grow 144 2 (List.length ([]:List p6))),(5,.grow 52 7 (List.length ([]:List pX))),(6,.grow 3 1 (List.length ([]:List Int)))],7,42,0⟩) y1) ?_ ?_
 ·refine oX hC1 (fun hC1 hc1=> ?_) (fun hC1 hc1=> ?_)
  ·obtain⟨aB,hw_21,hC1⟩:=rJ hC1
   try simp only[go_sem] at hw_21
   refine pF D3 ?_ (h:=by simp only[go_sem,hw_21];rfl)
   cases hC1
   exact rL ⟨⟨[1,2,3],[(0,0),(1,16),(2,208),(3,17),(4,18),(5,19),(6,20)]⟩,by rfl⟩
  ·refine p7 ?_
   cases hC1
   exact rL ⟨⟨[1,2,3],[(0,0),(1,16),(2,208),(3,17),(4,18),(5,19),(6,20)]⟩,by rfl⟩
 ·rintro _ rfl
  obtain⟨aC,aD⟩:=y1
  dsimp only at hC0⊢
  refine oW ?_
  obtain⟨aE,hv4,hw4,hC0⟩:=p9 hC0
  try simp only[go_sem] at hw4
  refine oS D3 ?_ (hp:=by exact(p8 hv4)) (h:=by simp only[go_sem,hw4];rfl)
  refine oS D3 ?_
  refine oS D3 ?_
  refine oV ?_
  cases hC0
  exact⟨[],by rfl,by rfl,by rfl⟩
attribute [irreducible] xL
end
end Go.Proofs.YtfchbnahjcdiiaaGreatDoor
namespace Go.Proofs.YtfchbnahjcdiiaaGreatDoor
open Vc
set_option maxRecDepth 100000
set_option maxHeartbeats 4000000
set_option linter.unusedSimpArgs false
set_option linter.unusedVariables false
noncomputable section
def wO (O:((List UInt8)×(Int×Unit))) (Z:q9) (aA:Int) (aB:Int) (aC:pZ) (aD:((List Int)×(Int×Unit))) (aE:Int) (aF:Bool) (aG:(List ((List UInt8)×Bool))):Option (Int×Int×(List UInt8)×Int×Int×Int×Int×Int):=
 if ((!decide (Z.1=aE))||(!true))=true then
  q6 (s9 O Z aA aB aC aD (3:Int) aG) fun aH=>
  (qO (O.1,(O.2.1,())) (Z.1,(Z.2.1,(Z.2.2.1,(Z.2.2.2.1,())))) aH.1 aH.2 (aC.1,(aC.2.1,(aC.2.2.1,(aC.2.2.2.1,())))) (aD.1,(aD.2.1,())) aG).bind fun aI=>
  some ((aI.1,aI.2.1,aI.2.2.1,aI.2.2.2.1,aI.2.2.2.2.1,aH.1,aH.2,aI.2.2.2.2.2))
 else
  if false=true then
   q6 (s9 O Z aA aB aC aD (9:Int) aG) fun aJ=>
   (qO (O.1,(O.2.1,())) (Z.1,(Z.2.1,(Z.2.2.1,(Z.2.2.2.1,())))) aJ.1 aJ.2 (aC.1,(aC.2.1,(aC.2.2.1,(aC.2.2.2.1,())))) (aD.1,(aD.2.1,())) aG).bind fun aK=>
   some ((aK.1,aK.2.1,aK.2.2.1,aK.2.2.2.1,aK.2.2.2.2.1,aJ.1,aJ.2,aK.2.2.2.2.2))
  else
   if aF=true then
    q6 (s9 O Z aA aB aC aD (6:Int) aG) fun aL=>
    (qO (O.1,(O.2.1,())) (Z.1,(Z.2.1,(Z.2.2.1,(Z.2.2.2.1,())))) aL.1 aL.2 (aC.1,(aC.2.1,(aC.2.2.1,(aC.2.2.2.1,())))) (aD.1,(aD.2.1,())) aG).bind fun aM=>
    some ((aM.1,aM.2.1,aM.2.2.1,aM.2.2.2.1,aM.2.2.2.2.1,aL.1,aL.2,aM.2.2.2.2.2))
   else
    (qO O Z aA aB aC aD aG).bind fun aN=>
    some ((aN.1,aN.2.1,aN.2.2.1,aN.2.2.2.1,aN.2.2.2.2.1,aA,aB,aN.2.2.2.2.2))
section
variable (O:Int) (Z:Bool) (aA:((List UInt8)×(Int×Unit))) (aB:q9) (aC:Int) (aD:Int) (aE:pZ) (aF:((List Int)×(Int×Unit))) (aG:Nat) (aH:Nat) (aI:(List ((List UInt8)×Bool)))
@[reducible] def a1W:List Slot:=[(.val .ref (some (0,0)),none),(.val (.int .i64) O,none),(.val .clo (some (212,[])),none),(.val .clo (some (72,[])),none),(.val .bool Z,none)]
@[reducible] def a1X:List Blk:=[.cells q7 (aA,(aB,(aC,(aD,(aE,((some 3),aF)))))) [(11,1),(13,2)],.grow 52 7 aG,.grow 3 1 aH,.map .str .bool aI]
@[go_sem] def a1Y:Ret:=⟨[aG=(List.length aE.2.2.2.1),aH=(List.length aF.1),((wO aA aB aC aD aE aF O Z aI)).isSome=true],[(.val .str aB.2.1,none)],[.cells q7 ((aA.1,((val (wO aA aB aC aD aE aF O Z aI)).1,())),(((val (wO aA aB aC aD aE aF O Z aI)).2.1,((val (wO aA aB aC aD aE aF O Z aI)).2.2.1,((val (wO aA aB aC aD aE aF O Z aI)).2.2.2.1,((val (wO aA aB aC aD aE aF O Z aI)).2.2.2.2.1,())))),((val (wO aA aB aC aD aE aF O Z aI)).2.2.2.2.2.1,((val (wO aA aB aC aD aE aF O Z aI)).2.2.2.2.2.2.1,((aE.1,(aE.2.1,(aE.2.2.1,(aE.2.2.2.1,())))),((some 3),(aF.1,((val (wO aA aB aC aD aE aF O Z aI)).2.2.2.2.2.2.2,())))))))) [(11,1),(13,2)],.grow 52 7 (List.length aE.2.2.2.1),.grow 3 1 (List.length aF.1),.map .str .bool aI]⟩
def aAC:List Slot→List Blk→Option Ret:=pM (V:=(Int×Bool×((List UInt8)×(Int×Unit))×q9×Int×Int×pZ×((List Int)×(Int×Unit))×Nat×Nat×(List ((List UInt8)×Bool)))) (fun x=>a1W x.1 x.2.1) (fun x=>a1X x.2.2.1 x.2.2.2.1 x.2.2.2.2.1 x.2.2.2.2.2.1 x.2.2.2.2.2.2.1 x.2.2.2.2.2.2.2.1 x.2.2.2.2.2.2.2.2.1 x.2.2.2.2.2.2.2.2.2.1 x.2.2.2.2.2.2.2.2.2.2) fun x=>a1Y x.1 x.2.1 x.2.2.1 x.2.2.2.1 x.2.2.2.2.1 x.2.2.2.2.2.1 x.2.2.2.2.2.2.1 x.2.2.2.2.2.2.2.1 x.2.2.2.2.2.2.2.2.1 x.2.2.2.2.2.2.2.2.2.1 x.2.2.2.2.2.2.2.2.2.2
@[go_sem] theorem aLO:aAC (no_index (a1W O Z)) (no_index (a1X aA aB aC aD aE aF aG aH aI))=some (a1Y O Z aA aB aC aD aE aF aG aH aI):=pN (fun⟨a0,a1,a2,a3,a4,a5,a6,a7,a8,a9,a10⟩ ⟨b0,b1,b2,b3,b4,b5,b6,b7,b8,b9,b10⟩ h1 h2=>by cases h1;cases h2;rfl) (O,Z,aA,aB,aC,aD,aE,aF,aG,aH,aI)
end
@[reducible,go_sem] def aAD:Nat×Sig:=(70,⟨[.p q7 [11,13],.v,.v,.v,.v],aAC,[(0,12,.m)],[1,2,3],none⟩)
theorem w6:Env Tryz.prog [sE,q8,wM,vE] (pE [a8Q,wN,vH,OG]):=⟨⟨sL,⟨qA,⟨yC,⟨wL,trivial⟩⟩⟩⟩,oZ aFQ (oZ BH (oZ AR (oZ UC pP))),pH⟩
theorem aGx:pI Tryz.prog aAD:=by
 refine pO w6 Tryz.func70 (c:=_) rfl (N:=46) (by kernel_rfl) (ts:=[(10,none)]) rfl (fun _ _=>rfl) ?_
 intro⟨O,Z,aA,aB,aC,aD,aE,aF,aG,aH,aI⟩ hs hrow
 dsimp only[a1W,a1X,a1Y,pK,enumH,pD,pG,pL,Nat.reduceAdd] at hs hrow⊢
 obtain⟨rfl,rfl,hz⟩:=hs
 obtain⟨z0,hC0⟩:=Option.isSome_iff_exists.1 hz
 try rw[pW hC0]
 clear hz
 unfold wO at hC0
 refine oS w6 ?_
 refine oS w6 ?_
 refine p4 (pU ?_)
 refine oS w6 ?_ (hp:=by exact And.intro (fun hh=>hh) (And.intro (fun hh=>hh) (And.intro (fun hh=>hh) ((fun hh=>sH hh)))))
 refine oX hC0 (fun hC0 hc1=> ?_) (fun hC0 hc1=> ?_)
 ·obtain⟨aJ,hw_27,hC0⟩:=rJ hC0
  try simp only[go_sem] at hw_27
  refine pF w6 ?_ (hp:=by exact And.intro (by first|exact rfl|exact trivial) (And.intro (by first|exact rfl|exact trivial) (And.intro (by first|exact rfl|exact trivial) (And.intro (by first|exact rfl|exact trivial) ((by first|exact rfl|exact trivial)))))) (h:=by simp only[go_sem,hw_27];rfl)
  refine pB (oW ?_)
  obtain⟨aK,hv1,hw1,hC0⟩:=p9 hC0
  try simp only[go_sem] at hw1
  refine oS w6 ?_ (hp:=by exact And.intro (by first|exact rfl|exact trivial) (And.intro (by first|exact rfl|exact trivial) (And.intro (by first|exact rfl|exact trivial) (And.intro (by first|exact rfl|exact trivial) (And.intro (by first|exact rfl|exact trivial) ((p8 hv1))))))) (h:=by simp only[go_sem,hw1];rfl)
  refine oS w6 ?_
  refine oV ?_
  cases hC0
  exact⟨[(0,0),(1,1),(2,2),(3,3)],by rfl,by rfl,by rfl⟩
 ·refine oS w6 ?_
  refine oX hC0 (fun hC0 hc2=> ?_) (fun hC0 hc2=> ?_)
  ·obtain⟨aL,hw_29,hC0⟩:=rJ hC0
   try simp only[go_sem] at hw_29
   refine pF w6 ?_ (hp:=by exact And.intro (by first|exact rfl|exact trivial) (And.intro (by first|exact rfl|exact trivial) (And.intro (by first|exact rfl|exact trivial) (And.intro (by first|exact rfl|exact trivial) ((by first|exact rfl|exact trivial)))))) (h:=by simp only[go_sem,hw_29];rfl)
   refine pB (oW ?_)
   obtain⟨aM,hv2,hw2,hC0⟩:=p9 hC0
   try simp only[go_sem] at hw2
   refine oS w6 ?_ (hp:=by exact And.intro (by first|exact rfl|exact trivial) (And.intro (by first|exact rfl|exact trivial) (And.intro (by first|exact rfl|exact trivial) (And.intro (by first|exact rfl|exact trivial) (And.intro (by first|exact rfl|exact trivial) ((p8 hv2))))))) (h:=by simp only[go_sem,hw2];rfl)
   refine oS w6 ?_
   refine oV ?_
   cases hC0
   exact⟨[(0,0),(1,1),(2,2),(3,3)],by rfl,by rfl,by rfl⟩
  ·refine oS w6 ?_
   refine oX hC0 (fun hC0 hc3=> ?_) (fun hC0 hc3=> ?_)
   ·obtain⟨aN,hw_31,hC0⟩:=rJ hC0
    try simp only[go_sem] at hw_31
    refine pF w6 ?_ (hp:=by exact And.intro (by first|exact rfl|exact trivial) (And.intro (by first|exact rfl|exact trivial) (And.intro (by first|exact rfl|exact trivial) (And.intro (by first|exact rfl|exact trivial) ((by first|exact rfl|exact trivial)))))) (h:=by simp only[go_sem,hw_31];rfl)
    refine pB (oW ?_)
    obtain⟨aO,hv3,hw3,hC0⟩:=p9 hC0
    try simp only[go_sem] at hw3
    refine oS w6 ?_ (hp:=by exact And.intro (by first|exact rfl|exact trivial) (And.intro (by first|exact rfl|exact trivial) (And.intro (by first|exact rfl|exact trivial) (And.intro (by first|exact rfl|exact trivial) (And.intro (by first|exact rfl|exact trivial) ((p8 hv3))))))) (h:=by simp only[go_sem,hw3];rfl)
    refine oS w6 ?_
    refine oV ?_
    cases hC0
    exact⟨[(0,0),(1,1),(2,2),(3,3)],by rfl,by rfl,by rfl⟩
   ·refine p7 (pB (oW ?_))
    obtain⟨aP,hv4,hw4,hC0⟩:=p9 hC0
    try simp only[go_sem] at hw4
    refine oS w6 ?_ (hp:=by exact And.intro (by first|exact rfl|exact trivial) (And.intro (by first|exact rfl|exact trivial) (And.intro (by first|exact rfl|exact trivial) (And.intro (by first|exact rfl|exact trivial) (And.intro (by first|exact rfl|exact trivial) ((p8 hv4))))))) (h:=by simp only[go_sem,hw4];rfl)
    refine oS w6 ?_
    refine oV ?_
    cases hC0
    exact⟨[(0,0),(1,1),(2,2),(3,3)],by rfl,by rfl,by rfl⟩
attribute [irreducible] wO
def wP (O:((List UInt8)×(Int×Unit))) (Z:q9) (aA:Int) (aB:Int) (aC:pZ) (aD:((List Int)×(Int×Unit))) (aE:Int) (aF:Bool) (aG:(List ((List UInt8)×Bool))):Option (Int×Int×(List UInt8)×Int×Int×Int×Int×Int):=
 if (((!decide (Z.1=aE))==false)=true→((DX Z.2.1)).isSome=true) then
  if ((!decide (Z.1=aE))||(!(val (DX Z.2.1))))=true then
   q6 (s9 O Z aA aB aC aD (3:Int) aG) fun aH=>
   (qO (O.1,(O.2.1,())) (Z.1,(Z.2.1,(Z.2.2.1,(Z.2.2.2.1,())))) aH.1 aH.2 (aC.1,(aC.2.1,(aC.2.2.1,(aC.2.2.2.1,())))) (aD.1,(aD.2.1,())) aG).bind fun aI=>
   some ((aI.1,aI.2.1,aI.2.2.1,aI.2.2.2.1,aI.2.2.2.2.1,aH.1,aH.2,aI.2.2.2.2.2))
  else
   if false=true then
    q6 (s9 O Z aA aB aC aD (9:Int) aG) fun aJ=>
    (qO (O.1,(O.2.1,())) (Z.1,(Z.2.1,(Z.2.2.1,(Z.2.2.2.1,())))) aJ.1 aJ.2 (aC.1,(aC.2.1,(aC.2.2.1,(aC.2.2.2.1,())))) (aD.1,(aD.2.1,())) aG).bind fun aK=>
    some ((aK.1,aK.2.1,aK.2.2.1,aK.2.2.2.1,aK.2.2.2.2.1,aJ.1,aJ.2,aK.2.2.2.2.2))
   else
    if aF=true then
     q6 (s9 O Z aA aB aC aD (6:Int) aG) fun aL=>
     (qO (O.1,(O.2.1,())) (Z.1,(Z.2.1,(Z.2.2.1,(Z.2.2.2.1,())))) aL.1 aL.2 (aC.1,(aC.2.1,(aC.2.2.1,(aC.2.2.2.1,())))) (aD.1,(aD.2.1,())) aG).bind fun aM=>
     some ((aM.1,aM.2.1,aM.2.2.1,aM.2.2.2.1,aM.2.2.2.2.1,aL.1,aL.2,aM.2.2.2.2.2))
    else
     (qO O Z aA aB aC aD aG).bind fun aN=>
     some ((aN.1,aN.2.1,aN.2.2.1,aN.2.2.2.1,aN.2.2.2.2.1,aA,aB,aN.2.2.2.2.2))
 else none
section
variable (O:Int) (Z:Bool) (aA:((List UInt8)×(Int×Unit))) (aB:q9) (aC:Int) (aD:Int) (aE:pZ) (aF:((List Int)×(Int×Unit))) (aG:Nat) (aH:Nat) (aI:(List ((List UInt8)×Bool)))
@[reducible] def a1Z:List Slot:=[(.val .ref (some (0,0)),none),(.val (.int .i64) O,none),(.val .clo (some (71,[])),none),(.val .clo (some (72,[])),none),(.val .bool Z,none)]
@[reducible] def a2a:List Blk:=[.cells q7 (aA,(aB,(aC,(aD,(aE,((some 3),aF)))))) [(11,1),(13,2)],.grow 52 7 aG,.grow 3 1 aH,.map .str .bool aI]
@[go_sem] def a2b:Ret:=⟨[aG=(List.length aE.2.2.2.1),aH=(List.length aF.1),((wP aA aB aC aD aE aF O Z aI)).isSome=true],[(.val .str aB.2.1,none)],[.cells q7 ((aA.1,((val (wP aA aB aC aD aE aF O Z aI)).1,())),(((val (wP aA aB aC aD aE aF O Z aI)).2.1,((val (wP aA aB aC aD aE aF O Z aI)).2.2.1,((val (wP aA aB aC aD aE aF O Z aI)).2.2.2.1,((val (wP aA aB aC aD aE aF O Z aI)).2.2.2.2.1,())))),((val (wP aA aB aC aD aE aF O Z aI)).2.2.2.2.2.1,((val (wP aA aB aC aD aE aF O Z aI)).2.2.2.2.2.2.1,((aE.1,(aE.2.1,(aE.2.2.1,(aE.2.2.2.1,())))),((some 3),(aF.1,((val (wP aA aB aC aD aE aF O Z aI)).2.2.2.2.2.2.2,())))))))) [(11,1),(13,2)],.grow 52 7 (List.length aE.2.2.2.1),.grow 3 1 (List.length aF.1),.map .str .bool aI]⟩
def aAE:List Slot→List Blk→Option Ret:=pM (V:=(Int×Bool×((List UInt8)×(Int×Unit))×q9×Int×Int×pZ×((List Int)×(Int×Unit))×Nat×Nat×(List ((List UInt8)×Bool)))) (fun x=>a1Z x.1 x.2.1) (fun x=>a2a x.2.2.1 x.2.2.2.1 x.2.2.2.2.1 x.2.2.2.2.2.1 x.2.2.2.2.2.2.1 x.2.2.2.2.2.2.2.1 x.2.2.2.2.2.2.2.2.1 x.2.2.2.2.2.2.2.2.2.1 x.2.2.2.2.2.2.2.2.2.2) fun x=>a2b x.1 x.2.1 x.2.2.1 x.2.2.2.1 x.2.2.2.2.1 x.2.2.2.2.2.1 x.2.2.2.2.2.2.1 x.2.2.2.2.2.2.2.1 x.2.2.2.2.2.2.2.2.1 x.2.2.2.2.2.2.2.2.2.1 x.2.2.2.2.2.2.2.2.2.2
@[go_sem] theorem aLP:aAE (no_index (a1Z O Z)) (no_index (a2a aA aB aC aD aE aF aG aH aI))=some (a2b O Z aA aB aC aD aE aF aG aH aI):=pN (fun⟨a0,a1,a2,a3,a4,a5,a6,a7,a8,a9,a10⟩ ⟨b0,b1,b2,b3,b4,b5,b6,b7,b8,b9,b10⟩ h1 h2=>by cases h1;cases h2;rfl) (O,Z,aA,aB,aC,aD,aE,aF,aG,aH,aI)
end
@[reducible,go_sem] def aAF:Nat×Sig:=(70,⟨[.p q7 [11,13],.v,.v,.v,.v],aAE,[(0,12,.m)],[1,2,3],none⟩)
theorem w7:Env Tryz.prog [sE,q8,wM,vE] (pE [a7z,wN,vH,OG]):=⟨⟨sL,⟨qA,⟨yC,⟨wL,trivial⟩⟩⟩⟩,oZ aFx (oZ BH (oZ AR (oZ UC pP))),pH⟩
theorem aGy:pI Tryz.prog aAF:=by
 refine pO w7 Tryz.func70 (c:=_) rfl (N:=46) (by kernel_rfl) (ts:=[(10,none)]) rfl (fun _ _=>rfl) ?_
 intro⟨O,Z,aA,aB,aC,aD,aE,aF,aG,aH,aI⟩ hs hrow
 dsimp only[a1Z,a2a,a2b,pK,enumH,pD,pG,pL,Nat.reduceAdd] at hs hrow⊢
 obtain⟨rfl,rfl,hz⟩:=hs
 obtain⟨z0,hC0⟩:=Option.isSome_iff_exists.1 hz
 try rw[pW hC0]
 clear hz
 unfold wP at hC0
 refine oS w7 ?_
 refine oS w7 ?_
 refine p4 (pU ?_)
 obtain⟨hg1,hC0⟩:=oU hC0
 refine oS w7 ?_ (hp:=by exact And.intro (fun hh=>hh) (And.intro (fun hh=>hh) (And.intro hg1 (And.intro (fun hh=>hh) ((fun hh=>sH hh))))))
 refine oX hC0 (fun hC0 hc1=> ?_) (fun hC0 hc1=> ?_)
 ·obtain⟨aJ,hw_27,hC0⟩:=rJ hC0
  try simp only[go_sem] at hw_27
  refine pF w7 ?_ (hp:=by exact And.intro (by first|exact rfl|exact trivial) (And.intro (by first|exact rfl|exact trivial) (And.intro (by first|exact rfl|exact trivial) (And.intro (by first|exact rfl|exact trivial) ((by first|exact rfl|exact trivial)))))) (h:=by simp only[go_sem,hw_27];rfl)
  refine pB (oW ?_)
  obtain⟨aK,hv2,hw2,hC0⟩:=p9 hC0
  try simp only[go_sem] at hw2
  refine oS w7 ?_ (hp:=by exact And.intro (by first|exact rfl|exact trivial) (And.intro (by first|exact rfl|exact trivial) (And.intro (by first|exact rfl|exact trivial) (And.intro (by first|exact rfl|exact trivial) (And.intro (by first|exact rfl|exact trivial) ((p8 hv2))))))) (h:=by simp only[go_sem,hw2];rfl)
  refine oS w7 ?_
  refine oV ?_
  cases hC0
  exact⟨[(0,0),(1,1),(2,2),(3,3)],by rfl,by rfl,by rfl⟩
 ·refine oS w7 ?_
  refine oX hC0 (fun hC0 hc2=> ?_) (fun hC0 hc2=> ?_)
  ·obtain⟨aL,hw_29,hC0⟩:=rJ hC0
   try simp only[go_sem] at hw_29
   refine pF w7 ?_ (hp:=by exact And.intro (by first|exact rfl|exact trivial) (And.intro (by first|exact rfl|exact trivial) (And.intro (by first|exact rfl|exact trivial) (And.intro (by first|exact rfl|exact trivial) ((by first|exact rfl|exact trivial)))))) (h:=by simp only[go_sem,hw_29];rfl)
   refine pB (oW ?_)
   obtain⟨aM,hv3,hw3,hC0⟩:=p9 hC0
   try simp only[go_sem] at hw3
   refine oS w7 ?_ (hp:=by exact And.intro (by first|exact rfl|exact trivial) (And.intro (by first|exact rfl|exact trivial) (And.intro (by first|exact rfl|exact trivial) (And.intro (by first|exact rfl|exact trivial) (And.intro (by first|exact rfl|exact trivial) ((p8 hv3))))))) (h:=by simp only[go_sem,hw3];rfl)
   refine oS w7 ?_
   refine oV ?_
   cases hC0
   exact⟨[(0,0),(1,1),(2,2),(3,3)],by rfl,by rfl,by rfl⟩
  ·refine oS w7 ?_
   refine oX hC0 (fun hC0 hc3=> ?_) (fun hC0 hc3=> ?_)
   ·obtain⟨aN,hw_31,hC0⟩:=rJ hC0
    try simp only[go_sem] at hw_31
    refine pF w7 ?_ (hp:=by exact And.intro (by first|exact rfl|exact trivial) (And.intro (by first|exact rfl|exact trivial) (And.intro (by first|exact rfl|exact trivial) (And.intro (by first|exact rfl|exact trivial) ((by first|exact rfl|exact trivial)))))) (h:=by simp only[go_sem,hw_31];rfl)
    refine pB (oW ?_)
    obtain⟨aO,hv4,hw4,hC0⟩:=p9 hC0
    try simp only[go_sem] at hw4
    refine oS w7 ?_ (hp:=by exact And.intro (by first|exact rfl|exact trivial) (And.intro (by first|exact rfl|exact trivial) (And.intro (by first|exact rfl|exact trivial) (And.intro (by first|exact rfl|exact trivial) (And.intro (by first|exact rfl|exact trivial) ((p8 hv4))))))) (h:=by simp only[go_sem,hw4];rfl)
    refine oS w7 ?_
    refine oV ?_
    cases hC0
    exact⟨[(0,0),(1,1),(2,2),(3,3)],by rfl,by rfl,by rfl⟩
   ·refine p7 (pB (oW ?_))
    obtain⟨aP,hv5,hw5,hC0⟩:=p9 hC0
    try simp only[go_sem] at hw5
    refine oS w7 ?_ (hp:=by exact And.intro (by first|exact rfl|exact trivial) (And.intro (by first|exact rfl|exact trivial) (And.intro (by first|exact rfl|exact trivial) (And.intro (by first|exact rfl|exact trivial) (And.intro (by first|exact rfl|exact trivial) ((p8 hv5))))))) (h:=by simp only[go_sem,hw5];rfl)
    refine oS w7 ?_
    refine oV ?_
    cases hC0
    exact⟨[(0,0),(1,1),(2,2),(3,3)],by rfl,by rfl,by rfl⟩
attribute [irreducible] wP
end
end Go.Proofs.YtfchbnahjcdiiaaGreatDoor
namespace Go.Proofs.YtfchbnahjcdiiaaGreatDoor
open Vc
set_option maxRecDepth 100000
set_option maxHeartbeats 4000000
set_option linter.unusedSimpArgs false
set_option linter.unusedVariables false
noncomputable section
def wQ (O:((List UInt8)×(Int×Unit))) (Z:q9) (aA:Int) (aB:Int) (aC:pZ) (aD:((List Int)×(Int×Unit))) (aE:Int) (aF:Bool) (aG:(List ((List UInt8)×Bool))):Option (Int×Int×(List UInt8)×Int×Int×Int×Int×Int):=
 if (((!decide (Z.1=aE))==false)=true→((EI Z.2.1)).isSome=true) then
  if ((!decide (Z.1=aE))||(!(val (EI Z.2.1))))=true then
   q6 (s9 O Z aA aB aC aD (3:Int) aG) fun aH=>
   (qO (O.1,(O.2.1,())) (Z.1,(Z.2.1,(Z.2.2.1,(Z.2.2.2.1,())))) aH.1 aH.2 (aC.1,(aC.2.1,(aC.2.2.1,(aC.2.2.2.1,())))) (aD.1,(aD.2.1,())) aG).bind fun aI=>
   some ((aI.1,aI.2.1,aI.2.2.1,aI.2.2.2.1,aI.2.2.2.2.1,aH.1,aH.2,aI.2.2.2.2.2))
  else
   if false=true then
    q6 (s9 O Z aA aB aC aD (9:Int) aG) fun aJ=>
    (qO (O.1,(O.2.1,())) (Z.1,(Z.2.1,(Z.2.2.1,(Z.2.2.2.1,())))) aJ.1 aJ.2 (aC.1,(aC.2.1,(aC.2.2.1,(aC.2.2.2.1,())))) (aD.1,(aD.2.1,())) aG).bind fun aK=>
    some ((aK.1,aK.2.1,aK.2.2.1,aK.2.2.2.1,aK.2.2.2.2.1,aJ.1,aJ.2,aK.2.2.2.2.2))
   else
    if aF=true then
     q6 (s9 O Z aA aB aC aD (6:Int) aG) fun aL=>
     (qO (O.1,(O.2.1,())) (Z.1,(Z.2.1,(Z.2.2.1,(Z.2.2.2.1,())))) aL.1 aL.2 (aC.1,(aC.2.1,(aC.2.2.1,(aC.2.2.2.1,())))) (aD.1,(aD.2.1,())) aG).bind fun aM=>
     some ((aM.1,aM.2.1,aM.2.2.1,aM.2.2.2.1,aM.2.2.2.2.1,aL.1,aL.2,aM.2.2.2.2.2))
    else
     (qO O Z aA aB aC aD aG).bind fun aN=>
     some ((aN.1,aN.2.1,aN.2.2.1,aN.2.2.2.1,aN.2.2.2.2.1,aA,aB,aN.2.2.2.2.2))
 else none
section
variable (O:Int) (Z:Bool) (aA:((List UInt8)×(Int×Unit))) (aB:q9) (aC:Int) (aD:Int) (aE:pZ) (aF:((List Int)×(Int×Unit))) (aG:Nat) (aH:Nat) (aI:(List ((List UInt8)×Bool)))
@[reducible] def a2c:List Slot:=[(.val .ref (some (0,0)),none),(.val (.int .i64) O,none),(.val .clo (some (190,[])),none),(.val .clo (some (72,[])),none),(.val .bool Z,none)]
@[reducible] def a2d:List Blk:=[.cells q7 (aA,(aB,(aC,(aD,(aE,((some 3),aF)))))) [(11,1),(13,2)],.grow 52 7 aG,.grow 3 1 aH,.map .str .bool aI]
@[go_sem] def a2e:Ret:=⟨[aG=(List.length aE.2.2.2.1),aH=(List.length aF.1),((wQ aA aB aC aD aE aF O Z aI)).isSome=true],[(.val .str aB.2.1,none)],[.cells q7 ((aA.1,((val (wQ aA aB aC aD aE aF O Z aI)).1,())),(((val (wQ aA aB aC aD aE aF O Z aI)).2.1,((val (wQ aA aB aC aD aE aF O Z aI)).2.2.1,((val (wQ aA aB aC aD aE aF O Z aI)).2.2.2.1,((val (wQ aA aB aC aD aE aF O Z aI)).2.2.2.2.1,())))),((val (wQ aA aB aC aD aE aF O Z aI)).2.2.2.2.2.1,((val (wQ aA aB aC aD aE aF O Z aI)).2.2.2.2.2.2.1,((aE.1,(aE.2.1,(aE.2.2.1,(aE.2.2.2.1,())))),((some 3),(aF.1,((val (wQ aA aB aC aD aE aF O Z aI)).2.2.2.2.2.2.2,())))))))) [(11,1),(13,2)],.grow 52 7 (List.length aE.2.2.2.1),.grow 3 1 (List.length aF.1),.map .str .bool aI]⟩
def aAG:List Slot→List Blk→Option Ret:=pM (V:=(Int×Bool×((List UInt8)×(Int×Unit))×q9×Int×Int×pZ×((List Int)×(Int×Unit))×Nat×Nat×(List ((List UInt8)×Bool)))) (fun x=>a2c x.1 x.2.1) (fun x=>a2d x.2.2.1 x.2.2.2.1 x.2.2.2.2.1 x.2.2.2.2.2.1 x.2.2.2.2.2.2.1 x.2.2.2.2.2.2.2.1 x.2.2.2.2.2.2.2.2.1 x.2.2.2.2.2.2.2.2.2.1 x.2.2.2.2.2.2.2.2.2.2) fun x=>a2e x.1 x.2.1 x.2.2.1 x.2.2.2.1 x.2.2.2.2.1 x.2.2.2.2.2.1 x.2.2.2.2.2.2.1 x.2.2.2.2.2.2.2.1 x.2.2.2.2.2.2.2.2.1 x.2.2.2.2.2.2.2.2.2.1 x.2.2.2.2.2.2.2.2.2.2
@[go_sem] theorem aLQ:aAG (no_index (a2c O Z)) (no_index (a2d aA aB aC aD aE aF aG aH aI))=some (a2e O Z aA aB aC aD aE aF aG aH aI):=pN (fun⟨a0,a1,a2,a3,a4,a5,a6,a7,a8,a9,a10⟩ ⟨b0,b1,b2,b3,b4,b5,b6,b7,b8,b9,b10⟩ h1 h2=>by cases h1;cases h2;rfl) (O,Z,aA,aB,aC,aD,aE,aF,aG,aH,aI)
end
@[reducible,go_sem] def a2f:Nat×Sig:=(70,⟨[.p q7 [11,13],.v,.v,.v,.v],aAG,[(0,12,.m)],[1,2,3],none⟩)
theorem w8:Env Tryz.prog [sE,q8,wM,vE] (pE [a9D,wN,vH,OG]):=⟨⟨sL,⟨qA,⟨yC,⟨wL,trivial⟩⟩⟩⟩,oZ aGa (oZ BH (oZ AR (oZ UC pP))),pH⟩
theorem aGz:pI Tryz.prog a2f:=by
 refine pO w8 Tryz.func70 (c:=_) rfl (N:=46) (by kernel_rfl) (ts:=[(10,none)]) rfl (fun _ _=>rfl) ?_
 intro⟨O,Z,aA,aB,aC,aD,aE,aF,aG,aH,aI⟩ hs hrow
 dsimp only[a2c,a2d,a2e,pK,enumH,pD,pG,pL,Nat.reduceAdd] at hs hrow⊢
 obtain⟨rfl,rfl,hz⟩:=hs
 obtain⟨z0,hC0⟩:=Option.isSome_iff_exists.1 hz
 try rw[pW hC0]
 clear hz
 unfold wQ at hC0
 refine oS w8 ?_
 refine oS w8 ?_
 refine p4 (pU ?_)
 obtain⟨hg1,hC0⟩:=oU hC0
 refine oS w8 ?_ (hp:=by exact And.intro (fun hh=>hh) (And.intro (fun hh=>hh) (And.intro hg1 (And.intro (fun hh=>hh) ((fun hh=>sH hh))))))
 refine oX hC0 (fun hC0 hc1=> ?_) (fun hC0 hc1=> ?_)
 ·obtain⟨aJ,hw_27,hC0⟩:=rJ hC0
  try simp only[go_sem] at hw_27
  refine pF w8 ?_ (hp:=by exact And.intro (by first|exact rfl|exact trivial) (And.intro (by first|exact rfl|exact trivial) (And.intro (by first|exact rfl|exact trivial) (And.intro (by first|exact rfl|exact trivial) ((by first|exact rfl|exact trivial)))))) (h:=by simp only[go_sem,hw_27];rfl)
  refine pB (oW ?_)
  obtain⟨aK,hv2,hw2,hC0⟩:=p9 hC0
  try simp only[go_sem] at hw2
  refine oS w8 ?_ (hp:=by exact And.intro (by first|exact rfl|exact trivial) (And.intro (by first|exact rfl|exact trivial) (And.intro (by first|exact rfl|exact trivial) (And.intro (by first|exact rfl|exact trivial) (And.intro (by first|exact rfl|exact trivial) ((p8 hv2))))))) (h:=by simp only[go_sem,hw2];rfl)
  refine oS w8 ?_
  refine oV ?_
  cases hC0
  exact⟨[(0,0),(1,1),(2,2),(3,3)],by rfl,by rfl,by rfl⟩
 ·refine oS w8 ?_
  refine oX hC0 (fun hC0 hc2=> ?_) (fun hC0 hc2=> ?_)
  ·obtain⟨aL,hw_29,hC0⟩:=rJ hC0
   try simp only[go_sem] at hw_29
   refine pF w8 ?_ (hp:=by exact And.intro (by first|exact rfl|exact trivial) (And.intro (by first|exact rfl|exact trivial) (And.intro (by first|exact rfl|exact trivial) (And.intro (by first|exact rfl|exact trivial) ((by first|exact rfl|exact trivial)))))) (h:=by simp only[go_sem,hw_29];rfl)
   refine pB (oW ?_)
   obtain⟨aM,hv3,hw3,hC0⟩:=p9 hC0
   try simp only[go_sem] at hw3
   refine oS w8 ?_ (hp:=by exact And.intro (by first|exact rfl|exact trivial) (And.intro (by first|exact rfl|exact trivial) (And.intro (by first|exact rfl|exact trivial) (And.intro (by first|exact rfl|exact trivial) (And.intro (by first|exact rfl|exact trivial) ((p8 hv3))))))) (h:=by simp only[go_sem,hw3];rfl)
   refine oS w8 ?_
   refine oV ?_
   cases hC0
   exact⟨[(0,0),(1,1),(2,2),(3,3)],by rfl,by rfl,by rfl⟩
  ·refine oS w8 ?_
   refine oX hC0 (fun hC0 hc3=> ?_) (fun hC0 hc3=> ?_)
   ·obtain⟨aN,hw_31,hC0⟩:=rJ hC0
    try simp only[go_sem] at hw_31
    refine pF w8 ?_ (hp:=by exact And.intro (by first|exact rfl|exact trivial) (And.intro (by first|exact rfl|exact trivial) (And.intro (by first|exact rfl|exact trivial) (And.intro (by first|exact rfl|exact trivial) ((by first|exact rfl|exact trivial)))))) (h:=by simp only[go_sem,hw_31];rfl)
    refine pB (oW ?_)
    obtain⟨aO,hv4,hw4,hC0⟩:=p9 hC0
    try simp only[go_sem] at hw4
    refine oS w8 ?_ (hp:=by exact And.intro (by first|exact rfl|exact trivial) (And.intro (by first|exact rfl|exact trivial) (And.intro (by first|exact rfl|exact trivial) (And.intro (by first|exact rfl|exact trivial) (And.intro (by first|exact rfl|exact trivial) ((p8 hv4))))))) (h:=by simp only[go_sem,hw4];rfl)
    refine oS w8 ?_
    refine oV ?_
    cases hC0
    exact⟨[(0,0),(1,1),(2,2),(3,3)],by rfl,by rfl,by rfl⟩
   ·refine p7 (pB (oW ?_))
    obtain⟨aP,hv5,hw5,hC0⟩:=p9 hC0
    try simp only[go_sem] at hw5
    refine oS w8 ?_ (hp:=by exact And.intro (by first|exact rfl|exact trivial) (And.intro (by first|exact rfl|exact trivial) (And.intro (by first|exact rfl|exact trivial) (And.intro (by first|exact rfl|exact trivial) (And.intro (by first|exact rfl|exact trivial) ((p8 hv5))))))) (h:=by simp only[go_sem,hw5];rfl)
    refine oS w8 ?_
    refine oV ?_
    cases hC0
    exact⟨[(0,0),(1,1),(2,2),(3,3)],by rfl,by rfl,by rfl⟩
attribute [irreducible] wQ
def AS (O:tC):Option (Int×Int×Int×(List pX)×(List Int)):=
 (sU O (2:Int) ([101,110,116,114,121]:List UInt8)).bind fun Z=>
 (sU (O.1,(Z.1,(Z.2.1,(Z.2.2.1,((O.2.2.2.2.1.1,(O.2.2.2.2.1.2.1,(O.2.2.2.2.1.2.2.1,(O.2.2.2.2.1.2.2.2.1,())))),(O.2.2.2.2.2.1,())))))) (1:Int) ([]:List UInt8)).bind fun aA=>
 if (!decide (aA.2.2.1=(0:Int)))=true then
  some ((aA.1,aA.2.1,aA.2.2.1,O.2.2.2.2.1.2.2.2.1,O.2.2.2.2.2.1))
 else
  (E1 (O.2.2.2.2.1.1,(O.2.2.2.2.1.2.1,(O.2.2.2.2.1.2.2.1,(O.2.2.2.2.1.2.2.2.1,())))) aA.2.2.2.2.1).bind fun aB=>
  if ((decide (aA.2.2.2.2.1=([]:List UInt8)))||(decide ((200:Int)<(List.length aA.2.2.2.2.1:Int))))=true then
   q6 (tP (O.1,(aA.1,(aA.2.1,(aA.2.2.1,((O.2.2.2.2.1.1,(O.2.2.2.2.1.2.1,(O.2.2.2.2.1.2.2.1,(O.2.2.2.2.1.2.2.2.1,())))),(O.2.2.2.2.2.1,())))))) (aA.2.2.2.1,(aA.2.2.2.2.1,(aA.2.2.2.2.2.1,(aA.2.2.2.2.2.2,())))) (3:Int)) fun aC=>
   some ((aA.1,aC.1,aC.2,O.2.2.2.2.1.2.2.2.1,O.2.2.2.2.2.1))
  else
   if aB.2=true then
    q6 (tP (O.1,(aA.1,(aA.2.1,(aA.2.2.1,((O.2.2.2.2.1.1,(O.2.2.2.2.1.2.1,(O.2.2.2.2.1.2.2.1,(O.2.2.2.2.1.2.2.2.1,())))),(O.2.2.2.2.2.1,())))))) (aA.2.2.2.1,(aA.2.2.2.2.1,(aA.2.2.2.2.2.1,(aA.2.2.2.2.2.2,())))) (9:Int)) fun aD=>
    some ((aA.1,aD.1,aD.2,O.2.2.2.2.1.2.2.2.1,O.2.2.2.2.2.1))
   else
    if (decide ((1000:Int)≤(List.length O.2.2.2.2.1.2.2.2.1:Int)))=true then
     q6 (tP (O.1,(aA.1,(aA.2.1,(aA.2.2.1,((O.2.2.2.2.1.1,(O.2.2.2.2.1.2.1,(O.2.2.2.2.1.2.2.1,(O.2.2.2.2.1.2.2.2.1,())))),(O.2.2.2.2.2.1,())))))) (aA.2.2.2.1,(aA.2.2.2.2.1,(aA.2.2.2.2.2.1,(aA.2.2.2.2.2.2,())))) (6:Int)) fun aE=>
     some ((aA.1,aE.1,aE.2,O.2.2.2.2.1.2.2.2.1,O.2.2.2.2.2.1))
    else
     (uW (O.1,(aA.1,(aA.2.1,(aA.2.2.1,((O.2.2.2.2.1.1,(O.2.2.2.2.1.2.1,(O.2.2.2.2.1.2.2.1,(O.2.2.2.2.1.2.2.2.1,())))),(O.2.2.2.2.2.1,())))))) (aA.2.2.2.2.1,(([]:List UInt8),(([]:List UInt8),(([]:List (List UInt8)),(([]:List (List UInt8)),((0:Int),(([]:List p6),()))))))) false).bind fun aF=>
     if (List.length ([]:List pX)+List.length O.2.2.2.2.1.2.2.2.1)*128≤140737488355328 then
      if (List.length (([]:List pX)++O.2.2.2.2.1.2.2.2.1)+List.length ([(aA.2.2.2.2.1,(aF.2.2.2.2.1,(aF.2.2.2.2.2.1,(aF.2.2.2.2.2.2.1,(aF.2.2.2.2.2.2.2.1,(aF.2.2.2.2.2.2.2.2.1,(aF.2.2.2.2.2.2.2.2.2,())))))))]:List pX))*128≤140737488355328 then
       some ((aF.1,aF.2.1,aF.2.2.1,((([]:List pX)++O.2.2.2.2.1.2.2.2.1)++([(aA.2.2.2.2.1,(aF.2.2.2.2.1,(aF.2.2.2.2.2.1,(aF.2.2.2.2.2.2.1,(aF.2.2.2.2.2.2.2.1,(aF.2.2.2.2.2.2.2.2.1,(aF.2.2.2.2.2.2.2.2.2,())))))))]:List pX)),aF.2.2.2.1))
      else none
     else none
section
variable (O:tC)
@[reducible] def a2g:List Slot:=[(.val s0 O,none)]
@[reducible] def a2h:List Blk:=[]
@[go_sem] def a2i:Ret:=⟨[((AS O)).isSome=true],[(.val s0 (O.1,((val (AS O)).1,((val (AS O)).2.1,((val (AS O)).2.2.1,((O.2.2.2.2.1.1,(O.2.2.2.2.1.2.1,(O.2.2.2.2.1.2.2.1,((val (AS O)).2.2.2.1,())))),((val (AS O)).2.2.2.2,())))))),none)],[]⟩
def aAH:List Slot→List Blk→Option Ret:=pM (V:=tC) (fun x=>a2g x) (fun x=>a2h) fun x=>a2i x
@[go_sem] theorem aLR:aAH (no_index (a2g O)) (no_index a2h)=some (a2i O):=pN (fun a0 b0 h1 h2=>by cases h1;cases h2;rfl) O
end
@[reducible,go_sem] def aAI:Nat×Sig:=(45,⟨[.v],aAH,[],[],none⟩)
theorem wR:Env Tryz.prog [q8,DW,yB,w4,xH,AI,AJ] (pE [GC,a7M,DZ,a1L]):=⟨⟨qA,⟨HJ,⟨zT,⟨xI,⟨yW,⟨CG,⟨CH,trivial⟩⟩⟩⟩⟩⟩⟩,oZ I9 (oZ aFB (oZ FX (oZ aAw pP))),pH⟩
theorem aGA:pI Tryz.prog aAI:=by
 refine pO wR Tryz.func45 (c:=_) rfl (N:=75) (by kernel_rfl) (ts:=[(2,some 91)]) rfl (fun _ _=>rfl) ?_
 intro O hs hrow
 dsimp only[a2g,a2h,a2i,pK,enumH,pD,pG,pL,Nat.reduceAdd] at hs hrow⊢
 have hz:=hs
 obtain⟨z0,hC0⟩:=Option.isSome_iff_exists.1 hz
 try rw[pW hC0]
 clear hz hs
 unfold AS at hC0
 refine oS wR ?_
 obtain⟨Z,hv1,hw1,hC0⟩:=p9 hC0
 try simp only[go_sem] at hw1
 refine oS wR ?_ (hp:=by exact(p8 hv1)) (h:=by simp only[go_sem,hw1];rfl)
 obtain⟨aA,hv2,hw2,hC0⟩:=p9 hC0
 try simp only[go_sem] at hw2
 refine oS wR ?_ (hp:=by exact(p8 hv2)) (h:=by simp only[go_sem,hw2];rfl)
 refine p4 ?_
 refine oS wR ?_
 refine oX hC0 (fun hC0 hc1=> ?_) (fun hC0 hc1=> ?_)
 ·refine oS wR ?_
  refine oV (pC ?_)
  cases hC0
  exact⟨[],by rfl,by rfl,by rfl⟩
 ·refine p7 (oW ?_)
  obtain⟨aB,hv3,hw3,hC0⟩:=p9 hC0
  try simp only[go_sem] at hw3
  refine oS wR ?_ (hp:=by exact(p8 hv3)) (h:=by simp only[go_sem,hw3];rfl)
  refine p4 (pU ?_)
  refine oS wR ?_ (hp:=by exact And.intro (fun hh=>hh) (And.intro (fun hh=>hh) (And.intro (fun hh=>hh) ((fun hh=>sH hh)))))
  refine oX hC0 (fun hC0 hc2=> ?_) (fun hC0 hc2=> ?_)
  ·obtain⟨aC,hw_32,hC0⟩:=rJ hC0
   try simp only[go_sem] at hw_32
   refine oS wR ?_ (h:=by simp only[go_sem,hw_32];rfl)
   refine oV (pR (pC ?_))
   cases hC0
   exact⟨[],by rfl,by rfl,by rfl⟩
  ·refine oS wR ?_
   refine oX hC0 (fun hC0 hc3=> ?_) (fun hC0 hc3=> ?_)
   ·obtain⟨aD,hw_35,hC0⟩:=rJ hC0
    try simp only[go_sem] at hw_35
    refine oS wR ?_ (h:=by simp only[go_sem,hw_35];rfl)
    refine oV (pR (pC ?_))
    cases hC0
    exact⟨[],by rfl,by rfl,by rfl⟩
   ·refine oS wR ?_
    refine oX hC0 (fun hC0 hc4=> ?_) (fun hC0 hc4=> ?_)
    ·obtain⟨aE,hw_37,hC0⟩:=rJ hC0
     try simp only[go_sem] at hw_37
     refine oS wR ?_ (h:=by simp only[go_sem,hw_37];rfl)
     refine oV (pR (pC ?_))
     cases hC0
     exact⟨[],by rfl,by rfl,by rfl⟩
    ·refine p7 (pB (oW ?_))
     obtain⟨aF,hv4,hw4,hC0⟩:=p9 hC0
     try simp only[go_sem] at hw4
     refine oS wR ?_ (hp:=by exact(p8 hv4)) (h:=by simp only[go_sem,hw4];rfl)
     obtain⟨hg5,hC0⟩:=oU hC0
     obtain⟨hg6,hC0⟩:=oU hC0
     refine qR wR ?_ (hp:=by exact And.intro (by first|exact rfl|exact trivial) (And.intro hg5 (And.intro (by first|exact rfl|exact trivial) (hg6))))
     refine oS wR ?_
     refine oV ?_
     cases hC0
     exact⟨[],by rfl,by rfl,by rfl⟩
attribute [irreducible] AS
def uX (O:((List UInt8)×(Int×Unit))) (Z:q9) (aA:Int) (aB:Int) (aC:pZ) (aD:((List Int)×(Int×Unit))) (aE:(List ((List UInt8)×Bool))):Option (Int×Int×(List UInt8)×Int×Int×Int×Int×Int):=
 (wO O Z aA aB aC aD (1:Int) false aE).bind fun aF=>
 some ((aF.1,aF.2.1,aF.2.2.1,aF.2.2.2.1,aF.2.2.2.2.1,aF.2.2.2.2.2.1,aF.2.2.2.2.2.2.1,aF.2.2.2.2.2.2.2))
section
variable (O:((List UInt8)×(Int×Unit))) (Z:q9) (aA:Int) (aB:Int) (aC:pZ) (aD:((List Int)×(Int×Unit))) (aE:Nat) (aF:Nat) (aG:(List ((List UInt8)×Bool)))
@[reducible] def a2j:List Slot:=[(.val .ref (some (0,0)),none)]
@[reducible] def a2k:List Blk:=[.cells q7 (O,(Z,(aA,(aB,(aC,((some 3),aD)))))) [(11,1),(13,2)],.grow 52 7 aE,.grow 3 1 aF,.map .str .bool aG]
@[go_sem] def a2l:Ret:=⟨[aE=(List.length aC.2.2.2.1),aF=(List.length aD.1),((uX O Z aA aB aC aD aG)).isSome=true],[(.val .str Z.2.1,none)],[.cells q7 ((O.1,((val (uX O Z aA aB aC aD aG)).1,())),(((val (uX O Z aA aB aC aD aG)).2.1,((val (uX O Z aA aB aC aD aG)).2.2.1,((val (uX O Z aA aB aC aD aG)).2.2.2.1,((val (uX O Z aA aB aC aD aG)).2.2.2.2.1,())))),((val (uX O Z aA aB aC aD aG)).2.2.2.2.2.1,((val (uX O Z aA aB aC aD aG)).2.2.2.2.2.2.1,((aC.1,(aC.2.1,(aC.2.2.1,(aC.2.2.2.1,())))),((some 3),(aD.1,((val (uX O Z aA aB aC aD aG)).2.2.2.2.2.2.2,())))))))) [(11,1),(13,2)],.grow 52 7 (List.length aC.2.2.2.1),.grow 3 1 (List.length aD.1),.map .str .bool aG]⟩
def aAJ:List Slot→List Blk→Option Ret:=pM (V:=(((List UInt8)×(Int×Unit))×q9×Int×Int×pZ×((List Int)×(Int×Unit))×Nat×Nat×(List ((List UInt8)×Bool)))) (fun x=>a2j) (fun x=>a2k x.1 x.2.1 x.2.2.1 x.2.2.2.1 x.2.2.2.2.1 x.2.2.2.2.2.1 x.2.2.2.2.2.2.1 x.2.2.2.2.2.2.2.1 x.2.2.2.2.2.2.2.2) fun x=>a2l x.1 x.2.1 x.2.2.1 x.2.2.2.1 x.2.2.2.2.1 x.2.2.2.2.2.1 x.2.2.2.2.2.2.1 x.2.2.2.2.2.2.2.1 x.2.2.2.2.2.2.2.2
@[go_sem] theorem aLS:aAJ (no_index a2j) (no_index (a2k O Z aA aB aC aD aE aF aG))=some (a2l O Z aA aB aC aD aE aF aG):=pN (fun⟨a0,a1,a2,a3,a4,a5,a6,a7,a8⟩ ⟨b0,b1,b2,b3,b4,b5,b6,b7,b8⟩ h1 h2=>by cases h1;cases h2;rfl) (O,Z,aA,aB,aC,aD,aE,aF,aG)
end
@[reducible,go_sem] def D4:Nat×Sig:=(186,⟨[.p q7 [11,13]],aAJ,[(0,12,.m)],[1,2,3],none⟩)
theorem a2m:Env Tryz.prog [] (pE [aAD]):=⟨trivial,oZ aGx pP,pH⟩
theorem OR:pI Tryz.prog D4:=by
 refine pO a2m Tryz.func186 (c:=_) rfl (N:=5) (by kernel_rfl) (ts:=[(2,none)]) rfl (fun _ _=>rfl) ?_
 intro⟨O,Z,aA,aB,aC,aD,aE,aF,aG⟩ hs hrow
 dsimp only[a2j,a2k,a2l,pK,enumH,pD,pG,pL,Nat.reduceAdd] at hs hrow⊢
 obtain⟨rfl,rfl,hz⟩:=hs
 obtain⟨z0,hC0⟩:=Option.isSome_iff_exists.1 hz
 try rw[pW hC0]
 clear hz
 unfold uX at hC0
 refine oS a2m ?_
 obtain⟨aH,hv1,hw1,hC0⟩:=p9 hC0
 try simp only[go_sem] at hw1
 refine oS a2m ?_ (hp:=by exact And.intro (by first|exact rfl|exact trivial) (And.intro (by first|exact rfl|exact trivial) (And.intro (by first|exact rfl|exact trivial) (And.intro (by first|exact rfl|exact trivial) (And.intro (by first|exact rfl|exact trivial) ((p8 hv1))))))) (h:=by simp only[go_sem,hw1];rfl)
 refine oV ?_
 cases hC0
 exact⟨[(0,0),(1,1),(2,2),(3,3)],by rfl,by rfl,by rfl⟩
attribute [irreducible] uX
end
end Go.Proofs.YtfchbnahjcdiiaaGreatDoor
namespace Go.Proofs.YtfchbnahjcdiiaaGreatDoor
open Vc
set_option maxRecDepth 100000
set_option maxHeartbeats 4000000
set_option linter.unusedSimpArgs false
set_option linter.unusedVariables false
noncomputable section
def wS (O:((List UInt8)×(Int×Unit))) (Z:q9) (aA:Int) (aB:Int) (aC:pZ) (aD:((List Int)×(Int×Unit))) (aE:Int) (aF:Bool) (aG:(List ((List UInt8)×Bool))) (aH:(List UInt8)) (aI:(List UInt8)) (aJ:(List UInt8)) (aK:(List (List UInt8))) (aL:(Int×((List p6)×Unit))) (aM:Bool) (aN:(List (List UInt8))) (aO:(List ((List UInt8)×Bool))):Option (Int×Int×(List UInt8)×Int×Int×Int×Int×Int):=
 if (((!decide (Z.1=aE))==false)=true→((BI Z.2.1)).isSome=true) then
  if ((!decide (Z.1=aE))||(!(val (BI Z.2.1))))=true then
   q6 (s9 O Z aA aB aC aD (3:Int) aG) fun aP=>
   (qO (O.1,(O.2.1,())) (Z.1,(Z.2.1,(Z.2.2.1,(Z.2.2.2.1,())))) aP.1 aP.2 (aC.1,(aC.2.1,(aC.2.2.1,(aC.2.2.2.1,())))) (aD.1,(aD.2.1,())) aG).bind fun aQ=>
   some ((aQ.1,aQ.2.1,aQ.2.2.1,aQ.2.2.2.1,aQ.2.2.2.2.1,aP.1,aP.2,aQ.2.2.2.2.2))
  else
   (GB Z.2.1 aH aI aJ aK aL aM aN aO).bind fun aR=>
   if aR=true then
    q6 (s9 O Z aA aB aC aD (9:Int) aG) fun aS=>
    (qO (O.1,(O.2.1,())) (Z.1,(Z.2.1,(Z.2.2.1,(Z.2.2.2.1,())))) aS.1 aS.2 (aC.1,(aC.2.1,(aC.2.2.1,(aC.2.2.2.1,())))) (aD.1,(aD.2.1,())) aG).bind fun aT=>
    some ((aT.1,aT.2.1,aT.2.2.1,aT.2.2.2.1,aT.2.2.2.2.1,aS.1,aS.2,aT.2.2.2.2.2))
   else
    if aF=true then
     q6 (s9 O Z aA aB aC aD (6:Int) aG) fun aU=>
     (qO (O.1,(O.2.1,())) (Z.1,(Z.2.1,(Z.2.2.1,(Z.2.2.2.1,())))) aU.1 aU.2 (aC.1,(aC.2.1,(aC.2.2.1,(aC.2.2.2.1,())))) (aD.1,(aD.2.1,())) aG).bind fun aV=>
     some ((aV.1,aV.2.1,aV.2.2.1,aV.2.2.2.1,aV.2.2.2.2.1,aU.1,aU.2,aV.2.2.2.2.2))
    else
     (qO O Z aA aB aC aD aG).bind fun aW=>
     some ((aW.1,aW.2.1,aW.2.2.1,aW.2.2.2.1,aW.2.2.2.2.1,aA,aB,aW.2.2.2.2.2))
 else none
section
variable (O:Int) (Z:Bool) (aA:((List UInt8)×(Int×Unit))) (aB:q9) (aC:Int) (aD:Int) (aE:pZ) (aF:((List Int)×(Int×Unit))) (aG:Nat) (aH:Nat) (aI:(List ((List UInt8)×Bool))) (aJ:(List UInt8)) (aK:(List UInt8)) (aL:(List UInt8)) (aM:(List (List UInt8))) (aN:Nat) (aO:(Int×((List p6)×Unit))) (aP:Bool) (aQ:Nat) (aR:Nat) (aS:(List (List UInt8))) (aT:Nat) (aU:(List ((List UInt8)×Bool)))
@[reducible] def a2n:List Slot:=[(.val .ref (some (0,0)),none),(.val (.int .i64) O,none),(.val .clo (some (128,[])),none),(.val .clo (some (187,[(3,0)])),none),(.val .bool Z,none)]
@[reducible] def a2o:List Blk:=[.cells q7 (aA,(aB,(aC,(aD,(aE,((some 4),aF)))))) [(11,1),(13,2)],.grow 52 7 aG,.grow 3 1 aH,.cells .ref (some (5,0)) [],.map .str .bool aI,.cells rA ((aJ,(aK,(aL,(aM,((some (8,aN)),aO))))),(aP,((some 9),()))) [(3,6),(6,7)],.grow 9 1 aQ,.grow 144 2 aR,.row 9 .str aS aT,.map .str .bool aU]
@[go_sem] def a2p:Ret:=⟨[aG=(List.length aE.2.2.2.1),aH=(List.length aF.1),aQ=(List.length aM),aR=(List.length aO.2.1),aN=aT,((wS aA aB aC aD aE aF O Z aI aJ aK aL aM aO aP aS aU)).isSome=true],[(.val .str aB.2.1,none)],[.cells q7 ((aA.1,((val (wS aA aB aC aD aE aF O Z aI aJ aK aL aM aO aP aS aU)).1,())),(((val (wS aA aB aC aD aE aF O Z aI aJ aK aL aM aO aP aS aU)).2.1,((val (wS aA aB aC aD aE aF O Z aI aJ aK aL aM aO aP aS aU)).2.2.1,((val (wS aA aB aC aD aE aF O Z aI aJ aK aL aM aO aP aS aU)).2.2.2.1,((val (wS aA aB aC aD aE aF O Z aI aJ aK aL aM aO aP aS aU)).2.2.2.2.1,())))),((val (wS aA aB aC aD aE aF O Z aI aJ aK aL aM aO aP aS aU)).2.2.2.2.2.1,((val (wS aA aB aC aD aE aF O Z aI aJ aK aL aM aO aP aS aU)).2.2.2.2.2.2.1,((aE.1,(aE.2.1,(aE.2.2.1,(aE.2.2.2.1,())))),((some 4),(aF.1,((val (wS aA aB aC aD aE aF O Z aI aJ aK aL aM aO aP aS aU)).2.2.2.2.2.2.2,())))))))) [(11,1),(13,2)],.grow 52 7 (List.length aE.2.2.2.1),.grow 3 1 (List.length aF.1),.cells .ref (some (5,0)) [],.map .str .bool aI,.cells rA ((aJ,(aK,(aL,(aM,((some (8,(List.length aS))),(aO.1,(aO.2.1,()))))))),(aP,((some 9),()))) [(3,6),(6,7)],.grow 9 1 (List.length aM),.grow 144 2 (List.length aO.2.1),.row 9 .str aS (List.length aS),.map .str .bool aU]⟩
def aAK:List Slot→List Blk→Option Ret:=pM (V:=(Int×Bool×((List UInt8)×(Int×Unit))×q9×Int×Int×pZ×((List Int)×(Int×Unit))×Nat×Nat×(List ((List UInt8)×Bool))×(List UInt8)×(List UInt8)×(List UInt8)×(List (List UInt8))×Nat×(Int×((List p6)×Unit))×Bool×Nat×Nat×(List (List UInt8))×Nat×(List ((List UInt8)×Bool)))) (fun x=>a2n x.1 x.2.1) (fun x=>a2o x.2.2.1 x.2.2.2.1 x.2.2.2.2.1 x.2.2.2.2.2.1 x.2.2.2.2.2.2.1 x.2.2.2.2.2.2.2.1 x.2.2.2.2.2.2.2.2.1 x.2.2.2.2.2.2.2.2.2.1 x.2.2.2.2.2.2.2.2.2.2.1 x.2.2.2.2.2.2.2.2.2.2.2.1 x.2.2.2.2.2.2.2.2.2.2.2.2.1 x.2.2.2.2.2.2.2.2.2.2.2.2.2.1 x.2.2.2.2.2.2.2.2.2.2.2.2.2.2.1 x.2.2.2.2.2.2.2.2.2.2.2.2.2.2.2.1 x.2.2.2.2.2.2.2.2.2.2.2.2.2.2.2.2.1 x.2.2.2.2.2.2.2.2.2.2.2.2.2.2.2.2.2.1 x.2.2.2.2.2.2.2.2.2.2.2.2.2.2.2.2.2.2.1 x.2.2.2.2.2.2.2.2.2.2.2.2.2.2.2.2.2.2.2.1 x.2.2.2.2.2.2.2.2.2.2.2.2.2.2.2.2.2.2.2.2.1 x.2.2.2.2.2.2.2.2.2.2.2.2.2.2.2.2.2.2.2.2.2.1 x.2.2.2.2.2.2.2.2.2.2.2.2.2.2.2.2.2.2.2.2.2.2) fun x=>a2p x.1 x.2.1 x.2.2.1 x.2.2.2.1 x.2.2.2.2.1 x.2.2.2.2.2.1 x.2.2.2.2.2.2.1 x.2.2.2.2.2.2.2.1 x.2.2.2.2.2.2.2.2.1 x.2.2.2.2.2.2.2.2.2.1 x.2.2.2.2.2.2.2.2.2.2.1 x.2.2.2.2.2.2.2.2.2.2.2.1 x.2.2.2.2.2.2.2.2.2.2.2.2.1 x.2.2.2.2.2.2.2.2.2.2.2.2.2.1 x.2.2.2.2.2.2.2.2.2.2.2.2.2.2.1 x.2.2.2.2.2.2.2.2.2.2.2.2.2.2.2.1 x.2.2.2.2.2.2.2.2.2.2.2.2.2.2.2.2.1 x.2.2.2.2.2.2.2.2.2.2.2.2.2.2.2.2.2.1 x.2.2.2.2.2.2.2.2.2.2.2.2.2.2.2.2.2.2.1 x.2.2.2.2.2.2.2.2.2.2.2.2.2.2.2.2.2.2.2.1 x.2.2.2.2.2.2.2.2.2.2.2.2.2.2.2.2.2.2.2.2.1 x.2.2.2.2.2.2.2.2.2.2.2.2.2.2.2.2.2.2.2.2.2.1 x.2.2.2.2.2.2.2.2.2.2.2.2.2.2.2.2.2.2.2.2.2.2
@[go_sem] theorem aLT:aAK (no_index (a2n O Z)) (no_index (a2o aA aB aC aD aE aF aG aH aI aJ aK aL aM aN aO aP aQ aR aS aT aU))=some (a2p O Z aA aB aC aD aE aF aG aH aI aJ aK aL aM aN aO aP aQ aR aS aT aU):=pN (fun⟨a0,a1,a2,a3,a4,a5,a6,a7,a8,a9,a10,a11,a12,a13,a14,a15,a16,a17,a18,a19,a20,a21,a22⟩ ⟨b0,b1,b2,b3,b4,b5,b6,b7,b8,b9,b10,b11,b12,b13,b14,qI,b16,b17,b18,b19,b20,b21,b22⟩ h1 h2=>by cases h1;cases h2;rfl) (O,Z,aA,aB,aC,aD,aE,aF,aG,aH,aI,aJ,aK,aL,aM,aN,aO,aP,aQ,aR,aS,aT,aU)
end
@[reducible,go_sem] def a2q:Nat×Sig:=(70,⟨[.p q7 [11,13],.v,.v,.f [(.ref,[])],.v],aAK,[(0,12,.m),(3,0,.p rA [3,6]),(5,4,.r),(5,8,.m)],[1,2,3,4,5,6,7,8,9],none⟩)
theorem aAL:Env Tryz.prog [] (pE [KO,wN,vH,a0K]):=⟨trivial,oZ a8d (oZ BH (oZ AR (oZ aGh pP))),pH⟩
theorem wT:Env Tryz.prog [sE,q8,wM,vE] (pE [KO,wN,vH,a0K]):=⟨⟨sL,⟨qA,⟨yC,⟨wL,trivial⟩⟩⟩⟩,aAL.Γ,pH⟩
theorem aGB:pI Tryz.prog a2q:=by
 refine pO aAL Tryz.func70 (c:=_) rfl (N:=46) (by kernel_rfl) (ts:=[(10,none)]) rfl (fun _ _=>rfl) ?_
 intro⟨O,Z,aA,aB,aC,aD,aE,aF,aG,aH,aI,aJ,aK,aL,aM,aN,aO,aP,aQ,aR,aS,aT,aU⟩ hs hrow
 dsimp only[a2n,a2o,a2p,pK,enumH,pD,pG,pL,Nat.reduceAdd] at hs hrow⊢
 obtain⟨rfl,rfl,rfl,rfl,rfl,hz⟩:=hs
 obtain⟨rfl,_⟩:=hrow
 obtain⟨z0,hC0⟩:=Option.isSome_iff_exists.1 hz
 try rw[pW hC0]
 clear hz
 unfold wS at hC0
 refine oS wT ?_
 refine oS wT ?_
 refine p4 (pU ?_)
 obtain⟨hg1,hC0⟩:=oU hC0
 refine oS wT ?_ (hp:=by exact And.intro (fun hh=>hh) (And.intro (fun hh=>hh) (And.intro hg1 (And.intro (fun hh=>hh) ((fun hh=>sH hh))))))
 refine oX hC0 (fun hC0 hc1=> ?_) (fun hC0 hc1=> ?_)
 ·obtain⟨aV,hw_40,hC0⟩:=rJ hC0
  try simp only[go_sem] at hw_40
  refine pF wT ?_ (hp:=by exact And.intro (by first|exact rfl|exact trivial) (And.intro (by first|exact rfl|exact trivial) (And.intro (by first|exact rfl|exact trivial) (And.intro (by first|exact rfl|exact trivial) ((by first|exact rfl|exact trivial)))))) (h:=by simp only[go_sem,hw_40];rfl)
  refine pB (oW ?_)
  obtain⟨aW,hv2,hw2,hC0⟩:=p9 hC0
  try simp only[go_sem] at hw2
  refine oS wT ?_ (hp:=by exact And.intro (by first|exact rfl|exact trivial) (And.intro (by first|exact rfl|exact trivial) (And.intro (by first|exact rfl|exact trivial) (And.intro (by first|exact rfl|exact trivial) (And.intro (by first|exact rfl|exact trivial) ((p8 hv2))))))) (h:=by simp only[go_sem,hw2];rfl)
  refine oS wT ?_
  refine oV ?_
  cases hC0
  exact⟨[(0,0),(1,1),(2,2),(3,3),(4,4),(5,5),(6,6),(7,7),(8,8),(9,9)],by rfl,by rfl,by rfl⟩
 ·obtain⟨aX,hv3,hw3,hC0⟩:=p9 hC0
  try simp only[go_sem] at hw3
  refine oS wT ?_ (hp:=by exact And.intro (by first|exact rfl|exact trivial) (And.intro (by first|exact rfl|exact trivial) (And.intro (by first|exact rfl|exact trivial) (And.intro (by first|exact rfl|exact trivial) (And.intro (by first|exact rfl|exact trivial) (And.intro (by first|exact rfl|exact trivial) (And.intro (by first|exact rfl|exact trivial) (And.intro (by first|exact rfl|exact trivial) (And.intro (by first|exact rfl|exact trivial) ((p8 hv3))))))))))) (h:=by simp only[go_sem,hw3];rfl)
  refine oX hC0 (fun hC0 hc2=> ?_) (fun hC0 hc2=> ?_)
  ·obtain⟨aY,hw_43,hC0⟩:=rJ hC0
   try simp only[go_sem] at hw_43
   refine pF wT ?_ (hp:=by exact And.intro (by first|exact rfl|exact trivial) (And.intro (by first|exact rfl|exact trivial) (And.intro (by first|exact rfl|exact trivial) (And.intro (by first|exact rfl|exact trivial) ((by first|exact rfl|exact trivial)))))) (h:=by simp only[go_sem,hw_43];rfl)
   refine pB (oW ?_)
   obtain⟨aZ,hv4,hw4,hC0⟩:=p9 hC0
   try simp only[go_sem] at hw4
   refine oS wT ?_ (hp:=by exact And.intro (by first|exact rfl|exact trivial) (And.intro (by first|exact rfl|exact trivial) (And.intro (by first|exact rfl|exact trivial) (And.intro (by first|exact rfl|exact trivial) (And.intro (by first|exact rfl|exact trivial) ((p8 hv4))))))) (h:=by simp only[go_sem,hw4];rfl)
   refine oS wT ?_
   refine oV ?_
   cases hC0
   exact⟨[(0,0),(1,1),(2,2),(3,3),(4,4),(5,5),(6,6),(7,7),(8,8),(9,9)],by rfl,by rfl,by rfl⟩
  ·refine oS wT ?_
   refine oX hC0 (fun hC0 hc3=> ?_) (fun hC0 hc3=> ?_)
   ·obtain⟨bA,hw_45,hC0⟩:=rJ hC0
    try simp only[go_sem] at hw_45
    refine pF wT ?_ (hp:=by exact And.intro (by first|exact rfl|exact trivial) (And.intro (by first|exact rfl|exact trivial) (And.intro (by first|exact rfl|exact trivial) (And.intro (by first|exact rfl|exact trivial) ((by first|exact rfl|exact trivial)))))) (h:=by simp only[go_sem,hw_45];rfl)
    refine pB (oW ?_)
    obtain⟨bB,hv5,hw5,hC0⟩:=p9 hC0
    try simp only[go_sem] at hw5
    refine oS wT ?_ (hp:=by exact And.intro (by first|exact rfl|exact trivial) (And.intro (by first|exact rfl|exact trivial) (And.intro (by first|exact rfl|exact trivial) (And.intro (by first|exact rfl|exact trivial) (And.intro (by first|exact rfl|exact trivial) ((p8 hv5))))))) (h:=by simp only[go_sem,hw5];rfl)
    refine oS wT ?_
    refine oV ?_
    cases hC0
    exact⟨[(0,0),(1,1),(2,2),(3,3),(4,4),(5,5),(6,6),(7,7),(8,8),(9,9)],by rfl,by rfl,by rfl⟩
   ·refine p7 (pB (oW ?_))
    obtain⟨bC,hv6,hw6,hC0⟩:=p9 hC0
    try simp only[go_sem] at hw6
    refine oS wT ?_ (hp:=by exact And.intro (by first|exact rfl|exact trivial) (And.intro (by first|exact rfl|exact trivial) (And.intro (by first|exact rfl|exact trivial) (And.intro (by first|exact rfl|exact trivial) (And.intro (by first|exact rfl|exact trivial) ((p8 hv6))))))) (h:=by simp only[go_sem,hw6];rfl)
    refine oS wT ?_
    refine oV ?_
    cases hC0
    exact⟨[(0,0),(1,1),(2,2),(3,3),(4,4),(5,5),(6,6),(7,7),(8,8),(9,9)],by rfl,by rfl,by rfl⟩
attribute [irreducible] wS
def uY (O:((List UInt8)×(Int×Unit))) (Z:q9) (aA:Int) (aB:Int) (aC:pZ) (aD:((List Int)×(Int×Unit))) (aE:Int) (aF:(List UInt8)) (aG:(List ((List UInt8)×Bool))):Option (Int×Int×(List UInt8)×Int×Int×Int×Int×Int):=
 if (!(((decide (aB=(0:Int)))&&(decide (Z.1=aE)))&&(decide (Z.2.1=aF))))=true then
  q6 (s9 O Z aA aB aC aD (3:Int) aG) fun aH=>
  (qO (O.1,(O.2.1,())) (Z.1,(Z.2.1,(Z.2.2.1,(Z.2.2.2.1,())))) aH.1 aH.2 (aC.1,(aC.2.1,(aC.2.2.1,(aC.2.2.2.1,())))) (aD.1,(aD.2.1,())) aG).bind fun aI=>
  some ((aI.1,aI.2.1,aI.2.2.1,aI.2.2.2.1,aI.2.2.2.2.1,aH.1,aH.2,aI.2.2.2.2.2))
 else
  (qO O Z aA aB aC aD aG).bind fun aJ=>
  some ((aJ.1,aJ.2.1,aJ.2.2.1,aJ.2.2.2.1,aJ.2.2.2.2.1,aA,aB,aJ.2.2.2.2.2))
section
variable (O:Int) (Z:(List UInt8)) (aA:((List UInt8)×(Int×Unit))) (aB:q9) (aC:Int) (aD:Int) (aE:pZ) (aF:((List Int)×(Int×Unit))) (aG:Nat) (aH:Nat) (aI:(List ((List UInt8)×Bool)))
@[reducible] def a2r:List Slot:=[(.val .ref (some (0,0)),none),(.val (.int .i64) O,none),(.val .str Z,none)]
@[reducible] def a2s:List Blk:=[.cells q7 (aA,(aB,(aC,(aD,(aE,((some 3),aF)))))) [(11,1),(13,2)],.grow 52 7 aG,.grow 3 1 aH,.map .str .bool aI]
@[go_sem] def a2t:Ret:=⟨[aG=(List.length aE.2.2.2.1),aH=(List.length aF.1),((uY aA aB aC aD aE aF O Z aI)).isSome=true],[],[.cells q7 ((aA.1,((val (uY aA aB aC aD aE aF O Z aI)).1,())),(((val (uY aA aB aC aD aE aF O Z aI)).2.1,((val (uY aA aB aC aD aE aF O Z aI)).2.2.1,((val (uY aA aB aC aD aE aF O Z aI)).2.2.2.1,((val (uY aA aB aC aD aE aF O Z aI)).2.2.2.2.1,())))),((val (uY aA aB aC aD aE aF O Z aI)).2.2.2.2.2.1,((val (uY aA aB aC aD aE aF O Z aI)).2.2.2.2.2.2.1,((aE.1,(aE.2.1,(aE.2.2.1,(aE.2.2.2.1,())))),((some 3),(aF.1,((val (uY aA aB aC aD aE aF O Z aI)).2.2.2.2.2.2.2,())))))))) [(11,1),(13,2)],.grow 52 7 (List.length aE.2.2.2.1),.grow 3 1 (List.length aF.1),.map .str .bool aI]⟩
def aAM:List Slot→List Blk→Option Ret:=pM (V:=(Int×(List UInt8)×((List UInt8)×(Int×Unit))×q9×Int×Int×pZ×((List Int)×(Int×Unit))×Nat×Nat×(List ((List UInt8)×Bool)))) (fun x=>a2r x.1 x.2.1) (fun x=>a2s x.2.2.1 x.2.2.2.1 x.2.2.2.2.1 x.2.2.2.2.2.1 x.2.2.2.2.2.2.1 x.2.2.2.2.2.2.2.1 x.2.2.2.2.2.2.2.2.1 x.2.2.2.2.2.2.2.2.2.1 x.2.2.2.2.2.2.2.2.2.2) fun x=>a2t x.1 x.2.1 x.2.2.1 x.2.2.2.1 x.2.2.2.2.1 x.2.2.2.2.2.1 x.2.2.2.2.2.2.1 x.2.2.2.2.2.2.2.1 x.2.2.2.2.2.2.2.2.1 x.2.2.2.2.2.2.2.2.2.1 x.2.2.2.2.2.2.2.2.2.2
@[go_sem] theorem aLU:aAM (no_index (a2r O Z)) (no_index (a2s aA aB aC aD aE aF aG aH aI))=some (a2t O Z aA aB aC aD aE aF aG aH aI):=pN (fun⟨a0,a1,a2,a3,a4,a5,a6,a7,a8,a9,a10⟩ ⟨b0,b1,b2,b3,b4,b5,b6,b7,b8,b9,b10⟩ h1 h2=>by cases h1;cases h2;rfl) (O,Z,aA,aB,aC,aD,aE,aF,aG,aH,aI)
end
@[reducible,go_sem] def L9:Nat×Sig:=(69,⟨[.p q7 [11,13],.v,.v],aAM,[(0,12,.m)],[1,2,3],none⟩)
theorem LA:Env Tryz.prog [] (pE [a7R,wN,vH]):=⟨trivial,oZ aFD (oZ BH (oZ AR pP)),pH⟩
theorem a2u:pI Tryz.prog L9:=by
 refine pO LA Tryz.func69 (c:=_) rfl (N:=15) (by kernel_rfl) (ts:=[]) rfl (fun _ _=>rfl) ?_
 intro⟨O,Z,aA,aB,aC,aD,aE,aF,aG,aH,aI⟩ hs hrow
 dsimp only[a2r,a2s,a2t,pK,enumH,pD,pG,pL,Nat.reduceAdd] at hs hrow⊢
 obtain⟨rfl,rfl,hz⟩:=hs
 obtain⟨z0,hC0⟩:=Option.isSome_iff_exists.1 hz
 try rw[pW hC0]
 clear hz
 unfold uY at hC0
 refine p4 ?_
 refine oS LA ?_ (hp:=by exact And.intro (by first|exact rfl|exact trivial) (And.intro (by first|exact rfl|exact trivial) (And.intro (by first|exact rfl|exact trivial) (And.intro (by first|exact rfl|exact trivial) (And.intro (by first|exact rfl|exact trivial) ((by first|exact rfl|exact trivial)))))))
 refine oX hC0 (fun hC0 hc1=> ?_) (fun hC0 hc1=> ?_)
 ·obtain⟨aJ,hw_23,hC0⟩:=rJ hC0
  try simp only[go_sem] at hw_23
  refine pF LA ?_ (hp:=by exact And.intro (by first|exact rfl|exact trivial) (And.intro (by first|exact rfl|exact trivial) (And.intro (by first|exact rfl|exact trivial) (And.intro (by first|exact rfl|exact trivial) ((by first|exact rfl|exact trivial)))))) (h:=by simp only[go_sem,hw_23];rfl)
  refine oW ?_
  obtain⟨aK,hv1,hw1,hC0⟩:=p9 hC0
  try simp only[go_sem] at hw1
  refine pF LA ?_ (hp:=by exact And.intro (by first|exact rfl|exact trivial) (And.intro (by first|exact rfl|exact trivial) (And.intro (by first|exact rfl|exact trivial) (And.intro (by first|exact rfl|exact trivial) (And.intro (by first|exact rfl|exact trivial) ((p8 hv1))))))) (h:=by simp only[go_sem,hw1];rfl)
  cases hC0
  exact⟨[(0,0),(1,1),(2,2),(3,3)],by rfl,by rfl,by rfl⟩
 ·refine p7 (oW ?_)
  obtain⟨aL,hv2,hw2,hC0⟩:=p9 hC0
  try simp only[go_sem] at hw2
  refine pF LA ?_ (hp:=by exact And.intro (by first|exact rfl|exact trivial) (And.intro (by first|exact rfl|exact trivial) (And.intro (by first|exact rfl|exact trivial) (And.intro (by first|exact rfl|exact trivial) (And.intro (by first|exact rfl|exact trivial) ((p8 hv2))))))) (h:=by simp only[go_sem,hw2];rfl)
  cases hC0
  exact⟨[(0,0),(1,1),(2,2),(3,3)],by rfl,by rfl,by rfl⟩
attribute [irreducible] uY
end
end Go.Proofs.YtfchbnahjcdiiaaGreatDoor
namespace Go.Proofs.YtfchbnahjcdiiaaGreatDoor
open Vc
set_option maxRecDepth 100000
set_option maxHeartbeats 4000000
set_option linter.unusedSimpArgs false
set_option linter.unusedVariables false
noncomputable section
def wU (O:((List UInt8)×(Int×Unit))) (Z:q9) (aA:Int) (aB:Int) (aC:pZ) (aD:((List Int)×(Int×Unit))) (aE:Int) (aF:Bool) (aG:(List ((List UInt8)×Bool))) (aH:(List UInt8)) (aI:(List UInt8)) (aJ:(List UInt8)) (aK:(List (List UInt8))) (aL:(Int×((List p6)×Unit))) (aM:Bool) (aN:(List (List UInt8))) (aO:(List ((List UInt8)×Bool))):Option (Int×Int×(List UInt8)×Int×Int×Int×Int×Int):=
 if (((!decide (Z.1=aE))==false)=true→((BI Z.2.1)).isSome=true) then
  if ((!decide (Z.1=aE))||(!(val (BI Z.2.1))))=true then
   q6 (s9 O Z aA aB aC aD (3:Int) aG) fun aP=>
   (qO (O.1,(O.2.1,())) (Z.1,(Z.2.1,(Z.2.2.1,(Z.2.2.2.1,())))) aP.1 aP.2 (aC.1,(aC.2.1,(aC.2.2.1,(aC.2.2.2.1,())))) (aD.1,(aD.2.1,())) aG).bind fun aQ=>
   some ((aQ.1,aQ.2.1,aQ.2.2.1,aQ.2.2.2.1,aQ.2.2.2.2.1,aP.1,aP.2,aQ.2.2.2.2.2))
  else
   (GA Z.2.1 aH aI aJ aK aL aM aN aO).bind fun aR=>
   if aR=true then
    q6 (s9 O Z aA aB aC aD (9:Int) aG) fun aS=>
    (qO (O.1,(O.2.1,())) (Z.1,(Z.2.1,(Z.2.2.1,(Z.2.2.2.1,())))) aS.1 aS.2 (aC.1,(aC.2.1,(aC.2.2.1,(aC.2.2.2.1,())))) (aD.1,(aD.2.1,())) aG).bind fun aT=>
    some ((aT.1,aT.2.1,aT.2.2.1,aT.2.2.2.1,aT.2.2.2.2.1,aS.1,aS.2,aT.2.2.2.2.2))
   else
    if aF=true then
     q6 (s9 O Z aA aB aC aD (6:Int) aG) fun aU=>
     (qO (O.1,(O.2.1,())) (Z.1,(Z.2.1,(Z.2.2.1,(Z.2.2.2.1,())))) aU.1 aU.2 (aC.1,(aC.2.1,(aC.2.2.1,(aC.2.2.2.1,())))) (aD.1,(aD.2.1,())) aG).bind fun aV=>
     some ((aV.1,aV.2.1,aV.2.2.1,aV.2.2.2.1,aV.2.2.2.2.1,aU.1,aU.2,aV.2.2.2.2.2))
    else
     (qO O Z aA aB aC aD aG).bind fun aW=>
     some ((aW.1,aW.2.1,aW.2.2.1,aW.2.2.2.1,aW.2.2.2.2.1,aA,aB,aW.2.2.2.2.2))
 else none
section
variable (O:Int) (Z:Bool) (aA:((List UInt8)×(Int×Unit))) (aB:q9) (aC:Int) (aD:Int) (aE:pZ) (aF:((List Int)×(Int×Unit))) (aG:Nat) (aH:Nat) (aI:(List ((List UInt8)×Bool))) (aJ:(List UInt8)) (aK:(List UInt8)) (aL:(List UInt8)) (aM:(List (List UInt8))) (aN:Nat) (aO:(Int×((List p6)×Unit))) (aP:Bool) (aQ:Nat) (aR:Nat) (aS:(List (List UInt8))) (aT:Nat) (aU:(List ((List UInt8)×Bool)))
@[reducible] def a2v:List Slot:=[(.val .ref (some (0,0)),none),(.val (.int .i64) O,none),(.val .clo (some (128,[])),none),(.val .clo (some (192,[(3,0)])),none),(.val .bool Z,none)]
@[reducible] def a2w:List Blk:=[.cells q7 (aA,(aB,(aC,(aD,(aE,((some 4),aF)))))) [(11,1),(13,2)],.grow 52 7 aG,.grow 3 1 aH,.cells .ref (some (5,0)) [],.map .str .bool aI,.cells rA ((aJ,(aK,(aL,(aM,((some (8,aN)),aO))))),(aP,((some 9),()))) [(3,6),(6,7)],.grow 9 1 aQ,.grow 144 2 aR,.row 9 .str aS aT,.map .str .bool aU]
@[go_sem] def a2x:Ret:=⟨[aG=(List.length aE.2.2.2.1),aH=(List.length aF.1),aQ=(List.length aM),aR=(List.length aO.2.1),aN=aT,((wU aA aB aC aD aE aF O Z aI aJ aK aL aM aO aP aS aU)).isSome=true],[(.val .str aB.2.1,none)],[.cells q7 ((aA.1,((val (wU aA aB aC aD aE aF O Z aI aJ aK aL aM aO aP aS aU)).1,())),(((val (wU aA aB aC aD aE aF O Z aI aJ aK aL aM aO aP aS aU)).2.1,((val (wU aA aB aC aD aE aF O Z aI aJ aK aL aM aO aP aS aU)).2.2.1,((val (wU aA aB aC aD aE aF O Z aI aJ aK aL aM aO aP aS aU)).2.2.2.1,((val (wU aA aB aC aD aE aF O Z aI aJ aK aL aM aO aP aS aU)).2.2.2.2.1,())))),((val (wU aA aB aC aD aE aF O Z aI aJ aK aL aM aO aP aS aU)).2.2.2.2.2.1,((val (wU aA aB aC aD aE aF O Z aI aJ aK aL aM aO aP aS aU)).2.2.2.2.2.2.1,((aE.1,(aE.2.1,(aE.2.2.1,(aE.2.2.2.1,())))),((some 4),(aF.1,((val (wU aA aB aC aD aE aF O Z aI aJ aK aL aM aO aP aS aU)).2.2.2.2.2.2.2,())))))))) [(11,1),(13,2)],.grow 52 7 (List.length aE.2.2.2.1),.grow 3 1 (List.length aF.1),.cells .ref (some (5,0)) [],.map .str .bool aI,.cells rA ((aJ,(aK,(aL,(aM,((some (8,(List.length aS))),(aO.1,(aO.2.1,()))))))),(aP,((some 9),()))) [(3,6),(6,7)],.grow 9 1 (List.length aM),.grow 144 2 (List.length aO.2.1),.row 9 .str aS (List.length aS),.map .str .bool aU]⟩
def aAN:List Slot→List Blk→Option Ret:=pM (V:=(Int×Bool×((List UInt8)×(Int×Unit))×q9×Int×Int×pZ×((List Int)×(Int×Unit))×Nat×Nat×(List ((List UInt8)×Bool))×(List UInt8)×(List UInt8)×(List UInt8)×(List (List UInt8))×Nat×(Int×((List p6)×Unit))×Bool×Nat×Nat×(List (List UInt8))×Nat×(List ((List UInt8)×Bool)))) (fun x=>a2v x.1 x.2.1) (fun x=>a2w x.2.2.1 x.2.2.2.1 x.2.2.2.2.1 x.2.2.2.2.2.1 x.2.2.2.2.2.2.1 x.2.2.2.2.2.2.2.1 x.2.2.2.2.2.2.2.2.1 x.2.2.2.2.2.2.2.2.2.1 x.2.2.2.2.2.2.2.2.2.2.1 x.2.2.2.2.2.2.2.2.2.2.2.1 x.2.2.2.2.2.2.2.2.2.2.2.2.1 x.2.2.2.2.2.2.2.2.2.2.2.2.2.1 x.2.2.2.2.2.2.2.2.2.2.2.2.2.2.1 x.2.2.2.2.2.2.2.2.2.2.2.2.2.2.2.1 x.2.2.2.2.2.2.2.2.2.2.2.2.2.2.2.2.1 x.2.2.2.2.2.2.2.2.2.2.2.2.2.2.2.2.2.1 x.2.2.2.2.2.2.2.2.2.2.2.2.2.2.2.2.2.2.1 x.2.2.2.2.2.2.2.2.2.2.2.2.2.2.2.2.2.2.2.1 x.2.2.2.2.2.2.2.2.2.2.2.2.2.2.2.2.2.2.2.2.1 x.2.2.2.2.2.2.2.2.2.2.2.2.2.2.2.2.2.2.2.2.2.1 x.2.2.2.2.2.2.2.2.2.2.2.2.2.2.2.2.2.2.2.2.2.2) fun x=>a2x x.1 x.2.1 x.2.2.1 x.2.2.2.1 x.2.2.2.2.1 x.2.2.2.2.2.1 x.2.2.2.2.2.2.1 x.2.2.2.2.2.2.2.1 x.2.2.2.2.2.2.2.2.1 x.2.2.2.2.2.2.2.2.2.1 x.2.2.2.2.2.2.2.2.2.2.1 x.2.2.2.2.2.2.2.2.2.2.2.1 x.2.2.2.2.2.2.2.2.2.2.2.2.1 x.2.2.2.2.2.2.2.2.2.2.2.2.2.1 x.2.2.2.2.2.2.2.2.2.2.2.2.2.2.1 x.2.2.2.2.2.2.2.2.2.2.2.2.2.2.2.1 x.2.2.2.2.2.2.2.2.2.2.2.2.2.2.2.2.1 x.2.2.2.2.2.2.2.2.2.2.2.2.2.2.2.2.2.1 x.2.2.2.2.2.2.2.2.2.2.2.2.2.2.2.2.2.2.1 x.2.2.2.2.2.2.2.2.2.2.2.2.2.2.2.2.2.2.2.1 x.2.2.2.2.2.2.2.2.2.2.2.2.2.2.2.2.2.2.2.2.1 x.2.2.2.2.2.2.2.2.2.2.2.2.2.2.2.2.2.2.2.2.2.1 x.2.2.2.2.2.2.2.2.2.2.2.2.2.2.2.2.2.2.2.2.2.2
@[go_sem] theorem aLV:aAN (no_index (a2v O Z)) (no_index (a2w aA aB aC aD aE aF aG aH aI aJ aK aL aM aN aO aP aQ aR aS aT aU))=some (a2x O Z aA aB aC aD aE aF aG aH aI aJ aK aL aM aN aO aP aQ aR aS aT aU):=pN (fun⟨a0,a1,a2,a3,a4,a5,a6,a7,a8,a9,a10,a11,a12,a13,a14,a15,a16,a17,a18,a19,a20,a21,a22⟩ ⟨b0,b1,b2,b3,b4,b5,b6,b7,b8,b9,b10,b11,b12,b13,b14,qI,b16,b17,b18,b19,b20,b21,b22⟩ h1 h2=>by cases h1;cases h2;rfl) (O,Z,aA,aB,aC,aD,aE,aF,aG,aH,aI,aJ,aK,aL,aM,aN,aO,aP,aQ,aR,aS,aT,aU)
end
@[reducible,go_sem] def a2y:Nat×Sig:=(70,⟨[.p q7 [11,13],.v,.v,.f [(.ref,[])],.v],aAN,[(0,12,.m),(3,0,.p rA [3,6]),(5,4,.r),(5,8,.m)],[1,2,3,4,5,6,7,8,9],none⟩)
theorem aAO:Env Tryz.prog [] (pE [KO,wN,vH,a0k]):=⟨trivial,oZ a8d (oZ BH (oZ AR (oZ aGb pP))),pH⟩
theorem wV:Env Tryz.prog [sE,q8,wM,vE] (pE [KO,wN,vH,a0k]):=⟨⟨sL,⟨qA,⟨yC,⟨wL,trivial⟩⟩⟩⟩,aAO.Γ,pH⟩
theorem aGC:pI Tryz.prog a2y:=by
 refine pO aAO Tryz.func70 (c:=_) rfl (N:=46) (by kernel_rfl) (ts:=[(10,none)]) rfl (fun _ _=>rfl) ?_
 intro⟨O,Z,aA,aB,aC,aD,aE,aF,aG,aH,aI,aJ,aK,aL,aM,aN,aO,aP,aQ,aR,aS,aT,aU⟩ hs hrow
 dsimp only[a2v,a2w,a2x,pK,enumH,pD,pG,pL,Nat.reduceAdd] at hs hrow⊢
 obtain⟨rfl,rfl,rfl,rfl,rfl,hz⟩:=hs
 obtain⟨rfl,_⟩:=hrow
 obtain⟨z0,hC0⟩:=Option.isSome_iff_exists.1 hz
 try rw[pW hC0]
 clear hz
 unfold wU at hC0
 refine oS wV ?_
 refine oS wV ?_
 refine p4 (pU ?_)
 obtain⟨hg1,hC0⟩:=oU hC0
 refine oS wV ?_ (hp:=by exact And.intro (fun hh=>hh) (And.intro (fun hh=>hh) (And.intro hg1 (And.intro (fun hh=>hh) ((fun hh=>sH hh))))))
 refine oX hC0 (fun hC0 hc1=> ?_) (fun hC0 hc1=> ?_)
 ·obtain⟨aV,hw_40,hC0⟩:=rJ hC0
  try simp only[go_sem] at hw_40
  refine pF wV ?_ (hp:=by exact And.intro (by first|exact rfl|exact trivial) (And.intro (by first|exact rfl|exact trivial) (And.intro (by first|exact rfl|exact trivial) (And.intro (by first|exact rfl|exact trivial) ((by first|exact rfl|exact trivial)))))) (h:=by simp only[go_sem,hw_40];rfl)
  refine pB (oW ?_)
  obtain⟨aW,hv2,hw2,hC0⟩:=p9 hC0
  try simp only[go_sem] at hw2
  refine oS wV ?_ (hp:=by exact And.intro (by first|exact rfl|exact trivial) (And.intro (by first|exact rfl|exact trivial) (And.intro (by first|exact rfl|exact trivial) (And.intro (by first|exact rfl|exact trivial) (And.intro (by first|exact rfl|exact trivial) ((p8 hv2))))))) (h:=by simp only[go_sem,hw2];rfl)
  refine oS wV ?_
  refine oV ?_
  cases hC0
  exact⟨[(0,0),(1,1),(2,2),(3,3),(4,4),(5,5),(6,6),(7,7),(8,8),(9,9)],by rfl,by rfl,by rfl⟩
 ·obtain⟨aX,hv3,hw3,hC0⟩:=p9 hC0
  try simp only[go_sem] at hw3
  refine oS wV ?_ (hp:=by exact And.intro (by first|exact rfl|exact trivial) (And.intro (by first|exact rfl|exact trivial) (And.intro (by first|exact rfl|exact trivial) (And.intro (by first|exact rfl|exact trivial) (And.intro (by first|exact rfl|exact trivial) (And.intro (by first|exact rfl|exact trivial) (And.intro (by first|exact rfl|exact trivial) (And.intro (by first|exact rfl|exact trivial) (And.intro (by first|exact rfl|exact trivial) ((p8 hv3))))))))))) (h:=by simp only[go_sem,hw3];rfl)
  refine oX hC0 (fun hC0 hc2=> ?_) (fun hC0 hc2=> ?_)
  ·obtain⟨aY,hw_43,hC0⟩:=rJ hC0
   try simp only[go_sem] at hw_43
   refine pF wV ?_ (hp:=by exact And.intro (by first|exact rfl|exact trivial) (And.intro (by first|exact rfl|exact trivial) (And.intro (by first|exact rfl|exact trivial) (And.intro (by first|exact rfl|exact trivial) ((by first|exact rfl|exact trivial)))))) (h:=by simp only[go_sem,hw_43];rfl)
   refine pB (oW ?_)
   obtain⟨aZ,hv4,hw4,hC0⟩:=p9 hC0
   try simp only[go_sem] at hw4
   refine oS wV ?_ (hp:=by exact And.intro (by first|exact rfl|exact trivial) (And.intro (by first|exact rfl|exact trivial) (And.intro (by first|exact rfl|exact trivial) (And.intro (by first|exact rfl|exact trivial) (And.intro (by first|exact rfl|exact trivial) ((p8 hv4))))))) (h:=by simp only[go_sem,hw4];rfl)
   refine oS wV ?_
   refine oV ?_
   cases hC0
   exact⟨[(0,0),(1,1),(2,2),(3,3),(4,4),(5,5),(6,6),(7,7),(8,8),(9,9)],by rfl,by rfl,by rfl⟩
  ·refine oS wV ?_
   refine oX hC0 (fun hC0 hc3=> ?_) (fun hC0 hc3=> ?_)
   ·obtain⟨bA,hw_45,hC0⟩:=rJ hC0
    try simp only[go_sem] at hw_45
    refine pF wV ?_ (hp:=by exact And.intro (by first|exact rfl|exact trivial) (And.intro (by first|exact rfl|exact trivial) (And.intro (by first|exact rfl|exact trivial) (And.intro (by first|exact rfl|exact trivial) ((by first|exact rfl|exact trivial)))))) (h:=by simp only[go_sem,hw_45];rfl)
    refine pB (oW ?_)
    obtain⟨bB,hv5,hw5,hC0⟩:=p9 hC0
    try simp only[go_sem] at hw5
    refine oS wV ?_ (hp:=by exact And.intro (by first|exact rfl|exact trivial) (And.intro (by first|exact rfl|exact trivial) (And.intro (by first|exact rfl|exact trivial) (And.intro (by first|exact rfl|exact trivial) (And.intro (by first|exact rfl|exact trivial) ((p8 hv5))))))) (h:=by simp only[go_sem,hw5];rfl)
    refine oS wV ?_
    refine oV ?_
    cases hC0
    exact⟨[(0,0),(1,1),(2,2),(3,3),(4,4),(5,5),(6,6),(7,7),(8,8),(9,9)],by rfl,by rfl,by rfl⟩
   ·refine p7 (pB (oW ?_))
    obtain⟨bC,hv6,hw6,hC0⟩:=p9 hC0
    try simp only[go_sem] at hw6
    refine oS wV ?_ (hp:=by exact And.intro (by first|exact rfl|exact trivial) (And.intro (by first|exact rfl|exact trivial) (And.intro (by first|exact rfl|exact trivial) (And.intro (by first|exact rfl|exact trivial) (And.intro (by first|exact rfl|exact trivial) ((p8 hv6))))))) (h:=by simp only[go_sem,hw6];rfl)
    refine oS wV ?_
    refine oV ?_
    cases hC0
    exact⟨[(0,0),(1,1),(2,2),(3,3),(4,4),(5,5),(6,6),(7,7),(8,8),(9,9)],by rfl,by rfl,by rfl⟩
attribute [irreducible] wU
def zB (O:(List UInt8)) (Z:(Int×Int×Int×(List UInt8)×(List (List UInt8))×(List p6)×(List Int))):(Int×Int×Int×(List pX)×(List Int))→Option ((Int×Int×Int×(List pX)×(List Int))⊕(Int×Int×Int×(List pX)×(List Int))):=fun(aA,aB,aC,aD,aE)=>
 if (((decide (aC=(0:Int)))==true)=true→((CS O aA)).isSome=true) then
  if ((decide (aC=(0:Int)))&&(decide ((val (CS O aA))<(List.length O:Int))))=true then
   (AS (O,(aA,(aB,(aC,((Z.2.2.2.1,(Z.2.2.2.2.1,(Z.2.2.2.2.2.1,(aD,())))),(aE,()))))))).bind fun aF=>
   some (.inl (aF.1,aF.2.1,aF.2.2.1,aF.2.2.2.1,aF.2.2.2.2))
  else
   some (.inr (aA,aB,aC,aD,aE))
 else none
def yI (O:(List UInt8)):Option ((List UInt8)×(List (List UInt8))×(List p6)×(List pX)×(List Int)×Int×Int):=
 (xL (O,((0:Int),((0:Int),((0:Int),((([]:List UInt8),(([]:List (List UInt8)),(([]:List p6),(([]:List pX),())))),(([]:List Int),()))))))).bind fun Z=>
 qE (pT (zB O Z) (Z.1,Z.2.1,Z.2.2.1,([]:List pX),Z.2.2.2.2.2.2)) fun(aA,aB,aC,aD,aE)=>
 if (!decide (aC=(0:Int)))=true then
  some ((([]:List UInt8),([]:List (List UInt8)),([]:List p6),([]:List pX),([]:List Int),aB,aC))
 else
  some ((Z.2.2.2.1,Z.2.2.2.2.1,Z.2.2.2.2.2.1,aD,aE,(0:Int),(0:Int)))
section
variable (O:(List UInt8))
@[reducible] def a2z:List Slot:=[(.val .str O,none)]
@[reducible] def a2A:List Blk:=[]
@[go_sem] def a2B:Ret:=⟨[((yI O)).isSome=true],[(.val y9 ((val (yI O)).1,((val (yI O)).2.1,((val (yI O)).2.2.1,((val (yI O)).2.2.2.1,())))),none),(.val (.list (.int .i64)) ((val (yI O)).2.2.2.2.1),none),(.val (.int .i64) ((val (yI O)).2.2.2.2.2.1),none),(.val (.int .i64) ((val (yI O)).2.2.2.2.2.2),none)],[]⟩
def aAP:List Slot→List Blk→Option Ret:=pM (V:=(List UInt8)) (fun x=>a2z x) (fun x=>a2A) fun x=>a2B x
@[go_sem] theorem aLW:aAP (no_index (a2z O)) (no_index a2A)=some (a2B O):=pN (fun a0 b0 h1 h2=>by cases h1;cases h2;rfl) O
end
@[reducible,go_sem] def aAQ:Nat×Sig:=(28,⟨[.v],aAP,[],[],none⟩)
theorem EP:Env Tryz.prog [sE,q8,yB,w4,CI,AI] (pE [aAB,Z8,aAI]):=⟨⟨sL,⟨qA,⟨zT,⟨xI,⟨FV,⟨CG,trivial⟩⟩⟩⟩⟩⟩,oZ aGw (oZ a9l (oZ aGA pP)),pH⟩
theorem aGD:pI Tryz.prog aAQ:=by
 refine pO EP Tryz.func28 (c:=_) rfl (N:=36) (by kernel_rfl) (ts:=[(2,some 27),(3,none),(4,none),(5,none)]) rfl (fun _ _=>rfl) ?_
 intro O hs hrow
 dsimp only[a2z,a2A,a2B,pK,enumH,pD,pG,pL,Nat.reduceAdd] at hs hrow⊢
 have hz:=hs
 obtain⟨z0,hC0⟩:=Option.isSome_iff_exists.1 hz
 try rw[pW hC0]
 clear hz hs
 unfold yI at hC0
 refine oS EP ?_
 obtain⟨Z,hv1,hw1,hC0⟩:=p9 hC0
 try simp only[go_sem] at hw1
 refine oS EP ?_ (hp:=by exact(p8 hv1)) (h:=by simp only[go_sem,hw1];rfl)
 refine p4 (pU ?_)
 obtain⟨y1,hy1,hC0⟩:=oY hC0
 refine rI 0 (fun s=>s=(fun x=>⟨[(2,(.val .ref (some (0,0)),none)),(6,(.val .ref (some (1,0)),none))],[(0,.cells y9 (([]:List UInt8),(([]:List (List UInt8)),(([]:List p6),(([]:List pX),())))) [(1,2),(2,3),(3,4)]),(1,.cells s0 (O,(x.1,(x.2.1,(x.2.2.1,((Z.2.2.2.1,(Z.2.2.2.2.1,(Z.2.2.2.2.2.1,(x.2.2.2.1,())))),(x.2.2.2.2,())))))) []),(2,.grow 9 1 (List.length ([]:List (List UInt8)))),(3,.grow 144 2 (List.length ([]:List p6))),(4,.grow 52 7 (List.length ([]:List pX)))],5,36,0⟩) y1) ?_ ?_
 ·refine rH hy1 (fun x=>⟨[(0,(.val .str O,none)),(2,(.val .ref (some (0,0)),none)),(6,(.val .ref (some (1,0)),none))],[(0,.cells y9 (([]:List UInt8),(([]:List (List UInt8)),(([]:List p6),(([]:List pX),())))) [(1,2),(2,3),(3,4)]),(1,.cells s0 (O,(x.1,(x.2.1,(x.2.2.1,((Z.2.2.2.1,(Z.2.2.2.2.1,(Z.2.2.2.2.2.1,(x.2.2.2.1,())))),(x.2.2.2.2,())))))) []),(2,.grow 9 1 (List.length ([]:List (List UInt8)))),(3,.grow 144 2 (List.length ([]:List p6))),(4,.grow 52 7 (List.length ([]:List pX)))],5,36,0⟩) ⟨[0,2,6],[(0,0),(1,112),(2,1),(3,2),(4,3)]⟩ (by rfl) ?_
  intro x1 w1 n1 hC1 hN1
  obtain⟨aA,aB,aC,aD,aE⟩:=x1
  unfold zB at hC1
  dsimp only at hC1⊢
  refine p4 ?_
  obtain⟨hg2,hC1⟩:=oU hC1
  refine oS EP ?_ (hp:=by exact And.intro (fun hh=>hh) (And.intro (fun hh=>hh) (And.intro (fun hh=>hh) (And.intro hg2 (And.intro (fun hh=>hh) (And.intro (fun hh=>hh) (And.intro (fun hh=>hh) ((fun hh=>pY hh)))))))))
  refine oX hC1 (fun hC1 hc1=> ?_) (fun hC1 hc1=> ?_)
  ·refine p7 (oW (pU ?_))
   obtain⟨aF,hv3,hw3,hC1⟩:=p9 hC1
   try simp only[go_sem] at hw3
   refine pF EP ?_ (hp:=by exact(p8 hv3)) (h:=by simp only[go_sem,hw3];rfl)
   refine pB ?_
   cases hC1
   exact qG ⟨⟨[0,2,6],[(0,0),(1,1),(2,2),(3,3),(4,4)]⟩,_,by rfl,hN1⟩
  ·refine qY (r8 (r5 ?_))
   cases hC1
   cases hN1
   exact qZ ⟨⟨[2,6],[(0,0),(1,1),(2,2),(3,3),(4,4)]⟩,by rfl⟩
 ·rintro _ rfl
  obtain⟨aG,aH,aI,aJ,aK⟩:=y1
  dsimp only at hC0⊢
  refine rF (oW (p4 ?_))
  refine oS EP ?_
  refine oX hC0 (fun hC0 hc2=> ?_) (fun hC0 hc2=> ?_)
  ·refine qR EP ?_
   refine oV (pC ?_)
   cases hC0
   exact⟨[],by rfl,by rfl,by rfl⟩
  ·refine p7 (oW ?_)
   refine qR EP ?_
   refine oV ?_
   cases hC0
   exact⟨[],by rfl,by rfl,by rfl⟩
attribute [irreducible] yI
end
end Go.Proofs.YtfchbnahjcdiiaaGreatDoor
namespace Go.Proofs.YtfchbnahjcdiiaaGreatDoor
open Vc
set_option maxRecDepth 100000
set_option maxHeartbeats 4000000
set_option linter.unusedSimpArgs false
set_option linter.unusedVariables false
noncomputable section
def wW (O:((List UInt8)×(Int×Unit))) (Z:q9) (aA:Int) (aB:Int) (aC:pZ) (aD:((List Int)×(Int×Unit))) (aE:Int) (aF:Bool) (aG:(List ((List UInt8)×Bool))):Option (Int×Int×(List UInt8)×Int×Int×Int×Int×Int):=
 if ((!decide (Z.1=aE))||(!((!decide (Z.2.1=([]:List UInt8)))&&(decide ((List.length Z.2.1:Int)≤(200:Int))))))=true then
  q6 (s9 O Z aA aB aC aD (3:Int) aG) fun aH=>
  (qO (O.1,(O.2.1,())) (Z.1,(Z.2.1,(Z.2.2.1,(Z.2.2.2.1,())))) aH.1 aH.2 (aC.1,(aC.2.1,(aC.2.2.1,(aC.2.2.2.1,())))) (aD.1,(aD.2.1,())) aG).bind fun aI=>
  some ((aI.1,aI.2.1,aI.2.2.1,aI.2.2.2.1,aI.2.2.2.2.1,aH.1,aH.2,aI.2.2.2.2.2))
 else
  if (qD .str .bool aG Z.2.1)=true then
   q6 (s9 O Z aA aB aC aD (9:Int) aG) fun aJ=>
   (qO (O.1,(O.2.1,())) (Z.1,(Z.2.1,(Z.2.2.1,(Z.2.2.2.1,())))) aJ.1 aJ.2 (aC.1,(aC.2.1,(aC.2.2.1,(aC.2.2.2.1,())))) (aD.1,(aD.2.1,())) aG).bind fun aK=>
   some ((aK.1,aK.2.1,aK.2.2.1,aK.2.2.2.1,aK.2.2.2.2.1,aJ.1,aJ.2,aK.2.2.2.2.2))
  else
   if aF=true then
    q6 (s9 O Z aA aB aC aD (6:Int) aG) fun aL=>
    (qO (O.1,(O.2.1,())) (Z.1,(Z.2.1,(Z.2.2.1,(Z.2.2.2.1,())))) aL.1 aL.2 (aC.1,(aC.2.1,(aC.2.2.1,(aC.2.2.2.1,())))) (aD.1,(aD.2.1,())) aG).bind fun aM=>
    some ((aM.1,aM.2.1,aM.2.2.1,aM.2.2.2.1,aM.2.2.2.2.1,aL.1,aL.2,aM.2.2.2.2.2))
   else
    (qO O Z aA aB aC aD aG).bind fun aN=>
    some ((aN.1,aN.2.1,aN.2.2.1,aN.2.2.2.1,aN.2.2.2.2.1,aA,aB,aN.2.2.2.2.2))
section
variable (O:Int) (Z:Bool) (aA:((List UInt8)×(Int×Unit))) (aB:q9) (aC:Int) (aD:Int) (aE:pZ) (aF:((List Int)×(Int×Unit))) (aG:Nat) (aH:Nat) (aI:(List ((List UInt8)×Bool)))
@[reducible] def a2C:List Slot:=[(.val .ref (some (0,0)),none),(.val (.int .i64) O,none),(.val .clo (some (74,[])),none),(.val .clo (some (75,[(3,0)])),none),(.val .bool Z,none)]
@[reducible] def a2D:List Blk:=[.cells q7 (aA,(aB,(aC,(aD,(aE,((some 4),aF)))))) [(11,1),(13,2)],.grow 52 7 aG,.grow 3 1 aH,.cells .ref (some (0,0)) [],.map .str .bool aI]
@[go_sem] def a2E:Ret:=⟨[aG=(List.length aE.2.2.2.1),aH=(List.length aF.1),((wW aA aB aC aD aE aF O Z aI)).isSome=true],[(.val .str aB.2.1,none)],[.cells q7 ((aA.1,((val (wW aA aB aC aD aE aF O Z aI)).1,())),(((val (wW aA aB aC aD aE aF O Z aI)).2.1,((val (wW aA aB aC aD aE aF O Z aI)).2.2.1,((val (wW aA aB aC aD aE aF O Z aI)).2.2.2.1,((val (wW aA aB aC aD aE aF O Z aI)).2.2.2.2.1,())))),((val (wW aA aB aC aD aE aF O Z aI)).2.2.2.2.2.1,((val (wW aA aB aC aD aE aF O Z aI)).2.2.2.2.2.2.1,((aE.1,(aE.2.1,(aE.2.2.1,(aE.2.2.2.1,())))),((some 4),(aF.1,((val (wW aA aB aC aD aE aF O Z aI)).2.2.2.2.2.2.2,())))))))) [(11,1),(13,2)],.grow 52 7 (List.length aE.2.2.2.1),.grow 3 1 (List.length aF.1),.cells .ref (some (0,0)) [],.map .str .bool aI]⟩
def aAR:List Slot→List Blk→Option Ret:=pM (V:=(Int×Bool×((List UInt8)×(Int×Unit))×q9×Int×Int×pZ×((List Int)×(Int×Unit))×Nat×Nat×(List ((List UInt8)×Bool)))) (fun x=>a2C x.1 x.2.1) (fun x=>a2D x.2.2.1 x.2.2.2.1 x.2.2.2.2.1 x.2.2.2.2.2.1 x.2.2.2.2.2.2.1 x.2.2.2.2.2.2.2.1 x.2.2.2.2.2.2.2.2.1 x.2.2.2.2.2.2.2.2.2.1 x.2.2.2.2.2.2.2.2.2.2) fun x=>a2E x.1 x.2.1 x.2.2.1 x.2.2.2.1 x.2.2.2.2.1 x.2.2.2.2.2.1 x.2.2.2.2.2.2.1 x.2.2.2.2.2.2.2.1 x.2.2.2.2.2.2.2.2.1 x.2.2.2.2.2.2.2.2.2.1 x.2.2.2.2.2.2.2.2.2.2
@[go_sem] theorem aLX:aAR (no_index (a2C O Z)) (no_index (a2D aA aB aC aD aE aF aG aH aI))=some (a2E O Z aA aB aC aD aE aF aG aH aI):=pN (fun⟨a0,a1,a2,a3,a4,a5,a6,a7,a8,a9,a10⟩ ⟨b0,b1,b2,b3,b4,b5,b6,b7,b8,b9,b10⟩ h1 h2=>by cases h1;cases h2;rfl) (O,Z,aA,aB,aC,aD,aE,aF,aG,aH,aI)
end
@[reducible,go_sem] def aAS:Nat×Sig:=(70,⟨[.p q7 [11,13],.v,.v,.f [(.ref,[])],.v],aAR,[(0,12,.m)],[1,2,3,4],none⟩)
theorem w9:Env Tryz.prog [sE,q8,wM,vE] (pE [a7E,wN,vH,a7H]):=⟨⟨sL,⟨qA,⟨yC,⟨wL,trivial⟩⟩⟩⟩,oZ aFy (oZ BH (oZ AR (oZ aFz pP))),pH⟩
theorem aGE:pI Tryz.prog aAS:=by
 refine pO w9 Tryz.func70 (c:=_) rfl (N:=46) (by kernel_rfl) (ts:=[(10,none)]) rfl (fun _ _=>rfl) ?_
 intro⟨O,Z,aA,aB,aC,aD,aE,aF,aG,aH,aI⟩ hs hrow
 dsimp only[a2C,a2D,a2E,pK,enumH,pD,pG,pL,Nat.reduceAdd] at hs hrow⊢
 obtain⟨rfl,rfl,hz⟩:=hs
 obtain⟨z0,hC0⟩:=Option.isSome_iff_exists.1 hz
 try rw[pW hC0]
 clear hz
 unfold wW at hC0
 refine oS w9 ?_
 refine oS w9 ?_
 refine p4 (pU ?_)
 refine oS w9 ?_ (hp:=by exact And.intro (fun hh=>hh) (And.intro (fun hh=>hh) (And.intro (fun hh=>hh) ((fun hh=>sH hh)))))
 refine oX hC0 (fun hC0 hc1=> ?_) (fun hC0 hc1=> ?_)
 ·obtain⟨aJ,hw_27,hC0⟩:=rJ hC0
  try simp only[go_sem] at hw_27
  refine pF w9 ?_ (hp:=by exact And.intro (by first|exact rfl|exact trivial) (And.intro (by first|exact rfl|exact trivial) (And.intro (by first|exact rfl|exact trivial) (And.intro (by first|exact rfl|exact trivial) ((by first|exact rfl|exact trivial)))))) (h:=by simp only[go_sem,hw_27];rfl)
  refine pB (oW ?_)
  obtain⟨aK,hv1,hw1,hC0⟩:=p9 hC0
  try simp only[go_sem] at hw1
  refine oS w9 ?_ (hp:=by exact And.intro (by first|exact rfl|exact trivial) (And.intro (by first|exact rfl|exact trivial) (And.intro (by first|exact rfl|exact trivial) (And.intro (by first|exact rfl|exact trivial) (And.intro (by first|exact rfl|exact trivial) ((p8 hv1))))))) (h:=by simp only[go_sem,hw1];rfl)
  refine oS w9 ?_
  refine oV ?_
  cases hC0
  exact⟨[(0,0),(1,1),(2,2),(3,3),(4,4)],by rfl,by rfl,by rfl⟩
 ·refine oS w9 ?_ (hp:=by exact And.intro (by first|exact rfl|exact trivial) (And.intro (by first|exact rfl|exact trivial) (And.intro (by first|exact rfl|exact trivial) (And.intro (by first|exact rfl|exact trivial) (And.intro (by first|exact rfl|exact trivial) (And.intro (by first|exact rfl|exact trivial) ((by first|exact rfl|exact trivial))))))))
  refine oX hC0 (fun hC0 hc2=> ?_) (fun hC0 hc2=> ?_)
  ·obtain⟨aL,hw_29,hC0⟩:=rJ hC0
   try simp only[go_sem] at hw_29
   refine pF w9 ?_ (hp:=by exact And.intro (by first|exact rfl|exact trivial) (And.intro (by first|exact rfl|exact trivial) (And.intro (by first|exact rfl|exact trivial) (And.intro (by first|exact rfl|exact trivial) ((by first|exact rfl|exact trivial)))))) (h:=by simp only[go_sem,hw_29];rfl)
   refine pB (oW ?_)
   obtain⟨aM,hv2,hw2,hC0⟩:=p9 hC0
   try simp only[go_sem] at hw2
   refine oS w9 ?_ (hp:=by exact And.intro (by first|exact rfl|exact trivial) (And.intro (by first|exact rfl|exact trivial) (And.intro (by first|exact rfl|exact trivial) (And.intro (by first|exact rfl|exact trivial) (And.intro (by first|exact rfl|exact trivial) ((p8 hv2))))))) (h:=by simp only[go_sem,hw2];rfl)
   refine oS w9 ?_
   refine oV ?_
   cases hC0
   exact⟨[(0,0),(1,1),(2,2),(3,3),(4,4)],by rfl,by rfl,by rfl⟩
  ·refine oS w9 ?_
   refine oX hC0 (fun hC0 hc3=> ?_) (fun hC0 hc3=> ?_)
   ·obtain⟨aN,hw_31,hC0⟩:=rJ hC0
    try simp only[go_sem] at hw_31
    refine pF w9 ?_ (hp:=by exact And.intro (by first|exact rfl|exact trivial) (And.intro (by first|exact rfl|exact trivial) (And.intro (by first|exact rfl|exact trivial) (And.intro (by first|exact rfl|exact trivial) ((by first|exact rfl|exact trivial)))))) (h:=by simp only[go_sem,hw_31];rfl)
    refine pB (oW ?_)
    obtain⟨aO,hv3,hw3,hC0⟩:=p9 hC0
    try simp only[go_sem] at hw3
    refine oS w9 ?_ (hp:=by exact And.intro (by first|exact rfl|exact trivial) (And.intro (by first|exact rfl|exact trivial) (And.intro (by first|exact rfl|exact trivial) (And.intro (by first|exact rfl|exact trivial) (And.intro (by first|exact rfl|exact trivial) ((p8 hv3))))))) (h:=by simp only[go_sem,hw3];rfl)
    refine oS w9 ?_
    refine oV ?_
    cases hC0
    exact⟨[(0,0),(1,1),(2,2),(3,3),(4,4)],by rfl,by rfl,by rfl⟩
   ·refine p7 (pB (oW ?_))
    obtain⟨aP,hv4,hw4,hC0⟩:=p9 hC0
    try simp only[go_sem] at hw4
    refine oS w9 ?_ (hp:=by exact And.intro (by first|exact rfl|exact trivial) (And.intro (by first|exact rfl|exact trivial) (And.intro (by first|exact rfl|exact trivial) (And.intro (by first|exact rfl|exact trivial) (And.intro (by first|exact rfl|exact trivial) ((p8 hv4))))))) (h:=by simp only[go_sem,hw4];rfl)
    refine oS w9 ?_
    refine oV ?_
    cases hC0
    exact⟨[(0,0),(1,1),(2,2),(3,3),(4,4)],by rfl,by rfl,by rfl⟩
attribute [irreducible] wW
def xM (O:((List UInt8)×(Int×Unit))) (Z:q9) (aA:Int) (aB:Int) (aC:pZ) (aD:((List Int)×(Int×Unit))) (aE:(List UInt8)) (aF:(List UInt8)) (aG:(List UInt8)) (aH:(List (List UInt8))) (aI:(Int×((List p6)×Unit))) (aJ:Bool) (aK:(List ((List UInt8)×Bool))) (aL:(List (List UInt8))) (aM:(List ((List UInt8)×Bool))):Option (Int×Int×(List UInt8)×Int×Int×Int×Int×Int×Int):=
 (vI O Z aA aB aC aD aE aF aG aH aI aJ aK aL aM).bind fun aN=>
 (wQ (O.1,(aN.1,())) (aN.2.1,(aN.2.2.1,(aN.2.2.2.1,(aN.2.2.2.2.1,())))) aN.2.2.2.2.2.1 aN.2.2.2.2.2.2.1 (aC.1,(aC.2.1,(aC.2.2.1,(aC.2.2.2.1,())))) (aD.1,(aN.2.2.2.2.2.2.2,())) (2:Int) false aK).bind fun aO=>
 (yZ ([([110,101,119]:List UInt8),([102,117,122,122,121]:List UInt8),([116,114,97,110,115,108,97,116,101,100]:List UInt8),([114,101,118,105,101,119,101,100]:List UInt8),([111,98,115,111,108,101,116,101]:List UInt8)]:List (List UInt8)) aN.2.2.1).bind fun aP=>
 some ((aO.1,aO.2.1,aO.2.2.1,aO.2.2.2.1,aO.2.2.2.2.1,aO.2.2.2.2.2.1,aO.2.2.2.2.2.2.1,aO.2.2.2.2.2.2.2,(max (0:Int) aP)))
section
variable (O:((List UInt8)×(Int×Unit))) (Z:q9) (aA:Int) (aB:Int) (aC:pZ) (aD:((List Int)×(Int×Unit))) (aE:Nat) (aF:Nat) (aG:(List UInt8)) (aH:(List UInt8)) (aI:(List UInt8)) (aJ:(List (List UInt8))) (aK:Nat) (aL:(Int×((List p6)×Unit))) (aM:Bool) (aN:Nat) (aO:Nat) (aP:(List ((List UInt8)×Bool))) (aQ:(List (List UInt8))) (aR:Nat) (aS:(List ((List UInt8)×Bool)))
@[reducible] def a2F:List Slot:=[(.val .ref (some (0,0)),none),(.val .ref (some (3,0)),none)]
@[reducible] def a2G:List Blk:=[.cells q7 (O,(Z,(aA,(aB,(aC,((some 6),aD)))))) [(11,1),(13,2)],.grow 52 7 aE,.grow 3 1 aF,.cells rA ((aG,(aH,(aI,(aJ,((some (7,aK)),aL))))),(aM,((some 8),()))) [(3,4),(6,5)],.grow 9 1 aN,.grow 144 2 aO,.map .str .bool aP,.row 9 .str aQ aR,.map .str .bool aS]
@[go_sem] def a2H:Ret:=⟨[aE=(List.length aC.2.2.2.1),aF=(List.length aD.1),aN=(List.length aJ),aO=(List.length aL.2.1),aK=aR,((xM O Z aA aB aC aD aG aH aI aJ aL aM aP aQ aS)).isSome=true],[],[.cells q7 ((O.1,((val (xM O Z aA aB aC aD aG aH aI aJ aL aM aP aQ aS)).1,())),(((val (xM O Z aA aB aC aD aG aH aI aJ aL aM aP aQ aS)).2.1,((val (xM O Z aA aB aC aD aG aH aI aJ aL aM aP aQ aS)).2.2.1,((val (xM O Z aA aB aC aD aG aH aI aJ aL aM aP aQ aS)).2.2.2.1,((val (xM O Z aA aB aC aD aG aH aI aJ aL aM aP aQ aS)).2.2.2.2.1,())))),((val (xM O Z aA aB aC aD aG aH aI aJ aL aM aP aQ aS)).2.2.2.2.2.1,((val (xM O Z aA aB aC aD aG aH aI aJ aL aM aP aQ aS)).2.2.2.2.2.2.1,((aC.1,(aC.2.1,(aC.2.2.1,(aC.2.2.2.1,())))),((some 6),(aD.1,((val (xM O Z aA aB aC aD aG aH aI aJ aL aM aP aQ aS)).2.2.2.2.2.2.2.1,())))))))) [(11,1),(13,2)],.grow 52 7 (List.length aC.2.2.2.1),.grow 3 1 (List.length aD.1),.cells rA ((aG,(aH,(aI,(aJ,((some (7,(List.length aQ))),((val (xM O Z aA aB aC aD aG aH aI aJ aL aM aP aQ aS)).2.2.2.2.2.2.2.2,(aL.2.1,()))))))),(aM,((some 8),()))) [(3,4),(6,5)],.grow 9 1 (List.length aJ),.grow 144 2 (List.length aL.2.1),.map .str .bool aP,.row 9 .str aQ (List.length aQ),.map .str .bool (rC .str .bool Z.2.1 true aS)]⟩
def aAT:List Slot→List Blk→Option Ret:=pM (V:=(((List UInt8)×(Int×Unit))×q9×Int×Int×pZ×((List Int)×(Int×Unit))×Nat×Nat×(List UInt8)×(List UInt8)×(List UInt8)×(List (List UInt8))×Nat×(Int×((List p6)×Unit))×Bool×Nat×Nat×(List ((List UInt8)×Bool))×(List (List UInt8))×Nat×(List ((List UInt8)×Bool)))) (fun x=>a2F) (fun x=>a2G x.1 x.2.1 x.2.2.1 x.2.2.2.1 x.2.2.2.2.1 x.2.2.2.2.2.1 x.2.2.2.2.2.2.1 x.2.2.2.2.2.2.2.1 x.2.2.2.2.2.2.2.2.1 x.2.2.2.2.2.2.2.2.2.1 x.2.2.2.2.2.2.2.2.2.2.1 x.2.2.2.2.2.2.2.2.2.2.2.1 x.2.2.2.2.2.2.2.2.2.2.2.2.1 x.2.2.2.2.2.2.2.2.2.2.2.2.2.1 x.2.2.2.2.2.2.2.2.2.2.2.2.2.2.1 x.2.2.2.2.2.2.2.2.2.2.2.2.2.2.2.1 x.2.2.2.2.2.2.2.2.2.2.2.2.2.2.2.2.1 x.2.2.2.2.2.2.2.2.2.2.2.2.2.2.2.2.2.1 x.2.2.2.2.2.2.2.2.2.2.2.2.2.2.2.2.2.2.1 x.2.2.2.2.2.2.2.2.2.2.2.2.2.2.2.2.2.2.2.1 x.2.2.2.2.2.2.2.2.2.2.2.2.2.2.2.2.2.2.2.2) fun x=>a2H x.1 x.2.1 x.2.2.1 x.2.2.2.1 x.2.2.2.2.1 x.2.2.2.2.2.1 x.2.2.2.2.2.2.1 x.2.2.2.2.2.2.2.1 x.2.2.2.2.2.2.2.2.1 x.2.2.2.2.2.2.2.2.2.1 x.2.2.2.2.2.2.2.2.2.2.1 x.2.2.2.2.2.2.2.2.2.2.2.1 x.2.2.2.2.2.2.2.2.2.2.2.2.1 x.2.2.2.2.2.2.2.2.2.2.2.2.2.1 x.2.2.2.2.2.2.2.2.2.2.2.2.2.2.1 x.2.2.2.2.2.2.2.2.2.2.2.2.2.2.2.1 x.2.2.2.2.2.2.2.2.2.2.2.2.2.2.2.2.1 x.2.2.2.2.2.2.2.2.2.2.2.2.2.2.2.2.2.1 x.2.2.2.2.2.2.2.2.2.2.2.2.2.2.2.2.2.2.1 x.2.2.2.2.2.2.2.2.2.2.2.2.2.2.2.2.2.2.2.1 x.2.2.2.2.2.2.2.2.2.2.2.2.2.2.2.2.2.2.2.2
@[go_sem] theorem aLY:aAT (no_index a2F) (no_index (a2G O Z aA aB aC aD aE aF aG aH aI aJ aK aL aM aN aO aP aQ aR aS))=some (a2H O Z aA aB aC aD aE aF aG aH aI aJ aK aL aM aN aO aP aQ aR aS):=pN (fun⟨a0,a1,a2,a3,a4,a5,a6,a7,a8,a9,a10,a11,a12,a13,a14,a15,a16,a17,a18,a19,a20⟩ ⟨b0,b1,b2,b3,b4,b5,b6,b7,b8,b9,b10,b11,b12,b13,b14,qI,b16,b17,b18,b19,b20⟩ h1 h2=>by cases h1;cases h2;rfl) (O,Z,aA,aB,aC,aD,aE,aF,aG,aH,aI,aJ,aK,aL,aM,aN,aO,aP,aQ,aR,aS)
end
@[reducible,go_sem] def a2I:Nat×Sig:=(151,⟨[.p q7 [11,13],.p rA [3,6]],aAT,[(0,12,.m),(3,4,.r),(3,8,.m)],[1,2,4,5,6,7],none⟩)
theorem aAU:Env Tryz.prog [] (pE [GD,OJ,a2f,OH]):=⟨trivial,oZ a1S (oZ a8D (oZ aGz (oZ a8f pP))),pH⟩
theorem a2J:Env Tryz.prog [sE,AL,yX] (pE [GD,OJ,a2f,OH]):=⟨⟨sL,⟨CJ,⟨AK,trivial⟩⟩⟩,aAU.Γ,pH⟩
theorem aGF:pI Tryz.prog a2I:=by
 refine pO aAU Tryz.func151 (c:=_) rfl (N:=18) (by kernel_rfl) (ts:=[]) rfl (fun _ _=>rfl) ?_
 intro⟨O,Z,aA,aB,aC,aD,aE,aF,aG,aH,aI,aJ,aK,aL,aM,aN,aO,aP,aQ,aR,aS⟩ hs hrow
 dsimp only[a2F,a2G,a2H,pK,enumH,pD,pG,pL,Nat.reduceAdd] at hs hrow⊢
 obtain⟨rfl,rfl,rfl,rfl,rfl,hz⟩:=hs
 obtain⟨rfl,_⟩:=hrow
 obtain⟨z0,hC0⟩:=Option.isSome_iff_exists.1 hz
 try rw[pW hC0]
 clear hz
 unfold xM at hC0
 obtain⟨aT,hv1,hw1,hC0⟩:=p9 hC0
 try simp only[go_sem] at hw1
 refine oS a2J ?_ (hp:=by exact And.intro (by first|exact rfl|exact trivial) (And.intro (by first|exact rfl|exact trivial) (And.intro (by first|exact rfl|exact trivial) (And.intro (by first|exact rfl|exact trivial) (And.intro (by first|exact rfl|exact trivial) (And.intro (by first|exact rfl|exact trivial) (And.intro (by first|exact rfl|exact trivial) (And.intro (by first|exact rfl|exact trivial) (And.intro (by first|exact rfl|exact trivial) (And.intro (by first|exact rfl|exact trivial) (And.intro (by first|exact rfl|exact trivial) (And.intro (by first|exact rfl|exact trivial) ((p8 hv1)))))))))))))) (h:=by simp only[go_sem,hw1];rfl)
 refine oS a2J ?_
 obtain⟨aU,hv2,hw2,hC0⟩:=p9 hC0
 try simp only[go_sem] at hw2
 obtain⟨aV,hv3,hw3,hC0⟩:=p9 hC0
 try simp only[go_sem] at hw3
 refine pF a2J ?_ (hp:=by exact And.intro (by first|exact rfl|exact trivial) (And.intro (by first|exact rfl|exact trivial) (And.intro (by first|exact rfl|exact trivial) (And.intro (by first|exact rfl|exact trivial) (And.intro (by first|exact rfl|exact trivial) (And.intro (p8 hv2) ((p8 hv3)))))))) (h:=by simp only[go_sem,hw2,hw3];rfl)
 cases hC0
 exact⟨[(0,0),(1,1),(2,2),(3,3),(4,4),(5,5),(6,6),(7,7),(8,8)],by rfl,by rfl,by rfl⟩
attribute [irreducible] xM
end
end Go.Proofs.YtfchbnahjcdiiaaGreatDoor
namespace Go.Proofs.YtfchbnahjcdiiaaGreatDoor
open Vc
set_option maxRecDepth 100000
set_option maxHeartbeats 4000000
set_option linter.unusedSimpArgs false
set_option linter.unusedVariables false
noncomputable section
def wA (O:((List UInt8)×(Int×Unit))) (Z:q9) (aA:Int) (aB:Int) (aC:pZ) (aD:((List Int)×(Int×Unit))) (aE:(List UInt8)) (aF:(List UInt8)) (aG:(List UInt8)) (aH:(List (List UInt8))) (aI:(Int×((List p6)×Unit))) (aJ:Bool) (aK:(List ((List UInt8)×Bool))) (aL:(List (List UInt8))) (aM:(List ((List UInt8)×Bool))):Option (Int×Int×(List UInt8)×Int×Int×Int×Int×Int×(List (List UInt8))):=
 (qO O Z aA aB aC aD aK).bind fun aN=>
 (wU (O.1,(aN.1,())) (aN.2.1,(aN.2.2.1,(aN.2.2.2.1,(aN.2.2.2.2.1,())))) aA aB (aC.1,(aC.2.1,(aC.2.2.1,(aC.2.2.2.1,())))) (aD.1,(aN.2.2.2.2.2,())) (2:Int) (decide ((((List.length aL):Nat):Int)=(20:Int))) aK aE aF aG aH aI aJ aL aM).bind fun aO=>
 if ((List.length aL)+List.length ([aN.2.2.1]:List (List UInt8)))*16≤140737488355328 then
  some ((aO.1,aO.2.1,aO.2.2.1,aO.2.2.2.1,aO.2.2.2.2.1,aO.2.2.2.2.2.1,aO.2.2.2.2.2.2.1,aO.2.2.2.2.2.2.2,(aL++([aN.2.2.1]:List (List UInt8)))))
 else none
section
variable (O:((List UInt8)×(Int×Unit))) (Z:q9) (aA:Int) (aB:Int) (aC:pZ) (aD:((List Int)×(Int×Unit))) (aE:Nat) (aF:Nat) (aG:(List UInt8)) (aH:(List UInt8)) (aI:(List UInt8)) (aJ:(List (List UInt8))) (aK:Nat) (aL:(Int×((List p6)×Unit))) (aM:Bool) (aN:Nat) (aO:Nat) (aP:(List ((List UInt8)×Bool))) (aQ:(List (List UInt8))) (aR:Nat) (aS:(List ((List UInt8)×Bool)))
@[reducible] def a2K:List Slot:=[(.val .ref (some (0,0)),none),(.val .ref (some (3,0)),none)]
@[reducible] def a2L:List Blk:=[.cells q7 (O,(Z,(aA,(aB,(aC,((some 6),aD)))))) [(11,1),(13,2)],.grow 52 7 aE,.grow 3 1 aF,.cells rA ((aG,(aH,(aI,(aJ,((some (7,aK)),aL))))),(aM,((some 8),()))) [(3,4),(6,5)],.grow 9 1 aN,.grow 144 2 aO,.map .str .bool aP,.row 9 .str aQ aR,.map .str .bool aS]
@[go_sem] def a2M:Ret:=⟨[aE=(List.length aC.2.2.2.1),aF=(List.length aD.1),aN=(List.length aJ),aO=(List.length aL.2.1),aK=aR,((wA O Z aA aB aC aD aG aH aI aJ aL aM aP aQ aS)).isSome=true],[],[.cells q7 ((O.1,((val (wA O Z aA aB aC aD aG aH aI aJ aL aM aP aQ aS)).1,())),(((val (wA O Z aA aB aC aD aG aH aI aJ aL aM aP aQ aS)).2.1,((val (wA O Z aA aB aC aD aG aH aI aJ aL aM aP aQ aS)).2.2.1,((val (wA O Z aA aB aC aD aG aH aI aJ aL aM aP aQ aS)).2.2.2.1,((val (wA O Z aA aB aC aD aG aH aI aJ aL aM aP aQ aS)).2.2.2.2.1,())))),((val (wA O Z aA aB aC aD aG aH aI aJ aL aM aP aQ aS)).2.2.2.2.2.1,((val (wA O Z aA aB aC aD aG aH aI aJ aL aM aP aQ aS)).2.2.2.2.2.2.1,((aC.1,(aC.2.1,(aC.2.2.1,(aC.2.2.2.1,())))),((some 6),(aD.1,((val (wA O Z aA aB aC aD aG aH aI aJ aL aM aP aQ aS)).2.2.2.2.2.2.2.1,())))))))) [(11,1),(13,2)],.grow 52 7 (List.length aC.2.2.2.1),.grow 3 1 (List.length aD.1),.cells rA ((aG,(aH,(aI,(aJ,((some (7,(List.length ((val (wA O Z aA aB aC aD aG aH aI aJ aL aM aP aQ aS)).2.2.2.2.2.2.2.2)))),(aL.1,(aL.2.1,()))))))),(aM,((some 8),()))) [(3,4),(6,5)],.grow 9 1 (List.length aJ),.grow 144 2 (List.length aL.2.1),.map .str .bool aP,.row 9 .str ((val (wA O Z aA aB aC aD aG aH aI aJ aL aM aP aQ aS)).2.2.2.2.2.2.2.2) (List.length ((val (wA O Z aA aB aC aD aG aH aI aJ aL aM aP aQ aS)).2.2.2.2.2.2.2.2)),.map .str .bool aS]⟩
def aAV:List Slot→List Blk→Option Ret:=pM (V:=(((List UInt8)×(Int×Unit))×q9×Int×Int×pZ×((List Int)×(Int×Unit))×Nat×Nat×(List UInt8)×(List UInt8)×(List UInt8)×(List (List UInt8))×Nat×(Int×((List p6)×Unit))×Bool×Nat×Nat×(List ((List UInt8)×Bool))×(List (List UInt8))×Nat×(List ((List UInt8)×Bool)))) (fun x=>a2K) (fun x=>a2L x.1 x.2.1 x.2.2.1 x.2.2.2.1 x.2.2.2.2.1 x.2.2.2.2.2.1 x.2.2.2.2.2.2.1 x.2.2.2.2.2.2.2.1 x.2.2.2.2.2.2.2.2.1 x.2.2.2.2.2.2.2.2.2.1 x.2.2.2.2.2.2.2.2.2.2.1 x.2.2.2.2.2.2.2.2.2.2.2.1 x.2.2.2.2.2.2.2.2.2.2.2.2.1 x.2.2.2.2.2.2.2.2.2.2.2.2.2.1 x.2.2.2.2.2.2.2.2.2.2.2.2.2.2.1 x.2.2.2.2.2.2.2.2.2.2.2.2.2.2.2.1 x.2.2.2.2.2.2.2.2.2.2.2.2.2.2.2.2.1 x.2.2.2.2.2.2.2.2.2.2.2.2.2.2.2.2.2.1 x.2.2.2.2.2.2.2.2.2.2.2.2.2.2.2.2.2.2.1 x.2.2.2.2.2.2.2.2.2.2.2.2.2.2.2.2.2.2.2.1 x.2.2.2.2.2.2.2.2.2.2.2.2.2.2.2.2.2.2.2.2) fun x=>a2M x.1 x.2.1 x.2.2.1 x.2.2.2.1 x.2.2.2.2.1 x.2.2.2.2.2.1 x.2.2.2.2.2.2.1 x.2.2.2.2.2.2.2.1 x.2.2.2.2.2.2.2.2.1 x.2.2.2.2.2.2.2.2.2.1 x.2.2.2.2.2.2.2.2.2.2.1 x.2.2.2.2.2.2.2.2.2.2.2.1 x.2.2.2.2.2.2.2.2.2.2.2.2.1 x.2.2.2.2.2.2.2.2.2.2.2.2.2.1 x.2.2.2.2.2.2.2.2.2.2.2.2.2.2.1 x.2.2.2.2.2.2.2.2.2.2.2.2.2.2.2.1 x.2.2.2.2.2.2.2.2.2.2.2.2.2.2.2.2.1 x.2.2.2.2.2.2.2.2.2.2.2.2.2.2.2.2.2.1 x.2.2.2.2.2.2.2.2.2.2.2.2.2.2.2.2.2.2.1 x.2.2.2.2.2.2.2.2.2.2.2.2.2.2.2.2.2.2.2.1 x.2.2.2.2.2.2.2.2.2.2.2.2.2.2.2.2.2.2.2.2
@[go_sem] theorem aLZ:aAV (no_index a2K) (no_index (a2L O Z aA aB aC aD aE aF aG aH aI aJ aK aL aM aN aO aP aQ aR aS))=some (a2M O Z aA aB aC aD aE aF aG aH aI aJ aK aL aM aN aO aP aQ aR aS):=pN (fun⟨a0,a1,a2,a3,a4,a5,a6,a7,a8,a9,a10,a11,a12,a13,a14,a15,a16,a17,a18,a19,a20⟩ ⟨b0,b1,b2,b3,b4,b5,b6,b7,b8,b9,b10,b11,b12,b13,b14,qI,b16,b17,b18,b19,b20⟩ h1 h2=>by cases h1;cases h2;rfl) (O,Z,aA,aB,aC,aD,aE,aF,aG,aH,aI,aJ,aK,aL,aM,aN,aO,aP,aQ,aR,aS)
end
@[reducible,go_sem] def a2N:Nat×Sig:=(152,⟨[.p q7 [11,13],.p rA [3,6]],aAV,[(0,12,.m),(3,4,.r),(3,8,.m)],[1,2,4,5,6,8],none⟩)
theorem aAW:Env Tryz.prog [] (pE [vH,a2y]):=⟨trivial,oZ AR (oZ aGC pP),pH⟩
theorem OS:Env Tryz.prog [vZ,AL,HK,yX] (pE [vH,a2y]):=⟨⟨xG,⟨CJ,⟨OA,⟨AK,trivial⟩⟩⟩⟩,aAW.Γ,pH⟩
theorem aGG:pI Tryz.prog a2N:=by
 refine pO aAW Tryz.func152 (c:=_) rfl (N:=29) (by kernel_rfl) (ts:=[]) rfl (fun _ _=>rfl) ?_
 intro⟨O,Z,aA,aB,aC,aD,aE,aF,aG,aH,aI,aJ,aK,aL,aM,aN,aO,aP,aQ,aR,aS⟩ hs hrow
 dsimp only[a2K,a2L,a2M,pK,enumH,pD,pG,pL,Nat.reduceAdd] at hs hrow⊢
 obtain⟨rfl,rfl,rfl,rfl,rfl,hz⟩:=hs
 obtain⟨rfl,_⟩:=hrow
 obtain⟨z0,hC0⟩:=Option.isSome_iff_exists.1 hz
 try rw[pW hC0]
 clear hz
 unfold wA at hC0
 refine oS OS ?_
 obtain⟨aT,hv1,hw1,hC0⟩:=p9 hC0
 try simp only[go_sem] at hw1
 refine oS OS ?_ (hp:=by exact And.intro (by first|exact rfl|exact trivial) (And.intro (by first|exact rfl|exact trivial) (And.intro (by first|exact rfl|exact trivial) (And.intro (by first|exact rfl|exact trivial) (And.intro (by first|exact rfl|exact trivial) ((p8 hv1))))))) (h:=by simp only[go_sem,hw1];rfl)
 refine oS OS ?_
 obtain⟨aU,hv2,hw2,hC0⟩:=p9 hC0
 try simp only[go_sem] at hw2
 obtain⟨hg3,hC0⟩:=oU hC0
 refine FS OS ?_ (hp:=by exact And.intro (by first|exact rfl|exact trivial) (And.intro (by first|exact rfl|exact trivial) (And.intro (by first|exact rfl|exact trivial) (And.intro (by first|exact rfl|exact trivial) (And.intro (by first|exact rfl|exact trivial) (And.intro (by first|exact rfl|exact trivial) (And.intro (by first|exact rfl|exact trivial) (And.intro (by first|exact rfl|exact trivial) (And.intro (by first|exact rfl|exact trivial) (And.intro (by first|exact rfl|exact trivial) (And.intro (by first|exact rfl|exact trivial) (And.intro (by first|exact rfl|exact trivial) (And.intro (by first|exact rfl|exact trivial) (And.intro (by first|exact rfl|exact trivial) (And.intro (p8 hv2) (And.intro (by first|exact rfl|exact trivial) (hg3))))))))))))))))) (h:=by simp only[go_sem,hw2];rfl)
 cases hC0
 exact⟨[(0,0),(1,1),(2,2),(3,3),(4,4),(5,5),(6,6),(7,7),(8,8)],by rfl,by rfl,by rfl⟩
attribute [irreducible] wA
def vJ (O:((List UInt8)×(Int×Unit))) (Z:q9) (aA:Int) (aB:Int) (aC:pZ) (aD:((List Int)×(Int×Unit))) (aE:(List UInt8)) (aF:(List UInt8)) (aG:(List UInt8)) (aH:(List (List UInt8))) (aI:(Int×((List p6)×Unit))) (aJ:Bool) (aK:(List ((List UInt8)×Bool))) (aL:(List (List UInt8))) (aM:(List ((List UInt8)×Bool))):Option (Int×Int×(List UInt8)×Int×Int×Int×Int×Int×(List (List UInt8))):=
 qE (σ:=(Int×Int)) (
   if (decide ((List.length aH:Int)=(20:Int)))=true then
    q6 (s9 O Z aA aB aC aD (6:Int) aK) fun aN=>
    some ((aN.1,aN.2))
   else
    some ((aA,aB))
  ) fun(aO,aP)=>
 (qO (O.1,(O.2.1,())) (Z.1,(Z.2.1,(Z.2.2.1,(Z.2.2.2.1,())))) aO aP (aC.1,(aC.2.1,(aC.2.2.1,(aC.2.2.2.1,())))) (aD.1,(aD.2.1,())) aK).bind fun aQ=>
 (uX (O.1,(aQ.1,())) (aQ.2.1,(aQ.2.2.1,(aQ.2.2.2.1,(aQ.2.2.2.2.1,())))) aO aP (aC.1,(aC.2.1,(aC.2.2.1,(aC.2.2.2.1,())))) (aD.1,(aQ.2.2.2.2.2,())) aK).bind fun aR=>
 if (List.length aH+List.length ([aQ.2.2.1]:List (List UInt8)))*16≤140737488355328 then
  some ((aR.1,aR.2.1,aR.2.2.1,aR.2.2.2.1,aR.2.2.2.2.1,aR.2.2.2.2.2.1,aR.2.2.2.2.2.2.1,aR.2.2.2.2.2.2.2,(aH++([aQ.2.2.1]:List (List UInt8)))))
 else none
section
variable (O:((List UInt8)×(Int×Unit))) (Z:q9) (aA:Int) (aB:Int) (aC:pZ) (aD:((List Int)×(Int×Unit))) (aE:Nat) (aF:Nat) (aG:(List UInt8)) (aH:(List UInt8)) (aI:(List UInt8)) (aJ:(List (List UInt8))) (aK:Nat) (aL:(Int×((List p6)×Unit))) (aM:Bool) (aN:Nat) (aO:Nat) (aP:(List ((List UInt8)×Bool))) (aQ:(List (List UInt8))) (aR:Nat) (aS:(List ((List UInt8)×Bool)))
@[reducible] def a2O:List Slot:=[(.val .ref (some (0,0)),none),(.val .ref (some (3,0)),none)]
@[reducible] def a2P:List Blk:=[.cells q7 (O,(Z,(aA,(aB,(aC,((some 6),aD)))))) [(11,1),(13,2)],.grow 52 7 aE,.grow 3 1 aF,.cells rA ((aG,(aH,(aI,(aJ,((some (7,aK)),aL))))),(aM,((some 8),()))) [(3,4),(6,5)],.grow 9 1 aN,.grow 144 2 aO,.map .str .bool aP,.row 9 .str aQ aR,.map .str .bool aS]
@[go_sem] def a2Q:Ret:=⟨[aE=(List.length aC.2.2.2.1),aF=(List.length aD.1),aN=(List.length aJ),aO=(List.length aL.2.1),aK=aR,((vJ O Z aA aB aC aD aG aH aI aJ aL aM aP aQ aS)).isSome=true],[],[.cells q7 ((O.1,((val (vJ O Z aA aB aC aD aG aH aI aJ aL aM aP aQ aS)).1,())),(((val (vJ O Z aA aB aC aD aG aH aI aJ aL aM aP aQ aS)).2.1,((val (vJ O Z aA aB aC aD aG aH aI aJ aL aM aP aQ aS)).2.2.1,((val (vJ O Z aA aB aC aD aG aH aI aJ aL aM aP aQ aS)).2.2.2.1,((val (vJ O Z aA aB aC aD aG aH aI aJ aL aM aP aQ aS)).2.2.2.2.1,())))),((val (vJ O Z aA aB aC aD aG aH aI aJ aL aM aP aQ aS)).2.2.2.2.2.1,((val (vJ O Z aA aB aC aD aG aH aI aJ aL aM aP aQ aS)).2.2.2.2.2.2.1,((aC.1,(aC.2.1,(aC.2.2.1,(aC.2.2.2.1,())))),((some 6),(aD.1,((val (vJ O Z aA aB aC aD aG aH aI aJ aL aM aP aQ aS)).2.2.2.2.2.2.2.1,())))))))) [(11,1),(13,2)],.grow 52 7 (List.length aC.2.2.2.1),.grow 3 1 (List.length aD.1),.cells rA ((aG,(aH,(aI,((val (vJ O Z aA aB aC aD aG aH aI aJ aL aM aP aQ aS)).2.2.2.2.2.2.2.2,((some (7,(List.length aQ))),(aL.1,(aL.2.1,()))))))),(aM,((some 8),()))) [(3,4),(6,5)],.grow 9 1 (List.length ((val (vJ O Z aA aB aC aD aG aH aI aJ aL aM aP aQ aS)).2.2.2.2.2.2.2.2)),.grow 144 2 (List.length aL.2.1),.map .str .bool aP,.row 9 .str aQ (List.length aQ),.map .str .bool aS]⟩
def aAX:List Slot→List Blk→Option Ret:=pM (V:=(((List UInt8)×(Int×Unit))×q9×Int×Int×pZ×((List Int)×(Int×Unit))×Nat×Nat×(List UInt8)×(List UInt8)×(List UInt8)×(List (List UInt8))×Nat×(Int×((List p6)×Unit))×Bool×Nat×Nat×(List ((List UInt8)×Bool))×(List (List UInt8))×Nat×(List ((List UInt8)×Bool)))) (fun x=>a2O) (fun x=>a2P x.1 x.2.1 x.2.2.1 x.2.2.2.1 x.2.2.2.2.1 x.2.2.2.2.2.1 x.2.2.2.2.2.2.1 x.2.2.2.2.2.2.2.1 x.2.2.2.2.2.2.2.2.1 x.2.2.2.2.2.2.2.2.2.1 x.2.2.2.2.2.2.2.2.2.2.1 x.2.2.2.2.2.2.2.2.2.2.2.1 x.2.2.2.2.2.2.2.2.2.2.2.2.1 x.2.2.2.2.2.2.2.2.2.2.2.2.2.1 x.2.2.2.2.2.2.2.2.2.2.2.2.2.2.1 x.2.2.2.2.2.2.2.2.2.2.2.2.2.2.2.1 x.2.2.2.2.2.2.2.2.2.2.2.2.2.2.2.2.1 x.2.2.2.2.2.2.2.2.2.2.2.2.2.2.2.2.2.1 x.2.2.2.2.2.2.2.2.2.2.2.2.2.2.2.2.2.2.1 x.2.2.2.2.2.2.2.2.2.2.2.2.2.2.2.2.2.2.2.1 x.2.2.2.2.2.2.2.2.2.2.2.2.2.2.2.2.2.2.2.2) fun x=>a2Q x.1 x.2.1 x.2.2.1 x.2.2.2.1 x.2.2.2.2.1 x.2.2.2.2.2.1 x.2.2.2.2.2.2.1 x.2.2.2.2.2.2.2.1 x.2.2.2.2.2.2.2.2.1 x.2.2.2.2.2.2.2.2.2.1 x.2.2.2.2.2.2.2.2.2.2.1 x.2.2.2.2.2.2.2.2.2.2.2.1 x.2.2.2.2.2.2.2.2.2.2.2.2.1 x.2.2.2.2.2.2.2.2.2.2.2.2.2.1 x.2.2.2.2.2.2.2.2.2.2.2.2.2.2.1 x.2.2.2.2.2.2.2.2.2.2.2.2.2.2.2.1 x.2.2.2.2.2.2.2.2.2.2.2.2.2.2.2.2.1 x.2.2.2.2.2.2.2.2.2.2.2.2.2.2.2.2.2.1 x.2.2.2.2.2.2.2.2.2.2.2.2.2.2.2.2.2.2.1 x.2.2.2.2.2.2.2.2.2.2.2.2.2.2.2.2.2.2.2.1 x.2.2.2.2.2.2.2.2.2.2.2.2.2.2.2.2.2.2.2.2
@[go_sem] theorem aL0:aAX (no_index a2O) (no_index (a2P O Z aA aB aC aD aE aF aG aH aI aJ aK aL aM aN aO aP aQ aR aS))=some (a2Q O Z aA aB aC aD aE aF aG aH aI aJ aK aL aM aN aO aP aQ aR aS):=pN (fun⟨a0,a1,a2,a3,a4,a5,a6,a7,a8,a9,a10,a11,a12,a13,a14,a15,a16,a17,a18,a19,a20⟩ ⟨b0,b1,b2,b3,b4,b5,b6,b7,b8,b9,b10,b11,b12,b13,b14,qI,b16,b17,b18,b19,b20⟩ h1 h2=>by cases h1;cases h2;rfl) (O,Z,aA,aB,aC,aD,aE,aF,aG,aH,aI,aJ,aK,aL,aM,aN,aO,aP,aQ,aR,aS)
end
@[reducible,go_sem] def a2R:Nat×Sig:=(147,⟨[.p q7 [11,13],.p rA [3,6]],aAX,[(0,12,.m),(3,4,.r),(3,8,.m)],[1,2,5,6,7,8],none⟩)
theorem aAY:Env Tryz.prog [] (pE [wN,vH,D4]):=⟨trivial,oZ BH (oZ AR (oZ OR pP)),pH⟩
theorem OT:Env Tryz.prog [vZ,AL,yX] (pE [wN,vH,D4]):=⟨⟨xG,⟨CJ,⟨AK,trivial⟩⟩⟩,aAY.Γ,pH⟩
theorem aGH:pI Tryz.prog a2R:=by
 refine pO aAY Tryz.func147 (c:=_) rfl (N:=28) (by kernel_rfl) (ts:=[]) rfl (fun _ _=>rfl) ?_
 intro⟨O,Z,aA,aB,aC,aD,aE,aF,aG,aH,aI,aJ,aK,aL,aM,aN,aO,aP,aQ,aR,aS⟩ hs hrow
 dsimp only[a2O,a2P,a2Q,pK,enumH,pD,pG,pL,Nat.reduceAdd] at hs hrow⊢
 obtain⟨rfl,rfl,rfl,rfl,rfl,hz⟩:=hs
 obtain⟨rfl,_⟩:=hrow
 obtain⟨z0,hC0⟩:=Option.isSome_iff_exists.1 hz
 try rw[pW hC0]
 clear hz
 unfold vJ at hC0
 refine p4 ?_
 refine oS OT ?_
 obtain⟨y1,hC1,hC0⟩:=oY hC0
 refine y6 (fun s=>s=(fun x=>⟨[(0,(.val .ref (some (0,0)),none)),(1,(.val .ref (some (3,0)),none))],[(0,.cells q7 ((O.1,(O.2.1,())),((Z.1,(Z.2.1,(Z.2.2.1,(Z.2.2.2.1,())))),(x.1,(x.2,((aC.1,(aC.2.1,(aC.2.2.1,(aC.2.2.2.1,())))),((some 6),(aD.1,(aD.2.1,())))))))) [(11,1),(13,2)]),(1,.grow 52 7 (List.length aC.2.2.2.1)),(2,.grow 3 1 (List.length aD.1)),(3,.cells rA ((aG,(aH,(aI,(aJ,((some (7,(List.length aQ))),(aL.1,(aL.2.1,()))))))),(aM,((some 8),()))) [(3,4),(6,5)]),(4,.grow 9 1 (List.length aJ)),(5,.grow 144 2 (List.length aL.2.1)),(6,.map .str .bool aP),(7,.row 9 .str aQ (List.length aQ)),(8,.map .str .bool aS)],9,28,9⟩) y1) ?_ ?_
 ·refine oX hC1 (fun hC1 hc1=> ?_) (fun hC1 hc1=> ?_)
  ·obtain⟨aT,hw_40,hC1⟩:=rJ hC1
   try simp only[go_sem] at hw_40
   refine pF OT ?_ (hp:=by exact And.intro (by first|exact rfl|exact trivial) (And.intro (by first|exact rfl|exact trivial) (And.intro (by first|exact rfl|exact trivial) (And.intro (by first|exact rfl|exact trivial) ((by first|exact rfl|exact trivial)))))) (h:=by simp only[go_sem,hw_40];rfl)
   cases hC1
   exact rL ⟨⟨[0,1],[(0,0),(1,1),(2,2),(3,3),(4,4),(5,5),(6,6),(7,7),(8,8)]⟩,by rfl⟩
  ·refine p7 ?_
   cases hC1
   exact rL ⟨⟨[0,1],[(0,0),(1,1),(2,2),(3,3),(4,4),(5,5),(6,6),(7,7),(8,8)]⟩,by rfl⟩
 ·rintro _ rfl
  obtain⟨aU,aV⟩:=y1
  dsimp only at hC0⊢
  refine oW ?_
  obtain⟨aW,hv1,hw1,hC0⟩:=p9 hC0
  try simp only[go_sem] at hw1
  refine oS OT ?_ (hp:=by exact And.intro (by first|exact rfl|exact trivial) (And.intro (by first|exact rfl|exact trivial) (And.intro (by first|exact rfl|exact trivial) (And.intro (by first|exact rfl|exact trivial) (And.intro (by first|exact rfl|exact trivial) ((p8 hv1))))))) (h:=by simp only[go_sem,hw1];rfl)
  obtain⟨aX,hv2,hw2,hC0⟩:=p9 hC0
  try simp only[go_sem] at hw2
  obtain⟨hg3,hC0⟩:=oU hC0
  refine FS OT ?_ (hp:=by exact And.intro (by first|exact rfl|exact trivial) (And.intro (by first|exact rfl|exact trivial) (And.intro (by first|exact rfl|exact trivial) (And.intro (by first|exact rfl|exact trivial) (And.intro (by first|exact rfl|exact trivial) (And.intro (p8 hv2) (And.intro (by first|exact rfl|exact trivial) (hg3)))))))) (h:=by simp only[go_sem,hw2];rfl)
  cases hC0
  exact⟨[(0,0),(1,1),(2,2),(3,3),(4,4),(5,5),(6,6),(7,7),(8,8)],by rfl,by rfl,by rfl⟩
attribute [irreducible] vJ
def zY (O:(List UInt8)):Option ((List UInt8)×(List (List UInt8))×(List p6)×(List pX)×Int×Int):=
 (yI O).bind fun Z=>
 some ((Z.1,Z.2.1,Z.2.2.1,Z.2.2.2.1,Z.2.2.2.2.2.1,Z.2.2.2.2.2.2))
section
variable (O:(List UInt8))
@[reducible] def a2S:List Slot:=[(.val .str O,none)]
@[reducible] def a2T:List Blk:=[]
@[go_sem] def a2U:Ret:=⟨[((zY O)).isSome=true],[(.val y9 ((val (zY O)).1,((val (zY O)).2.1,((val (zY O)).2.2.1,((val (zY O)).2.2.2.1,())))),none),(.val (.int .i64) ((val (zY O)).2.2.2.2.1),none),(.val (.int .i64) ((val (zY O)).2.2.2.2.2),none)],[]⟩
def aAZ:List Slot→List Blk→Option Ret:=pM (V:=(List UInt8)) (fun x=>a2S x) (fun x=>a2T) fun x=>a2U x
@[go_sem] theorem aL1:aAZ (no_index (a2S O)) (no_index a2T)=some (a2U O):=pN (fun a0 b0 h1 h2=>by cases h1;cases h2;rfl) O
end
@[reducible,go_sem] def aA0:Nat×Sig:=(11,⟨[.v],aAZ,[],[],none⟩)
theorem OU:Env Tryz.prog [yB] (pE [aAQ]):=⟨⟨zT,trivial⟩,oZ aGD pP,pH⟩
theorem aGI:pI Tryz.prog aA0:=by
 refine pO OU Tryz.func11 (c:=_) rfl (N:=19) (by kernel_rfl) (ts:=[(2,some 27),(3,none),(4,none)]) rfl (fun _ _=>rfl) ?_
 intro O hs hrow
 dsimp only[a2S,a2T,a2U,pK,enumH,pD,pG,pL,Nat.reduceAdd] at hs hrow⊢
 have hz:=hs
 obtain⟨z0,hC0⟩:=Option.isSome_iff_exists.1 hz
 try rw[pW hC0]
 clear hz hs
 unfold zY at hC0
 refine oS OU ?_
 obtain⟨Z,hv1,hw1,hC0⟩:=p9 hC0
 try simp only[go_sem] at hw1
 refine oS OU ?_ (hp:=by exact(p8 hv1)) (h:=by simp only[go_sem,hw1];rfl)
 refine oS OU ?_
 refine oV ?_
 cases hC0
 exact⟨[],by rfl,by rfl,by rfl⟩
attribute [irreducible] zY
end
end Go.Proofs.YtfchbnahjcdiiaaGreatDoor
namespace Go.Proofs.YtfchbnahjcdiiaaGreatDoor
open Vc
set_option maxRecDepth 100000
set_option maxHeartbeats 4000000
set_option linter.unusedSimpArgs false
set_option linter.unusedVariables false
noncomputable section
def wX (O:((List UInt8)×(Int×Unit))) (Z:q9) (aA:Int) (aB:Int) (aC:pZ) (aD:((List Int)×(Int×Unit))) (aE:(List UInt8)) (aF:(List UInt8)) (aG:(List UInt8)) (aH:(List (List UInt8))) (aI:(Int×((List p6)×Unit))) (aJ:Bool) (aK:(List ((List UInt8)×Bool))) (aL:(List (List UInt8))) (aM:(List ((List UInt8)×Bool))):Option (Int×Int×(List UInt8)×Int×Int×Int×Int×Int×(List p6)):=
 (qO O Z aA aB aC aD aK).bind fun aN=>
 (wS (O.1,(aN.1,())) (aN.2.1,(aN.2.2.1,(aN.2.2.2.1,(aN.2.2.2.2.1,())))) aA aB (aC.1,(aC.2.1,(aC.2.2.1,(aC.2.2.2.1,())))) (aD.1,(aN.2.2.2.2.2,())) (1:Int) (decide ((List.length aI.2.1:Int)=(20:Int))) aK aE aF aG aH aI aJ aL aM).bind fun aO=>
 (uX (O.1,(aO.1,())) (aO.2.1,(aO.2.2.1,(aO.2.2.2.1,(aO.2.2.2.2.1,())))) aO.2.2.2.2.2.1 aO.2.2.2.2.2.2.1 (aC.1,(aC.2.1,(aC.2.2.1,(aC.2.2.2.1,())))) (aD.1,(aO.2.2.2.2.2.2.2,())) aK).bind fun aP=>
 (EM aI.2.1 aN.2.2.1 aO.2.2.1).bind fun aQ=>
 some ((aP.1,aP.2.1,aP.2.2.1,aP.2.2.2.1,aP.2.2.2.2.1,aP.2.2.2.2.2.1,aP.2.2.2.2.2.2.1,aP.2.2.2.2.2.2.2,aQ))
section
variable (O:((List UInt8)×(Int×Unit))) (Z:q9) (aA:Int) (aB:Int) (aC:pZ) (aD:((List Int)×(Int×Unit))) (aE:Nat) (aF:Nat) (aG:(List UInt8)) (aH:(List UInt8)) (aI:(List UInt8)) (aJ:(List (List UInt8))) (aK:Nat) (aL:(Int×((List p6)×Unit))) (aM:Bool) (aN:Nat) (aO:Nat) (aP:(List ((List UInt8)×Bool))) (aQ:(List (List UInt8))) (aR:Nat) (aS:(List ((List UInt8)×Bool)))
@[reducible] def a2V:List Slot:=[(.val .ref (some (0,0)),none),(.val .ref (some (3,0)),none)]
@[reducible] def a2W:List Blk:=[.cells q7 (O,(Z,(aA,(aB,(aC,((some 6),aD)))))) [(11,1),(13,2)],.grow 52 7 aE,.grow 3 1 aF,.cells rA ((aG,(aH,(aI,(aJ,((some (7,aK)),aL))))),(aM,((some 8),()))) [(3,4),(6,5)],.grow 9 1 aN,.grow 144 2 aO,.map .str .bool aP,.row 9 .str aQ aR,.map .str .bool aS]
@[go_sem] def a2X:Ret:=⟨[aE=(List.length aC.2.2.2.1),aF=(List.length aD.1),aN=(List.length aJ),aO=(List.length aL.2.1),aK=aR,((wX O Z aA aB aC aD aG aH aI aJ aL aM aP aQ aS)).isSome=true],[],[.cells q7 ((O.1,((val (wX O Z aA aB aC aD aG aH aI aJ aL aM aP aQ aS)).1,())),(((val (wX O Z aA aB aC aD aG aH aI aJ aL aM aP aQ aS)).2.1,((val (wX O Z aA aB aC aD aG aH aI aJ aL aM aP aQ aS)).2.2.1,((val (wX O Z aA aB aC aD aG aH aI aJ aL aM aP aQ aS)).2.2.2.1,((val (wX O Z aA aB aC aD aG aH aI aJ aL aM aP aQ aS)).2.2.2.2.1,())))),((val (wX O Z aA aB aC aD aG aH aI aJ aL aM aP aQ aS)).2.2.2.2.2.1,((val (wX O Z aA aB aC aD aG aH aI aJ aL aM aP aQ aS)).2.2.2.2.2.2.1,((aC.1,(aC.2.1,(aC.2.2.1,(aC.2.2.2.1,())))),((some 6),(aD.1,((val (wX O Z aA aB aC aD aG aH aI aJ aL aM aP aQ aS)).2.2.2.2.2.2.2.1,())))))))) [(11,1),(13,2)],.grow 52 7 (List.length aC.2.2.2.1),.grow 3 1 (List.length aD.1),.cells rA ((aG,(aH,(aI,(aJ,((some (7,(List.length aQ))),(aL.1,((val (wX O Z aA aB aC aD aG aH aI aJ aL aM aP aQ aS)).2.2.2.2.2.2.2.2,()))))))),(aM,((some 8),()))) [(3,4),(6,9)],.grow 9 1 (List.length aJ),.grow 144 2 (List.length aL.2.1),.map .str .bool aP,.row 9 .str aQ (List.length aQ),.map .str .bool aS,.grow 144 2 (List.length ((val (wX O Z aA aB aC aD aG aH aI aJ aL aM aP aQ aS)).2.2.2.2.2.2.2.2))]⟩
def aA1:List Slot→List Blk→Option Ret:=pM (V:=(((List UInt8)×(Int×Unit))×q9×Int×Int×pZ×((List Int)×(Int×Unit))×Nat×Nat×(List UInt8)×(List UInt8)×(List UInt8)×(List (List UInt8))×Nat×(Int×((List p6)×Unit))×Bool×Nat×Nat×(List ((List UInt8)×Bool))×(List (List UInt8))×Nat×(List ((List UInt8)×Bool)))) (fun x=>a2V) (fun x=>a2W x.1 x.2.1 x.2.2.1 x.2.2.2.1 x.2.2.2.2.1 x.2.2.2.2.2.1 x.2.2.2.2.2.2.1 x.2.2.2.2.2.2.2.1 x.2.2.2.2.2.2.2.2.1 x.2.2.2.2.2.2.2.2.2.1 x.2.2.2.2.2.2.2.2.2.2.1 x.2.2.2.2.2.2.2.2.2.2.2.1 x.2.2.2.2.2.2.2.2.2.2.2.2.1 x.2.2.2.2.2.2.2.2.2.2.2.2.2.1 x.2.2.2.2.2.2.2.2.2.2.2.2.2.2.1 x.2.2.2.2.2.2.2.2.2.2.2.2.2.2.2.1 x.2.2.2.2.2.2.2.2.2.2.2.2.2.2.2.2.1 x.2.2.2.2.2.2.2.2.2.2.2.2.2.2.2.2.2.1 x.2.2.2.2.2.2.2.2.2.2.2.2.2.2.2.2.2.2.1 x.2.2.2.2.2.2.2.2.2.2.2.2.2.2.2.2.2.2.2.1 x.2.2.2.2.2.2.2.2.2.2.2.2.2.2.2.2.2.2.2.2) fun x=>a2X x.1 x.2.1 x.2.2.1 x.2.2.2.1 x.2.2.2.2.1 x.2.2.2.2.2.1 x.2.2.2.2.2.2.1 x.2.2.2.2.2.2.2.1 x.2.2.2.2.2.2.2.2.1 x.2.2.2.2.2.2.2.2.2.1 x.2.2.2.2.2.2.2.2.2.2.1 x.2.2.2.2.2.2.2.2.2.2.2.1 x.2.2.2.2.2.2.2.2.2.2.2.2.1 x.2.2.2.2.2.2.2.2.2.2.2.2.2.1 x.2.2.2.2.2.2.2.2.2.2.2.2.2.2.1 x.2.2.2.2.2.2.2.2.2.2.2.2.2.2.2.1 x.2.2.2.2.2.2.2.2.2.2.2.2.2.2.2.2.1 x.2.2.2.2.2.2.2.2.2.2.2.2.2.2.2.2.2.1 x.2.2.2.2.2.2.2.2.2.2.2.2.2.2.2.2.2.2.1 x.2.2.2.2.2.2.2.2.2.2.2.2.2.2.2.2.2.2.2.1 x.2.2.2.2.2.2.2.2.2.2.2.2.2.2.2.2.2.2.2.2
@[go_sem] theorem aL2:aA1 (no_index a2V) (no_index (a2W O Z aA aB aC aD aE aF aG aH aI aJ aK aL aM aN aO aP aQ aR aS))=some (a2X O Z aA aB aC aD aE aF aG aH aI aJ aK aL aM aN aO aP aQ aR aS):=pN (fun⟨a0,a1,a2,a3,a4,a5,a6,a7,a8,a9,a10,a11,a12,a13,a14,a15,a16,a17,a18,a19,a20⟩ ⟨b0,b1,b2,b3,b4,b5,b6,b7,b8,b9,b10,b11,b12,b13,b14,qI,b16,b17,b18,b19,b20⟩ h1 h2=>by cases h1;cases h2;rfl) (O,Z,aA,aB,aC,aD,aE,aF,aG,aH,aI,aJ,aK,aL,aM,aN,aO,aP,aQ,aR,aS)
end
@[reducible,go_sem] def a2Y:Nat×Sig:=(148,⟨[.p q7 [11,13],.p rA [3,6]],aA1,[(0,12,.m),(3,4,.r),(3,8,.m)],[1,2,4,5,6,7,8],none⟩)
theorem aA2:Env Tryz.prog [] (pE [vH,a2q,D4,a0C]):=⟨trivial,oZ AR (oZ aGB (oZ OR (oZ aGf pP))),pH⟩
theorem LB:Env Tryz.prog [yA,AL,HK,yX] (pE [vH,a2q,D4,a0C]):=⟨⟨zR,⟨CJ,⟨OA,⟨AK,trivial⟩⟩⟩⟩,aA2.Γ,pH⟩
theorem aGJ:pI Tryz.prog a2Y:=by
 refine pO aA2 Tryz.func148 (c:=_) rfl (N:=32) (by kernel_rfl) (ts:=[]) rfl (fun _ _=>rfl) ?_
 intro⟨O,Z,aA,aB,aC,aD,aE,aF,aG,aH,aI,aJ,aK,aL,aM,aN,aO,aP,aQ,aR,aS⟩ hs hrow
 dsimp only[a2V,a2W,a2X,pK,enumH,pD,pG,pL,Nat.reduceAdd] at hs hrow⊢
 obtain⟨rfl,rfl,rfl,rfl,rfl,hz⟩:=hs
 obtain⟨rfl,_⟩:=hrow
 obtain⟨z0,hC0⟩:=Option.isSome_iff_exists.1 hz
 try rw[pW hC0]
 clear hz
 unfold wX at hC0
 refine oS LB ?_
 obtain⟨aT,hv1,hw1,hC0⟩:=p9 hC0
 try simp only[go_sem] at hw1
 refine oS LB ?_ (hp:=by exact And.intro (by first|exact rfl|exact trivial) (And.intro (by first|exact rfl|exact trivial) (And.intro (by first|exact rfl|exact trivial) (And.intro (by first|exact rfl|exact trivial) (And.intro (by first|exact rfl|exact trivial) ((p8 hv1))))))) (h:=by simp only[go_sem,hw1];rfl)
 refine oS LB ?_
 obtain⟨aU,hv2,hw2,hC0⟩:=p9 hC0
 try simp only[go_sem] at hw2
 refine oS LB ?_ (hp:=by exact And.intro (by first|exact rfl|exact trivial) (And.intro (by first|exact rfl|exact trivial) (And.intro (by first|exact rfl|exact trivial) (And.intro (by first|exact rfl|exact trivial) (And.intro (by first|exact rfl|exact trivial) (And.intro (by first|exact rfl|exact trivial) (And.intro (by first|exact rfl|exact trivial) (And.intro (by first|exact rfl|exact trivial) (And.intro (by first|exact rfl|exact trivial) (And.intro (by first|exact rfl|exact trivial) (And.intro (by first|exact rfl|exact trivial) (And.intro (by first|exact rfl|exact trivial) (And.intro (by first|exact rfl|exact trivial) (And.intro (by first|exact rfl|exact trivial) ((p8 hv2)))))))))))))))) (h:=by simp only[go_sem,hw2];rfl)
 obtain⟨aV,hv3,hw3,hC0⟩:=p9 hC0
 try simp only[go_sem] at hw3
 obtain⟨aW,hv4,hw4,hC0⟩:=p9 hC0
 try simp only[go_sem] at hw4
 refine FS LB ?_ (hp:=by exact And.intro (by first|exact rfl|exact trivial) (And.intro (by first|exact rfl|exact trivial) (And.intro (by first|exact rfl|exact trivial) (And.intro (by first|exact rfl|exact trivial) (And.intro (by first|exact rfl|exact trivial) (And.intro (p8 hv3) ((p8 hv4)))))))) (h:=by simp only[go_sem,hw3,hw4];rfl)
 cases hC0
 exact⟨[(0,0),(1,1),(2,2),(3,3),(4,4),(5,5),(6,6),(7,7),(8,8),(9,409)],by rfl,by rfl,by rfl⟩
attribute [irreducible] wX
def xN (O:((List UInt8)×(Int×Unit))) (Z:q9) (aA:Int) (aB:Int) (aC:pZ) (aD:((List Int)×(Int×Unit))) (aE:(List UInt8)) (aF:(List UInt8)) (aG:(List UInt8)) (aH:(List (List UInt8))) (aI:(Int×((List p6)×Unit))) (aJ:Bool) (aK:(List ((List UInt8)×Bool))) (aL:(List (List UInt8))) (aM:(List ((List UInt8)×Bool))):Option (Int×Int×(List UInt8)×Int×Int×Int×Int×Int×(List UInt8)):=
 (vI O Z aA aB aC aD aE aF aG aH aI aJ aK aL aM).bind fun aN=>
 (uX (O.1,(aN.1,())) (aN.2.1,(aN.2.2.1,(aN.2.2.2.1,(aN.2.2.2.2.1,())))) aN.2.2.2.2.2.1 aN.2.2.2.2.2.2.1 (aC.1,(aC.2.1,(aC.2.2.1,(aC.2.2.2.1,())))) (aD.1,(aN.2.2.2.2.2.2.2,())) aK).bind fun aO=>
 some ((aO.1,aO.2.1,aO.2.2.1,aO.2.2.2.1,aO.2.2.2.2.1,aO.2.2.2.2.2.1,aO.2.2.2.2.2.2.1,aO.2.2.2.2.2.2.2,aN.2.2.1))
section
variable (O:((List UInt8)×(Int×Unit))) (Z:q9) (aA:Int) (aB:Int) (aC:pZ) (aD:((List Int)×(Int×Unit))) (aE:Nat) (aF:Nat) (aG:(List UInt8)) (aH:(List UInt8)) (aI:(List UInt8)) (aJ:(List (List UInt8))) (aK:Nat) (aL:(Int×((List p6)×Unit))) (aM:Bool) (aN:Nat) (aO:Nat) (aP:(List ((List UInt8)×Bool))) (aQ:(List (List UInt8))) (aR:Nat) (aS:(List ((List UInt8)×Bool)))
@[reducible] def a2Z:List Slot:=[(.val .ref (some (0,0)),none),(.val .ref (some (3,0)),none)]
@[reducible] def a23:List Blk:=[.cells q7 (O,(Z,(aA,(aB,(aC,((some 6),aD)))))) [(11,1),(13,2)],.grow 52 7 aE,.grow 3 1 aF,.cells rA ((aG,(aH,(aI,(aJ,((some (7,aK)),aL))))),(aM,((some 8),()))) [(3,4),(6,5)],.grow 9 1 aN,.grow 144 2 aO,.map .str .bool aP,.row 9 .str aQ aR,.map .str .bool aS]
@[go_sem] def a25:Ret:=⟨[aE=(List.length aC.2.2.2.1),aF=(List.length aD.1),aN=(List.length aJ),aO=(List.length aL.2.1),aK=aR,((xN O Z aA aB aC aD aG aH aI aJ aL aM aP aQ aS)).isSome=true],[],[.cells q7 ((O.1,((val (xN O Z aA aB aC aD aG aH aI aJ aL aM aP aQ aS)).1,())),(((val (xN O Z aA aB aC aD aG aH aI aJ aL aM aP aQ aS)).2.1,((val (xN O Z aA aB aC aD aG aH aI aJ aL aM aP aQ aS)).2.2.1,((val (xN O Z aA aB aC aD aG aH aI aJ aL aM aP aQ aS)).2.2.2.1,((val (xN O Z aA aB aC aD aG aH aI aJ aL aM aP aQ aS)).2.2.2.2.1,())))),((val (xN O Z aA aB aC aD aG aH aI aJ aL aM aP aQ aS)).2.2.2.2.2.1,((val (xN O Z aA aB aC aD aG aH aI aJ aL aM aP aQ aS)).2.2.2.2.2.2.1,((aC.1,(aC.2.1,(aC.2.2.1,(aC.2.2.2.1,())))),((some 6),(aD.1,((val (xN O Z aA aB aC aD aG aH aI aJ aL aM aP aQ aS)).2.2.2.2.2.2.2.1,())))))))) [(11,1),(13,2)],.grow 52 7 (List.length aC.2.2.2.1),.grow 3 1 (List.length aD.1),.cells rA ((aG,((val (xN O Z aA aB aC aD aG aH aI aJ aL aM aP aQ aS)).2.2.2.2.2.2.2.2,(aI,(aJ,((some (7,(List.length aQ))),(aL.1,(aL.2.1,()))))))),(aM,((some 8),()))) [(3,4),(6,5)],.grow 9 1 (List.length aJ),.grow 144 2 (List.length aL.2.1),.map .str .bool aP,.row 9 .str aQ (List.length aQ),.map .str .bool (rC .str .bool Z.2.1 true aS)]⟩
def aA3:List Slot→List Blk→Option Ret:=pM (V:=(((List UInt8)×(Int×Unit))×q9×Int×Int×pZ×((List Int)×(Int×Unit))×Nat×Nat×(List UInt8)×(List UInt8)×(List UInt8)×(List (List UInt8))×Nat×(Int×((List p6)×Unit))×Bool×Nat×Nat×(List ((List UInt8)×Bool))×(List (List UInt8))×Nat×(List ((List UInt8)×Bool)))) (fun x=>a2Z) (fun x=>a23 x.1 x.2.1 x.2.2.1 x.2.2.2.1 x.2.2.2.2.1 x.2.2.2.2.2.1 x.2.2.2.2.2.2.1 x.2.2.2.2.2.2.2.1 x.2.2.2.2.2.2.2.2.1 x.2.2.2.2.2.2.2.2.2.1 x.2.2.2.2.2.2.2.2.2.2.1 x.2.2.2.2.2.2.2.2.2.2.2.1 x.2.2.2.2.2.2.2.2.2.2.2.2.1 x.2.2.2.2.2.2.2.2.2.2.2.2.2.1 x.2.2.2.2.2.2.2.2.2.2.2.2.2.2.1 x.2.2.2.2.2.2.2.2.2.2.2.2.2.2.2.1 x.2.2.2.2.2.2.2.2.2.2.2.2.2.2.2.2.1 x.2.2.2.2.2.2.2.2.2.2.2.2.2.2.2.2.2.1 x.2.2.2.2.2.2.2.2.2.2.2.2.2.2.2.2.2.2.1 x.2.2.2.2.2.2.2.2.2.2.2.2.2.2.2.2.2.2.2.1 x.2.2.2.2.2.2.2.2.2.2.2.2.2.2.2.2.2.2.2.2) fun x=>a25 x.1 x.2.1 x.2.2.1 x.2.2.2.1 x.2.2.2.2.1 x.2.2.2.2.2.1 x.2.2.2.2.2.2.1 x.2.2.2.2.2.2.2.1 x.2.2.2.2.2.2.2.2.1 x.2.2.2.2.2.2.2.2.2.1 x.2.2.2.2.2.2.2.2.2.2.1 x.2.2.2.2.2.2.2.2.2.2.2.1 x.2.2.2.2.2.2.2.2.2.2.2.2.1 x.2.2.2.2.2.2.2.2.2.2.2.2.2.1 x.2.2.2.2.2.2.2.2.2.2.2.2.2.2.1 x.2.2.2.2.2.2.2.2.2.2.2.2.2.2.2.1 x.2.2.2.2.2.2.2.2.2.2.2.2.2.2.2.2.1 x.2.2.2.2.2.2.2.2.2.2.2.2.2.2.2.2.2.1 x.2.2.2.2.2.2.2.2.2.2.2.2.2.2.2.2.2.2.1 x.2.2.2.2.2.2.2.2.2.2.2.2.2.2.2.2.2.2.2.1 x.2.2.2.2.2.2.2.2.2.2.2.2.2.2.2.2.2.2.2.2
@[go_sem] theorem aL3:aA3 (no_index a2Z) (no_index (a23 O Z aA aB aC aD aE aF aG aH aI aJ aK aL aM aN aO aP aQ aR aS))=some (a25 O Z aA aB aC aD aE aF aG aH aI aJ aK aL aM aN aO aP aQ aR aS):=pN (fun⟨a0,a1,a2,a3,a4,a5,a6,a7,a8,a9,a10,a11,a12,a13,a14,a15,a16,a17,a18,a19,a20⟩ ⟨b0,b1,b2,b3,b4,b5,b6,b7,b8,b9,b10,b11,b12,b13,b14,qI,b16,b17,b18,b19,b20⟩ h1 h2=>by cases h1;cases h2;rfl) (O,Z,aA,aB,aC,aD,aE,aF,aG,aH,aI,aJ,aK,aL,aM,aN,aO,aP,aQ,aR,aS)
end
@[reducible,go_sem] def a26:Nat×Sig:=(149,⟨[.p q7 [11,13],.p rA [3,6]],aA3,[(0,12,.m),(3,4,.r),(3,8,.m)],[1,2,4,5,6,7],none⟩)
theorem aA4:Env Tryz.prog [] (pE [GD,D4]):=⟨trivial,oZ a1S (oZ OR pP),pH⟩
theorem aA5:Env Tryz.prog [q8,AL,yX] (pE [GD,D4]):=⟨⟨qA,⟨CJ,⟨AK,trivial⟩⟩⟩,aA4.Γ,pH⟩
theorem aGK:pI Tryz.prog a26:=by
 refine pO aA4 Tryz.func149 (c:=_) rfl (N:=13) (by kernel_rfl) (ts:=[]) rfl (fun _ _=>rfl) ?_
 intro⟨O,Z,aA,aB,aC,aD,aE,aF,aG,aH,aI,aJ,aK,aL,aM,aN,aO,aP,aQ,aR,aS⟩ hs hrow
 dsimp only[a2Z,a23,a25,pK,enumH,pD,pG,pL,Nat.reduceAdd] at hs hrow⊢
 obtain⟨rfl,rfl,rfl,rfl,rfl,hz⟩:=hs
 obtain⟨rfl,_⟩:=hrow
 obtain⟨z0,hC0⟩:=Option.isSome_iff_exists.1 hz
 try rw[pW hC0]
 clear hz
 unfold xN at hC0
 obtain⟨aT,hv1,hw1,hC0⟩:=p9 hC0
 try simp only[go_sem] at hw1
 refine oS aA5 ?_ (hp:=by exact And.intro (by first|exact rfl|exact trivial) (And.intro (by first|exact rfl|exact trivial) (And.intro (by first|exact rfl|exact trivial) (And.intro (by first|exact rfl|exact trivial) (And.intro (by first|exact rfl|exact trivial) (And.intro (by first|exact rfl|exact trivial) (And.intro (by first|exact rfl|exact trivial) (And.intro (by first|exact rfl|exact trivial) (And.intro (by first|exact rfl|exact trivial) (And.intro (by first|exact rfl|exact trivial) (And.intro (by first|exact rfl|exact trivial) (And.intro (by first|exact rfl|exact trivial) ((p8 hv1)))))))))))))) (h:=by simp only[go_sem,hw1];rfl)
 obtain⟨aU,hv2,hw2,hC0⟩:=p9 hC0
 try simp only[go_sem] at hw2
 refine pF aA5 ?_ (hp:=by exact And.intro (by first|exact rfl|exact trivial) (And.intro (by first|exact rfl|exact trivial) (And.intro (by first|exact rfl|exact trivial) (And.intro (by first|exact rfl|exact trivial) (And.intro (by first|exact rfl|exact trivial) ((p8 hv2))))))) (h:=by simp only[go_sem,hw2];rfl)
 cases hC0
 exact⟨[(0,0),(1,1),(2,2),(3,3),(4,4),(5,5),(6,6),(7,7),(8,8)],by rfl,by rfl,by rfl⟩
attribute [irreducible] xN
end
end Go.Proofs.YtfchbnahjcdiiaaGreatDoor
namespace Go.Proofs.YtfchbnahjcdiiaaGreatDoor
open Vc
set_option maxRecDepth 100000
set_option maxHeartbeats 4000000
set_option linter.unusedSimpArgs false
set_option linter.unusedVariables false
noncomputable section
def xO (O:((List UInt8)×(Int×Unit))) (Z:q9) (aA:Int) (aB:Int) (aC:pZ) (aD:((List Int)×(Int×Unit))) (aE:(List UInt8)) (aF:(List UInt8)) (aG:(List UInt8)) (aH:(List (List UInt8))) (aI:(Int×((List p6)×Unit))) (aJ:Bool) (aK:(List ((List UInt8)×Bool))) (aL:(List (List UInt8))) (aM:(List ((List UInt8)×Bool))):Option (Int×Int×(List UInt8)×Int×Int×Int×Int×Int×(List UInt8)):=
 (vI O Z aA aB aC aD aE aF aG aH aI aJ aK aL aM).bind fun aN=>
 (uX (O.1,(aN.1,())) (aN.2.1,(aN.2.2.1,(aN.2.2.2.1,(aN.2.2.2.2.1,())))) aN.2.2.2.2.2.1 aN.2.2.2.2.2.2.1 (aC.1,(aC.2.1,(aC.2.2.1,(aC.2.2.2.1,())))) (aD.1,(aN.2.2.2.2.2.2.2,())) aK).bind fun aO=>
 some ((aO.1,aO.2.1,aO.2.2.1,aO.2.2.2.1,aO.2.2.2.2.1,aO.2.2.2.2.2.1,aO.2.2.2.2.2.2.1,aO.2.2.2.2.2.2.2,aN.2.2.1))
section
variable (O:((List UInt8)×(Int×Unit))) (Z:q9) (aA:Int) (aB:Int) (aC:pZ) (aD:((List Int)×(Int×Unit))) (aE:Nat) (aF:Nat) (aG:(List UInt8)) (aH:(List UInt8)) (aI:(List UInt8)) (aJ:(List (List UInt8))) (aK:Nat) (aL:(Int×((List p6)×Unit))) (aM:Bool) (aN:Nat) (aO:Nat) (aP:(List ((List UInt8)×Bool))) (aQ:(List (List UInt8))) (aR:Nat) (aS:(List ((List UInt8)×Bool)))
@[reducible] def a27:List Slot:=[(.val .ref (some (0,0)),none),(.val .ref (some (3,0)),none)]
@[reducible] def a28:List Blk:=[.cells q7 (O,(Z,(aA,(aB,(aC,((some 6),aD)))))) [(11,1),(13,2)],.grow 52 7 aE,.grow 3 1 aF,.cells rA ((aG,(aH,(aI,(aJ,((some (7,aK)),aL))))),(aM,((some 8),()))) [(3,4),(6,5)],.grow 9 1 aN,.grow 144 2 aO,.map .str .bool aP,.row 9 .str aQ aR,.map .str .bool aS]
@[go_sem] def a29:Ret:=⟨[aE=(List.length aC.2.2.2.1),aF=(List.length aD.1),aN=(List.length aJ),aO=(List.length aL.2.1),aK=aR,((xO O Z aA aB aC aD aG aH aI aJ aL aM aP aQ aS)).isSome=true],[],[.cells q7 ((O.1,((val (xO O Z aA aB aC aD aG aH aI aJ aL aM aP aQ aS)).1,())),(((val (xO O Z aA aB aC aD aG aH aI aJ aL aM aP aQ aS)).2.1,((val (xO O Z aA aB aC aD aG aH aI aJ aL aM aP aQ aS)).2.2.1,((val (xO O Z aA aB aC aD aG aH aI aJ aL aM aP aQ aS)).2.2.2.1,((val (xO O Z aA aB aC aD aG aH aI aJ aL aM aP aQ aS)).2.2.2.2.1,())))),((val (xO O Z aA aB aC aD aG aH aI aJ aL aM aP aQ aS)).2.2.2.2.2.1,((val (xO O Z aA aB aC aD aG aH aI aJ aL aM aP aQ aS)).2.2.2.2.2.2.1,((aC.1,(aC.2.1,(aC.2.2.1,(aC.2.2.2.1,())))),((some 6),(aD.1,((val (xO O Z aA aB aC aD aG aH aI aJ aL aM aP aQ aS)).2.2.2.2.2.2.2.1,())))))))) [(11,1),(13,2)],.grow 52 7 (List.length aC.2.2.2.1),.grow 3 1 (List.length aD.1),.cells rA ((aG,(aH,((val (xO O Z aA aB aC aD aG aH aI aJ aL aM aP aQ aS)).2.2.2.2.2.2.2.2,(aJ,((some (7,(List.length aQ))),(aL.1,(aL.2.1,()))))))),(aM,((some 8),()))) [(3,4),(6,5)],.grow 9 1 (List.length aJ),.grow 144 2 (List.length aL.2.1),.map .str .bool aP,.row 9 .str aQ (List.length aQ),.map .str .bool (rC .str .bool Z.2.1 true aS)]⟩
def aA6:List Slot→List Blk→Option Ret:=pM (V:=(((List UInt8)×(Int×Unit))×q9×Int×Int×pZ×((List Int)×(Int×Unit))×Nat×Nat×(List UInt8)×(List UInt8)×(List UInt8)×(List (List UInt8))×Nat×(Int×((List p6)×Unit))×Bool×Nat×Nat×(List ((List UInt8)×Bool))×(List (List UInt8))×Nat×(List ((List UInt8)×Bool)))) (fun x=>a27) (fun x=>a28 x.1 x.2.1 x.2.2.1 x.2.2.2.1 x.2.2.2.2.1 x.2.2.2.2.2.1 x.2.2.2.2.2.2.1 x.2.2.2.2.2.2.2.1 x.2.2.2.2.2.2.2.2.1 x.2.2.2.2.2.2.2.2.2.1 x.2.2.2.2.2.2.2.2.2.2.1 x.2.2.2.2.2.2.2.2.2.2.2.1 x.2.2.2.2.2.2.2.2.2.2.2.2.1 x.2.2.2.2.2.2.2.2.2.2.2.2.2.1 x.2.2.2.2.2.2.2.2.2.2.2.2.2.2.1 x.2.2.2.2.2.2.2.2.2.2.2.2.2.2.2.1 x.2.2.2.2.2.2.2.2.2.2.2.2.2.2.2.2.1 x.2.2.2.2.2.2.2.2.2.2.2.2.2.2.2.2.2.1 x.2.2.2.2.2.2.2.2.2.2.2.2.2.2.2.2.2.2.1 x.2.2.2.2.2.2.2.2.2.2.2.2.2.2.2.2.2.2.2.1 x.2.2.2.2.2.2.2.2.2.2.2.2.2.2.2.2.2.2.2.2) fun x=>a29 x.1 x.2.1 x.2.2.1 x.2.2.2.1 x.2.2.2.2.1 x.2.2.2.2.2.1 x.2.2.2.2.2.2.1 x.2.2.2.2.2.2.2.1 x.2.2.2.2.2.2.2.2.1 x.2.2.2.2.2.2.2.2.2.1 x.2.2.2.2.2.2.2.2.2.2.1 x.2.2.2.2.2.2.2.2.2.2.2.1 x.2.2.2.2.2.2.2.2.2.2.2.2.1 x.2.2.2.2.2.2.2.2.2.2.2.2.2.1 x.2.2.2.2.2.2.2.2.2.2.2.2.2.2.1 x.2.2.2.2.2.2.2.2.2.2.2.2.2.2.2.1 x.2.2.2.2.2.2.2.2.2.2.2.2.2.2.2.2.1 x.2.2.2.2.2.2.2.2.2.2.2.2.2.2.2.2.2.1 x.2.2.2.2.2.2.2.2.2.2.2.2.2.2.2.2.2.2.1 x.2.2.2.2.2.2.2.2.2.2.2.2.2.2.2.2.2.2.2.1 x.2.2.2.2.2.2.2.2.2.2.2.2.2.2.2.2.2.2.2.2
@[go_sem] theorem aL4:aA6 (no_index a27) (no_index (a28 O Z aA aB aC aD aE aF aG aH aI aJ aK aL aM aN aO aP aQ aR aS))=some (a29 O Z aA aB aC aD aE aF aG aH aI aJ aK aL aM aN aO aP aQ aR aS):=pN (fun⟨a0,a1,a2,a3,a4,a5,a6,a7,a8,a9,a10,a11,a12,a13,a14,a15,a16,a17,a18,a19,a20⟩ ⟨b0,b1,b2,b3,b4,b5,b6,b7,b8,b9,b10,b11,b12,b13,b14,qI,b16,b17,b18,b19,b20⟩ h1 h2=>by cases h1;cases h2;rfl) (O,Z,aA,aB,aC,aD,aE,aF,aG,aH,aI,aJ,aK,aL,aM,aN,aO,aP,aQ,aR,aS)
end
@[reducible,go_sem] def a3a:Nat×Sig:=(150,⟨[.p q7 [11,13],.p rA [3,6]],aA6,[(0,12,.m),(3,4,.r),(3,8,.m)],[1,2,4,5,6,7],none⟩)
theorem aA7:Env Tryz.prog [] (pE [GD,D4]):=⟨trivial,oZ a1S (oZ OR pP),pH⟩
theorem aA8:Env Tryz.prog [q8,AL,yX] (pE [GD,D4]):=⟨⟨qA,⟨CJ,⟨AK,trivial⟩⟩⟩,aA7.Γ,pH⟩
theorem aGL:pI Tryz.prog a3a:=by
 refine pO aA7 Tryz.func150 (c:=_) rfl (N:=13) (by kernel_rfl) (ts:=[]) rfl (fun _ _=>rfl) ?_
 intro⟨O,Z,aA,aB,aC,aD,aE,aF,aG,aH,aI,aJ,aK,aL,aM,aN,aO,aP,aQ,aR,aS⟩ hs hrow
 dsimp only[a27,a28,a29,pK,enumH,pD,pG,pL,Nat.reduceAdd] at hs hrow⊢
 obtain⟨rfl,rfl,rfl,rfl,rfl,hz⟩:=hs
 obtain⟨rfl,_⟩:=hrow
 obtain⟨z0,hC0⟩:=Option.isSome_iff_exists.1 hz
 try rw[pW hC0]
 clear hz
 unfold xO at hC0
 obtain⟨aT,hv1,hw1,hC0⟩:=p9 hC0
 try simp only[go_sem] at hw1
 refine oS aA8 ?_ (hp:=by exact And.intro (by first|exact rfl|exact trivial) (And.intro (by first|exact rfl|exact trivial) (And.intro (by first|exact rfl|exact trivial) (And.intro (by first|exact rfl|exact trivial) (And.intro (by first|exact rfl|exact trivial) (And.intro (by first|exact rfl|exact trivial) (And.intro (by first|exact rfl|exact trivial) (And.intro (by first|exact rfl|exact trivial) (And.intro (by first|exact rfl|exact trivial) (And.intro (by first|exact rfl|exact trivial) (And.intro (by first|exact rfl|exact trivial) (And.intro (by first|exact rfl|exact trivial) ((p8 hv1)))))))))))))) (h:=by simp only[go_sem,hw1];rfl)
 obtain⟨aU,hv2,hw2,hC0⟩:=p9 hC0
 try simp only[go_sem] at hw2
 refine pF aA8 ?_ (hp:=by exact And.intro (by first|exact rfl|exact trivial) (And.intro (by first|exact rfl|exact trivial) (And.intro (by first|exact rfl|exact trivial) (And.intro (by first|exact rfl|exact trivial) (And.intro (by first|exact rfl|exact trivial) ((p8 hv2))))))) (h:=by simp only[go_sem,hw2];rfl)
 cases hC0
 exact⟨[(0,0),(1,1),(2,2),(3,3),(4,4),(5,5),(6,6),(7,7),(8,8)],by rfl,by rfl,by rfl⟩
attribute [irreducible] xO
end
end Go.Proofs.YtfchbnahjcdiiaaGreatDoor
namespace Go.Proofs.YtfchbnahjcdiiaaGreatDoor
open Vc
set_option maxRecDepth 100000
set_option maxHeartbeats 4000000
set_option linter.unusedSimpArgs false
set_option linter.unusedVariables false
noncomputable section
def tJ (O:((List UInt8)×(Int×Unit))) (Z:pZ) (aA:((List Int)×(Int×Unit))) (aB:Bool) (aC:(List ((List UInt8)×Bool))):(Int×Int×(List UInt8)×Int×Int×Int×Int×Int×(List UInt8)×(List UInt8)×(List (List UInt8))×Int×(List p6)×(List (List UInt8))×(List ((List UInt8)×Bool)))→Option ((Int×Int×(List UInt8)×Int×Int×Int×Int×Int×(List UInt8)×(List UInt8)×(List (List UInt8))×Int×(List p6)×(List (List UInt8))×(List ((List UInt8)×Bool)))⊕(Int×Int×(List UInt8)×Int×Int×Int×Int×Int×(List UInt8)×(List UInt8)×(List (List UInt8))×Int×(List p6)×(List (List UInt8))×(List ((List UInt8)×Bool)))):=fun(aD,aE,aF,aG,aH,aI,aJ,aK,aL,aM,aN,aO,aP,aQ,aR)=>
 if ((decide (aJ=(0:Int)))&&(decide (aE=(2:Int))))=true then
  if (!(uH .str .fn (uE ([]:List UInt8) aL aM aN (aO,(aP,())) aB aQ aR) aF))=true then
   q6 (s9 (O.1,(aD,())) (aE,(aF,(aG,(aH,())))) aI aJ (Z.1,(Z.2.1,(Z.2.2.1,(Z.2.2.2.1,())))) (aA.1,(aK,())) (3:Int) aC) fun aS=>
   some (.inr (aD,aE,aF,aG,aH,aS.1,aS.2,aK,aL,aM,aN,aO,aP,aQ,aR))
  else
   q6 (qD .str .fn (uE ([]:List UInt8) aL aM aN (aO,(aP,())) aB aQ aR) aF) fun aT=>
   if aT=some 147 then
    (vJ (O.1,(aD,())) (aE,(aF,(aG,(aH,())))) aI aJ (Z.1,(Z.2.1,(Z.2.2.1,(Z.2.2.2.1,())))) (aA.1,(aK,())) ([]:List UInt8) aL aM aN (aO,(aP,())) aB aC aQ aR).bind fun aU=>
    some (.inl (aU.1,aU.2.1,aU.2.2.1,aU.2.2.2.1,aU.2.2.2.2.1,aU.2.2.2.2.2.1,aU.2.2.2.2.2.2.1,aU.2.2.2.2.2.2.2.1,aL,aM,aU.2.2.2.2.2.2.2.2,aO,aP,aQ,aR))
   else
   if aT=some 148 then
    (wX (O.1,(aD,())) (aE,(aF,(aG,(aH,())))) aI aJ (Z.1,(Z.2.1,(Z.2.2.1,(Z.2.2.2.1,())))) (aA.1,(aK,())) ([]:List UInt8) aL aM aN (aO,(aP,())) aB aC aQ aR).bind fun aV=>
    some (.inl (aV.1,aV.2.1,aV.2.2.1,aV.2.2.2.1,aV.2.2.2.2.1,aV.2.2.2.2.2.1,aV.2.2.2.2.2.2.1,aV.2.2.2.2.2.2.2.1,aL,aM,aN,aO,aV.2.2.2.2.2.2.2.2,aQ,aR))
   else
   if aT=some 149 then
    (xN (O.1,(aD,())) (aE,(aF,(aG,(aH,())))) aI aJ (Z.1,(Z.2.1,(Z.2.2.1,(Z.2.2.2.1,())))) (aA.1,(aK,())) ([]:List UInt8) aL aM aN (aO,(aP,())) aB aC aQ aR).bind fun aW=>
    some (.inl (aW.1,aW.2.1,aW.2.2.1,aW.2.2.2.1,aW.2.2.2.2.1,aW.2.2.2.2.2.1,aW.2.2.2.2.2.2.1,aW.2.2.2.2.2.2.2.1,aW.2.2.2.2.2.2.2.2,aM,aN,aO,aP,aQ,(rC .str .bool aF true aR)))
   else
   if aT=some 150 then
    (xO (O.1,(aD,())) (aE,(aF,(aG,(aH,())))) aI aJ (Z.1,(Z.2.1,(Z.2.2.1,(Z.2.2.2.1,())))) (aA.1,(aK,())) ([]:List UInt8) aL aM aN (aO,(aP,())) aB aC aQ aR).bind fun aX=>
    some (.inl (aX.1,aX.2.1,aX.2.2.1,aX.2.2.2.1,aX.2.2.2.2.1,aX.2.2.2.2.2.1,aX.2.2.2.2.2.2.1,aX.2.2.2.2.2.2.2.1,aL,aX.2.2.2.2.2.2.2.2,aN,aO,aP,aQ,(rC .str .bool aF true aR)))
   else
   if aT=some 151 then
    (xM (O.1,(aD,())) (aE,(aF,(aG,(aH,())))) aI aJ (Z.1,(Z.2.1,(Z.2.2.1,(Z.2.2.2.1,())))) (aA.1,(aK,())) ([]:List UInt8) aL aM aN (aO,(aP,())) aB aC aQ aR).bind fun aY=>
    some (.inl (aY.1,aY.2.1,aY.2.2.1,aY.2.2.2.1,aY.2.2.2.2.1,aY.2.2.2.2.2.1,aY.2.2.2.2.2.2.1,aY.2.2.2.2.2.2.2.1,aL,aM,aN,aY.2.2.2.2.2.2.2.2,aP,aQ,(rC .str .bool aF true aR)))
   else
   if aT=some 152 then
    (wA (O.1,(aD,())) (aE,(aF,(aG,(aH,())))) aI aJ (Z.1,(Z.2.1,(Z.2.2.1,(Z.2.2.2.1,())))) (aA.1,(aK,())) ([]:List UInt8) aL aM aN (aO,(aP,())) aB aC aQ aR).bind fun aZ=>
    some (.inl (aZ.1,aZ.2.1,aZ.2.2.1,aZ.2.2.2.1,aZ.2.2.2.2.1,aZ.2.2.2.2.2.1,aZ.2.2.2.2.2.2.1,aZ.2.2.2.2.2.2.2.1,aL,aM,aN,aO,aP,aZ.2.2.2.2.2.2.2.2,aR))
   else
    none
 else
  some (.inr (aD,aE,aF,aG,aH,aI,aJ,aK,aL,aM,aN,aO,aP,aQ,aR))
def tD (O:((List UInt8)×(Int×Unit))) (Z:q9) (aA:Int) (aB:Int) (aC:pZ) (aD:((List Int)×(Int×Unit))) (aE:Bool) (aF:(List ((List UInt8)×Bool))):Option ((List UInt8)×(List UInt8)×(List (List UInt8))×(List (List UInt8))×Int×(List p6)×Int×Int×(List UInt8)×Int×Int×Int×Int×(List Int)×Int):=
 (uY O Z aA aB aC aD (3:Int) ([123]:List UInt8) aF).bind fun aG=>
 qE (pT (tJ O aC aD aE aF) (aG.1,aG.2.1,aG.2.2.1,aG.2.2.2.1,aG.2.2.2.2.1,aG.2.2.2.2.2.1,aG.2.2.2.2.2.2.1,aG.2.2.2.2.2.2.2,([]:List UInt8),([]:List UInt8),([]:List (List UInt8)),(0:Int),([]:List p6),([]:List (List UInt8)),([]:List ((List UInt8)×Bool)))) fun(aH,aI,aJ,aK,aL,aM,aN,aO,aP,aQ,aR,aS,aT,aU,aV)=>
 (uY (O.1,(aH,())) (aI,(aJ,(aK,(aL,())))) aM aN (aC.1,(aC.2.1,(aC.2.2.1,(aC.2.2.2.1,())))) (aD.1,(aO,())) (3:Int) ([125]:List UInt8) aF).bind fun aW=>
 if (List.length aU)<4611686018427387904 then
  if (List.length aD.1+List.length ([aW.2.2.2.2.2.2.2]:List Int))*8≤140737488355328 then
   some ((aP,aQ,aR,(tO aU),aS,aT,aW.1,aW.2.1,aW.2.2.1,aW.2.2.2.1,aW.2.2.2.2.1,aW.2.2.2.2.2.1,aW.2.2.2.2.2.2.1,(aD.1++([aW.2.2.2.2.2.2.2]:List Int)),aW.2.2.2.2.2.2.2))
  else none
 else none
section
variable (O:Bool) (Z:((List UInt8)×(Int×Unit))) (aA:q9) (aB:Int) (aC:Int) (aD:pZ) (aE:((List Int)×(Int×Unit))) (aF:Nat) (aG:Nat) (aH:(List ((List UInt8)×Bool)))
@[reducible] def a3b:List Slot:=[(.val .ref (some (0,0)),none),(.val .bool O,none)]
@[reducible] def a3c:List Blk:=[.cells q7 (Z,(aA,(aB,(aC,(aD,((some 3),aE)))))) [(11,1),(13,2)],.grow 52 7 aF,.grow 3 1 aG,.map .str .bool aH]
@[go_sem] def a3d:Ret:=⟨[aF=(List.length aD.2.2.2.1),aG=(List.length aE.1),((tD Z aA aB aC aD aE O aH)).isSome=true],[(.val qH (([]:List UInt8),((val (tD Z aA aB aC aD aE O aH)).1,((val (tD Z aA aB aC aD aE O aH)).2.1,((val (tD Z aA aB aC aD aE O aH)).2.2.1,((val (tD Z aA aB aC aD aE O aH)).2.2.2.1,((val (tD Z aA aB aC aD aE O aH)).2.2.2.2.1,((val (tD Z aA aB aC aD aE O aH)).2.2.2.2.2.1,()))))))),none)],[.cells q7 ((Z.1,((val (tD Z aA aB aC aD aE O aH)).2.2.2.2.2.2.1,())),(((val (tD Z aA aB aC aD aE O aH)).2.2.2.2.2.2.2.1,((val (tD Z aA aB aC aD aE O aH)).2.2.2.2.2.2.2.2.1,((val (tD Z aA aB aC aD aE O aH)).2.2.2.2.2.2.2.2.2.1,((val (tD Z aA aB aC aD aE O aH)).2.2.2.2.2.2.2.2.2.2.1,())))),((val (tD Z aA aB aC aD aE O aH)).2.2.2.2.2.2.2.2.2.2.2.1,((val (tD Z aA aB aC aD aE O aH)).2.2.2.2.2.2.2.2.2.2.2.2.1,((aD.1,(aD.2.1,(aD.2.2.1,(aD.2.2.2.1,())))),((some 3),((val (tD Z aA aB aC aD aE O aH)).2.2.2.2.2.2.2.2.2.2.2.2.2.1,((val (tD Z aA aB aC aD aE O aH)).2.2.2.2.2.2.2.2.2.2.2.2.2.2,())))))))) [(11,1),(13,2)],.grow 52 7 (List.length aD.2.2.2.1),.grow 3 1 (List.length ((val (tD Z aA aB aC aD aE O aH)).2.2.2.2.2.2.2.2.2.2.2.2.2.1)),.map .str .bool aH]⟩
def aA9:List Slot→List Blk→Option Ret:=pM (V:=(Bool×((List UInt8)×(Int×Unit))×q9×Int×Int×pZ×((List Int)×(Int×Unit))×Nat×Nat×(List ((List UInt8)×Bool)))) (fun x=>a3b x.1) (fun x=>a3c x.2.1 x.2.2.1 x.2.2.2.1 x.2.2.2.2.1 x.2.2.2.2.2.1 x.2.2.2.2.2.2.1 x.2.2.2.2.2.2.2.1 x.2.2.2.2.2.2.2.2.1 x.2.2.2.2.2.2.2.2.2) fun x=>a3d x.1 x.2.1 x.2.2.1 x.2.2.2.1 x.2.2.2.2.1 x.2.2.2.2.2.1 x.2.2.2.2.2.2.1 x.2.2.2.2.2.2.2.1 x.2.2.2.2.2.2.2.2.1 x.2.2.2.2.2.2.2.2.2
@[go_sem] theorem aL5:aA9 (no_index (a3b O)) (no_index (a3c Z aA aB aC aD aE aF aG aH))=some (a3d O Z aA aB aC aD aE aF aG aH):=pN (fun⟨a0,a1,a2,a3,a4,a5,a6,a7,a8,a9⟩ ⟨b0,b1,b2,b3,b4,b5,b6,b7,b8,b9⟩ h1 h2=>by cases h1;cases h2;rfl) (O,Z,aA,aB,aC,aD,aE,aF,aG,aH)
end
@[reducible,go_sem] def a3e:Nat×Sig:=(73,⟨[.p q7 [11,13],.v],aA9,[(0,12,.m)],[1,3],none⟩)
theorem OV:Env Tryz.prog [xH,TB] (pE [L9,VC,wN,a2R,a2Y,a26,a3a,a2I,a2N,TE]):=⟨⟨yW,⟨aFm,trivial⟩⟩,oZ a2u (oZ aFF (oZ BH (oZ aGH (oZ aGJ (oZ aGK (oZ aGL (oZ aGF (oZ aGG (oZ aFs pP))))))))),pH⟩
theorem xP:Env Tryz.prog [sE,BE,q8,vZ,w4,AL,wM,FU,CI,vE,yX,O7,O8] (pE [L9,VC,wN,a2R,a2Y,a26,a3a,a2I,a2N,TE]):=⟨⟨sL,⟨DU,⟨qA,⟨xG,⟨xI,⟨CJ,⟨yC,⟨KE,⟨FV,⟨wL,⟨AK,⟨a68,⟨a69,trivial⟩⟩⟩⟩⟩⟩⟩⟩⟩⟩⟩⟩⟩,OV.Γ,pH⟩
theorem aBa:pI Tryz.prog a3e:=by
 refine pO OV Tryz.func73 (c:=_) rfl (N:=71) (by kernel_rfl) (ts:=[(4,some 52)]) rfl (fun _ _=>rfl) ?_
 intro⟨O,Z,aA,aB,aC,aD,aE,aF,aG,aH⟩ hs hrow
 dsimp only[a3b,a3c,a3d,pK,enumH,pD,pG,pL,Nat.reduceAdd] at hs hrow⊢
 obtain⟨rfl,rfl,hz⟩:=hs
 obtain⟨z0,hC0⟩:=Option.isSome_iff_exists.1 hz
 try rw[pW hC0]
 clear hz
 unfold tD at hC0
 refine oS OV ?_
 refine oS xP ?_
 obtain⟨aI,hv1,hw1,hC0⟩:=p9 hC0
 try simp only[go_sem] at hw1
 refine oS xP ?_ (hp:=by exact And.intro (by first|exact rfl|exact trivial) (And.intro (by first|exact rfl|exact trivial) (And.intro (by first|exact rfl|exact trivial) (And.intro (by first|exact rfl|exact trivial) (And.intro (by first|exact rfl|exact trivial) ((p8 hv1))))))) (h:=by simp only[go_sem,hw1];rfl)
 refine p4 (pU ?_)
 obtain⟨y1,hy1,hC0⟩:=oY hC0
 refine rI 0 (fun s=>s=(fun x=>⟨[(0,(.val .ref (some (0,0)),none)),(4,(.val .ref (some (4,0)),none)),(5,(.val .ref (some (5,0)),none))],[(0,.cells q7 ((Z.1,(x.1,())),((x.2.1,(x.2.2.1,(x.2.2.2.1,(x.2.2.2.2.1,())))),(x.2.2.2.2.2.1,(x.2.2.2.2.2.2.1,((aD.1,(aD.2.1,(aD.2.2.1,(aD.2.2.2.1,())))),((some 3),(aE.1,(x.2.2.2.2.2.2.2.1,())))))))) [(11,1),(13,2)]),(1,.grow 52 7 (List.length aD.2.2.2.1)),(2,.grow 3 1 (List.length aE.1)),(3,.map .str .bool aH),(4,.cells qH (([]:List UInt8),(([]:List UInt8),(([]:List UInt8),(([]:List (List UInt8)),(([]:List (List UInt8)),((0:Int),(([]:List p6),()))))))) [(3,6),(4,7),(6,8)]),(5,.cells rA ((([]:List UInt8),(x.2.2.2.2.2.2.2.2.1,(x.2.2.2.2.2.2.2.2.2.1,(x.2.2.2.2.2.2.2.2.2.2.1,((some (9,(List.length x.2.2.2.2.2.2.2.2.2.2.2.2.2.1))),(x.2.2.2.2.2.2.2.2.2.2.2.1,(x.2.2.2.2.2.2.2.2.2.2.2.2.1,()))))))),(O,((some 10),()))) [(3,11),(6,12)]),(6,.grow 9 1 (List.length ([]:List (List UInt8)))),(7,.grow 9 1 (List.length ([]:List (List UInt8)))),(8,.grow 144 2 (List.length ([]:List p6))),(9,.row 9 .str x.2.2.2.2.2.2.2.2.2.2.2.2.2.1 (List.length x.2.2.2.2.2.2.2.2.2.2.2.2.2.1)),(10,.map .str .bool x.2.2.2.2.2.2.2.2.2.2.2.2.2.2),(11,.grow 9 1 (List.length x.2.2.2.2.2.2.2.2.2.2.1)),(12,.grow 144 2 (List.length x.2.2.2.2.2.2.2.2.2.2.2.2.1))],13,71,4⟩) y1) ?_ ?_
 ·refine rH hy1 (fun x=>⟨[(0,(.val .ref (some (0,0)),none)),(4,(.val .ref (some (4,0)),none)),(5,(.val .ref (some (5,0)),none))],[(0,.cells q7 ((Z.1,(x.1,())),((x.2.1,(x.2.2.1,(x.2.2.2.1,(x.2.2.2.2.1,())))),(x.2.2.2.2.2.1,(x.2.2.2.2.2.2.1,((aD.1,(aD.2.1,(aD.2.2.1,(aD.2.2.2.1,())))),((some 3),(aE.1,(x.2.2.2.2.2.2.2.1,())))))))) [(11,1),(13,2)]),(1,.grow 52 7 (List.length aD.2.2.2.1)),(2,.grow 3 1 (List.length aE.1)),(3,.map .str .bool aH),(4,.cells qH (([]:List UInt8),(([]:List UInt8),(([]:List UInt8),(([]:List (List UInt8)),(([]:List (List UInt8)),((0:Int),(([]:List p6),()))))))) [(3,6),(4,7),(6,8)]),(5,.cells rA ((([]:List UInt8),(x.2.2.2.2.2.2.2.2.1,(x.2.2.2.2.2.2.2.2.2.1,(x.2.2.2.2.2.2.2.2.2.2.1,((some (9,(List.length x.2.2.2.2.2.2.2.2.2.2.2.2.2.1))),(x.2.2.2.2.2.2.2.2.2.2.2.1,(x.2.2.2.2.2.2.2.2.2.2.2.2.1,()))))))),(O,((some 10),()))) [(3,11),(6,12)]),(6,.grow 9 1 (List.length ([]:List (List UInt8)))),(7,.grow 9 1 (List.length ([]:List (List UInt8)))),(8,.grow 144 2 (List.length ([]:List p6))),(9,.row 9 .str x.2.2.2.2.2.2.2.2.2.2.2.2.2.1 (List.length x.2.2.2.2.2.2.2.2.2.2.2.2.2.1)),(10,.map .str .bool x.2.2.2.2.2.2.2.2.2.2.2.2.2.2),(11,.grow 9 1 (List.length x.2.2.2.2.2.2.2.2.2.2.1)),(12,.grow 144 2 (List.length x.2.2.2.2.2.2.2.2.2.2.2.2.1))],13,71,4⟩) ⟨[0,4,5],[(0,0),(1,1),(2,2),(3,3),(4,4),(5,68),(6,5),(7,6),(8,7),(9,71),(10,36),(11,69),(12,70)]⟩ (by rfl) ?_
  intro x1 w1 n1 hC1 hN1
  obtain⟨aJ,aK,aL,aM,aN,aO,aP,aQ,aR,aS,aT,aU,aV,aW,aX⟩:=x1
  unfold tJ at hC1
  dsimp only at hC1⊢
  refine p4 ?_
  refine oS xP ?_ (hp:=by exact And.intro (fun hh=>hh) (And.intro (fun hh=>hh) (And.intro (fun hh=>hh) (And.intro (fun hh=>hh) (And.intro (fun hh=>hh) ((fun hh=>pY hh)))))))
  refine oX hC1 (fun hC1 hc1=> ?_) (fun hC1 hc1=> ?_)
  ·refine p7 (oW (pU ?_))
   refine qR xP ?_ (hp:=by exact And.intro (by first|exact rfl|exact trivial) (And.intro (by first|exact rfl|exact trivial) (And.intro (by first|exact rfl|exact trivial) (And.intro (by first|exact rfl|exact trivial) (And.intro (by first|exact rfl|exact trivial) (And.intro (by first|exact rfl|exact trivial) (And.intro (by first|exact rfl|exact trivial) ((by first|exact rfl|exact trivial)))))))))
   refine p4 ?_
   refine oS xP ?_
   refine oX hC1 (fun hC1 hc2=> ?_) (fun hC1 hc2=> ?_)
   ·obtain⟨aY,hw_357,hC1⟩:=rJ hC1
    try simp only[go_sem] at hw_357
    refine oS xP ?_ (hp:=by exact And.intro (by first|exact rfl|exact trivial) (And.intro (by first|exact rfl|exact trivial) (And.intro (by first|exact rfl|exact trivial) (And.intro (by first|exact rfl|exact trivial) ((by first|exact rfl|exact trivial)))))) (h:=by simp only[go_sem,hw_357];rfl)
    refine qY (r8 (SQ (by decide) (r5 ?_)))
    cases hC1
    cases hN1
    exact qZ ⟨⟨[0,4,5],[(0,0),(1,1),(2,2),(3,3),(4,4),(5,5),(6,6),(7,7),(8,8),(9,9),(10,10),(11,11),(12,12)]⟩,by rfl⟩
   ·refine p7 (oW ?_)
    replace hC1:=aEP hC1
    generalize (qD .str .fn (uE ([]:List UInt8) aR aS aT (aU,(aV,())) O aW aX) aL)=aZ at hC1⊢
    by_cases hfn:aZ=some 147
    ·subst hfn
     rw[if_pos rfl] at hC1
     obtain⟨bA,hv2,hw2,hC1⟩:=p9 hC1
     try simp only[go_sem] at hw2
     refine pF xP ?_ (hp:=by exact And.intro (by first|exact rfl|exact trivial) (And.intro (by first|exact rfl|exact trivial) (And.intro (by first|exact rfl|exact trivial) (And.intro (by first|exact rfl|exact trivial) (And.intro (by first|exact rfl|exact trivial) (And.intro (by first|exact rfl|exact trivial) (And.intro (by first|exact rfl|exact trivial) (And.intro (by first|exact rfl|exact trivial) (And.intro (by first|exact rfl|exact trivial) (And.intro (by first|exact rfl|exact trivial) (And.intro (by first|exact rfl|exact trivial) ((p8 hv2))))))))))))) (h:=by simp only[go_sem,hw2];rfl)
     refine pB ?_
     cases hC1
     exact qG ⟨⟨[0,4,5],[(0,0),(1,1),(2,2),(3,3),(4,4),(5,5),(6,6),(7,7),(8,8),(9,9),(10,10),(11,11),(12,12)]⟩,_,by rfl,hN1⟩
    rw[if_neg hfn] at hC1
    clear hfn
    by_cases hfn:aZ=some 148
    ·subst hfn
     rw[if_pos rfl] at hC1
     obtain⟨bB,hv3,hw3,hC1⟩:=p9 hC1
     try simp only[go_sem] at hw3
     refine pF xP ?_ (hp:=by exact And.intro (by first|exact rfl|exact trivial) (And.intro (by first|exact rfl|exact trivial) (And.intro (by first|exact rfl|exact trivial) (And.intro (by first|exact rfl|exact trivial) (And.intro (by first|exact rfl|exact trivial) (And.intro (by first|exact rfl|exact trivial) (And.intro (by first|exact rfl|exact trivial) (And.intro (by first|exact rfl|exact trivial) (And.intro (by first|exact rfl|exact trivial) (And.intro (by first|exact rfl|exact trivial) (And.intro (by first|exact rfl|exact trivial) (And.intro (by first|exact rfl|exact trivial) ((p8 hv3)))))))))))))) (h:=by simp only[go_sem,hw3];rfl)
     refine pB ?_
     cases hC1
     exact qG ⟨⟨[0,4,5],[(0,0),(1,1),(2,2),(3,3),(4,4),(5,5),(6,6),(7,7),(8,8),(9,9),(10,10),(11,11),(12,518)]⟩,_,by rfl,hN1⟩
    rw[if_neg hfn] at hC1
    clear hfn
    by_cases hfn:aZ=some 149
    ·subst hfn
     rw[if_pos rfl] at hC1
     obtain⟨bC,hv4,hw4,hC1⟩:=p9 hC1
     try simp only[go_sem] at hw4
     refine pF xP ?_ (hp:=by exact And.intro (by first|exact rfl|exact trivial) (And.intro (by first|exact rfl|exact trivial) (And.intro (by first|exact rfl|exact trivial) (And.intro (by first|exact rfl|exact trivial) (And.intro (by first|exact rfl|exact trivial) (And.intro (by first|exact rfl|exact trivial) (And.intro (by first|exact rfl|exact trivial) (And.intro (by first|exact rfl|exact trivial) (And.intro (by first|exact rfl|exact trivial) (And.intro (by first|exact rfl|exact trivial) (And.intro (by first|exact rfl|exact trivial) ((p8 hv4))))))))))))) (h:=by simp only[go_sem,hw4];rfl)
     refine pB ?_
     cases hC1
     exact qG ⟨⟨[0,4,5],[(0,0),(1,1),(2,2),(3,3),(4,4),(5,5),(6,6),(7,7),(8,8),(9,9),(10,10),(11,11),(12,12)]⟩,_,by rfl,hN1⟩
    rw[if_neg hfn] at hC1
    clear hfn
    by_cases hfn:aZ=some 150
    ·subst hfn
     rw[if_pos rfl] at hC1
     obtain⟨bD,hv5,hw5,hC1⟩:=p9 hC1
     try simp only[go_sem] at hw5
     refine pF xP ?_ (hp:=by exact And.intro (by first|exact rfl|exact trivial) (And.intro (by first|exact rfl|exact trivial) (And.intro (by first|exact rfl|exact trivial) (And.intro (by first|exact rfl|exact trivial) (And.intro (by first|exact rfl|exact trivial) (And.intro (by first|exact rfl|exact trivial) (And.intro (by first|exact rfl|exact trivial) (And.intro (by first|exact rfl|exact trivial) (And.intro (by first|exact rfl|exact trivial) (And.intro (by first|exact rfl|exact trivial) (And.intro (by first|exact rfl|exact trivial) ((p8 hv5))))))))))))) (h:=by simp only[go_sem,hw5];rfl)
     refine pB ?_
     cases hC1
     exact qG ⟨⟨[0,4,5],[(0,0),(1,1),(2,2),(3,3),(4,4),(5,5),(6,6),(7,7),(8,8),(9,9),(10,10),(11,11),(12,12)]⟩,_,by rfl,hN1⟩
    rw[if_neg hfn] at hC1
    clear hfn
    by_cases hfn:aZ=some 151
    ·subst hfn
     rw[if_pos rfl] at hC1
     obtain⟨bE,hv6,hw6,hC1⟩:=p9 hC1
     try simp only[go_sem] at hw6
     refine pF xP ?_ (hp:=by exact And.intro (by first|exact rfl|exact trivial) (And.intro (by first|exact rfl|exact trivial) (And.intro (by first|exact rfl|exact trivial) (And.intro (by first|exact rfl|exact trivial) (And.intro (by first|exact rfl|exact trivial) (And.intro (by first|exact rfl|exact trivial) (And.intro (by first|exact rfl|exact trivial) (And.intro (by first|exact rfl|exact trivial) (And.intro (by first|exact rfl|exact trivial) (And.intro (by first|exact rfl|exact trivial) (And.intro (by first|exact rfl|exact trivial) ((p8 hv6))))))))))))) (h:=by simp only[go_sem,hw6];rfl)
     refine pB ?_
     cases hC1
     exact qG ⟨⟨[0,4,5],[(0,0),(1,1),(2,2),(3,3),(4,4),(5,5),(6,6),(7,7),(8,8),(9,9),(10,10),(11,11),(12,12)]⟩,_,by rfl,hN1⟩
    rw[if_neg hfn] at hC1
    clear hfn
    by_cases hfn:aZ=some 152
    ·subst hfn
     rw[if_pos rfl] at hC1
     obtain⟨bF,hv7,hw7,hC1⟩:=p9 hC1
     try simp only[go_sem] at hw7
     refine pF xP ?_ (hp:=by exact And.intro (by first|exact rfl|exact trivial) (And.intro (by first|exact rfl|exact trivial) (And.intro (by first|exact rfl|exact trivial) (And.intro (by first|exact rfl|exact trivial) (And.intro (by first|exact rfl|exact trivial) (And.intro (by first|exact rfl|exact trivial) (And.intro (by first|exact rfl|exact trivial) (And.intro (by first|exact rfl|exact trivial) (And.intro (by first|exact rfl|exact trivial) (And.intro (by first|exact rfl|exact trivial) (And.intro (by first|exact rfl|exact trivial) ((p8 hv7))))))))))))) (h:=by simp only[go_sem,hw7];rfl)
     refine pB ?_
     cases hC1
     exact qG ⟨⟨[0,4,5],[(0,0),(1,1),(2,2),(3,3),(4,4),(5,5),(6,6),(7,7),(8,8),(9,9),(10,10),(11,11),(12,12)]⟩,_,by rfl,hN1⟩
    rw[if_neg hfn] at hC1
    clear hfn
    cases hC1
  ·refine qY (r8 (r5 ?_))
   cases hC1
   cases hN1
   exact qZ ⟨⟨[0,4,5],[(0,0),(1,1),(2,2),(3,3),(4,4),(5,5),(6,6),(7,7),(8,8),(9,9),(10,10),(11,11),(12,12)]⟩,by rfl⟩
 ·rintro _ rfl
  obtain⟨bG,bH,bI,bJ,bK,bM,bN,bO,bP,bQ,bR,bS,bT,bU,bV⟩:=y1
  dsimp only at hC0⊢
  refine rF (oW ?_)
  obtain⟨bW,hv8,hw8,hC0⟩:=p9 hC0
  try simp only[go_sem] at hw8
  refine oS xP ?_ (hp:=by exact And.intro (by first|exact rfl|exact trivial) (And.intro (by first|exact rfl|exact trivial) (And.intro (by first|exact rfl|exact trivial) (And.intro (by first|exact rfl|exact trivial) (And.intro (by first|exact rfl|exact trivial) ((p8 hv8))))))) (h:=by simp only[go_sem,hw8];rfl)
  obtain⟨hg9,hC0⟩:=oU hC0
  refine oS xP ?_ (hp:=by exact And.intro (by first|exact rfl|exact trivial) (hg9))
  obtain⟨hg10,hC0⟩:=oU hC0
  refine qR xP ?_ (hp:=by exact And.intro (by first|exact rfl|exact trivial) (hg10))
  refine p4 ?_
  refine aEI 9 5 rfl rfl (Nat.le_of_ble_eq_true rfl) (by repeat' (first|exact trivial|apply And.intro|exact(fun _=>rfl) |exact(fun h=>absurd h (by decide)))) (by repeat' (first|exact trivial|apply And.intro|exact(fun _=>rfl) |exact(fun h=>absurd h (by decide)))) (u':=a66) (y':=((([]:List UInt8),(bP,(bQ,(bR,((tO bU),(bS,(bT,()))))))),(O,((some 10),())))) (by first|rfl|kernel_rfl) ?_
  refine pF OV ?_
  refine oW (oV ?_)
  cases hC0
  exact⟨[(0,0),(1,1),(2,2),(3,3)],by rfl,by rfl,by rfl⟩
attribute [irreducible] tD
end
end Go.Proofs.YtfchbnahjcdiiaaGreatDoor
